/- Texts of one proof, one behind the other. No condition. -/
import Derived.Test.YtkppgepljjgjhaaKTagmemEitherRc1
import Derived.Test.YtkppgepljjgjhaaKTagmemEitherMc1
import Derived.Sort.LotA
import Derived.BigGuard
import Derived.BigCall
import Derived.CellFam
import Derived.Deep.Draws
import Derived.Deep.QuietTactic
import Derived.BigQuiet
import Derived.BigRegion
import Derived.LoopTactic
namespace Go.Proofs.Ytkppgepljjgjhaa.P
open Go.RowKit Go.Proofs.YtkppgepljjgjhaaW.PrintWords Go.Proofs.YtkppgepljjgjhaaW.PrintLast Go.Proofs.YtkppgepljjgjhaaW.PrintMore
set_option linter.unusedVariables false
set_option linter.unusedSimpArgs false
theorem drop_T53 {l : List S53} {j : Nat} (h : j < l.length) : l.drop j = rd_T53 l (j : Int) :: l.drop (j + 1) ∧ rd_T53 l (j : Int) ∈ l := by
  have e : rd_T53 l (j : Int) = l[j] := by simp [rd_T53, List.getD_eq_getElem?_getD, List.getElem?_eq_getElem h]
  exact ⟨by rw [List.drop_eq_getElem_cons h, e], by rw [e]; exact List.getElem_mem h⟩
theorem playP_step {m : Mm} {r : Rm} {l : List S53} {j : Nat} (h : j < l.length) : playP m r (l.drop j) = if (oneP m r (rd_T53 l (j : Int))).1 = true then playP (oneP m r (rd_T53 l (j : Int))).2.1 (oneP m r (rd_T53 l (j : Int))).2.2 (l.drop (j + 1)) else (false, (oneP m r (rd_T53 l (j : Int))).2.1, (oneP m r (rd_T53 l (j : Int))).2.2) := by
  rw [(drop_T53 h).1]
  rfl
section
variable {w w0 : World} {g gm : Nat} {L : List Lp} {c : Nat} {m : Mm} {gr : Nat} {K : Nat → Prop} {r : Rm}
set_option maxHeartbeats 16000000 in
set_option maxRecDepth 100000 in
theorem play_calls (T : Two w0.heap.size w g gm L c m gr K r) (hw : Below w0.heap.size w0 w) (hm : MOk m) (hr : r.InvN 0) (A : Option Addr) (cx : Nat) (l : List S53) (hl : l.length ≤ 60) (hx : ∀ x ∈ l, OpOk2 x) (hC : Kd.C k53 w0 A l.length l) :
    Calls Try.prog 13 #[.pointer (some ⟨g, 0, none⟩), .pointer (some ⟨gr, 0, none⟩), .slice A l.length cx] w fun e w' => e = .returned (.bool (playP m r l).1) ∧ (∃ L' c' K', Two w0.heap.size w' g gm L' c' (playP m r l).2.1 gr K' (playP m r l).2.2) ∧ Below w0.heap.size w0 w' := by
  obtain ⟨P, hP⟩ : ∃ P, P = playP m r l := ⟨_, rfl⟩
  rw [← hP]
  have HP := Aside0.mk (show P = playP m r (l.drop 0) from hP)
  have HX := Aside0.mk hx
  have HC := Aside0.mk hC
  have HW := Aside0.mk hw
  have HT := Aside0.mk T
  have HI := Aside0.mk (And.intro hm hr)
  clear hP hx hC hw T hm hr
  go_enter Try.func13, Try.ntmps13
  go_wp2
  go_loopw [7] (fun v7 wr => ∃ (j : Nat) (mj : Mm) (rj : Rm) (Lj : List Lp) (cj : Nat) (Kj : Nat → Prop), v7 = .int .i64 j ∧ j ≤ l.length ∧ Aside0 (Two w0.heap.size wr g gm Lj cj mj gr Kj rj) ∧ Aside0 (Below w0.heap.size w0 wr) ∧ Aside0 (MOk mj ∧ rj.InvN j) ∧ Aside0 (P = playP mj rj (l.drop j))) (fun v7 _ => l.length - (intOf v7).toNat)
  case atStart => exact ⟨0, m, r, L, c, K, rfl, by omega, HT, HW, HI, HP⟩
  case round =>
    clear HW HT HI HP
    obtain ⟨j, mj, rj, Lj, cj, Kj, rfl, hj, HT, HB, HI, HP⟩ := hrel
    by_cases hlt : j < l.length
    · have W3 := next64 hlt (by omega)
      obtain ⟨ad, A10, c10, eA, x0, x1, x2, x3, x4, x5, x6, x7, x8, x9, x10, l10, g10⟩ := at_T53 HC.out (j : Int) (by omega) (by omega)
      cases eA
      have ho := HX.out _ (drop_T53 hlt).2
      have hs := playP_step (m := mj) (r := rj) hlt
      rw [← HP.out] at hs
      rw [Int.toNat_natCast] at x0 x1 x2 x3 x4 x5 x6 x7 x8 x9 x10
      replace x0 := pw_cell_below HB.out x0
      replace x1 := pw_cell_below HB.out x1
      replace x2 := pw_cell_below HB.out x2
      replace x3 := pw_cell_below HB.out x3
      replace x4 := pw_cell_below HB.out x4
      replace x5 := pw_cell_below HB.out x5
      replace x6 := pw_cell_below HB.out x6
      replace x7 := pw_cell_below HB.out x7
      replace x8 := pw_cell_below HB.out x8
      replace x9 := pw_cell_below HB.out x9
      replace x10 := pw_cell_below HB.out x10
      have ON := Aside0.mk (one_calls HT.out HB.out HI.out.1.wf (HI.out.2.inv (by omega)) (rd_T53 l (j : Int)) ho.o A10 c10 g10)
      have KP := Aside0.mk (oneP_keeps HI.out.1 HI.out.2 ho)
      clear ho l10 g10
      generalize rd_T53 l (j : Int) = x at x0 x1 x2 x3 x4 x5 x6 x7 x8 x9 x10 ON KP hs
      obtain ⟨y0, y1, y2, y3, ⟨z0, z1, z2, z3, z4, z5⟩, y5⟩ := x
      simp only at x0 x1 x2 x3 x4 x5 x6 x7 x8 x9 x10
      obtain ⟨Q, hQ⟩ : ∃ Q, Q = oneP mj rj ⟨y0, y1, y2, y3, ⟨z0, z1, z2, z3, z4, z5⟩, y5⟩ := ⟨_, rfl⟩
      rw [← hQ] at ON KP hs
      clear hQ
      obtain ⟨b, m2, r2⟩ := Q
      simp only at ON KP hs
      cases b with
      | true =>
        rw [if_pos rfl] at hs
        replace hs := Aside0.mk hs
        go_wp2_with (first | (go_at_call 29; (with_reducible refine ON.out.mono ?_); rintro e W2 ⟨rfl, ⟨L2, cl2, K2, hT⟩, hb⟩; have HT2 := Aside0.mk hT; have HB2 := Aside0.mk hb; clear hT hb) | fail)
        exact ⟨⟨j + 1, m2, r2, L2, cl2, K2, by first | rfl | rw [W3], hlt, HT2, HB2, KP, hs⟩, by first | exact round_meas hlt | (rw [W3]; exact round_meas hlt)⟩
      | false =>
        rw [if_neg (by simp)] at hs
        replace hs := Aside0.mk hs
        go_wp2_with (first | (go_at_call 29; (with_reducible refine ON.out.mono ?_); rintro e W2 ⟨rfl, ⟨L2, cl2, K2, hT⟩, hb⟩; have HT2 := Aside0.mk hT; have HB2 := Aside0.mk hb; clear hT hb) | fail)
        go_ret
        rw [hs.out]
        exact ⟨rfl, ⟨_, _, _, HT2.out⟩, HB2.out⟩
    · obtain rfl : j = l.length := by omega
      have hs := HP.out
      rw [List.drop_length] at hs
      replace hs := Aside0.mk (show P = (true, mj, rj) from hs)
      go_wp2
      go_ret
      rw [hs.out]
      exact ⟨rfl, ⟨_, _, _, HT.out⟩, HB.out⟩
end
theorem two_new {w1 w2 : World} {B g gm gr : Nat} {b : Int} (hM : MemL w1 g gm [] 0 ⟨b, []⟩) (hR : RefL w2 gr (fun _ => False) ⟨[], [], [], b⟩) (h1 : B ≤ g) (h2 : B ≤ gm) (h3 : w1.heap.size ≤ gr) (hb : Below w1.heap.size w1 w2) (hB : B ≤ w1.heap.size) : Two B w2 g gm [] 0 ⟨b, []⟩ gr (fun _ => False) ⟨[], [], [], b⟩ := by
  have hl := hM.lt_g
  exact ⟨hM.below hb, hR, fun k hk => hk.elim, ⟨by have := hl.1; omega, by have := hl.2.1; omega, fun e => by simp [inL] at e⟩, ⟨h1, h2, by omega⟩, fun k hk => hk.elim, fun k hk => by simp [inL] at hk⟩
/-- What made answers: no memory, or one. -/
def MadeV (w0 : World) (o : Option Mm) (e : Ending) (w' : World) : Prop := match o with
  | none => e = .returned (.pointer none)
  | some M => ∃ g gm L cl, e = .returned (.pointer (some ⟨g, 0, none⟩)) ∧ MemL w' g gm L cl M ∧ w0.heap.size ≤ g ∧ w0.heap.size ≤ gm ∧ ∀ k, inL L k → w0.heap.size ≤ k
set_option maxHeartbeats 16000000 in
set_option maxRecDepth 100000 in
theorem made_calls (w0 : World) (b : Int) (A : Option Addr) (cx : Nat) (l : List S53) (hx : ∀ x ∈ l, OpOk2 x) (hC : Kd.C k53 w0 A l.length l) :
    Calls Try.prog 17 #[.int .i64 b, .slice A l.length cx] w0 fun e w' => MadeV w0 (madeP b l) e w' ∧ Below w0.heap.size w0 w' := by
  by_cases hv : b < 0 ∨ b > 256
  · have E : madeP b l = none := by unfold madeP; rw [if_pos (by omega)]
    rw [E]
    have N1 := Aside0.mk (New_none b w0 hv)
    have N2 := Aside0.mk (refNew_none b w0 hv)
    clear E
    go_enter Try.func17, Try.ntmps17
    go_wp2_with (first | (go_at_call 11; refine N1.out.mono ?_; rintro e w1 ⟨rfl, rfl⟩) | (go_at_call 12; refine N2.out.mono ?_; rintro e w2 ⟨rfl, rfl⟩) | fail)
    go_ret
    exact ⟨rfl, Below.refl _ _⟩
  have N1 := Aside0.mk (New_some b w0 (by omega) (by omega))
  have N2 := Aside0.mk (fun W => refNew_some b W (by omega) (by omega))
  by_cases hl : 60 < l.length
  · have E : madeP b l = none := by unfold madeP; rw [if_pos (by omega)]
    rw [E]
    have d1 : decide (60 < (l.length : Int)) = true := decide_eq_true (by omega)
    clear E hv hl
    go_enter Try.func17, Try.ntmps17
    go_wp2_with (first | (go_at_call 11; refine N1.out.mono ?_; rintro e w1 ⟨g, gm, rfl, hm, hg, hgm, hb⟩; have HB1 := Aside0.mk hb; clear hb hm hg hgm) | (go_at_call 12; refine (N2.out _).mono ?_; rintro e w2 ⟨gr, rfl, hr, hgr, hb⟩; have HB2 := Aside0.mk (below_step HB1.out hb); clear hb hr hgr) | fail)
    go_ret
    exact ⟨rfl, HB2.out⟩
  have d1 : decide (60 < (l.length : Int)) = false := decide_eq_false (by omega)
  have HI := Aside0.mk (And.intro (show MOk ⟨b, []⟩ from ⟨Mm.Wf.new b, by show ((0 : Nat) : Int) ≤ b; omega, by show b ≤ 256; omega⟩) (show Rm.InvN 0 ⟨[], [], [], b⟩ from ⟨by show ((0 : Nat) : Int) ≤ b; omega, by show b ≤ 256; omega, Nat.le_refl _, Nat.le_refl _, fun c hc => by (cases hc), fun x hx => by (cases hx)⟩))
  have PL := Aside0.mk (fun W g gm gr (T : Two w0.heap.size W g gm [] 0 ⟨b, []⟩ gr (fun _ => False) ⟨[], [], [], b⟩) (hw : Below w0.heap.size w0 W) => play_calls T hw HI.out.1 HI.out.2 A cx l (by omega) hx hC)
  have E : madeP b l = if (playP ⟨b, []⟩ ⟨[], [], [], b⟩ l).1 = true then some (playP ⟨b, []⟩ ⟨[], [], [], b⟩ l).2.1 else none := by unfold madeP; rw [if_neg (by omega)]
  rw [E]
  clear E HI hx hv hl
  generalize playP ⟨b, []⟩ ⟨[], [], [], b⟩ l = P at PL ⊢
  obtain ⟨q, M, R⟩ := P
  simp only at PL ⊢
  cases q with
  | false =>
    rw [if_neg (by simp)]
    go_enter Try.func17, Try.ntmps17
    go_wp2_with (first | (go_at_call 11; refine N1.out.mono ?_; rintro e w1 ⟨g, gm, rfl, hm, hg, hgm, hb⟩; have HB1 := Aside0.mk hb; have HM1 := Aside0.mk hm; have HG := Aside0.mk (And.intro hg hgm); clear hb hm hg hgm) | (go_at_call 12; refine (N2.out _).mono ?_; rintro e w2 ⟨gr, rfl, hr, hgr, hb⟩; have HB2 := Aside0.mk (below_step HB1.out hb); have HT := Aside0.mk (two_new HM1.out hr HG.out.1 HG.out.2 hgr hb HB1.out.size); clear hb hr hgr) | (go_at_call 13; refine (PL.out _ g gm gr HT.out HB2.out).mono ?_; rintro e w3 ⟨rfl, ⟨L3, c3, K3, hT⟩, hb⟩; have HT3 := Aside0.mk hT; have HB3 := Aside0.mk hb; clear hT hb) | fail)
    go_ret
    exact ⟨rfl, HB3.out⟩
  | true =>
    rw [if_pos rfl]
    go_enter Try.func17, Try.ntmps17
    go_wp2_with (first | (go_at_call 11; refine N1.out.mono ?_; rintro e w1 ⟨g, gm, rfl, hm, hg, hgm, hb⟩; have HB1 := Aside0.mk hb; have HM1 := Aside0.mk hm; have HG := Aside0.mk (And.intro hg hgm); clear hb hm hg hgm) | (go_at_call 12; refine (N2.out _).mono ?_; rintro e w2 ⟨gr, rfl, hr, hgr, hb⟩; have HB2 := Aside0.mk (below_step HB1.out hb); have HT := Aside0.mk (two_new HM1.out hr HG.out.1 HG.out.2 hgr hb HB1.out.size); clear hb hr hgr) | (go_at_call 13; refine (PL.out _ g gm gr HT.out HB2.out).mono ?_; rintro e w3 ⟨rfl, ⟨L3, c3, K3, hT⟩, hb⟩; have HT3 := Aside0.mk hT; have HB3 := Aside0.mk hb; clear hT hb) | fail)
    go_ret
    exact ⟨⟨g, gm, L3, c3, rfl, HT3.out.M, HG.out.1, HG.out.2, HT3.out.b3⟩, HB3.out⟩
end Go.Proofs.Ytkppgepljjgjhaa.P

namespace Go.Proofs.Ytkppgepljjgjhaa.P
open Go.RowKit Go.Proofs.YtkppgepljjgjhaaW.PrintWords Go.Proofs.YtkppgepljjgjhaaW.PrintLast
open Go.Sort (ltInt swp)
set_option linter.unusedVariables false
set_option linter.unusedSimpArgs false
/-- A block that holds a row of numbers, between what stands ahead of it and behind it; all other blocks are what they were. -/
structure SR (w W : World) (blk : Nat) (pre post : List Value) (ty : TypeId) (d : Array Int) : Prop where
  row : W.heap[blk]? = some (.cells (pre ++ d.toList.map (Value.int .u64) ++ post).toArray ty (0, 0))
  upd : Upd w W (· = blk)
variable {w W : World} {blk off : Nat} {pre post : List Value} {ty : TypeId} {d : Array Int}
theorem SR.cell (h : SR w W blk pre post ty d) (ho : pre.length = off) {t : Nat} (ht : t < d.size) : W.cell? ⟨blk, off + t, none⟩ = some (.int .u64 d[t]!) := by
  subst ho
  rw [blk_cell h.row]
  rw [List.getElem?_toArray, List.append_assoc, List.getElem?_append_right (by omega), List.getElem?_append_left (by simp; omega), List.getElem?_map]
  simp [show t < d.size from ht]
theorem SR.frozen (h : SR w W blk pre post ty d) (k : Nat) : W.frozen? ⟨blk, k, none⟩ = false := by
  simp [World.frozen?, h.row]
theorem SR.drewN (h : SR w W blk pre post ty d) (n : Nat) : SR w (W.drewN n) blk pre post ty d :=
  ⟨h.row, h.upd.then_ (W2 := W.drewN n) (S2 := (· = blk)) ⟨rfl, rfl, rfl, Nat.le_refl _, fun _ _ _ => rfl⟩ fun _ hk => .inl hk⟩
theorem SR.set (h : SR w W blk pre post ty d) (ho : pre.length = off) {i : Nat} (hi : i < d.size) (u : Int) : SR w (W.setCell ⟨blk, off + i, none⟩ (.int .u64 u)) blk pre post ty (d.setIfInBounds i u) := by
  subst ho
  refine ⟨?_, h.upd.then_ (Upd.setCell (S := (· = blk)) W rfl _) fun _ hk => .inl hk⟩
  have := blk_set h.row (pre.length + i) (.int .u64 u)
  rw [this]
  congr 2
  rw [List.setIfInBounds_toArray, List.append_assoc, List.set_append_right _ _ (by omega), List.set_append_left _ _ (by simp; omega), Nat.add_sub_cancel_left, ← List.map_set, ← Array.toList_setIfInBounds, ← List.append_assoc]
theorem SR.swap (h : SR w W blk pre post ty d) (ho : pre.length = off) {i j : Nat} (hi : i < d.size) (hj : j < d.size) {x y : Int} (hx : x = d[j]!) (hy : y = d[i]!) :
    SR w ((W.setCell ⟨blk, off + i, none⟩ (.int .u64 x)).setCell ⟨blk, off + j, none⟩ (.int .u64 y)) blk pre post ty (swp d i j) := by
  subst hx hy
  exact (h.set ho hi _).set ho (by simpa using hj) _
theorem swp_size (d : Array Int) (i j : Nat) : (swp d i j).size = d.size := by simp [swp]
set_option maxHeartbeats 1000000 in
theorem less_calls (x y : Int) (W : World) : Calls Try.prog 66 #[.int .u64 x, .int .u64 y] W fun e w' => e = .returned (.bool (ltInt x y)) ∧ w' = W := by
  have nan : ∀ (x : Int) (W : World), Calls Try.prog 80 #[.int .u64 x] W fun e w' => e = .returned (.bool false) ∧ w' = W := by
    intro x W
    go_enter Try.func80, Try.ntmps80
    go_wp2
    go_ret
    exact ⟨by simp, rfl⟩
  have N := Aside0.mk nan
  clear nan
  go_enter Try.func66, Try.ntmps66
  go_wp2_with (first | (go_at_call 80; refine (N.out _ _).mono ?_; rintro e w' ⟨rfl, rfl⟩) | fail)
  go_ret
  exact ⟨rfl, rfl⟩
theorem insInner_step (a j : Nat) (d : Array Int) (hj : a < j) (hl : ltInt d[j]! d[j - 1]! = true) : Sort.insInner ltInt a j d = Sort.insInner ltInt a (j - 1) (swp d j (j - 1)) := by
  cases j with
  | zero => omega
  | succ k =>
    rw [Nat.add_sub_cancel] at hl ⊢
    rw [Sort.insInner, hl]
    simp [show k + 1 > a from hj]
theorem insInner_halt (a j : Nat) (d : Array Int) (h : j ≤ a ∨ ltInt d[j]! d[j - 1]! = false) : Sort.insInner ltInt a j d = d := by
  cases j with
  | zero => rfl
  | succ k =>
    rw [Nat.add_sub_cancel] at h
    rw [Sort.insInner]
    rcases h with h | h
    · simp [show ¬ k + 1 > a by omega]
    · simp [h]
set_option maxHeartbeats 4000000 in
set_option maxRecDepth 100000 in
theorem insertion_calls (h : SR w W blk pre post ty d) (ho : pre.length = off) (cap a b : Nat) (hab : a ≤ b) (hb : b ≤ d.size) (hsz : d.size < 1000000000) :
    Calls Try.prog 60 #[.slice (some ⟨blk, off, none⟩) d.size cap, .int .i64 a, .int .i64 b] W fun e W' => e = .returned (.tuple #[]) ∧ SR w W' blk pre post ty (Sort.insertionSort ltInt d a b) := by
  have H := Aside0.mk h
  clear h
  go_enter Try.func60, Try.ntmps60
  go_wp2
  go_loopw [6] (fun v wr => ∃ (i : Nat) (dk : Array Int), v = .int .i64 i ∧ a < i ∧ i ≤ b + 1 ∧ dk.size = d.size ∧ Aside0 (SR w wr blk pre post ty dk) ∧ Aside0 (Sort.insOuter ltInt a b i dk = Sort.insertionSort ltInt d a b)) (fun v _ => b + 1 - (intOf v).toNat)
  case atStart => exact ⟨a + 1, d, by simp, by omega, by omega, rfl, H, ⟨rfl⟩⟩
  case round =>
    obtain ⟨i, dk, rfl, hai, hib, hsk, HK, HO⟩ := hrel
    by_cases hlt : i < b
    · have c1 : decide ((i : Int) < b) = true := decide_eq_true (by omega)
      go_wp2
      go_loopw [7] (fun v wr => ∃ (j : Nat) (dj : Array Int), v = .int .i64 j ∧ a ≤ j ∧ j ≤ i ∧ dj.size = d.size ∧ Aside0 (SR w wr blk pre post ty dj) ∧ Aside0 (Sort.insInner ltInt a j dj = Sort.insInner ltInt a i dk)) (fun v _ => (intOf v).toNat)
      case atStart => exact ⟨i, dk, rfl, by omega, Nat.le_refl _, hsk, HK, ⟨rfl⟩⟩
      case round =>
        obtain ⟨j, dj, rfl, haj, hji, hsj, HJ, HI⟩ := hrel
        obtain ⟨G, hG⟩ : ∃ G : Nat → Int, ∀ t, G t = dj[t]! := ⟨fun t => dj[t]!, fun _ => rfl⟩
        have hcw : ∀ t, t < d.size → wr.cell? ⟨blk, off + t, none⟩ = some (.int .u64 (G t)) := fun t ht => by rw [hG]; exact HJ.out.cell ho (by omega)
        have hfw : ∀ t, t < d.size → wr.frozen? ⟨blk, off + t, none⟩ = false := fun t ht => HJ.out.frozen _
        have HG := Aside0.mk hG
        clear hG
        have OUT := Aside0.mk (fun (hs : j ≤ a ∨ ltInt dj[j]! dj[j - 1]! = false) => show Sort.insOuter ltInt a b (i + 1) dj = Sort.insertionSort ltInt d a b by
          rw [← HO.out]
          rw [Sort.insOuter.eq_def ltInt a b i dk, if_pos hlt, ← HI.out, insInner_halt _ _ _ hs])
        go_wp2
        by_cases hja : a < j
        · go_quiet (first | (go_at_call 66; refine Calls.quiet_of_same (less_calls _ _ _)))
          go_wp2
          · have hl : ltInt (G j) (G (j - 1)) = true := by assumption
            go_region
            all_goals go_wp2
            go_roundw
            case rel =>
              exact ⟨j - 1, swp dj j (j - 1), by congr 1; omega, by omega, by omega, by rw [swp_size]; exact hsj, ⟨(HJ.out.drewN _).swap ho (by omega) (by omega) (HG.out _) (HG.out _)⟩, ⟨by rw [← HI.out, insInner_step a j dj hja (by rw [← HG.out, ← HG.out]; exact hl)]⟩⟩
            case measure => simp [intOf]; omega
          · have hl : ltInt (G j) (G (j - 1)) = false := by assumption
            go_roundw
            case rel => exact ⟨i + 1, dj, by simp, by omega, by omega, hsj, ⟨HJ.out.drewN _⟩, ⟨OUT.out (.inr (by rw [← HG.out, ← HG.out]; exact hl))⟩⟩
            case measure => simp [intOf]; omega
        · go_quiet (first | (go_at_call 66; refine Calls.quiet_of_same (less_calls _ _ _)))
          go_wp2
          go_roundw
          case rel => exact ⟨i + 1, dj, by simp, by omega, by omega, hsj, ⟨HJ.out.drewN _⟩, ⟨OUT.out (.inl (by omega))⟩⟩
          case measure => simp [intOf]; omega
    · have c1 : decide ((i : Int) < b) = false := decide_eq_false (by omega)
      go_wp2
      go_end0
      exact ⟨rfl, by rw [← HO.out, Sort.insOuter.eq_def ltInt a b i dk, if_neg hlt]; exact HK.out⟩
end Go.Proofs.Ytkppgepljjgjhaa.P
