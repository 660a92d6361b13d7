/- Texts of one proof, one behind the other. No condition. -/
import Derived.Test.YtkppgepljjgjhaaKTagmemEitherSb1
import Derived.Test.YtkppgepljjgjhaaKTagmemEitherMc6
namespace Go.Proofs.Ytkppgepljjgjhaa.P
open Go.RowKit Go.Proofs.YtkppgepljjgjhaaW.PrintWords Go.Proofs.YtkppgepljjgjhaaW.PrintLast
open Go.Sort (ltInt swp PermIn SortedIn swo_ltInt)
set_option linter.unusedVariables false
set_option linter.unusedSimpArgs false
theorem pdq_calls {w : World} {blk off : Nat} {pre post : List Value} {ty : TypeId} (ho : pre.length = off) (hblk : blk < w.heap.size) (n cap : Nat) (hn : n < 32768) : ∀ (N : Nat) (W : World) (d : Array Int) (a b : Nat) (l : Int) (F : Array Int → Prop), b - a < N → a ≤ b → b ≤ n → PL w W blk pre post ty n a b F d → Calls Try.prog 47 #[.slice (some ⟨blk, off, none⟩) n cap, .int .i64 a, .int .i64 b, .int .i64 l] W fun e W' => e = .returned (.tuple #[]) ∧ ∃ d', d'.size = n ∧ SR w W' blk pre post ty d' ∧ F d'
  | 0 => fun W d a b l F h => by omega
  | N + 1 => fun W d a b l F h1 h2 h3 h4 => pdq_step ho hblk n cap hn N (pdq_calls ho hblk n cap hn N) W d a b l F h1 h2 h3 h4
/-- The numbers, rising. -/
def sortI (l : List Int) : List Int := l.mergeSort (fun x y => !ltInt y x)
set_option maxHeartbeats 4000000 in
set_option maxRecDepth 100000 in
theorem sort_calls {W : World} {blk off : Nat} {pre post : List Value} {ty : TypeId} {d : Array Int} (h : W.heap[blk]? = some (.cells (pre ++ d.toList.map (Value.int .u64) ++ post).toArray ty (0, 0))) (ho : pre.length = off) (cap : Nat) (hn : d.size < 32768) :
    Calls Try.prog 30 #[.slice (some ⟨blk, off, none⟩) d.size cap] W fun e W' => e = .returned (.tuple #[]) ∧ SR W W' blk pre post ty (sortI d.toList).toArray := by
  have hb : blk < W.heap.size := by
    rcases Nat.lt_or_ge blk W.heap.size with h1 | h1
    · exact h1
    · rw [Array.getElem?_eq_none (by omega)] at h; cases h
  have PD := Aside0.mk (fun l => pdq_calls (w := W) ho hb d.size cap hn (d.size + 1) W d 0 d.size l (fun R => PermIn 0 d.size d R ∧ SortedIn ltInt 0 d.size R) (by omega) (Nat.zero_le _) (Nat.le_refl _) ⟨⟨h, Upd.refl _ _⟩, rfl, .inl rfl, fun R a b => ⟨a, b⟩⟩)
  have LN := Aside0.mk (len_calls d.size (by omega) W)
  clear h
  go_enter Try.func30, Try.ntmps30
  go_wp2_with (first | (go_at_call 48; refine LN.out.mono ?_; rintro e w' ⟨⟨r, rfl, hr⟩, rfl⟩; clear hr) | (go_at_call 47; refine (PD.out r).mono ?_; rintro e W1 ⟨rfl, d1, z1, s1, f1⟩; have HE := Aside0.mk (And.intro s1 f1); clear z1 s1 f1) | fail)
  go_end0
  have q := Go.Sort.sorted_unique_holds (lt := ltInt) swo_ltInt (fun x y h1 h2 => by simp [ltInt] at h1 h2; omega) d d1 HE.out.2.1 HE.out.2.2
  have e : (sortI d.toList).toArray = d1 := by unfold sortI; rw [← q, Array.toArray_toList]
  exact ⟨rfl, by rw [e]; exact HE.out.1⟩
set_option maxHeartbeats 4000000 in
set_option maxRecDepth 100000 in
theorem sort_none (A : Option Addr) (cap : Nat) (W : World) : Calls Try.prog 30 #[.slice A 0 cap] W fun e W' => e = .returned (.tuple #[]) ∧ W' = W := by
  have IN : ∀ W, Calls Try.prog 60 #[.slice A 0 cap, .int .i64 0, .int .i64 0] W fun e W' => e = .returned (.tuple #[]) ∧ W' = W := by
    intro W
    go_enter Try.func60, Try.ntmps60
    go_wp2
    go_loopw [6] (fun v wr => v = .int .i64 1 ∧ wr = W) (fun _ _ => 0)
    case atStart => exact ⟨rfl, rfl⟩
    case round =>
      obtain ⟨rfl, rfl⟩ := hrel
      go_wp2
      go_end0
      exact ⟨rfl, rfl⟩
  have IA := Aside0.mk IN
  clear IN
  have PD : ∀ l W, Calls Try.prog 47 #[.slice A 0 cap, .int .i64 0, .int .i64 0, .int .i64 l] W fun e W' => e = .returned (.tuple #[]) ∧ W' = W := by
    intro l W
    go_enter Try.func47, Try.ntmps47
    go_wp2
    go_loopw [1, 2, 3, 8, 9] (fun va vb vl v8 v9 wr => va = .int .i64 0 ∧ vb = .int .i64 0 ∧ wr = W) (fun _ _ _ _ _ _ => 0)
    case atStart => exact ⟨rfl, rfl, rfl⟩
    case round =>
      obtain ⟨rfl, rfl, rfl⟩ := hrel
      go_wp2_with (first | (go_at_call 60; refine (IA.out _).mono ?_; rintro e W1 ⟨rfl, rfl⟩) | fail)
      (try simp only [Exit.inBlock, Exit.then]); refine bodyPost_ret (results_none rfl _ _ _) rfl ?_
      exact ⟨rfl, rfl⟩
  have PA := Aside0.mk PD
  have LN := Aside0.mk (len_calls 0 (by omega) W)
  clear PD
  go_enter Try.func30, Try.ntmps30
  go_wp2_with (first | (go_at_call 48; refine LN.out.mono ?_; rintro e w' ⟨⟨r, rfl, hr⟩, rfl⟩; clear hr) | (go_at_call 47; refine (PA.out r _).mono ?_; rintro e W1 ⟨rfl, rfl⟩) | fail)
  go_end0
  exact ⟨rfl, rfl⟩
end Go.Proofs.Ytkppgepljjgjhaa.P

namespace Go.Proofs.Ytkppgepljjgjhaa.P
open Go.RowKit Go.Proofs.YtkppgepljjgjhaaW.PrintWords Go.Proofs.YtkppgepljjgjhaaW.PrintLast
open Go.ChangeMaps (setBlock)
open Go.Sort (ltInt swo_ltInt)
set_option linter.unusedVariables false
set_option linter.unusedSimpArgs false
theorem sortI_perm {l l' : List Int} (h : l.Perm l') : sortI l = sortI l' := by
  have tr : ∀ a b c : Int, (!ltInt b a) = true → (!ltInt c b) = true → (!ltInt c a) = true := fun a b c h1 h2 => by simp [ltInt] at *; omega
  have tot : ∀ a b : Int, ((!ltInt b a) || !ltInt a b) = true := fun a b => by simp [ltInt]; omega
  refine List.Perm.eq_of_pairwise (le := fun a b => (!ltInt b a) = true) (fun a b _ _ h1 h2 => ?_) (List.pairwise_mergeSort tr tot l) (List.pairwise_mergeSort tr tot l') (((List.mergeSort_perm l _).trans h).trans (List.mergeSort_perm l' _).symm)
  simp [ltInt] at h1 h2
  omega
theorem nodup_le : ∀ {l l' : List Nat}, l.Nodup → (∀ x ∈ l, x ∈ l') → l.length ≤ l'.length
  | [], _, _, _ => Nat.zero_le _
  | a :: t, l', h, hs => by
    rw [List.nodup_cons] at h
    have ha := hs a List.mem_cons_self
    have ih := nodup_le (l' := l'.erase a) h.2 (fun x hx => (List.mem_erase_of_ne (show x ≠ a from fun e => h.1 (by rw [← e]; exact hx))).2 (hs x (List.mem_cons_of_mem _ hx)))
    have hp := List.length_pos_of_mem ha
    rw [List.length_erase_of_mem ha] at ih
    simp only [List.length_cons]
    omega
theorem set_same {w : World} {b : Nat} {o o' : Obj} (h : w.heap[b]? = some o') : (setBlock w b o).heap[b]? = some o := by
  have := blk_lt h
  simp [setBlock, this]
theorem set_other {w : World} {b k : Nat} {o : Obj} (h : k ≠ b) : (setBlock w b o).heap[k]? = w.heap[k]? := by
  simp [setBlock, Array.getElem?_setIfInBounds, Ne.symm h]
theorem below_set {B : Nat} {w0 w : World} {b : Nat} (h : Below B w0 w) (hb : B ≤ b) (o : Obj) : Below B w0 (setBlock w b o) :=
  ⟨h.os, h.tape, h.output, by simpa [setBlock] using h.size, fun k hk => (set_other (by omega)).trans (h.block k hk)⟩
def lenOf : Value → Nat
  | .slice _ n _ => n
  | _ => 0
/-- What has been met of a map's entries. -/
structure Met (L S : List Lp) : Prop where
  sub : ∀ x ∈ S, x ∈ L
  nd : (S.map Lp.born).Nodup
theorem Met.snoc {L S : List Lp} (h : Met L S) {x : Lp} (hx : x ∈ L) (hn : x.born ∉ S.map Lp.born) : Met L (S ++ [x]) := by
  refine ⟨fun y hy => ?_, ?_⟩
  · rcases List.mem_append.1 hy with hy | hy
    · exact h.sub y hy
    · simp only [List.mem_singleton] at hy; subst hy; exact hx
  · rw [List.map_append, List.map_singleton, List.nodup_append]
    exact ⟨h.nd, by simp, fun a ha b hb => by simp only [List.mem_singleton] at hb; subst hb; exact fun e => hn (e ▸ ha)⟩
theorem Met.len {L S : List Lp} (h : Met L S) : S.length ≤ L.length := by
  have := nodup_le h.nd (l' := L.map Lp.born) (fun b hb => by obtain ⟨x, hx, rfl⟩ := List.mem_map.1 hb; exact List.mem_map_of_mem (h.sub x hx))
  simpa using this
theorem nodup_of_map {α β : Type} (f : α → β) {l : List α} (h : (l.map f).Nodup) : l.Nodup := by
  unfold List.Nodup at h ⊢
  rw [List.pairwise_map] at h
  exact h.imp (fun {a b} h e => h (by rw [e]))
theorem Met.all {L S : List Lp} (h : Met L S) (hL : (L.map Lp.born).Nodup) (ha : ∀ x ∈ L, x.born ∈ S.map Lp.born) : S.Perm L := by
  refine (List.perm_ext_iff_of_nodup (nodup_of_map _ h.nd) (nodup_of_map _ hL)).2 fun x => ⟨h.sub x, fun hx => ?_⟩
  obtain ⟨y, hy, e⟩ := List.mem_map.1 (ha x hx)
  rw [← nodup_inj hL (h.sub y hy) hx e]
  exact hy
theorem left_none {L S : List Lp} (h : (leftOf (L.map Lp.ent).toArray (S.map Lp.born).toArray).size = 0) : ∀ x ∈ L, x.born ∈ S.map Lp.born := by
  intro x hx
  rw [leftOf, Array.size_eq_zero_iff, Array.filter_eq_empty_iff] at h
  have := h x.ent (by simpa using ⟨x, hx, rfl⟩)
  simpa [Lp.ent] using this
theorem left_some {L S : List Lp} {e : MapEntry} (h : e ∈ (leftOf (L.map Lp.ent).toArray (S.map Lp.born).toArray).toList) : ∃ x ∈ L, e = x.ent ∧ x.born ∉ S.map Lp.born := by
  rw [leftOf] at h
  simp only [Array.toList_filter, List.mem_filter, List.mem_map] at h
  obtain ⟨⟨x, hx, rfl⟩, h2⟩ := h
  exact ⟨x, hx, rfl, by simpa [Lp.ent] using h2⟩
/-- A sorted row in its place. -/
theorem sorted_row {w W : World} {A : Option Addr} {n c : Nat} {xs : List Int} (h : (Kd.int .u64).R 39 W w.heap.size (fun _ => True) (.slice A n c) xs) (hp : 0 < xs.length) :
    ∃ gb cur, A = some ⟨gb, 0, none⟩ ∧ n = xs.length ∧ w.heap.size ≤ gb ∧ W.heap[gb]? = some (.cells ([] ++ xs.toArray.toList.map (Value.int .u64) ++ cur).toArray 39 (0, 0)) ∧
      ∀ W', W'.heap[gb]? = some (.cells ([] ++ (sortI xs).toArray.toList.map (Value.int .u64) ++ cur).toArray 39 (0, 0)) → (Kd.int .u64).R 39 W' w.heap.size (fun _ => True) (.slice A n c) (sortI xs) := by
  have ho := Kd.own_of_R (h1 := fun _ => rfl) h
  obtain ⟨hl, hr⟩ := ho
  rcases hr with ⟨he, h0⟩ | ⟨gb, cap, cur, he, hb, hc, hn, hcap, hsz, ht⟩
  · omega
  · obtain ⟨rfl, rfl, rfl⟩ : A = some ⟨gb, 0, none⟩ ∧ n = xs.length ∧ c = cap := by simpa using he
    have hlen : (sortI xs).length = xs.length := by unfold sortI; exact List.length_mergeSort _
    have ec : cur.toList = xs.map (Value.int .u64) ++ cur.toList.drop xs.length := by
      have e2 : cur.toList.take xs.length = xs.map (Value.int .u64) := by simpa [encs] using ht
      rw [← e2, List.take_append_drop]
    have hcs : xs.length ≤ cur.toList.length := by simp only [Array.length_toList]; omega
    refine ⟨gb, cur.toList.drop xs.length, rfl, rfl, hb, ?_, fun W' hW => ?_⟩
    · rw [List.nil_append]
      rw [hc]
      congr 2
      apply Array.toList_inj.1
      rw [ec]
      simp
    · refine Kd.R_of_own ⟨by simp [encs, hlen], .inr ⟨gb, c, _, by rw [hlen], hb, hW, by rw [hlen]; exact hn, hcap, ?_, ?_⟩⟩ (fun _ _ => trivial)
      · simp [hlen]; omega
      · rw [hlen]; simp [encs, hlen]
end Go.Proofs.Ytkppgepljjgjhaa.P

namespace Go.Proofs.Ytkppgepljjgjhaa.P
open Go.RowKit Go.Proofs.YtkppgepljjgjhaaW.PrintWords Go.Proofs.YtkppgepljjgjhaaW.PrintLast
open Go.ChangeMaps (setBlock)
set_option linter.unusedVariables false
set_option linter.unusedSimpArgs false
def tagmem_Mem_Pages.f (m : Mm) : List Int := sortI (m.pages.map Pg.no)
theorem MemL.drewd {w W : World} {g gm : Nat} {L : List Lp} {clock : Nat} {m : Mm} (h : MemL w g gm L clock m) (e : W = w ∨ W = w.drew) : MemL W g gm L clock m := by
  rcases e with rfl | rfl
  · exact h
  · exact h.step rfl rfl (fun _ _ => rfl)
set_option maxHeartbeats 4000000 in
set_option maxRecDepth 100000 in
theorem Pages_calls {w : World} {g gm : Nat} {L : List Lp} {clock : Nat} {m : Mm} (h : MemL w g gm L clock m) (hn : L.length < 32768) :
    Calls Try.prog 14 #[.pointer (some ⟨g, 0, none⟩)] w fun e w' => ∃ v : Value, e = .returned v ∧ Kd.R (Kd.int .u64) 39 w' w.heap.size (fun _ => True) v (tagmem_Mem_Pages.f m) ∧ Below w.heap.size w w' := by
  have hM := Aside0.mk h
  have EP := Aside0.mk (show m.pages.map Pg.no = L.map fun x => x.pg.no by rw [h.pgs, List.map_map]; rfl)
  have hc := blk_cell h.hd 0
  have hu := Try.underlying66
  have hrg := run_range_map (P := Try.prog) w 64 39 73 gm (L.map Lp.ent).toArray clock map_t h.mp
  clear h
  go_enter Try.func14, Try.ntmps14
  go_wp2
  clear hrg hc
  go_loopw [3] (fun v3 wr => ∃ S : List Lp, Aside0 (Met L S) ∧ Aside0 (wr.heap[w.heap.size]? = some (.mapIter (some gm) clock (S.map Lp.born).toArray clock)) ∧ Aside0 (Kd.R (Kd.int .u64) 39 wr w.heap.size (fun _ => True) v3 (S.map fun x => x.pg.no)) ∧ Aside0 (Below w.heap.size w wr)) (fun v3 _ => L.length - lenOf v3)
  case atStart => exact ⟨[], ⟨⟨fun x hx => (by cases hx), List.nodup_nil⟩⟩, ⟨by simpa using blk_new w (.mapIter (some gm) clock #[] clock)⟩, ⟨Kd.R_nil _ _ _ _ _⟩, ⟨below_alloc (Below.refl _ _) _⟩⟩
  case round =>
    obtain ⟨S, HS, HI, HO, HB⟩ := hrel
    have HM := Aside0.mk (hM.out.below HB.out)
    obtain ⟨A, c, hv⟩ := Kd.R_slice HO.out
    rw [List.length_map] at hv
    subst hv
    rcases run_next_at (P := Try.prog) wr 0 w.heap.size gm clock clock (S.map Lp.born).toArray (L.map Lp.ent).toArray clock HI.out HM.out.mp (fun x hx => by simp only [List.mem_map] at hx; obtain ⟨y, hy, rfl⟩ := hx; exact HM.out.old y hy) (Nat.le_refl _) with ⟨hz, hnx⟩ | ⟨e, he, w1, hw1, hnx⟩
    · have HP := Aside0.mk ((HS.out.all HM.out.born (left_none hz)).map (fun x => x.pg.no))
      have EQ := Aside0.mk (show tagmem_Mem_Pages.f m = sortI (S.map fun x => x.pg.no) by unfold tagmem_Mem_Pages.f; rw [EP.out]; exact (sortI_perm HP.out).symm)
      have LN := Aside0.mk HS.out.len
      clear hz HP
      by_cases hl : S.length = 0
      · have e0 : S = [] := List.length_eq_zero_iff.1 hl
        subst e0
        have ST := Aside0.mk (sort_none A c wr)
        have e0 : ([] : List Lp).length = 0 := rfl
        rw [e0]
        go_wp2_with (first | (go_at_call 30; refine ST.out.mono ?_; rintro e w2 ⟨rfl, rfl⟩) | fail)
        go_ret
        exact ⟨_, rfl, by rw [EQ.out, show sortI (List.map (fun x : Lp => x.pg.no) ([] : List Lp)) = [] by unfold sortI; simp]; exact HO.out, HB.out⟩
      · obtain ⟨gb, cur, rfl, h1, h2, h3, h4⟩ := sorted_row HO.out (by simp; omega)
        have ST0 := sort_calls (pre := []) (off := 0) h3 rfl c (by simp; have := LN.out; omega)
        simp only [List.size_toArray, List.length_map] at ST0
        have ST := Aside0.mk ST0
        have H4 := Aside0.mk h4
        have H2 := Aside0.mk h2
        clear ST0 h1 h2 h3 h4
        go_wp2_with (first | (go_at_call 30; refine ST.out.mono ?_; rintro e w2 ⟨rfl, hs⟩; have HSR := Aside0.mk hs; clear hs) | fail)
        go_ret
        exact ⟨_, rfl, by rw [EQ.out]; exact H4.out _ (by simpa using HSR.out.row), HSR.out.upd.below HB.out HB.out.size (fun k hk => by rw [hk]; exact H2.out)⟩
    · obtain ⟨x, hx, rfl, hnew⟩ := left_some he
      have HS1 := Aside0.mk (HS.out.snoc hx hnew)
      have LN := Aside0.mk HS1.out.len
      have HW1 : Below w.heap.size w w1 := by
        rcases hw1 with rfl | rfl
        · exact HB.out
        · exact below_drew HB.out
      have hM1 := HM.out.drewd hw1
      have hO1 : Kd.R (Kd.int .u64) 39 w1 w.heap.size (fun _ => True) (.slice A S.length c) (S.map fun x => x.pg.no) := by
        rcases hw1 with rfl | rfl
        · exact HO.out
        · exact Kd.R_drew HO.out
      have hI1 : w1.heap[w.heap.size]? = some (.mapIter (some gm) clock (S.map Lp.born).toArray clock) := by
        rcases hw1 with rfl | rfl <;> exact HI.out
      have hgl := blk_lt hM.out.hd
      have hgml := blk_lt hM.out.mp
      have HM2 := Aside0.mk (show MemL (setBlock w1 w.heap.size (.mapIter (some gm) clock ((S.map Lp.born).toArray.push x.ent.born) clock)) g gm L clock m from hM1.step (set_other (by omega)) (set_other (by omega)) (fun y hy => set_other (by have := blk_lt (hM.out.blk y hy); omega)))
      have HB2 := Aside0.mk (below_set HW1 (Nat.le_refl _) (.mapIter (some gm) clock ((S.map Lp.born).toArray.push x.ent.born) clock))
      have HI2 := Aside0.mk (set_same (o := .mapIter (some gm) clock ((S.map Lp.born).toArray.push x.ent.born) clock) hI1)
      have HO2 := Aside0.mk (Kd.R_mono (Kd.R_step (Kd.R_bound hO1) (w1 := setBlock w1 w.heap.size (.mapIter (some gm) clock ((S.map Lp.born).toArray.push x.ent.born) clock)) (fun k hk _ => set_other (fun e => by obtain ⟨_, _, _, q, _, cs, hcs⟩ := hk; rw [e, hI1] at hcs; cases hcs))) (fun k hk => hk.1))
      clear hM1 hO1 hI1 HW1 hw1 HO HI HB HM he hnew
      generalize setBlock w1 w.heap.size (.mapIter (some gm) clock ((S.map Lp.born).toArray.push x.ent.born) clock) = W2 at hnx HM2 HB2 HI2 HO2
      have hnd : (((L.map Lp.ent).toArray.toList).map (·.born)).Nodup := by
        have e : (L.map Lp.ent).map (·.born) = L.map Lp.born := by rw [List.map_map]; rfl
        show ((L.map Lp.ent).map (·.born)).Nodup
        rw [e]
        exact HM2.out.born
      have hen := run_entry_at (P := Try.prog) W2 w.heap.size gm clock (S.map Lp.born).toArray (L.map Lp.ent).toArray clock x.ent HI2.out HM2.out.mp (by simpa using ⟨x, hx, rfl⟩) hnd
      have e3 : (#[Value.bool true, x.ent.key, x.ent.val]) = #[Value.bool true, .int .u64 x.pg.no, .pointer (some ⟨x.blk, 0, none⟩)] := rfl
      have e4 : (#[x.ent.key, x.ent.val]) = #[.int .u64 x.pg.no, .pointer (some ⟨x.blk, 0, none⟩)] := rfl
      rw [e3] at hnx
      rw [e4] at hen
      clear e3 e4
      have HI3 := Aside0.mk (show W2.heap[w.heap.size]? = some (.mapIter (some gm) clock ((S ++ [x]).map Lp.born).toArray clock) by rw [HI2.out]; simp [Lp.ent])
      have LX := Aside0.mk (show (S.map fun x => x.pg.no).length < 32768 by rw [List.length_map]; have := HS.out.len; omega)
      go_wp2_with (first | ((with_reducible refine gate_builtin (b := .append) (xs := #[.tmp 14, .tmp 16]) rfl ?_); at_builtin; refine Kd.R_append (Kd.int .u64) (w0 := w) w.heap.size rfl (.tmp 14) (.tmp 16) 32 39 (.int .u64 0) 8 rfl Try.underlying32 info39 rfl (by decide) (by omega) (.slice A S.length c) (S.map fun x => x.pg.no) x.pg.no [.int .u64 x.pg.no] (fun _ => True) (fun _ => False) rfl rfl ?aP (fun _ hk => hk.elim) ?aF ?aO ?aB ?aS ?aL ?_; (case aP => exact rfl); (case aB => exact HB2.out); (case aF => exact (fun _ _ => trivial)); (case aO => exact HO2.out); (case aS => exact (below_size HB2.out)); (case aL => have := LX.out; omega); intro v227 w11 ho hb hg hat; have HB4 := Aside0.mk hb; have HO4 := Aside0.mk ho; have HG4 := Aside0.mk hg; have HAT := Aside0.mk hat; clear ho hb hg hat) | fail)
      have HI5 := blk_grown HI3.out HG4.out (fun e => by
        obtain ⟨_, _, _, q, _, cs, hcs⟩ := (Kd.R_bound HO2.out).1 _ e.symm
        rw [HI3.out] at hcs
        cases hcs)
      obtain ⟨A2, c2, hv2⟩ := Kd.R_slice HO4.out
      refine ⟨⟨S ++ [x], HS1, ⟨HI5⟩, ⟨by rw [List.map_append]; exact HO4.out⟩, HB4⟩, ?_⟩
      rw [hv2]
      have := LN.out
      simp only [List.length_append, List.length_singleton, List.length_map, lenOf] at this ⊢
      omega
end Go.Proofs.Ytkppgepljjgjhaa.P
