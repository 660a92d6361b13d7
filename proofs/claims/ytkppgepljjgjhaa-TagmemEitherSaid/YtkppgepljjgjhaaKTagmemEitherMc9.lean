/- Words of the walks: lemmas about memory, cut down to what this proof uses. No condition. -/
import Derived.Test.YtkppgepljjgjhaaKTagmemEitherMc8
namespace Go.Proofs.Ytkppgepljjgjhaa.P
open Go.RowKit Go.Proofs.YtkppgepljjgjhaaW.PrintWords Go.Proofs.YtkppgepljjgjhaaW.PrintLast
set_option linter.unusedVariables false
set_option linter.unusedSimpArgs false
/-- An operation of a drawn region that acts on the world, by its run. -/
theorem ev_ {P : Program} {ops : Array Oper} {Q : Exit → Act → World → Prop} {oi : Oper} {N : Option Tmp} {a : Act} {w w' : World} {K : Act → World → Prop} {v : Value} (hw : Region.wanted oi (yielded ops a.tmps) = true) (hN : oi.dst = N) (hrun : (execOp a.eval oi).run P w = .ok (.value v) w') (h : K (a.put N v) w') :
    if Region.wanted oi (yielded ops a.tmps) = true then Oper.wp P oi a w K Q else K (a.put N undef) w := by
  rw [if_pos hw]; subst hN; unfold Oper.wp; rw [hrun]; exact h
/-- Bytes in the place of others. -/
def splice (bs : List Int) (i : Nat) (r : List Int) : List Int := bs.take i ++ r ++ bs.drop (i + r.length)
theorem splice_length {bs r : List Int} {i : Nat} (h : i + r.length ≤ bs.length) : (splice bs i r).length = bs.length := by
  simp [splice]; omega
theorem cells_splice {p : Pg} (hp : p.Ok) {i : Nat} {r : List Int} (h : i + r.length ≤ 256) :
    (p.cells.toList.take i ++ r.map (Value.int .u8) ++ p.cells.toList.drop (i + (r.map (Value.int .u8)).length)).toArray = ({ p with bs := splice p.bs i r } : Pg).cells := by
  have hb := hp.b
  unfold Pg.cells splice
  simp only [List.map_append, List.map_take, List.map_drop, List.length_map]
  rw [List.take_append_of_le_length (by simp; omega), List.drop_append_of_le_length (by simp; omega)]
  simp [List.append_assoc]
theorem run_slicePg_l (b : Nat) {lo : Int} (h0 : 0 ≤ lo) (h3 : lo < 256) (w : World) :
    (Instr.sliceAt 69 (.pointer (some ⟨b, 0, none⟩)) (some (.int .i64 lo)) none none).run Try.prog w = .ok (.slice (some ⟨b, lo.toNat, none⟩) (256 - lo.toNat) (256 - lo.toNat)) w := by
  have e : Try.prog.arrayLen 69 = 256 := by kernel_rfl
  have es : ∀ w, (sizeOf (Try.prog.elem 69)).run Try.prog w = .ok 1 w := fun w => by kernel_rfl
  rw [run_sliceAt_array_l w 69 ⟨b, 0, none⟩ (by kernel_rfl) .i64 lo h0 (by rw [e]; omega), es]
  simp only [Result.andThen, slicedAt, e]
  rw [if_neg (by omega), add_off, Nat.mul_one, Nat.zero_add]
theorem Pg.size_cells {p : Pg} (hp : p.Ok) : p.cells.size = 264 := by
  have := hp.b; have := hp.t
  simp [Pg.cells]; omega
/-- Bytes are copied into a page. -/
theorem run_copyPg {W : World} {b : Nat} {p : Pg} (hp : p.Ok) (hb : W.heap[b]? = some (.cells p.cells 72 (0, 0))) {i : Nat} {A : Option Addr} {co : Nat} {r : List Int} (hr : Kd.C (Kd.int .u8) W A r.length r) (hfit : i + r.length ≤ 256) (dl dc : Nat) (hdl : r.length ≤ dl) (h0 : 0 < r.length) :
    (Builtin.copy_ #[51, 51] 3 #[.slice (some ⟨b, i, none⟩) dl dc, .slice A r.length co]).run Try.prog W = .ok (goInt r.length) (W.setRow b ({ p with bs := splice p.bs i r } : Pg).cells) := by
  obtain ⟨ad, rfl, hc⟩ := hr.2.2 h0
  have h := run_copy_row (P := Try.prog) W 51 51 3 5 b i dl dc ad r.length co p.cells 72 (r.map (Value.int .u8)) Try.underlying51 (by kernel_rfl) hb (by rw [List.length_map]; exact (Nat.min_eq_left hdl).symm) (fun j v hj => by
      rw [List.getElem?_map] at hj
      cases hq : r[j]? with
      | none => rw [hq] at hj; cases hj
      | some q =>
        rw [hq] at hj
        obtain ⟨c, hl, hk, hcell⟩ := hc j q hq
        have hk' : c = [.int .u8 q] := hk
        subst hk'
        have := hcell 0 (.int .u8 q) rfl
        rw [show j * (Kd.int .u8).sz + 0 = j from by show j * 1 + 0 = j; omega] at this
        rw [this]; simpa using hj) (by rw [List.length_map, Pg.size_cells hp]; omega) (fun v hv => by
      obtain ⟨q, _, rfl⟩ := List.mem_map.1 hv; rfl)
  rw [h, cells_splice hp hfit, List.length_map]
theorem row_same {w : World} {b : Nat} {cs0 cs : Array Value} {t : TypeId} (h : w.heap[b]? = some (.cells cs0 t (0, 0))) : (w.setRow b cs).heap[b]? = some (.cells cs t (0, 0)) := setRow_heap w b cs0 cs t (0, 0) h
theorem row_upd (w : World) {b : Nat} (cs : Array Value) {S : Nat → Prop} (hs : S b) : Upd w (w.setRow b cs) S :=
  ⟨rfl, rfl, rfl, by simp [World.setRow], fun k hk hn => setRow_other w b k cs (fun e => hn (e ▸ hs))⟩
/-- A page is written, whatever is written of it. -/
theorem MemL.write' {w W : World} {g gm : Nat} {L : List Lp} {clock : Nat} {m : Mm} (h : MemL w g gm L clock m) {x : Lp} (hx : x ∈ L) {p : Pg} (hno : p.no = x.pg.no) (hok : p.Ok) (hW : W.heap[x.blk]? = some (.cells p.cells 72 (0, 0))) (ho : Upd w W (· = x.blk)) :
    ∃ L', MemL W g gm L' clock (m.put p) ∧ L'.map Lp.blk = L.map Lp.blk := by
  refine ⟨_, h.write hx hno hok hW (fun k hk hne => ho.block k hk hne), ?_⟩
  rw [List.map_map]
  refine List.map_congr_left fun y hy => ?_
  simp only [Function.comp]
  split <;> rfl
def Pg.store (p : Pg) (i : Int) (r : List Int) : Pg := { p with bs := splice p.bs i.toNat r, ts := p.ts.set (i / 32).toNat false }
def tagmem_Mem_Store.f (k : Nat) (m : Mm) (a n u : Int) : Option (Mm × Int) := if size_ok n then (if a % n = 0 then (match m.page (a / 256) with | some p => (word_Little.f k u n).bind fun r => if 0 < r.length ∧ (a % 256).toNat + r.length ≤ 256 then some (m.put (p.store (a % 256) r), 0) else none | none => some (m, 30)) else some (m, 31)) else some (m, 1)
theorem pair_mm {a : Mm} {b : Int} {r1 : Mm} {r2 : Int} (h : some (a, b) = some (r1, r2)) : a = r1 ∧ b = r2 := by cases h; exact ⟨rfl, rfl⟩
set_option maxHeartbeats 4000000 in
set_option maxRecDepth 100000 in
theorem Store_calls (k : Nat) {w : World} {g gm : Nat} {L : List Lp} {clock : Nat} {m : Mm} (h : MemL w g gm L clock m) (a n u : Int) (h0 : 0 ≤ a) (h1 : a ≤ 18446744073709551615) (m' : Mm) (e : Int) (hf : tagmem_Mem_Store.f k m a n u = some (m', e)) :
    Calls Try.prog 21 #[.pointer (some ⟨g, 0, none⟩), .int .u64 a, .int .i64 n, .int .u64 u] w fun e' w' => e' = .returned (.int .i64 e) ∧ ∃ L', MemL w' g gm L' clock m' ∧ L'.map Lp.blk = L.map Lp.blk ∧ Upd w w' (inL L) := by
  have A := Aside0.mk (number.calls h a n h0 h1)
  unfold tagmem_Mem_Store.f at hf
  rw [h.page] at hf
  by_cases hn : size_ok n
  · rw [if_pos hn] at hf
    by_cases c : a % n = 0
    · rw [if_pos c] at hf
      cases hl : lookL (a / 256) L with
      | none =>
        rw [hl] at hf A
        rw [numV_none hn c] at A
        obtain ⟨rfl, rfl⟩ := pair_mm hf
        clear hf
        go_enter Try.func21, Try.ntmps21
        go_wp2_with (first | (go_at_call 34; refine A.out.mono ?_; rintro e w' ⟨rfl, rfl⟩) | fail)
        go_ret
        exact ⟨rfl, L, h, rfl, Upd.refl _ _⟩
      | some x =>
        rw [hl] at hf A
        rw [numV_some hn c] at A
        have hxm := lookL_mem hl
        have hx := hxm.1
        have hok := h.ok x hx
        simp only [Option.map_some] at hf
        obtain ⟨r, hf1, e0⟩ := Option.bind_eq_some_iff.1 hf
        by_cases hfit : 0 < r.length ∧ (a % 256).toNat + r.length ≤ 256
        case neg => rw [if_neg hfit] at e0; cases e0
        rw [if_pos hfit] at e0
        obtain ⟨rfl, rfl⟩ := pair_mm e0
        clear e0 hf
        have HF := Aside0.mk hf1
        have ha0 : 0 ≤ a % 256 := by omega
        have ha1 : a % 256 < 256 := by omega
        have hs := run_slicePg_l x.blk ha0 ha1
        have HM := Aside0.mk h
        go_enter Try.func21, Try.ntmps21
        go_wp2_with (first | (go_at_call 34; refine A.out.mono ?_; rintro e w' ⟨rfl, rfl⟩) | fail)
        refine start_ (n := 9) (S := fun _ => True) (ds := []) #[false, false, false, false, false, false, false, false, false] (by kernel_rfl) rfl rfl trivial (fun hHeld => ?_)
        have HM2 := Aside0.mk HM.out.drewL
        have HU2 := Aside0.mk (Upd.drew (S := inL L) w')
        generalize w'.drew = w2 at HM2 HU2 hHeld ⊢
        refine pure_ (i := 0) (N := some 23) (v := ?_) (a' := ?_) #[true, false, false, false, false, false, false, false, false] rfl rfl (by kernel_rfl) (fun _ _ _ h => h) (Or.inl ⟨by rfl, ?_⟩) ?_ ?_
        rotate_left
        · intro w'
          go_simp
          with_reducible rfl
        rotate_left
        · simp only [Act.put, List.setIfInBounds_toArray, List.set_cons_zero, List.set_cons_succ, i64_w, i32_w]
          rfl
        refine pure_ (i := 1) (N := some 24) (v := ?_) (a' := ?_) #[true, true, false, false, false, false, false, false, false] rfl rfl (by kernel_rfl) (fun _ _ _ h => h) (Or.inl ⟨by rfl, ?_⟩) ?_ ?_
        rotate_left
        · intro w'
          go_simp
          with_reducible rfl
        rotate_left
        · simp only [Act.put, List.setIfInBounds_toArray, List.set_cons_zero, List.set_cons_succ, i64_w, i32_w]
          rfl
        refine pure_ (i := 2) (N := some 25) (v := ?_) (a' := ?_) #[true, true, true, false, false, false, false, false, false] rfl rfl (by kernel_rfl) (fun _ _ _ h => h) (Or.inl ⟨by rfl, ?_⟩) ?_ ?_
        rotate_left
        · intro w'
          go_simp
          with_reducible rfl
        rotate_left
        · simp only [Act.put, List.setIfInBounds_toArray, List.set_cons_zero, List.set_cons_succ, i64_w, i32_w]
          rfl
        refine pure_ (i := 3) (N := some 26) (v := ?_) (a' := ?_) #[true, true, true, true, false, false, false, false, false] rfl rfl (by kernel_rfl) (fun _ _ _ h => h) (Or.inl ⟨by rfl, ?_⟩) ?_ ?_
        rotate_left
        · intro w'
          go_simp
          with_reducible rfl
        rotate_left
        · simp only [Act.put, List.setIfInBounds_toArray, List.set_cons_zero, List.set_cons_succ, i64_w, i32_w]
          rfl
        refine pure_ (i := 4) (N := some 27) (v := ?_) (a' := ?_) #[true, true, true, true, true, false, false, false, false] rfl rfl (by kernel_rfl) (fun _ _ _ h => h) (Or.inl ⟨by rfl, ?_⟩) ?_ ?_
        rotate_left
        · intro w'
          go_simp
          with_reducible rfl
        rotate_left
        · simp only [Act.put, List.setIfInBounds_toArray, List.set_cons_zero, List.set_cons_succ, i64_w, i32_w]
          rfl
        refine pure_ (i := 5) (N := some 28) (v := ?_) (a' := ?_) #[true, true, true, true, true, true, false, false, false] rfl rfl (by kernel_rfl) (fun _ _ _ h => h) (Or.inl ⟨by rfl, ?_⟩) ?_ ?_
        rotate_left
        · intro w'
          go_simp
          with_reducible rfl
        rotate_left
        · simp only [Act.put, List.setIfInBounds_toArray, List.set_cons_zero, List.set_cons_succ, i64_w, i32_w]
          rfl
        refine pure_ (i := 6) (N := some 29) (v := ?_) (a' := ?_) #[true, true, true, true, true, true, true, false, false] rfl rfl (by kernel_rfl) (fun _ _ _ h => h) (Or.inl ⟨by rfl, ?_⟩) ?_ ?_
        rotate_left
        · intro w'
          go_simp
          with_reducible rfl
        rotate_left
        · simp only [Act.put, List.setIfInBounds_toArray, List.set_cons_zero, List.set_cons_succ, i64_w, i32_w]
          rfl
        refine one_ (i := 7) (N := some 30) #[true, true, true, true, true, true, true, true, false] rfl rfl (by kernel_rfl) (by decide) (fun K hK => ?_)
        refine goes_ Try.func32 (by kernel_rfl) rfl #[.int .u64 u, .int .i64 n] (by rfl) rfl rfl (by (try simp only [List.map_toArray, List.map_cons, List.map_nil]); first | done | rfl) ?_
        refine (word_Little.calls k u n r _ HF.out).mono ?_
        rintro e w3 ⟨v, rfl, hr, hb⟩
        refine ⟨_, rfl, ?_⟩
        obtain ⟨A0, co, rfl⟩ := Kd.R_slice hr
        have HR := Aside0.mk (Kd.R_reads' hr).2.2
        have HM3 := Aside0.mk (HM2.out.below hb)
        have HU3 := Aside0.mk (HU2.out.then_ (Upd.of_below hb (inL L)) (fun _ hk => .inl hk))
        clear hr hb HM2 HU2
        refine hK.out _ _ trivial (fun hHeld => ?_)
        clear hK K
        refine norm_ (a' := ?_) ?_ ?_
        rotate_left
        · show Act.put _ (some 30) _ = _
          simp only [Act.put, List.setIfInBounds_toArray, List.set_cons_zero, List.set_cons_succ, i64_w, i32_w]
          rfl
        refine one_ (i := 8) (N := some 31) #[true, true, true, true, true, true, true, true, true] rfl rfl (by kernel_rfl) (by decide) (fun K hK => ?_)
        have hcopy := run_copyPg (co := co) hok (HM3.out.blk x hx) HR.out hfit.2 (256 - (a % 256).toNat) (256 - (a % 256).toNat) (by omega) hfit.1
        refine ev_ (v := goInt r.length) (w' := w3.setRow x.blk ({ x.pg with bs := splice x.pg.bs (a % 256).toNat r } : Pg).cells) (by rfl) rfl ?_ ?_
        · go_simp
        have hb3 := HM3.out.blk x hx
        have ok1 : ({ x.pg with bs := splice x.pg.bs (a % 256).toNat r } : Pg).Ok := ⟨by show (splice x.pg.bs (a % 256).toNat r).length = 256; rw [splice_length (by rw [hok.b]; exact hfit.2)]; exact hok.b, hok.t⟩
        have hb4 := row_same (cs := ({ x.pg with bs := splice x.pg.bs (a % 256).toNat r } : Pg).cells) hb3
        have hu4 := row_upd w3 (b := x.blk) ({ x.pg with bs := splice x.pg.bs (a % 256).toNat r } : Pg).cells (S := (· = x.blk)) rfl
        have ht4 := (blk_cell hb4 (256 + (a % 256 / 32).toNat)).trans (cells_tag_at ok1 (by omega))
        have hf4 := blk_frozen hb4 (256 + (a % 256 / 32).toNat)
        have hb5 := blk_set hb4 (256 + (a % 256 / 32).toNat) (.bool false)
        rw [cells_tag ok1] at hb5
        have hu5 := hu4.then_ (Upd.setCell (w3.setRow x.blk ({ x.pg with bs := splice x.pg.bs (a % 256).toNat r } : Pg).cells) (p := ⟨x.blk, 256 + (a % 256 / 32).toNat, none⟩) (S := (· = x.blk)) rfl (.bool false)) (fun _ hk => .inl hk)
        obtain ⟨L', hm5, hl5⟩ := HM3.out.write' hx (p := x.pg.store (a % 256) r) rfl ⟨ok1.b, by simp [Pg.store, hok.t]⟩ hb5 hu5
        have hin : inL L x.blk := List.mem_map_of_mem (f := Lp.blk) hx
        have HU5 := Aside0.mk (HU3.out.then_ (hu5.mono (S' := inL L) (fun k hk => by rw [hk]; exact hin)) (fun _ hk => .inl hk))
        have HM5 := Aside0.mk hm5
        clear hcopy hb3 hb4 hu4 hb5 hu5 hm5 HM3 HU3
        refine hK.out _ _ trivial (fun hHeld => ?_)
        clear hK K
        refine norm_ (a' := ?_) ?_ ?_
        rotate_left
        · show Act.put _ (some 31) _ = _
          simp only [Act.put, List.setIfInBounds_toArray, List.set_cons_zero, List.set_cons_succ, i64_w, i32_w]
          rfl
        refine done_ (by kernel_rfl) ?_
        have hu72 := Try.underlying72
        generalize w3.setRow x.blk ({ x.pg with bs := splice x.pg.bs (a % 256).toNat r } : Pg).cells = w4 at ht4 hf4 HM5 HU5 ⊢
        go_wp2
        go_ret
        exact ⟨rfl, L', HM5.out, hl5, HU5.out⟩
    · rw [if_neg c] at hf
      rw [numV_align hn c] at A
      obtain ⟨rfl, rfl⟩ := pair_mm hf
      clear hf
      go_enter Try.func21, Try.ntmps21
      go_wp2_with (first | (go_at_call 34; refine A.out.mono ?_; rintro e w' ⟨rfl, rfl⟩) | fail)
      go_ret
      exact ⟨rfl, L, h, rfl, Upd.refl _ _⟩
  · rw [if_neg hn] at hf
    rw [numV_size hn] at A
    obtain ⟨rfl, rfl⟩ := pair_mm hf
    clear hf
    go_enter Try.func21, Try.ntmps21
    go_wp2_with (first | (go_at_call 34; refine A.out.mono ?_; rintro e w' ⟨rfl, rfl⟩) | fail)
    go_ret
    exact ⟨rfl, L, h, rfl, Upd.refl _ _⟩
end Go.Proofs.Ytkppgepljjgjhaa.P
