/- tagmem.Tags: where the tags are, rising. No condition. -/
import Derived.Test.YtkppgepljjgjhaaKTagmemEitherSc1
import Derived.Laws.Rows
namespace Go.Proofs.Ytkppgepljjgjhaa.P
open Go.RowKit Go.Proofs.YtkppgepljjgjhaaW.PrintWords Go.Proofs.YtkppgepljjgjhaaW.PrintLast
set_option linter.unusedVariables false
set_option linter.unusedSimpArgs false
/-- A page's tags' places, of the first so many granules. -/
def Pg.marks (p : Pg) (i : Nat) : List Int := (List.range i).filterMap fun k => if p.ts.getD k false = true then some (p.no * 256 + (k : Int) * 32) else none
theorem marks_next (p : Pg) (i : Nat) : p.marks (i + 1) = p.marks i ++ (if p.ts.getD i false = true then [p.no * 256 + (i : Int) * 32] else []) := by
  unfold Pg.marks
  rw [List.range_succ, List.filterMap_append]
  congr 1
  simp only [List.filterMap_cons, List.filterMap_nil]
  split <;> simp_all
def Mm.marksOf (m : Mm) (n : Int) : List Int := match m.page n with | some p => p.marks 8 | none => []
def tagmem_Mem_Tags.f (m : Mm) : List Int := (tagmem_Mem_Pages.f m).flatMap m.marksOf
theorem run_loadVar_at {P : Program} (w : World) (g off : Nat) (ty : TypeId) (cs : List Value) (d : TypeDesc) (h : ∀ j v, cs[j]? = some v → w.cell? ⟨g, off + j, none⟩ = some v)
    (hu : P.underlying ty = some d) (hd : (match d with | .struct _ | .array _ _ => true | _ => false) = true) (hi : (P.info? ty).map (·.size) = some cs.length) :
    (loadVar ty ⟨g, off, none⟩).run P w = .ok (.agg cs.toArray) w := by
  have hl : (loadCells ⟨g, off, none⟩ cs.length).run P w = .ok cs.toArray w :=
    run_loadCells_list (P := P) w ⟨g, off, none⟩ cs (fun j v hv => by
      have hadd : (⟨g, off, none⟩ : Addr).add j = ⟨g, off + j, none⟩ := by unfold Addr.add; split <;> simp_all
      rw [hadd]
      exact h j v hv)
  cases hq : P.info? ty with
  | none => simp [hq] at hi
  | some i =>
    have hs : i.size = cs.length := by simpa [hq] using hi
    have hagg : (isAgg ty).run P w = .ok true w := by
      unfold isAgg
      rw [Sem.run_bind, run_underlying hu w]
      cases d <;> simp_all
    simp [loadVar, Sem.run_bind, hagg, sizeOf, typeInfo, hq, hs, hl]
theorem info70 : (Try.prog.info? 70).map (·.size) = some 8 := by kernel_rfl
theorem info4 : (Try.prog.info? 4).map (fun i => i.size) = some 1 := by kernel_rfl
theorem arr70 : Try.prog.underlying 70 = some (.array 8 4) := by kernel_rfl
theorem load_tags {w : World} {b : Nat} {p : Pg} (hp : p.Ok) (hb : w.heap[b]? = some (.cells p.cells 72 (0, 0))) : (Instr.loadAt 70 (.pointer (some ⟨b, 256, none⟩))).run Try.prog w = .ok (.agg (p.ts.map Value.bool).toArray) w := by
  unfold Instr.loadAt
  simp only [Instr.sureAddr, Sem.run_bind, Sem.run_pure, Result.andThen_ok]
  refine run_loadVar_at w b 256 70 (p.ts.map Value.bool) (.array 8 4) (fun j v hv => ?_) arr70 rfl (by rw [info70, List.length_map, hp.t])
  rw [blk_cell hb]
  have hj : j < 8 := by
    have := (List.getElem?_eq_some_iff.1 hv).1
    rw [List.length_map, hp.t] at this
    exact this
  rw [cells_tag_at hp hj]
  rw [List.getElem?_map] at hv
  rw [List.getElem?_eq_getElem (by rw [hp.t]; exact hj)] at hv
  rw [← hv]
  simp [List.getD_eq_getElem?_getD, List.getElem?_eq_getElem (show j < p.ts.length by rw [hp.t]; exact hj)]
theorem index_tags {w : World} {p : Pg} (hp : p.Ok) {i : Nat} (hi : i < 8) : (Instr.index 70 (.agg (p.ts.map Value.bool).toArray) (.int .i64 (i : Int))).run Try.prog w = .ok (.bool (p.ts.getD i false)) w := by
  have h8 : 0 ≤ (i : Int) ∧ (i : Int) < ((8 : Nat) : Int) := by omega
  have hl : i < p.ts.length := by rw [hp.t]; exact hi
  obtain ⟨inf, hinf, hsz⟩ := Option.map_eq_some_iff.1 info4
  simp [Instr.index, run_underlying arr70, asIntOf, sizeOf, typeInfo, hinf, hsz, Sem.run_bind, h8]
  rw [if_pos hi]
  have hag : (isAgg 4).run Try.prog w = .ok false w := by
    unfold isAgg
    rw [Sem.run_bind, run_underlying Try.underlying4 w]
    rfl
  have hg : (List.map Value.bool p.ts).toArray[i]? = some (.bool (p.ts[i]?.getD false)) := by
    rw [List.getElem?_toArray, List.getElem?_map, List.getElem?_eq_getElem hl]
    rfl
  simp only [part, Sem.run_bind, hag, Result.andThen_ok, Bool.false_eq_true, if_false, hg]
  rfl
/-- What a row's cells hold. -/
theorem row_cells {W : World} {base : Nat} {A : Option Addr} {n c : Nat} {xs : List Int} (h : (Kd.int .u64).R 39 W base (fun _ => True) (.slice A n c) xs) (hp : 0 < xs.length) :
    ∃ gb, A = some ⟨gb, 0, none⟩ ∧ gb < W.heap.size ∧ ∀ t, t < xs.length → W.cell? ⟨gb, t, none⟩ = some (.int .u64 (xs.getD t 0)) := by
  have ho := Kd.own_of_R (h1 := fun _ => rfl) h
  obtain ⟨hl, hr⟩ := ho
  rcases hr with ⟨he, h0⟩ | ⟨gb, cap, cur, he, hb, hc, hn, hcap, hsz, ht⟩
  · omega
  · obtain ⟨rfl, rfl, rfl⟩ : A = some ⟨gb, 0, none⟩ ∧ n = xs.length ∧ c = cap := by simpa using he
    refine ⟨gb, rfl, blk_lt hc, fun t hx => ?_⟩
    have e2 : cur.toList.take xs.length = xs.map (Value.int .u64) := by simpa [encs] using ht
    rw [blk_cell hc, ← Array.getElem?_toList]
    have e3 : cur.toList[t]? = (cur.toList.take xs.length)[t]? := by rw [List.getElem?_take_of_lt hx]
    rw [e3, e2, List.getElem?_map, List.getElem?_eq_getElem hx]
    simp [List.getD_eq_getElem?_getD, List.getElem?_eq_getElem hx]
theorem cell_same {w W : World} {b k : Nat} (h : W.heap[b]? = w.heap[b]?) : W.cell? ⟨b, k, none⟩ = w.cell? ⟨b, k, none⟩ := by simp [World.cell?, h]
/-- A load, by its run. -/
theorem load_event {P : Program} {ops : Array Oper} {Q : Exit → Act → World → Prop} {rest : List Oper} {o : Oper} {a : Act} {W : World} {v v0 : Value} {t : TypeId} {p : Tmp} (hgd : o.guard = none) (ho : o.op = .load t (.tmp p)) (hp : a.eval (.tmp p) = v0) (hr : (Instr.loadAt t v0).run P W = .ok v W)
    (h : wpList P ops Q rest (a.put o.dst v) W) : wpList P ops Q (o :: rest) a W := by
  refine wpList_plain hgd fun K hK => ?_
  unfold Oper.wp execOp
  simp only [ho, hp, hr, Sem.run_bind, Sem.run_pure, Result.andThen_ok]
  exact hK _ _ h
theorem pages_mem {m : Mm} {n : Int} (h : n ∈ tagmem_Mem_Pages.f m) : ∃ p ∈ m.pages, p.no = n := by
  have : n ∈ m.pages.map Pg.no := by
    unfold tagmem_Mem_Pages.f sortI at h
    exact (List.mergeSort_perm _ _).mem_iff.1 h
  obtain ⟨p, hp, rfl⟩ := List.mem_map.1 this
  exact ⟨p, hp, rfl⟩
theorem page_some {m : Mm} {n : Int} (h : ∃ p ∈ m.pages, p.no = n) : ∃ p, m.page n = some p ∧ p.no = n := by
  obtain ⟨p, hp, rfl⟩ := h
  unfold Mm.page
  cases hf : m.pages.find? (fun q => p.no == q.no) with
  | none => exact absurd (List.find?_eq_none.1 hf p hp) (by simp)
  | some q => exact ⟨q, rfl, (beq_iff_eq.1 (show (p.no == q.no) = true from List.find?_some (p := fun q : Pg => p.no == q.no) hf)).symm⟩
theorem flat_next (f : Int → List Int) (l : List Int) (j : Nat) (h : j < l.length) : (l.take (j + 1)).flatMap f = (l.take j).flatMap f ++ f (l.getD j 0) := by
  rw [List.take_succ_eq_append_getElem h, List.flatMap_append]
  simp [List.getD_eq_getElem?_getD, List.getElem?_eq_getElem h]
theorem marks_len (p : Pg) : ∀ i, (p.marks i).length ≤ i
  | 0 => by simp [Pg.marks]
  | i + 1 => by
    have := marks_len p i
    rw [marks_next, List.length_append]
    split <;> simp <;> omega
theorem flat_len (m : Mm) : ∀ l : List Int, (l.flatMap m.marksOf).length ≤ 8 * l.length
  | [] => by simp
  | n :: r => by
    have ih := flat_len m r
    have : (m.marksOf n).length ≤ 8 := by unfold Mm.marksOf; split; exact marks_len _ 8; simp
    simp only [List.flatMap_cons, List.length_append, List.length_cons]
    omega
set_option maxHeartbeats 4000000 in
set_option maxRecDepth 100000 in
theorem Tags_calls {w : World} {g gm : Nat} {L : List Lp} {clock : Nat} {m : Mm} (h : MemL w g gm L clock m) (hn : L.length < 32768) (hno : ∀ p ∈ m.pages, 0 ≤ p.no ∧ p.no < 65536) :
    Calls Try.prog 15 #[.pointer (some ⟨g, 0, none⟩)] w fun e w' => ∃ v : Value, e = .returned v ∧ Kd.R (Kd.int .u64) 39 w' w.heap.size (fun _ => True) v (tagmem_Mem_Tags.f m) ∧ Below w.heap.size w w' := by
  have hM := Aside0.mk h
  have PC := Aside0.mk (Pages_calls h hn)
  have hu := Try.underlying66
  have hu2 := Try.underlying72
  have hlen : (tagmem_Mem_Pages.f m).length < 32768 := by
    unfold tagmem_Mem_Pages.f sortI
    rw [List.length_mergeSort, List.length_map, h.pgs, List.length_map]
    exact hn
  have hmem := fun n hx => page_some (m := m) (n := n) (pages_mem hx)
  have hin := fun n (hx : n ∈ tagmem_Mem_Pages.f m) => (show 0 ≤ n ∧ n < 65536 by obtain ⟨p, hp, rfl⟩ := pages_mem hx; exact hno p hp)
  have HMEM := Aside0.mk hmem
  have HIN := Aside0.mk hin
  have HLEN := Aside0.mk hlen
  clear h hmem hin hlen hno
  generalize hP : tagmem_Mem_Pages.f m = ps at PC HMEM HIN HLEN
  have EP := Aside0.mk (show tagmem_Mem_Tags.f m = ps.flatMap m.marksOf by unfold tagmem_Mem_Tags.f; rw [hP])
  clear hP
  go_enter Try.func15, Try.ntmps15
  go_wp2_with (first | (go_at_call 14; refine PC.out.mono ?_; rintro e w1 ⟨vp, rfl, hr, hb⟩; obtain ⟨A, c, rfl⟩ := Kd.R_slice hr; have HR := Aside0.mk hr; have HB1 := Aside0.mk hb; clear hr hb PC) | fail)
  go_loopw [3, 11] (fun v3 v11 wr => ∃ j : Nat, v11 = .int .i64 j ∧ j ≤ ps.length ∧ Aside0 (Kd.R (Kd.int .u64) 39 wr w1.heap.size (fun _ => True) v3 ((ps.take j).flatMap m.marksOf)) ∧ Aside0 (Below w1.heap.size w1 wr)) (fun _ v11 _ => ps.length - (intOf v11).toNat)
  case atStart => exact ⟨0, rfl, Nat.zero_le _, ⟨Kd.R_nil _ _ _ _ _⟩, ⟨Below.refl _ _⟩⟩
  case round =>
    obtain ⟨j, rfl, hj, HO, HB⟩ := hrel
    have HMw := Aside0.mk ((hM.out.below HB1.out).below HB.out)
    by_cases hlt : j < ps.length
    · have c1 : decide ((j : Int) < ps.length) = true := decide_eq_true (by omega)
      obtain ⟨gb, hA, hgb, hcell⟩ := row_cells HR.out (by omega)
      subst hA
      have hc0 : wr.cell? ⟨gb, j, none⟩ = some (.int .u64 (ps.getD j 0)) := (cell_same (HB.out.block gb hgb)).trans (hcell j hlt)
      clear hcell
      have hnm : ps.getD j 0 ∈ ps := by rw [List.getD_eq_getElem?_getD, List.getElem?_eq_getElem hlt]; exact List.getElem_mem hlt
      have hpl := HLEN.out
      have EF := Aside0.mk (flat_next m.marksOf ps j hlt)
      obtain ⟨n0, n1⟩ := HIN.out _ hnm
      obtain ⟨p, hp, hpn⟩ := HMEM.out _ hnm
      generalize ps.getD j 0 = n at hc0 hnm n0 n1 hp hpn EF
      have hp2 := HMw.out.page n
      rw [hp] at hp2
      have hlk := look_mem HMw.out n
      cases hl : lookL n L with
      | none => rw [hl] at hp2; cases hp2
      | some x =>
        rw [hl] at hp2 hlk
        have hpx : p = x.pg := by simpa using hp2
        subst hpx
        have hx := (lookL_mem hl).1
        have hlk2 : (Instr.lookup 64 (.map (some gm)) (.int .u64 n) false).run Try.prog wr = .ok (.pointer (some ⟨x.blk, 0, none⟩)) wr := hlk
        have hok := Aside0.mk (HMw.out.ok x hx)
        have hld := load_tags hok.out (HMw.out.blk x hx)
        have hcg := blk_cell HMw.out.hd 0
        have EM := Aside0.mk (show m.marksOf n = x.pg.marks 8 by unfold Mm.marksOf; rw [hp])
        have EN := Aside0.mk hpn
        have HIX := Aside0.mk (fun (W : World) (i : Nat) (hi : i < 8) => index_tags (w := W) hok.out hi)
        clear hp hp2 hlk hl hpn hnm
        generalize (x.pg.ts.map Value.bool).toArray = TA at hld HIX
        go_wp2_with (first | ((with_reducible refine gate_dst (N := 23) rfl ?_); refine load_event (p := 22) rfl rfl rfl hld ?_) | fail)
        clear hld hcg hlk2 hc0 HMw
        go_loopw [3, 24] (fun v3 v24 wq => ∃ i : Nat, v24 = .int .i64 i ∧ i ≤ 8 ∧ Aside0 (Kd.R (Kd.int .u64) 39 wq w1.heap.size (fun _ => True) v3 ((ps.take j).flatMap m.marksOf ++ x.pg.marks i)) ∧ Aside0 (Below w1.heap.size w1 wq)) (fun _ v24 _ => 8 - (intOf v24).toNat)
        case atStart => exact ⟨0, rfl, by omega, ⟨by rw [show x.pg.marks 0 = [] from rfl, List.append_nil]; exact HO.out⟩, HB⟩
        case round =>
          clear HO HB
          obtain ⟨i, rfl, hi, HO, HB⟩ := hrel
          by_cases hi8 : i < 8
          · have c2 : decide ((i : Int) < 8) = true := decide_eq_true (by omega)
            have hix := HIX.out wr i hi8
            have EX := Aside0.mk (marks_next x.pg i)
            rw [EN.out] at EX
            have LX := Aside0.mk (show ((ps.take j).flatMap m.marksOf ++ x.pg.marks i).length < 300000 by
              have h1 := flat_len m (ps.take j)
              have h2 := marks_len x.pg i
              rw [List.length_take] at h1
              rw [List.length_append]
              omega)
            cases hb : x.pg.ts.getD i false with
            | false =>
              rw [hb] at hix EX
              go_wp2
              exact ⟨⟨i + 1, by simp, by omega, ⟨by rw [EX.out]; simpa using HO.out⟩, HB⟩, by simp [intOf]; omega⟩
            | true =>
              rw [hb] at hix EX
              go_wp2_with (first | ((with_reducible refine gate_builtin (b := .append) (xs := #[.tmp 29, .tmp 36]) rfl ?_); at_builtin; refine Kd.R_append (Kd.int .u64) (w0 := w1) w1.heap.size rfl (.tmp 29) (.tmp 36) 32 39 (.int .u64 0) 8 rfl Try.underlying32 info39 rfl (by decide) (by omega) u3 ((ps.take j).flatMap m.marksOf ++ x.pg.marks i) (n * 256 + (i : Int) * 32) [.int .u64 (n * 256 + (i : Int) * 32)] (fun _ => True) (fun _ => False) rfl rfl ?aP (fun _ hk => hk.elim) ?aF ?aO ?aB ?aS ?aL ?_; (case aP => exact rfl); (case aB => exact HB.out); (case aF => exact (fun _ _ => trivial)); (case aO => exact HO.out); (case aS => exact (below_size HB.out)); (case aL => have := LX.out; omega); intro v227 w11 ho hb hg hat; have HB4 := Aside0.mk hb; have HO4 := Aside0.mk ho; clear ho hb hg hat) | fail)
              exact ⟨⟨i + 1, by simp, by omega, ⟨by rw [EX.out, if_pos rfl, ← List.append_assoc]; exact HO4.out⟩, HB4⟩, by simp [intOf]; omega⟩
          · obtain rfl : i = 8 := by omega
            have c2 : decide (((8 : Nat) : Int) < 8) = false := by decide
            go_wp2
            exact ⟨⟨j + 1, by simp, by omega, ⟨by rw [EF.out, EM.out]; exact HO.out⟩, HB⟩, by simp [intOf]; omega⟩
    · have c1 : decide ((j : Int) < ps.length) = false := decide_eq_false (by omega)
      have e := Aside0.mk (show ps.take j = ps from List.take_of_length_le (by omega))
      have HO2 := HO.out
      rw [e.out] at HO2
      have HO3 := Aside0.mk (Kd.R_lower HO2 HB1.out.size)
      clear HO2 HO
      go_wp2
      go_ret
      exact ⟨_, rfl, by rw [EP.out]; exact HO3.out, below_step HB1.out HB.out⟩
end Go.Proofs.Ytkppgepljjgjhaa.P
