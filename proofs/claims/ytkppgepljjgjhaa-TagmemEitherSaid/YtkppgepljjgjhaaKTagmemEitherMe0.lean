/- Texts of one proof, one behind the other. No condition. -/
import Derived.Test.YtkppgepljjgjhaaKTagmemEitherRa3
import Derived.Test.YtkppgepljjgjhaaKTagmemEitherMc6
namespace Go.Proofs.Ytkppgepljjgjhaa.P
open Go.RowKit Go.Proofs.YtkppgepljjgjhaaW.PrintWords Go.Proofs.YtkppgepljjgjhaaW.PrintLast Go.Proofs.YtkppgepljjgjhaaW.PrintMore
set_option linter.unusedVariables false
set_option linter.unusedSimpArgs false
def Rm.others (r : Rm) (a : Int) (n : Nat) : List S89 := (r.cells.take n).filter fun c => decide (c.f0 ≠ a)
def Rm.setCells (r : Rm) (a b : Int) : List S89 := (r.cells.filter fun c => decide (c.f0 ≠ a)) ++ (if b = 0 then [] else [⟨a, b⟩])
def Rm.set (r : Rm) (a b : Int) : Rm := { r with cells := r.setCells a b, marks := r.marks.filter (fun x => decide (x ≠ a - a % 32)) }
theorem take_T89 {l : List S89} {j : Nat} (h : j < l.length) : l.take (j + 1) = l.take j ++ [rd_T89 l (j : Int)] := by
  rw [List.take_add_one, List.getElem?_eq_getElem h, rdT89_get h]
  rfl
theorem others_hit {r : Rm} {a : Int} {j : Nat} (h : j < r.cells.length) (he : ¬ (rd_T89 r.cells (j : Int)).f0 = a) : r.others a (j + 1) = r.others a j ++ [rd_T89 r.cells (j : Int)] := by
  unfold Rm.others
  rw [take_T89 h, List.filter_append, List.filter_cons_of_pos (by simpa using he)]
  rfl
theorem others_miss {r : Rm} {a : Int} {j : Nat} (h : j < r.cells.length) (he : (rd_T89 r.cells (j : Int)).f0 = a) : r.others a (j + 1) = r.others a j := by
  unfold Rm.others
  rw [take_T89 h, List.filter_append, List.filter_cons_of_neg (by simpa using he), List.filter_nil, List.append_nil]
theorem others_length (r : Rm) (a : Int) (n : Nat) : (r.others a n).length ≤ r.cells.length := by
  unfold Rm.others
  exact Nat.le_trans (List.length_filter_le _ _) (by rw [List.length_take]; omega)
section
variable {w : World} {g : Nat} {K : Nat → Prop} {r : Rm}
set_option maxHeartbeats 4000000 in
set_option maxRecDepth 100000 in
theorem set_calls (h : RefL w g K r) (ho : r.Ok) (a b : Int) (h0 : 0 ≤ a) (h1 : a ≤ 18446744073709551615) :
    Calls Try.prog 72 #[.pointer (some ⟨g, 0, none⟩), .int .u64 a, .int .u8 b] w fun e w' => e = .returned (.tuple #[]) ∧ ∃ K', RefL w' g K' (r.set a b) ∧ (∀ k, K' k → K k ∨ w.heap.size ≤ k) ∧ Upd w w' (· = g) := by
  have HB0 := Aside0.mk (Below.refl w.heap.size w)
  have hu37 := Try.underlying37
  have hu89 := Try.underlying89
  have hcl := ho.c
  obtain ⟨A0x, c0x, A1x, c1x, A2x, c2x, ⟨z0, z1, z2, z3⟩, -, -, -⟩ := h.cells_
  have HK : ∀ (W2 W4 W5 : World) (s : Nat), w.heap.size ≤ s → ∀ k, ((K k ∨ (w.heap.size ≤ k ∧ k < W2.heap.size)) ∨ (s ≤ k ∧ k < W4.heap.size)) → K k ∨ w.heap.size ≤ k := by
    intro W2 W4 W5 s hs k hk
    rcases hk with (hk | hk) | hk
    · exact .inl hk
    · exact .inr hk.1
    · exact .inr (by omega)
  replace HK := Aside0.mk HK
  go_enter Try.func72, Try.ntmps72
  go_wp2
  go_loopw [6, 7] (fun v6 v7 wr => ∃ (j : Nat), v7 = .int .i64 j ∧ j ≤ r.cells.length ∧ Aside0 (Kd.R k89 89 wr w.heap.size (fun _ => True) v6 (r.others a j)) ∧ Aside0 (Below w.heap.size w wr)) (fun _ v7 _ => r.cells.length - (intOf v7).toNat)
  case atStart => exact ⟨0, rfl, by omega, ⟨Kd.R_nil _ _ _ _ _⟩, HB0⟩
  case round =>
    clear z0 z1 z2 z3
    obtain ⟨j, rfl, hj, HO, HB⟩ := hrel
    obtain ⟨A0x, c0x, A1x, c1x, A2x, c2x, ⟨z0, z1, z2, z3⟩, ⟨f0, f1, f2⟩, ⟨l0, l1, l2⟩, ⟨C0, C1, C2⟩⟩ := (h.below HB.out).cells_
    replace C0 := Aside0.mk C0
    replace C1 := Aside0.mk C1
    replace C2 := Aside0.mk C2
    replace l0 := Aside0.mk l0
    replace l1 := Aside0.mk l1
    replace l2 := Aside0.mk l2
    by_cases hlt : j < r.cells.length
    · obtain ⟨ad, eA, hx0, hx1⟩ := at_T89 C1.out (j : Int) (by omega) (by omega)
      cases eA
      rw [Int.toNat_natCast] at hx0 hx1
      have W3 := next64 hlt (by omega)
      have LN := others_length r a j
      by_cases he : (rd_T89 r.cells (j : Int)).f0 = a
      · have hb := Aside0.mk (others_miss hlt he)
        have d1 : ((rd_T89 r.cells (j : Int)).f0 != a) = false := bne_eq_false_iff_eq.2 he
        replace he := Aside0.mk he
        go_wp2
        exact ⟨⟨j + 1, by first | rfl | rw [W3], hlt, ⟨by rw [hb.out]; exact HO.out⟩, HB⟩, by first | exact round_meas hlt | (rw [W3]; exact round_meas hlt)⟩
      · have Ny := Aside0.mk (others_hit hlt he)
        have d1 : ((rd_T89 r.cells (j : Int)).f0 != a) = true := bne_iff_ne.2 he
        go_wp2_with (first | ((with_reducible refine gate_builtin (b := .append) (xs := #[.tmp 27, .tmp 35]) rfl ?_); at_builtin; refine Kd.R_append k89 (w0 := w) w.heap.size rfl (.tmp 27) (.tmp 35) 35 89 (.agg #[.int .u64 0, .int .u8 0]) 16 rfl Try.underlying35 info89 rfl (by decide) (by omega) u6 (r.others a j) (rd_T89 r.cells (j : Int)) [.int .u64 (rd_T89 r.cells (j : Int)).f0, .int .u8 (rd_T89 r.cells (j : Int)).f1] (fun _ => True) (fun _ => False) rfl rfl (k89_mkM _ _ _ _) (fun _ hk => hk.elim) (fun _ _ => trivial) HO.out HB.out HB.out.size ?aL ?_; (case aL => show ((r.others a j).length + 1) * 16 ≤ 140737488355328; omega); intro v2 W2 ho2 hb2 hg2 hat2; rw [← Ny.out] at ho2; have HO2 := Aside0.mk ho2; have HB2 := Aside0.mk hb2; clear ho2 hb2 hg2 hat2) | fail)
        exact ⟨⟨j + 1, by first | rfl | rw [W3], hlt, HO2, HB2⟩, by first | exact round_meas hlt | (rw [W3]; exact round_meas hlt)⟩
    · obtain rfl : j = r.cells.length := by omega
      have LN := others_length r a r.cells.length
      have EO : r.others a r.cells.length = r.cells.filter fun c => decide (c.f0 ≠ a) := by unfold Rm.others; rw [List.take_length]
      by_cases hb0 : b = 0
      · have ES : r.setCells a b = r.others a r.cells.length := by unfold Rm.setCells; rw [if_pos hb0, List.append_nil, EO]
        have d2 : (b != 0) = false := bne_eq_false_iff_eq.2 hb0
        replace hb0 := Aside0.mk hb0
        replace ES := Aside0.mk ES
        clear EO
        obtain ⟨A', c', rfl, hle, hF⟩ := R_own_F HO.out
        have HL1 := Aside0.mk hle
        have HF1 := Aside0.mk hF
        have HB2 := HB
        clear hle hF
        go_wp2_with (first | ((with_reducible refine gate_store (t := 35) (p := 48) rfl ?_); refine store_event (t := 35) (p := 48) (v := ?vopa) (w1 := wr.setCell ⟨g, 1, none⟩ ((.slice A' (r.others a r.cells.length).length c'))) ?hg ?ho ?hn ?hr ?_; (case ho => rfl); (case hg => rfl); (case hn => rfl); (case hr => first | (go_simp; done) | (go_simp; rfl)); intro W3 hw; have HR3 := Aside0.mk ((h.below HB2.out).set1 (A := A') (c := c') (l := r.others a r.cells.length) HL1.out HF1.out (fun k hk => ⟨by have := h.glt; omega, hk.2⟩)); have HU3 := Aside0.mk ((Upd.of_below HB2.out (· = g)).then_ (Upd.setCell wr (p := ⟨g, 1, none⟩) (S := (· = g)) rfl (.slice A' (r.others a r.cells.length).length c')) (fun _ hk => .inl hk)); rw [← hw] at HR3 HU3; clear hw; clear z0 z1 z2 z3 f0 f1 f2 l0 l1 l2 C0 C1 C2; obtain ⟨A0x, c0x, A1x, c1x, A2x, c2x, ⟨z0, z1, z2, z3⟩, ⟨f0, f1, f2⟩, ⟨l0, l1, l2⟩, ⟨C0, C1, C2⟩⟩ := HR3.out.cells_; replace C0 := Aside0.mk C0; replace C1 := Aside0.mk C1; replace C2 := Aside0.mk C2; replace l0 := Aside0.mk l0; replace l1 := Aside0.mk l1; replace l2 := Aside0.mk l2) | (go_at_call 52; refine (take_calls A2x c2x r.marks (a - a % 32) C2.out l2.out (by have := ho.k; omega)).mono ?_; rintro e W4 ⟨A5, c5, rfl, hl5, hF5, hb5⟩; have HL5 := Aside0.mk hl5; have HF5 := Aside0.mk hF5; have HR4 := Aside0.mk (HR3.out.below hb5); have HU4 := Aside0.mk (HU3.out.then_ (Upd.of_below hb5 (· = g)) (fun _ hk => .inl hk)); clear hl5 hF5 hb5; clear z0 z1 z2 z3 f0 f1 f2 l0 l1 l2 C0 C1 C2; obtain ⟨A0x, c0x, A1x, c1x, A2x, c2x, ⟨z0, z1, z2, z3⟩, ⟨f0, f1, f2⟩, ⟨l0, l1, l2⟩, ⟨C0, C1, C2⟩⟩ := HR4.out.cells_; replace C0 := Aside0.mk C0; replace C1 := Aside0.mk C1; replace C2 := Aside0.mk C2; replace l0 := Aside0.mk l0; replace l1 := Aside0.mk l1; replace l2 := Aside0.mk l2) | ((with_reducible refine gate_store (t := 32) (p := 60) rfl ?_); refine store_event (t := 32) (p := 60) (v := ?vopb) (w1 := W4.setCell ⟨g, 2, none⟩ ((.slice A5 (r.marks.filter (fun x => decide (x ≠ a - a % 32))).length c5))) ?hg ?ho ?hn ?hr ?_; (case ho => rfl); (case hg => rfl); (case hn => rfl); (case hr => first | (go_simp; done) | (go_simp; rfl)); intro W5 hw; have HR5 := Aside0.mk (HR4.out.set2 (A := A5) (c := c5) (l := r.marks.filter (fun x => decide (x ≠ a - a % 32))) HL5.out HF5.out (fun k hk => ⟨by have := h.glt; have := HU3.out.size; omega, hk.2⟩)); have HU5 := Aside0.mk (HU4.out.then_ (Upd.setCell W4 (p := ⟨g, 2, none⟩) (S := (· = g)) rfl (.slice A5 (r.marks.filter (fun x => decide (x ≠ a - a % 32))).length c5)) (fun _ hk => .inl hk)); rw [← hw] at HR5 HU5; clear hw; clear z0 z1 z2 z3 f0 f1 f2 l0 l1 l2 C0 C1 C2) | fail)
        go_end0
        exact ⟨rfl, _, (show RefL W5 g _ (r.set a b) from by unfold Rm.set; rw [ES.out]; exact HR5.out), HK.out _ _ W5 _ HU3.out.size, HU5.out⟩
      · obtain ⟨y, hy⟩ : ∃ y, y = r.others a r.cells.length ++ [⟨a, b⟩] := ⟨_, rfl⟩
        have ES : r.setCells a b = y := by unfold Rm.setCells; rw [if_neg hb0, hy, EO]
        have Ny := Aside0.mk hy
        clear hy
        have d2 : (b != 0) = true := bne_iff_ne.2 hb0
        replace ES := Aside0.mk ES
        clear EO
        go_wp2_with (first | ((with_reducible refine gate_builtin (b := .append) (xs := #[.tmp 39, .tmp 43]) rfl ?_); at_builtin; refine Kd.R_append k89 (w0 := w) w.heap.size rfl (.tmp 39) (.tmp 43) 35 89 (.agg #[.int .u64 0, .int .u8 0]) 16 rfl Try.underlying35 info89 rfl (by decide) (by omega) u6 (r.others a r.cells.length) (⟨a, b⟩ : S89) [.int .u64 a, .int .u8 b] (fun _ => True) (fun _ => False) rfl rfl (k89_mkM _ _ _ _) (fun _ hk => hk.elim) (fun _ _ => trivial) HO.out HB.out HB.out.size ?aL ?_; (case aL => show ((r.others a r.cells.length).length + 1) * 16 ≤ 140737488355328; omega); intro v2 W2 ho2 hb2 hg2 hat2; rw [← Ny.out] at ho2; have HO2 := Aside0.mk ho2; have HB2 := Aside0.mk hb2; clear ho2 hb2 hg2 hat2; obtain ⟨A', c', rfl, hle, hF⟩ := R_own_F HO2.out; have HL1 := Aside0.mk hle; have HF1 := Aside0.mk hF; clear hle hF; clear z0 z1 z2 z3 f0 f1 f2 l0 l1 l2 C0 C1 C2; have HR2 := Aside0.mk (h.below HB2.out); obtain ⟨A0x, c0x, A1x, c1x, A2x, c2x, ⟨z0, z1, z2, z3⟩, ⟨f0, f1, f2⟩, ⟨l0, l1, l2⟩, ⟨C0, C1, C2⟩⟩ := HR2.out.cells_; replace C0 := Aside0.mk C0; replace C1 := Aside0.mk C1; replace C2 := Aside0.mk C2; replace l0 := Aside0.mk l0; replace l1 := Aside0.mk l1; replace l2 := Aside0.mk l2) | ((with_reducible refine gate_store (t := 35) (p := 48) rfl ?_); refine store_event (t := 35) (p := 48) (v := ?voqa) (w1 := W2.setCell ⟨g, 1, none⟩ ((.slice A' (y).length c'))) ?hg ?ho ?hn ?hr ?_; (case ho => rfl); (case hg => rfl); (case hn => rfl); (case hr => first | (go_simp; done) | (go_simp; rfl)); intro W3 hw; have HR3 := Aside0.mk ((h.below HB2.out).set1 (A := A') (c := c') (l := y) HL1.out HF1.out (fun k hk => ⟨by have := h.glt; omega, hk.2⟩)); have HU3 := Aside0.mk ((Upd.of_below HB2.out (· = g)).then_ (Upd.setCell W2 (p := ⟨g, 1, none⟩) (S := (· = g)) rfl (.slice A' (y).length c')) (fun _ hk => .inl hk)); rw [← hw] at HR3 HU3; clear hw; clear z0 z1 z2 z3 f0 f1 f2 l0 l1 l2 C0 C1 C2; obtain ⟨A0x, c0x, A1x, c1x, A2x, c2x, ⟨z0, z1, z2, z3⟩, ⟨f0, f1, f2⟩, ⟨l0, l1, l2⟩, ⟨C0, C1, C2⟩⟩ := HR3.out.cells_; replace C0 := Aside0.mk C0; replace C1 := Aside0.mk C1; replace C2 := Aside0.mk C2; replace l0 := Aside0.mk l0; replace l1 := Aside0.mk l1; replace l2 := Aside0.mk l2) | (go_at_call 52; refine (take_calls A2x c2x r.marks (a - a % 32) C2.out l2.out (by have := ho.k; omega)).mono ?_; rintro e W4 ⟨A5, c5, rfl, hl5, hF5, hb5⟩; have HL5 := Aside0.mk hl5; have HF5 := Aside0.mk hF5; have HR4 := Aside0.mk (HR3.out.below hb5); have HU4 := Aside0.mk (HU3.out.then_ (Upd.of_below hb5 (· = g)) (fun _ hk => .inl hk)); clear hl5 hF5 hb5; clear z0 z1 z2 z3 f0 f1 f2 l0 l1 l2 C0 C1 C2; obtain ⟨A0x, c0x, A1x, c1x, A2x, c2x, ⟨z0, z1, z2, z3⟩, ⟨f0, f1, f2⟩, ⟨l0, l1, l2⟩, ⟨C0, C1, C2⟩⟩ := HR4.out.cells_; replace C0 := Aside0.mk C0; replace C1 := Aside0.mk C1; replace C2 := Aside0.mk C2; replace l0 := Aside0.mk l0; replace l1 := Aside0.mk l1; replace l2 := Aside0.mk l2) | ((with_reducible refine gate_store (t := 32) (p := 60) rfl ?_); refine store_event (t := 32) (p := 60) (v := ?voqb) (w1 := W4.setCell ⟨g, 2, none⟩ ((.slice A5 (r.marks.filter (fun x => decide (x ≠ a - a % 32))).length c5))) ?hg ?ho ?hn ?hr ?_; (case ho => rfl); (case hg => rfl); (case hn => rfl); (case hr => first | (go_simp; done) | (go_simp; rfl)); intro W5 hw; have HR5 := Aside0.mk (HR4.out.set2 (A := A5) (c := c5) (l := r.marks.filter (fun x => decide (x ≠ a - a % 32))) HL5.out HF5.out (fun k hk => ⟨by have := h.glt; have := HU3.out.size; omega, hk.2⟩)); have HU5 := Aside0.mk (HU4.out.then_ (Upd.setCell W4 (p := ⟨g, 2, none⟩) (S := (· = g)) rfl (.slice A5 (r.marks.filter (fun x => decide (x ≠ a - a % 32))).length c5)) (fun _ hk => .inl hk)); rw [← hw] at HR5 HU5; clear hw; clear z0 z1 z2 z3 f0 f1 f2 l0 l1 l2 C0 C1 C2) | fail)
        go_end0
        exact ⟨rfl, _, (show RefL W5 g _ (r.set a b) from by unfold Rm.set; rw [ES.out]; exact HR5.out), HK.out _ _ W5 _ HU3.out.size, HU5.out⟩
end
end Go.Proofs.Ytkppgepljjgjhaa.P

namespace Go.Proofs.Ytkppgepljjgjhaa.P
set_option linter.unusedVariables false
set_option linter.unusedSimpArgs false
/-- Its pages are apart, whole, in range. -/
structure Mm.Wf (m : Mm) : Prop where
  keys : (m.pages.map Pg.no).Nodup
  ok : ∀ p ∈ m.pages, p.Ok
  byt : ∀ p ∈ m.pages, ∀ b ∈ p.bs, 0 ≤ b ∧ b < 256
  no : ∀ p ∈ m.pages, 0 ≤ p.no ∧ p.no < 65536
def Mm.tag (m : Mm) (a : Int) : Bool := match m.page (a / 256) with | some p => p.ts.getD (a % 256 / 32).toNat false | none => false
/-- Is an address mapped? -/
def Mm.has (m : Mm) (a : Int) : Bool := (m.page (a / 256)).isSome
theorem Mm.Wf.new (b : Int) : Mm.Wf ⟨b, []⟩ := ⟨List.nodup_nil, fun p h => (by cases h), fun p h => (by cases h), fun p h => (by cases h)⟩
theorem page_mem {m : Mm} {n : Int} {p : Pg} (h : m.page n = some p) : p ∈ m.pages ∧ p.no = n := by
  unfold Mm.page at h
  exact ⟨List.mem_of_find?_eq_some h, (beq_iff_eq.1 (show (n == p.no) = true from List.find?_some (p := fun p : Pg => n == p.no) h)).symm⟩
theorem put_no (p q : Pg) : (if q.no = p.no then p else q).no = q.no := by
  split
  · rename_i h; exact h.symm
  · rfl
theorem pagePut (m : Mm) (p : Pg) (n : Int) : (m.put p).page n = if n = p.no then (m.page n).map (fun _ => p) else m.page n := by
  unfold Mm.page Mm.put
  simp only
  rw [List.find?_map]
  have e : ((fun q : Pg => n == q.no) ∘ fun q : Pg => if q.no = p.no then p else q) = fun q : Pg => n == q.no := by
    funext q
    simp only [Function.comp, put_no]
  rw [e]
  cases hf : m.pages.find? (fun q => n == q.no) with
  | none => simp
  | some q =>
    have hq : n = q.no := beq_iff_eq.1 (show (n == q.no) = true from List.find?_some (p := fun p : Pg => n == p.no) hf)
    simp only [Option.map_some]
    by_cases c : n = p.no
    · rw [if_pos c, if_pos (by rw [← hq]; exact c)]
    · rw [if_neg c, if_neg (by rw [← hq]; exact c)]
theorem Mm.Wf.put {m : Mm} (h : m.Wf) {p : Pg} (hp : p.Ok) (hb : ∀ b ∈ p.bs, 0 ≤ b ∧ b < 256) (hn : 0 ≤ p.no ∧ p.no < 65536) : (m.put p).Wf := by
  have e : (m.put p).pages.map Pg.no = m.pages.map Pg.no := by
    unfold Mm.put
    rw [List.map_map]
    exact List.map_congr_left fun q _ => put_no p q
  have hm : ∀ q ∈ (m.put p).pages, q = p ∨ q ∈ m.pages := fun q hq => by
    obtain ⟨r, hr, rfl⟩ := List.mem_map.1 hq
    split
    · exact .inl rfl
    · exact .inr hr
  exact ⟨by rw [e]; exact h.keys, fun q hq => (hm q hq).elim (fun e => e ▸ hp) (h.ok q), fun q hq => (hm q hq).elim (fun e => e ▸ hb) (h.byt q), fun q hq => (hm q hq).elim (fun e => e ▸ hn) (h.no q)⟩
theorem Mm.Wf.poke {m : Mm} (h : m.Wf) {a b : Int} (hb : 0 ≤ b ∧ b < 256) : (m.poke a b).Wf := by
  unfold Mm.poke
  cases hp : m.page (a / 256) with
  | none => exact h
  | some p =>
    obtain ⟨hm, hn⟩ := page_mem hp
    refine h.put (Pg.poke_ok (h.ok p hm) _ _) (fun c hc => ?_) (h.no p hm)
    rcases List.mem_or_eq_of_mem_set hc with hc | hc
    · exact h.byt p hm c hc
    · rw [hc]; exact hb
theorem Mm.Wf.pokes : ∀ (l : List Int) {m : Mm} (h : m.Wf) (a : Int), (∀ b ∈ l, 0 ≤ b ∧ b < 256) → (m.pokes a l).Wf
  | [], m, h, a, _ => h
  | b :: r, m, h, a, hb => Mm.Wf.pokes r (h.poke (hb b List.mem_cons_self)) (a + 1) (fun c hc => hb c (List.mem_cons_of_mem _ hc))
theorem bytes_is (m : Mm) (a : Int) : ∀ n, m.bytes a n = (List.range n).map (fun i : Nat => m.byte (a + (i : Int)))
  | 0 => rfl
  | n + 1 => by rw [List.range_succ, List.map_append, ← bytes_is m a n]; rfl
theorem byte_range {m : Mm} (h : m.Wf) (x : Int) : 0 ≤ m.byte x ∧ m.byte x < 256 := by
  unfold Mm.byte
  cases hp : m.page (x / 256) with
  | none => simp
  | some p =>
    have hl := (h.ok p (page_mem hp).1).b
    have hlt : (x % 256).toNat < p.bs.length := by omega
    simp only [List.getD_eq_getElem?_getD, List.getElem?_eq_getElem hlt, Option.getD_some]
    exact h.byt p (page_mem hp).1 _ (List.getElem_mem hlt)
end Go.Proofs.Ytkppgepljjgjhaa.P
