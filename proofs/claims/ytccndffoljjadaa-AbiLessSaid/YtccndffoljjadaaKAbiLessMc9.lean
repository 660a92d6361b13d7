/- Words of the walks: lemmas about memory, cut down to what this proof uses. No condition. -/
import Derived.Test.YtccndffoljjadaaKAbiLessMc8
namespace Go.Proofs.Ytccndffoljjadaa.P
open Go.RowKit Go.Proofs.YtccndffoljjadaaW.PrintWords Go.Proofs.YtccndffoljjadaaW.PrintLast
set_option linter.unusedVariables false
set_option linter.unusedSimpArgs false
/-- An operation of a drawn region that acts on the world, by its run. -/
theorem ev_ {P : Program} {ops : Array Oper} {Q : Exit → Act → World → Prop} {oi : Oper} {N : Option Tmp} {a : Act} {w w' : World} {K : Act → World → Prop} {v : Value} (hw : Region.wanted oi (yielded ops a.tmps) = true) (hN : oi.dst = N) (hrun : (execOp a.eval oi).run P w = .ok (.value v) w') (h : K (a.put N v) w') :
    if Region.wanted oi (yielded ops a.tmps) = true then Oper.wp P oi a w K Q else K (a.put N undef) w := by
  rw [if_pos hw]; subst hN; unfold Oper.wp; rw [hrun]; exact h
/-- Bytes in the place of others. -/
def splice (bs : List Int) (i : Nat) (r : List Int) : List Int := bs.take i ++ r ++ bs.drop (i + r.length)
theorem splice_length {bs r : List Int} {i : Nat} (h : i + r.length ≤ bs.length) : (splice bs i r).length = bs.length := by
  simp [splice]; omega
theorem cells_splice {p : Pg} (hp : p.Ok) {i : Nat} {r : List Int} (h : i + r.length ≤ 256) :
    (p.cells.toList.take i ++ r.map (Value.int .u8) ++ p.cells.toList.drop (i + (r.map (Value.int .u8)).length)).toArray = ({ p with bs := splice p.bs i r } : Pg).cells := by
  have hb := hp.b
  unfold Pg.cells splice
  simp only [List.map_append, List.map_take, List.map_drop, List.length_map]
  rw [List.take_append_of_le_length (by simp; omega), List.drop_append_of_le_length (by simp; omega)]
  simp [List.append_assoc]
theorem Pg.size_cells {p : Pg} (hp : p.Ok) : p.cells.size = 264 := by
  have := hp.b; have := hp.t
  simp [Pg.cells]; omega
/-- Bytes are copied into a page. -/
theorem run_copyPg {W : World} {b : Nat} {p : Pg} (hp : p.Ok) (hb : W.heap[b]? = some (.cells p.cells 84 (0, 0))) {i : Nat} {A : Option Addr} {co : Nat} {r : List Int} (hr : Kd.C (Kd.int .u8) W A r.length r) (hfit : i + r.length ≤ 256) (dl dc : Nat) (hdl : r.length ≤ dl) (h0 : 0 < r.length) :
    (Builtin.copy_ #[59, 59] 3 #[.slice (some ⟨b, i, none⟩) dl dc, .slice A r.length co]).run Try.prog W = .ok (goInt r.length) (W.setRow b ({ p with bs := splice p.bs i r } : Pg).cells) := by
  obtain ⟨ad, rfl, hc⟩ := hr.2.2 h0
  have h := run_copy_row (P := Try.prog) W 59 59 3 5 b i dl dc ad r.length co p.cells 84 (r.map (Value.int .u8)) Try.underlying59 (by kernel_rfl) hb (by rw [List.length_map]; exact (Nat.min_eq_left hdl).symm) (fun j v hj => by
      rw [List.getElem?_map] at hj
      cases hq : r[j]? with
      | none => rw [hq] at hj; cases hj
      | some q =>
        rw [hq] at hj
        obtain ⟨c, hl, hk, hcell⟩ := hc j q hq
        have hk' : c = [.int .u8 q] := hk
        subst hk'
        have := hcell 0 (.int .u8 q) rfl
        rw [show j * (Kd.int .u8).sz + 0 = j from by show j * 1 + 0 = j; omega] at this
        rw [this]; simpa using hj) (by rw [List.length_map, Pg.size_cells hp]; omega) (fun v hv => by
      obtain ⟨q, _, rfl⟩ := List.mem_map.1 hv; rfl)
  rw [h, cells_splice hp hfit, List.length_map]
theorem row_same {w : World} {b : Nat} {cs0 cs : Array Value} {t : TypeId} (h : w.heap[b]? = some (.cells cs0 t (0, 0))) : (w.setRow b cs).heap[b]? = some (.cells cs t (0, 0)) := setRow_heap w b cs0 cs t (0, 0) h
theorem row_upd (w : World) {b : Nat} (cs : Array Value) {S : Nat → Prop} (hs : S b) : Upd w (w.setRow b cs) S :=
  ⟨rfl, rfl, rfl, by simp [World.setRow], fun k hk hn => setRow_other w b k cs (fun e => hn (e ▸ hs))⟩
/-- A page is written, whatever is written of it. -/
theorem MemL.write' {w W : World} {g gm : Nat} {L : List Lp} {clock : Nat} {m : Mm} (h : MemL w g gm L clock m) {x : Lp} (hx : x ∈ L) {p : Pg} (hno : p.no = x.pg.no) (hok : p.Ok) (hW : W.heap[x.blk]? = some (.cells p.cells 84 (0, 0))) (ho : Upd w W (· = x.blk)) :
    ∃ L', MemL W g gm L' clock (m.put p) ∧ L'.map Lp.blk = L.map Lp.blk := by
  refine ⟨_, h.write hx hno hok hW (fun k hk hne => ho.block k hk hne), ?_⟩
  rw [List.map_map]
  refine List.map_congr_left fun y hy => ?_
  simp only [Function.comp]
  split <;> rfl
def Pg.store (p : Pg) (i : Int) (r : List Int) : Pg := { p with bs := splice p.bs i.toNat r, ts := p.ts.set (i / 32).toNat false }
def tagmem_Mem_Store.f (k : Nat) (m : Mm) (a n u : Int) : Option (Mm × Int) := if size_ok n then (if a % n = 0 then (match m.page (a / 256) with | some p => (word_Little.f k u n).bind fun r => if 0 < r.length ∧ (a % 256).toNat + r.length ≤ 256 then some (m.put (p.store (a % 256) r), 0) else none | none => some (m, 30)) else some (m, 31)) else some (m, 1)
theorem pair_mm {a : Mm} {b : Int} {r1 : Mm} {r2 : Int} (h : some (a, b) = some (r1, r2)) : a = r1 ∧ b = r2 := by cases h; exact ⟨rfl, rfl⟩
end Go.Proofs.Ytccndffoljjadaa.P
