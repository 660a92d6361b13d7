/- Texts of one proof, one behind the other. No condition. -/
import Derived.Test.YtccndffoljjadaaKAbiTextsMc7
namespace Go.Proofs.Ytccndffoljjadaa.P
open Go.RowKit Go.Proofs.YtccndffoljjadaaW.PrintWords Go.Proofs.YtccndffoljjadaaW.PrintLast
open Go.ChangeMaps (setBlock)
set_option linter.unusedVariables false
set_option linter.unusedSimpArgs false
theorem size_alloc (w : World) (o : Obj) : (w.alloc o).heap.size = w.heap.size + 1 := by simp
set_option maxHeartbeats 4000000 in
set_option maxRecDepth 100000 in
theorem New_none (b : Int) (w : World) (h : b < 0 ∨ b > 256) : Calls Try.prog 9 #[.int .i64 b] w fun e w' => e = .returned (.tuple #[.pointer none, .int .i64 1]) ∧ w' = w := by
  by_cases c : b < 0
  · have c1 : decide (b < 0) = true := decide_eq_true c
    go_enter Try.func9, Try.ntmps9
    go_wp2
    go_ret2
    exact ⟨rfl, rfl⟩
  · have c1 : decide (b < 0) = false := decide_eq_false c
    have c2 : decide (256 < b) = true := decide_eq_true (by omega)
    go_enter Try.func9, Try.ntmps9
    go_wp2
    go_ret2
    exact ⟨rfl, rfl⟩
set_option maxHeartbeats 4000000 in
set_option maxRecDepth 100000 in
theorem New_some (b : Int) (w : World) (h0 : 0 ≤ b) (h1 : b ≤ 256) : Calls Try.prog 9 #[.int .i64 b] w fun e w' => ∃ g gm, e = .returned (.tuple #[.pointer (some ⟨g, 0, none⟩), .int .i64 0]) ∧ MemL w' g gm [] 0 ⟨b, []⟩ ∧ w.heap.size ≤ g ∧ w.heap.size ≤ gm ∧ Below w.heap.size w w' := by
  have c1 : decide (b < 0) = false := decide_eq_false (by omega)
  have c2 : decide (256 < b) = false := decide_eq_false (by omega)
  have hu := Try.underlying65
  have hmk := fun w => run_makeMap (P := Try.prog) 63 w
  go_enter Try.func9, Try.ntmps9
  go_wp2
  go_ret2
  have h2 := blk_new (w.alloc (.map #[] 0)) (.cells #[.map (some w.heap.size), .int .i64 b] 65 (0, 0))
  rw [size_alloc] at h2
  refine ⟨_, _, rfl, MemL.new (gm := w.heap.size) (blk_alloc (blk_new _ _) _) h2, by omega, Nat.le_refl _, below_alloc (below_alloc (Below.refl _ _) _) _⟩
def Mm.dels (m : Mm) (p : Int) : Nat → Mm
  | 0 => m
  | j + 1 => (m.dels p j).del (p + j)
def tagmem_Mem_Unmap.f (m : Mm) (p n : Int) : Mm × Int := if someB p n = false then (m, 1) else if alld m p n true = false then (m, 30) else (m.dels p n.toNat, 0)
end Go.Proofs.Ytccndffoljjadaa.P

namespace Go.Proofs.Ytccndffoljjadaa.P
open Go.RowKit Go.Proofs.YtccndffoljjadaaW.PrintWords Go.Proofs.YtccndffoljjadaaW.PrintLast
set_option linter.unusedVariables false
set_option linter.unusedSimpArgs false
/-- An operation of a drawn region that acts on the world, by its run. -/
theorem ev_ {P : Program} {ops : Array Oper} {Q : Exit → Act → World → Prop} {oi : Oper} {N : Option Tmp} {a : Act} {w w' : World} {K : Act → World → Prop} {v : Value} (hw : Region.wanted oi (yielded ops a.tmps) = true) (hN : oi.dst = N) (hrun : (execOp a.eval oi).run P w = .ok (.value v) w') (h : K (a.put N v) w') :
    if Region.wanted oi (yielded ops a.tmps) = true then Oper.wp P oi a w K Q else K (a.put N undef) w := by
  rw [if_pos hw]; subst hN; unfold Oper.wp; rw [hrun]; exact h
/-- Bytes in the place of others. -/
def splice (bs : List Int) (i : Nat) (r : List Int) : List Int := bs.take i ++ r ++ bs.drop (i + r.length)
theorem splice_length {bs r : List Int} {i : Nat} (h : i + r.length ≤ bs.length) : (splice bs i r).length = bs.length := by
  simp [splice]; omega
theorem cells_splice {p : Pg} (hp : p.Ok) {i : Nat} {r : List Int} (h : i + r.length ≤ 256) :
    (p.cells.toList.take i ++ r.map (Value.int .u8) ++ p.cells.toList.drop (i + (r.map (Value.int .u8)).length)).toArray = ({ p with bs := splice p.bs i r } : Pg).cells := by
  have hb := hp.b
  unfold Pg.cells splice
  simp only [List.map_append, List.map_take, List.map_drop, List.length_map]
  rw [List.take_append_of_le_length (by simp; omega), List.drop_append_of_le_length (by simp; omega)]
  simp [List.append_assoc]
theorem Pg.size_cells {p : Pg} (hp : p.Ok) : p.cells.size = 264 := by
  have := hp.b; have := hp.t
  simp [Pg.cells]; omega
/-- Bytes are copied into a page. -/
theorem run_copyPg {W : World} {b : Nat} {p : Pg} (hp : p.Ok) (hb : W.heap[b]? = some (.cells p.cells 84 (0, 0))) {i : Nat} {A : Option Addr} {co : Nat} {r : List Int} (hr : Kd.C (Kd.int .u8) W A r.length r) (hfit : i + r.length ≤ 256) (dl dc : Nat) (hdl : r.length ≤ dl) (h0 : 0 < r.length) :
    (Builtin.copy_ #[59, 59] 3 #[.slice (some ⟨b, i, none⟩) dl dc, .slice A r.length co]).run Try.prog W = .ok (goInt r.length) (W.setRow b ({ p with bs := splice p.bs i r } : Pg).cells) := by
  obtain ⟨ad, rfl, hc⟩ := hr.2.2 h0
  have h := run_copy_row (P := Try.prog) W 59 59 3 5 b i dl dc ad r.length co p.cells 84 (r.map (Value.int .u8)) Try.underlying59 (by kernel_rfl) hb (by rw [List.length_map]; exact (Nat.min_eq_left hdl).symm) (fun j v hj => by
      rw [List.getElem?_map] at hj
      cases hq : r[j]? with
      | none => rw [hq] at hj; cases hj
      | some q =>
        rw [hq] at hj
        obtain ⟨c, hl, hk, hcell⟩ := hc j q hq
        have hk' : c = [.int .u8 q] := hk
        subst hk'
        have := hcell 0 (.int .u8 q) rfl
        rw [show j * (Kd.int .u8).sz + 0 = j from by show j * 1 + 0 = j; omega] at this
        rw [this]; simpa using hj) (by rw [List.length_map, Pg.size_cells hp]; omega) (fun v hv => by
      obtain ⟨q, _, rfl⟩ := List.mem_map.1 hv; rfl)
  rw [h, cells_splice hp hfit, List.length_map]
theorem row_same {w : World} {b : Nat} {cs0 cs : Array Value} {t : TypeId} (h : w.heap[b]? = some (.cells cs0 t (0, 0))) : (w.setRow b cs).heap[b]? = some (.cells cs t (0, 0)) := setRow_heap w b cs0 cs t (0, 0) h
theorem row_upd (w : World) {b : Nat} (cs : Array Value) {S : Nat → Prop} (hs : S b) : Upd w (w.setRow b cs) S :=
  ⟨rfl, rfl, rfl, by simp [World.setRow], fun k hk hn => setRow_other w b k cs (fun e => hn (e ▸ hs))⟩
/-- A page is written, whatever is written of it. -/
theorem MemL.write' {w W : World} {g gm : Nat} {L : List Lp} {clock : Nat} {m : Mm} (h : MemL w g gm L clock m) {x : Lp} (hx : x ∈ L) {p : Pg} (hno : p.no = x.pg.no) (hok : p.Ok) (hW : W.heap[x.blk]? = some (.cells p.cells 84 (0, 0))) (ho : Upd w W (· = x.blk)) :
    ∃ L', MemL W g gm L' clock (m.put p) ∧ L'.map Lp.blk = L.map Lp.blk := by
  refine ⟨_, h.write hx hno hok hW (fun k hk hne => ho.block k hk hne), ?_⟩
  rw [List.map_map]
  refine List.map_congr_left fun y hy => ?_
  simp only [Function.comp]
  split <;> rfl
def Pg.store (p : Pg) (i : Int) (r : List Int) : Pg := { p with bs := splice p.bs i.toNat r, ts := p.ts.set (i / 32).toNat false }
def tagmem_Mem_Store.f (k : Nat) (m : Mm) (a n u : Int) : Option (Mm × Int) := if size_ok n then (if a % n = 0 then (match m.page (a / 256) with | some p => (word_Little.f k u n).bind fun r => if 0 < r.length ∧ (a % 256).toNat + r.length ≤ 256 then some (m.put (p.store (a % 256) r), 0) else none | none => some (m, 30)) else some (m, 31)) else some (m, 1)
theorem pair_mm {a : Mm} {b : Int} {r1 : Mm} {r2 : Int} (h : some (a, b) = some (r1, r2)) : a = r1 ∧ b = r2 := by cases h; exact ⟨rfl, rfl⟩
end Go.Proofs.Ytccndffoljjadaa.P
