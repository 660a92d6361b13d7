/- Words of the walks: lemmas about memory, cut down to what this proof uses. No condition. -/
import Derived.Test.YtccndffoljjadaaKAbiLessMc1
import Derived.Test.YtccndffoljjadaaKAbiLessPx2
import Derived.Test.YtccndffoljjadaaKAbiLessPx4
namespace Go.Proofs.Ytccndffoljjadaa.P
open Go.RowKit Go.Proofs.YtccndffoljjadaaW.PrintWords Go.Proofs.YtccndffoljjadaaW.PrintLast
set_option linter.unusedVariables false
set_option linter.unusedSimpArgs false
theorem add_off (g o j : Nat) : (⟨g, o, none⟩ : Addr).add j = ⟨g, o + j, none⟩ := by unfold Addr.add; split <;> simp_all
/-- A page's bytes are a row. -/
theorem MemL.row {w : World} {g gm : Nat} {L : List Lp} {clock : Nat} {m : Mm} (h : MemL w g gm L clock m) {x : Lp} (hx : x ∈ L) {o n : Nat} (hn : o + n ≤ 256) : Kd.C (Kd.int .u8) w (some ⟨x.blk, o, none⟩) n ((x.pg.bs.drop o).take n) := by
  have hlen := (h.ok x hx).b
  have hl : ((x.pg.bs.drop o).take n).length = n := by simp; omega
  refine ⟨hl, by omega, fun hpos => ⟨_, rfl, fun j p hj => ⟨[.int .u8 p], rfl, rfl, fun i u hu => ?_⟩⟩⟩
  obtain rfl : i = 0 := by cases i with | zero => rfl | succ i => simp at hu
  simp only [List.getElem?_cons_zero, Option.some.injEq] at hu
  subst hu
  rw [show j * (Kd.int .u8).sz + 0 = j from by show j * 1 + 0 = j; omega, add_off, blk_cell (h.blk x hx)]
  have hj' : x.pg.bs[o + j]? = some p := by
    rw [List.getElem?_take] at hj
    split at hj
    · rwa [List.getElem?_drop] at hj
    · cases hj
  have : o + j < x.pg.bs.length := (List.getElem?_eq_some_iff.1 hj').1
  unfold Pg.cells
  rw [List.getElem?_toArray, List.getElem?_append_left (by simpa using this), List.getElem?_map, hj']
  rfl
theorem run_slicePg (b : Nat) {lo hi : Int} (h0 : 0 ≤ lo) (h1 : lo ≤ hi) (h2 : hi ≤ 256) (h3 : lo < 256) (w : World) :
    (Instr.sliceAt 81 (.pointer (some ⟨b, 0, none⟩)) (some (.int .i64 lo)) (some (.int .i64 hi)) none).run Try.prog w = .ok (.slice (some ⟨b, lo.toNat, none⟩) (hi.toNat - lo.toNat) (256 - lo.toNat)) w := by
  have e : Try.prog.arrayLen 81 = 256 := by kernel_rfl
  have es : ∀ w, (sizeOf (Try.prog.elem 81)).run Try.prog w = .ok 1 w := fun w => by kernel_rfl
  rw [run_sliceAt_array_lh w 81 ⟨b, 0, none⟩ (by kernel_rfl) .i64 .i64 lo hi h0 h1 (by rw [e]; exact h2), es]
  simp only [Result.andThen, slicedAt, e]
  rw [if_neg (by omega), add_off, Nat.mul_one, Nat.zero_add]
/-- The bytes from a place on. -/
def Pg.sub (p : Pg) (a n : Int) : List Int := (p.bs.drop a.toNat).take n.toNat
def tagmem_Mem_Load.f (k : Nat) (m : Mm) (a n : Int) : Option (Int × Int) := if size_ok n then (if a % n = 0 then (match m.page (a / 256) with | some p => (word_Of.f k (p.sub (a % 256) n)).bind fun r => some (r, 0) | none => some (0, 30)) else some (0, 31)) else some (0, 1)
end Go.Proofs.Ytccndffoljjadaa.P
