/- Words of the walks: lemmas about memory, cut down to what this proof uses. No condition. -/
import Derived.Test.YtccndffoljjadaaKAbiTextsAb8
namespace Go.Proofs.Ytccndffoljjadaa.P
open Go.RowKit Go.Proofs.YtccndffoljjadaaW.PrintWords Go.Proofs.YtccndffoljjadaaW.PrintLast
set_option linter.unusedVariables false
set_option linter.unusedSimpArgs false
/-- A whole struct is stored into a box. -/
theorem run_store_row {P : Program} {W : World} {g : Nat} {cs0 cs : Array Value} {tt t : TypeId} (hg : W.heap[g]? = some (.cells cs0 tt (0, 0))) (hi : (P.info? t).map (·.size) = some cs.size) (hsz : cs0.size = cs.size) (h1 : ∀ v ∈ cs.toList, v.oneCell' = true) :
    (Instr.storeAt t (.pointer (some ⟨g, 0, none⟩)) (.agg cs)).run P W = .ok () (W.setRow g cs) := by
  obtain ⟨i, hi1, hi2⟩ := Option.map_eq_some_iff.1 hi
  have h := run_storeCells_at (P := P) g 0 tt cs.toList 0 cs0 W hg (by simp [hsz]) h1
  simp only [Nat.add_zero, Nat.zero_add, List.take_zero, List.nil_append, Array.length_toList] at h
  rw [show cs0.toList.drop cs.size = [] from List.drop_eq_nil_of_le (by rw [Array.length_toList]; omega), List.append_nil, Array.toArray_toList] at h
  simp only [Instr.storeAt, Instr.sureAddr, storeVar, sizeOf, typeInfo, Sem.run_bind, Sem.run_pure, Result.andThen_ok]
  simp [Sem.run, hi1, hi2, Value.cells]
  exact h
theorem store_row_event {P : Program} {ops : Array Oper} {Q : Exit → Act → World → Prop} {rest : List Oper} {o : Oper} {a : Act} {W : World} (hgd : o.guard = none) {t : TypeId} {p : Tmp} {v : Operand} (ho : o.op = .store t (.tmp p) v) (hN : o.dst = none)
    {g : Nat} {cs0 cs : Array Value} {tt : TypeId} (hp : a.eval (.tmp p) = .pointer (some ⟨g, 0, none⟩)) (hv : a.eval v = .agg cs) (hg : W.heap[g]? = some (.cells cs0 tt (0, 0))) (hi : (P.info? t).map (·.size) = some cs.size) (hsz : cs0.size = cs.size) (h1 : ∀ v ∈ cs.toList, v.oneCell' = true)
    (h : ∀ w', w' = W.setRow g cs → wpList P ops Q rest a w') : wpList P ops Q (o :: rest) a W := by
  refine store_event (t := t) (p := p) (v := v) (w1 := W.setRow g cs) hgd ho hN ?_ h
  unfold execOp
  simp [ho, hp, hv, run_store_row hg hi hsz h1]
theorem setRow_blk {w : World} {b : Nat} {cs0 cs : Array Value} {t : TypeId} (h : w.heap[b]? = some (.cells cs0 t (0, 0))) : (w.setRow b cs).heap[b]? = some (.cells cs t (0, 0)) := setRow_heap w b cs0 cs t (0, 0) h
theorem setRow_upd (w : World) (b : Nat) (cs : Array Value) : Upd w (w.setRow b cs) (fun k => k = b) := row_upd w cs (S := fun k => k = b) rfl
def cs24 (a b c d : S30) : Array Value := #[.int .u64 a.f0, .int .u64 a.f1, .int .u64 a.f2, .int .i64 a.f3, .int .i64 a.f4, .bool a.f5, .int .u64 b.f0, .int .u64 b.f1, .int .u64 b.f2, .int .i64 b.f3, .int .i64 b.f4, .bool b.f5, .int .u64 c.f0, .int .u64 c.f1, .int .u64 c.f2, .int .i64 c.f3, .int .i64 c.f4, .bool c.f5, .int .u64 d.f0, .int .u64 d.f1, .int .u64 d.f2, .int .i64 d.f3, .int .i64 d.f4, .bool d.f5]
theorem cs24_one (a b c d : S30) : ∀ v ∈ (cs24 a b c d).toList, v.oneCell' = true := by
  intro v hv
  simp only [cs24, List.mem_cons, List.not_mem_nil, or_false] at hv
  rcases hv with rfl | rfl | rfl | rfl | rfl | rfl | rfl | rfl | rfl | rfl | rfl | rfl | rfl | rfl | rfl | rfl | rfl | rfl | rfl | rfl | rfl | rfl | rfl | rfl <;> rfl
theorem info32 : (Try.prog.info? 32).map (·.size) = some 24 := by kernel_rfl
def moveC (x : S30) (a : Int) : S30 := match cap_Move.f x.f0 x.f1 x.f2 x.f3 x.f4 x.f5 a with | some (r1, r2, r3, r4, r5, r6) => ⟨r1, r2, r3, r4, r5, r6⟩ | none => z30
theorem move_calls (x : S30) (a : Int) (w : World) : Calls Try.prog 32 #[.agg #[.int .u64 x.f0, .int .u64 x.f1, .int .u64 x.f2, .int .i64 x.f3, .int .i64 x.f4, .bool x.f5], .int .u64 a] w fun e w' => e = .returned (.agg #[.int .u64 (moveC x a).f0, .int .u64 (moveC x a).f1, .int .u64 (moveC x a).f2, .int .i64 (moveC x a).f3, .int .i64 (moveC x a).f4, .bool (moveC x a).f5]) ∧ Below w.heap.size w w' := by
  obtain ⟨⟨r1, r2, r3, r4, r5, r6⟩, h⟩ : ∃ r, cap_Move.f x.f0 x.f1 x.f2 x.f3 x.f4 x.f5 a = some r := by
    unfold cap_Move.f; exact bind_tot (open_tot _ _ _ _ _ _) (fun _ => ⟨_, rfl⟩)
  have e : moveC x a = ⟨r1, r2, r3, r4, r5, r6⟩ := by unfold moveC; rw [h]
  rw [e]
  exact cap_Move.calls x.f0 x.f1 x.f2 x.f3 x.f4 x.f5 a r1 r2 r3 r4 r5 r6 w h
/-- What Build leaves: the memory, the four capabilities, the error. -/
structure Bd where
  m : Mm
  s0 : S30
  s1 : S30
  s2 : S30
  s3 : S30
  e : Int
def buildOk (m1 : Mm) (a0 fin : Int) (l0 l1 : List ByteArray) (l2 : List S30) : Bd :=
  let A := textsF m1 a0 l0
  let B := textsF A.1 A.2.1 l1
  let at4 := IntKind.u64.wrap (a0 + IntKind.u64.wrap (upW (wrap64 (IntKind.u64.wrap (B.2.1 - a0)))))
  let C := listF B.1 at4 A.2.2
  let D := listF C.1 C.2 B.2.2
  let E := listF D.1 D.2 l2
  ⟨E.1, moveC (ofC E.2 (IntKind.u64.wrap (fin - E.2)) 27) fin, listC B.1 at4 A.2.2, listC C.1 C.2 B.2.2, listC D.1 D.2 l2, 0⟩
def buildF (m : Mm) (fr pages : Int) (l0 l1 : List ByteArray) (l2 : List S30) : Bd :=
  if abi_right.f l0 l1 l2 = false then ⟨m, z30, z30, z30, z30, 1⟩ else
  if pages * 256 - 64 < abi_Need.g l0 l1 l2 then ⟨m, z30, z30, z30, z30, 190⟩ else
  if (tagmem_Mem_Map.f m fr pages).2 = 0 then buildOk (tagmem_Mem_Map.f m fr pages).1 (fr * 256) ((fr + pages) * 256) l0 l1 l2
  else ⟨(tagmem_Mem_Map.f m fr pages).1, z30, z30, z30, z30, (tagmem_Mem_Map.f m fr pages).2⟩
theorem map_ok {m m1 : Mm} {fr pages : Int} (h0 : 0 ≤ fr) (h : tagmem_Mem_Map.f m fr pages = (m1, 0)) : 1 ≤ pages ∧ fr + pages ≤ 65536 := by
  unfold tagmem_Mem_Map.f at h
  cases hs : someB fr pages with
  | false => rw [hs, if_pos rfl] at h; simp at h
  | true =>
    unfold someB at hs
    have := of_decide_eq_true hs
    omega
end Go.Proofs.Ytccndffoljjadaa.P
