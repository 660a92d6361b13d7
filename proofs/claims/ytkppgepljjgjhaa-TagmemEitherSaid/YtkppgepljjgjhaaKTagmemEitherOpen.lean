/- Words of the walks: lemmas about memory, cut down to what this proof uses. No condition. -/
import Derived.Deep.Slices
import Derived.SizedLaws
import Derived.ChangeArms
import Derived.ChangeShapes
import Derived.WideShapes
import Derived.Test.YtkppgepljjgjhaaKTagmemEitherWWords
namespace Go.Proofs.YtkppgepljjgjhaaW.Open
open Go.RowKit Go.Proofs.YtkppgepljjgjhaaW.PrintWords
set_option linter.unusedVariables false
set_option linter.unusedSimpArgs false

/-- A datum of type t reads as a value of kind d, of which ok holds. -/
structure Opens (P : Program) (t : TypeId) {α : Type} (d : Kd α) (ok : α → Prop) : Prop where
  read : ∀ {H : Type} {enc : TypeId × Value → H} {W : World} {base : Nat} {spare : Nat → Bool} {held : Bool} (fuel : Nat) (cs : List Value) (x : DataW H × List MemPlace),
    DataW.trod enc P W base spare held fuel t cs = some x → (∀ m ∈ x.1.weights P t, m ≤ reachBytes) → ∃ v, d.K W v cs ∧ ok v

theorem Opens.int {P : Program} {t : TypeId} {k : IntKind} (ht : P.underlying t = some (.int k)) : Opens P t (Kd.int k) (fun n => (Lit.int k n).wf = true) := by
  constructor
  intro H enc W base spare held fuel cs x h hw
  cases fuel with
  | zero => simp [DataW.trod] at h
  | succ n =>
    unfold DataW.trod at h
    rw [ht] at h
    split at h <;> simp_all
    rename_i k' n' _
    obtain ⟨⟨rfl, h1⟩, _⟩ := h
    exact ⟨n', rfl, h1⟩
theorem Opens.bool {P : Program} {t : TypeId} (ht : P.underlying t = some .bool) : Opens P t Kd.bool (fun _ => True) := by
  constructor
  intro H enc W base spare held fuel cs x h hw
  cases fuel with
  | zero => simp [DataW.trod] at h
  | succ n =>
    unfold DataW.trod at h
    rw [ht] at h
    split at h <;> simp_all
    first | exact .inl rfl | exact .inr rfl | (rename_i b; cases b; exact .inl rfl; exact .inr rfl)
theorem Opens.slice {P : Program} {t e : TypeId} {α : Type} {d : Kd α} {ok : α → Prop} (B : Nat) (ht : P.underlying t = some (.slice e)) (hc : P.cellsOf e = d.sz) (hb : P.bytesOf e = B) (o : Opens P e d ok) :
    Opens P t (Kd.slice e d) (fun xs => xs.length ≤ 9223372036854775807 ∧ xs.length * B ≤ 140737488351232 ∧ ∀ x ∈ xs, ok x) := by
  constructor
  intro H enc W base spare held fuel cs x h hw
  rcases Deep.open_slice ht h with ⟨rfl, rfl⟩ | ⟨a, len, cap, m, n, D, Pl, rfl, hba, hl, hm, hmm, rfl, hx⟩
  · exact ⟨[], ⟨none, 0, rfl, Nat.le_refl _, ⟨rfl, by simp, fun h => absurd h (by simp)⟩⟩, by simp, by simp, by simp⟩
  · have hlm : len ≤ m := by rw [hmm]; split <;> omega
    have hml : cap ≤ 9223372036854775807 := hm
    have hwe : ∀ i, i < len → ∀ k ∈ (D i).weights P e, k ≤ reachBytes := by
      intro i hi k hk
      refine hw k ?_
      have : ∀ (l : List Nat), i ∈ l → k ∈ DataW.weightsAll P e (l.map D) := by
        intro l
        induction l with
        | nil => simp
        | cons y l ih =>
          intro hm
          simp only [List.map_cons, DataW.weightsAll, List.mem_append]
          rcases List.mem_cons.1 hm with rfl | hm
          · exact .inl hk
          · exact .inr (ih hm)
      simp only [DataW.weights, ht, List.mem_cons, List.mem_append]
      exact .inr (.inl (this _ (List.mem_range.2 hi)))
    have key : ∀ i, i < len → ∃ y : α × List Value, W.cells? base (a.add (i * P.cellsOf e)) (P.cellsOf e) = some y.2 ∧ d.K W y.1 y.2 ∧ ok y.1 := by
      intro i hi
      obtain ⟨c, h1, h2⟩ := hx i (by omega)
      obtain ⟨v, hv, hok⟩ := o.read _ _ _ h2 (hwe i hi)
      exact ⟨(v, c), h1, hv, hok⟩
    have hlen := hw ((len + (m - len)) * P.bytesOf e) (by simp [DataW.weights, ht])
    rw [hb] at hlen
    have hlen2 : len * B ≤ 140737488351232 := Nat.le_trans (Nat.mul_le_mul_right _ (by omega)) hlen
    by_cases h0 : len = 0
    · subst h0
      exact ⟨[], ⟨some a, cap, rfl, Nat.zero_le _, ⟨rfl, by simp, fun h => absurd h (by simp)⟩⟩, by simp, by simp, by simp⟩
    have : Inhabited (α × List Value) := ⟨Classical.choose (key 0 (by omega))⟩
    obtain ⟨X, hX⟩ := Deep.choose_lt key
    refine ⟨(List.range len).map (fun i => (X i).1), ⟨some a, cap, by simp, by simpa using hl, ⟨rfl, by simp; omega, fun _ => ⟨a, rfl, ?_⟩⟩⟩, by simp; omega, by simpa using hlen2, ?_⟩
    · intro j p hj
      rw [List.getElem?_map] at hj
      have hjl : j < len := by
        by_cases hlt : j < len
        · exact hlt
        · rw [List.getElem?_eq_none (by simp; omega)] at hj; simp at hj
      rw [List.getElem?_eq_getElem (by simpa using hjl)] at hj
      simp only [List.getElem_range, Option.map_some, Option.some.injEq] at hj
      subst hj
      obtain ⟨h1, h2, _⟩ := hX j hjl
      obtain ⟨_, h4, h5⟩ := World.cells?_some h1
      refine ⟨(X j).2, by rw [h4, hc], h2, fun i u hu => ?_⟩
      have hi : i < P.cellsOf e := by
        rw [← h4]
        by_cases hlt : i < (X j).2.length
        · exact hlt
        · rw [List.getElem?_eq_none (by omega)] at hu; cases hu
      rw [← Addr.add_add, ← hc, h5 i hi, hu]
    · intro v hv
      obtain ⟨i, hi, rfl⟩ := List.mem_map.1 hv
      exact (hX i (List.mem_range.1 hi)).2.2
/-- The fields of a struct from cell o on. -/
structure OpensF (P : Program) (fs : List Field) (o : Nat) {α : Type} (d : Kd α) (ok : α → Prop) : Prop where
  read : ∀ {H : Type} {enc : TypeId × Value → H} {W : World} {base : Nat} {spare : Nat → Bool} {held : Bool} (n : Nat) (cs : List Value) (xs : List (DataW H × List MemPlace)),
    cs.length = o + d.sz → xs.length = fs.length →
    (∀ (i : Nat) (f : Field), fs[i]? = some f → DataW.trod enc P W base spare held n f.type ((cs.drop f.offset).take (P.cellsOf f.type)) = xs[i]?) →
    (∀ m ∈ DataW.weightsEach P (fs.map (·.type)) (xs.map (·.1)), m ≤ reachBytes) → ∃ v, d.K W v (cs.drop o) ∧ ok v
theorem OpensF.one {P : Program} {f : Field} {o : Nat} {α : Type} {d : Kd α} {ok : α → Prop} (t : TypeId) (hf : f.type = t) (ho : f.offset = o) (hc : P.cellsOf t = d.sz) (h : Opens P t d ok) : OpensF P [f] o d ok := by
  subst hf; subst ho
  constructor
  intro H enc W base spare held n cs xs hl hxl hx hw
  match xs, hxl with
  | [x], _ =>
    have h1 := hx 0 f rfl
    have h2 : (cs.drop f.offset).take (P.cellsOf f.type) = cs.drop f.offset := List.take_of_length_le (by rw [List.length_drop, hc]; omega)
    rw [h2] at h1
    exact h.read n _ x h1 (fun m hm => hw m (by simpa [DataW.weightsEach] using hm))
theorem OpensF.cons {P : Program} {f : Field} {fs : List Field} {o : Nat} {α β : Type} {d : Kd α} {d' : Kd β} {ok : α → Prop} {ok' : β → Prop} (t : TypeId) (hf : f.type = t) (ho : f.offset = o) (hc : P.cellsOf t = d.sz) (h : Opens P t d ok) (h' : OpensF P fs (o + d.sz) d' ok') : OpensF P (f :: fs) o (Kd.pair d d') (fun p => ok p.1 ∧ ok' p.2) := by
  subst hf; subst ho
  constructor
  intro H enc W base spare held n cs xs hl hxl hx hw
  match xs, hxl with
  | x :: xs, hxl =>
    have hl' : cs.length = f.offset + (d.sz + d'.sz) := hl
    have h1 := hx 0 f rfl
    obtain ⟨v, hv, hok⟩ := h.read n _ x h1 (fun m hm => hw m (by simp [DataW.weightsEach, hm]))
    obtain ⟨v', hv', hok'⟩ := h'.read n cs xs (by omega) (by simpa using hxl) (fun i g hg => hx (i + 1) g (by simpa using hg)) (fun m hm => hw m (by simp [DataW.weightsEach, hm]))
    refine ⟨(v, v'), ⟨_, _, ?_, hv, hv'⟩, hok, hok'⟩
    rw [hc, ← List.drop_drop]
    exact (List.take_append_drop _ _).symm
theorem Opens.struct {P : Program} {t : TypeId} {fs : Array Field} {α β : Type} {d : Kd α} {ok : α → Prop} {f : β → α} (g : α → β) (hg : ∀ a, f (g a) = a) (ht : P.underlying t = some (.struct fs)) (hc : P.cellsOf t = d.sz) (h : OpensF P fs.toList 0 d ok) : Opens P t (Kd.iso d f) (fun x => ok (f x)) := by
  constructor
  intro H enc W base spare held fuel cs x hx hw
  obtain ⟨xs, n, rfl, rfl, hl, hxl, hel⟩ := DataW.trod_struct ht hx
  obtain ⟨v, hv, hok⟩ := h.read n cs xs (by rw [hl, hc]; simp) (by simpa using hxl) (fun i g hg => hel i g (by simpa using hg)) (fun m hm => hw m (by simpa [DataW.weights, ht] using hm))
  refine ⟨g v, ?_, by show ok (f (g v)); rw [hg]; exact hok⟩
  show d.K W (f (g v)) cs
  rw [hg]
  simpa using hv
theorem Opens.imp {P : Program} {t : TypeId} {α : Type} {d : Kd α} {ok ok' : α → Prop} (h : Opens P t d ok) (hi : ∀ x, ok x → ok' x) : Opens P t d ok' := by
  constructor
  intro H enc W base spare held fuel cs x hx hw
  obtain ⟨v, hv, hok⟩ := h.read fuel cs x hx hw
  exact ⟨v, hv, hi v hok⟩
/-- An argument of the call. -/
theorem Opens.arg {P : Program} {t : TypeId} {α : Type} {d : Kd α} {ok : α → Prop} (h : Opens P t d ok) {H : Type} {enc : TypeId × Value → H} {W : World} {base : Nat} {spare : Nat → Bool} {held : Bool} {v : Value} {x : DataW H} {ps : List MemPlace} {ts : List TypeId} {ds : List (DataW H)} {j : Nat}
    (hsz : (DataW.weightsEach P ts ds).all (· ≤ reachBytes) = true) (ht : ts[j]? = some t) (hd : ds[j]? = some x) (hx : DataW.Trod enc P W base spare held t v x ps) : ∃ y, d.K W y v.cells.toList ∧ ok y := by
  obtain ⟨fuel, hf⟩ := hx
  exact h.read fuel _ _ hf (fun m hm => by simpa using List.all_eq_true.1 hsz _ (DataW.weights_mem_each ht hd m hm))
end Go.Proofs.YtkppgepljjgjhaaW.Open
