/- The document's list of all that one needs: by going on until nothing comes. No condition. -/
import Derived.Test.YtociaidhgefpiaaKDlCountsFar
namespace Go.Proofs.Ytociaidhgefpiaa.Pure
open Go.RowKit Go.Proofs.Ytociaidhgefpiaa.P Go.Proofs.YtociaidhgefpiaaW.PrintWords Go.Proofs.YtociaidhgefpiaaW.PrintLast
set_option linter.unusedVariables false
set_option linter.unusedSimpArgs false

/-- One round more: nothing is lost, nothing comes that isn't reached, and all comes that one that was there needs. -/
structure Pass (l : List S38) (f : Int) (bs bs' : List Bool) : Prop where
  len : bs'.length = bs.length
  keep : ∀ i : Nat, bs.getD i false = true → bs'.getD i false = true
  sound : (∀ i : Nat, bs.getD i false = true → Rch (sc l) f i) → ∀ i : Nat, bs'.getD i false = true → Rch (sc l) f i
theorem Pass.refl (l : List S38) (f : Int) (bs : List Bool) : Pass l f bs bs := ⟨rfl, fun _ h => h, fun h => h⟩
theorem Pass.trans {l : List S38} {f : Int} {a b c : List Bool} (h : Pass l f a b) (k : Pass l f b c) : Pass l f a c := ⟨k.len.trans h.len, fun i hi => k.keep i (h.keep i hi), fun hs => k.sound (h.sound hs)⟩
theorem Far.nodup {l : List S38} {f : Int} {r : List Int} (h : Far l f r) : r.Nodup := List.Pairwise.imp (fun h => by omega) h.up
theorem nd_le {l : List S38} (h : ∀ o ∈ l, o.f1.length ≤ 10) (x : Int) : (nd_ l x).length ≤ 10 := by
  unfold nd_ rd_T38
  rw [List.getD_eq_getElem?_getD]
  cases e : l[x.toNat]? with
  | none => simp [z38]
  | some o => exact h o (List.mem_of_getElem? e)
end Go.Proofs.Ytociaidhgefpiaa.Pure
