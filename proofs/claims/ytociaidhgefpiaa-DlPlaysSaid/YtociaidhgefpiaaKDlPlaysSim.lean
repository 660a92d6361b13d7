/- The document's closure answers as the program's. No condition. -/
import Derived.Test.YtociaidhgefpiaaKDlPlaysClo
namespace Go.Proofs.Ytociaidhgefpiaa.Pure
open Go.RowKit Go.Proofs.Ytociaidhgefpiaa.P Go.Proofs.YtociaidhgefpiaaW.PrintWords Go.Proofs.YtociaidhgefpiaaW.PrintLast
set_option linter.unusedVariables false
set_option linter.unusedSimpArgs false

theorem has_ev (l : List Int) (n : Int) (hl : l.length ≤ 9223372036854775807) : Evt fun k => curtilageref13_Has.f k l n = some (hasI l n) := Evt.from_ (l.length + 1) fun k hk => has_is l n hl k (by omega)
theorem rfind_ev (l : List S38) (nm : ByteArray) (hl : l.length ≤ 9223372036854775807) : Evt fun k => curtilageref13_Find.f k l nm = some (firstAt (isNm nm) l) := Evt.from_ (l.length + 1) fun k hk => rfind_is l nm hl k (by omega)
end Go.Proofs.Ytociaidhgefpiaa.Pure
