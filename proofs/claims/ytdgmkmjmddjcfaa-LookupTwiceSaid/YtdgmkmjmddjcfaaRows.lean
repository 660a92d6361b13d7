/-
  No cell of these rows narrows 'for every input' (looked for: loops, veiled, ifaces, maps, wideKeys, modest, calm, conditions, laid).
  DERIVED. THE GIVEN ROWS OF THIS SEAT. 5 by the template 'for every input the law returns true; each argument reads behind the call as it read before'; 0 by the template 'total and deterministic' (their statements: YtdgmkmjmddjcfaaTotals.lean).
  GIVEN WITH THE SEED: the statements are not yours to turn. If you find one false, say at which input.
  Laid BY PROGRAM, IN A SANDBOX (cutbox-rows.mjs): the forced cells as the released guide's own fill.sh prints them over the translation 188c5deed263c287… (all of the seat's roots in one cut). By AI agents, Wed Nov 11 2026. No macro, syntax, notation, axiom, sorry.
-/
import Derived.Test.YtdgmkmjmddjcfaaChecked
import GoSem.Claim
import GoSem.ClaimJoined
import GoSem.ClaimMapViews
import Derived.JoinedTies
import Derived.KernelRfl
namespace Go.Proofs.Ytdgmkmjmddjcfaa
/- THE CELL 'sum', in the pinned program and in every row, IS THE sha256 OF THE DUMP (.gsa) THAT YtdgmkmjmddjcfaaProg.lean LOADS. Nothing in Lean hashes anything: it is a label: what it is worth is what the hold of that sum in a sandbox is worth. -/
noncomputable def Try.pinned : Pinned := { name := "ytdgmkmjmddjcfaa", sum := "188c5deed263c2876e842ea34c2dd07ceb1f4e5739bafd840b0e73677cc3a3c6", checked := Try.checked }
namespace Rows
def none {H : Type} : Left H := { results := [], args := [] }

/-- 'curtilagelaw14.LookupBinds': WHATEVER THE INPUT: true; the input reads as it did. -/
def lookupBindsSpec : ChangeSpec := { name := "lookupBinds", fn := fun _ => fun
  | [d1, d2, d3, d4] => { results := [.lit (.bool true)], args := [d1, d2, d3, d4] }
  | _ => none }
def lookupBindsRow : OpenClaim := { program := "ytdgmkmjmddjcfaa", sum := "188c5deed263c2876e842ea34c2dd07ceb1f4e5739bafd840b0e73677cc3a3c6", func := "curtilage/curtilagelaw14.LookupBinds", spec := "lookupBinds", inPlace := ["sync/atomic.LoadUint32", "(*internal/sync.Mutex).Lock", "internal/race.Disable", "sync/atomic.CompareAndSwapInt32", "internal/race.Enable", "internal/race.Acquire", "(*internal/sync.Mutex).lockSlow", "internal/sync.runtime_canSpin", "internal/sync.runtime_doSpin", "internal/sync.throw", "internal/sync.runtime_nanotime", "internal/sync.runtime_SemacquireMutex", "sync/atomic.AddInt32", "(*internal/sync.Mutex).Unlock", "internal/race.ReleaseMerge", "(*internal/sync.Mutex).unlockSlow", "internal/sync.fatal", "internal/sync.runtime_Semrelease", "sync/atomic.StoreUint32"], unfollowed := true, recurses := true, apart := false }
def LookupBindsSaid : Prop := lookupBindsRow.holds Try.pinned (OpenSpec.ofChange lookupBindsSpec)

/-- ITS FALSE NEIGHBOUR: 'it returns false'. Refute it at one input. -/
def lookupBindsWrong : ChangeSpec := { name := "lookupBinds", fn := fun _ => fun
  | [d1, d2, d3, d4] => { results := [.lit (.bool false)], args := [d1, d2, d3, d4] }
  | _ => none }
def LookupBindsWrongFalsely : Prop := lookupBindsRow.holds Try.pinned (OpenSpec.ofChange lookupBindsWrong)

/-- 'curtilagelaw14.LookupMore': WHATEVER THE INPUT: true; the input reads as it did. -/
def lookupMoreSpec : ChangeSpec := { name := "lookupMore", fn := fun _ => fun
  | [d1, d2, d3, d4, d5] => { results := [.lit (.bool true)], args := [d1, d2, d3, d4, d5] }
  | _ => none }
def lookupMoreRow : OpenClaim := { program := "ytdgmkmjmddjcfaa", sum := "188c5deed263c2876e842ea34c2dd07ceb1f4e5739bafd840b0e73677cc3a3c6", func := "curtilage/curtilagelaw14.LookupMore", spec := "lookupMore", inPlace := ["sync/atomic.LoadUint32", "(*internal/sync.Mutex).Lock", "internal/race.Disable", "sync/atomic.CompareAndSwapInt32", "internal/race.Enable", "internal/race.Acquire", "(*internal/sync.Mutex).lockSlow", "internal/sync.runtime_canSpin", "internal/sync.runtime_doSpin", "internal/sync.throw", "internal/sync.runtime_nanotime", "internal/sync.runtime_SemacquireMutex", "sync/atomic.AddInt32", "(*internal/sync.Mutex).Unlock", "internal/race.ReleaseMerge", "(*internal/sync.Mutex).unlockSlow", "internal/sync.fatal", "internal/sync.runtime_Semrelease", "sync/atomic.StoreUint32"], unfollowed := true, recurses := true, apart := false }
def LookupMoreSaid : Prop := lookupMoreRow.holds Try.pinned (OpenSpec.ofChange lookupMoreSpec)

/-- ITS FALSE NEIGHBOUR: 'it returns false'. Refute it at one input. -/
def lookupMoreWrong : ChangeSpec := { name := "lookupMore", fn := fun _ => fun
  | [d1, d2, d3, d4, d5] => { results := [.lit (.bool false)], args := [d1, d2, d3, d4, d5] }
  | _ => none }
def LookupMoreWrongFalsely : Prop := lookupMoreRow.holds Try.pinned (OpenSpec.ofChange lookupMoreWrong)

/-- 'curtilagelaw14.LookupShown': WHATEVER THE INPUT: true; the input reads as it did. -/
def lookupShownSpec : ChangeSpec := { name := "lookupShown", fn := fun _ => fun
  | [d1, d2, d3, d4] => { results := [.lit (.bool true)], args := [d1, d2, d3, d4] }
  | _ => none }
def lookupShownRow : OpenClaim := { program := "ytdgmkmjmddjcfaa", sum := "188c5deed263c2876e842ea34c2dd07ceb1f4e5739bafd840b0e73677cc3a3c6", func := "curtilage/curtilagelaw14.LookupShown", spec := "lookupShown", inPlace := ["sync/atomic.LoadUint32", "(*internal/sync.Mutex).Lock", "internal/race.Disable", "sync/atomic.CompareAndSwapInt32", "internal/race.Enable", "internal/race.Acquire", "(*internal/sync.Mutex).lockSlow", "internal/sync.runtime_canSpin", "internal/sync.runtime_doSpin", "internal/sync.throw", "internal/sync.runtime_nanotime", "internal/sync.runtime_SemacquireMutex", "sync/atomic.AddInt32", "(*internal/sync.Mutex).Unlock", "internal/race.ReleaseMerge", "(*internal/sync.Mutex).unlockSlow", "internal/sync.fatal", "internal/sync.runtime_Semrelease", "sync/atomic.StoreUint32"], unfollowed := true, recurses := true, apart := false }
def LookupShownSaid : Prop := lookupShownRow.holds Try.pinned (OpenSpec.ofChange lookupShownSpec)

/-- ITS FALSE NEIGHBOUR: 'it returns false'. Refute it at one input. -/
def lookupShownWrong : ChangeSpec := { name := "lookupShown", fn := fun _ => fun
  | [d1, d2, d3, d4] => { results := [.lit (.bool false)], args := [d1, d2, d3, d4] }
  | _ => none }
def LookupShownWrongFalsely : Prop := lookupShownRow.holds Try.pinned (OpenSpec.ofChange lookupShownWrong)

/-- 'curtilagelaw14.LookupFinds': WHATEVER THE INPUT: true; the input reads as it did. -/
def lookupFindsSpec : ChangeSpec := { name := "lookupFinds", fn := fun _ => fun
  | [d1, d2, d3, d4] => { results := [.lit (.bool true)], args := [d1, d2, d3, d4] }
  | _ => none }
def lookupFindsRow : OpenClaim := { program := "ytdgmkmjmddjcfaa", sum := "188c5deed263c2876e842ea34c2dd07ceb1f4e5739bafd840b0e73677cc3a3c6", func := "curtilage/curtilagelaw14.LookupFinds", spec := "lookupFinds", inPlace := ["sync/atomic.LoadUint32", "(*internal/sync.Mutex).Lock", "internal/race.Disable", "sync/atomic.CompareAndSwapInt32", "internal/race.Enable", "internal/race.Acquire", "(*internal/sync.Mutex).lockSlow", "internal/sync.runtime_canSpin", "internal/sync.runtime_doSpin", "internal/sync.throw", "internal/sync.runtime_nanotime", "internal/sync.runtime_SemacquireMutex", "sync/atomic.AddInt32", "(*internal/sync.Mutex).Unlock", "internal/race.ReleaseMerge", "(*internal/sync.Mutex).unlockSlow", "internal/sync.fatal", "internal/sync.runtime_Semrelease", "sync/atomic.StoreUint32"], unfollowed := true, recurses := true, apart := false }
def LookupFindsSaid : Prop := lookupFindsRow.holds Try.pinned (OpenSpec.ofChange lookupFindsSpec)

/-- ITS FALSE NEIGHBOUR: 'it returns false'. Refute it at one input. -/
def lookupFindsWrong : ChangeSpec := { name := "lookupFinds", fn := fun _ => fun
  | [d1, d2, d3, d4] => { results := [.lit (.bool false)], args := [d1, d2, d3, d4] }
  | _ => none }
def LookupFindsWrongFalsely : Prop := lookupFindsRow.holds Try.pinned (OpenSpec.ofChange lookupFindsWrong)

/-- 'curtilagelaw14.LookupTwice': WHATEVER THE INPUT: true; the input reads as it did. -/
def lookupTwiceSpec : ChangeSpec := { name := "lookupTwice", fn := fun _ => fun
  | [d1, d2, d3] => { results := [.lit (.bool true)], args := [d1, d2, d3] }
  | _ => none }
def lookupTwiceRow : OpenClaim := { program := "ytdgmkmjmddjcfaa", sum := "188c5deed263c2876e842ea34c2dd07ceb1f4e5739bafd840b0e73677cc3a3c6", func := "curtilage/curtilagelaw14.LookupTwice", spec := "lookupTwice", inPlace := ["sync/atomic.LoadUint32", "(*internal/sync.Mutex).Lock", "internal/race.Disable", "sync/atomic.CompareAndSwapInt32", "internal/race.Enable", "internal/race.Acquire", "(*internal/sync.Mutex).lockSlow", "internal/sync.runtime_canSpin", "internal/sync.runtime_doSpin", "internal/sync.throw", "internal/sync.runtime_nanotime", "internal/sync.runtime_SemacquireMutex", "sync/atomic.AddInt32", "(*internal/sync.Mutex).Unlock", "internal/race.ReleaseMerge", "(*internal/sync.Mutex).unlockSlow", "internal/sync.fatal", "internal/sync.runtime_Semrelease", "sync/atomic.StoreUint32"], unfollowed := true, recurses := true, apart := false }
def LookupTwiceSaid : Prop := lookupTwiceRow.holds Try.pinned (OpenSpec.ofChange lookupTwiceSpec)

/-- ITS FALSE NEIGHBOUR: 'it returns false'. Refute it at one input. -/
def lookupTwiceWrong : ChangeSpec := { name := "lookupTwice", fn := fun _ => fun
  | [d1, d2, d3] => { results := [.lit (.bool false)], args := [d1, d2, d3] }
  | _ => none }
def LookupTwiceWrongFalsely : Prop := lookupTwiceRow.holds Try.pinned (OpenSpec.ofChange lookupTwiceWrong)

/- THE SECOND FORM. 'bulk': how many values and letters a reading holds, each counted each time it is reached (what is shared counts as often as it is met; a slice's spare places count too). A statement '..UptoSaid' is the law's where the arguments, and the package variables that the reading takes, are together of bulk at most 1048576: NARROWER than '..Said'. Prove '..Said' where nothing that the law and all that it calls make is longer than what came in: it says more and counts as full. Else prove '..UptoSaid'. A law counts once. -/
mutual
def uptoBulk {H : Type} : DataW H → Nat
  | .lit (.string bytes) => bytes.length + 1
  | .lit _ => 1
  | .nil => 1
  | .ptr d => uptoBulk d + 1
  | .slice elems spare => uptoBulkAll elems + uptoBulkAll spare + 1
  | .agg parts => uptoBulkAll parts + 1
  | .iface _ d => uptoBulk d + 1
  | .map entries => uptoBulkEntries entries + 1
  | .held _ => 1
def uptoBulkAll {H : Type} : List (DataW H) → Nat
  | [] => 0
  | d :: r => uptoBulk d + uptoBulkAll r
def uptoBulkEntries {H : Type} : List (Lit × DataW H) → Nat
  | [] => 0
  | x :: r => uptoBulkEntry x + uptoBulkEntries r
def uptoBulkEntry {H : Type} : Lit × DataW H → Nat
  | (.string bytes, d) => bytes.length + uptoBulk d + 1
  | (_, d) => uptoBulk d + 1
 end
def uptoSmall : (H : Type) → List (DataW H) → Bool := fun _ ds => decide (uptoBulkAll ds ≤ 1048576)
def OpenSpec.upto (s : _root_.Go.ChangeSpec) : _root_.Go.OpenSpec := { _root_.Go.OpenSpec.ofChange s with cond := some uptoSmall }

/-- 'curtilagelaw14.LookupBinds', WHERE WHAT IT READS IS OF BULK AT MOST 1048576: true; the input reads as it did. -/
def lookupBindsUptoRow : OpenClaim := { program := "ytdgmkmjmddjcfaa", sum := "188c5deed263c2876e842ea34c2dd07ceb1f4e5739bafd840b0e73677cc3a3c6", func := "curtilage/curtilagelaw14.LookupBinds", spec := "lookupBinds", inPlace := ["sync/atomic.LoadUint32", "(*internal/sync.Mutex).Lock", "internal/race.Disable", "sync/atomic.CompareAndSwapInt32", "internal/race.Enable", "internal/race.Acquire", "(*internal/sync.Mutex).lockSlow", "internal/sync.runtime_canSpin", "internal/sync.runtime_doSpin", "internal/sync.throw", "internal/sync.runtime_nanotime", "internal/sync.runtime_SemacquireMutex", "sync/atomic.AddInt32", "(*internal/sync.Mutex).Unlock", "internal/race.ReleaseMerge", "(*internal/sync.Mutex).unlockSlow", "internal/sync.fatal", "internal/sync.runtime_Semrelease", "sync/atomic.StoreUint32"], unfollowed := true, recurses := true, apart := false, narrowed := true }
def LookupBindsUptoSaid : Prop := lookupBindsUptoRow.holds Try.pinned (OpenSpec.upto lookupBindsSpec)

/-- 'curtilagelaw14.LookupMore', WHERE WHAT IT READS IS OF BULK AT MOST 1048576: true; the input reads as it did. -/
def lookupMoreUptoRow : OpenClaim := { program := "ytdgmkmjmddjcfaa", sum := "188c5deed263c2876e842ea34c2dd07ceb1f4e5739bafd840b0e73677cc3a3c6", func := "curtilage/curtilagelaw14.LookupMore", spec := "lookupMore", inPlace := ["sync/atomic.LoadUint32", "(*internal/sync.Mutex).Lock", "internal/race.Disable", "sync/atomic.CompareAndSwapInt32", "internal/race.Enable", "internal/race.Acquire", "(*internal/sync.Mutex).lockSlow", "internal/sync.runtime_canSpin", "internal/sync.runtime_doSpin", "internal/sync.throw", "internal/sync.runtime_nanotime", "internal/sync.runtime_SemacquireMutex", "sync/atomic.AddInt32", "(*internal/sync.Mutex).Unlock", "internal/race.ReleaseMerge", "(*internal/sync.Mutex).unlockSlow", "internal/sync.fatal", "internal/sync.runtime_Semrelease", "sync/atomic.StoreUint32"], unfollowed := true, recurses := true, apart := false, narrowed := true }
def LookupMoreUptoSaid : Prop := lookupMoreUptoRow.holds Try.pinned (OpenSpec.upto lookupMoreSpec)

/-- 'curtilagelaw14.LookupShown', WHERE WHAT IT READS IS OF BULK AT MOST 1048576: true; the input reads as it did. -/
def lookupShownUptoRow : OpenClaim := { program := "ytdgmkmjmddjcfaa", sum := "188c5deed263c2876e842ea34c2dd07ceb1f4e5739bafd840b0e73677cc3a3c6", func := "curtilage/curtilagelaw14.LookupShown", spec := "lookupShown", inPlace := ["sync/atomic.LoadUint32", "(*internal/sync.Mutex).Lock", "internal/race.Disable", "sync/atomic.CompareAndSwapInt32", "internal/race.Enable", "internal/race.Acquire", "(*internal/sync.Mutex).lockSlow", "internal/sync.runtime_canSpin", "internal/sync.runtime_doSpin", "internal/sync.throw", "internal/sync.runtime_nanotime", "internal/sync.runtime_SemacquireMutex", "sync/atomic.AddInt32", "(*internal/sync.Mutex).Unlock", "internal/race.ReleaseMerge", "(*internal/sync.Mutex).unlockSlow", "internal/sync.fatal", "internal/sync.runtime_Semrelease", "sync/atomic.StoreUint32"], unfollowed := true, recurses := true, apart := false, narrowed := true }
def LookupShownUptoSaid : Prop := lookupShownUptoRow.holds Try.pinned (OpenSpec.upto lookupShownSpec)

/-- 'curtilagelaw14.LookupFinds', WHERE WHAT IT READS IS OF BULK AT MOST 1048576: true; the input reads as it did. -/
def lookupFindsUptoRow : OpenClaim := { program := "ytdgmkmjmddjcfaa", sum := "188c5deed263c2876e842ea34c2dd07ceb1f4e5739bafd840b0e73677cc3a3c6", func := "curtilage/curtilagelaw14.LookupFinds", spec := "lookupFinds", inPlace := ["sync/atomic.LoadUint32", "(*internal/sync.Mutex).Lock", "internal/race.Disable", "sync/atomic.CompareAndSwapInt32", "internal/race.Enable", "internal/race.Acquire", "(*internal/sync.Mutex).lockSlow", "internal/sync.runtime_canSpin", "internal/sync.runtime_doSpin", "internal/sync.throw", "internal/sync.runtime_nanotime", "internal/sync.runtime_SemacquireMutex", "sync/atomic.AddInt32", "(*internal/sync.Mutex).Unlock", "internal/race.ReleaseMerge", "(*internal/sync.Mutex).unlockSlow", "internal/sync.fatal", "internal/sync.runtime_Semrelease", "sync/atomic.StoreUint32"], unfollowed := true, recurses := true, apart := false, narrowed := true }
def LookupFindsUptoSaid : Prop := lookupFindsUptoRow.holds Try.pinned (OpenSpec.upto lookupFindsSpec)

/-- 'curtilagelaw14.LookupTwice', WHERE WHAT IT READS IS OF BULK AT MOST 1048576: true; the input reads as it did. -/
def lookupTwiceUptoRow : OpenClaim := { program := "ytdgmkmjmddjcfaa", sum := "188c5deed263c2876e842ea34c2dd07ceb1f4e5739bafd840b0e73677cc3a3c6", func := "curtilage/curtilagelaw14.LookupTwice", spec := "lookupTwice", inPlace := ["sync/atomic.LoadUint32", "(*internal/sync.Mutex).Lock", "internal/race.Disable", "sync/atomic.CompareAndSwapInt32", "internal/race.Enable", "internal/race.Acquire", "(*internal/sync.Mutex).lockSlow", "internal/sync.runtime_canSpin", "internal/sync.runtime_doSpin", "internal/sync.throw", "internal/sync.runtime_nanotime", "internal/sync.runtime_SemacquireMutex", "sync/atomic.AddInt32", "(*internal/sync.Mutex).Unlock", "internal/race.ReleaseMerge", "(*internal/sync.Mutex).unlockSlow", "internal/sync.fatal", "internal/sync.runtime_Semrelease", "sync/atomic.StoreUint32"], unfollowed := true, recurses := true, apart := false, narrowed := true }
def LookupTwiceUptoSaid : Prop := lookupTwiceUptoRow.holds Try.pinned (OpenSpec.upto lookupTwiceSpec)

end Rows
end Go.Proofs.Ytdgmkmjmddjcfaa
