/-
  No cell of these rows narrows 'for every input' (looked for: loops, veiled, ifaces, maps, wideKeys, modest, calm, conditions, laid).
  DERIVED. THE GIVEN ROWS OF THIS SEAT. 4 by the template 'for every input the law returns true; each argument reads behind the call as it read before'; 0 by the template 'total and deterministic' (their statements: YtpaeffcpdpblcaaTotals.lean).
  GIVEN WITH THE SEED: the statements are not yours to turn. If you find one false, say at which input.
  Laid BY PROGRAM, IN A SANDBOX (cutbox-rows.mjs): the forced cells as the released guide's own fill.sh prints them over the translation c4512361d0e9c13c… (all of the seat's roots in one cut). By AI agents, Wed Nov 11 2026. No macro, syntax, notation, axiom, sorry.
-/
import Derived.Test.YtpaeffcpdpblcaaChecked
import GoSem.Claim
import GoSem.ClaimJoined
import GoSem.ClaimMapViews
import Derived.JoinedTies
import Derived.KernelRfl
namespace Go.Proofs.Ytpaeffcpdpblcaa
/- THE CELL 'sum', in the pinned program and in every row, IS THE sha256 OF THE DUMP (.gsa) THAT YtpaeffcpdpblcaaProg.lean LOADS. Nothing in Lean hashes anything: it is a label: what it is worth is what the hold of that sum in a sandbox is worth. -/
noncomputable def Try.pinned : Pinned := { name := "ytpaeffcpdpblcaa", sum := "c4512361d0e9c13cfcfe7fc5c4b535d5bb049048e1fa668ba57774b5af5108d0", checked := Try.checked }
namespace Rows
def none {H : Type} : Left H := { results := [], args := [] }

/-- 'gavottelaw3.ProgCopies': WHATEVER THE INPUT: true; the input reads as it did. -/
def progCopiesSpec : ChangeSpec := { name := "progCopies", fn := fun _ => fun
  | [d1, d2] => { results := [.lit (.bool true)], args := [d1, d2] }
  | _ => none }
def progCopiesRow : OpenClaim := { program := "ytpaeffcpdpblcaa", sum := "c4512361d0e9c13cfcfe7fc5c4b535d5bb049048e1fa668ba57774b5af5108d0", func := "gavotte/gavottelaw3.ProgCopies", spec := "progCopies", unfollowed := true, recurses := true, apart := false }
def ProgCopiesSaid : Prop := progCopiesRow.holds Try.pinned (OpenSpec.ofChange progCopiesSpec)

/-- ITS FALSE NEIGHBOUR: 'it returns false'. Refute it at one input. -/
def progCopiesWrong : ChangeSpec := { name := "progCopies", fn := fun _ => fun
  | [d1, d2] => { results := [.lit (.bool false)], args := [d1, d2] }
  | _ => none }
def ProgCopiesWrongFalsely : Prop := progCopiesRow.holds Try.pinned (OpenSpec.ofChange progCopiesWrong)

/-- 'gavottelaw20.ReachOnce': WHATEVER THE INPUT: true; the input reads as it did. -/
def reachOnceSpec : ChangeSpec := { name := "reachOnce", fn := fun _ => fun
  | [d1, d2, d3] => { results := [.lit (.bool true)], args := [d1, d2, d3] }
  | _ => none }
def reachOnceRow : OpenClaim := { program := "ytpaeffcpdpblcaa", sum := "c4512361d0e9c13cfcfe7fc5c4b535d5bb049048e1fa668ba57774b5af5108d0", func := "gavotte/gavottelaw20.ReachOnce", spec := "reachOnce", inPlace := ["sync/atomic.LoadInt64", "sync/atomic.AddInt64", "sync/atomic.LoadUint32", "(*internal/sync.Mutex).Lock", "internal/race.Disable", "sync/atomic.CompareAndSwapInt32", "internal/race.Enable", "internal/race.Acquire", "(*internal/sync.Mutex).lockSlow", "internal/sync.runtime_canSpin", "internal/sync.runtime_doSpin", "internal/sync.throw", "internal/sync.runtime_nanotime", "internal/sync.runtime_SemacquireMutex", "sync/atomic.AddInt32", "(*internal/sync.Mutex).Unlock", "internal/race.ReleaseMerge", "(*internal/sync.Mutex).unlockSlow", "internal/sync.fatal", "internal/sync.runtime_Semrelease", "sync/atomic.StoreUint32"], unfollowed := true, recurses := true, apart := false }
def ReachOnceSaid : Prop := reachOnceRow.holds Try.pinned (OpenSpec.ofChange reachOnceSpec)

/-- ITS FALSE NEIGHBOUR: 'it returns false'. Refute it at one input. -/
def reachOnceWrong : ChangeSpec := { name := "reachOnce", fn := fun _ => fun
  | [d1, d2, d3] => { results := [.lit (.bool false)], args := [d1, d2, d3] }
  | _ => none }
def ReachOnceWrongFalsely : Prop := reachOnceRow.holds Try.pinned (OpenSpec.ofChange reachOnceWrong)

/-- 'gavottelaw20.ReachTimers': WHATEVER THE INPUT: true; the input reads as it did. -/
def reachTimersSpec : ChangeSpec := { name := "reachTimers", fn := fun _ => fun
  | [d1, d2, d3] => { results := [.lit (.bool true)], args := [d1, d2, d3] }
  | _ => none }
def reachTimersRow : OpenClaim := { program := "ytpaeffcpdpblcaa", sum := "c4512361d0e9c13cfcfe7fc5c4b535d5bb049048e1fa668ba57774b5af5108d0", func := "gavotte/gavottelaw20.ReachTimers", spec := "reachTimers", inPlace := ["sync/atomic.AddInt64", "sync/atomic.LoadUint32", "(*internal/sync.Mutex).Lock", "internal/race.Disable", "sync/atomic.CompareAndSwapInt32", "internal/race.Enable", "internal/race.Acquire", "(*internal/sync.Mutex).lockSlow", "internal/sync.runtime_canSpin", "internal/sync.runtime_doSpin", "internal/sync.throw", "internal/sync.runtime_nanotime", "internal/sync.runtime_SemacquireMutex", "sync/atomic.AddInt32", "(*internal/sync.Mutex).Unlock", "internal/race.ReleaseMerge", "(*internal/sync.Mutex).unlockSlow", "internal/sync.fatal", "internal/sync.runtime_Semrelease", "sync/atomic.StoreUint32", "sync/atomic.LoadInt64"], unfollowed := true, recurses := true, apart := false }
def ReachTimersSaid : Prop := reachTimersRow.holds Try.pinned (OpenSpec.ofChange reachTimersSpec)

/-- ITS FALSE NEIGHBOUR: 'it returns false'. Refute it at one input. -/
def reachTimersWrong : ChangeSpec := { name := "reachTimers", fn := fun _ => fun
  | [d1, d2, d3] => { results := [.lit (.bool false)], args := [d1, d2, d3] }
  | _ => none }
def ReachTimersWrongFalsely : Prop := reachTimersRow.holds Try.pinned (OpenSpec.ofChange reachTimersWrong)

/-- 'gavottelaw20.ReachPaths': WHATEVER THE INPUT: true; the input reads as it did. -/
def reachPathsSpec : ChangeSpec := { name := "reachPaths", fn := fun _ => fun
  | [d1, d2] => { results := [.lit (.bool true)], args := [d1, d2] }
  | _ => none }
def reachPathsRow : OpenClaim := { program := "ytpaeffcpdpblcaa", sum := "c4512361d0e9c13cfcfe7fc5c4b535d5bb049048e1fa668ba57774b5af5108d0", func := "gavotte/gavottelaw20.ReachPaths", spec := "reachPaths", inPlace := ["sync/atomic.LoadInt64", "sync/atomic.AddInt64", "sync/atomic.LoadUint32", "(*internal/sync.Mutex).Lock", "internal/race.Disable", "sync/atomic.CompareAndSwapInt32", "internal/race.Enable", "internal/race.Acquire", "(*internal/sync.Mutex).lockSlow", "internal/sync.runtime_canSpin", "internal/sync.runtime_doSpin", "internal/sync.throw", "internal/sync.runtime_nanotime", "internal/sync.runtime_SemacquireMutex", "sync/atomic.AddInt32", "(*internal/sync.Mutex).Unlock", "internal/race.ReleaseMerge", "(*internal/sync.Mutex).unlockSlow", "internal/sync.fatal", "internal/sync.runtime_Semrelease", "sync/atomic.StoreUint32"], unfollowed := true, recurses := true, apart := false }
def ReachPathsSaid : Prop := reachPathsRow.holds Try.pinned (OpenSpec.ofChange reachPathsSpec)

/-- ITS FALSE NEIGHBOUR: 'it returns false'. Refute it at one input. -/
def reachPathsWrong : ChangeSpec := { name := "reachPaths", fn := fun _ => fun
  | [d1, d2] => { results := [.lit (.bool false)], args := [d1, d2] }
  | _ => none }
def ReachPathsWrongFalsely : Prop := reachPathsRow.holds Try.pinned (OpenSpec.ofChange reachPathsWrong)

/- THE SECOND FORM. 'bulk': how many values and letters a reading holds, each counted each time it is reached (what is shared counts as often as it is met; a slice's spare places count too). A statement '..UptoSaid' is the law's where the arguments, and the package variables that the reading takes, are together of bulk at most 1048576: NARROWER than '..Said'. Prove '..Said' where nothing that the law and all that it calls make is longer than what came in: it says more and counts as full. Else prove '..UptoSaid'. A law counts once. -/
mutual
def uptoBulk {H : Type} : DataW H → Nat
  | .lit (.string bytes) => bytes.length + 1
  | .lit _ => 1
  | .nil => 1
  | .ptr d => uptoBulk d + 1
  | .slice elems spare => uptoBulkAll elems + uptoBulkAll spare + 1
  | .agg parts => uptoBulkAll parts + 1
  | .iface _ d => uptoBulk d + 1
  | .map entries => uptoBulkEntries entries + 1
  | .held _ => 1
def uptoBulkAll {H : Type} : List (DataW H) → Nat
  | [] => 0
  | d :: r => uptoBulk d + uptoBulkAll r
def uptoBulkEntries {H : Type} : List (Lit × DataW H) → Nat
  | [] => 0
  | x :: r => uptoBulkEntry x + uptoBulkEntries r
def uptoBulkEntry {H : Type} : Lit × DataW H → Nat
  | (.string bytes, d) => bytes.length + uptoBulk d + 1
  | (_, d) => uptoBulk d + 1
 end
def uptoSmall : (H : Type) → List (DataW H) → Bool := fun _ ds => decide (uptoBulkAll ds ≤ 1048576)
def OpenSpec.upto (s : _root_.Go.ChangeSpec) : _root_.Go.OpenSpec := { _root_.Go.OpenSpec.ofChange s with cond := some uptoSmall }

/-- 'gavottelaw3.ProgCopies', WHERE WHAT IT READS IS OF BULK AT MOST 1048576: true; the input reads as it did. -/
def progCopiesUptoRow : OpenClaim := { program := "ytpaeffcpdpblcaa", sum := "c4512361d0e9c13cfcfe7fc5c4b535d5bb049048e1fa668ba57774b5af5108d0", func := "gavotte/gavottelaw3.ProgCopies", spec := "progCopies", unfollowed := true, recurses := true, apart := false, narrowed := true }
def ProgCopiesUptoSaid : Prop := progCopiesUptoRow.holds Try.pinned (OpenSpec.upto progCopiesSpec)

/-- 'gavottelaw20.ReachOnce', WHERE WHAT IT READS IS OF BULK AT MOST 1048576: true; the input reads as it did. -/
def reachOnceUptoRow : OpenClaim := { program := "ytpaeffcpdpblcaa", sum := "c4512361d0e9c13cfcfe7fc5c4b535d5bb049048e1fa668ba57774b5af5108d0", func := "gavotte/gavottelaw20.ReachOnce", spec := "reachOnce", inPlace := ["sync/atomic.LoadInt64", "sync/atomic.AddInt64", "sync/atomic.LoadUint32", "(*internal/sync.Mutex).Lock", "internal/race.Disable", "sync/atomic.CompareAndSwapInt32", "internal/race.Enable", "internal/race.Acquire", "(*internal/sync.Mutex).lockSlow", "internal/sync.runtime_canSpin", "internal/sync.runtime_doSpin", "internal/sync.throw", "internal/sync.runtime_nanotime", "internal/sync.runtime_SemacquireMutex", "sync/atomic.AddInt32", "(*internal/sync.Mutex).Unlock", "internal/race.ReleaseMerge", "(*internal/sync.Mutex).unlockSlow", "internal/sync.fatal", "internal/sync.runtime_Semrelease", "sync/atomic.StoreUint32"], unfollowed := true, recurses := true, apart := false, narrowed := true }
def ReachOnceUptoSaid : Prop := reachOnceUptoRow.holds Try.pinned (OpenSpec.upto reachOnceSpec)

/-- 'gavottelaw20.ReachTimers', WHERE WHAT IT READS IS OF BULK AT MOST 1048576: true; the input reads as it did. -/
def reachTimersUptoRow : OpenClaim := { program := "ytpaeffcpdpblcaa", sum := "c4512361d0e9c13cfcfe7fc5c4b535d5bb049048e1fa668ba57774b5af5108d0", func := "gavotte/gavottelaw20.ReachTimers", spec := "reachTimers", inPlace := ["sync/atomic.AddInt64", "sync/atomic.LoadUint32", "(*internal/sync.Mutex).Lock", "internal/race.Disable", "sync/atomic.CompareAndSwapInt32", "internal/race.Enable", "internal/race.Acquire", "(*internal/sync.Mutex).lockSlow", "internal/sync.runtime_canSpin", "internal/sync.runtime_doSpin", "internal/sync.throw", "internal/sync.runtime_nanotime", "internal/sync.runtime_SemacquireMutex", "sync/atomic.AddInt32", "(*internal/sync.Mutex).Unlock", "internal/race.ReleaseMerge", "(*internal/sync.Mutex).unlockSlow", "internal/sync.fatal", "internal/sync.runtime_Semrelease", "sync/atomic.StoreUint32", "sync/atomic.LoadInt64"], unfollowed := true, recurses := true, apart := false, narrowed := true }
def ReachTimersUptoSaid : Prop := reachTimersUptoRow.holds Try.pinned (OpenSpec.upto reachTimersSpec)

/-- 'gavottelaw20.ReachPaths', WHERE WHAT IT READS IS OF BULK AT MOST 1048576: true; the input reads as it did. -/
def reachPathsUptoRow : OpenClaim := { program := "ytpaeffcpdpblcaa", sum := "c4512361d0e9c13cfcfe7fc5c4b535d5bb049048e1fa668ba57774b5af5108d0", func := "gavotte/gavottelaw20.ReachPaths", spec := "reachPaths", inPlace := ["sync/atomic.LoadInt64", "sync/atomic.AddInt64", "sync/atomic.LoadUint32", "(*internal/sync.Mutex).Lock", "internal/race.Disable", "sync/atomic.CompareAndSwapInt32", "internal/race.Enable", "internal/race.Acquire", "(*internal/sync.Mutex).lockSlow", "internal/sync.runtime_canSpin", "internal/sync.runtime_doSpin", "internal/sync.throw", "internal/sync.runtime_nanotime", "internal/sync.runtime_SemacquireMutex", "sync/atomic.AddInt32", "(*internal/sync.Mutex).Unlock", "internal/race.ReleaseMerge", "(*internal/sync.Mutex).unlockSlow", "internal/sync.fatal", "internal/sync.runtime_Semrelease", "sync/atomic.StoreUint32"], unfollowed := true, recurses := true, apart := false, narrowed := true }
def ReachPathsUptoSaid : Prop := reachPathsUptoRow.holds Try.pinned (OpenSpec.upto reachPathsSpec)

end Rows
end Go.Proofs.Ytpaeffcpdpblcaa
