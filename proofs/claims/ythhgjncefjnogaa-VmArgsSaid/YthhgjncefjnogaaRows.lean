/-
  No cell of these rows narrows 'for every input' (looked for: loops, veiled, ifaces, maps, wideKeys, modest, calm, conditions, laid).
  DERIVED. THE GIVEN ROWS OF THIS SEAT. 21 by the template 'for every input the law returns true; each argument reads behind the call as it read before'; 0 by the template 'total and deterministic' (their statements: YthhgjncefjnogaaTotals.lean).
  GIVEN WITH THE SEED: the statements are not yours to turn. If you find one false, say at which input.
  Laid BY PROGRAM, IN A SANDBOX (cutbox-rows.mjs): the forced cells as the released guide's own fill.sh prints them over the translation 7aa447bc7ab0412d… (all of the seat's roots in one cut). By AI agents, Wed Nov 11 2026. No macro, syntax, notation, axiom, sorry.
-/
import Derived.Test.YthhgjncefjnogaaChecked
import GoSem.Claim
import GoSem.ClaimJoined
import GoSem.ClaimMapViews
import Derived.JoinedTies
import Derived.KernelRfl
namespace Go.Proofs.Ythhgjncefjnogaa
/- THE CELL 'sum', in the pinned program and in every row, IS THE sha256 OF THE DUMP (.gsa) THAT YthhgjncefjnogaaProg.lean LOADS. Nothing in Lean hashes anything: it is a label: what it is worth is what the hold of that sum in a sandbox is worth. -/
noncomputable def Try.pinned : Pinned := { name := "ythhgjncefjnogaa", sum := "7aa447bc7ab0412df1665e3dc0e92df9f620f7ad7488912103705a1b2ded5c82", checked := Try.checked }
namespace Rows
def none {H : Type} : Left H := { results := [], args := [] }

/-- 'gavottelaw3.ProgCopies': WHATEVER THE INPUT: true; the input reads as it did. -/
def progCopiesSpec : ChangeSpec := { name := "progCopies", fn := fun _ => fun
  | [d1, d2] => { results := [.lit (.bool true)], args := [d1, d2] }
  | _ => none }
def progCopiesRow : OpenClaim := { program := "ythhgjncefjnogaa", sum := "7aa447bc7ab0412df1665e3dc0e92df9f620f7ad7488912103705a1b2ded5c82", func := "gavotte/gavottelaw3.ProgCopies", spec := "progCopies", unfollowed := true, recurses := true, apart := false }
def ProgCopiesSaid : Prop := progCopiesRow.holds Try.pinned (OpenSpec.ofChange progCopiesSpec)

/-- ITS FALSE NEIGHBOUR: 'it returns false'. Refute it at one input. -/
def progCopiesWrong : ChangeSpec := { name := "progCopies", fn := fun _ => fun
  | [d1, d2] => { results := [.lit (.bool false)], args := [d1, d2] }
  | _ => none }
def ProgCopiesWrongFalsely : Prop := progCopiesRow.holds Try.pinned (OpenSpec.ofChange progCopiesWrong)

/-- 'gavottelaw3.ProgLimits': WHATEVER THE INPUT: true; the input reads as it did. -/
def progLimitsSpec : ChangeSpec := { name := "progLimits", fn := fun _ => fun
  | [d1, d2] => { results := [.lit (.bool true)], args := [d1, d2] }
  | _ => none }
def progLimitsRow : OpenClaim := { program := "ythhgjncefjnogaa", sum := "7aa447bc7ab0412df1665e3dc0e92df9f620f7ad7488912103705a1b2ded5c82", func := "gavotte/gavottelaw3.ProgLimits", spec := "progLimits", unfollowed := true, recurses := true, apart := false }
def ProgLimitsSaid : Prop := progLimitsRow.holds Try.pinned (OpenSpec.ofChange progLimitsSpec)

/-- ITS FALSE NEIGHBOUR: 'it returns false'. Refute it at one input. -/
def progLimitsWrong : ChangeSpec := { name := "progLimits", fn := fun _ => fun
  | [d1, d2] => { results := [.lit (.bool false)], args := [d1, d2] }
  | _ => none }
def ProgLimitsWrongFalsely : Prop := progLimitsRow.holds Try.pinned (OpenSpec.ofChange progLimitsWrong)

/-- 'gavottelaw3.ProgOdd': WHATEVER THE INPUT: true; the input reads as it did. -/
def progOddSpec : ChangeSpec := { name := "progOdd", fn := fun _ => fun
  | [d] => { results := [.lit (.bool true)], args := [d] }
  | _ => none }
def progOddRow : OpenClaim := { program := "ythhgjncefjnogaa", sum := "7aa447bc7ab0412df1665e3dc0e92df9f620f7ad7488912103705a1b2ded5c82", func := "gavotte/gavottelaw3.ProgOdd", spec := "progOdd", unfollowed := true, recurses := true, apart := false }
def ProgOddSaid : Prop := progOddRow.holds Try.pinned (OpenSpec.ofChange progOddSpec)

/-- ITS FALSE NEIGHBOUR: 'it returns false'. Refute it at one input. -/
def progOddWrong : ChangeSpec := { name := "progOdd", fn := fun _ => fun
  | [d] => { results := [.lit (.bool false)], args := [d] }
  | _ => none }
def ProgOddWrongFalsely : Prop := progOddRow.holds Try.pinned (OpenSpec.ofChange progOddWrong)

/-- 'gavottelaw3.ProgSame': WHATEVER THE INPUT: true; the input reads as it did. -/
def progSameSpec : ChangeSpec := { name := "progSame", fn := fun _ => fun
  | [d1, d2] => { results := [.lit (.bool true)], args := [d1, d2] }
  | _ => none }
def progSameRow : OpenClaim := { program := "ythhgjncefjnogaa", sum := "7aa447bc7ab0412df1665e3dc0e92df9f620f7ad7488912103705a1b2ded5c82", func := "gavotte/gavottelaw3.ProgSame", spec := "progSame", unfollowed := true, recurses := true, apart := false }
def ProgSameSaid : Prop := progSameRow.holds Try.pinned (OpenSpec.ofChange progSameSpec)

/-- ITS FALSE NEIGHBOUR: 'it returns false'. Refute it at one input. -/
def progSameWrong : ChangeSpec := { name := "progSame", fn := fun _ => fun
  | [d1, d2] => { results := [.lit (.bool false)], args := [d1, d2] }
  | _ => none }
def ProgSameWrongFalsely : Prop := progSameRow.holds Try.pinned (OpenSpec.ofChange progSameWrong)

/-- 'gavottelaw4.FlowTells': WHATEVER THE INPUT: true; the input reads as it did. -/
def flowTellsSpec : ChangeSpec := { name := "flowTells", fn := fun _ => fun
  | [d1, d2] => { results := [.lit (.bool true)], args := [d1, d2] }
  | _ => none }
def flowTellsRow : OpenClaim := { program := "ythhgjncefjnogaa", sum := "7aa447bc7ab0412df1665e3dc0e92df9f620f7ad7488912103705a1b2ded5c82", func := "gavotte/gavottelaw4.FlowTells", spec := "flowTells", unfollowed := true, recurses := true, apart := false }
def FlowTellsSaid : Prop := flowTellsRow.holds Try.pinned (OpenSpec.ofChange flowTellsSpec)

/-- ITS FALSE NEIGHBOUR: 'it returns false'. Refute it at one input. -/
def flowTellsWrong : ChangeSpec := { name := "flowTells", fn := fun _ => fun
  | [d1, d2] => { results := [.lit (.bool false)], args := [d1, d2] }
  | _ => none }
def FlowTellsWrongFalsely : Prop := flowTellsRow.holds Try.pinned (OpenSpec.ofChange flowTellsWrong)

/-- 'gavottelaw4.FlowRows': WHATEVER THE INPUT: true; the input reads as it did. -/
def flowRowsSpec : ChangeSpec := { name := "flowRows", fn := fun _ => fun
  | [d] => { results := [.lit (.bool true)], args := [d] }
  | _ => none }
def flowRowsRow : OpenClaim := { program := "ythhgjncefjnogaa", sum := "7aa447bc7ab0412df1665e3dc0e92df9f620f7ad7488912103705a1b2ded5c82", func := "gavotte/gavottelaw4.FlowRows", spec := "flowRows", unfollowed := true, recurses := true, apart := false }
def FlowRowsSaid : Prop := flowRowsRow.holds Try.pinned (OpenSpec.ofChange flowRowsSpec)

/-- ITS FALSE NEIGHBOUR: 'it returns false'. Refute it at one input. -/
def flowRowsWrong : ChangeSpec := { name := "flowRows", fn := fun _ => fun
  | [d] => { results := [.lit (.bool false)], args := [d] }
  | _ => none }
def FlowRowsWrongFalsely : Prop := flowRowsRow.holds Try.pinned (OpenSpec.ofChange flowRowsWrong)

/-- 'gavottelaw4.FlowReach': WHATEVER THE INPUT: true; the input reads as it did. -/
def flowReachSpec : ChangeSpec := { name := "flowReach", fn := fun _ => fun
  | [d1, d2, d3] => { results := [.lit (.bool true)], args := [d1, d2, d3] }
  | _ => none }
def flowReachRow : OpenClaim := { program := "ythhgjncefjnogaa", sum := "7aa447bc7ab0412df1665e3dc0e92df9f620f7ad7488912103705a1b2ded5c82", func := "gavotte/gavottelaw4.FlowReach", spec := "flowReach", unfollowed := true, recurses := true, apart := false }
def FlowReachSaid : Prop := flowReachRow.holds Try.pinned (OpenSpec.ofChange flowReachSpec)

/-- ITS FALSE NEIGHBOUR: 'it returns false'. Refute it at one input. -/
def flowReachWrong : ChangeSpec := { name := "flowReach", fn := fun _ => fun
  | [d1, d2, d3] => { results := [.lit (.bool false)], args := [d1, d2, d3] }
  | _ => none }
def FlowReachWrongFalsely : Prop := flowReachRow.holds Try.pinned (OpenSpec.ofChange flowReachWrong)

/-- 'gavottelaw4.FlowJoins': WHATEVER THE INPUT: true; the input reads as it did. -/
def flowJoinsSpec : ChangeSpec := { name := "flowJoins", fn := fun _ => fun
  | [d1, d2, d3] => { results := [.lit (.bool true)], args := [d1, d2, d3] }
  | _ => none }
def flowJoinsRow : OpenClaim := { program := "ythhgjncefjnogaa", sum := "7aa447bc7ab0412df1665e3dc0e92df9f620f7ad7488912103705a1b2ded5c82", func := "gavotte/gavottelaw4.FlowJoins", spec := "flowJoins", unfollowed := true, recurses := true, apart := false }
def FlowJoinsSaid : Prop := flowJoinsRow.holds Try.pinned (OpenSpec.ofChange flowJoinsSpec)

/-- ITS FALSE NEIGHBOUR: 'it returns false'. Refute it at one input. -/
def flowJoinsWrong : ChangeSpec := { name := "flowJoins", fn := fun _ => fun
  | [d1, d2, d3] => { results := [.lit (.bool false)], args := [d1, d2, d3] }
  | _ => none }
def FlowJoinsWrongFalsely : Prop := flowJoinsRow.holds Try.pinned (OpenSpec.ofChange flowJoinsWrong)

/-- 'gavottelaw4.FlowSends': WHATEVER THE INPUT: true; the input reads as it did. -/
def flowSendsSpec : ChangeSpec := { name := "flowSends", fn := fun _ => fun
  | [d1, d2] => { results := [.lit (.bool true)], args := [d1, d2] }
  | _ => none }
def flowSendsRow : OpenClaim := { program := "ythhgjncefjnogaa", sum := "7aa447bc7ab0412df1665e3dc0e92df9f620f7ad7488912103705a1b2ded5c82", func := "gavotte/gavottelaw4.FlowSends", spec := "flowSends", unfollowed := true, recurses := true, apart := false }
def FlowSendsSaid : Prop := flowSendsRow.holds Try.pinned (OpenSpec.ofChange flowSendsSpec)

/-- ITS FALSE NEIGHBOUR: 'it returns false'. Refute it at one input. -/
def flowSendsWrong : ChangeSpec := { name := "flowSends", fn := fun _ => fun
  | [d1, d2] => { results := [.lit (.bool false)], args := [d1, d2] }
  | _ => none }
def FlowSendsWrongFalsely : Prop := flowSendsRow.holds Try.pinned (OpenSpec.ofChange flowSendsWrong)

/-- 'gavottelaw4.FlowFirst': WHATEVER THE INPUT: true; the input reads as it did. -/
def flowFirstSpec : ChangeSpec := { name := "flowFirst", fn := fun _ => fun
  | [d1, d2, d3] => { results := [.lit (.bool true)], args := [d1, d2, d3] }
  | _ => none }
def flowFirstRow : OpenClaim := { program := "ythhgjncefjnogaa", sum := "7aa447bc7ab0412df1665e3dc0e92df9f620f7ad7488912103705a1b2ded5c82", func := "gavotte/gavottelaw4.FlowFirst", spec := "flowFirst", unfollowed := true, recurses := true, apart := false }
def FlowFirstSaid : Prop := flowFirstRow.holds Try.pinned (OpenSpec.ofChange flowFirstSpec)

/-- ITS FALSE NEIGHBOUR: 'it returns false'. Refute it at one input. -/
def flowFirstWrong : ChangeSpec := { name := "flowFirst", fn := fun _ => fun
  | [d1, d2, d3] => { results := [.lit (.bool false)], args := [d1, d2, d3] }
  | _ => none }
def FlowFirstWrongFalsely : Prop := flowFirstRow.holds Try.pinned (OpenSpec.ofChange flowFirstWrong)

/-- 'gavottelaw6.VmRuns': WHATEVER THE INPUT: true; the input reads as it did. -/
def vmRunsSpec : ChangeSpec := { name := "vmRuns", fn := fun _ => fun
  | [d1, d2, d3, d4, d5] => { results := [.lit (.bool true)], args := [d1, d2, d3, d4, d5] }
  | _ => none }
def vmRunsRow : OpenClaim := { program := "ythhgjncefjnogaa", sum := "7aa447bc7ab0412df1665e3dc0e92df9f620f7ad7488912103705a1b2ded5c82", func := "gavotte/gavottelaw6.VmRuns", spec := "vmRuns", unfollowed := true, recurses := true, apart := false }
def VmRunsSaid : Prop := vmRunsRow.holds Try.pinned (OpenSpec.ofChange vmRunsSpec)

/-- ITS FALSE NEIGHBOUR: 'it returns false'. Refute it at one input. -/
def vmRunsWrong : ChangeSpec := { name := "vmRuns", fn := fun _ => fun
  | [d1, d2, d3, d4, d5] => { results := [.lit (.bool false)], args := [d1, d2, d3, d4, d5] }
  | _ => none }
def VmRunsWrongFalsely : Prop := vmRunsRow.holds Try.pinned (OpenSpec.ofChange vmRunsWrong)

/-- 'gavottelaw6.VmFuel': WHATEVER THE INPUT: true; the input reads as it did. -/
def vmFuelSpec : ChangeSpec := { name := "vmFuel", fn := fun _ => fun
  | [d1, d2, d3] => { results := [.lit (.bool true)], args := [d1, d2, d3] }
  | _ => none }
def vmFuelRow : OpenClaim := { program := "ythhgjncefjnogaa", sum := "7aa447bc7ab0412df1665e3dc0e92df9f620f7ad7488912103705a1b2ded5c82", func := "gavotte/gavottelaw6.VmFuel", spec := "vmFuel", unfollowed := true, recurses := true, apart := false }
def VmFuelSaid : Prop := vmFuelRow.holds Try.pinned (OpenSpec.ofChange vmFuelSpec)

/-- ITS FALSE NEIGHBOUR: 'it returns false'. Refute it at one input. -/
def vmFuelWrong : ChangeSpec := { name := "vmFuel", fn := fun _ => fun
  | [d1, d2, d3] => { results := [.lit (.bool false)], args := [d1, d2, d3] }
  | _ => none }
def VmFuelWrongFalsely : Prop := vmFuelRow.holds Try.pinned (OpenSpec.ofChange vmFuelWrong)

/-- 'gavottelaw6.VmLoops': WHATEVER THE INPUT: true; the input reads as it did. -/
def vmLoopsSpec : ChangeSpec := { name := "vmLoops", fn := fun _ => fun
  | [d1, d2] => { results := [.lit (.bool true)], args := [d1, d2] }
  | _ => none }
def vmLoopsRow : OpenClaim := { program := "ythhgjncefjnogaa", sum := "7aa447bc7ab0412df1665e3dc0e92df9f620f7ad7488912103705a1b2ded5c82", func := "gavotte/gavottelaw6.VmLoops", spec := "vmLoops", unfollowed := true, recurses := true, apart := false }
def VmLoopsSaid : Prop := vmLoopsRow.holds Try.pinned (OpenSpec.ofChange vmLoopsSpec)

/-- ITS FALSE NEIGHBOUR: 'it returns false'. Refute it at one input. -/
def vmLoopsWrong : ChangeSpec := { name := "vmLoops", fn := fun _ => fun
  | [d1, d2] => { results := [.lit (.bool false)], args := [d1, d2] }
  | _ => none }
def VmLoopsWrongFalsely : Prop := vmLoopsRow.holds Try.pinned (OpenSpec.ofChange vmLoopsWrong)

/-- 'gavottelaw6.VmArgs': WHATEVER THE INPUT: true; the input reads as it did. -/
def vmArgsSpec : ChangeSpec := { name := "vmArgs", fn := fun _ => fun
  | [d1, d2] => { results := [.lit (.bool true)], args := [d1, d2] }
  | _ => none }
def vmArgsRow : OpenClaim := { program := "ythhgjncefjnogaa", sum := "7aa447bc7ab0412df1665e3dc0e92df9f620f7ad7488912103705a1b2ded5c82", func := "gavotte/gavottelaw6.VmArgs", spec := "vmArgs", unfollowed := true, recurses := true, apart := false }
def VmArgsSaid : Prop := vmArgsRow.holds Try.pinned (OpenSpec.ofChange vmArgsSpec)

/-- ITS FALSE NEIGHBOUR: 'it returns false'. Refute it at one input. -/
def vmArgsWrong : ChangeSpec := { name := "vmArgs", fn := fun _ => fun
  | [d1, d2] => { results := [.lit (.bool false)], args := [d1, d2] }
  | _ => none }
def VmArgsWrongFalsely : Prop := vmArgsRow.holds Try.pinned (OpenSpec.ofChange vmArgsWrong)

/-- 'gavottelaw6.VmStack': WHATEVER THE INPUT: true; the input reads as it did. -/
def vmStackSpec : ChangeSpec := { name := "vmStack", fn := fun _ => fun
  | [d1, d2] => { results := [.lit (.bool true)], args := [d1, d2] }
  | _ => none }
def vmStackRow : OpenClaim := { program := "ythhgjncefjnogaa", sum := "7aa447bc7ab0412df1665e3dc0e92df9f620f7ad7488912103705a1b2ded5c82", func := "gavotte/gavottelaw6.VmStack", spec := "vmStack", unfollowed := true, recurses := true, apart := false }
def VmStackSaid : Prop := vmStackRow.holds Try.pinned (OpenSpec.ofChange vmStackSpec)

/-- ITS FALSE NEIGHBOUR: 'it returns false'. Refute it at one input. -/
def vmStackWrong : ChangeSpec := { name := "vmStack", fn := fun _ => fun
  | [d1, d2] => { results := [.lit (.bool false)], args := [d1, d2] }
  | _ => none }
def VmStackWrongFalsely : Prop := vmStackRow.holds Try.pinned (OpenSpec.ofChange vmStackWrong)

/-- 'gavottelaw6.VmArms': WHATEVER THE INPUT: true; the input reads as it did. -/
def vmArmsSpec : ChangeSpec := { name := "vmArms", fn := fun _ => fun
  | [d1, d2, d3] => { results := [.lit (.bool true)], args := [d1, d2, d3] }
  | _ => none }
def vmArmsRow : OpenClaim := { program := "ythhgjncefjnogaa", sum := "7aa447bc7ab0412df1665e3dc0e92df9f620f7ad7488912103705a1b2ded5c82", func := "gavotte/gavottelaw6.VmArms", spec := "vmArms", unfollowed := true, recurses := true, apart := false }
def VmArmsSaid : Prop := vmArmsRow.holds Try.pinned (OpenSpec.ofChange vmArmsSpec)

/-- ITS FALSE NEIGHBOUR: 'it returns false'. Refute it at one input. -/
def vmArmsWrong : ChangeSpec := { name := "vmArms", fn := fun _ => fun
  | [d1, d2, d3] => { results := [.lit (.bool false)], args := [d1, d2, d3] }
  | _ => none }
def VmArmsWrongFalsely : Prop := vmArmsRow.holds Try.pinned (OpenSpec.ofChange vmArmsWrong)

/-- 'gavottelaw6.VmFalls': WHATEVER THE INPUT: true; the input reads as it did. -/
def vmFallsSpec : ChangeSpec := { name := "vmFalls", fn := fun _ => fun
  | [d1, d2, d3] => { results := [.lit (.bool true)], args := [d1, d2, d3] }
  | _ => none }
def vmFallsRow : OpenClaim := { program := "ythhgjncefjnogaa", sum := "7aa447bc7ab0412df1665e3dc0e92df9f620f7ad7488912103705a1b2ded5c82", func := "gavotte/gavottelaw6.VmFalls", spec := "vmFalls", unfollowed := true, recurses := true, apart := false }
def VmFallsSaid : Prop := vmFallsRow.holds Try.pinned (OpenSpec.ofChange vmFallsSpec)

/-- ITS FALSE NEIGHBOUR: 'it returns false'. Refute it at one input. -/
def vmFallsWrong : ChangeSpec := { name := "vmFalls", fn := fun _ => fun
  | [d1, d2, d3] => { results := [.lit (.bool false)], args := [d1, d2, d3] }
  | _ => none }
def VmFallsWrongFalsely : Prop := vmFallsRow.holds Try.pinned (OpenSpec.ofChange vmFallsWrong)

/-- 'gavottelaw6.VmRegs': WHATEVER THE INPUT: true; the input reads as it did. -/
def vmRegsSpec : ChangeSpec := { name := "vmRegs", fn := fun _ => fun
  | [d1, d2, d3] => { results := [.lit (.bool true)], args := [d1, d2, d3] }
  | _ => none }
def vmRegsRow : OpenClaim := { program := "ythhgjncefjnogaa", sum := "7aa447bc7ab0412df1665e3dc0e92df9f620f7ad7488912103705a1b2ded5c82", func := "gavotte/gavottelaw6.VmRegs", spec := "vmRegs", unfollowed := true, recurses := true, apart := false }
def VmRegsSaid : Prop := vmRegsRow.holds Try.pinned (OpenSpec.ofChange vmRegsSpec)

/-- ITS FALSE NEIGHBOUR: 'it returns false'. Refute it at one input. -/
def vmRegsWrong : ChangeSpec := { name := "vmRegs", fn := fun _ => fun
  | [d1, d2, d3] => { results := [.lit (.bool false)], args := [d1, d2, d3] }
  | _ => none }
def VmRegsWrongFalsely : Prop := vmRegsRow.holds Try.pinned (OpenSpec.ofChange vmRegsWrong)

/-- 'gavottelaw20.ReachOnce': WHATEVER THE INPUT: true; the input reads as it did. -/
def reachOnceSpec : ChangeSpec := { name := "reachOnce", fn := fun _ => fun
  | [d1, d2, d3] => { results := [.lit (.bool true)], args := [d1, d2, d3] }
  | _ => none }
def reachOnceRow : OpenClaim := { program := "ythhgjncefjnogaa", sum := "7aa447bc7ab0412df1665e3dc0e92df9f620f7ad7488912103705a1b2ded5c82", func := "gavotte/gavottelaw20.ReachOnce", spec := "reachOnce", inPlace := ["sync/atomic.LoadInt64", "sync/atomic.AddInt64", "sync/atomic.LoadUint32", "(*internal/sync.Mutex).Lock", "internal/race.Disable", "sync/atomic.CompareAndSwapInt32", "internal/race.Enable", "internal/race.Acquire", "(*internal/sync.Mutex).lockSlow", "internal/sync.runtime_canSpin", "internal/sync.runtime_doSpin", "internal/sync.throw", "internal/sync.runtime_nanotime", "internal/sync.runtime_SemacquireMutex", "sync/atomic.AddInt32", "(*internal/sync.Mutex).Unlock", "internal/race.ReleaseMerge", "(*internal/sync.Mutex).unlockSlow", "internal/sync.fatal", "internal/sync.runtime_Semrelease", "sync/atomic.StoreUint32"], unfollowed := true, recurses := true, apart := false }
def ReachOnceSaid : Prop := reachOnceRow.holds Try.pinned (OpenSpec.ofChange reachOnceSpec)

/-- ITS FALSE NEIGHBOUR: 'it returns false'. Refute it at one input. -/
def reachOnceWrong : ChangeSpec := { name := "reachOnce", fn := fun _ => fun
  | [d1, d2, d3] => { results := [.lit (.bool false)], args := [d1, d2, d3] }
  | _ => none }
def ReachOnceWrongFalsely : Prop := reachOnceRow.holds Try.pinned (OpenSpec.ofChange reachOnceWrong)

/-- 'gavottelaw20.ReachTimers': WHATEVER THE INPUT: true; the input reads as it did. -/
def reachTimersSpec : ChangeSpec := { name := "reachTimers", fn := fun _ => fun
  | [d1, d2, d3] => { results := [.lit (.bool true)], args := [d1, d2, d3] }
  | _ => none }
def reachTimersRow : OpenClaim := { program := "ythhgjncefjnogaa", sum := "7aa447bc7ab0412df1665e3dc0e92df9f620f7ad7488912103705a1b2ded5c82", func := "gavotte/gavottelaw20.ReachTimers", spec := "reachTimers", inPlace := ["sync/atomic.AddInt64", "sync/atomic.LoadUint32", "(*internal/sync.Mutex).Lock", "internal/race.Disable", "sync/atomic.CompareAndSwapInt32", "internal/race.Enable", "internal/race.Acquire", "(*internal/sync.Mutex).lockSlow", "internal/sync.runtime_canSpin", "internal/sync.runtime_doSpin", "internal/sync.throw", "internal/sync.runtime_nanotime", "internal/sync.runtime_SemacquireMutex", "sync/atomic.AddInt32", "(*internal/sync.Mutex).Unlock", "internal/race.ReleaseMerge", "(*internal/sync.Mutex).unlockSlow", "internal/sync.fatal", "internal/sync.runtime_Semrelease", "sync/atomic.StoreUint32", "sync/atomic.LoadInt64"], unfollowed := true, recurses := true, apart := false }
def ReachTimersSaid : Prop := reachTimersRow.holds Try.pinned (OpenSpec.ofChange reachTimersSpec)

/-- ITS FALSE NEIGHBOUR: 'it returns false'. Refute it at one input. -/
def reachTimersWrong : ChangeSpec := { name := "reachTimers", fn := fun _ => fun
  | [d1, d2, d3] => { results := [.lit (.bool false)], args := [d1, d2, d3] }
  | _ => none }
def ReachTimersWrongFalsely : Prop := reachTimersRow.holds Try.pinned (OpenSpec.ofChange reachTimersWrong)

/-- 'gavottelaw20.ReachPaths': WHATEVER THE INPUT: true; the input reads as it did. -/
def reachPathsSpec : ChangeSpec := { name := "reachPaths", fn := fun _ => fun
  | [d1, d2] => { results := [.lit (.bool true)], args := [d1, d2] }
  | _ => none }
def reachPathsRow : OpenClaim := { program := "ythhgjncefjnogaa", sum := "7aa447bc7ab0412df1665e3dc0e92df9f620f7ad7488912103705a1b2ded5c82", func := "gavotte/gavottelaw20.ReachPaths", spec := "reachPaths", inPlace := ["sync/atomic.LoadInt64", "sync/atomic.AddInt64", "sync/atomic.LoadUint32", "(*internal/sync.Mutex).Lock", "internal/race.Disable", "sync/atomic.CompareAndSwapInt32", "internal/race.Enable", "internal/race.Acquire", "(*internal/sync.Mutex).lockSlow", "internal/sync.runtime_canSpin", "internal/sync.runtime_doSpin", "internal/sync.throw", "internal/sync.runtime_nanotime", "internal/sync.runtime_SemacquireMutex", "sync/atomic.AddInt32", "(*internal/sync.Mutex).Unlock", "internal/race.ReleaseMerge", "(*internal/sync.Mutex).unlockSlow", "internal/sync.fatal", "internal/sync.runtime_Semrelease", "sync/atomic.StoreUint32"], unfollowed := true, recurses := true, apart := false }
def ReachPathsSaid : Prop := reachPathsRow.holds Try.pinned (OpenSpec.ofChange reachPathsSpec)

/-- ITS FALSE NEIGHBOUR: 'it returns false'. Refute it at one input. -/
def reachPathsWrong : ChangeSpec := { name := "reachPaths", fn := fun _ => fun
  | [d1, d2] => { results := [.lit (.bool false)], args := [d1, d2] }
  | _ => none }
def ReachPathsWrongFalsely : Prop := reachPathsRow.holds Try.pinned (OpenSpec.ofChange reachPathsWrong)

/- THE SECOND FORM. 'bulk': how many values and letters a reading holds, each counted each time it is reached (what is shared counts as often as it is met; a slice's spare places count too). A statement '..UptoSaid' is the law's where the arguments, and the package variables that the reading takes, are together of bulk at most 1048576: NARROWER than '..Said'. Prove '..Said' where nothing that the law and all that it calls make is longer than what came in: it says more and counts as full. Else prove '..UptoSaid'. A law counts once. -/
mutual
def uptoBulk {H : Type} : DataW H → Nat
  | .lit (.string bytes) => bytes.length + 1
  | .lit _ => 1
  | .nil => 1
  | .ptr d => uptoBulk d + 1
  | .slice elems spare => uptoBulkAll elems + uptoBulkAll spare + 1
  | .agg parts => uptoBulkAll parts + 1
  | .iface _ d => uptoBulk d + 1
  | .map entries => uptoBulkEntries entries + 1
  | .held _ => 1
def uptoBulkAll {H : Type} : List (DataW H) → Nat
  | [] => 0
  | d :: r => uptoBulk d + uptoBulkAll r
def uptoBulkEntries {H : Type} : List (Lit × DataW H) → Nat
  | [] => 0
  | x :: r => uptoBulkEntry x + uptoBulkEntries r
def uptoBulkEntry {H : Type} : Lit × DataW H → Nat
  | (.string bytes, d) => bytes.length + uptoBulk d + 1
  | (_, d) => uptoBulk d + 1
 end
def uptoSmall : (H : Type) → List (DataW H) → Bool := fun _ ds => decide (uptoBulkAll ds ≤ 1048576)
def OpenSpec.upto (s : _root_.Go.ChangeSpec) : _root_.Go.OpenSpec := { _root_.Go.OpenSpec.ofChange s with cond := some uptoSmall }

/-- 'gavottelaw3.ProgCopies', WHERE WHAT IT READS IS OF BULK AT MOST 1048576: true; the input reads as it did. -/
def progCopiesUptoRow : OpenClaim := { program := "ythhgjncefjnogaa", sum := "7aa447bc7ab0412df1665e3dc0e92df9f620f7ad7488912103705a1b2ded5c82", func := "gavotte/gavottelaw3.ProgCopies", spec := "progCopies", unfollowed := true, recurses := true, apart := false, narrowed := true }
def ProgCopiesUptoSaid : Prop := progCopiesUptoRow.holds Try.pinned (OpenSpec.upto progCopiesSpec)

/-- 'gavottelaw3.ProgLimits', WHERE WHAT IT READS IS OF BULK AT MOST 1048576: true; the input reads as it did. -/
def progLimitsUptoRow : OpenClaim := { program := "ythhgjncefjnogaa", sum := "7aa447bc7ab0412df1665e3dc0e92df9f620f7ad7488912103705a1b2ded5c82", func := "gavotte/gavottelaw3.ProgLimits", spec := "progLimits", unfollowed := true, recurses := true, apart := false, narrowed := true }
def ProgLimitsUptoSaid : Prop := progLimitsUptoRow.holds Try.pinned (OpenSpec.upto progLimitsSpec)

/-- 'gavottelaw3.ProgOdd', WHERE WHAT IT READS IS OF BULK AT MOST 1048576: true; the input reads as it did. -/
def progOddUptoRow : OpenClaim := { program := "ythhgjncefjnogaa", sum := "7aa447bc7ab0412df1665e3dc0e92df9f620f7ad7488912103705a1b2ded5c82", func := "gavotte/gavottelaw3.ProgOdd", spec := "progOdd", unfollowed := true, recurses := true, apart := false, narrowed := true }
def ProgOddUptoSaid : Prop := progOddUptoRow.holds Try.pinned (OpenSpec.upto progOddSpec)

/-- 'gavottelaw3.ProgSame', WHERE WHAT IT READS IS OF BULK AT MOST 1048576: true; the input reads as it did. -/
def progSameUptoRow : OpenClaim := { program := "ythhgjncefjnogaa", sum := "7aa447bc7ab0412df1665e3dc0e92df9f620f7ad7488912103705a1b2ded5c82", func := "gavotte/gavottelaw3.ProgSame", spec := "progSame", unfollowed := true, recurses := true, apart := false, narrowed := true }
def ProgSameUptoSaid : Prop := progSameUptoRow.holds Try.pinned (OpenSpec.upto progSameSpec)

/-- 'gavottelaw4.FlowTells', WHERE WHAT IT READS IS OF BULK AT MOST 1048576: true; the input reads as it did. -/
def flowTellsUptoRow : OpenClaim := { program := "ythhgjncefjnogaa", sum := "7aa447bc7ab0412df1665e3dc0e92df9f620f7ad7488912103705a1b2ded5c82", func := "gavotte/gavottelaw4.FlowTells", spec := "flowTells", unfollowed := true, recurses := true, apart := false, narrowed := true }
def FlowTellsUptoSaid : Prop := flowTellsUptoRow.holds Try.pinned (OpenSpec.upto flowTellsSpec)

/-- 'gavottelaw4.FlowRows', WHERE WHAT IT READS IS OF BULK AT MOST 1048576: true; the input reads as it did. -/
def flowRowsUptoRow : OpenClaim := { program := "ythhgjncefjnogaa", sum := "7aa447bc7ab0412df1665e3dc0e92df9f620f7ad7488912103705a1b2ded5c82", func := "gavotte/gavottelaw4.FlowRows", spec := "flowRows", unfollowed := true, recurses := true, apart := false, narrowed := true }
def FlowRowsUptoSaid : Prop := flowRowsUptoRow.holds Try.pinned (OpenSpec.upto flowRowsSpec)

/-- 'gavottelaw4.FlowReach', WHERE WHAT IT READS IS OF BULK AT MOST 1048576: true; the input reads as it did. -/
def flowReachUptoRow : OpenClaim := { program := "ythhgjncefjnogaa", sum := "7aa447bc7ab0412df1665e3dc0e92df9f620f7ad7488912103705a1b2ded5c82", func := "gavotte/gavottelaw4.FlowReach", spec := "flowReach", unfollowed := true, recurses := true, apart := false, narrowed := true }
def FlowReachUptoSaid : Prop := flowReachUptoRow.holds Try.pinned (OpenSpec.upto flowReachSpec)

/-- 'gavottelaw4.FlowJoins', WHERE WHAT IT READS IS OF BULK AT MOST 1048576: true; the input reads as it did. -/
def flowJoinsUptoRow : OpenClaim := { program := "ythhgjncefjnogaa", sum := "7aa447bc7ab0412df1665e3dc0e92df9f620f7ad7488912103705a1b2ded5c82", func := "gavotte/gavottelaw4.FlowJoins", spec := "flowJoins", unfollowed := true, recurses := true, apart := false, narrowed := true }
def FlowJoinsUptoSaid : Prop := flowJoinsUptoRow.holds Try.pinned (OpenSpec.upto flowJoinsSpec)

/-- 'gavottelaw4.FlowSends', WHERE WHAT IT READS IS OF BULK AT MOST 1048576: true; the input reads as it did. -/
def flowSendsUptoRow : OpenClaim := { program := "ythhgjncefjnogaa", sum := "7aa447bc7ab0412df1665e3dc0e92df9f620f7ad7488912103705a1b2ded5c82", func := "gavotte/gavottelaw4.FlowSends", spec := "flowSends", unfollowed := true, recurses := true, apart := false, narrowed := true }
def FlowSendsUptoSaid : Prop := flowSendsUptoRow.holds Try.pinned (OpenSpec.upto flowSendsSpec)

/-- 'gavottelaw4.FlowFirst', WHERE WHAT IT READS IS OF BULK AT MOST 1048576: true; the input reads as it did. -/
def flowFirstUptoRow : OpenClaim := { program := "ythhgjncefjnogaa", sum := "7aa447bc7ab0412df1665e3dc0e92df9f620f7ad7488912103705a1b2ded5c82", func := "gavotte/gavottelaw4.FlowFirst", spec := "flowFirst", unfollowed := true, recurses := true, apart := false, narrowed := true }
def FlowFirstUptoSaid : Prop := flowFirstUptoRow.holds Try.pinned (OpenSpec.upto flowFirstSpec)

/-- 'gavottelaw6.VmRuns', WHERE WHAT IT READS IS OF BULK AT MOST 1048576: true; the input reads as it did. -/
def vmRunsUptoRow : OpenClaim := { program := "ythhgjncefjnogaa", sum := "7aa447bc7ab0412df1665e3dc0e92df9f620f7ad7488912103705a1b2ded5c82", func := "gavotte/gavottelaw6.VmRuns", spec := "vmRuns", unfollowed := true, recurses := true, apart := false, narrowed := true }
def VmRunsUptoSaid : Prop := vmRunsUptoRow.holds Try.pinned (OpenSpec.upto vmRunsSpec)

/-- 'gavottelaw6.VmFuel', WHERE WHAT IT READS IS OF BULK AT MOST 1048576: true; the input reads as it did. -/
def vmFuelUptoRow : OpenClaim := { program := "ythhgjncefjnogaa", sum := "7aa447bc7ab0412df1665e3dc0e92df9f620f7ad7488912103705a1b2ded5c82", func := "gavotte/gavottelaw6.VmFuel", spec := "vmFuel", unfollowed := true, recurses := true, apart := false, narrowed := true }
def VmFuelUptoSaid : Prop := vmFuelUptoRow.holds Try.pinned (OpenSpec.upto vmFuelSpec)

/-- 'gavottelaw6.VmLoops', WHERE WHAT IT READS IS OF BULK AT MOST 1048576: true; the input reads as it did. -/
def vmLoopsUptoRow : OpenClaim := { program := "ythhgjncefjnogaa", sum := "7aa447bc7ab0412df1665e3dc0e92df9f620f7ad7488912103705a1b2ded5c82", func := "gavotte/gavottelaw6.VmLoops", spec := "vmLoops", unfollowed := true, recurses := true, apart := false, narrowed := true }
def VmLoopsUptoSaid : Prop := vmLoopsUptoRow.holds Try.pinned (OpenSpec.upto vmLoopsSpec)

/-- 'gavottelaw6.VmArgs', WHERE WHAT IT READS IS OF BULK AT MOST 1048576: true; the input reads as it did. -/
def vmArgsUptoRow : OpenClaim := { program := "ythhgjncefjnogaa", sum := "7aa447bc7ab0412df1665e3dc0e92df9f620f7ad7488912103705a1b2ded5c82", func := "gavotte/gavottelaw6.VmArgs", spec := "vmArgs", unfollowed := true, recurses := true, apart := false, narrowed := true }
def VmArgsUptoSaid : Prop := vmArgsUptoRow.holds Try.pinned (OpenSpec.upto vmArgsSpec)

/-- 'gavottelaw6.VmStack', WHERE WHAT IT READS IS OF BULK AT MOST 1048576: true; the input reads as it did. -/
def vmStackUptoRow : OpenClaim := { program := "ythhgjncefjnogaa", sum := "7aa447bc7ab0412df1665e3dc0e92df9f620f7ad7488912103705a1b2ded5c82", func := "gavotte/gavottelaw6.VmStack", spec := "vmStack", unfollowed := true, recurses := true, apart := false, narrowed := true }
def VmStackUptoSaid : Prop := vmStackUptoRow.holds Try.pinned (OpenSpec.upto vmStackSpec)

/-- 'gavottelaw6.VmArms', WHERE WHAT IT READS IS OF BULK AT MOST 1048576: true; the input reads as it did. -/
def vmArmsUptoRow : OpenClaim := { program := "ythhgjncefjnogaa", sum := "7aa447bc7ab0412df1665e3dc0e92df9f620f7ad7488912103705a1b2ded5c82", func := "gavotte/gavottelaw6.VmArms", spec := "vmArms", unfollowed := true, recurses := true, apart := false, narrowed := true }
def VmArmsUptoSaid : Prop := vmArmsUptoRow.holds Try.pinned (OpenSpec.upto vmArmsSpec)

/-- 'gavottelaw6.VmFalls', WHERE WHAT IT READS IS OF BULK AT MOST 1048576: true; the input reads as it did. -/
def vmFallsUptoRow : OpenClaim := { program := "ythhgjncefjnogaa", sum := "7aa447bc7ab0412df1665e3dc0e92df9f620f7ad7488912103705a1b2ded5c82", func := "gavotte/gavottelaw6.VmFalls", spec := "vmFalls", unfollowed := true, recurses := true, apart := false, narrowed := true }
def VmFallsUptoSaid : Prop := vmFallsUptoRow.holds Try.pinned (OpenSpec.upto vmFallsSpec)

/-- 'gavottelaw6.VmRegs', WHERE WHAT IT READS IS OF BULK AT MOST 1048576: true; the input reads as it did. -/
def vmRegsUptoRow : OpenClaim := { program := "ythhgjncefjnogaa", sum := "7aa447bc7ab0412df1665e3dc0e92df9f620f7ad7488912103705a1b2ded5c82", func := "gavotte/gavottelaw6.VmRegs", spec := "vmRegs", unfollowed := true, recurses := true, apart := false, narrowed := true }
def VmRegsUptoSaid : Prop := vmRegsUptoRow.holds Try.pinned (OpenSpec.upto vmRegsSpec)

/-- 'gavottelaw20.ReachOnce', WHERE WHAT IT READS IS OF BULK AT MOST 1048576: true; the input reads as it did. -/
def reachOnceUptoRow : OpenClaim := { program := "ythhgjncefjnogaa", sum := "7aa447bc7ab0412df1665e3dc0e92df9f620f7ad7488912103705a1b2ded5c82", func := "gavotte/gavottelaw20.ReachOnce", spec := "reachOnce", inPlace := ["sync/atomic.LoadInt64", "sync/atomic.AddInt64", "sync/atomic.LoadUint32", "(*internal/sync.Mutex).Lock", "internal/race.Disable", "sync/atomic.CompareAndSwapInt32", "internal/race.Enable", "internal/race.Acquire", "(*internal/sync.Mutex).lockSlow", "internal/sync.runtime_canSpin", "internal/sync.runtime_doSpin", "internal/sync.throw", "internal/sync.runtime_nanotime", "internal/sync.runtime_SemacquireMutex", "sync/atomic.AddInt32", "(*internal/sync.Mutex).Unlock", "internal/race.ReleaseMerge", "(*internal/sync.Mutex).unlockSlow", "internal/sync.fatal", "internal/sync.runtime_Semrelease", "sync/atomic.StoreUint32"], unfollowed := true, recurses := true, apart := false, narrowed := true }
def ReachOnceUptoSaid : Prop := reachOnceUptoRow.holds Try.pinned (OpenSpec.upto reachOnceSpec)

/-- 'gavottelaw20.ReachTimers', WHERE WHAT IT READS IS OF BULK AT MOST 1048576: true; the input reads as it did. -/
def reachTimersUptoRow : OpenClaim := { program := "ythhgjncefjnogaa", sum := "7aa447bc7ab0412df1665e3dc0e92df9f620f7ad7488912103705a1b2ded5c82", func := "gavotte/gavottelaw20.ReachTimers", spec := "reachTimers", inPlace := ["sync/atomic.AddInt64", "sync/atomic.LoadUint32", "(*internal/sync.Mutex).Lock", "internal/race.Disable", "sync/atomic.CompareAndSwapInt32", "internal/race.Enable", "internal/race.Acquire", "(*internal/sync.Mutex).lockSlow", "internal/sync.runtime_canSpin", "internal/sync.runtime_doSpin", "internal/sync.throw", "internal/sync.runtime_nanotime", "internal/sync.runtime_SemacquireMutex", "sync/atomic.AddInt32", "(*internal/sync.Mutex).Unlock", "internal/race.ReleaseMerge", "(*internal/sync.Mutex).unlockSlow", "internal/sync.fatal", "internal/sync.runtime_Semrelease", "sync/atomic.StoreUint32", "sync/atomic.LoadInt64"], unfollowed := true, recurses := true, apart := false, narrowed := true }
def ReachTimersUptoSaid : Prop := reachTimersUptoRow.holds Try.pinned (OpenSpec.upto reachTimersSpec)

/-- 'gavottelaw20.ReachPaths', WHERE WHAT IT READS IS OF BULK AT MOST 1048576: true; the input reads as it did. -/
def reachPathsUptoRow : OpenClaim := { program := "ythhgjncefjnogaa", sum := "7aa447bc7ab0412df1665e3dc0e92df9f620f7ad7488912103705a1b2ded5c82", func := "gavotte/gavottelaw20.ReachPaths", spec := "reachPaths", inPlace := ["sync/atomic.LoadInt64", "sync/atomic.AddInt64", "sync/atomic.LoadUint32", "(*internal/sync.Mutex).Lock", "internal/race.Disable", "sync/atomic.CompareAndSwapInt32", "internal/race.Enable", "internal/race.Acquire", "(*internal/sync.Mutex).lockSlow", "internal/sync.runtime_canSpin", "internal/sync.runtime_doSpin", "internal/sync.throw", "internal/sync.runtime_nanotime", "internal/sync.runtime_SemacquireMutex", "sync/atomic.AddInt32", "(*internal/sync.Mutex).Unlock", "internal/race.ReleaseMerge", "(*internal/sync.Mutex).unlockSlow", "internal/sync.fatal", "internal/sync.runtime_Semrelease", "sync/atomic.StoreUint32"], unfollowed := true, recurses := true, apart := false, narrowed := true }
def ReachPathsUptoSaid : Prop := reachPathsUptoRow.holds Try.pinned (OpenSpec.upto reachPathsSpec)

end Rows
end Go.Proofs.Ythhgjncefjnogaa
