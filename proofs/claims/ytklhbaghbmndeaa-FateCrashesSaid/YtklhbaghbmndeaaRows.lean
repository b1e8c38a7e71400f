/-
  No cell of these rows narrows 'for every input' (looked for: loops, veiled, ifaces, maps, wideKeys, modest, calm, conditions, laid).
  DERIVED. THE GIVEN ROWS OF THIS SEAT. 21 by the template 'for every input the law returns true; each argument reads behind the call as it read before'; 0 by the template 'total and deterministic' (their statements: YtklhbaghbmndeaaTotals.lean).
  GIVEN WITH THE SEED: the statements are not yours to turn. If you find one false, say at which input.
  Laid BY PROGRAM, IN A SANDBOX (cutbox-rows.mjs): the forced cells as the released guide's own fill.sh prints them over the translation 19703a9e2ec89648… (all of the seat's roots in one cut). By AI agents, Wed Nov 11 2026. No macro, syntax, notation, axiom, sorry.
-/
import Derived.Test.YtklhbaghbmndeaaChecked
import GoSem.Claim
import GoSem.ClaimJoined
import GoSem.ClaimMapViews
import Derived.JoinedTies
import Derived.KernelRfl
namespace Go.Proofs.Ytklhbaghbmndeaa
/- THE CELL 'sum', in the pinned program and in every row, IS THE sha256 OF THE DUMP (.gsa) THAT YtklhbaghbmndeaaProg.lean LOADS. Nothing in Lean hashes anything: it is a label: what it is worth is what the hold of that sum in a sandbox is worth. -/
noncomputable def Try.pinned : Pinned := { name := "ytklhbaghbmndeaa", sum := "19703a9e2ec89648be06a080db4e5080f774fc7207d2628ff70f8ce373e3a421", checked := Try.checked }
namespace Rows
def none {H : Type} : Left H := { results := [], args := [] }

/-- 'rickyardlaw05.PmemFenced': WHATEVER THE INPUT: true; the input reads as it did. -/
def pmemFencedSpec : ChangeSpec := { name := "pmemFenced", fn := fun _ => fun
  | [d] => { results := [.lit (.bool true)], args := [d] }
  | _ => none }
def pmemFencedRow : OpenClaim := { program := "ytklhbaghbmndeaa", sum := "19703a9e2ec89648be06a080db4e5080f774fc7207d2628ff70f8ce373e3a421", func := "rickyard/rickyardlaw05.PmemFenced", spec := "pmemFenced", unfollowed := true, recurses := true, apart := false }
def PmemFencedSaid : Prop := pmemFencedRow.holds Try.pinned (OpenSpec.ofChange pmemFencedSpec)

/-- ITS FALSE NEIGHBOUR: 'it returns false'. Refute it at one input. -/
def pmemFencedWrong : ChangeSpec := { name := "pmemFenced", fn := fun _ => fun
  | [d] => { results := [.lit (.bool false)], args := [d] }
  | _ => none }
def PmemFencedWrongFalsely : Prop := pmemFencedRow.holds Try.pinned (OpenSpec.ofChange pmemFencedWrong)

/-- 'rickyardlaw05.PmemPlans': WHATEVER THE INPUT: true; the input reads as it did. -/
def pmemPlansSpec : ChangeSpec := { name := "pmemPlans", fn := fun _ => fun
  | [d1, d2] => { results := [.lit (.bool true)], args := [d1, d2] }
  | _ => none }
def pmemPlansRow : OpenClaim := { program := "ytklhbaghbmndeaa", sum := "19703a9e2ec89648be06a080db4e5080f774fc7207d2628ff70f8ce373e3a421", func := "rickyard/rickyardlaw05.PmemPlans", spec := "pmemPlans", unfollowed := true, recurses := true, apart := false }
def PmemPlansSaid : Prop := pmemPlansRow.holds Try.pinned (OpenSpec.ofChange pmemPlansSpec)

/-- ITS FALSE NEIGHBOUR: 'it returns false'. Refute it at one input. -/
def pmemPlansWrong : ChangeSpec := { name := "pmemPlans", fn := fun _ => fun
  | [d1, d2] => { results := [.lit (.bool false)], args := [d1, d2] }
  | _ => none }
def PmemPlansWrongFalsely : Prop := pmemPlansRow.holds Try.pinned (OpenSpec.ofChange pmemPlansWrong)

/-- 'rickyardlaw05.PmemPower': WHATEVER THE INPUT: true; the input reads as it did. -/
def pmemPowerSpec : ChangeSpec := { name := "pmemPower", fn := fun _ => fun
  | [d1, d2] => { results := [.lit (.bool true)], args := [d1, d2] }
  | _ => none }
def pmemPowerRow : OpenClaim := { program := "ytklhbaghbmndeaa", sum := "19703a9e2ec89648be06a080db4e5080f774fc7207d2628ff70f8ce373e3a421", func := "rickyard/rickyardlaw05.PmemPower", spec := "pmemPower", unfollowed := true, recurses := true, apart := false }
def PmemPowerSaid : Prop := pmemPowerRow.holds Try.pinned (OpenSpec.ofChange pmemPowerSpec)

/-- ITS FALSE NEIGHBOUR: 'it returns false'. Refute it at one input. -/
def pmemPowerWrong : ChangeSpec := { name := "pmemPower", fn := fun _ => fun
  | [d1, d2] => { results := [.lit (.bool false)], args := [d1, d2] }
  | _ => none }
def PmemPowerWrongFalsely : Prop := pmemPowerRow.holds Try.pinned (OpenSpec.ofChange pmemPowerWrong)

/-- 'rickyardlaw05.PmemCrash': WHATEVER THE INPUT: true; the input reads as it did. -/
def pmemCrashSpec : ChangeSpec := { name := "pmemCrash", fn := fun _ => fun
  | [d1, d2] => { results := [.lit (.bool true)], args := [d1, d2] }
  | _ => none }
def pmemCrashRow : OpenClaim := { program := "ytklhbaghbmndeaa", sum := "19703a9e2ec89648be06a080db4e5080f774fc7207d2628ff70f8ce373e3a421", func := "rickyard/rickyardlaw05.PmemCrash", spec := "pmemCrash", unfollowed := true, recurses := true, apart := false }
def PmemCrashSaid : Prop := pmemCrashRow.holds Try.pinned (OpenSpec.ofChange pmemCrashSpec)

/-- ITS FALSE NEIGHBOUR: 'it returns false'. Refute it at one input. -/
def pmemCrashWrong : ChangeSpec := { name := "pmemCrash", fn := fun _ => fun
  | [d1, d2] => { results := [.lit (.bool false)], args := [d1, d2] }
  | _ => none }
def PmemCrashWrongFalsely : Prop := pmemCrashRow.holds Try.pinned (OpenSpec.ofChange pmemCrashWrong)

/-- 'rickyardlaw05.PmemActs': WHATEVER THE INPUT: true; the input reads as it did. -/
def pmemActsSpec : ChangeSpec := { name := "pmemActs", fn := fun _ => fun
  | [d1, d2] => { results := [.lit (.bool true)], args := [d1, d2] }
  | _ => none }
def pmemActsRow : OpenClaim := { program := "ytklhbaghbmndeaa", sum := "19703a9e2ec89648be06a080db4e5080f774fc7207d2628ff70f8ce373e3a421", func := "rickyard/rickyardlaw05.PmemActs", spec := "pmemActs", unfollowed := true, recurses := true, apart := false }
def PmemActsSaid : Prop := pmemActsRow.holds Try.pinned (OpenSpec.ofChange pmemActsSpec)

/-- ITS FALSE NEIGHBOUR: 'it returns false'. Refute it at one input. -/
def pmemActsWrong : ChangeSpec := { name := "pmemActs", fn := fun _ => fun
  | [d1, d2] => { results := [.lit (.bool false)], args := [d1, d2] }
  | _ => none }
def PmemActsWrongFalsely : Prop := pmemActsRow.holds Try.pinned (OpenSpec.ofChange pmemActsWrong)

/-- 'rickyardlaw05.PmemFrom': WHATEVER THE INPUT: true; the input reads as it did. -/
def pmemFromSpec : ChangeSpec := { name := "pmemFrom", fn := fun _ => fun
  | [d] => { results := [.lit (.bool true)], args := [d] }
  | _ => none }
def pmemFromRow : OpenClaim := { program := "ytklhbaghbmndeaa", sum := "19703a9e2ec89648be06a080db4e5080f774fc7207d2628ff70f8ce373e3a421", func := "rickyard/rickyardlaw05.PmemFrom", spec := "pmemFrom", unfollowed := true, recurses := true, apart := false }
def PmemFromSaid : Prop := pmemFromRow.holds Try.pinned (OpenSpec.ofChange pmemFromSpec)

/-- ITS FALSE NEIGHBOUR: 'it returns false'. Refute it at one input. -/
def pmemFromWrong : ChangeSpec := { name := "pmemFrom", fn := fun _ => fun
  | [d] => { results := [.lit (.bool false)], args := [d] }
  | _ => none }
def PmemFromWrongFalsely : Prop := pmemFromRow.holds Try.pinned (OpenSpec.ofChange pmemFromWrong)

/-- 'rickyardlaw06.FateValues': WHATEVER THE INPUT: true; the input reads as it did. -/
def fateValuesSpec : ChangeSpec := { name := "fateValues", fn := fun _ => fun
  | [d] => { results := [.lit (.bool true)], args := [d] }
  | _ => none }
def fateValuesRow : OpenClaim := { program := "ytklhbaghbmndeaa", sum := "19703a9e2ec89648be06a080db4e5080f774fc7207d2628ff70f8ce373e3a421", func := "rickyard/rickyardlaw06.FateValues", spec := "fateValues", unfollowed := true, recurses := true, apart := false }
def FateValuesSaid : Prop := fateValuesRow.holds Try.pinned (OpenSpec.ofChange fateValuesSpec)

/-- ITS FALSE NEIGHBOUR: 'it returns false'. Refute it at one input. -/
def fateValuesWrong : ChangeSpec := { name := "fateValues", fn := fun _ => fun
  | [d] => { results := [.lit (.bool false)], args := [d] }
  | _ => none }
def FateValuesWrongFalsely : Prop := fateValuesRow.holds Try.pinned (OpenSpec.ofChange fateValuesWrong)

/-- 'rickyardlaw15.PressTorn': WHATEVER THE INPUT: true; the input reads as it did. -/
def pressTornSpec : ChangeSpec := { name := "pressTorn", fn := fun _ => fun
  | [d1, d2, d3] => { results := [.lit (.bool true)], args := [d1, d2, d3] }
  | _ => none }
def pressTornRow : OpenClaim := { program := "ytklhbaghbmndeaa", sum := "19703a9e2ec89648be06a080db4e5080f774fc7207d2628ff70f8ce373e3a421", func := "rickyard/rickyardlaw15.PressTorn", spec := "pressTorn", apart := false }
def PressTornSaid : Prop := pressTornRow.holds Try.pinned (OpenSpec.ofChange pressTornSpec)

/-- ITS FALSE NEIGHBOUR: 'it returns false'. Refute it at one input. -/
def pressTornWrong : ChangeSpec := { name := "pressTorn", fn := fun _ => fun
  | [d1, d2, d3] => { results := [.lit (.bool false)], args := [d1, d2, d3] }
  | _ => none }
def PressTornWrongFalsely : Prop := pressTornRow.holds Try.pinned (OpenSpec.ofChange pressTornWrong)

/-- 'rickyardlaw15.PressNil': WHATEVER THE INPUT: true; the input reads as it did. -/
def pressNilSpec : ChangeSpec := { name := "pressNil", fn := fun _ => fun
  | [d1, d2, d3] => { results := [.lit (.bool true)], args := [d1, d2, d3] }
  | _ => none }
def pressNilRow : OpenClaim := { program := "ytklhbaghbmndeaa", sum := "19703a9e2ec89648be06a080db4e5080f774fc7207d2628ff70f8ce373e3a421", func := "rickyard/rickyardlaw15.PressNil", spec := "pressNil", unfollowed := true, recurses := true, apart := false }
def PressNilSaid : Prop := pressNilRow.holds Try.pinned (OpenSpec.ofChange pressNilSpec)

/-- ITS FALSE NEIGHBOUR: 'it returns false'. Refute it at one input. -/
def pressNilWrong : ChangeSpec := { name := "pressNil", fn := fun _ => fun
  | [d1, d2, d3] => { results := [.lit (.bool false)], args := [d1, d2, d3] }
  | _ => none }
def PressNilWrongFalsely : Prop := pressNilRow.holds Try.pinned (OpenSpec.ofChange pressNilWrong)

/-- 'rickyardlaw15.PressSure': WHATEVER THE INPUT: true; the input reads as it did. -/
def pressSureSpec : ChangeSpec := { name := "pressSure", fn := fun _ => fun
  | [d1, d2, d3] => { results := [.lit (.bool true)], args := [d1, d2, d3] }
  | _ => none }
def pressSureRow : OpenClaim := { program := "ytklhbaghbmndeaa", sum := "19703a9e2ec89648be06a080db4e5080f774fc7207d2628ff70f8ce373e3a421", func := "rickyard/rickyardlaw15.PressSure", spec := "pressSure", unfollowed := true, recurses := true, apart := false }
def PressSureSaid : Prop := pressSureRow.holds Try.pinned (OpenSpec.ofChange pressSureSpec)

/-- ITS FALSE NEIGHBOUR: 'it returns false'. Refute it at one input. -/
def pressSureWrong : ChangeSpec := { name := "pressSure", fn := fun _ => fun
  | [d1, d2, d3] => { results := [.lit (.bool false)], args := [d1, d2, d3] }
  | _ => none }
def PressSureWrongFalsely : Prop := pressSureRow.holds Try.pinned (OpenSpec.ofChange pressSureWrong)

/-- 'rickyardlaw15.PressActs': WHATEVER THE INPUT: true; the input reads as it did. -/
def pressActsSpec : ChangeSpec := { name := "pressActs", fn := fun _ => fun
  | [d1, d2] => { results := [.lit (.bool true)], args := [d1, d2] }
  | _ => none }
def pressActsRow : OpenClaim := { program := "ytklhbaghbmndeaa", sum := "19703a9e2ec89648be06a080db4e5080f774fc7207d2628ff70f8ce373e3a421", func := "rickyard/rickyardlaw15.PressActs", spec := "pressActs", unfollowed := true, recurses := true, apart := false }
def PressActsSaid : Prop := pressActsRow.holds Try.pinned (OpenSpec.ofChange pressActsSpec)

/-- ITS FALSE NEIGHBOUR: 'it returns false'. Refute it at one input. -/
def pressActsWrong : ChangeSpec := { name := "pressActs", fn := fun _ => fun
  | [d1, d2] => { results := [.lit (.bool false)], args := [d1, d2] }
  | _ => none }
def PressActsWrongFalsely : Prop := pressActsRow.holds Try.pinned (OpenSpec.ofChange pressActsWrong)

/-- 'rickyardlaw06.FateCounts': WHATEVER THE INPUT: true; the input reads as it did. -/
def fateCountsSpec : ChangeSpec := { name := "fateCounts", fn := fun _ => fun
  | [d1, d2] => { results := [.lit (.bool true)], args := [d1, d2] }
  | _ => none }
def fateCountsRow : OpenClaim := { program := "ytklhbaghbmndeaa", sum := "19703a9e2ec89648be06a080db4e5080f774fc7207d2628ff70f8ce373e3a421", func := "rickyard/rickyardlaw06.FateCounts", spec := "fateCounts", unfollowed := true, recurses := true, apart := false }
def FateCountsSaid : Prop := fateCountsRow.holds Try.pinned (OpenSpec.ofChange fateCountsSpec)

/-- ITS FALSE NEIGHBOUR: 'it returns false'. Refute it at one input. -/
def fateCountsWrong : ChangeSpec := { name := "fateCounts", fn := fun _ => fun
  | [d1, d2] => { results := [.lit (.bool false)], args := [d1, d2] }
  | _ => none }
def FateCountsWrongFalsely : Prop := fateCountsRow.holds Try.pinned (OpenSpec.ofChange fateCountsWrong)

/-- 'rickyardlaw06.FateChooses': WHATEVER THE INPUT: true; the input reads as it did. -/
def fateChoosesSpec : ChangeSpec := { name := "fateChooses", fn := fun _ => fun
  | [d1, d2, d3] => { results := [.lit (.bool true)], args := [d1, d2, d3] }
  | _ => none }
def fateChoosesRow : OpenClaim := { program := "ytklhbaghbmndeaa", sum := "19703a9e2ec89648be06a080db4e5080f774fc7207d2628ff70f8ce373e3a421", func := "rickyard/rickyardlaw06.FateChooses", spec := "fateChooses", unfollowed := true, recurses := true, apart := false }
def FateChoosesSaid : Prop := fateChoosesRow.holds Try.pinned (OpenSpec.ofChange fateChoosesSpec)

/-- ITS FALSE NEIGHBOUR: 'it returns false'. Refute it at one input. -/
def fateChoosesWrong : ChangeSpec := { name := "fateChooses", fn := fun _ => fun
  | [d1, d2, d3] => { results := [.lit (.bool false)], args := [d1, d2, d3] }
  | _ => none }
def FateChoosesWrongFalsely : Prop := fateChoosesRow.holds Try.pinned (OpenSpec.ofChange fateChoosesWrong)

/-- 'rickyardlaw06.FateAll': WHATEVER THE INPUT: true; the input reads as it did. -/
def fateAllSpec : ChangeSpec := { name := "fateAll", fn := fun _ => fun
  | [d1, d2, d3] => { results := [.lit (.bool true)], args := [d1, d2, d3] }
  | _ => none }
def fateAllRow : OpenClaim := { program := "ytklhbaghbmndeaa", sum := "19703a9e2ec89648be06a080db4e5080f774fc7207d2628ff70f8ce373e3a421", func := "rickyard/rickyardlaw06.FateAll", spec := "fateAll", unfollowed := true, recurses := true, apart := false }
def FateAllSaid : Prop := fateAllRow.holds Try.pinned (OpenSpec.ofChange fateAllSpec)

/-- ITS FALSE NEIGHBOUR: 'it returns false'. Refute it at one input. -/
def fateAllWrong : ChangeSpec := { name := "fateAll", fn := fun _ => fun
  | [d1, d2, d3] => { results := [.lit (.bool false)], args := [d1, d2, d3] }
  | _ => none }
def FateAllWrongFalsely : Prop := fateAllRow.holds Try.pinned (OpenSpec.ofChange fateAllWrong)

/-- 'rickyardlaw06.FateCrashes': WHATEVER THE INPUT: true; the input reads as it did. -/
def fateCrashesSpec : ChangeSpec := { name := "fateCrashes", fn := fun _ => fun
  | [d1, d2, d3] => { results := [.lit (.bool true)], args := [d1, d2, d3] }
  | _ => none }
def fateCrashesRow : OpenClaim := { program := "ytklhbaghbmndeaa", sum := "19703a9e2ec89648be06a080db4e5080f774fc7207d2628ff70f8ce373e3a421", func := "rickyard/rickyardlaw06.FateCrashes", spec := "fateCrashes", unfollowed := true, recurses := true, apart := false }
def FateCrashesSaid : Prop := fateCrashesRow.holds Try.pinned (OpenSpec.ofChange fateCrashesSpec)

/-- ITS FALSE NEIGHBOUR: 'it returns false'. Refute it at one input. -/
def fateCrashesWrong : ChangeSpec := { name := "fateCrashes", fn := fun _ => fun
  | [d1, d2, d3] => { results := [.lit (.bool false)], args := [d1, d2, d3] }
  | _ => none }
def FateCrashesWrongFalsely : Prop := fateCrashesRow.holds Try.pinned (OpenSpec.ofChange fateCrashesWrong)

/-- 'rickyardlaw16.RootPicks': WHATEVER THE INPUT: true; the input reads as it did. -/
def rootPicksSpec : ChangeSpec := { name := "rootPicks", fn := fun _ => fun
  | [d1, d2] => { results := [.lit (.bool true)], args := [d1, d2] }
  | _ => none }
def rootPicksRow : OpenClaim := { program := "ytklhbaghbmndeaa", sum := "19703a9e2ec89648be06a080db4e5080f774fc7207d2628ff70f8ce373e3a421", func := "rickyard/rickyardlaw16.RootPicks", spec := "rootPicks", unfollowed := true, recurses := true, apart := false }
def RootPicksSaid : Prop := rootPicksRow.holds Try.pinned (OpenSpec.ofChange rootPicksSpec)

/-- ITS FALSE NEIGHBOUR: 'it returns false'. Refute it at one input. -/
def rootPicksWrong : ChangeSpec := { name := "rootPicks", fn := fun _ => fun
  | [d1, d2] => { results := [.lit (.bool false)], args := [d1, d2] }
  | _ => none }
def RootPicksWrongFalsely : Prop := rootPicksRow.holds Try.pinned (OpenSpec.ofChange rootPicksWrong)

/-- 'rickyardlaw16.RootOctet': WHATEVER THE INPUT: true; the input reads as it did. -/
def rootOctetSpec : ChangeSpec := { name := "rootOctet", fn := fun _ => fun
  | [d1, d2, d3] => { results := [.lit (.bool true)], args := [d1, d2, d3] }
  | _ => none }
def rootOctetRow : OpenClaim := { program := "ytklhbaghbmndeaa", sum := "19703a9e2ec89648be06a080db4e5080f774fc7207d2628ff70f8ce373e3a421", func := "rickyard/rickyardlaw16.RootOctet", spec := "rootOctet", unfollowed := true, recurses := true, apart := false }
def RootOctetSaid : Prop := rootOctetRow.holds Try.pinned (OpenSpec.ofChange rootOctetSpec)

/-- ITS FALSE NEIGHBOUR: 'it returns false'. Refute it at one input. -/
def rootOctetWrong : ChangeSpec := { name := "rootOctet", fn := fun _ => fun
  | [d1, d2, d3] => { results := [.lit (.bool false)], args := [d1, d2, d3] }
  | _ => none }
def RootOctetWrongFalsely : Prop := rootOctetRow.holds Try.pinned (OpenSpec.ofChange rootOctetWrong)

/-- 'rickyardlaw16.RootLays': WHATEVER THE INPUT: true; the input reads as it did. -/
def rootLaysSpec : ChangeSpec := { name := "rootLays", fn := fun _ => fun
  | [d1, d2, d3] => { results := [.lit (.bool true)], args := [d1, d2, d3] }
  | _ => none }
def rootLaysRow : OpenClaim := { program := "ytklhbaghbmndeaa", sum := "19703a9e2ec89648be06a080db4e5080f774fc7207d2628ff70f8ce373e3a421", func := "rickyard/rickyardlaw16.RootLays", spec := "rootLays", unfollowed := true, recurses := true, apart := false }
def RootLaysSaid : Prop := rootLaysRow.holds Try.pinned (OpenSpec.ofChange rootLaysSpec)

/-- ITS FALSE NEIGHBOUR: 'it returns false'. Refute it at one input. -/
def rootLaysWrong : ChangeSpec := { name := "rootLays", fn := fun _ => fun
  | [d1, d2, d3] => { results := [.lit (.bool false)], args := [d1, d2, d3] }
  | _ => none }
def RootLaysWrongFalsely : Prop := rootLaysRow.holds Try.pinned (OpenSpec.ofChange rootLaysWrong)

/-- 'rickyardlaw16.RootCommits': WHATEVER THE INPUT: true; the input reads as it did. -/
def rootCommitsSpec : ChangeSpec := { name := "rootCommits", fn := fun _ => fun
  | [d1, d2] => { results := [.lit (.bool true)], args := [d1, d2] }
  | _ => none }
def rootCommitsRow : OpenClaim := { program := "ytklhbaghbmndeaa", sum := "19703a9e2ec89648be06a080db4e5080f774fc7207d2628ff70f8ce373e3a421", func := "rickyard/rickyardlaw16.RootCommits", spec := "rootCommits", unfollowed := true, recurses := true, apart := false }
def RootCommitsSaid : Prop := rootCommitsRow.holds Try.pinned (OpenSpec.ofChange rootCommitsSpec)

/-- ITS FALSE NEIGHBOUR: 'it returns false'. Refute it at one input. -/
def rootCommitsWrong : ChangeSpec := { name := "rootCommits", fn := fun _ => fun
  | [d1, d2] => { results := [.lit (.bool false)], args := [d1, d2] }
  | _ => none }
def RootCommitsWrongFalsely : Prop := rootCommitsRow.holds Try.pinned (OpenSpec.ofChange rootCommitsWrong)

/-- 'rickyardlaw16.RootTorn': WHATEVER THE INPUT: true; the input reads as it did. -/
def rootTornSpec : ChangeSpec := { name := "rootTorn", fn := fun _ => fun
  | [d1, d2, d3] => { results := [.lit (.bool true)], args := [d1, d2, d3] }
  | _ => none }
def rootTornRow : OpenClaim := { program := "ytklhbaghbmndeaa", sum := "19703a9e2ec89648be06a080db4e5080f774fc7207d2628ff70f8ce373e3a421", func := "rickyard/rickyardlaw16.RootTorn", spec := "rootTorn", unfollowed := true, recurses := true, apart := false }
def RootTornSaid : Prop := rootTornRow.holds Try.pinned (OpenSpec.ofChange rootTornSpec)

/-- ITS FALSE NEIGHBOUR: 'it returns false'. Refute it at one input. -/
def rootTornWrong : ChangeSpec := { name := "rootTorn", fn := fun _ => fun
  | [d1, d2, d3] => { results := [.lit (.bool false)], args := [d1, d2, d3] }
  | _ => none }
def RootTornWrongFalsely : Prop := rootTornRow.holds Try.pinned (OpenSpec.ofChange rootTornWrong)

/-- 'rickyardlaw16.RootClears': WHATEVER THE INPUT: true; the input reads as it did. -/
def rootClearsSpec : ChangeSpec := { name := "rootClears", fn := fun _ => fun
  | [d1, d2] => { results := [.lit (.bool true)], args := [d1, d2] }
  | _ => none }
def rootClearsRow : OpenClaim := { program := "ytklhbaghbmndeaa", sum := "19703a9e2ec89648be06a080db4e5080f774fc7207d2628ff70f8ce373e3a421", func := "rickyard/rickyardlaw16.RootClears", spec := "rootClears", unfollowed := true, recurses := true, apart := false }
def RootClearsSaid : Prop := rootClearsRow.holds Try.pinned (OpenSpec.ofChange rootClearsSpec)

/-- ITS FALSE NEIGHBOUR: 'it returns false'. Refute it at one input. -/
def rootClearsWrong : ChangeSpec := { name := "rootClears", fn := fun _ => fun
  | [d1, d2] => { results := [.lit (.bool false)], args := [d1, d2] }
  | _ => none }
def RootClearsWrongFalsely : Prop := rootClearsRow.holds Try.pinned (OpenSpec.ofChange rootClearsWrong)

/- THE SECOND FORM. 'bulk': how many values and letters a reading holds, each counted each time it is reached (what is shared counts as often as it is met; a slice's spare places count too). A statement '..UptoSaid' is the law's where the arguments, and the package variables that the reading takes, are together of bulk at most 1048576: NARROWER than '..Said'. Prove '..Said' where nothing that the law and all that it calls make is longer than what came in: it says more and counts as full. Else prove '..UptoSaid'. A law counts once. -/
mutual
def uptoBulk {H : Type} : DataW H → Nat
  | .lit (.string bytes) => bytes.length + 1
  | .lit _ => 1
  | .nil => 1
  | .ptr d => uptoBulk d + 1
  | .slice elems spare => uptoBulkAll elems + uptoBulkAll spare + 1
  | .agg parts => uptoBulkAll parts + 1
  | .iface _ d => uptoBulk d + 1
  | .map entries => uptoBulkEntries entries + 1
  | .held _ => 1
def uptoBulkAll {H : Type} : List (DataW H) → Nat
  | [] => 0
  | d :: r => uptoBulk d + uptoBulkAll r
def uptoBulkEntries {H : Type} : List (Lit × DataW H) → Nat
  | [] => 0
  | x :: r => uptoBulkEntry x + uptoBulkEntries r
def uptoBulkEntry {H : Type} : Lit × DataW H → Nat
  | (.string bytes, d) => bytes.length + uptoBulk d + 1
  | (_, d) => uptoBulk d + 1
 end
def uptoSmall : (H : Type) → List (DataW H) → Bool := fun _ ds => decide (uptoBulkAll ds ≤ 1048576)
def OpenSpec.upto (s : _root_.Go.ChangeSpec) : _root_.Go.OpenSpec := { _root_.Go.OpenSpec.ofChange s with cond := some uptoSmall }

/-- 'rickyardlaw05.PmemFenced', WHERE WHAT IT READS IS OF BULK AT MOST 1048576: true; the input reads as it did. -/
def pmemFencedUptoRow : OpenClaim := { program := "ytklhbaghbmndeaa", sum := "19703a9e2ec89648be06a080db4e5080f774fc7207d2628ff70f8ce373e3a421", func := "rickyard/rickyardlaw05.PmemFenced", spec := "pmemFenced", unfollowed := true, recurses := true, apart := false, narrowed := true }
def PmemFencedUptoSaid : Prop := pmemFencedUptoRow.holds Try.pinned (OpenSpec.upto pmemFencedSpec)

/-- 'rickyardlaw05.PmemPlans', WHERE WHAT IT READS IS OF BULK AT MOST 1048576: true; the input reads as it did. -/
def pmemPlansUptoRow : OpenClaim := { program := "ytklhbaghbmndeaa", sum := "19703a9e2ec89648be06a080db4e5080f774fc7207d2628ff70f8ce373e3a421", func := "rickyard/rickyardlaw05.PmemPlans", spec := "pmemPlans", unfollowed := true, recurses := true, apart := false, narrowed := true }
def PmemPlansUptoSaid : Prop := pmemPlansUptoRow.holds Try.pinned (OpenSpec.upto pmemPlansSpec)

/-- 'rickyardlaw05.PmemPower', WHERE WHAT IT READS IS OF BULK AT MOST 1048576: true; the input reads as it did. -/
def pmemPowerUptoRow : OpenClaim := { program := "ytklhbaghbmndeaa", sum := "19703a9e2ec89648be06a080db4e5080f774fc7207d2628ff70f8ce373e3a421", func := "rickyard/rickyardlaw05.PmemPower", spec := "pmemPower", unfollowed := true, recurses := true, apart := false, narrowed := true }
def PmemPowerUptoSaid : Prop := pmemPowerUptoRow.holds Try.pinned (OpenSpec.upto pmemPowerSpec)

/-- 'rickyardlaw05.PmemCrash', WHERE WHAT IT READS IS OF BULK AT MOST 1048576: true; the input reads as it did. -/
def pmemCrashUptoRow : OpenClaim := { program := "ytklhbaghbmndeaa", sum := "19703a9e2ec89648be06a080db4e5080f774fc7207d2628ff70f8ce373e3a421", func := "rickyard/rickyardlaw05.PmemCrash", spec := "pmemCrash", unfollowed := true, recurses := true, apart := false, narrowed := true }
def PmemCrashUptoSaid : Prop := pmemCrashUptoRow.holds Try.pinned (OpenSpec.upto pmemCrashSpec)

/-- 'rickyardlaw05.PmemActs', WHERE WHAT IT READS IS OF BULK AT MOST 1048576: true; the input reads as it did. -/
def pmemActsUptoRow : OpenClaim := { program := "ytklhbaghbmndeaa", sum := "19703a9e2ec89648be06a080db4e5080f774fc7207d2628ff70f8ce373e3a421", func := "rickyard/rickyardlaw05.PmemActs", spec := "pmemActs", unfollowed := true, recurses := true, apart := false, narrowed := true }
def PmemActsUptoSaid : Prop := pmemActsUptoRow.holds Try.pinned (OpenSpec.upto pmemActsSpec)

/-- 'rickyardlaw05.PmemFrom', WHERE WHAT IT READS IS OF BULK AT MOST 1048576: true; the input reads as it did. -/
def pmemFromUptoRow : OpenClaim := { program := "ytklhbaghbmndeaa", sum := "19703a9e2ec89648be06a080db4e5080f774fc7207d2628ff70f8ce373e3a421", func := "rickyard/rickyardlaw05.PmemFrom", spec := "pmemFrom", unfollowed := true, recurses := true, apart := false, narrowed := true }
def PmemFromUptoSaid : Prop := pmemFromUptoRow.holds Try.pinned (OpenSpec.upto pmemFromSpec)

/-- 'rickyardlaw06.FateValues', WHERE WHAT IT READS IS OF BULK AT MOST 1048576: true; the input reads as it did. -/
def fateValuesUptoRow : OpenClaim := { program := "ytklhbaghbmndeaa", sum := "19703a9e2ec89648be06a080db4e5080f774fc7207d2628ff70f8ce373e3a421", func := "rickyard/rickyardlaw06.FateValues", spec := "fateValues", unfollowed := true, recurses := true, apart := false, narrowed := true }
def FateValuesUptoSaid : Prop := fateValuesUptoRow.holds Try.pinned (OpenSpec.upto fateValuesSpec)

/-- 'rickyardlaw15.PressTorn', WHERE WHAT IT READS IS OF BULK AT MOST 1048576: true; the input reads as it did. -/
def pressTornUptoRow : OpenClaim := { program := "ytklhbaghbmndeaa", sum := "19703a9e2ec89648be06a080db4e5080f774fc7207d2628ff70f8ce373e3a421", func := "rickyard/rickyardlaw15.PressTorn", spec := "pressTorn", apart := false, narrowed := true }
def PressTornUptoSaid : Prop := pressTornUptoRow.holds Try.pinned (OpenSpec.upto pressTornSpec)

/-- 'rickyardlaw15.PressNil', WHERE WHAT IT READS IS OF BULK AT MOST 1048576: true; the input reads as it did. -/
def pressNilUptoRow : OpenClaim := { program := "ytklhbaghbmndeaa", sum := "19703a9e2ec89648be06a080db4e5080f774fc7207d2628ff70f8ce373e3a421", func := "rickyard/rickyardlaw15.PressNil", spec := "pressNil", unfollowed := true, recurses := true, apart := false, narrowed := true }
def PressNilUptoSaid : Prop := pressNilUptoRow.holds Try.pinned (OpenSpec.upto pressNilSpec)

/-- 'rickyardlaw15.PressSure', WHERE WHAT IT READS IS OF BULK AT MOST 1048576: true; the input reads as it did. -/
def pressSureUptoRow : OpenClaim := { program := "ytklhbaghbmndeaa", sum := "19703a9e2ec89648be06a080db4e5080f774fc7207d2628ff70f8ce373e3a421", func := "rickyard/rickyardlaw15.PressSure", spec := "pressSure", unfollowed := true, recurses := true, apart := false, narrowed := true }
def PressSureUptoSaid : Prop := pressSureUptoRow.holds Try.pinned (OpenSpec.upto pressSureSpec)

/-- 'rickyardlaw15.PressActs', WHERE WHAT IT READS IS OF BULK AT MOST 1048576: true; the input reads as it did. -/
def pressActsUptoRow : OpenClaim := { program := "ytklhbaghbmndeaa", sum := "19703a9e2ec89648be06a080db4e5080f774fc7207d2628ff70f8ce373e3a421", func := "rickyard/rickyardlaw15.PressActs", spec := "pressActs", unfollowed := true, recurses := true, apart := false, narrowed := true }
def PressActsUptoSaid : Prop := pressActsUptoRow.holds Try.pinned (OpenSpec.upto pressActsSpec)

/-- 'rickyardlaw06.FateCounts', WHERE WHAT IT READS IS OF BULK AT MOST 1048576: true; the input reads as it did. -/
def fateCountsUptoRow : OpenClaim := { program := "ytklhbaghbmndeaa", sum := "19703a9e2ec89648be06a080db4e5080f774fc7207d2628ff70f8ce373e3a421", func := "rickyard/rickyardlaw06.FateCounts", spec := "fateCounts", unfollowed := true, recurses := true, apart := false, narrowed := true }
def FateCountsUptoSaid : Prop := fateCountsUptoRow.holds Try.pinned (OpenSpec.upto fateCountsSpec)

/-- 'rickyardlaw06.FateChooses', WHERE WHAT IT READS IS OF BULK AT MOST 1048576: true; the input reads as it did. -/
def fateChoosesUptoRow : OpenClaim := { program := "ytklhbaghbmndeaa", sum := "19703a9e2ec89648be06a080db4e5080f774fc7207d2628ff70f8ce373e3a421", func := "rickyard/rickyardlaw06.FateChooses", spec := "fateChooses", unfollowed := true, recurses := true, apart := false, narrowed := true }
def FateChoosesUptoSaid : Prop := fateChoosesUptoRow.holds Try.pinned (OpenSpec.upto fateChoosesSpec)

/-- 'rickyardlaw06.FateAll', WHERE WHAT IT READS IS OF BULK AT MOST 1048576: true; the input reads as it did. -/
def fateAllUptoRow : OpenClaim := { program := "ytklhbaghbmndeaa", sum := "19703a9e2ec89648be06a080db4e5080f774fc7207d2628ff70f8ce373e3a421", func := "rickyard/rickyardlaw06.FateAll", spec := "fateAll", unfollowed := true, recurses := true, apart := false, narrowed := true }
def FateAllUptoSaid : Prop := fateAllUptoRow.holds Try.pinned (OpenSpec.upto fateAllSpec)

/-- 'rickyardlaw06.FateCrashes', WHERE WHAT IT READS IS OF BULK AT MOST 1048576: true; the input reads as it did. -/
def fateCrashesUptoRow : OpenClaim := { program := "ytklhbaghbmndeaa", sum := "19703a9e2ec89648be06a080db4e5080f774fc7207d2628ff70f8ce373e3a421", func := "rickyard/rickyardlaw06.FateCrashes", spec := "fateCrashes", unfollowed := true, recurses := true, apart := false, narrowed := true }
def FateCrashesUptoSaid : Prop := fateCrashesUptoRow.holds Try.pinned (OpenSpec.upto fateCrashesSpec)

/-- 'rickyardlaw16.RootPicks', WHERE WHAT IT READS IS OF BULK AT MOST 1048576: true; the input reads as it did. -/
def rootPicksUptoRow : OpenClaim := { program := "ytklhbaghbmndeaa", sum := "19703a9e2ec89648be06a080db4e5080f774fc7207d2628ff70f8ce373e3a421", func := "rickyard/rickyardlaw16.RootPicks", spec := "rootPicks", unfollowed := true, recurses := true, apart := false, narrowed := true }
def RootPicksUptoSaid : Prop := rootPicksUptoRow.holds Try.pinned (OpenSpec.upto rootPicksSpec)

/-- 'rickyardlaw16.RootOctet', WHERE WHAT IT READS IS OF BULK AT MOST 1048576: true; the input reads as it did. -/
def rootOctetUptoRow : OpenClaim := { program := "ytklhbaghbmndeaa", sum := "19703a9e2ec89648be06a080db4e5080f774fc7207d2628ff70f8ce373e3a421", func := "rickyard/rickyardlaw16.RootOctet", spec := "rootOctet", unfollowed := true, recurses := true, apart := false, narrowed := true }
def RootOctetUptoSaid : Prop := rootOctetUptoRow.holds Try.pinned (OpenSpec.upto rootOctetSpec)

/-- 'rickyardlaw16.RootLays', WHERE WHAT IT READS IS OF BULK AT MOST 1048576: true; the input reads as it did. -/
def rootLaysUptoRow : OpenClaim := { program := "ytklhbaghbmndeaa", sum := "19703a9e2ec89648be06a080db4e5080f774fc7207d2628ff70f8ce373e3a421", func := "rickyard/rickyardlaw16.RootLays", spec := "rootLays", unfollowed := true, recurses := true, apart := false, narrowed := true }
def RootLaysUptoSaid : Prop := rootLaysUptoRow.holds Try.pinned (OpenSpec.upto rootLaysSpec)

/-- 'rickyardlaw16.RootCommits', WHERE WHAT IT READS IS OF BULK AT MOST 1048576: true; the input reads as it did. -/
def rootCommitsUptoRow : OpenClaim := { program := "ytklhbaghbmndeaa", sum := "19703a9e2ec89648be06a080db4e5080f774fc7207d2628ff70f8ce373e3a421", func := "rickyard/rickyardlaw16.RootCommits", spec := "rootCommits", unfollowed := true, recurses := true, apart := false, narrowed := true }
def RootCommitsUptoSaid : Prop := rootCommitsUptoRow.holds Try.pinned (OpenSpec.upto rootCommitsSpec)

/-- 'rickyardlaw16.RootTorn', WHERE WHAT IT READS IS OF BULK AT MOST 1048576: true; the input reads as it did. -/
def rootTornUptoRow : OpenClaim := { program := "ytklhbaghbmndeaa", sum := "19703a9e2ec89648be06a080db4e5080f774fc7207d2628ff70f8ce373e3a421", func := "rickyard/rickyardlaw16.RootTorn", spec := "rootTorn", unfollowed := true, recurses := true, apart := false, narrowed := true }
def RootTornUptoSaid : Prop := rootTornUptoRow.holds Try.pinned (OpenSpec.upto rootTornSpec)

/-- 'rickyardlaw16.RootClears', WHERE WHAT IT READS IS OF BULK AT MOST 1048576: true; the input reads as it did. -/
def rootClearsUptoRow : OpenClaim := { program := "ytklhbaghbmndeaa", sum := "19703a9e2ec89648be06a080db4e5080f774fc7207d2628ff70f8ce373e3a421", func := "rickyard/rickyardlaw16.RootClears", spec := "rootClears", unfollowed := true, recurses := true, apart := false, narrowed := true }
def RootClearsUptoSaid : Prop := rootClearsUptoRow.holds Try.pinned (OpenSpec.upto rootClearsSpec)

end Rows
end Go.Proofs.Ytklhbaghbmndeaa
