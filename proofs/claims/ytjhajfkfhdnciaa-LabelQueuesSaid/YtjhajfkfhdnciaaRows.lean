/-
  No cell of these rows narrows 'for every input' (looked for: loops, veiled, ifaces, maps, wideKeys, modest, calm, conditions, laid).
  DERIVED. THE GIVEN ROWS OF THIS SEAT. 24 by the template 'for every input the law returns true; each argument reads behind the call as it read before'; 0 by the template 'total and deterministic' (their statements: YtjhajfkfhdnciaaTotals.lean).
  GIVEN WITH THE SEED: the statements are not yours to turn. If you find one false, say at which input.
  Laid BY PROGRAM, IN A SANDBOX (cutbox-rows.mjs): the forced cells as the released guide's own fill.sh prints them over the translation 44991768e302cde5… (all of the seat's roots in one cut). By AI agents, Wed Nov 11 2026. No macro, syntax, notation, axiom, sorry.
-/
import Derived.Test.YtjhajfkfhdnciaaChecked
import GoSem.Claim
import GoSem.ClaimJoined
import GoSem.ClaimMapViews
import Derived.JoinedTies
import Derived.KernelRfl
namespace Go.Proofs.Ytjhajfkfhdnciaa
/- THE CELL 'sum', in the pinned program and in every row, IS THE sha256 OF THE DUMP (.gsa) THAT YtjhajfkfhdnciaaProg.lean LOADS. Nothing in Lean hashes anything: it is a label: what it is worth is what the hold of that sum in a sandbox is worth. -/
noncomputable def Try.pinned : Pinned := { name := "ytjhajfkfhdnciaa", sum := "44991768e302cde594fc489a01fba7b10e0c252e38ad1e4dd6d38d2c7f240e90", checked := Try.checked }
namespace Rows
def none {H : Type} : Left H := { results := [], args := [] }

/-- 'rickyardlaw07.BlockSeals': WHATEVER THE INPUT: true; the input reads as it did. -/
def blockSealsSpec : ChangeSpec := { name := "blockSeals", fn := fun _ => fun
  | [d1, d2, d3] => { results := [.lit (.bool true)], args := [d1, d2, d3] }
  | _ => none }
def blockSealsRow : OpenClaim := { program := "ytjhajfkfhdnciaa", sum := "44991768e302cde594fc489a01fba7b10e0c252e38ad1e4dd6d38d2c7f240e90", func := "rickyard/rickyardlaw07.BlockSeals", spec := "blockSeals", apart := false }
def BlockSealsSaid : Prop := blockSealsRow.holds Try.pinned (OpenSpec.ofChange blockSealsSpec)

/-- ITS FALSE NEIGHBOUR: 'it returns false'. Refute it at one input. -/
def blockSealsWrong : ChangeSpec := { name := "blockSeals", fn := fun _ => fun
  | [d1, d2, d3] => { results := [.lit (.bool false)], args := [d1, d2, d3] }
  | _ => none }
def BlockSealsWrongFalsely : Prop := blockSealsRow.holds Try.pinned (OpenSpec.ofChange blockSealsWrong)

/-- 'rickyardlaw07.BlockOpens': WHATEVER THE INPUT: true; the input reads as it did. -/
def blockOpensSpec : ChangeSpec := { name := "blockOpens", fn := fun _ => fun
  | [d] => { results := [.lit (.bool true)], args := [d] }
  | _ => none }
def blockOpensRow : OpenClaim := { program := "ytjhajfkfhdnciaa", sum := "44991768e302cde594fc489a01fba7b10e0c252e38ad1e4dd6d38d2c7f240e90", func := "rickyard/rickyardlaw07.BlockOpens", spec := "blockOpens", apart := false }
def BlockOpensSaid : Prop := blockOpensRow.holds Try.pinned (OpenSpec.ofChange blockOpensSpec)

/-- ITS FALSE NEIGHBOUR: 'it returns false'. Refute it at one input. -/
def blockOpensWrong : ChangeSpec := { name := "blockOpens", fn := fun _ => fun
  | [d] => { results := [.lit (.bool false)], args := [d] }
  | _ => none }
def BlockOpensWrongFalsely : Prop := blockOpensRow.holds Try.pinned (OpenSpec.ofChange blockOpensWrong)

/-- 'rickyardlaw07.BlockTurned': WHATEVER THE INPUT: true; the input reads as it did. -/
def blockTurnedSpec : ChangeSpec := { name := "blockTurned", fn := fun _ => fun
  | [d1, d2, d3] => { results := [.lit (.bool true)], args := [d1, d2, d3] }
  | _ => none }
def blockTurnedRow : OpenClaim := { program := "ytjhajfkfhdnciaa", sum := "44991768e302cde594fc489a01fba7b10e0c252e38ad1e4dd6d38d2c7f240e90", func := "rickyard/rickyardlaw07.BlockTurned", spec := "blockTurned", apart := false }
def BlockTurnedSaid : Prop := blockTurnedRow.holds Try.pinned (OpenSpec.ofChange blockTurnedSpec)

/-- ITS FALSE NEIGHBOUR: 'it returns false'. Refute it at one input. -/
def blockTurnedWrong : ChangeSpec := { name := "blockTurned", fn := fun _ => fun
  | [d1, d2, d3] => { results := [.lit (.bool false)], args := [d1, d2, d3] }
  | _ => none }
def BlockTurnedWrongFalsely : Prop := blockTurnedRow.holds Try.pinned (OpenSpec.ofChange blockTurnedWrong)

/-- 'rickyardlaw07.BlockOctet': WHATEVER THE INPUT: true; the input reads as it did. -/
def blockOctetSpec : ChangeSpec := { name := "blockOctet", fn := fun _ => fun
  | [d1, d2, d3] => { results := [.lit (.bool true)], args := [d1, d2, d3] }
  | _ => none }
def blockOctetRow : OpenClaim := { program := "ytjhajfkfhdnciaa", sum := "44991768e302cde594fc489a01fba7b10e0c252e38ad1e4dd6d38d2c7f240e90", func := "rickyard/rickyardlaw07.BlockOctet", spec := "blockOctet", apart := false }
def BlockOctetSaid : Prop := blockOctetRow.holds Try.pinned (OpenSpec.ofChange blockOctetSpec)

/-- ITS FALSE NEIGHBOUR: 'it returns false'. Refute it at one input. -/
def blockOctetWrong : ChangeSpec := { name := "blockOctet", fn := fun _ => fun
  | [d1, d2, d3] => { results := [.lit (.bool false)], args := [d1, d2, d3] }
  | _ => none }
def BlockOctetWrongFalsely : Prop := blockOctetRow.holds Try.pinned (OpenSpec.ofChange blockOctetWrong)

/-- 'rickyardlaw08.NodeGets': WHATEVER THE INPUT: true; the input reads as it did. -/
def nodeGetsSpec : ChangeSpec := { name := "nodeGets", fn := fun _ => fun
  | [d] => { results := [.lit (.bool true)], args := [d] }
  | _ => none }
def nodeGetsRow : OpenClaim := { program := "ytjhajfkfhdnciaa", sum := "44991768e302cde594fc489a01fba7b10e0c252e38ad1e4dd6d38d2c7f240e90", func := "rickyard/rickyardlaw08.NodeGets", spec := "nodeGets", unfollowed := true, recurses := true, apart := false }
def NodeGetsSaid : Prop := nodeGetsRow.holds Try.pinned (OpenSpec.ofChange nodeGetsSpec)

/-- ITS FALSE NEIGHBOUR: 'it returns false'. Refute it at one input. -/
def nodeGetsWrong : ChangeSpec := { name := "nodeGets", fn := fun _ => fun
  | [d] => { results := [.lit (.bool false)], args := [d] }
  | _ => none }
def NodeGetsWrongFalsely : Prop := nodeGetsRow.holds Try.pinned (OpenSpec.ofChange nodeGetsWrong)

/-- 'rickyardlaw08.NodeOrders': WHATEVER THE INPUT: true; the input reads as it did. -/
def nodeOrdersSpec : ChangeSpec := { name := "nodeOrders", fn := fun _ => fun
  | [d1, d2, d3] => { results := [.lit (.bool true)], args := [d1, d2, d3] }
  | _ => none }
def nodeOrdersRow : OpenClaim := { program := "ytjhajfkfhdnciaa", sum := "44991768e302cde594fc489a01fba7b10e0c252e38ad1e4dd6d38d2c7f240e90", func := "rickyard/rickyardlaw08.NodeOrders", spec := "nodeOrders", unfollowed := true, recurses := true, apart := false }
def NodeOrdersSaid : Prop := nodeOrdersRow.holds Try.pinned (OpenSpec.ofChange nodeOrdersSpec)

/-- ITS FALSE NEIGHBOUR: 'it returns false'. Refute it at one input. -/
def nodeOrdersWrong : ChangeSpec := { name := "nodeOrders", fn := fun _ => fun
  | [d1, d2, d3] => { results := [.lit (.bool false)], args := [d1, d2, d3] }
  | _ => none }
def NodeOrdersWrongFalsely : Prop := nodeOrdersRow.holds Try.pinned (OpenSpec.ofChange nodeOrdersWrong)

/-- 'rickyardlaw08.NodePuts': WHATEVER THE INPUT: true; the input reads as it did. -/
def nodePutsSpec : ChangeSpec := { name := "nodePuts", fn := fun _ => fun
  | [d] => { results := [.lit (.bool true)], args := [d] }
  | _ => none }
def nodePutsRow : OpenClaim := { program := "ytjhajfkfhdnciaa", sum := "44991768e302cde594fc489a01fba7b10e0c252e38ad1e4dd6d38d2c7f240e90", func := "rickyard/rickyardlaw08.NodePuts", spec := "nodePuts", unfollowed := true, recurses := true, apart := false }
def NodePutsSaid : Prop := nodePutsRow.holds Try.pinned (OpenSpec.ofChange nodePutsSpec)

/-- ITS FALSE NEIGHBOUR: 'it returns false'. Refute it at one input. -/
def nodePutsWrong : ChangeSpec := { name := "nodePuts", fn := fun _ => fun
  | [d] => { results := [.lit (.bool false)], args := [d] }
  | _ => none }
def NodePutsWrongFalsely : Prop := nodePutsRow.holds Try.pinned (OpenSpec.ofChange nodePutsWrong)

/-- 'rickyardlaw08.NodeSames': WHATEVER THE INPUT: true; the input reads as it did. -/
def nodeSamesSpec : ChangeSpec := { name := "nodeSames", fn := fun _ => fun
  | [d1, d2] => { results := [.lit (.bool true)], args := [d1, d2] }
  | _ => none }
def nodeSamesRow : OpenClaim := { program := "ytjhajfkfhdnciaa", sum := "44991768e302cde594fc489a01fba7b10e0c252e38ad1e4dd6d38d2c7f240e90", func := "rickyard/rickyardlaw08.NodeSames", spec := "nodeSames", unfollowed := true, recurses := true, apart := false }
def NodeSamesSaid : Prop := nodeSamesRow.holds Try.pinned (OpenSpec.ofChange nodeSamesSpec)

/-- ITS FALSE NEIGHBOUR: 'it returns false'. Refute it at one input. -/
def nodeSamesWrong : ChangeSpec := { name := "nodeSames", fn := fun _ => fun
  | [d1, d2] => { results := [.lit (.bool false)], args := [d1, d2] }
  | _ => none }
def NodeSamesWrongFalsely : Prop := nodeSamesRow.holds Try.pinned (OpenSpec.ofChange nodeSamesWrong)

/-- 'rickyardlaw09.PageLeaves': WHATEVER THE INPUT: true; the input reads as it did. -/
def pageLeavesSpec : ChangeSpec := { name := "pageLeaves", fn := fun _ => fun
  | [d] => { results := [.lit (.bool true)], args := [d] }
  | _ => none }
def pageLeavesRow : OpenClaim := { program := "ytjhajfkfhdnciaa", sum := "44991768e302cde594fc489a01fba7b10e0c252e38ad1e4dd6d38d2c7f240e90", func := "rickyard/rickyardlaw09.PageLeaves", spec := "pageLeaves", apart := false }
def PageLeavesSaid : Prop := pageLeavesRow.holds Try.pinned (OpenSpec.ofChange pageLeavesSpec)

/-- ITS FALSE NEIGHBOUR: 'it returns false'. Refute it at one input. -/
def pageLeavesWrong : ChangeSpec := { name := "pageLeaves", fn := fun _ => fun
  | [d] => { results := [.lit (.bool false)], args := [d] }
  | _ => none }
def PageLeavesWrongFalsely : Prop := pageLeavesRow.holds Try.pinned (OpenSpec.ofChange pageLeavesWrong)

/-- 'rickyardlaw09.PageSeats': WHATEVER THE INPUT: true; the input reads as it did. -/
def pageSeatsSpec : ChangeSpec := { name := "pageSeats", fn := fun _ => fun
  | [d1, d2, d3] => { results := [.lit (.bool true)], args := [d1, d2, d3] }
  | _ => none }
def pageSeatsRow : OpenClaim := { program := "ytjhajfkfhdnciaa", sum := "44991768e302cde594fc489a01fba7b10e0c252e38ad1e4dd6d38d2c7f240e90", func := "rickyard/rickyardlaw09.PageSeats", spec := "pageSeats", apart := false }
def PageSeatsSaid : Prop := pageSeatsRow.holds Try.pinned (OpenSpec.ofChange pageSeatsSpec)

/-- ITS FALSE NEIGHBOUR: 'it returns false'. Refute it at one input. -/
def pageSeatsWrong : ChangeSpec := { name := "pageSeats", fn := fun _ => fun
  | [d1, d2, d3] => { results := [.lit (.bool false)], args := [d1, d2, d3] }
  | _ => none }
def PageSeatsWrongFalsely : Prop := pageSeatsRow.holds Try.pinned (OpenSpec.ofChange pageSeatsWrong)

/-- 'rickyardlaw09.PageFans': WHATEVER THE INPUT: true; the input reads as it did. -/
def pageFansSpec : ChangeSpec := { name := "pageFans", fn := fun _ => fun
  | [d] => { results := [.lit (.bool true)], args := [d] }
  | _ => none }
def pageFansRow : OpenClaim := { program := "ytjhajfkfhdnciaa", sum := "44991768e302cde594fc489a01fba7b10e0c252e38ad1e4dd6d38d2c7f240e90", func := "rickyard/rickyardlaw09.PageFans", spec := "pageFans", apart := false }
def PageFansSaid : Prop := pageFansRow.holds Try.pinned (OpenSpec.ofChange pageFansSpec)

/-- ITS FALSE NEIGHBOUR: 'it returns false'. Refute it at one input. -/
def pageFansWrong : ChangeSpec := { name := "pageFans", fn := fun _ => fun
  | [d] => { results := [.lit (.bool false)], args := [d] }
  | _ => none }
def PageFansWrongFalsely : Prop := pageFansRow.holds Try.pinned (OpenSpec.ofChange pageFansWrong)

/-- 'rickyardlaw09.PageReads': WHATEVER THE INPUT: true; the input reads as it did. -/
def pageReadsSpec : ChangeSpec := { name := "pageReads", fn := fun _ => fun
  | [d] => { results := [.lit (.bool true)], args := [d] }
  | _ => none }
def pageReadsRow : OpenClaim := { program := "ytjhajfkfhdnciaa", sum := "44991768e302cde594fc489a01fba7b10e0c252e38ad1e4dd6d38d2c7f240e90", func := "rickyard/rickyardlaw09.PageReads", spec := "pageReads", apart := false }
def PageReadsSaid : Prop := pageReadsRow.holds Try.pinned (OpenSpec.ofChange pageReadsSpec)

/-- ITS FALSE NEIGHBOUR: 'it returns false'. Refute it at one input. -/
def pageReadsWrong : ChangeSpec := { name := "pageReads", fn := fun _ => fun
  | [d] => { results := [.lit (.bool false)], args := [d] }
  | _ => none }
def PageReadsWrongFalsely : Prop := pageReadsRow.holds Try.pinned (OpenSpec.ofChange pageReadsWrong)

/-- 'rickyardlaw10.ChartMarks': WHATEVER THE INPUT: true; the input reads as it did. -/
def chartMarksSpec : ChangeSpec := { name := "chartMarks", fn := fun _ => fun
  | [d1, d2, d3] => { results := [.lit (.bool true)], args := [d1, d2, d3] }
  | _ => none }
def chartMarksRow : OpenClaim := { program := "ytjhajfkfhdnciaa", sum := "44991768e302cde594fc489a01fba7b10e0c252e38ad1e4dd6d38d2c7f240e90", func := "rickyard/rickyardlaw10.ChartMarks", spec := "chartMarks", apart := false }
def ChartMarksSaid : Prop := chartMarksRow.holds Try.pinned (OpenSpec.ofChange chartMarksSpec)

/-- ITS FALSE NEIGHBOUR: 'it returns false'. Refute it at one input. -/
def chartMarksWrong : ChangeSpec := { name := "chartMarks", fn := fun _ => fun
  | [d1, d2, d3] => { results := [.lit (.bool false)], args := [d1, d2, d3] }
  | _ => none }
def ChartMarksWrongFalsely : Prop := chartMarksRow.holds Try.pinned (OpenSpec.ofChange chartMarksWrong)

/-- 'rickyardlaw10.ChartTells': WHATEVER THE INPUT: true; the input reads as it did. -/
def chartTellsSpec : ChangeSpec := { name := "chartTells", fn := fun _ => fun
  | [d1, d2] => { results := [.lit (.bool true)], args := [d1, d2] }
  | _ => none }
def chartTellsRow : OpenClaim := { program := "ytjhajfkfhdnciaa", sum := "44991768e302cde594fc489a01fba7b10e0c252e38ad1e4dd6d38d2c7f240e90", func := "rickyard/rickyardlaw10.ChartTells", spec := "chartTells", apart := false }
def ChartTellsSaid : Prop := chartTellsRow.holds Try.pinned (OpenSpec.ofChange chartTellsSpec)

/-- ITS FALSE NEIGHBOUR: 'it returns false'. Refute it at one input. -/
def chartTellsWrong : ChangeSpec := { name := "chartTells", fn := fun _ => fun
  | [d1, d2] => { results := [.lit (.bool false)], args := [d1, d2] }
  | _ => none }
def ChartTellsWrongFalsely : Prop := chartTellsRow.holds Try.pinned (OpenSpec.ofChange chartTellsWrong)

/-- 'rickyardlaw10.ChartGets': WHATEVER THE INPUT: true; the input reads as it did. -/
def chartGetsSpec : ChangeSpec := { name := "chartGets", fn := fun _ => fun
  | [d] => { results := [.lit (.bool true)], args := [d] }
  | _ => none }
def chartGetsRow : OpenClaim := { program := "ytjhajfkfhdnciaa", sum := "44991768e302cde594fc489a01fba7b10e0c252e38ad1e4dd6d38d2c7f240e90", func := "rickyard/rickyardlaw10.ChartGets", spec := "chartGets", apart := false }
def ChartGetsSaid : Prop := chartGetsRow.holds Try.pinned (OpenSpec.ofChange chartGetsSpec)

/-- ITS FALSE NEIGHBOUR: 'it returns false'. Refute it at one input. -/
def chartGetsWrong : ChangeSpec := { name := "chartGets", fn := fun _ => fun
  | [d] => { results := [.lit (.bool false)], args := [d] }
  | _ => none }
def ChartGetsWrongFalsely : Prop := chartGetsRow.holds Try.pinned (OpenSpec.ofChange chartGetsWrong)

/-- 'rickyardlaw10.ChartPuts': WHATEVER THE INPUT: true; the input reads as it did. -/
def chartPutsSpec : ChangeSpec := { name := "chartPuts", fn := fun _ => fun
  | [d] => { results := [.lit (.bool true)], args := [d] }
  | _ => none }
def chartPutsRow : OpenClaim := { program := "ytjhajfkfhdnciaa", sum := "44991768e302cde594fc489a01fba7b10e0c252e38ad1e4dd6d38d2c7f240e90", func := "rickyard/rickyardlaw10.ChartPuts", spec := "chartPuts", apart := false }
def ChartPutsSaid : Prop := chartPutsRow.holds Try.pinned (OpenSpec.ofChange chartPutsSpec)

/-- ITS FALSE NEIGHBOUR: 'it returns false'. Refute it at one input. -/
def chartPutsWrong : ChangeSpec := { name := "chartPuts", fn := fun _ => fun
  | [d] => { results := [.lit (.bool false)], args := [d] }
  | _ => none }
def ChartPutsWrongFalsely : Prop := chartPutsRow.holds Try.pinned (OpenSpec.ofChange chartPutsWrong)

/-- 'rickyardlaw11.LabelQueues': WHATEVER THE INPUT: true; the input reads as it did. -/
def labelQueuesSpec : ChangeSpec := { name := "labelQueues", fn := fun _ => fun
  | [d] => { results := [.lit (.bool true)], args := [d] }
  | _ => none }
def labelQueuesRow : OpenClaim := { program := "ytjhajfkfhdnciaa", sum := "44991768e302cde594fc489a01fba7b10e0c252e38ad1e4dd6d38d2c7f240e90", func := "rickyard/rickyardlaw11.LabelQueues", spec := "labelQueues", unfollowed := true, recurses := true, apart := false }
def LabelQueuesSaid : Prop := labelQueuesRow.holds Try.pinned (OpenSpec.ofChange labelQueuesSpec)

/-- ITS FALSE NEIGHBOUR: 'it returns false'. Refute it at one input. -/
def labelQueuesWrong : ChangeSpec := { name := "labelQueues", fn := fun _ => fun
  | [d] => { results := [.lit (.bool false)], args := [d] }
  | _ => none }
def LabelQueuesWrongFalsely : Prop := labelQueuesRow.holds Try.pinned (OpenSpec.ofChange labelQueuesWrong)

/-- 'rickyardlaw11.LabelTrees': WHATEVER THE INPUT: true; the input reads as it did. -/
def labelTreesSpec : ChangeSpec := { name := "labelTrees", fn := fun _ => fun
  | [d] => { results := [.lit (.bool true)], args := [d] }
  | _ => none }
def labelTreesRow : OpenClaim := { program := "ytjhajfkfhdnciaa", sum := "44991768e302cde594fc489a01fba7b10e0c252e38ad1e4dd6d38d2c7f240e90", func := "rickyard/rickyardlaw11.LabelTrees", spec := "labelTrees", unfollowed := true, recurses := true, apart := false }
def LabelTreesSaid : Prop := labelTreesRow.holds Try.pinned (OpenSpec.ofChange labelTreesSpec)

/-- ITS FALSE NEIGHBOUR: 'it returns false'. Refute it at one input. -/
def labelTreesWrong : ChangeSpec := { name := "labelTrees", fn := fun _ => fun
  | [d] => { results := [.lit (.bool false)], args := [d] }
  | _ => none }
def LabelTreesWrongFalsely : Prop := labelTreesRow.holds Try.pinned (OpenSpec.ofChange labelTreesWrong)

/-- 'rickyardlaw11.LabelDirs': WHATEVER THE INPUT: true; the input reads as it did. -/
def labelDirsSpec : ChangeSpec := { name := "labelDirs", fn := fun _ => fun
  | [d] => { results := [.lit (.bool true)], args := [d] }
  | _ => none }
def labelDirsRow : OpenClaim := { program := "ytjhajfkfhdnciaa", sum := "44991768e302cde594fc489a01fba7b10e0c252e38ad1e4dd6d38d2c7f240e90", func := "rickyard/rickyardlaw11.LabelDirs", spec := "labelDirs", unfollowed := true, recurses := true, apart := false }
def LabelDirsSaid : Prop := labelDirsRow.holds Try.pinned (OpenSpec.ofChange labelDirsSpec)

/-- ITS FALSE NEIGHBOUR: 'it returns false'. Refute it at one input. -/
def labelDirsWrong : ChangeSpec := { name := "labelDirs", fn := fun _ => fun
  | [d] => { results := [.lit (.bool false)], args := [d] }
  | _ => none }
def LabelDirsWrongFalsely : Prop := labelDirsRow.holds Try.pinned (OpenSpec.ofChange labelDirsWrong)

/-- 'rickyardlaw11.LabelReads': WHATEVER THE INPUT: true; the input reads as it did. -/
def labelReadsSpec : ChangeSpec := { name := "labelReads", fn := fun _ => fun
  | [d] => { results := [.lit (.bool true)], args := [d] }
  | _ => none }
def labelReadsRow : OpenClaim := { program := "ytjhajfkfhdnciaa", sum := "44991768e302cde594fc489a01fba7b10e0c252e38ad1e4dd6d38d2c7f240e90", func := "rickyard/rickyardlaw11.LabelReads", spec := "labelReads", unfollowed := true, recurses := true, apart := false }
def LabelReadsSaid : Prop := labelReadsRow.holds Try.pinned (OpenSpec.ofChange labelReadsSpec)

/-- ITS FALSE NEIGHBOUR: 'it returns false'. Refute it at one input. -/
def labelReadsWrong : ChangeSpec := { name := "labelReads", fn := fun _ => fun
  | [d] => { results := [.lit (.bool false)], args := [d] }
  | _ => none }
def LabelReadsWrongFalsely : Prop := labelReadsRow.holds Try.pinned (OpenSpec.ofChange labelReadsWrong)

/-- 'rickyardlaw13.SuperGets': WHATEVER THE INPUT: true; the input reads as it did. -/
def superGetsSpec : ChangeSpec := { name := "superGets", fn := fun _ => fun
  | [d] => { results := [.lit (.bool true)], args := [d] }
  | _ => none }
def superGetsRow : OpenClaim := { program := "ytjhajfkfhdnciaa", sum := "44991768e302cde594fc489a01fba7b10e0c252e38ad1e4dd6d38d2c7f240e90", func := "rickyard/rickyardlaw13.SuperGets", spec := "superGets", unfollowed := true, recurses := true, apart := false }
def SuperGetsSaid : Prop := superGetsRow.holds Try.pinned (OpenSpec.ofChange superGetsSpec)

/-- ITS FALSE NEIGHBOUR: 'it returns false'. Refute it at one input. -/
def superGetsWrong : ChangeSpec := { name := "superGets", fn := fun _ => fun
  | [d] => { results := [.lit (.bool false)], args := [d] }
  | _ => none }
def SuperGetsWrongFalsely : Prop := superGetsRow.holds Try.pinned (OpenSpec.ofChange superGetsWrong)

/-- 'rickyardlaw13.SuperOctets': WHATEVER THE INPUT: true; the input reads as it did. -/
def superOctetsSpec : ChangeSpec := { name := "superOctets", fn := fun _ => fun
  | [d1, d2, d3] => { results := [.lit (.bool true)], args := [d1, d2, d3] }
  | _ => none }
def superOctetsRow : OpenClaim := { program := "ytjhajfkfhdnciaa", sum := "44991768e302cde594fc489a01fba7b10e0c252e38ad1e4dd6d38d2c7f240e90", func := "rickyard/rickyardlaw13.SuperOctets", spec := "superOctets", unfollowed := true, recurses := true, apart := false }
def SuperOctetsSaid : Prop := superOctetsRow.holds Try.pinned (OpenSpec.ofChange superOctetsSpec)

/-- ITS FALSE NEIGHBOUR: 'it returns false'. Refute it at one input. -/
def superOctetsWrong : ChangeSpec := { name := "superOctets", fn := fun _ => fun
  | [d1, d2, d3] => { results := [.lit (.bool false)], args := [d1, d2, d3] }
  | _ => none }
def SuperOctetsWrongFalsely : Prop := superOctetsRow.holds Try.pinned (OpenSpec.ofChange superOctetsWrong)

/-- 'rickyardlaw13.SuperPuts': WHATEVER THE INPUT: true; the input reads as it did. -/
def superPutsSpec : ChangeSpec := { name := "superPuts", fn := fun _ => fun
  | [d] => { results := [.lit (.bool true)], args := [d] }
  | _ => none }
def superPutsRow : OpenClaim := { program := "ytjhajfkfhdnciaa", sum := "44991768e302cde594fc489a01fba7b10e0c252e38ad1e4dd6d38d2c7f240e90", func := "rickyard/rickyardlaw13.SuperPuts", spec := "superPuts", unfollowed := true, recurses := true, apart := false }
def SuperPutsSaid : Prop := superPutsRow.holds Try.pinned (OpenSpec.ofChange superPutsSpec)

/-- ITS FALSE NEIGHBOUR: 'it returns false'. Refute it at one input. -/
def superPutsWrong : ChangeSpec := { name := "superPuts", fn := fun _ => fun
  | [d] => { results := [.lit (.bool false)], args := [d] }
  | _ => none }
def SuperPutsWrongFalsely : Prop := superPutsRow.holds Try.pinned (OpenSpec.ofChange superPutsWrong)

/-- 'rickyardlaw13.SuperSames': WHATEVER THE INPUT: true; the input reads as it did. -/
def superSamesSpec : ChangeSpec := { name := "superSames", fn := fun _ => fun
  | [d1, d2] => { results := [.lit (.bool true)], args := [d1, d2] }
  | _ => none }
def superSamesRow : OpenClaim := { program := "ytjhajfkfhdnciaa", sum := "44991768e302cde594fc489a01fba7b10e0c252e38ad1e4dd6d38d2c7f240e90", func := "rickyard/rickyardlaw13.SuperSames", spec := "superSames", unfollowed := true, recurses := true, apart := false }
def SuperSamesSaid : Prop := superSamesRow.holds Try.pinned (OpenSpec.ofChange superSamesSpec)

/-- ITS FALSE NEIGHBOUR: 'it returns false'. Refute it at one input. -/
def superSamesWrong : ChangeSpec := { name := "superSames", fn := fun _ => fun
  | [d1, d2] => { results := [.lit (.bool false)], args := [d1, d2] }
  | _ => none }
def SuperSamesWrongFalsely : Prop := superSamesRow.holds Try.pinned (OpenSpec.ofChange superSamesWrong)

/- THE SECOND FORM. 'bulk': how many values and letters a reading holds, each counted each time it is reached (what is shared counts as often as it is met; a slice's spare places count too). A statement '..UptoSaid' is the law's where the arguments, and the package variables that the reading takes, are together of bulk at most 1048576: NARROWER than '..Said'. Prove '..Said' where nothing that the law and all that it calls make is longer than what came in: it says more and counts as full. Else prove '..UptoSaid'. A law counts once. -/
mutual
def uptoBulk {H : Type} : DataW H → Nat
  | .lit (.string bytes) => bytes.length + 1
  | .lit _ => 1
  | .nil => 1
  | .ptr d => uptoBulk d + 1
  | .slice elems spare => uptoBulkAll elems + uptoBulkAll spare + 1
  | .agg parts => uptoBulkAll parts + 1
  | .iface _ d => uptoBulk d + 1
  | .map entries => uptoBulkEntries entries + 1
  | .held _ => 1
def uptoBulkAll {H : Type} : List (DataW H) → Nat
  | [] => 0
  | d :: r => uptoBulk d + uptoBulkAll r
def uptoBulkEntries {H : Type} : List (Lit × DataW H) → Nat
  | [] => 0
  | x :: r => uptoBulkEntry x + uptoBulkEntries r
def uptoBulkEntry {H : Type} : Lit × DataW H → Nat
  | (.string bytes, d) => bytes.length + uptoBulk d + 1
  | (_, d) => uptoBulk d + 1
 end
def uptoSmall : (H : Type) → List (DataW H) → Bool := fun _ ds => decide (uptoBulkAll ds ≤ 1048576)
def OpenSpec.upto (s : _root_.Go.ChangeSpec) : _root_.Go.OpenSpec := { _root_.Go.OpenSpec.ofChange s with cond := some uptoSmall }

/-- 'rickyardlaw07.BlockSeals', WHERE WHAT IT READS IS OF BULK AT MOST 1048576: true; the input reads as it did. -/
def blockSealsUptoRow : OpenClaim := { program := "ytjhajfkfhdnciaa", sum := "44991768e302cde594fc489a01fba7b10e0c252e38ad1e4dd6d38d2c7f240e90", func := "rickyard/rickyardlaw07.BlockSeals", spec := "blockSeals", apart := false, narrowed := true }
def BlockSealsUptoSaid : Prop := blockSealsUptoRow.holds Try.pinned (OpenSpec.upto blockSealsSpec)

/-- 'rickyardlaw07.BlockOpens', WHERE WHAT IT READS IS OF BULK AT MOST 1048576: true; the input reads as it did. -/
def blockOpensUptoRow : OpenClaim := { program := "ytjhajfkfhdnciaa", sum := "44991768e302cde594fc489a01fba7b10e0c252e38ad1e4dd6d38d2c7f240e90", func := "rickyard/rickyardlaw07.BlockOpens", spec := "blockOpens", apart := false, narrowed := true }
def BlockOpensUptoSaid : Prop := blockOpensUptoRow.holds Try.pinned (OpenSpec.upto blockOpensSpec)

/-- 'rickyardlaw07.BlockTurned', WHERE WHAT IT READS IS OF BULK AT MOST 1048576: true; the input reads as it did. -/
def blockTurnedUptoRow : OpenClaim := { program := "ytjhajfkfhdnciaa", sum := "44991768e302cde594fc489a01fba7b10e0c252e38ad1e4dd6d38d2c7f240e90", func := "rickyard/rickyardlaw07.BlockTurned", spec := "blockTurned", apart := false, narrowed := true }
def BlockTurnedUptoSaid : Prop := blockTurnedUptoRow.holds Try.pinned (OpenSpec.upto blockTurnedSpec)

/-- 'rickyardlaw07.BlockOctet', WHERE WHAT IT READS IS OF BULK AT MOST 1048576: true; the input reads as it did. -/
def blockOctetUptoRow : OpenClaim := { program := "ytjhajfkfhdnciaa", sum := "44991768e302cde594fc489a01fba7b10e0c252e38ad1e4dd6d38d2c7f240e90", func := "rickyard/rickyardlaw07.BlockOctet", spec := "blockOctet", apart := false, narrowed := true }
def BlockOctetUptoSaid : Prop := blockOctetUptoRow.holds Try.pinned (OpenSpec.upto blockOctetSpec)

/-- 'rickyardlaw08.NodeGets', WHERE WHAT IT READS IS OF BULK AT MOST 1048576: true; the input reads as it did. -/
def nodeGetsUptoRow : OpenClaim := { program := "ytjhajfkfhdnciaa", sum := "44991768e302cde594fc489a01fba7b10e0c252e38ad1e4dd6d38d2c7f240e90", func := "rickyard/rickyardlaw08.NodeGets", spec := "nodeGets", unfollowed := true, recurses := true, apart := false, narrowed := true }
def NodeGetsUptoSaid : Prop := nodeGetsUptoRow.holds Try.pinned (OpenSpec.upto nodeGetsSpec)

/-- 'rickyardlaw08.NodeOrders', WHERE WHAT IT READS IS OF BULK AT MOST 1048576: true; the input reads as it did. -/
def nodeOrdersUptoRow : OpenClaim := { program := "ytjhajfkfhdnciaa", sum := "44991768e302cde594fc489a01fba7b10e0c252e38ad1e4dd6d38d2c7f240e90", func := "rickyard/rickyardlaw08.NodeOrders", spec := "nodeOrders", unfollowed := true, recurses := true, apart := false, narrowed := true }
def NodeOrdersUptoSaid : Prop := nodeOrdersUptoRow.holds Try.pinned (OpenSpec.upto nodeOrdersSpec)

/-- 'rickyardlaw08.NodePuts', WHERE WHAT IT READS IS OF BULK AT MOST 1048576: true; the input reads as it did. -/
def nodePutsUptoRow : OpenClaim := { program := "ytjhajfkfhdnciaa", sum := "44991768e302cde594fc489a01fba7b10e0c252e38ad1e4dd6d38d2c7f240e90", func := "rickyard/rickyardlaw08.NodePuts", spec := "nodePuts", unfollowed := true, recurses := true, apart := false, narrowed := true }
def NodePutsUptoSaid : Prop := nodePutsUptoRow.holds Try.pinned (OpenSpec.upto nodePutsSpec)

/-- 'rickyardlaw08.NodeSames', WHERE WHAT IT READS IS OF BULK AT MOST 1048576: true; the input reads as it did. -/
def nodeSamesUptoRow : OpenClaim := { program := "ytjhajfkfhdnciaa", sum := "44991768e302cde594fc489a01fba7b10e0c252e38ad1e4dd6d38d2c7f240e90", func := "rickyard/rickyardlaw08.NodeSames", spec := "nodeSames", unfollowed := true, recurses := true, apart := false, narrowed := true }
def NodeSamesUptoSaid : Prop := nodeSamesUptoRow.holds Try.pinned (OpenSpec.upto nodeSamesSpec)

/-- 'rickyardlaw09.PageLeaves', WHERE WHAT IT READS IS OF BULK AT MOST 1048576: true; the input reads as it did. -/
def pageLeavesUptoRow : OpenClaim := { program := "ytjhajfkfhdnciaa", sum := "44991768e302cde594fc489a01fba7b10e0c252e38ad1e4dd6d38d2c7f240e90", func := "rickyard/rickyardlaw09.PageLeaves", spec := "pageLeaves", apart := false, narrowed := true }
def PageLeavesUptoSaid : Prop := pageLeavesUptoRow.holds Try.pinned (OpenSpec.upto pageLeavesSpec)

/-- 'rickyardlaw09.PageSeats', WHERE WHAT IT READS IS OF BULK AT MOST 1048576: true; the input reads as it did. -/
def pageSeatsUptoRow : OpenClaim := { program := "ytjhajfkfhdnciaa", sum := "44991768e302cde594fc489a01fba7b10e0c252e38ad1e4dd6d38d2c7f240e90", func := "rickyard/rickyardlaw09.PageSeats", spec := "pageSeats", apart := false, narrowed := true }
def PageSeatsUptoSaid : Prop := pageSeatsUptoRow.holds Try.pinned (OpenSpec.upto pageSeatsSpec)

/-- 'rickyardlaw09.PageFans', WHERE WHAT IT READS IS OF BULK AT MOST 1048576: true; the input reads as it did. -/
def pageFansUptoRow : OpenClaim := { program := "ytjhajfkfhdnciaa", sum := "44991768e302cde594fc489a01fba7b10e0c252e38ad1e4dd6d38d2c7f240e90", func := "rickyard/rickyardlaw09.PageFans", spec := "pageFans", apart := false, narrowed := true }
def PageFansUptoSaid : Prop := pageFansUptoRow.holds Try.pinned (OpenSpec.upto pageFansSpec)

/-- 'rickyardlaw09.PageReads', WHERE WHAT IT READS IS OF BULK AT MOST 1048576: true; the input reads as it did. -/
def pageReadsUptoRow : OpenClaim := { program := "ytjhajfkfhdnciaa", sum := "44991768e302cde594fc489a01fba7b10e0c252e38ad1e4dd6d38d2c7f240e90", func := "rickyard/rickyardlaw09.PageReads", spec := "pageReads", apart := false, narrowed := true }
def PageReadsUptoSaid : Prop := pageReadsUptoRow.holds Try.pinned (OpenSpec.upto pageReadsSpec)

/-- 'rickyardlaw10.ChartMarks', WHERE WHAT IT READS IS OF BULK AT MOST 1048576: true; the input reads as it did. -/
def chartMarksUptoRow : OpenClaim := { program := "ytjhajfkfhdnciaa", sum := "44991768e302cde594fc489a01fba7b10e0c252e38ad1e4dd6d38d2c7f240e90", func := "rickyard/rickyardlaw10.ChartMarks", spec := "chartMarks", apart := false, narrowed := true }
def ChartMarksUptoSaid : Prop := chartMarksUptoRow.holds Try.pinned (OpenSpec.upto chartMarksSpec)

/-- 'rickyardlaw10.ChartTells', WHERE WHAT IT READS IS OF BULK AT MOST 1048576: true; the input reads as it did. -/
def chartTellsUptoRow : OpenClaim := { program := "ytjhajfkfhdnciaa", sum := "44991768e302cde594fc489a01fba7b10e0c252e38ad1e4dd6d38d2c7f240e90", func := "rickyard/rickyardlaw10.ChartTells", spec := "chartTells", apart := false, narrowed := true }
def ChartTellsUptoSaid : Prop := chartTellsUptoRow.holds Try.pinned (OpenSpec.upto chartTellsSpec)

/-- 'rickyardlaw10.ChartGets', WHERE WHAT IT READS IS OF BULK AT MOST 1048576: true; the input reads as it did. -/
def chartGetsUptoRow : OpenClaim := { program := "ytjhajfkfhdnciaa", sum := "44991768e302cde594fc489a01fba7b10e0c252e38ad1e4dd6d38d2c7f240e90", func := "rickyard/rickyardlaw10.ChartGets", spec := "chartGets", apart := false, narrowed := true }
def ChartGetsUptoSaid : Prop := chartGetsUptoRow.holds Try.pinned (OpenSpec.upto chartGetsSpec)

/-- 'rickyardlaw10.ChartPuts', WHERE WHAT IT READS IS OF BULK AT MOST 1048576: true; the input reads as it did. -/
def chartPutsUptoRow : OpenClaim := { program := "ytjhajfkfhdnciaa", sum := "44991768e302cde594fc489a01fba7b10e0c252e38ad1e4dd6d38d2c7f240e90", func := "rickyard/rickyardlaw10.ChartPuts", spec := "chartPuts", apart := false, narrowed := true }
def ChartPutsUptoSaid : Prop := chartPutsUptoRow.holds Try.pinned (OpenSpec.upto chartPutsSpec)

/-- 'rickyardlaw11.LabelQueues', WHERE WHAT IT READS IS OF BULK AT MOST 1048576: true; the input reads as it did. -/
def labelQueuesUptoRow : OpenClaim := { program := "ytjhajfkfhdnciaa", sum := "44991768e302cde594fc489a01fba7b10e0c252e38ad1e4dd6d38d2c7f240e90", func := "rickyard/rickyardlaw11.LabelQueues", spec := "labelQueues", unfollowed := true, recurses := true, apart := false, narrowed := true }
def LabelQueuesUptoSaid : Prop := labelQueuesUptoRow.holds Try.pinned (OpenSpec.upto labelQueuesSpec)

/-- 'rickyardlaw11.LabelTrees', WHERE WHAT IT READS IS OF BULK AT MOST 1048576: true; the input reads as it did. -/
def labelTreesUptoRow : OpenClaim := { program := "ytjhajfkfhdnciaa", sum := "44991768e302cde594fc489a01fba7b10e0c252e38ad1e4dd6d38d2c7f240e90", func := "rickyard/rickyardlaw11.LabelTrees", spec := "labelTrees", unfollowed := true, recurses := true, apart := false, narrowed := true }
def LabelTreesUptoSaid : Prop := labelTreesUptoRow.holds Try.pinned (OpenSpec.upto labelTreesSpec)

/-- 'rickyardlaw11.LabelDirs', WHERE WHAT IT READS IS OF BULK AT MOST 1048576: true; the input reads as it did. -/
def labelDirsUptoRow : OpenClaim := { program := "ytjhajfkfhdnciaa", sum := "44991768e302cde594fc489a01fba7b10e0c252e38ad1e4dd6d38d2c7f240e90", func := "rickyard/rickyardlaw11.LabelDirs", spec := "labelDirs", unfollowed := true, recurses := true, apart := false, narrowed := true }
def LabelDirsUptoSaid : Prop := labelDirsUptoRow.holds Try.pinned (OpenSpec.upto labelDirsSpec)

/-- 'rickyardlaw11.LabelReads', WHERE WHAT IT READS IS OF BULK AT MOST 1048576: true; the input reads as it did. -/
def labelReadsUptoRow : OpenClaim := { program := "ytjhajfkfhdnciaa", sum := "44991768e302cde594fc489a01fba7b10e0c252e38ad1e4dd6d38d2c7f240e90", func := "rickyard/rickyardlaw11.LabelReads", spec := "labelReads", unfollowed := true, recurses := true, apart := false, narrowed := true }
def LabelReadsUptoSaid : Prop := labelReadsUptoRow.holds Try.pinned (OpenSpec.upto labelReadsSpec)

/-- 'rickyardlaw13.SuperGets', WHERE WHAT IT READS IS OF BULK AT MOST 1048576: true; the input reads as it did. -/
def superGetsUptoRow : OpenClaim := { program := "ytjhajfkfhdnciaa", sum := "44991768e302cde594fc489a01fba7b10e0c252e38ad1e4dd6d38d2c7f240e90", func := "rickyard/rickyardlaw13.SuperGets", spec := "superGets", unfollowed := true, recurses := true, apart := false, narrowed := true }
def SuperGetsUptoSaid : Prop := superGetsUptoRow.holds Try.pinned (OpenSpec.upto superGetsSpec)

/-- 'rickyardlaw13.SuperOctets', WHERE WHAT IT READS IS OF BULK AT MOST 1048576: true; the input reads as it did. -/
def superOctetsUptoRow : OpenClaim := { program := "ytjhajfkfhdnciaa", sum := "44991768e302cde594fc489a01fba7b10e0c252e38ad1e4dd6d38d2c7f240e90", func := "rickyard/rickyardlaw13.SuperOctets", spec := "superOctets", unfollowed := true, recurses := true, apart := false, narrowed := true }
def SuperOctetsUptoSaid : Prop := superOctetsUptoRow.holds Try.pinned (OpenSpec.upto superOctetsSpec)

/-- 'rickyardlaw13.SuperPuts', WHERE WHAT IT READS IS OF BULK AT MOST 1048576: true; the input reads as it did. -/
def superPutsUptoRow : OpenClaim := { program := "ytjhajfkfhdnciaa", sum := "44991768e302cde594fc489a01fba7b10e0c252e38ad1e4dd6d38d2c7f240e90", func := "rickyard/rickyardlaw13.SuperPuts", spec := "superPuts", unfollowed := true, recurses := true, apart := false, narrowed := true }
def SuperPutsUptoSaid : Prop := superPutsUptoRow.holds Try.pinned (OpenSpec.upto superPutsSpec)

/-- 'rickyardlaw13.SuperSames', WHERE WHAT IT READS IS OF BULK AT MOST 1048576: true; the input reads as it did. -/
def superSamesUptoRow : OpenClaim := { program := "ytjhajfkfhdnciaa", sum := "44991768e302cde594fc489a01fba7b10e0c252e38ad1e4dd6d38d2c7f240e90", func := "rickyard/rickyardlaw13.SuperSames", spec := "superSames", unfollowed := true, recurses := true, apart := false, narrowed := true }
def SuperSamesUptoSaid : Prop := superSamesUptoRow.holds Try.pinned (OpenSpec.upto superSamesSpec)

end Rows
end Go.Proofs.Ytjhajfkfhdnciaa
