/-
  No cell of these rows narrows 'for every input' (looked for: loops, veiled, ifaces, maps, wideKeys, modest, calm, conditions, laid).
  DERIVED. THE GIVEN ROWS OF THIS SEAT. 4 by the template 'for every input the law returns true; each argument reads behind the call as it read before'; 0 by the template 'total and deterministic' (their statements: YtdifnahlheogdaaGreatTotals.lean).
  GIVEN WITH THE SEED: the statements are not yours to turn. If you find one false, say at which input.
  Laid BY PROGRAM, IN A SANDBOX (cutbox-rows.mjs): the forced cells as the released guide's own fill.sh prints them over the translation 4c0baf1274ab7ae8… (all of the seat's roots in one cut). By AI agents, Wed Nov 11 2026. No macro, syntax, notation, axiom, sorry.
-/
import Derived.Test.YtdifnahlheogdaaGreatChecked
import GoSem.Claim
import GoSem.ClaimJoined
import GoSem.ClaimMapViews
import Derived.JoinedTies
import Derived.KernelRfl
namespace Go.Proofs.YtdifnahlheogdaaGreat
/- THE CELL 'sum', in the pinned program and in every row, IS THE sha256 OF THE DUMP (.gsa) THAT YtdifnahlheogdaaGreatProg.lean LOADS. Nothing in Lean hashes anything: it is a label: what it is worth is what the hold of that sum in a sandbox is worth. -/
noncomputable def Tryz.pinned : Pinned := { name := "ytdifnahlheogdaagreat", sum := "4c0baf1274ab7ae8ed59a878f3768fafb443334acaec4a264508bb1c761fec8d", checked := Tryz.checked }
namespace Rows
def none {H : Type} : Left H := { results := [], args := [] }

/-- 'rickyardlaw14.CellTells': WHATEVER THE INPUT: true; the input reads as it did. -/
def cellTellsSpec : ChangeSpec := { name := "cellTells", fn := fun _ => fun
  | [d] => { results := [.lit (.bool true)], args := [d] }
  | _ => none }
def cellTellsRow : OpenClaim := { program := "ytdifnahlheogdaagreat", sum := "4c0baf1274ab7ae8ed59a878f3768fafb443334acaec4a264508bb1c761fec8d", func := "rickyard/rickyardlaw14.CellTells", spec := "cellTells", inPlace := ["internal/abi.NoEscape", "internal/bytealg.MakeNoZero"], unfollowed := true, recurses := true, apart := false }
def CellTellsSaid : Prop := cellTellsRow.holds Tryz.pinned (OpenSpec.ofChange cellTellsSpec)

/-- ITS FALSE NEIGHBOUR: 'it returns false'. Refute it at one input. -/
def cellTellsWrong : ChangeSpec := { name := "cellTells", fn := fun _ => fun
  | [d] => { results := [.lit (.bool false)], args := [d] }
  | _ => none }
def CellTellsWrongFalsely : Prop := cellTellsRow.holds Tryz.pinned (OpenSpec.ofChange cellTellsWrong)

/-- 'rickyardlaw14.CellNodes': WHATEVER THE INPUT: true; the input reads as it did. -/
def cellNodesSpec : ChangeSpec := { name := "cellNodes", fn := fun _ => fun
  | [d] => { results := [.lit (.bool true)], args := [d] }
  | _ => none }
def cellNodesRow : OpenClaim := { program := "ytdifnahlheogdaagreat", sum := "4c0baf1274ab7ae8ed59a878f3768fafb443334acaec4a264508bb1c761fec8d", func := "rickyard/rickyardlaw14.CellNodes", spec := "cellNodes", inPlace := ["internal/abi.NoEscape", "internal/bytealg.MakeNoZero"], unfollowed := true, recurses := true, apart := false }
def CellNodesSaid : Prop := cellNodesRow.holds Tryz.pinned (OpenSpec.ofChange cellNodesSpec)

/-- ITS FALSE NEIGHBOUR: 'it returns false'. Refute it at one input. -/
def cellNodesWrong : ChangeSpec := { name := "cellNodes", fn := fun _ => fun
  | [d] => { results := [.lit (.bool false)], args := [d] }
  | _ => none }
def CellNodesWrongFalsely : Prop := cellNodesRow.holds Tryz.pinned (OpenSpec.ofChange cellNodesWrong)

/-- 'rickyardlaw14.CellTurns': WHATEVER THE INPUT: true; the input reads as it did. -/
def cellTurnsSpec : ChangeSpec := { name := "cellTurns", fn := fun _ => fun
  | [d1, d2, d3] => { results := [.lit (.bool true)], args := [d1, d2, d3] }
  | _ => none }
def cellTurnsRow : OpenClaim := { program := "ytdifnahlheogdaagreat", sum := "4c0baf1274ab7ae8ed59a878f3768fafb443334acaec4a264508bb1c761fec8d", func := "rickyard/rickyardlaw14.CellTurns", spec := "cellTurns", inPlace := ["internal/abi.NoEscape", "internal/bytealg.MakeNoZero"], unfollowed := true, recurses := true, apart := false }
def CellTurnsSaid : Prop := cellTurnsRow.holds Tryz.pinned (OpenSpec.ofChange cellTurnsSpec)

/-- ITS FALSE NEIGHBOUR: 'it returns false'. Refute it at one input. -/
def cellTurnsWrong : ChangeSpec := { name := "cellTurns", fn := fun _ => fun
  | [d1, d2, d3] => { results := [.lit (.bool false)], args := [d1, d2, d3] }
  | _ => none }
def CellTurnsWrongFalsely : Prop := cellTurnsRow.holds Tryz.pinned (OpenSpec.ofChange cellTurnsWrong)

/-- 'rickyardlaw14.CellKids': WHATEVER THE INPUT: true; the input reads as it did. -/
def cellKidsSpec : ChangeSpec := { name := "cellKids", fn := fun _ => fun
  | [d1, d2, d3] => { results := [.lit (.bool true)], args := [d1, d2, d3] }
  | _ => none }
def cellKidsRow : OpenClaim := { program := "ytdifnahlheogdaagreat", sum := "4c0baf1274ab7ae8ed59a878f3768fafb443334acaec4a264508bb1c761fec8d", func := "rickyard/rickyardlaw14.CellKids", spec := "cellKids", inPlace := ["internal/abi.NoEscape", "internal/bytealg.MakeNoZero"], unfollowed := true, recurses := true, apart := false }
def CellKidsSaid : Prop := cellKidsRow.holds Tryz.pinned (OpenSpec.ofChange cellKidsSpec)

/-- ITS FALSE NEIGHBOUR: 'it returns false'. Refute it at one input. -/
def cellKidsWrong : ChangeSpec := { name := "cellKids", fn := fun _ => fun
  | [d1, d2, d3] => { results := [.lit (.bool false)], args := [d1, d2, d3] }
  | _ => none }
def CellKidsWrongFalsely : Prop := cellKidsRow.holds Tryz.pinned (OpenSpec.ofChange cellKidsWrong)

/- THE SECOND FORM. 'bulk': how many values and letters a reading holds, each counted each time it is reached (what is shared counts as often as it is met; a slice's spare places count too). A statement '..UptoSaid' is the law's where the arguments, and the package variables that the reading takes, are together of bulk at most 1048576: NARROWER than '..Said'. Prove '..Said' where nothing that the law and all that it calls make is longer than what came in: it says more and counts as full. Else prove '..UptoSaid'. A law counts once. -/
mutual
def uptoBulk {H : Type} : DataW H → Nat
  | .lit (.string bytes) => bytes.length + 1
  | .lit _ => 1
  | .nil => 1
  | .ptr d => uptoBulk d + 1
  | .slice elems spare => uptoBulkAll elems + uptoBulkAll spare + 1
  | .agg parts => uptoBulkAll parts + 1
  | .iface _ d => uptoBulk d + 1
  | .map entries => uptoBulkEntries entries + 1
  | .held _ => 1
def uptoBulkAll {H : Type} : List (DataW H) → Nat
  | [] => 0
  | d :: r => uptoBulk d + uptoBulkAll r
def uptoBulkEntries {H : Type} : List (Lit × DataW H) → Nat
  | [] => 0
  | x :: r => uptoBulkEntry x + uptoBulkEntries r
def uptoBulkEntry {H : Type} : Lit × DataW H → Nat
  | (.string bytes, d) => bytes.length + uptoBulk d + 1
  | (_, d) => uptoBulk d + 1
 end
def uptoSmall : (H : Type) → List (DataW H) → Bool := fun _ ds => decide (uptoBulkAll ds ≤ 1048576)
def OpenSpec.upto (s : _root_.Go.ChangeSpec) : _root_.Go.OpenSpec := { _root_.Go.OpenSpec.ofChange s with cond := some uptoSmall }

/-- 'rickyardlaw14.CellTells', WHERE WHAT IT READS IS OF BULK AT MOST 1048576: true; the input reads as it did. -/
def cellTellsUptoRow : OpenClaim := { program := "ytdifnahlheogdaagreat", sum := "4c0baf1274ab7ae8ed59a878f3768fafb443334acaec4a264508bb1c761fec8d", func := "rickyard/rickyardlaw14.CellTells", spec := "cellTells", inPlace := ["internal/abi.NoEscape", "internal/bytealg.MakeNoZero"], unfollowed := true, recurses := true, apart := false, narrowed := true }
def CellTellsUptoSaid : Prop := cellTellsUptoRow.holds Tryz.pinned (OpenSpec.upto cellTellsSpec)

/-- 'rickyardlaw14.CellNodes', WHERE WHAT IT READS IS OF BULK AT MOST 1048576: true; the input reads as it did. -/
def cellNodesUptoRow : OpenClaim := { program := "ytdifnahlheogdaagreat", sum := "4c0baf1274ab7ae8ed59a878f3768fafb443334acaec4a264508bb1c761fec8d", func := "rickyard/rickyardlaw14.CellNodes", spec := "cellNodes", inPlace := ["internal/abi.NoEscape", "internal/bytealg.MakeNoZero"], unfollowed := true, recurses := true, apart := false, narrowed := true }
def CellNodesUptoSaid : Prop := cellNodesUptoRow.holds Tryz.pinned (OpenSpec.upto cellNodesSpec)

/-- 'rickyardlaw14.CellTurns', WHERE WHAT IT READS IS OF BULK AT MOST 1048576: true; the input reads as it did. -/
def cellTurnsUptoRow : OpenClaim := { program := "ytdifnahlheogdaagreat", sum := "4c0baf1274ab7ae8ed59a878f3768fafb443334acaec4a264508bb1c761fec8d", func := "rickyard/rickyardlaw14.CellTurns", spec := "cellTurns", inPlace := ["internal/abi.NoEscape", "internal/bytealg.MakeNoZero"], unfollowed := true, recurses := true, apart := false, narrowed := true }
def CellTurnsUptoSaid : Prop := cellTurnsUptoRow.holds Tryz.pinned (OpenSpec.upto cellTurnsSpec)

/-- 'rickyardlaw14.CellKids', WHERE WHAT IT READS IS OF BULK AT MOST 1048576: true; the input reads as it did. -/
def cellKidsUptoRow : OpenClaim := { program := "ytdifnahlheogdaagreat", sum := "4c0baf1274ab7ae8ed59a878f3768fafb443334acaec4a264508bb1c761fec8d", func := "rickyard/rickyardlaw14.CellKids", spec := "cellKids", inPlace := ["internal/abi.NoEscape", "internal/bytealg.MakeNoZero"], unfollowed := true, recurses := true, apart := false, narrowed := true }
def CellKidsUptoSaid : Prop := cellKidsUptoRow.holds Tryz.pinned (OpenSpec.upto cellKidsSpec)

end Rows
end Go.Proofs.YtdifnahlheogdaaGreat
