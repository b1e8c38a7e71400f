/-
  NARROWER THAN 'FOR EVERY INPUT', by the rows' own cells (each row's printed sentence says how): ShadowNew: laid · ShadowTurns: laid · ShadowBack: laid · ShadowSafe: laid · ShadowActs: laid · DirOrder: laid · DirMany: laid.
  DERIVED. THE GIVEN ROWS OF THIS SEAT. 7 by the template 'for every input the law returns true; each argument reads behind the call as it read before'; 0 by the template 'total and deterministic' (their statements: YtdifnahlheogdaaDoorTotals.lean).
  GIVEN WITH THE SEED: the statements are not yours to turn. If you find one false, say at which input.
  Laid BY PROGRAM, IN A SANDBOX (cutbox-rows.mjs): the forced cells as the released guide's own fill.sh prints them over the translation f9eeaa5f236650f8… (all of the seat's roots in one cut). By AI agents, Wed Nov 11 2026. No macro, syntax, notation, axiom, sorry.
-/
import Derived.Test.YtdifnahlheogdaaDoorChecked
import GoSem.Claim
import GoSem.ClaimJoined
import GoSem.ClaimMapViews
import Derived.JoinedTies
import Derived.KernelRfl
namespace Go.Proofs.YtdifnahlheogdaaDoor
/- THE CELL 'sum', in the pinned program and in every row, IS THE sha256 OF THE DUMP (.gsa) THAT YtdifnahlheogdaaDoorProg.lean LOADS. Nothing in Lean hashes anything: it is a label: what it is worth is what the hold of that sum in a sandbox is worth. -/
noncomputable def Tryd.pinned : Pinned := { name := "ytdifnahlheogdaadoor", sum := "f9eeaa5f236650f8054edda4c1943325180503476f63bf32d6318a21e3fd1057", checked := Tryd.checked }
namespace Rows
def none {H : Type} : Left H := { results := [], args := [] }

/- WHAT THE LISTED PACKAGE-LEVEL VARIABLES READ AS WHEN THE CALL BEGINS. Each datum BY PROGRAM (the guide's laid-datum.mjs) off the statement by which the dump's own 'gosem.cut.vars' lays the variable. In a bare row this is a premise. The card (YtdifnahlheogdaaDoorCards.lean) ties it to the program's text. -/
def laid_math_bits_deBruijn64tab {H : Type} : DataW H := .agg [.lit (.int .u8 0), .lit (.int .u8 1), .lit (.int .u8 56), .lit (.int .u8 2), .lit (.int .u8 57), .lit (.int .u8 49), .lit (.int .u8 28), .lit (.int .u8 3), .lit (.int .u8 61), .lit (.int .u8 58), .lit (.int .u8 42), .lit (.int .u8 50), .lit (.int .u8 38), .lit (.int .u8 29), .lit (.int .u8 17), .lit (.int .u8 4), .lit (.int .u8 62), .lit (.int .u8 47), .lit (.int .u8 59), .lit (.int .u8 36), .lit (.int .u8 45), .lit (.int .u8 43), .lit (.int .u8 51), .lit (.int .u8 22), .lit (.int .u8 53), .lit (.int .u8 39), .lit (.int .u8 33), .lit (.int .u8 30), .lit (.int .u8 24), .lit (.int .u8 18), .lit (.int .u8 12), .lit (.int .u8 5), .lit (.int .u8 63), .lit (.int .u8 55), .lit (.int .u8 48), .lit (.int .u8 27), .lit (.int .u8 60), .lit (.int .u8 41), .lit (.int .u8 37), .lit (.int .u8 16), .lit (.int .u8 46), .lit (.int .u8 35), .lit (.int .u8 44), .lit (.int .u8 21), .lit (.int .u8 52), .lit (.int .u8 32), .lit (.int .u8 23), .lit (.int .u8 11), .lit (.int .u8 54), .lit (.int .u8 26), .lit (.int .u8 40), .lit (.int .u8 15), .lit (.int .u8 34), .lit (.int .u8 20), .lit (.int .u8 31), .lit (.int .u8 10), .lit (.int .u8 25), .lit (.int .u8 14), .lit (.int .u8 19), .lit (.int .u8 9), .lit (.int .u8 13), .lit (.int .u8 8), .lit (.int .u8 7), .lit (.int .u8 6)]

/-- 'rickyardlaw19.ShadowNew': WHATEVER THE INPUT: true; the input reads as it did. -/
def shadowNewSpec : ChangeSpec := { name := "shadowNew", fn := fun _ => fun
  | [d1, d2] => { results := [.lit (.bool true)], args := [d1, d2] }
  | _ => none }
def shadowNewRow : OpenClaim := { program := "ytdifnahlheogdaadoor", sum := "f9eeaa5f236650f8054edda4c1943325180503476f63bf32d6318a21e3fd1057", func := "rickyard/rickyardlaw19.ShadowNew", spec := "shadowNew", named := ["math/bits.deBruijn64tab"], apart := false, laid := [("math/bits.deBruijn64tab", laid_math_bits_deBruijn64tab)] }
def ShadowNewSaid : Prop := shadowNewRow.holds Tryd.pinned (OpenSpec.ofChange shadowNewSpec)

/-- ITS FALSE NEIGHBOUR: 'it returns false'. Refute it at one input. -/
def shadowNewWrong : ChangeSpec := { name := "shadowNew", fn := fun _ => fun
  | [d1, d2] => { results := [.lit (.bool false)], args := [d1, d2] }
  | _ => none }
def ShadowNewWrongFalsely : Prop := shadowNewRow.holds Tryd.pinned (OpenSpec.ofChange shadowNewWrong)

/-- 'rickyardlaw19.ShadowTurns': WHATEVER THE INPUT: true; the input reads as it did. -/
def shadowTurnsSpec : ChangeSpec := { name := "shadowTurns", fn := fun _ => fun
  | [d1, d2] => { results := [.lit (.bool true)], args := [d1, d2] }
  | _ => none }
def shadowTurnsRow : OpenClaim := { program := "ytdifnahlheogdaadoor", sum := "f9eeaa5f236650f8054edda4c1943325180503476f63bf32d6318a21e3fd1057", func := "rickyard/rickyardlaw19.ShadowTurns", spec := "shadowTurns", named := ["math/bits.deBruijn64tab"], apart := false, laid := [("math/bits.deBruijn64tab", laid_math_bits_deBruijn64tab)] }
def ShadowTurnsSaid : Prop := shadowTurnsRow.holds Tryd.pinned (OpenSpec.ofChange shadowTurnsSpec)

/-- ITS FALSE NEIGHBOUR: 'it returns false'. Refute it at one input. -/
def shadowTurnsWrong : ChangeSpec := { name := "shadowTurns", fn := fun _ => fun
  | [d1, d2] => { results := [.lit (.bool false)], args := [d1, d2] }
  | _ => none }
def ShadowTurnsWrongFalsely : Prop := shadowTurnsRow.holds Tryd.pinned (OpenSpec.ofChange shadowTurnsWrong)

/-- 'rickyardlaw19.ShadowBack': WHATEVER THE INPUT: true; the input reads as it did. -/
def shadowBackSpec : ChangeSpec := { name := "shadowBack", fn := fun _ => fun
  | [d1, d2] => { results := [.lit (.bool true)], args := [d1, d2] }
  | _ => none }
def shadowBackRow : OpenClaim := { program := "ytdifnahlheogdaadoor", sum := "f9eeaa5f236650f8054edda4c1943325180503476f63bf32d6318a21e3fd1057", func := "rickyard/rickyardlaw19.ShadowBack", spec := "shadowBack", named := ["math/bits.deBruijn64tab"], apart := false, laid := [("math/bits.deBruijn64tab", laid_math_bits_deBruijn64tab)] }
def ShadowBackSaid : Prop := shadowBackRow.holds Tryd.pinned (OpenSpec.ofChange shadowBackSpec)

/-- ITS FALSE NEIGHBOUR: 'it returns false'. Refute it at one input. -/
def shadowBackWrong : ChangeSpec := { name := "shadowBack", fn := fun _ => fun
  | [d1, d2] => { results := [.lit (.bool false)], args := [d1, d2] }
  | _ => none }
def ShadowBackWrongFalsely : Prop := shadowBackRow.holds Tryd.pinned (OpenSpec.ofChange shadowBackWrong)

/-- 'rickyardlaw19.ShadowSafe': WHATEVER THE INPUT: true; the input reads as it did. -/
def shadowSafeSpec : ChangeSpec := { name := "shadowSafe", fn := fun _ => fun
  | [d1, d2, d3] => { results := [.lit (.bool true)], args := [d1, d2, d3] }
  | _ => none }
def shadowSafeRow : OpenClaim := { program := "ytdifnahlheogdaadoor", sum := "f9eeaa5f236650f8054edda4c1943325180503476f63bf32d6318a21e3fd1057", func := "rickyard/rickyardlaw19.ShadowSafe", spec := "shadowSafe", unfollowed := true, recurses := true, named := ["math/bits.deBruijn64tab"], apart := false, laid := [("math/bits.deBruijn64tab", laid_math_bits_deBruijn64tab)] }
def ShadowSafeSaid : Prop := shadowSafeRow.holds Tryd.pinned (OpenSpec.ofChange shadowSafeSpec)

/-- ITS FALSE NEIGHBOUR: 'it returns false'. Refute it at one input. -/
def shadowSafeWrong : ChangeSpec := { name := "shadowSafe", fn := fun _ => fun
  | [d1, d2, d3] => { results := [.lit (.bool false)], args := [d1, d2, d3] }
  | _ => none }
def ShadowSafeWrongFalsely : Prop := shadowSafeRow.holds Tryd.pinned (OpenSpec.ofChange shadowSafeWrong)

/-- 'rickyardlaw19.ShadowActs': WHATEVER THE INPUT: true; the input reads as it did. -/
def shadowActsSpec : ChangeSpec := { name := "shadowActs", fn := fun _ => fun
  | [d1, d2, d3] => { results := [.lit (.bool true)], args := [d1, d2, d3] }
  | _ => none }
def shadowActsRow : OpenClaim := { program := "ytdifnahlheogdaadoor", sum := "f9eeaa5f236650f8054edda4c1943325180503476f63bf32d6318a21e3fd1057", func := "rickyard/rickyardlaw19.ShadowActs", spec := "shadowActs", unfollowed := true, recurses := true, named := ["math/bits.deBruijn64tab"], apart := false, laid := [("math/bits.deBruijn64tab", laid_math_bits_deBruijn64tab)] }
def ShadowActsSaid : Prop := shadowActsRow.holds Tryd.pinned (OpenSpec.ofChange shadowActsSpec)

/-- ITS FALSE NEIGHBOUR: 'it returns false'. Refute it at one input. -/
def shadowActsWrong : ChangeSpec := { name := "shadowActs", fn := fun _ => fun
  | [d1, d2, d3] => { results := [.lit (.bool false)], args := [d1, d2, d3] }
  | _ => none }
def ShadowActsWrongFalsely : Prop := shadowActsRow.holds Tryd.pinned (OpenSpec.ofChange shadowActsWrong)

/-- 'rickyardlaw25.DirOrder': WHATEVER THE INPUT: true; the input reads as it did. -/
def dirOrderSpec : ChangeSpec := { name := "dirOrder", fn := fun _ => fun
  | [d] => { results := [.lit (.bool true)], args := [d] }
  | _ => none }
def dirOrderRow : OpenClaim := { program := "ytdifnahlheogdaadoor", sum := "f9eeaa5f236650f8054edda4c1943325180503476f63bf32d6318a21e3fd1057", func := "rickyard/rickyardlaw25.DirOrder", spec := "dirOrder", inPlace := ["slices.overlaps[rickyard/dir.listed]"], unfollowed := true, recurses := true, named := ["math/bits.deBruijn64tab"], apart := false, laid := [("math/bits.deBruijn64tab", laid_math_bits_deBruijn64tab)] }
def DirOrderSaid : Prop := dirOrderRow.holds Tryd.pinned (OpenSpec.ofChange dirOrderSpec)

/-- ITS FALSE NEIGHBOUR: 'it returns false'. Refute it at one input. -/
def dirOrderWrong : ChangeSpec := { name := "dirOrder", fn := fun _ => fun
  | [d] => { results := [.lit (.bool false)], args := [d] }
  | _ => none }
def DirOrderWrongFalsely : Prop := dirOrderRow.holds Tryd.pinned (OpenSpec.ofChange dirOrderWrong)

/-- 'rickyardlaw25.DirMany': WHATEVER THE INPUT: true; the input reads as it did. -/
def dirManySpec : ChangeSpec := { name := "dirMany", fn := fun _ => fun
  | [d] => { results := [.lit (.bool true)], args := [d] }
  | _ => none }
def dirManyRow : OpenClaim := { program := "ytdifnahlheogdaadoor", sum := "f9eeaa5f236650f8054edda4c1943325180503476f63bf32d6318a21e3fd1057", func := "rickyard/rickyardlaw25.DirMany", spec := "dirMany", inPlace := ["slices.overlaps[rickyard/dir.listed]"], unfollowed := true, recurses := true, named := ["math/bits.deBruijn64tab"], apart := false, laid := [("math/bits.deBruijn64tab", laid_math_bits_deBruijn64tab)] }
def DirManySaid : Prop := dirManyRow.holds Tryd.pinned (OpenSpec.ofChange dirManySpec)

/-- ITS FALSE NEIGHBOUR: 'it returns false'. Refute it at one input. -/
def dirManyWrong : ChangeSpec := { name := "dirMany", fn := fun _ => fun
  | [d] => { results := [.lit (.bool false)], args := [d] }
  | _ => none }
def DirManyWrongFalsely : Prop := dirManyRow.holds Tryd.pinned (OpenSpec.ofChange dirManyWrong)

/- THE SECOND FORM. 'bulk': how many values and letters a reading holds, each counted each time it is reached (what is shared counts as often as it is met; a slice's spare places count too). A statement '..UptoSaid' is the law's where the arguments, and the package variables that the reading takes, are together of bulk at most 1048576: NARROWER than '..Said'. Prove '..Said' where nothing that the law and all that it calls make is longer than what came in: it says more and counts as full. Else prove '..UptoSaid'. A law counts once. -/
mutual
def uptoBulk {H : Type} : DataW H → Nat
  | .lit (.string bytes) => bytes.length + 1
  | .lit _ => 1
  | .nil => 1
  | .ptr d => uptoBulk d + 1
  | .slice elems spare => uptoBulkAll elems + uptoBulkAll spare + 1
  | .agg parts => uptoBulkAll parts + 1
  | .iface _ d => uptoBulk d + 1
  | .map entries => uptoBulkEntries entries + 1
  | .held _ => 1
def uptoBulkAll {H : Type} : List (DataW H) → Nat
  | [] => 0
  | d :: r => uptoBulk d + uptoBulkAll r
def uptoBulkEntries {H : Type} : List (Lit × DataW H) → Nat
  | [] => 0
  | x :: r => uptoBulkEntry x + uptoBulkEntries r
def uptoBulkEntry {H : Type} : Lit × DataW H → Nat
  | (.string bytes, d) => bytes.length + uptoBulk d + 1
  | (_, d) => uptoBulk d + 1
 end
def uptoSmall : (H : Type) → List (DataW H) → Bool := fun _ ds => decide (uptoBulkAll ds ≤ 1048576)
def OpenSpec.upto (s : _root_.Go.ChangeSpec) : _root_.Go.OpenSpec := { _root_.Go.OpenSpec.ofChange s with cond := some uptoSmall }

/-- 'rickyardlaw19.ShadowNew', WHERE WHAT IT READS IS OF BULK AT MOST 1048576: true; the input reads as it did. -/
def shadowNewUptoRow : OpenClaim := { program := "ytdifnahlheogdaadoor", sum := "f9eeaa5f236650f8054edda4c1943325180503476f63bf32d6318a21e3fd1057", func := "rickyard/rickyardlaw19.ShadowNew", spec := "shadowNew", named := ["math/bits.deBruijn64tab"], apart := false, laid := [("math/bits.deBruijn64tab", laid_math_bits_deBruijn64tab)], narrowed := true }
def ShadowNewUptoSaid : Prop := shadowNewUptoRow.holds Tryd.pinned (OpenSpec.upto shadowNewSpec)

/-- 'rickyardlaw19.ShadowTurns', WHERE WHAT IT READS IS OF BULK AT MOST 1048576: true; the input reads as it did. -/
def shadowTurnsUptoRow : OpenClaim := { program := "ytdifnahlheogdaadoor", sum := "f9eeaa5f236650f8054edda4c1943325180503476f63bf32d6318a21e3fd1057", func := "rickyard/rickyardlaw19.ShadowTurns", spec := "shadowTurns", named := ["math/bits.deBruijn64tab"], apart := false, laid := [("math/bits.deBruijn64tab", laid_math_bits_deBruijn64tab)], narrowed := true }
def ShadowTurnsUptoSaid : Prop := shadowTurnsUptoRow.holds Tryd.pinned (OpenSpec.upto shadowTurnsSpec)

/-- 'rickyardlaw19.ShadowBack', WHERE WHAT IT READS IS OF BULK AT MOST 1048576: true; the input reads as it did. -/
def shadowBackUptoRow : OpenClaim := { program := "ytdifnahlheogdaadoor", sum := "f9eeaa5f236650f8054edda4c1943325180503476f63bf32d6318a21e3fd1057", func := "rickyard/rickyardlaw19.ShadowBack", spec := "shadowBack", named := ["math/bits.deBruijn64tab"], apart := false, laid := [("math/bits.deBruijn64tab", laid_math_bits_deBruijn64tab)], narrowed := true }
def ShadowBackUptoSaid : Prop := shadowBackUptoRow.holds Tryd.pinned (OpenSpec.upto shadowBackSpec)

/-- 'rickyardlaw19.ShadowSafe', WHERE WHAT IT READS IS OF BULK AT MOST 1048576: true; the input reads as it did. -/
def shadowSafeUptoRow : OpenClaim := { program := "ytdifnahlheogdaadoor", sum := "f9eeaa5f236650f8054edda4c1943325180503476f63bf32d6318a21e3fd1057", func := "rickyard/rickyardlaw19.ShadowSafe", spec := "shadowSafe", unfollowed := true, recurses := true, named := ["math/bits.deBruijn64tab"], apart := false, laid := [("math/bits.deBruijn64tab", laid_math_bits_deBruijn64tab)], narrowed := true }
def ShadowSafeUptoSaid : Prop := shadowSafeUptoRow.holds Tryd.pinned (OpenSpec.upto shadowSafeSpec)

/-- 'rickyardlaw19.ShadowActs', WHERE WHAT IT READS IS OF BULK AT MOST 1048576: true; the input reads as it did. -/
def shadowActsUptoRow : OpenClaim := { program := "ytdifnahlheogdaadoor", sum := "f9eeaa5f236650f8054edda4c1943325180503476f63bf32d6318a21e3fd1057", func := "rickyard/rickyardlaw19.ShadowActs", spec := "shadowActs", unfollowed := true, recurses := true, named := ["math/bits.deBruijn64tab"], apart := false, laid := [("math/bits.deBruijn64tab", laid_math_bits_deBruijn64tab)], narrowed := true }
def ShadowActsUptoSaid : Prop := shadowActsUptoRow.holds Tryd.pinned (OpenSpec.upto shadowActsSpec)

/-- 'rickyardlaw25.DirOrder', WHERE WHAT IT READS IS OF BULK AT MOST 1048576: true; the input reads as it did. -/
def dirOrderUptoRow : OpenClaim := { program := "ytdifnahlheogdaadoor", sum := "f9eeaa5f236650f8054edda4c1943325180503476f63bf32d6318a21e3fd1057", func := "rickyard/rickyardlaw25.DirOrder", spec := "dirOrder", inPlace := ["slices.overlaps[rickyard/dir.listed]"], unfollowed := true, recurses := true, named := ["math/bits.deBruijn64tab"], apart := false, laid := [("math/bits.deBruijn64tab", laid_math_bits_deBruijn64tab)], narrowed := true }
def DirOrderUptoSaid : Prop := dirOrderUptoRow.holds Tryd.pinned (OpenSpec.upto dirOrderSpec)

/-- 'rickyardlaw25.DirMany', WHERE WHAT IT READS IS OF BULK AT MOST 1048576: true; the input reads as it did. -/
def dirManyUptoRow : OpenClaim := { program := "ytdifnahlheogdaadoor", sum := "f9eeaa5f236650f8054edda4c1943325180503476f63bf32d6318a21e3fd1057", func := "rickyard/rickyardlaw25.DirMany", spec := "dirMany", inPlace := ["slices.overlaps[rickyard/dir.listed]"], unfollowed := true, recurses := true, named := ["math/bits.deBruijn64tab"], apart := false, laid := [("math/bits.deBruijn64tab", laid_math_bits_deBruijn64tab)], narrowed := true }
def DirManyUptoSaid : Prop := dirManyUptoRow.holds Tryd.pinned (OpenSpec.upto dirManySpec)

end Rows
end Go.Proofs.YtdifnahlheogdaaDoor
