/-
  DERIVED. GIVEN WITH THE SEED: THE CARDS: each row of YtdifnahlheogdaaGreatDoorRows.lean that lists a variable, with what it lists TIED to the program's text (the seventh form; the later family's looks); each row that meets fmt, with fmt's text TOLD by the authors' own Lean function (tested against real Go, not proved from fmt's source: count such statements apart). THE CARD IS WHAT COUNTS. Prove the row's statement (the work); the ties are given (YtdifnahlheogdaaGreatDoorTie.lean); close each card by the builder's one call (the guide's Derived/Test/ToyasCard.lean, 'card_holds'). Laid BY PROGRAM, IN A SANDBOX (cutbox-door.mjs). By AI agents, Wed Nov 11 2026. No macro, syntax, notation, axiom, sorry.
-/
import Derived.Test.YtdifnahlheogdaaGreatDoorRows
import GoSem.ClaimSeven
namespace Go.Proofs.YtdifnahlheogdaaGreatDoor
namespace Rows

/-- THE TIED CARD OF 'rickyardlaw25.DirDamage'. -/
def dirDamageCard : Claim7 := { stood := { row := dirDamageRow, standIns := [], harness := (true, "3490497729f6ac32662a439c723bf86548de1a2b70af1bdc62943a223396cb6b"), looks := false }, kinds := [], alts := [], laidByText := true, laidKinds := [.data], laidTests := true, laidLooks := .later }
def DirDamageCardSaid : Prop := Claim7.holds Tryz.pinned (.plain (OpenSpec.ofChange dirDamageSpec)) dirDamageCard

/-- THE TIED CARD OF 'rickyardlaw25.DirElder'. -/
def dirElderCard : Claim7 := { stood := { row := dirElderRow, standIns := [], harness := (true, "3490497729f6ac32662a439c723bf86548de1a2b70af1bdc62943a223396cb6b"), looks := false }, kinds := [], alts := [], laidByText := true, laidKinds := [.data], laidTests := true, laidLooks := .later }
def DirElderCardSaid : Prop := Claim7.holds Tryz.pinned (.plain (OpenSpec.ofChange dirElderSpec)) dirElderCard

/-- THE TIED CARD OF 'rickyardlaw25.DirActs'. -/
def dirActsCard : Claim7 := { stood := { row := dirActsRow, standIns := [], harness := (true, "3490497729f6ac32662a439c723bf86548de1a2b70af1bdc62943a223396cb6b"), looks := false }, kinds := [], alts := [], laidByText := true, laidKinds := [.data], laidTests := true, laidLooks := .later }
def DirActsCardSaid : Prop := Claim7.holds Tryz.pinned (.plain (OpenSpec.ofChange dirActsSpec)) dirActsCard

/-- THE SECOND FORM's CARD OF 'rickyardlaw25.DirDamage'. -/
def dirDamageUptoCard : Claim7 := { stood := { row := dirDamageUptoRow, standIns := [], harness := (true, "3490497729f6ac32662a439c723bf86548de1a2b70af1bdc62943a223396cb6b"), looks := false }, kinds := [], alts := [], laidByText := true, laidKinds := [.data], laidTests := true, laidLooks := .later }
def DirDamageUptoCardSaid : Prop := Claim7.holds Tryz.pinned (.plain (OpenSpec.upto dirDamageSpec)) dirDamageUptoCard

/-- THE SECOND FORM's CARD OF 'rickyardlaw25.DirElder'. -/
def dirElderUptoCard : Claim7 := { stood := { row := dirElderUptoRow, standIns := [], harness := (true, "3490497729f6ac32662a439c723bf86548de1a2b70af1bdc62943a223396cb6b"), looks := false }, kinds := [], alts := [], laidByText := true, laidKinds := [.data], laidTests := true, laidLooks := .later }
def DirElderUptoCardSaid : Prop := Claim7.holds Tryz.pinned (.plain (OpenSpec.upto dirElderSpec)) dirElderUptoCard

/-- THE SECOND FORM's CARD OF 'rickyardlaw25.DirActs'. -/
def dirActsUptoCard : Claim7 := { stood := { row := dirActsUptoRow, standIns := [], harness := (true, "3490497729f6ac32662a439c723bf86548de1a2b70af1bdc62943a223396cb6b"), looks := false }, kinds := [], alts := [], laidByText := true, laidKinds := [.data], laidTests := true, laidLooks := .later }
def DirActsUptoCardSaid : Prop := Claim7.holds Tryz.pinned (.plain (OpenSpec.upto dirActsSpec)) dirActsUptoCard
end Rows
end Go.Proofs.YtdifnahlheogdaaGreatDoor
