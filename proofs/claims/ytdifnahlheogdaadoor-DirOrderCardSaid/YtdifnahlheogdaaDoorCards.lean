/-
  DERIVED. GIVEN WITH THE SEED: THE CARDS: each row of YtdifnahlheogdaaDoorRows.lean that lists a variable, with what it lists TIED to the program's text (the seventh form; the later family's looks); each row that meets fmt, with fmt's text TOLD by the authors' own Lean function (tested against real Go, not proved from fmt's source: count such statements apart). THE CARD IS WHAT COUNTS. Prove the row's statement (the work); the ties are given (YtdifnahlheogdaaDoorTie.lean); close each card by the builder's one call (the guide's Derived/Test/ToyasCard.lean, 'card_holds'). Laid BY PROGRAM, IN A SANDBOX (cutbox-door.mjs). By AI agents, Wed Nov 11 2026. No macro, syntax, notation, axiom, sorry.
-/
import Derived.Test.YtdifnahlheogdaaDoorRows
import GoSem.ClaimSeven
namespace Go.Proofs.YtdifnahlheogdaaDoor
namespace Rows

/-- THE TIED CARD OF 'rickyardlaw19.ShadowNew'. -/
def shadowNewCard : Claim7 := { stood := { row := shadowNewRow, standIns := [], harness := (true, "979bcd4b5e59f6cd4e5fd9cc72609fc7cce4b3df3e2b5c7c49de09907c292303"), looks := false }, kinds := [], alts := [], laidByText := true, laidKinds := [.data], laidTests := true, laidLooks := .later }
def ShadowNewCardSaid : Prop := Claim7.holds Tryd.pinned (.plain (OpenSpec.ofChange shadowNewSpec)) shadowNewCard

/-- THE TIED CARD OF 'rickyardlaw19.ShadowTurns'. -/
def shadowTurnsCard : Claim7 := { stood := { row := shadowTurnsRow, standIns := [], harness := (true, "979bcd4b5e59f6cd4e5fd9cc72609fc7cce4b3df3e2b5c7c49de09907c292303"), looks := false }, kinds := [], alts := [], laidByText := true, laidKinds := [.data], laidTests := true, laidLooks := .later }
def ShadowTurnsCardSaid : Prop := Claim7.holds Tryd.pinned (.plain (OpenSpec.ofChange shadowTurnsSpec)) shadowTurnsCard

/-- THE TIED CARD OF 'rickyardlaw19.ShadowBack'. -/
def shadowBackCard : Claim7 := { stood := { row := shadowBackRow, standIns := [], harness := (true, "979bcd4b5e59f6cd4e5fd9cc72609fc7cce4b3df3e2b5c7c49de09907c292303"), looks := false }, kinds := [], alts := [], laidByText := true, laidKinds := [.data], laidTests := true, laidLooks := .later }
def ShadowBackCardSaid : Prop := Claim7.holds Tryd.pinned (.plain (OpenSpec.ofChange shadowBackSpec)) shadowBackCard

/-- THE TIED CARD OF 'rickyardlaw19.ShadowSafe'. -/
def shadowSafeCard : Claim7 := { stood := { row := shadowSafeRow, standIns := [], harness := (true, "979bcd4b5e59f6cd4e5fd9cc72609fc7cce4b3df3e2b5c7c49de09907c292303"), looks := false }, kinds := [], alts := [], laidByText := true, laidKinds := [.data], laidTests := true, laidLooks := .later }
def ShadowSafeCardSaid : Prop := Claim7.holds Tryd.pinned (.plain (OpenSpec.ofChange shadowSafeSpec)) shadowSafeCard

/-- THE TIED CARD OF 'rickyardlaw19.ShadowActs'. -/
def shadowActsCard : Claim7 := { stood := { row := shadowActsRow, standIns := [], harness := (true, "979bcd4b5e59f6cd4e5fd9cc72609fc7cce4b3df3e2b5c7c49de09907c292303"), looks := false }, kinds := [], alts := [], laidByText := true, laidKinds := [.data], laidTests := true, laidLooks := .later }
def ShadowActsCardSaid : Prop := Claim7.holds Tryd.pinned (.plain (OpenSpec.ofChange shadowActsSpec)) shadowActsCard

/-- THE TIED CARD OF 'rickyardlaw25.DirOrder'. -/
def dirOrderCard : Claim7 := { stood := { row := dirOrderRow, standIns := [], harness := (true, "979bcd4b5e59f6cd4e5fd9cc72609fc7cce4b3df3e2b5c7c49de09907c292303"), looks := false }, kinds := [], alts := [], laidByText := true, laidKinds := [.data], laidTests := true, laidLooks := .later }
def DirOrderCardSaid : Prop := Claim7.holds Tryd.pinned (.plain (OpenSpec.ofChange dirOrderSpec)) dirOrderCard

/-- THE TIED CARD OF 'rickyardlaw25.DirMany'. -/
def dirManyCard : Claim7 := { stood := { row := dirManyRow, standIns := [], harness := (true, "979bcd4b5e59f6cd4e5fd9cc72609fc7cce4b3df3e2b5c7c49de09907c292303"), looks := false }, kinds := [], alts := [], laidByText := true, laidKinds := [.data], laidTests := true, laidLooks := .later }
def DirManyCardSaid : Prop := Claim7.holds Tryd.pinned (.plain (OpenSpec.ofChange dirManySpec)) dirManyCard

/-- THE SECOND FORM's CARD OF 'rickyardlaw19.ShadowNew'. -/
def shadowNewUptoCard : Claim7 := { stood := { row := shadowNewUptoRow, standIns := [], harness := (true, "979bcd4b5e59f6cd4e5fd9cc72609fc7cce4b3df3e2b5c7c49de09907c292303"), looks := false }, kinds := [], alts := [], laidByText := true, laidKinds := [.data], laidTests := true, laidLooks := .later }
def ShadowNewUptoCardSaid : Prop := Claim7.holds Tryd.pinned (.plain (OpenSpec.upto shadowNewSpec)) shadowNewUptoCard

/-- THE SECOND FORM's CARD OF 'rickyardlaw19.ShadowTurns'. -/
def shadowTurnsUptoCard : Claim7 := { stood := { row := shadowTurnsUptoRow, standIns := [], harness := (true, "979bcd4b5e59f6cd4e5fd9cc72609fc7cce4b3df3e2b5c7c49de09907c292303"), looks := false }, kinds := [], alts := [], laidByText := true, laidKinds := [.data], laidTests := true, laidLooks := .later }
def ShadowTurnsUptoCardSaid : Prop := Claim7.holds Tryd.pinned (.plain (OpenSpec.upto shadowTurnsSpec)) shadowTurnsUptoCard

/-- THE SECOND FORM's CARD OF 'rickyardlaw19.ShadowBack'. -/
def shadowBackUptoCard : Claim7 := { stood := { row := shadowBackUptoRow, standIns := [], harness := (true, "979bcd4b5e59f6cd4e5fd9cc72609fc7cce4b3df3e2b5c7c49de09907c292303"), looks := false }, kinds := [], alts := [], laidByText := true, laidKinds := [.data], laidTests := true, laidLooks := .later }
def ShadowBackUptoCardSaid : Prop := Claim7.holds Tryd.pinned (.plain (OpenSpec.upto shadowBackSpec)) shadowBackUptoCard

/-- THE SECOND FORM's CARD OF 'rickyardlaw19.ShadowSafe'. -/
def shadowSafeUptoCard : Claim7 := { stood := { row := shadowSafeUptoRow, standIns := [], harness := (true, "979bcd4b5e59f6cd4e5fd9cc72609fc7cce4b3df3e2b5c7c49de09907c292303"), looks := false }, kinds := [], alts := [], laidByText := true, laidKinds := [.data], laidTests := true, laidLooks := .later }
def ShadowSafeUptoCardSaid : Prop := Claim7.holds Tryd.pinned (.plain (OpenSpec.upto shadowSafeSpec)) shadowSafeUptoCard

/-- THE SECOND FORM's CARD OF 'rickyardlaw19.ShadowActs'. -/
def shadowActsUptoCard : Claim7 := { stood := { row := shadowActsUptoRow, standIns := [], harness := (true, "979bcd4b5e59f6cd4e5fd9cc72609fc7cce4b3df3e2b5c7c49de09907c292303"), looks := false }, kinds := [], alts := [], laidByText := true, laidKinds := [.data], laidTests := true, laidLooks := .later }
def ShadowActsUptoCardSaid : Prop := Claim7.holds Tryd.pinned (.plain (OpenSpec.upto shadowActsSpec)) shadowActsUptoCard

/-- THE SECOND FORM's CARD OF 'rickyardlaw25.DirOrder'. -/
def dirOrderUptoCard : Claim7 := { stood := { row := dirOrderUptoRow, standIns := [], harness := (true, "979bcd4b5e59f6cd4e5fd9cc72609fc7cce4b3df3e2b5c7c49de09907c292303"), looks := false }, kinds := [], alts := [], laidByText := true, laidKinds := [.data], laidTests := true, laidLooks := .later }
def DirOrderUptoCardSaid : Prop := Claim7.holds Tryd.pinned (.plain (OpenSpec.upto dirOrderSpec)) dirOrderUptoCard

/-- THE SECOND FORM's CARD OF 'rickyardlaw25.DirMany'. -/
def dirManyUptoCard : Claim7 := { stood := { row := dirManyUptoRow, standIns := [], harness := (true, "979bcd4b5e59f6cd4e5fd9cc72609fc7cce4b3df3e2b5c7c49de09907c292303"), looks := false }, kinds := [], alts := [], laidByText := true, laidKinds := [.data], laidTests := true, laidLooks := .later }
def DirManyUptoCardSaid : Prop := Claim7.holds Tryd.pinned (.plain (OpenSpec.upto dirManySpec)) dirManyUptoCard
end Rows
end Go.Proofs.YtdifnahlheogdaaDoor
