/-
  DERIVED. GIVEN WITH THE SEED: THE CARDS: each row of YtdbadpnkhaepnaaGreatDoorRows.lean that lists a variable, with what it lists TIED to the program's text (the seventh form; the later family's looks); each row that meets fmt, with fmt's text TOLD by the authors' own Lean function (tested against real Go, not proved from fmt's source: count such statements apart). THE CARD IS WHAT COUNTS. Prove the row's statement (the work); the ties are given (YtdbadpnkhaepnaaGreatDoorTie.lean); close each card by the builder's one call (the guide's Derived/Test/ToyasCard.lean, 'card_holds'). Laid BY PROGRAM, IN A SANDBOX (cutbox-door.mjs). By AI agents, Wed Nov 11 2026. No macro, syntax, notation, axiom, sorry.
-/
import Derived.Test.YtdbadpnkhaepnaaGreatDoorRows
import GoSem.ClaimSeven
namespace Go.Proofs.YtdbadpnkhaepnaaGreatDoor
namespace Rows

/-- THE TIED CARD OF 'catacomblaw12.OnceTells'. -/
def onceTellsCard : Claim7 := { stood := { row := onceTellsRow, standIns := [], harness := (true, "3f2c0b85edb8f03ef17bc4689efcc0a8294bd8aef25de7821e6c481db0e3dc3a"), looks := true }, kinds := [], alts := [], laidByText := true, laidKinds := [.handle], laidTests := true, laidLooks := .later }
def OnceTellsCardSaid : Prop := Claim7.holds Tryz.pinned (.plain (OpenSpec.ofChange onceTellsSpec)) onceTellsCard

/-- THE TIED CARD OF 'catacomblaw12.OnceAgain'. -/
def onceAgainCard : Claim7 := { stood := { row := onceAgainRow, standIns := [], harness := (true, "3f2c0b85edb8f03ef17bc4689efcc0a8294bd8aef25de7821e6c481db0e3dc3a"), looks := true }, kinds := [], alts := [], laidByText := true, laidKinds := [.handle], laidTests := true, laidLooks := .later }
def OnceAgainCardSaid : Prop := Claim7.holds Tryz.pinned (.plain (OpenSpec.ofChange onceAgainSpec)) onceAgainCard

/-- THE TIED CARD OF 'catacomblaw12.OnceOnly'. -/
def onceOnlyCard : Claim7 := { stood := { row := onceOnlyRow, standIns := [], harness := (true, "3f2c0b85edb8f03ef17bc4689efcc0a8294bd8aef25de7821e6c481db0e3dc3a"), looks := true }, kinds := [], alts := [], laidByText := true, laidKinds := [.handle], laidTests := true, laidLooks := .later }
def OnceOnlyCardSaid : Prop := Claim7.holds Tryz.pinned (.plain (OpenSpec.ofChange onceOnlySpec)) onceOnlyCard

/-- THE TIED CARD OF 'catacomblaw12.OnceGrows'. -/
def onceGrowsCard : Claim7 := { stood := { row := onceGrowsRow, standIns := [], harness := (true, "3f2c0b85edb8f03ef17bc4689efcc0a8294bd8aef25de7821e6c481db0e3dc3a"), looks := true }, kinds := [], alts := [], laidByText := true, laidKinds := [.handle], laidTests := true, laidLooks := .later }
def OnceGrowsCardSaid : Prop := Claim7.holds Tryz.pinned (.plain (OpenSpec.ofChange onceGrowsSpec)) onceGrowsCard

/-- THE TIED CARD OF 'catacomblaw12.OnceApart'. -/
def onceApartCard : Claim7 := { stood := { row := onceApartRow, standIns := [], harness := (true, "3f2c0b85edb8f03ef17bc4689efcc0a8294bd8aef25de7821e6c481db0e3dc3a"), looks := true }, kinds := [], alts := [], laidByText := true, laidKinds := [.handle], laidTests := true, laidLooks := .later }
def OnceApartCardSaid : Prop := Claim7.holds Tryz.pinned (.plain (OpenSpec.ofChange onceApartSpec)) onceApartCard

/-- THE TIED CARD OF 'catacomblaw12.OnceRefused'. -/
def onceRefusedCard : Claim7 := { stood := { row := onceRefusedRow, standIns := [], harness := (true, "3f2c0b85edb8f03ef17bc4689efcc0a8294bd8aef25de7821e6c481db0e3dc3a"), looks := true }, kinds := [], alts := [], laidByText := true, laidKinds := [.handle], laidTests := true, laidLooks := .later }
def OnceRefusedCardSaid : Prop := Claim7.holds Tryz.pinned (.plain (OpenSpec.ofChange onceRefusedSpec)) onceRefusedCard

/-- THE SECOND FORM's CARD OF 'catacomblaw12.OnceTells'. -/
def onceTellsUptoCard : Claim7 := { stood := { row := onceTellsUptoRow, standIns := [], harness := (true, "3f2c0b85edb8f03ef17bc4689efcc0a8294bd8aef25de7821e6c481db0e3dc3a"), looks := true }, kinds := [], alts := [], laidByText := true, laidKinds := [.handle], laidTests := true, laidLooks := .later }
def OnceTellsUptoCardSaid : Prop := Claim7.holds Tryz.pinned (.plain (OpenSpec.upto onceTellsSpec)) onceTellsUptoCard

/-- THE SECOND FORM's CARD OF 'catacomblaw12.OnceAgain'. -/
def onceAgainUptoCard : Claim7 := { stood := { row := onceAgainUptoRow, standIns := [], harness := (true, "3f2c0b85edb8f03ef17bc4689efcc0a8294bd8aef25de7821e6c481db0e3dc3a"), looks := true }, kinds := [], alts := [], laidByText := true, laidKinds := [.handle], laidTests := true, laidLooks := .later }
def OnceAgainUptoCardSaid : Prop := Claim7.holds Tryz.pinned (.plain (OpenSpec.upto onceAgainSpec)) onceAgainUptoCard

/-- THE SECOND FORM's CARD OF 'catacomblaw12.OnceOnly'. -/
def onceOnlyUptoCard : Claim7 := { stood := { row := onceOnlyUptoRow, standIns := [], harness := (true, "3f2c0b85edb8f03ef17bc4689efcc0a8294bd8aef25de7821e6c481db0e3dc3a"), looks := true }, kinds := [], alts := [], laidByText := true, laidKinds := [.handle], laidTests := true, laidLooks := .later }
def OnceOnlyUptoCardSaid : Prop := Claim7.holds Tryz.pinned (.plain (OpenSpec.upto onceOnlySpec)) onceOnlyUptoCard

/-- THE SECOND FORM's CARD OF 'catacomblaw12.OnceGrows'. -/
def onceGrowsUptoCard : Claim7 := { stood := { row := onceGrowsUptoRow, standIns := [], harness := (true, "3f2c0b85edb8f03ef17bc4689efcc0a8294bd8aef25de7821e6c481db0e3dc3a"), looks := true }, kinds := [], alts := [], laidByText := true, laidKinds := [.handle], laidTests := true, laidLooks := .later }
def OnceGrowsUptoCardSaid : Prop := Claim7.holds Tryz.pinned (.plain (OpenSpec.upto onceGrowsSpec)) onceGrowsUptoCard

/-- THE SECOND FORM's CARD OF 'catacomblaw12.OnceApart'. -/
def onceApartUptoCard : Claim7 := { stood := { row := onceApartUptoRow, standIns := [], harness := (true, "3f2c0b85edb8f03ef17bc4689efcc0a8294bd8aef25de7821e6c481db0e3dc3a"), looks := true }, kinds := [], alts := [], laidByText := true, laidKinds := [.handle], laidTests := true, laidLooks := .later }
def OnceApartUptoCardSaid : Prop := Claim7.holds Tryz.pinned (.plain (OpenSpec.upto onceApartSpec)) onceApartUptoCard

/-- THE SECOND FORM's CARD OF 'catacomblaw12.OnceRefused'. -/
def onceRefusedUptoCard : Claim7 := { stood := { row := onceRefusedUptoRow, standIns := [], harness := (true, "3f2c0b85edb8f03ef17bc4689efcc0a8294bd8aef25de7821e6c481db0e3dc3a"), looks := true }, kinds := [], alts := [], laidByText := true, laidKinds := [.handle], laidTests := true, laidLooks := .later }
def OnceRefusedUptoCardSaid : Prop := Claim7.holds Tryz.pinned (.plain (OpenSpec.upto onceRefusedSpec)) onceRefusedUptoCard
end Rows
end Go.Proofs.YtdbadpnkhaepnaaGreatDoor
