/-
  DERIVED. GIVEN WITH THE SEED: THE CARDS: each row of YtimoclkoflamkaaGreatDoorRows.lean that lists a variable, with what it lists TIED to the program's text (the seventh form; the later family's looks); each row that meets fmt, with fmt's text TOLD by the authors' own Lean function (tested against real Go, not proved from fmt's source: count such statements apart). THE CARD IS WHAT COUNTS. Prove the row's statement (the work); the ties are given (YtimoclkoflamkaaGreatDoorTie.lean); close each card by the builder's one call (the guide's Derived/Test/ToyasCard.lean, 'card_holds'). Laid BY PROGRAM, IN A SANDBOX (cutbox-door.mjs). By AI agents, Wed Nov 11 2026. No macro, syntax, notation, axiom, sorry.
-/
import Derived.Test.YtimoclkoflamkaaGreatDoorRows
import GoSem.ClaimSeven
namespace Go.Proofs.YtimoclkoflamkaaGreatDoor
namespace Rows

/-- THE TIED CARD OF 'hatchwaylaw26.PeerApart'. -/
def peerApartCard : Claim7 := { stood := { row := peerApartRow, standIns := [], harness := (true, "90238ebd4251930a19804b872375551290112267c1049f2238ee14dcabdff21b"), looks := false }, kinds := [], alts := [], laidByText := true, laidKinds := [.data, .data, .data, .pinned], laidTests := true, laidLooks := .later }
def PeerApartCardSaid : Prop := Claim7.holds Tryz.pinned (.plain (OpenSpec.ofChange peerApartSpec)) peerApartCard

/-- THE TIED CARD OF 'hatchwaylaw26.PeerTalks'. -/
def peerTalksCard : Claim7 := { stood := { row := peerTalksRow, standIns := [], harness := (true, "90238ebd4251930a19804b872375551290112267c1049f2238ee14dcabdff21b"), looks := false }, kinds := [], alts := [], laidByText := true, laidKinds := [.data, .data, .data, .pinned], laidTests := true, laidLooks := .later }
def PeerTalksCardSaid : Prop := Claim7.holds Tryz.pinned (.plain (OpenSpec.ofChange peerTalksSpec)) peerTalksCard

/-- THE TIED CARD OF 'hatchwaytop.WholeTalks'. -/
def wholeTalksCard : Claim7 := { stood := { row := wholeTalksRow, standIns := [], harness := (true, "90238ebd4251930a19804b872375551290112267c1049f2238ee14dcabdff21b"), looks := false }, kinds := [], alts := [], laidByText := true, laidKinds := [.data, .data, .data, .pinned], laidTests := true, laidLooks := .later }
def WholeTalksCardSaid : Prop := Claim7.holds Tryz.pinned (.plain (OpenSpec.ofChange wholeTalksSpec)) wholeTalksCard

/-- THE SECOND FORM's CARD OF 'hatchwaylaw26.PeerApart'. -/
def peerApartUptoCard : Claim7 := { stood := { row := peerApartUptoRow, standIns := [], harness := (true, "90238ebd4251930a19804b872375551290112267c1049f2238ee14dcabdff21b"), looks := false }, kinds := [], alts := [], laidByText := true, laidKinds := [.data, .data, .data, .pinned], laidTests := true, laidLooks := .later }
def PeerApartUptoCardSaid : Prop := Claim7.holds Tryz.pinned (.plain (OpenSpec.upto peerApartSpec)) peerApartUptoCard

/-- THE SECOND FORM's CARD OF 'hatchwaylaw26.PeerTalks'. -/
def peerTalksUptoCard : Claim7 := { stood := { row := peerTalksUptoRow, standIns := [], harness := (true, "90238ebd4251930a19804b872375551290112267c1049f2238ee14dcabdff21b"), looks := false }, kinds := [], alts := [], laidByText := true, laidKinds := [.data, .data, .data, .pinned], laidTests := true, laidLooks := .later }
def PeerTalksUptoCardSaid : Prop := Claim7.holds Tryz.pinned (.plain (OpenSpec.upto peerTalksSpec)) peerTalksUptoCard

/-- THE SECOND FORM's CARD OF 'hatchwaytop.WholeTalks'. -/
def wholeTalksUptoCard : Claim7 := { stood := { row := wholeTalksUptoRow, standIns := [], harness := (true, "90238ebd4251930a19804b872375551290112267c1049f2238ee14dcabdff21b"), looks := false }, kinds := [], alts := [], laidByText := true, laidKinds := [.data, .data, .data, .pinned], laidTests := true, laidLooks := .later }
def WholeTalksUptoCardSaid : Prop := Claim7.holds Tryz.pinned (.plain (OpenSpec.upto wholeTalksSpec)) wholeTalksUptoCard
end Rows
end Go.Proofs.YtimoclkoflamkaaGreatDoor
