/-
  DERIVED. GIVEN WITH THE SEED: THE CARDS: each row of YtpjgigllldipiaaGreatDoorRows.lean that lists a variable, with what it lists TIED to the program's text (the seventh form; the later family's looks); each row that meets fmt, with fmt's text TOLD by the authors' own Lean function (tested against real Go, not proved from fmt's source: count such statements apart). THE CARD IS WHAT COUNTS. Prove the row's statement (the work); the ties are given (YtpjgigllldipiaaGreatDoorTie.lean); close each card by the builder's one call (the guide's Derived/Test/ToyasCard.lean, 'card_holds'). Laid BY PROGRAM, IN A SANDBOX (cutbox-door.mjs). By AI agents, Wed Nov 11 2026. No macro, syntax, notation, axiom, sorry.
-/
import Derived.Test.YtpjgigllldipiaaGreatDoorRows
import GoSem.ClaimSeven
namespace Go.Proofs.YtpjgigllldipiaaGreatDoor
namespace Rows

/-- THE TIED CARD OF 'hatchwaylaw25.SessionSends'. -/
def sessionSendsCard : Claim7 := { stood := { row := sessionSendsRow, standIns := [], harness := (true, "0b334a147d73f5fd8237cb20e93dcc73ec0cd87e900ca6a3e21e8bde8d0d0b12"), looks := false }, kinds := [], alts := [], laidByText := true, laidKinds := [.data, .data, .data, .pinned], laidTests := true, laidLooks := .later }
def SessionSendsCardSaid : Prop := Claim7.holds Tryz.pinned (.plain (OpenSpec.ofChange sessionSendsSpec)) sessionSendsCard

/-- THE TIED CARD OF 'hatchwaylaw25.SessionMixed'. -/
def sessionMixedCard : Claim7 := { stood := { row := sessionMixedRow, standIns := [], harness := (true, "0b334a147d73f5fd8237cb20e93dcc73ec0cd87e900ca6a3e21e8bde8d0d0b12"), looks := false }, kinds := [], alts := [], laidByText := true, laidKinds := [.data, .data, .data, .pinned], laidTests := true, laidLooks := .later }
def SessionMixedCardSaid : Prop := Claim7.holds Tryz.pinned (.plain (OpenSpec.ofChange sessionMixedSpec)) sessionMixedCard

/-- THE SECOND FORM's CARD OF 'hatchwaylaw25.SessionSends'. -/
def sessionSendsUptoCard : Claim7 := { stood := { row := sessionSendsUptoRow, standIns := [], harness := (true, "0b334a147d73f5fd8237cb20e93dcc73ec0cd87e900ca6a3e21e8bde8d0d0b12"), looks := false }, kinds := [], alts := [], laidByText := true, laidKinds := [.data, .data, .data, .pinned], laidTests := true, laidLooks := .later }
def SessionSendsUptoCardSaid : Prop := Claim7.holds Tryz.pinned (.plain (OpenSpec.upto sessionSendsSpec)) sessionSendsUptoCard

/-- THE SECOND FORM's CARD OF 'hatchwaylaw25.SessionMixed'. -/
def sessionMixedUptoCard : Claim7 := { stood := { row := sessionMixedUptoRow, standIns := [], harness := (true, "0b334a147d73f5fd8237cb20e93dcc73ec0cd87e900ca6a3e21e8bde8d0d0b12"), looks := false }, kinds := [], alts := [], laidByText := true, laidKinds := [.data, .data, .data, .pinned], laidTests := true, laidLooks := .later }
def SessionMixedUptoCardSaid : Prop := Claim7.holds Tryz.pinned (.plain (OpenSpec.upto sessionMixedSpec)) sessionMixedUptoCard
end Rows
end Go.Proofs.YtpjgigllldipiaaGreatDoor
