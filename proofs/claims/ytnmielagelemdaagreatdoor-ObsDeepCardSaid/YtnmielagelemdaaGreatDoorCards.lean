/-
  DERIVED. GIVEN WITH THE SEED: THE CARDS: each row of YtnmielagelemdaaGreatDoorRows.lean that lists a variable, with what it lists TIED to the program's text (the seventh form; the later family's looks); each row that meets fmt, with fmt's text TOLD by the authors' own Lean function (tested against real Go, not proved from fmt's source: count such statements apart). THE CARD IS WHAT COUNTS. Prove the row's statement (the work); the ties are given (YtnmielagelemdaaGreatDoorTie.lean); close each card by the builder's one call (the guide's Derived/Test/ToyasCard.lean, 'card_holds'). Laid BY PROGRAM, IN A SANDBOX (cutbox-door.mjs). By AI agents, Wed Nov 11 2026. No macro, syntax, notation, axiom, sorry.
-/
import Derived.Test.YtnmielagelemdaaGreatDoorRows
import GoSem.ClaimSeven
namespace Go.Proofs.YtnmielagelemdaaGreatDoor
namespace Rows

/-- THE TIED CARD OF 'gristmilllaw11.ObsDeep'. -/
def obsDeepCard : Claim7 := { stood := { row := obsDeepRow, standIns := [], harness := (true, "9583292f3eb7fa31749f93a6cabca789462d42285d4512f12929b0fa06d49e06"), looks := true }, kinds := [], alts := [], laidByText := true, laidKinds := [.data, .data, .data, .sentinel, .sentinel, .sentinel, .sentinel, .sentinel, .sentinel, .sentinel, .sentinel, .sentinel, .sentinel, .sentinel, .sentinel, .sentinel, .sentinel, .sentinel, .sentinel, .sentinel, .sentinel, .sentinel, .sentinel], laidTests := true, laidLooks := .later }
def ObsDeepCardSaid : Prop := Claim7.holds Tryz.pinned (.plain (OpenSpec.ofChange obsDeepSpec)) obsDeepCard

/-- THE TIED CARD OF 'gristmilllaw11.ObsSays'. -/
def obsSaysCard : Claim7 := { stood := { row := obsSaysRow, standIns := [], harness := (true, "9583292f3eb7fa31749f93a6cabca789462d42285d4512f12929b0fa06d49e06"), looks := true }, kinds := [], alts := [], laidByText := true, laidKinds := [.data, .data, .data, .sentinel, .sentinel, .sentinel, .sentinel, .sentinel, .sentinel, .sentinel, .sentinel, .sentinel, .sentinel, .sentinel, .sentinel, .sentinel, .sentinel, .sentinel, .sentinel, .sentinel, .sentinel, .sentinel, .sentinel], laidTests := true, laidLooks := .later }
def ObsSaysCardSaid : Prop := Claim7.holds Tryz.pinned (.plain (OpenSpec.ofChange obsSaysSpec)) obsSaysCard

/-- THE SECOND FORM's CARD OF 'gristmilllaw11.ObsDeep'. -/
def obsDeepUptoCard : Claim7 := { stood := { row := obsDeepUptoRow, standIns := [], harness := (true, "9583292f3eb7fa31749f93a6cabca789462d42285d4512f12929b0fa06d49e06"), looks := true }, kinds := [], alts := [], laidByText := true, laidKinds := [.data, .data, .data, .sentinel, .sentinel, .sentinel, .sentinel, .sentinel, .sentinel, .sentinel, .sentinel, .sentinel, .sentinel, .sentinel, .sentinel, .sentinel, .sentinel, .sentinel, .sentinel, .sentinel, .sentinel, .sentinel, .sentinel], laidTests := true, laidLooks := .later }
def ObsDeepUptoCardSaid : Prop := Claim7.holds Tryz.pinned (.plain (OpenSpec.upto obsDeepSpec)) obsDeepUptoCard

/-- THE SECOND FORM's CARD OF 'gristmilllaw11.ObsSays'. -/
def obsSaysUptoCard : Claim7 := { stood := { row := obsSaysUptoRow, standIns := [], harness := (true, "9583292f3eb7fa31749f93a6cabca789462d42285d4512f12929b0fa06d49e06"), looks := true }, kinds := [], alts := [], laidByText := true, laidKinds := [.data, .data, .data, .sentinel, .sentinel, .sentinel, .sentinel, .sentinel, .sentinel, .sentinel, .sentinel, .sentinel, .sentinel, .sentinel, .sentinel, .sentinel, .sentinel, .sentinel, .sentinel, .sentinel, .sentinel, .sentinel, .sentinel], laidTests := true, laidLooks := .later }
def ObsSaysUptoCardSaid : Prop := Claim7.holds Tryz.pinned (.plain (OpenSpec.upto obsSaysSpec)) obsSaysUptoCard
end Rows
end Go.Proofs.YtnmielagelemdaaGreatDoor
