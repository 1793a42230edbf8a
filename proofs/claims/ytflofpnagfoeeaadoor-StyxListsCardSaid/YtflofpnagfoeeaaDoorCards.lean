/-
  DERIVED. GIVEN WITH THE SEED: THE CARDS: each row of YtflofpnagfoeeaaDoorRows.lean that lists a variable, with what it lists TIED to the program's text (the seventh form; the later family's looks); each row that meets fmt, with fmt's text TOLD by the authors' own Lean function (tested against real Go, not proved from fmt's source: count such statements apart). THE CARD IS WHAT COUNTS. Prove the row's statement (the work); the ties are given (YtflofpnagfoeeaaDoorTie.lean); close each card by the builder's one call (the guide's Derived/Test/ToyasCard.lean, 'card_holds'). Laid BY PROGRAM, IN A SANDBOX (cutbox-door.mjs). By AI agents, Wed Nov 11 2026. No macro, syntax, notation, axiom, sorry.
-/
import Derived.Test.YtflofpnagfoeeaaDoorRows
import GoSem.ClaimSeven
namespace Go.Proofs.YtflofpnagfoeeaaDoor
namespace Rows

/-- THE TIED CARD OF 'acheronlaw31.StyxEntries'. -/
def styxEntriesCard : Claim7 := { stood := { row := styxEntriesRow, standIns := [], harness := (true, "fe61f98ac60f37b5c7e86843ba858931558a5a40e4e70aa476bc92d3cbbc57eb"), looks := false }, kinds := [], alts := [], laidByText := true, laidKinds := [.mapped], laidTests := true, laidLooks := .later }
def StyxEntriesCardSaid : Prop := Claim7.holds Tryd.pinned (.plain (OpenSpec.ofChange styxEntriesSpec)) styxEntriesCard

/-- THE TIED CARD OF 'acheronlaw31.StyxLists'. -/
def styxListsCard : Claim7 := { stood := { row := styxListsRow, standIns := [], harness := (true, "fe61f98ac60f37b5c7e86843ba858931558a5a40e4e70aa476bc92d3cbbc57eb"), looks := false }, kinds := [], alts := [], laidByText := true, laidKinds := [.mapped], laidTests := true, laidLooks := .later }
def StyxListsCardSaid : Prop := Claim7.holds Tryd.pinned (.plain (OpenSpec.ofChange styxListsSpec)) styxListsCard

/-- THE SECOND FORM's CARD OF 'acheronlaw31.StyxEntries'. -/
def styxEntriesUptoCard : Claim7 := { stood := { row := styxEntriesUptoRow, standIns := [], harness := (true, "fe61f98ac60f37b5c7e86843ba858931558a5a40e4e70aa476bc92d3cbbc57eb"), looks := false }, kinds := [], alts := [], laidByText := true, laidKinds := [.mapped], laidTests := true, laidLooks := .later }
def StyxEntriesUptoCardSaid : Prop := Claim7.holds Tryd.pinned (.plain (OpenSpec.upto styxEntriesSpec)) styxEntriesUptoCard

/-- THE SECOND FORM's CARD OF 'acheronlaw31.StyxLists'. -/
def styxListsUptoCard : Claim7 := { stood := { row := styxListsUptoRow, standIns := [], harness := (true, "fe61f98ac60f37b5c7e86843ba858931558a5a40e4e70aa476bc92d3cbbc57eb"), looks := false }, kinds := [], alts := [], laidByText := true, laidKinds := [.mapped], laidTests := true, laidLooks := .later }
def StyxListsUptoCardSaid : Prop := Claim7.holds Tryd.pinned (.plain (OpenSpec.upto styxListsSpec)) styxListsUptoCard
end Rows
end Go.Proofs.YtflofpnagfoeeaaDoor
