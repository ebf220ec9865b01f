/-
  DERIVED. GIVEN WITH THE SEED: THE CARDS: each row of YthidhohdcjojhaaGreatDoorRows.lean that lists a variable, with what it lists TIED to the program's text (the seventh form; the later family's looks); each row that meets fmt, with fmt's text TOLD by the authors' own Lean function (tested against real Go, not proved from fmt's source: count such statements apart). THE CARD IS WHAT COUNTS. Prove the row's statement (the work); the ties are given (YthidhohdcjojhaaGreatDoorTie.lean); close each card by the builder's one call (the guide's Derived/Test/ToyasCard.lean, 'card_holds'). Laid BY PROGRAM, IN A SANDBOX (cutbox-door.mjs). By AI agents, Wed Nov 11 2026. No macro, syntax, notation, axiom, sorry.
-/
import Derived.Test.YthidhohdcjojhaaGreatDoorRows
import GoSem.ClaimSeven
namespace Go.Proofs.YthidhohdcjojhaaGreatDoor
namespace Rows

/-- THE TIED CARD OF 'gavottetop.TopDeeper'. -/
def topDeeperCard : Claim7 := { stood := { row := topDeeperRow, standIns := [], harness := (true, "2add5b79b178bbcce34c7d4a1df988471ed8422e0f363f5edf20b41492a42f47"), looks := true }, kinds := [], alts := [], laidByText := true, laidKinds := [.data, .data, .data, .data, .sentinel, .sentinel, .listed, .data, .pinned], laidTests := true, laidLooks := .later }
def TopDeeperCardSaid : Prop := Claim7.holds Tryz.pinned (.plain (OpenSpec.ofChange topDeeperSpec)) topDeeperCard

/-- THE TIED CARD OF 'gavottetop.TopWatches'. -/
def topWatchesCard : Claim7 := { stood := { row := topWatchesRow, standIns := [], harness := (true, "2add5b79b178bbcce34c7d4a1df988471ed8422e0f363f5edf20b41492a42f47"), looks := true }, kinds := [], alts := [], laidByText := true, laidKinds := [.data, .data, .data, .data, .sentinel, .sentinel, .listed, .data, .pinned], laidTests := true, laidLooks := .later }
def TopWatchesCardSaid : Prop := Claim7.holds Tryz.pinned (.plain (OpenSpec.ofChange topWatchesSpec)) topWatchesCard

/-- THE TIED CARD OF 'gavottetop.TopFewer'. -/
def topFewerCard : Claim7 := { stood := { row := topFewerRow, standIns := [], harness := (true, "2add5b79b178bbcce34c7d4a1df988471ed8422e0f363f5edf20b41492a42f47"), looks := true }, kinds := [], alts := [], laidByText := true, laidKinds := [.data, .data, .data, .data, .sentinel, .sentinel, .listed, .data, .pinned], laidTests := true, laidLooks := .later }
def TopFewerCardSaid : Prop := Claim7.holds Tryz.pinned (.plain (OpenSpec.ofChange topFewerSpec)) topFewerCard

/-- THE TIED CARD OF 'gavottetop.TopSums'. -/
def topSumsCard : Claim7 := { stood := { row := topSumsRow, standIns := [], harness := (true, "2add5b79b178bbcce34c7d4a1df988471ed8422e0f363f5edf20b41492a42f47"), looks := true }, kinds := [], alts := [], laidByText := true, laidKinds := [.data, .data, .data, .data, .sentinel, .sentinel, .listed, .data, .pinned], laidTests := true, laidLooks := .later }
def TopSumsCardSaid : Prop := Claim7.holds Tryz.pinned (.plain (OpenSpec.ofChange topSumsSpec)) topSumsCard

/-- THE SECOND FORM's CARD OF 'gavottetop.TopDeeper'. -/
def topDeeperUptoCard : Claim7 := { stood := { row := topDeeperUptoRow, standIns := [], harness := (true, "2add5b79b178bbcce34c7d4a1df988471ed8422e0f363f5edf20b41492a42f47"), looks := true }, kinds := [], alts := [], laidByText := true, laidKinds := [.data, .data, .data, .data, .sentinel, .sentinel, .listed, .data, .pinned], laidTests := true, laidLooks := .later }
def TopDeeperUptoCardSaid : Prop := Claim7.holds Tryz.pinned (.plain (OpenSpec.upto topDeeperSpec)) topDeeperUptoCard

/-- THE SECOND FORM's CARD OF 'gavottetop.TopWatches'. -/
def topWatchesUptoCard : Claim7 := { stood := { row := topWatchesUptoRow, standIns := [], harness := (true, "2add5b79b178bbcce34c7d4a1df988471ed8422e0f363f5edf20b41492a42f47"), looks := true }, kinds := [], alts := [], laidByText := true, laidKinds := [.data, .data, .data, .data, .sentinel, .sentinel, .listed, .data, .pinned], laidTests := true, laidLooks := .later }
def TopWatchesUptoCardSaid : Prop := Claim7.holds Tryz.pinned (.plain (OpenSpec.upto topWatchesSpec)) topWatchesUptoCard

/-- THE SECOND FORM's CARD OF 'gavottetop.TopFewer'. -/
def topFewerUptoCard : Claim7 := { stood := { row := topFewerUptoRow, standIns := [], harness := (true, "2add5b79b178bbcce34c7d4a1df988471ed8422e0f363f5edf20b41492a42f47"), looks := true }, kinds := [], alts := [], laidByText := true, laidKinds := [.data, .data, .data, .data, .sentinel, .sentinel, .listed, .data, .pinned], laidTests := true, laidLooks := .later }
def TopFewerUptoCardSaid : Prop := Claim7.holds Tryz.pinned (.plain (OpenSpec.upto topFewerSpec)) topFewerUptoCard

/-- THE SECOND FORM's CARD OF 'gavottetop.TopSums'. -/
def topSumsUptoCard : Claim7 := { stood := { row := topSumsUptoRow, standIns := [], harness := (true, "2add5b79b178bbcce34c7d4a1df988471ed8422e0f363f5edf20b41492a42f47"), looks := true }, kinds := [], alts := [], laidByText := true, laidKinds := [.data, .data, .data, .data, .sentinel, .sentinel, .listed, .data, .pinned], laidTests := true, laidLooks := .later }
def TopSumsUptoCardSaid : Prop := Claim7.holds Tryz.pinned (.plain (OpenSpec.upto topSumsSpec)) topSumsUptoCard
end Rows
end Go.Proofs.YthidhohdcjojhaaGreatDoor
