/-
  DERIVED. GIVEN WITH THE SEED: THE CARDS: each row of YteefcelbbenmdaaGreatDoorRows.lean that lists a variable, with what it lists TIED to the program's text (the seventh form; the later family's looks); each row that meets fmt, with fmt's text TOLD by the authors' own Lean function (tested against real Go, not proved from fmt's source: count such statements apart). THE CARD IS WHAT COUNTS. Prove the row's statement (the work); the ties are given (YteefcelbbenmdaaGreatDoorTie.lean); close each card by the builder's one call (the guide's Derived/Test/ToyasCard.lean, 'card_holds'). Laid BY PROGRAM, IN A SANDBOX (cutbox-door.mjs). By AI agents, Wed Nov 11 2026. No macro, syntax, notation, axiom, sorry.
-/
import Derived.Test.YteefcelbbenmdaaGreatDoorRows
import GoSem.ClaimSeven
namespace Go.Proofs.YteefcelbbenmdaaGreatDoor
namespace Rows

/-- THE TIED CARD OF 'archipelagolaw29.SeekTowers'. -/
def seekTowersCard : Claim7 := { stood := { row := seekTowersRow, standIns := [], harness := (true, "e5cb4c1dcc885118a10ee310572984820ecd213b19079d6c2169230fb835a113"), looks := false }, kinds := [], alts := [], laidByText := true, laidKinds := [.data], laidTests := true, laidLooks := .later }
def SeekTowersCardSaid : Prop := Claim7.holds Tryz.pinned (.plain (OpenSpec.ofChange seekTowersSpec)) seekTowersCard

/-- THE TIED CARD OF 'archipelagolaw29.SeekHeights'. -/
def seekHeightsCard : Claim7 := { stood := { row := seekHeightsRow, standIns := [], harness := (true, "e5cb4c1dcc885118a10ee310572984820ecd213b19079d6c2169230fb835a113"), looks := false }, kinds := [], alts := [], laidByText := true, laidKinds := [.data], laidTests := true, laidLooks := .later }
def SeekHeightsCardSaid : Prop := Claim7.holds Tryz.pinned (.plain (OpenSpec.ofChange seekHeightsSpec)) seekHeightsCard

/-- THE SECOND FORM's CARD OF 'archipelagolaw29.SeekTowers'. -/
def seekTowersUptoCard : Claim7 := { stood := { row := seekTowersUptoRow, standIns := [], harness := (true, "e5cb4c1dcc885118a10ee310572984820ecd213b19079d6c2169230fb835a113"), looks := false }, kinds := [], alts := [], laidByText := true, laidKinds := [.data], laidTests := true, laidLooks := .later }
def SeekTowersUptoCardSaid : Prop := Claim7.holds Tryz.pinned (.plain (OpenSpec.upto seekTowersSpec)) seekTowersUptoCard

/-- THE SECOND FORM's CARD OF 'archipelagolaw29.SeekHeights'. -/
def seekHeightsUptoCard : Claim7 := { stood := { row := seekHeightsUptoRow, standIns := [], harness := (true, "e5cb4c1dcc885118a10ee310572984820ecd213b19079d6c2169230fb835a113"), looks := false }, kinds := [], alts := [], laidByText := true, laidKinds := [.data], laidTests := true, laidLooks := .later }
def SeekHeightsUptoCardSaid : Prop := Claim7.holds Tryz.pinned (.plain (OpenSpec.upto seekHeightsSpec)) seekHeightsUptoCard
end Rows
end Go.Proofs.YteefcelbbenmdaaGreatDoor
