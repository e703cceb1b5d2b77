/-
  DERIVED. GIVEN WITH THE SEED: THE CARDS: each row of YtgnbphnbdaphpaaGreatDoorRows.lean that lists a variable, with what it lists TIED to the program's text (the seventh form; the later family's looks); each row that meets fmt, with fmt's text TOLD by the authors' own Lean function (tested against real Go, not proved from fmt's source: count such statements apart). THE CARD IS WHAT COUNTS. Prove the row's statement (the work); the ties are given (YtgnbphnbdaphpaaGreatDoorTie.lean); close each card by the builder's one call (the guide's Derived/Test/ToyasCard.lean, 'card_holds'). Laid BY PROGRAM, IN A SANDBOX (cutbox-door.mjs). By AI agents, Wed Nov 11 2026. No macro, syntax, notation, axiom, sorry.
-/
import Derived.Test.YtgnbphnbdaphpaaGreatDoorRows
import GoSem.ClaimSeven
namespace Go.Proofs.YtgnbphnbdaphpaaGreatDoor
namespace Rows

/-- THE TIED CARD OF 'vidimustop.TopSound'. -/
def topSoundCard : Claim7 := { stood := { row := topSoundRow, standIns := [], harness := (true, "b62ac410409ba09a8af4ed8381e456295777f0c046060ada44d50f6cf33601cc"), looks := true }, kinds := [], alts := [], laidByText := true, laidKinds := [.data, .data, .data, .data, .listed, .data, .pinned], laidTests := true, laidLooks := .later }
def TopSoundCardSaid : Prop := Claim7.holds Tryz.pinned (.plain (OpenSpec.ofChange topSoundSpec)) topSoundCard

/-- THE SECOND FORM's CARD OF 'vidimustop.TopSound'. -/
def topSoundUptoCard : Claim7 := { stood := { row := topSoundUptoRow, standIns := [], harness := (true, "b62ac410409ba09a8af4ed8381e456295777f0c046060ada44d50f6cf33601cc"), looks := true }, kinds := [], alts := [], laidByText := true, laidKinds := [.data, .data, .data, .data, .listed, .data, .pinned], laidTests := true, laidLooks := .later }
def TopSoundUptoCardSaid : Prop := Claim7.holds Tryz.pinned (.plain (OpenSpec.upto topSoundSpec)) topSoundUptoCard
end Rows
end Go.Proofs.YtgnbphnbdaphpaaGreatDoor
