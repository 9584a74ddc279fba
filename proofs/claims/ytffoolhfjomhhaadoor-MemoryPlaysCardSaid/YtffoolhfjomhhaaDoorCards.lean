/-
  DERIVED. GIVEN WITH THE SEED: THE CARDS: each row of YtffoolhfjomhhaaDoorRows.lean that lists a variable, with what it lists TIED to the program's text (the seventh form; the later family's looks); each row that meets fmt, with fmt's text TOLD by the authors' own Lean function (tested against real Go, not proved from fmt's source: count such statements apart). THE CARD IS WHAT COUNTS. Prove the row's statement (the work); the ties are given (YtffoolhfjomhhaaDoorTie.lean); close each card by the builder's one call (the guide's Derived/Test/ToyasCard.lean, 'card_holds'). Laid BY PROGRAM, IN A SANDBOX (cutbox-door.mjs). By AI agents, Wed Nov 11 2026. No macro, syntax, notation, axiom, sorry.
-/
import Derived.Test.YtffoolhfjomhhaaDoorRows
import GoSem.ClaimSeven
namespace Go.Proofs.YtffoolhfjomhhaaDoor
namespace Rows

/-- THE TIED CARD OF 'avocetlaw13.MemorySigns'. -/
def memorySignsCard : Claim7 := { stood := { row := memorySignsRow, standIns := [], harness := (true, "23b5ff39f306393c932520e6301a303b86dd231dff91a3640089823e546edf1f"), looks := false }, kinds := [], alts := [], laidByText := true, laidKinds := [.data], laidTests := true, laidLooks := .later }
def MemorySignsCardSaid : Prop := Claim7.holds Tryd.pinned (.plain (OpenSpec.ofChange memorySignsSpec)) memorySignsCard

/-- THE TIED CARD OF 'avocetlaw13.MemoryBack'. -/
def memoryBackCard : Claim7 := { stood := { row := memoryBackRow, standIns := [], harness := (true, "23b5ff39f306393c932520e6301a303b86dd231dff91a3640089823e546edf1f"), looks := false }, kinds := [], alts := [], laidByText := true, laidKinds := [.data], laidTests := true, laidLooks := .later }
def MemoryBackCardSaid : Prop := Claim7.holds Tryd.pinned (.plain (OpenSpec.ofChange memoryBackSpec)) memoryBackCard

/-- THE TIED CARD OF 'avocetlaw13.MemoryApart'. -/
def memoryApartCard : Claim7 := { stood := { row := memoryApartRow, standIns := [], harness := (true, "23b5ff39f306393c932520e6301a303b86dd231dff91a3640089823e546edf1f"), looks := false }, kinds := [], alts := [], laidByText := true, laidKinds := [.data], laidTests := true, laidLooks := .later }
def MemoryApartCardSaid : Prop := Claim7.holds Tryd.pinned (.plain (OpenSpec.ofChange memoryApartSpec)) memoryApartCard

/-- THE TIED CARD OF 'avocetlaw13.MemorySums'. -/
def memorySumsCard : Claim7 := { stood := { row := memorySumsRow, standIns := [], harness := (true, "23b5ff39f306393c932520e6301a303b86dd231dff91a3640089823e546edf1f"), looks := false }, kinds := [], alts := [], laidByText := true, laidKinds := [.data], laidTests := true, laidLooks := .later }
def MemorySumsCardSaid : Prop := Claim7.holds Tryd.pinned (.plain (OpenSpec.ofChange memorySumsSpec)) memorySumsCard

/-- THE TIED CARD OF 'avocetlaw13.MemoryGrows'. -/
def memoryGrowsCard : Claim7 := { stood := { row := memoryGrowsRow, standIns := [], harness := (true, "23b5ff39f306393c932520e6301a303b86dd231dff91a3640089823e546edf1f"), looks := false }, kinds := [], alts := [], laidByText := true, laidKinds := [.data], laidTests := true, laidLooks := .later }
def MemoryGrowsCardSaid : Prop := Claim7.holds Tryd.pinned (.plain (OpenSpec.ofChange memoryGrowsSpec)) memoryGrowsCard

/-- THE TIED CARD OF 'avocetlaw13.MemoryPlays'. -/
def memoryPlaysCard : Claim7 := { stood := { row := memoryPlaysRow, standIns := [], harness := (true, "23b5ff39f306393c932520e6301a303b86dd231dff91a3640089823e546edf1f"), looks := false }, kinds := [], alts := [], laidByText := true, laidKinds := [.data], laidTests := true, laidLooks := .later }
def MemoryPlaysCardSaid : Prop := Claim7.holds Tryd.pinned (.plain (OpenSpec.ofChange memoryPlaysSpec)) memoryPlaysCard

/-- THE SECOND FORM's CARD OF 'avocetlaw13.MemorySigns'. -/
def memorySignsUptoCard : Claim7 := { stood := { row := memorySignsUptoRow, standIns := [], harness := (true, "23b5ff39f306393c932520e6301a303b86dd231dff91a3640089823e546edf1f"), looks := false }, kinds := [], alts := [], laidByText := true, laidKinds := [.data], laidTests := true, laidLooks := .later }
def MemorySignsUptoCardSaid : Prop := Claim7.holds Tryd.pinned (.plain (OpenSpec.upto memorySignsSpec)) memorySignsUptoCard

/-- THE SECOND FORM's CARD OF 'avocetlaw13.MemoryBack'. -/
def memoryBackUptoCard : Claim7 := { stood := { row := memoryBackUptoRow, standIns := [], harness := (true, "23b5ff39f306393c932520e6301a303b86dd231dff91a3640089823e546edf1f"), looks := false }, kinds := [], alts := [], laidByText := true, laidKinds := [.data], laidTests := true, laidLooks := .later }
def MemoryBackUptoCardSaid : Prop := Claim7.holds Tryd.pinned (.plain (OpenSpec.upto memoryBackSpec)) memoryBackUptoCard

/-- THE SECOND FORM's CARD OF 'avocetlaw13.MemoryApart'. -/
def memoryApartUptoCard : Claim7 := { stood := { row := memoryApartUptoRow, standIns := [], harness := (true, "23b5ff39f306393c932520e6301a303b86dd231dff91a3640089823e546edf1f"), looks := false }, kinds := [], alts := [], laidByText := true, laidKinds := [.data], laidTests := true, laidLooks := .later }
def MemoryApartUptoCardSaid : Prop := Claim7.holds Tryd.pinned (.plain (OpenSpec.upto memoryApartSpec)) memoryApartUptoCard

/-- THE SECOND FORM's CARD OF 'avocetlaw13.MemorySums'. -/
def memorySumsUptoCard : Claim7 := { stood := { row := memorySumsUptoRow, standIns := [], harness := (true, "23b5ff39f306393c932520e6301a303b86dd231dff91a3640089823e546edf1f"), looks := false }, kinds := [], alts := [], laidByText := true, laidKinds := [.data], laidTests := true, laidLooks := .later }
def MemorySumsUptoCardSaid : Prop := Claim7.holds Tryd.pinned (.plain (OpenSpec.upto memorySumsSpec)) memorySumsUptoCard

/-- THE SECOND FORM's CARD OF 'avocetlaw13.MemoryGrows'. -/
def memoryGrowsUptoCard : Claim7 := { stood := { row := memoryGrowsUptoRow, standIns := [], harness := (true, "23b5ff39f306393c932520e6301a303b86dd231dff91a3640089823e546edf1f"), looks := false }, kinds := [], alts := [], laidByText := true, laidKinds := [.data], laidTests := true, laidLooks := .later }
def MemoryGrowsUptoCardSaid : Prop := Claim7.holds Tryd.pinned (.plain (OpenSpec.upto memoryGrowsSpec)) memoryGrowsUptoCard

/-- THE SECOND FORM's CARD OF 'avocetlaw13.MemoryPlays'. -/
def memoryPlaysUptoCard : Claim7 := { stood := { row := memoryPlaysUptoRow, standIns := [], harness := (true, "23b5ff39f306393c932520e6301a303b86dd231dff91a3640089823e546edf1f"), looks := false }, kinds := [], alts := [], laidByText := true, laidKinds := [.data], laidTests := true, laidLooks := .later }
def MemoryPlaysUptoCardSaid : Prop := Claim7.holds Tryd.pinned (.plain (OpenSpec.upto memoryPlaysSpec)) memoryPlaysUptoCard
end Rows
end Go.Proofs.YtffoolhfjomhhaaDoor
