/-
  DERIVED. GIVEN WITH THE SEED: THE CARDS: each row of YtoeknjmdlmhajaaDoorRows.lean that lists a variable, with what it lists TIED to the program's text (the seventh form; the later family's looks); each row that meets fmt, with fmt's text TOLD by the authors' own Lean function (tested against real Go, not proved from fmt's source: count such statements apart). THE CARD IS WHAT COUNTS. Prove the row's statement (the work); the ties are given (YtoeknjmdlmhajaaDoorTie.lean); close each card by the builder's one call (the guide's Derived/Test/ToyasCard.lean, 'card_holds'). Laid BY PROGRAM, IN A SANDBOX (cutbox-door.mjs). By AI agents, Wed Nov 11 2026. No macro, syntax, notation, axiom, sorry.
-/
import Derived.Test.YtoeknjmdlmhajaaDoorRows
import GoSem.ClaimSeven
namespace Go.Proofs.YtoeknjmdlmhajaaDoor
namespace Rows

/-- THE TIED CARD OF 'avocetlaw07.SectBack'. -/
def sectBackCard : Claim7 := { stood := { row := sectBackRow, standIns := [], harness := (true, "6e7d81e7345a6a4ed1b7930c1bada7874ba4f46b52a2f91137d00b89b19101a8"), looks := false }, kinds := [], alts := [], laidByText := true, laidKinds := [.data, .pinned], laidTests := true, laidLooks := .later }
def SectBackCardSaid : Prop := Claim7.holds Tryd.pinned (.plain (OpenSpec.ofChange sectBackSpec)) sectBackCard

/-- THE TIED CARD OF 'avocetlaw07.SectHeads'. -/
def sectHeadsCard : Claim7 := { stood := { row := sectHeadsRow, standIns := [], harness := (true, "6e7d81e7345a6a4ed1b7930c1bada7874ba4f46b52a2f91137d00b89b19101a8"), looks := false }, kinds := [], alts := [], laidByText := true, laidKinds := [.data, .pinned], laidTests := true, laidLooks := .later }
def SectHeadsCardSaid : Prop := Claim7.holds Tryd.pinned (.plain (OpenSpec.ofChange sectHeadsSpec)) sectHeadsCard

/-- THE TIED CARD OF 'avocetlaw07.SectCustom'. -/
def sectCustomCard : Claim7 := { stood := { row := sectCustomRow, standIns := [], harness := (true, "6e7d81e7345a6a4ed1b7930c1bada7874ba4f46b52a2f91137d00b89b19101a8"), looks := false }, kinds := [], alts := [], laidByText := true, laidKinds := [.data, .pinned], laidTests := true, laidLooks := .later }
def SectCustomCardSaid : Prop := Claim7.holds Tryd.pinned (.plain (OpenSpec.ofChange sectCustomSpec)) sectCustomCard

/-- THE TIED CARD OF 'avocetlaw07.SectTold'. -/
def sectToldCard : Claim7 := { stood := { row := sectToldRow, standIns := [], harness := (true, "6e7d81e7345a6a4ed1b7930c1bada7874ba4f46b52a2f91137d00b89b19101a8"), looks := false }, kinds := [], alts := [], laidByText := true, laidKinds := [.data, .pinned], laidTests := true, laidLooks := .later }
def SectToldCardSaid : Prop := Claim7.holds Tryd.pinned (.plain (OpenSpec.ofChange sectToldSpec)) sectToldCard

/-- THE TIED CARD OF 'avocetlaw07.SectFinds'. -/
def sectFindsCard : Claim7 := { stood := { row := sectFindsRow, standIns := [], harness := (true, "6e7d81e7345a6a4ed1b7930c1bada7874ba4f46b52a2f91137d00b89b19101a8"), looks := false }, kinds := [], alts := [], laidByText := true, laidKinds := [.data, .pinned], laidTests := true, laidLooks := .later }
def SectFindsCardSaid : Prop := Claim7.holds Tryd.pinned (.plain (OpenSpec.ofChange sectFindsSpec)) sectFindsCard

/-- THE TIED CARD OF 'avocetlaw07.SectIs'. -/
def sectIsCard : Claim7 := { stood := { row := sectIsRow, standIns := [], harness := (true, "6e7d81e7345a6a4ed1b7930c1bada7874ba4f46b52a2f91137d00b89b19101a8"), looks := false }, kinds := [], alts := [], laidByText := true, laidKinds := [.data, .pinned], laidTests := true, laidLooks := .later }
def SectIsCardSaid : Prop := Claim7.holds Tryd.pinned (.plain (OpenSpec.ofChange sectIsSpec)) sectIsCard

/-- THE SECOND FORM's CARD OF 'avocetlaw07.SectBack'. -/
def sectBackUptoCard : Claim7 := { stood := { row := sectBackUptoRow, standIns := [], harness := (true, "6e7d81e7345a6a4ed1b7930c1bada7874ba4f46b52a2f91137d00b89b19101a8"), looks := false }, kinds := [], alts := [], laidByText := true, laidKinds := [.data, .pinned], laidTests := true, laidLooks := .later }
def SectBackUptoCardSaid : Prop := Claim7.holds Tryd.pinned (.plain (OpenSpec.upto sectBackSpec)) sectBackUptoCard

/-- THE SECOND FORM's CARD OF 'avocetlaw07.SectHeads'. -/
def sectHeadsUptoCard : Claim7 := { stood := { row := sectHeadsUptoRow, standIns := [], harness := (true, "6e7d81e7345a6a4ed1b7930c1bada7874ba4f46b52a2f91137d00b89b19101a8"), looks := false }, kinds := [], alts := [], laidByText := true, laidKinds := [.data, .pinned], laidTests := true, laidLooks := .later }
def SectHeadsUptoCardSaid : Prop := Claim7.holds Tryd.pinned (.plain (OpenSpec.upto sectHeadsSpec)) sectHeadsUptoCard

/-- THE SECOND FORM's CARD OF 'avocetlaw07.SectCustom'. -/
def sectCustomUptoCard : Claim7 := { stood := { row := sectCustomUptoRow, standIns := [], harness := (true, "6e7d81e7345a6a4ed1b7930c1bada7874ba4f46b52a2f91137d00b89b19101a8"), looks := false }, kinds := [], alts := [], laidByText := true, laidKinds := [.data, .pinned], laidTests := true, laidLooks := .later }
def SectCustomUptoCardSaid : Prop := Claim7.holds Tryd.pinned (.plain (OpenSpec.upto sectCustomSpec)) sectCustomUptoCard

/-- THE SECOND FORM's CARD OF 'avocetlaw07.SectTold'. -/
def sectToldUptoCard : Claim7 := { stood := { row := sectToldUptoRow, standIns := [], harness := (true, "6e7d81e7345a6a4ed1b7930c1bada7874ba4f46b52a2f91137d00b89b19101a8"), looks := false }, kinds := [], alts := [], laidByText := true, laidKinds := [.data, .pinned], laidTests := true, laidLooks := .later }
def SectToldUptoCardSaid : Prop := Claim7.holds Tryd.pinned (.plain (OpenSpec.upto sectToldSpec)) sectToldUptoCard

/-- THE SECOND FORM's CARD OF 'avocetlaw07.SectFinds'. -/
def sectFindsUptoCard : Claim7 := { stood := { row := sectFindsUptoRow, standIns := [], harness := (true, "6e7d81e7345a6a4ed1b7930c1bada7874ba4f46b52a2f91137d00b89b19101a8"), looks := false }, kinds := [], alts := [], laidByText := true, laidKinds := [.data, .pinned], laidTests := true, laidLooks := .later }
def SectFindsUptoCardSaid : Prop := Claim7.holds Tryd.pinned (.plain (OpenSpec.upto sectFindsSpec)) sectFindsUptoCard

/-- THE SECOND FORM's CARD OF 'avocetlaw07.SectIs'. -/
def sectIsUptoCard : Claim7 := { stood := { row := sectIsUptoRow, standIns := [], harness := (true, "6e7d81e7345a6a4ed1b7930c1bada7874ba4f46b52a2f91137d00b89b19101a8"), looks := false }, kinds := [], alts := [], laidByText := true, laidKinds := [.data, .pinned], laidTests := true, laidLooks := .later }
def SectIsUptoCardSaid : Prop := Claim7.holds Tryd.pinned (.plain (OpenSpec.upto sectIsSpec)) sectIsUptoCard
end Rows
end Go.Proofs.YtoeknjmdlmhajaaDoor
