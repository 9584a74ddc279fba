/-
  DERIVED. GIVEN WITH THE SEED: THE CARDS: each row of YtmbpimhfanafcaaDoorRows.lean that lists a variable, with what it lists TIED to the program's text (the seventh form; the later family's looks); each row that meets fmt, with fmt's text TOLD by the authors' own Lean function (tested against real Go, not proved from fmt's source: count such statements apart). THE CARD IS WHAT COUNTS. Prove the row's statement (the work); the ties are given (YtmbpimhfanafcaaDoorTie.lean); close each card by the builder's one call (the guide's Derived/Test/ToyasCard.lean, 'card_holds'). Laid BY PROGRAM, IN A SANDBOX (cutbox-door.mjs). By AI agents, Wed Nov 11 2026. No macro, syntax, notation, axiom, sorry.
-/
import Derived.Test.YtmbpimhfanafcaaDoorRows
import GoSem.ClaimSeven
namespace Go.Proofs.YtmbpimhfanafcaaDoor
namespace Rows

/-- THE TIED CARD OF 'avocetlaw03.UtfParts'. -/
def utfPartsCard : Claim7 := { stood := { row := utfPartsRow, standIns := [], harness := (true, "67378b1802eb5047c35a4df95891d6e3435e024da0422a342bab12e8ffd6c9b7"), looks := false }, kinds := [], alts := [], laidByText := true, laidKinds := [.data, .pinned], laidTests := true, laidLooks := .later }
def UtfPartsCardSaid : Prop := Claim7.holds Tryd.pinned (.plain (OpenSpec.ofChange utfPartsSpec)) utfPartsCard

/-- THE TIED CARD OF 'avocetlaw03.UtfBack'. -/
def utfBackCard : Claim7 := { stood := { row := utfBackRow, standIns := [], harness := (true, "67378b1802eb5047c35a4df95891d6e3435e024da0422a342bab12e8ffd6c9b7"), looks := false }, kinds := [], alts := [], laidByText := true, laidKinds := [.data, .pinned], laidTests := true, laidLooks := .later }
def UtfBackCardSaid : Prop := Claim7.holds Tryd.pinned (.plain (OpenSpec.ofChange utfBackSpec)) utfBackCard

/-- THE TIED CARD OF 'avocetlaw03.UtfOne'. -/
def utfOneCard : Claim7 := { stood := { row := utfOneRow, standIns := [], harness := (true, "67378b1802eb5047c35a4df95891d6e3435e024da0422a342bab12e8ffd6c9b7"), looks := false }, kinds := [], alts := [], laidByText := true, laidKinds := [.data, .pinned], laidTests := true, laidLooks := .later }
def UtfOneCardSaid : Prop := Claim7.holds Tryd.pinned (.plain (OpenSpec.ofChange utfOneSpec)) utfOneCard

/-- THE TIED CARD OF 'avocetlaw03.UtfCut'. -/
def utfCutCard : Claim7 := { stood := { row := utfCutRow, standIns := [], harness := (true, "67378b1802eb5047c35a4df95891d6e3435e024da0422a342bab12e8ffd6c9b7"), looks := false }, kinds := [], alts := [], laidByText := true, laidKinds := [.data, .pinned], laidTests := true, laidLooks := .later }
def UtfCutCardSaid : Prop := Claim7.holds Tryd.pinned (.plain (OpenSpec.ofChange utfCutSpec)) utfCutCard

/-- THE TIED CARD OF 'avocetlaw03.UtfNames'. -/
def utfNamesCard : Claim7 := { stood := { row := utfNamesRow, standIns := [], harness := (true, "67378b1802eb5047c35a4df95891d6e3435e024da0422a342bab12e8ffd6c9b7"), looks := false }, kinds := [], alts := [], laidByText := true, laidKinds := [.data, .pinned], laidTests := true, laidLooks := .later }
def UtfNamesCardSaid : Prop := Claim7.holds Tryd.pinned (.plain (OpenSpec.ofChange utfNamesSpec)) utfNamesCard

/-- THE TIED CARD OF 'avocetlaw03.UtfIs'. -/
def utfIsCard : Claim7 := { stood := { row := utfIsRow, standIns := [], harness := (true, "67378b1802eb5047c35a4df95891d6e3435e024da0422a342bab12e8ffd6c9b7"), looks := false }, kinds := [], alts := [], laidByText := true, laidKinds := [.data, .pinned], laidTests := true, laidLooks := .later }
def UtfIsCardSaid : Prop := Claim7.holds Tryd.pinned (.plain (OpenSpec.ofChange utfIsSpec)) utfIsCard

/-- THE SECOND FORM's CARD OF 'avocetlaw03.UtfParts'. -/
def utfPartsUptoCard : Claim7 := { stood := { row := utfPartsUptoRow, standIns := [], harness := (true, "67378b1802eb5047c35a4df95891d6e3435e024da0422a342bab12e8ffd6c9b7"), looks := false }, kinds := [], alts := [], laidByText := true, laidKinds := [.data, .pinned], laidTests := true, laidLooks := .later }
def UtfPartsUptoCardSaid : Prop := Claim7.holds Tryd.pinned (.plain (OpenSpec.upto utfPartsSpec)) utfPartsUptoCard

/-- THE SECOND FORM's CARD OF 'avocetlaw03.UtfBack'. -/
def utfBackUptoCard : Claim7 := { stood := { row := utfBackUptoRow, standIns := [], harness := (true, "67378b1802eb5047c35a4df95891d6e3435e024da0422a342bab12e8ffd6c9b7"), looks := false }, kinds := [], alts := [], laidByText := true, laidKinds := [.data, .pinned], laidTests := true, laidLooks := .later }
def UtfBackUptoCardSaid : Prop := Claim7.holds Tryd.pinned (.plain (OpenSpec.upto utfBackSpec)) utfBackUptoCard

/-- THE SECOND FORM's CARD OF 'avocetlaw03.UtfOne'. -/
def utfOneUptoCard : Claim7 := { stood := { row := utfOneUptoRow, standIns := [], harness := (true, "67378b1802eb5047c35a4df95891d6e3435e024da0422a342bab12e8ffd6c9b7"), looks := false }, kinds := [], alts := [], laidByText := true, laidKinds := [.data, .pinned], laidTests := true, laidLooks := .later }
def UtfOneUptoCardSaid : Prop := Claim7.holds Tryd.pinned (.plain (OpenSpec.upto utfOneSpec)) utfOneUptoCard

/-- THE SECOND FORM's CARD OF 'avocetlaw03.UtfCut'. -/
def utfCutUptoCard : Claim7 := { stood := { row := utfCutUptoRow, standIns := [], harness := (true, "67378b1802eb5047c35a4df95891d6e3435e024da0422a342bab12e8ffd6c9b7"), looks := false }, kinds := [], alts := [], laidByText := true, laidKinds := [.data, .pinned], laidTests := true, laidLooks := .later }
def UtfCutUptoCardSaid : Prop := Claim7.holds Tryd.pinned (.plain (OpenSpec.upto utfCutSpec)) utfCutUptoCard

/-- THE SECOND FORM's CARD OF 'avocetlaw03.UtfNames'. -/
def utfNamesUptoCard : Claim7 := { stood := { row := utfNamesUptoRow, standIns := [], harness := (true, "67378b1802eb5047c35a4df95891d6e3435e024da0422a342bab12e8ffd6c9b7"), looks := false }, kinds := [], alts := [], laidByText := true, laidKinds := [.data, .pinned], laidTests := true, laidLooks := .later }
def UtfNamesUptoCardSaid : Prop := Claim7.holds Tryd.pinned (.plain (OpenSpec.upto utfNamesSpec)) utfNamesUptoCard

/-- THE SECOND FORM's CARD OF 'avocetlaw03.UtfIs'. -/
def utfIsUptoCard : Claim7 := { stood := { row := utfIsUptoRow, standIns := [], harness := (true, "67378b1802eb5047c35a4df95891d6e3435e024da0422a342bab12e8ffd6c9b7"), looks := false }, kinds := [], alts := [], laidByText := true, laidKinds := [.data, .pinned], laidTests := true, laidLooks := .later }
def UtfIsUptoCardSaid : Prop := Claim7.holds Tryd.pinned (.plain (OpenSpec.upto utfIsSpec)) utfIsUptoCard
end Rows
end Go.Proofs.YtmbpimhfanafcaaDoor
