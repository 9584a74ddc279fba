/-
  DERIVED. GIVEN WITH THE SEED: THE CARDS: each row of YtjonlcnmpejamaaDoorRows.lean that lists a variable, with what it lists TIED to the program's text (the seventh form; the later family's looks); each row that meets fmt, with fmt's text TOLD by the authors' own Lean function (tested against real Go, not proved from fmt's source: count such statements apart). THE CARD IS WHAT COUNTS. Prove the row's statement (the work); the ties are given (YtjonlcnmpejamaaDoorTie.lean); close each card by the builder's one call (the guide's Derived/Test/ToyasCard.lean, 'card_holds'). Laid BY PROGRAM, IN A SANDBOX (cutbox-door.mjs). By AI agents, Wed Nov 11 2026. No macro, syntax, notation, axiom, sorry.
-/
import Derived.Test.YtjonlcnmpejamaaDoorRows
import GoSem.ClaimSeven
namespace Go.Proofs.YtjonlcnmpejamaaDoor
namespace Rows

/-- THE TIED CARD OF 'avocetlaw02.IntsTypes'. -/
def intsTypesCard : Claim7 := { stood := { row := intsTypesRow, standIns := [], harness := (true, "b6fae655abf63b6932663dcfdb895249509a48d0b4ffa064554b8949760797f5"), looks := false }, kinds := [], alts := [], laidByText := true, laidKinds := [.data, .data], laidTests := true, laidLooks := .later }
def IntsTypesCardSaid : Prop := Claim7.holds Tryd.pinned (.plain (OpenSpec.ofChange intsTypesSpec)) intsTypesCard

/-- THE TIED CARD OF 'avocetlaw02.IntsDo'. -/
def intsDoCard : Claim7 := { stood := { row := intsDoRow, standIns := [], harness := (true, "b6fae655abf63b6932663dcfdb895249509a48d0b4ffa064554b8949760797f5"), looks := false }, kinds := [], alts := [], laidByText := true, laidKinds := [.data, .data], laidTests := true, laidLooks := .later }
def IntsDoCardSaid : Prop := Claim7.holds Tryd.pinned (.plain (OpenSpec.ofChange intsDoSpec)) intsDoCard

/-- THE TIED CARD OF 'avocetlaw02.IntsTurn'. -/
def intsTurnCard : Claim7 := { stood := { row := intsTurnRow, standIns := [], harness := (true, "b6fae655abf63b6932663dcfdb895249509a48d0b4ffa064554b8949760797f5"), looks := false }, kinds := [], alts := [], laidByText := true, laidKinds := [.data, .data], laidTests := true, laidLooks := .later }
def IntsTurnCardSaid : Prop := Claim7.holds Tryd.pinned (.plain (OpenSpec.ofChange intsTurnSpec)) intsTurnCard

/-- THE TIED CARD OF 'avocetlaw02.IntsOrder'. -/
def intsOrderCard : Claim7 := { stood := { row := intsOrderRow, standIns := [], harness := (true, "b6fae655abf63b6932663dcfdb895249509a48d0b4ffa064554b8949760797f5"), looks := false }, kinds := [], alts := [], laidByText := true, laidKinds := [.data, .data], laidTests := true, laidLooks := .later }
def IntsOrderCardSaid : Prop := Claim7.holds Tryd.pinned (.plain (OpenSpec.ofChange intsOrderSpec)) intsOrderCard

/-- THE TIED CARD OF 'avocetlaw02.IntsAlone'. -/
def intsAloneCard : Claim7 := { stood := { row := intsAloneRow, standIns := [], harness := (true, "b6fae655abf63b6932663dcfdb895249509a48d0b4ffa064554b8949760797f5"), looks := false }, kinds := [], alts := [], laidByText := true, laidKinds := [.data, .data], laidTests := true, laidLooks := .later }
def IntsAloneCardSaid : Prop := Claim7.holds Tryd.pinned (.plain (OpenSpec.ofChange intsAloneSpec)) intsAloneCard

/-- THE TIED CARD OF 'avocetlaw02.IntsCount'. -/
def intsCountCard : Claim7 := { stood := { row := intsCountRow, standIns := [], harness := (true, "b6fae655abf63b6932663dcfdb895249509a48d0b4ffa064554b8949760797f5"), looks := false }, kinds := [], alts := [], laidByText := true, laidKinds := [.data, .data], laidTests := true, laidLooks := .later }
def IntsCountCardSaid : Prop := Claim7.holds Tryd.pinned (.plain (OpenSpec.ofChange intsCountSpec)) intsCountCard

/-- THE TIED CARD OF 'avocetlaw02.IntsDivide'. -/
def intsDivideCard : Claim7 := { stood := { row := intsDivideRow, standIns := [], harness := (true, "b6fae655abf63b6932663dcfdb895249509a48d0b4ffa064554b8949760797f5"), looks := false }, kinds := [], alts := [], laidByText := true, laidKinds := [.data, .data], laidTests := true, laidLooks := .later }
def IntsDivideCardSaid : Prop := Claim7.holds Tryd.pinned (.plain (OpenSpec.ofChange intsDivideSpec)) intsDivideCard

/-- THE TIED CARD OF 'avocetlaw02.IntsValues'. -/
def intsValuesCard : Claim7 := { stood := { row := intsValuesRow, standIns := [], harness := (true, "b6fae655abf63b6932663dcfdb895249509a48d0b4ffa064554b8949760797f5"), looks := false }, kinds := [], alts := [], laidByText := true, laidKinds := [.data, .data], laidTests := true, laidLooks := .later }
def IntsValuesCardSaid : Prop := Claim7.holds Tryd.pinned (.plain (OpenSpec.ofChange intsValuesSpec)) intsValuesCard

/-- THE TIED CARD OF 'avocetlaw02.IntsWrap'. -/
def intsWrapCard : Claim7 := { stood := { row := intsWrapRow, standIns := [], harness := (true, "b6fae655abf63b6932663dcfdb895249509a48d0b4ffa064554b8949760797f5"), looks := false }, kinds := [], alts := [], laidByText := true, laidKinds := [.data, .data], laidTests := true, laidLooks := .later }
def IntsWrapCardSaid : Prop := Claim7.holds Tryd.pinned (.plain (OpenSpec.ofChange intsWrapSpec)) intsWrapCard

/-- THE TIED CARD OF 'avocetlaw02.IntsShape'. -/
def intsShapeCard : Claim7 := { stood := { row := intsShapeRow, standIns := [], harness := (true, "b6fae655abf63b6932663dcfdb895249509a48d0b4ffa064554b8949760797f5"), looks := false }, kinds := [], alts := [], laidByText := true, laidKinds := [.data, .data], laidTests := true, laidLooks := .later }
def IntsShapeCardSaid : Prop := Claim7.holds Tryd.pinned (.plain (OpenSpec.ofChange intsShapeSpec)) intsShapeCard

/-- THE SECOND FORM's CARD OF 'avocetlaw02.IntsTypes'. -/
def intsTypesUptoCard : Claim7 := { stood := { row := intsTypesUptoRow, standIns := [], harness := (true, "b6fae655abf63b6932663dcfdb895249509a48d0b4ffa064554b8949760797f5"), looks := false }, kinds := [], alts := [], laidByText := true, laidKinds := [.data, .data], laidTests := true, laidLooks := .later }
def IntsTypesUptoCardSaid : Prop := Claim7.holds Tryd.pinned (.plain (OpenSpec.upto intsTypesSpec)) intsTypesUptoCard

/-- THE SECOND FORM's CARD OF 'avocetlaw02.IntsDo'. -/
def intsDoUptoCard : Claim7 := { stood := { row := intsDoUptoRow, standIns := [], harness := (true, "b6fae655abf63b6932663dcfdb895249509a48d0b4ffa064554b8949760797f5"), looks := false }, kinds := [], alts := [], laidByText := true, laidKinds := [.data, .data], laidTests := true, laidLooks := .later }
def IntsDoUptoCardSaid : Prop := Claim7.holds Tryd.pinned (.plain (OpenSpec.upto intsDoSpec)) intsDoUptoCard

/-- THE SECOND FORM's CARD OF 'avocetlaw02.IntsTurn'. -/
def intsTurnUptoCard : Claim7 := { stood := { row := intsTurnUptoRow, standIns := [], harness := (true, "b6fae655abf63b6932663dcfdb895249509a48d0b4ffa064554b8949760797f5"), looks := false }, kinds := [], alts := [], laidByText := true, laidKinds := [.data, .data], laidTests := true, laidLooks := .later }
def IntsTurnUptoCardSaid : Prop := Claim7.holds Tryd.pinned (.plain (OpenSpec.upto intsTurnSpec)) intsTurnUptoCard

/-- THE SECOND FORM's CARD OF 'avocetlaw02.IntsOrder'. -/
def intsOrderUptoCard : Claim7 := { stood := { row := intsOrderUptoRow, standIns := [], harness := (true, "b6fae655abf63b6932663dcfdb895249509a48d0b4ffa064554b8949760797f5"), looks := false }, kinds := [], alts := [], laidByText := true, laidKinds := [.data, .data], laidTests := true, laidLooks := .later }
def IntsOrderUptoCardSaid : Prop := Claim7.holds Tryd.pinned (.plain (OpenSpec.upto intsOrderSpec)) intsOrderUptoCard

/-- THE SECOND FORM's CARD OF 'avocetlaw02.IntsAlone'. -/
def intsAloneUptoCard : Claim7 := { stood := { row := intsAloneUptoRow, standIns := [], harness := (true, "b6fae655abf63b6932663dcfdb895249509a48d0b4ffa064554b8949760797f5"), looks := false }, kinds := [], alts := [], laidByText := true, laidKinds := [.data, .data], laidTests := true, laidLooks := .later }
def IntsAloneUptoCardSaid : Prop := Claim7.holds Tryd.pinned (.plain (OpenSpec.upto intsAloneSpec)) intsAloneUptoCard

/-- THE SECOND FORM's CARD OF 'avocetlaw02.IntsCount'. -/
def intsCountUptoCard : Claim7 := { stood := { row := intsCountUptoRow, standIns := [], harness := (true, "b6fae655abf63b6932663dcfdb895249509a48d0b4ffa064554b8949760797f5"), looks := false }, kinds := [], alts := [], laidByText := true, laidKinds := [.data, .data], laidTests := true, laidLooks := .later }
def IntsCountUptoCardSaid : Prop := Claim7.holds Tryd.pinned (.plain (OpenSpec.upto intsCountSpec)) intsCountUptoCard

/-- THE SECOND FORM's CARD OF 'avocetlaw02.IntsDivide'. -/
def intsDivideUptoCard : Claim7 := { stood := { row := intsDivideUptoRow, standIns := [], harness := (true, "b6fae655abf63b6932663dcfdb895249509a48d0b4ffa064554b8949760797f5"), looks := false }, kinds := [], alts := [], laidByText := true, laidKinds := [.data, .data], laidTests := true, laidLooks := .later }
def IntsDivideUptoCardSaid : Prop := Claim7.holds Tryd.pinned (.plain (OpenSpec.upto intsDivideSpec)) intsDivideUptoCard

/-- THE SECOND FORM's CARD OF 'avocetlaw02.IntsValues'. -/
def intsValuesUptoCard : Claim7 := { stood := { row := intsValuesUptoRow, standIns := [], harness := (true, "b6fae655abf63b6932663dcfdb895249509a48d0b4ffa064554b8949760797f5"), looks := false }, kinds := [], alts := [], laidByText := true, laidKinds := [.data, .data], laidTests := true, laidLooks := .later }
def IntsValuesUptoCardSaid : Prop := Claim7.holds Tryd.pinned (.plain (OpenSpec.upto intsValuesSpec)) intsValuesUptoCard

/-- THE SECOND FORM's CARD OF 'avocetlaw02.IntsWrap'. -/
def intsWrapUptoCard : Claim7 := { stood := { row := intsWrapUptoRow, standIns := [], harness := (true, "b6fae655abf63b6932663dcfdb895249509a48d0b4ffa064554b8949760797f5"), looks := false }, kinds := [], alts := [], laidByText := true, laidKinds := [.data, .data], laidTests := true, laidLooks := .later }
def IntsWrapUptoCardSaid : Prop := Claim7.holds Tryd.pinned (.plain (OpenSpec.upto intsWrapSpec)) intsWrapUptoCard

/-- THE SECOND FORM's CARD OF 'avocetlaw02.IntsShape'. -/
def intsShapeUptoCard : Claim7 := { stood := { row := intsShapeUptoRow, standIns := [], harness := (true, "b6fae655abf63b6932663dcfdb895249509a48d0b4ffa064554b8949760797f5"), looks := false }, kinds := [], alts := [], laidByText := true, laidKinds := [.data, .data], laidTests := true, laidLooks := .later }
def IntsShapeUptoCardSaid : Prop := Claim7.holds Tryd.pinned (.plain (OpenSpec.upto intsShapeSpec)) intsShapeUptoCard
end Rows
end Go.Proofs.YtjonlcnmpejamaaDoor
