/-
  DERIVED. GIVEN WITH THE SEED: THE CARDS: each row of YtmgafakahbanaaaDoorRows.lean that lists a variable, with what it lists TIED to the program's text (the seventh form; the later family's looks); each row that meets fmt, with fmt's text TOLD by the authors' own Lean function (tested against real Go, not proved from fmt's source: count such statements apart). THE CARD IS WHAT COUNTS. Prove the row's statement (the work); the ties are given (YtmgafakahbanaaaDoorTie.lean); close each card by the builder's one call (the guide's Derived/Test/ToyasCard.lean, 'card_holds'). Laid BY PROGRAM, IN A SANDBOX (cutbox-door.mjs). By AI agents, Wed Nov 11 2026. No macro, syntax, notation, axiom, sorry.
-/
import Derived.Test.YtmgafakahbanaaaDoorRows
import GoSem.ClaimSeven
namespace Go.Proofs.YtmgafakahbanaaaDoor
namespace Rows

/-- THE TIED CARD OF 'ontimelaw05.AsmFormats'. -/
def asmFormatsCard : Claim7 := { stood := { row := asmFormatsRow, standIns := [], harness := (true, "c1219de0c86f47d0bbe1eb163eb9a07980cf072d976e785f83ea7c5fed6dfb52"), looks := true }, kinds := [], alts := [], laidByText := true, laidKinds := [.data, .data, .data, .data, .sentinel, .sentinel, .pinned], laidTests := true, laidLooks := .later }
def AsmFormatsCardSaid : Prop := Claim7.holds Tryd.pinned (.plain (OpenSpec.ofChange asmFormatsSpec)) asmFormatsCard

/-- THE TIED CARD OF 'ontimelaw05.AsmParses'. -/
def asmParsesCard : Claim7 := { stood := { row := asmParsesRow, standIns := [], harness := (true, "c1219de0c86f47d0bbe1eb163eb9a07980cf072d976e785f83ea7c5fed6dfb52"), looks := true }, kinds := [], alts := [], laidByText := true, laidKinds := [.data, .data, .data, .data, .sentinel, .sentinel, .pinned], laidTests := true, laidLooks := .later }
def AsmParsesCardSaid : Prop := Claim7.holds Tryd.pinned (.plain (OpenSpec.ofChange asmParsesSpec)) asmParsesCard

/-- THE TIED CARD OF 'ontimelaw05.AsmText'. -/
def asmTextCard : Claim7 := { stood := { row := asmTextRow, standIns := [], harness := (true, "c1219de0c86f47d0bbe1eb163eb9a07980cf072d976e785f83ea7c5fed6dfb52"), looks := true }, kinds := [], alts := [], laidByText := true, laidKinds := [.data, .data, .data, .data, .sentinel, .sentinel, .pinned], laidTests := true, laidLooks := .later }
def AsmTextCardSaid : Prop := Claim7.holds Tryd.pinned (.plain (OpenSpec.ofChange asmTextSpec)) asmTextCard

/-- THE TIED CARD OF 'ontimelaw05.AsmComments'. -/
def asmCommentsCard : Claim7 := { stood := { row := asmCommentsRow, standIns := [], harness := (true, "c1219de0c86f47d0bbe1eb163eb9a07980cf072d976e785f83ea7c5fed6dfb52"), looks := true }, kinds := [], alts := [], laidByText := true, laidKinds := [.data, .data, .data, .data, .sentinel, .sentinel, .pinned], laidTests := true, laidLooks := .later }
def AsmCommentsCardSaid : Prop := Claim7.holds Tryd.pinned (.plain (OpenSpec.ofChange asmCommentsSpec)) asmCommentsCard

/-- THE TIED CARD OF 'ontimelaw05.AsmFixed'. -/
def asmFixedCard : Claim7 := { stood := { row := asmFixedRow, standIns := [], harness := (true, "c1219de0c86f47d0bbe1eb163eb9a07980cf072d976e785f83ea7c5fed6dfb52"), looks := true }, kinds := [], alts := [], laidByText := true, laidKinds := [.data, .data, .data, .data, .sentinel, .sentinel, .pinned], laidTests := true, laidLooks := .later }
def AsmFixedCardSaid : Prop := Claim7.holds Tryd.pinned (.plain (OpenSpec.ofChange asmFixedSpec)) asmFixedCard

/-- THE TIED CARD OF 'ontimelaw05.AsmJoins'. -/
def asmJoinsCard : Claim7 := { stood := { row := asmJoinsRow, standIns := [], harness := (true, "c1219de0c86f47d0bbe1eb163eb9a07980cf072d976e785f83ea7c5fed6dfb52"), looks := true }, kinds := [], alts := [], laidByText := true, laidKinds := [.data, .data, .data, .data, .sentinel, .sentinel, .pinned], laidTests := true, laidLooks := .later }
def AsmJoinsCardSaid : Prop := Claim7.holds Tryd.pinned (.plain (OpenSpec.ofChange asmJoinsSpec)) asmJoinsCard

/-- THE TIED CARD OF 'ontimelaw05.AsmWords'. -/
def asmWordsCard : Claim7 := { stood := { row := asmWordsRow, standIns := [], harness := (true, "c1219de0c86f47d0bbe1eb163eb9a07980cf072d976e785f83ea7c5fed6dfb52"), looks := true }, kinds := [], alts := [], laidByText := true, laidKinds := [.data, .data, .data, .data, .sentinel, .sentinel, .pinned], laidTests := true, laidLooks := .later }
def AsmWordsCardSaid : Prop := Claim7.holds Tryd.pinned (.plain (OpenSpec.ofChange asmWordsSpec)) asmWordsCard

/-- THE TIED CARD OF 'ontimelaw05.AsmDecodes'. -/
def asmDecodesCard : Claim7 := { stood := { row := asmDecodesRow, standIns := [], harness := (true, "c1219de0c86f47d0bbe1eb163eb9a07980cf072d976e785f83ea7c5fed6dfb52"), looks := true }, kinds := [], alts := [], laidByText := true, laidKinds := [.data, .data, .data, .data, .sentinel, .sentinel, .pinned], laidTests := true, laidLooks := .later }
def AsmDecodesCardSaid : Prop := Claim7.holds Tryd.pinned (.plain (OpenSpec.ofChange asmDecodesSpec)) asmDecodesCard

/-- THE TIED CARD OF 'ontimelaw05.AsmFull'. -/
def asmFullCard : Claim7 := { stood := { row := asmFullRow, standIns := [], harness := (true, "c1219de0c86f47d0bbe1eb163eb9a07980cf072d976e785f83ea7c5fed6dfb52"), looks := true }, kinds := [], alts := [], laidByText := true, laidKinds := [.data, .data, .data, .data, .sentinel, .sentinel, .pinned], laidTests := true, laidLooks := .later }
def AsmFullCardSaid : Prop := Claim7.holds Tryd.pinned (.plain (OpenSpec.ofChange asmFullSpec)) asmFullCard

/-- THE SECOND FORM's CARD OF 'ontimelaw05.AsmFormats'. -/
def asmFormatsUptoCard : Claim7 := { stood := { row := asmFormatsUptoRow, standIns := [], harness := (true, "c1219de0c86f47d0bbe1eb163eb9a07980cf072d976e785f83ea7c5fed6dfb52"), looks := true }, kinds := [], alts := [], laidByText := true, laidKinds := [.data, .data, .data, .data, .sentinel, .sentinel, .pinned], laidTests := true, laidLooks := .later }
def AsmFormatsUptoCardSaid : Prop := Claim7.holds Tryd.pinned (.plain (OpenSpec.upto asmFormatsSpec)) asmFormatsUptoCard

/-- THE SECOND FORM's CARD OF 'ontimelaw05.AsmParses'. -/
def asmParsesUptoCard : Claim7 := { stood := { row := asmParsesUptoRow, standIns := [], harness := (true, "c1219de0c86f47d0bbe1eb163eb9a07980cf072d976e785f83ea7c5fed6dfb52"), looks := true }, kinds := [], alts := [], laidByText := true, laidKinds := [.data, .data, .data, .data, .sentinel, .sentinel, .pinned], laidTests := true, laidLooks := .later }
def AsmParsesUptoCardSaid : Prop := Claim7.holds Tryd.pinned (.plain (OpenSpec.upto asmParsesSpec)) asmParsesUptoCard

/-- THE SECOND FORM's CARD OF 'ontimelaw05.AsmText'. -/
def asmTextUptoCard : Claim7 := { stood := { row := asmTextUptoRow, standIns := [], harness := (true, "c1219de0c86f47d0bbe1eb163eb9a07980cf072d976e785f83ea7c5fed6dfb52"), looks := true }, kinds := [], alts := [], laidByText := true, laidKinds := [.data, .data, .data, .data, .sentinel, .sentinel, .pinned], laidTests := true, laidLooks := .later }
def AsmTextUptoCardSaid : Prop := Claim7.holds Tryd.pinned (.plain (OpenSpec.upto asmTextSpec)) asmTextUptoCard

/-- THE SECOND FORM's CARD OF 'ontimelaw05.AsmComments'. -/
def asmCommentsUptoCard : Claim7 := { stood := { row := asmCommentsUptoRow, standIns := [], harness := (true, "c1219de0c86f47d0bbe1eb163eb9a07980cf072d976e785f83ea7c5fed6dfb52"), looks := true }, kinds := [], alts := [], laidByText := true, laidKinds := [.data, .data, .data, .data, .sentinel, .sentinel, .pinned], laidTests := true, laidLooks := .later }
def AsmCommentsUptoCardSaid : Prop := Claim7.holds Tryd.pinned (.plain (OpenSpec.upto asmCommentsSpec)) asmCommentsUptoCard

/-- THE SECOND FORM's CARD OF 'ontimelaw05.AsmFixed'. -/
def asmFixedUptoCard : Claim7 := { stood := { row := asmFixedUptoRow, standIns := [], harness := (true, "c1219de0c86f47d0bbe1eb163eb9a07980cf072d976e785f83ea7c5fed6dfb52"), looks := true }, kinds := [], alts := [], laidByText := true, laidKinds := [.data, .data, .data, .data, .sentinel, .sentinel, .pinned], laidTests := true, laidLooks := .later }
def AsmFixedUptoCardSaid : Prop := Claim7.holds Tryd.pinned (.plain (OpenSpec.upto asmFixedSpec)) asmFixedUptoCard

/-- THE SECOND FORM's CARD OF 'ontimelaw05.AsmJoins'. -/
def asmJoinsUptoCard : Claim7 := { stood := { row := asmJoinsUptoRow, standIns := [], harness := (true, "c1219de0c86f47d0bbe1eb163eb9a07980cf072d976e785f83ea7c5fed6dfb52"), looks := true }, kinds := [], alts := [], laidByText := true, laidKinds := [.data, .data, .data, .data, .sentinel, .sentinel, .pinned], laidTests := true, laidLooks := .later }
def AsmJoinsUptoCardSaid : Prop := Claim7.holds Tryd.pinned (.plain (OpenSpec.upto asmJoinsSpec)) asmJoinsUptoCard

/-- THE SECOND FORM's CARD OF 'ontimelaw05.AsmWords'. -/
def asmWordsUptoCard : Claim7 := { stood := { row := asmWordsUptoRow, standIns := [], harness := (true, "c1219de0c86f47d0bbe1eb163eb9a07980cf072d976e785f83ea7c5fed6dfb52"), looks := true }, kinds := [], alts := [], laidByText := true, laidKinds := [.data, .data, .data, .data, .sentinel, .sentinel, .pinned], laidTests := true, laidLooks := .later }
def AsmWordsUptoCardSaid : Prop := Claim7.holds Tryd.pinned (.plain (OpenSpec.upto asmWordsSpec)) asmWordsUptoCard

/-- THE SECOND FORM's CARD OF 'ontimelaw05.AsmDecodes'. -/
def asmDecodesUptoCard : Claim7 := { stood := { row := asmDecodesUptoRow, standIns := [], harness := (true, "c1219de0c86f47d0bbe1eb163eb9a07980cf072d976e785f83ea7c5fed6dfb52"), looks := true }, kinds := [], alts := [], laidByText := true, laidKinds := [.data, .data, .data, .data, .sentinel, .sentinel, .pinned], laidTests := true, laidLooks := .later }
def AsmDecodesUptoCardSaid : Prop := Claim7.holds Tryd.pinned (.plain (OpenSpec.upto asmDecodesSpec)) asmDecodesUptoCard

/-- THE SECOND FORM's CARD OF 'ontimelaw05.AsmFull'. -/
def asmFullUptoCard : Claim7 := { stood := { row := asmFullUptoRow, standIns := [], harness := (true, "c1219de0c86f47d0bbe1eb163eb9a07980cf072d976e785f83ea7c5fed6dfb52"), looks := true }, kinds := [], alts := [], laidByText := true, laidKinds := [.data, .data, .data, .data, .sentinel, .sentinel, .pinned], laidTests := true, laidLooks := .later }
def AsmFullUptoCardSaid : Prop := Claim7.holds Tryd.pinned (.plain (OpenSpec.upto asmFullSpec)) asmFullUptoCard
end Rows
end Go.Proofs.YtmgafakahbanaaaDoor
