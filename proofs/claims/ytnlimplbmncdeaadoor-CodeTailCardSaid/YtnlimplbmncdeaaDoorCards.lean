/-
  DERIVED. GIVEN WITH THE SEED: THE CARDS: each row of YtnlimplbmncdeaaDoorRows.lean that lists a variable, with what it lists TIED to the program's text (the seventh form; the later family's looks); each row that meets fmt, with fmt's text TOLD by the authors' own Lean function (tested against real Go, not proved from fmt's source: count such statements apart). THE CARD IS WHAT COUNTS. Prove the row's statement (the work); the ties are given (YtnlimplbmncdeaaDoorTie.lean); close each card by the builder's one call (the guide's Derived/Test/ToyasCard.lean, 'card_holds'). Laid BY PROGRAM, IN A SANDBOX (cutbox-door.mjs). By AI agents, Wed Nov 11 2026. No macro, syntax, notation, axiom, sorry.
-/
import Derived.Test.YtnlimplbmncdeaaDoorRows
import GoSem.ClaimSeven
namespace Go.Proofs.YtnlimplbmncdeaaDoor
namespace Rows

/-- THE TIED CARD OF 'isthmuslaw18.CodeRights'. -/
def codeRightsCard : Claim7 := { stood := { row := codeRightsRow, standIns := [], harness := (true, "f61e34355e35f9e68dc159d42f24b3282be74065d8ad88d3e9bfc190c1195af0"), looks := false }, kinds := [], alts := [], laidByText := true, laidKinds := [.data], laidTests := true, laidLooks := .later }
def CodeRightsCardSaid : Prop := Claim7.holds Tryd.pinned (.plain (OpenSpec.ofChange codeRightsSpec)) codeRightsCard

/-- THE TIED CARD OF 'isthmuslaw18.CodeWords'. -/
def codeWordsCard : Claim7 := { stood := { row := codeWordsRow, standIns := [], harness := (true, "f61e34355e35f9e68dc159d42f24b3282be74065d8ad88d3e9bfc190c1195af0"), looks := false }, kinds := [], alts := [], laidByText := true, laidKinds := [.data], laidTests := true, laidLooks := .later }
def CodeWordsCardSaid : Prop := Claim7.holds Tryd.pinned (.plain (OpenSpec.ofChange codeWordsSpec)) codeWordsCard

/-- THE TIED CARD OF 'isthmuslaw18.CodeReads'. -/
def codeReadsCard : Claim7 := { stood := { row := codeReadsRow, standIns := [], harness := (true, "f61e34355e35f9e68dc159d42f24b3282be74065d8ad88d3e9bfc190c1195af0"), looks := false }, kinds := [], alts := [], laidByText := true, laidKinds := [.data], laidTests := true, laidLooks := .later }
def CodeReadsCardSaid : Prop := Claim7.holds Tryd.pinned (.plain (OpenSpec.ofChange codeReadsSpec)) codeReadsCard

/-- THE TIED CARD OF 'isthmuslaw18.CodeTurned'. -/
def codeTurnedCard : Claim7 := { stood := { row := codeTurnedRow, standIns := [], harness := (true, "f61e34355e35f9e68dc159d42f24b3282be74065d8ad88d3e9bfc190c1195af0"), looks := false }, kinds := [], alts := [], laidByText := true, laidKinds := [.data], laidTests := true, laidLooks := .later }
def CodeTurnedCardSaid : Prop := Claim7.holds Tryd.pinned (.plain (OpenSpec.ofChange codeTurnedSpec)) codeTurnedCard

/-- THE TIED CARD OF 'isthmuslaw18.CodeBack'. -/
def codeBackCard : Claim7 := { stood := { row := codeBackRow, standIns := [], harness := (true, "f61e34355e35f9e68dc159d42f24b3282be74065d8ad88d3e9bfc190c1195af0"), looks := false }, kinds := [], alts := [], laidByText := true, laidKinds := [.data], laidTests := true, laidLooks := .later }
def CodeBackCardSaid : Prop := Claim7.holds Tryd.pinned (.plain (OpenSpec.ofChange codeBackSpec)) codeBackCard

/-- THE TIED CARD OF 'isthmuslaw18.CodeBackWords'. -/
def codeBackWordsCard : Claim7 := { stood := { row := codeBackWordsRow, standIns := [], harness := (true, "f61e34355e35f9e68dc159d42f24b3282be74065d8ad88d3e9bfc190c1195af0"), looks := false }, kinds := [], alts := [], laidByText := true, laidKinds := [.data], laidTests := true, laidLooks := .later }
def CodeBackWordsCardSaid : Prop := Claim7.holds Tryd.pinned (.plain (OpenSpec.ofChange codeBackWordsSpec)) codeBackWordsCard

/-- THE TIED CARD OF 'isthmuslaw18.CodeLists'. -/
def codeListsCard : Claim7 := { stood := { row := codeListsRow, standIns := [], harness := (true, "f61e34355e35f9e68dc159d42f24b3282be74065d8ad88d3e9bfc190c1195af0"), looks := false }, kinds := [], alts := [], laidByText := true, laidKinds := [.data], laidTests := true, laidLooks := .later }
def CodeListsCardSaid : Prop := Claim7.holds Tryd.pinned (.plain (OpenSpec.ofChange codeListsSpec)) codeListsCard

/-- THE TIED CARD OF 'isthmuslaw18.CodeTail'. -/
def codeTailCard : Claim7 := { stood := { row := codeTailRow, standIns := [], harness := (true, "f61e34355e35f9e68dc159d42f24b3282be74065d8ad88d3e9bfc190c1195af0"), looks := false }, kinds := [], alts := [], laidByText := true, laidKinds := [.data], laidTests := true, laidLooks := .later }
def CodeTailCardSaid : Prop := Claim7.holds Tryd.pinned (.plain (OpenSpec.ofChange codeTailSpec)) codeTailCard

/-- THE SECOND FORM's CARD OF 'isthmuslaw18.CodeRights'. -/
def codeRightsUptoCard : Claim7 := { stood := { row := codeRightsUptoRow, standIns := [], harness := (true, "f61e34355e35f9e68dc159d42f24b3282be74065d8ad88d3e9bfc190c1195af0"), looks := false }, kinds := [], alts := [], laidByText := true, laidKinds := [.data], laidTests := true, laidLooks := .later }
def CodeRightsUptoCardSaid : Prop := Claim7.holds Tryd.pinned (.plain (OpenSpec.upto codeRightsSpec)) codeRightsUptoCard

/-- THE SECOND FORM's CARD OF 'isthmuslaw18.CodeWords'. -/
def codeWordsUptoCard : Claim7 := { stood := { row := codeWordsUptoRow, standIns := [], harness := (true, "f61e34355e35f9e68dc159d42f24b3282be74065d8ad88d3e9bfc190c1195af0"), looks := false }, kinds := [], alts := [], laidByText := true, laidKinds := [.data], laidTests := true, laidLooks := .later }
def CodeWordsUptoCardSaid : Prop := Claim7.holds Tryd.pinned (.plain (OpenSpec.upto codeWordsSpec)) codeWordsUptoCard

/-- THE SECOND FORM's CARD OF 'isthmuslaw18.CodeReads'. -/
def codeReadsUptoCard : Claim7 := { stood := { row := codeReadsUptoRow, standIns := [], harness := (true, "f61e34355e35f9e68dc159d42f24b3282be74065d8ad88d3e9bfc190c1195af0"), looks := false }, kinds := [], alts := [], laidByText := true, laidKinds := [.data], laidTests := true, laidLooks := .later }
def CodeReadsUptoCardSaid : Prop := Claim7.holds Tryd.pinned (.plain (OpenSpec.upto codeReadsSpec)) codeReadsUptoCard

/-- THE SECOND FORM's CARD OF 'isthmuslaw18.CodeTurned'. -/
def codeTurnedUptoCard : Claim7 := { stood := { row := codeTurnedUptoRow, standIns := [], harness := (true, "f61e34355e35f9e68dc159d42f24b3282be74065d8ad88d3e9bfc190c1195af0"), looks := false }, kinds := [], alts := [], laidByText := true, laidKinds := [.data], laidTests := true, laidLooks := .later }
def CodeTurnedUptoCardSaid : Prop := Claim7.holds Tryd.pinned (.plain (OpenSpec.upto codeTurnedSpec)) codeTurnedUptoCard

/-- THE SECOND FORM's CARD OF 'isthmuslaw18.CodeBack'. -/
def codeBackUptoCard : Claim7 := { stood := { row := codeBackUptoRow, standIns := [], harness := (true, "f61e34355e35f9e68dc159d42f24b3282be74065d8ad88d3e9bfc190c1195af0"), looks := false }, kinds := [], alts := [], laidByText := true, laidKinds := [.data], laidTests := true, laidLooks := .later }
def CodeBackUptoCardSaid : Prop := Claim7.holds Tryd.pinned (.plain (OpenSpec.upto codeBackSpec)) codeBackUptoCard

/-- THE SECOND FORM's CARD OF 'isthmuslaw18.CodeBackWords'. -/
def codeBackWordsUptoCard : Claim7 := { stood := { row := codeBackWordsUptoRow, standIns := [], harness := (true, "f61e34355e35f9e68dc159d42f24b3282be74065d8ad88d3e9bfc190c1195af0"), looks := false }, kinds := [], alts := [], laidByText := true, laidKinds := [.data], laidTests := true, laidLooks := .later }
def CodeBackWordsUptoCardSaid : Prop := Claim7.holds Tryd.pinned (.plain (OpenSpec.upto codeBackWordsSpec)) codeBackWordsUptoCard

/-- THE SECOND FORM's CARD OF 'isthmuslaw18.CodeLists'. -/
def codeListsUptoCard : Claim7 := { stood := { row := codeListsUptoRow, standIns := [], harness := (true, "f61e34355e35f9e68dc159d42f24b3282be74065d8ad88d3e9bfc190c1195af0"), looks := false }, kinds := [], alts := [], laidByText := true, laidKinds := [.data], laidTests := true, laidLooks := .later }
def CodeListsUptoCardSaid : Prop := Claim7.holds Tryd.pinned (.plain (OpenSpec.upto codeListsSpec)) codeListsUptoCard

/-- THE SECOND FORM's CARD OF 'isthmuslaw18.CodeTail'. -/
def codeTailUptoCard : Claim7 := { stood := { row := codeTailUptoRow, standIns := [], harness := (true, "f61e34355e35f9e68dc159d42f24b3282be74065d8ad88d3e9bfc190c1195af0"), looks := false }, kinds := [], alts := [], laidByText := true, laidKinds := [.data], laidTests := true, laidLooks := .later }
def CodeTailUptoCardSaid : Prop := Claim7.holds Tryd.pinned (.plain (OpenSpec.upto codeTailSpec)) codeTailUptoCard
end Rows
end Go.Proofs.YtnlimplbmncdeaaDoor
