/-
  DERIVED. GIVEN WITH THE SEED: THE CARDS: each row of YtkpdcmafpikhgaaDoorRows.lean that lists a variable, with what it lists TIED to the program's text (the seventh form; the later family's looks); each row that meets fmt, with fmt's text TOLD by the authors' own Lean function (tested against real Go, not proved from fmt's source: count such statements apart). THE CARD IS WHAT COUNTS. Prove the row's statement (the work); the ties are given (YtkpdcmafpikhgaaDoorTie.lean); close each card by the builder's one call (the guide's Derived/Test/ToyasCard.lean, 'card_holds'). Laid BY PROGRAM, IN A SANDBOX (cutbox-door.mjs). By AI agents, Wed Nov 11 2026. No macro, syntax, notation, axiom, sorry.
-/
import Derived.Test.YtkpdcmafpikhgaaDoorRows
import GoSem.ClaimSeven
namespace Go.Proofs.YtkpdcmafpikhgaaDoor
namespace Rows

/-- THE TIED CARD OF 'isthmuslaw01.PackZigs'. -/
def packZigsCard : Claim7 := { stood := { row := packZigsRow, standIns := [], harness := (true, "53ab47eee160975a4671dca6c8c11d185b5d375f9b45f3ecb749396820e21f73"), looks := false }, kinds := [], alts := [], laidByText := true, laidKinds := [.data], laidTests := true, laidLooks := .later }
def PackZigsCardSaid : Prop := Claim7.holds Tryd.pinned (.plain (OpenSpec.ofChange packZigsSpec)) packZigsCard

/-- THE TIED CARD OF 'isthmuslaw01.PackSevens'. -/
def packSevensCard : Claim7 := { stood := { row := packSevensRow, standIns := [], harness := (true, "53ab47eee160975a4671dca6c8c11d185b5d375f9b45f3ecb749396820e21f73"), looks := false }, kinds := [], alts := [], laidByText := true, laidKinds := [.data], laidTests := true, laidLooks := .later }
def PackSevensCardSaid : Prop := Claim7.holds Tryd.pinned (.plain (OpenSpec.ofChange packSevensSpec)) packSevensCard

/-- THE TIED CARD OF 'isthmuslaw01.PackTakes'. -/
def packTakesCard : Claim7 := { stood := { row := packTakesRow, standIns := [], harness := (true, "53ab47eee160975a4671dca6c8c11d185b5d375f9b45f3ecb749396820e21f73"), looks := false }, kinds := [], alts := [], laidByText := true, laidKinds := [.data], laidTests := true, laidLooks := .later }
def PackTakesCardSaid : Prop := Claim7.holds Tryd.pinned (.plain (OpenSpec.ofChange packTakesSpec)) packTakesCard

/-- THE TIED CARD OF 'isthmuslaw01.PackBack'. -/
def packBackCard : Claim7 := { stood := { row := packBackRow, standIns := [], harness := (true, "53ab47eee160975a4671dca6c8c11d185b5d375f9b45f3ecb749396820e21f73"), looks := false }, kinds := [], alts := [], laidByText := true, laidKinds := [.data], laidTests := true, laidLooks := .later }
def PackBackCardSaid : Prop := Claim7.holds Tryd.pinned (.plain (OpenSpec.ofChange packBackSpec)) packBackCard

/-- THE TIED CARD OF 'isthmuslaw01.PackWords'. -/
def packWordsCard : Claim7 := { stood := { row := packWordsRow, standIns := [], harness := (true, "53ab47eee160975a4671dca6c8c11d185b5d375f9b45f3ecb749396820e21f73"), looks := false }, kinds := [], alts := [], laidByText := true, laidKinds := [.data], laidTests := true, laidLooks := .later }
def PackWordsCardSaid : Prop := Claim7.holds Tryd.pinned (.plain (OpenSpec.ofChange packWordsSpec)) packWordsCard

/-- THE TIED CARD OF 'isthmuslaw01.PackMixes'. -/
def packMixesCard : Claim7 := { stood := { row := packMixesRow, standIns := [], harness := (true, "53ab47eee160975a4671dca6c8c11d185b5d375f9b45f3ecb749396820e21f73"), looks := false }, kinds := [], alts := [], laidByText := true, laidKinds := [.data], laidTests := true, laidLooks := .later }
def PackMixesCardSaid : Prop := Claim7.holds Tryd.pinned (.plain (OpenSpec.ofChange packMixesSpec)) packMixesCard

/-- THE TIED CARD OF 'isthmuslaw01.PackApart'. -/
def packApartCard : Claim7 := { stood := { row := packApartRow, standIns := [], harness := (true, "53ab47eee160975a4671dca6c8c11d185b5d375f9b45f3ecb749396820e21f73"), looks := false }, kinds := [], alts := [], laidByText := true, laidKinds := [.data], laidTests := true, laidLooks := .later }
def PackApartCardSaid : Prop := Claim7.holds Tryd.pinned (.plain (OpenSpec.ofChange packApartSpec)) packApartCard

/-- THE TIED CARD OF 'isthmuslaw01.PackLengths'. -/
def packLengthsCard : Claim7 := { stood := { row := packLengthsRow, standIns := [], harness := (true, "53ab47eee160975a4671dca6c8c11d185b5d375f9b45f3ecb749396820e21f73"), looks := false }, kinds := [], alts := [], laidByText := true, laidKinds := [.data], laidTests := true, laidLooks := .later }
def PackLengthsCardSaid : Prop := Claim7.holds Tryd.pinned (.plain (OpenSpec.ofChange packLengthsSpec)) packLengthsCard

/-- THE TIED CARD OF 'isthmuslaw01.PackApartTexts'. -/
def packApartTextsCard : Claim7 := { stood := { row := packApartTextsRow, standIns := [], harness := (true, "53ab47eee160975a4671dca6c8c11d185b5d375f9b45f3ecb749396820e21f73"), looks := false }, kinds := [], alts := [], laidByText := true, laidKinds := [.data], laidTests := true, laidLooks := .later }
def PackApartTextsCardSaid : Prop := Claim7.holds Tryd.pinned (.plain (OpenSpec.ofChange packApartTextsSpec)) packApartTextsCard

/-- THE SECOND FORM's CARD OF 'isthmuslaw01.PackZigs'. -/
def packZigsUptoCard : Claim7 := { stood := { row := packZigsUptoRow, standIns := [], harness := (true, "53ab47eee160975a4671dca6c8c11d185b5d375f9b45f3ecb749396820e21f73"), looks := false }, kinds := [], alts := [], laidByText := true, laidKinds := [.data], laidTests := true, laidLooks := .later }
def PackZigsUptoCardSaid : Prop := Claim7.holds Tryd.pinned (.plain (OpenSpec.upto packZigsSpec)) packZigsUptoCard

/-- THE SECOND FORM's CARD OF 'isthmuslaw01.PackSevens'. -/
def packSevensUptoCard : Claim7 := { stood := { row := packSevensUptoRow, standIns := [], harness := (true, "53ab47eee160975a4671dca6c8c11d185b5d375f9b45f3ecb749396820e21f73"), looks := false }, kinds := [], alts := [], laidByText := true, laidKinds := [.data], laidTests := true, laidLooks := .later }
def PackSevensUptoCardSaid : Prop := Claim7.holds Tryd.pinned (.plain (OpenSpec.upto packSevensSpec)) packSevensUptoCard

/-- THE SECOND FORM's CARD OF 'isthmuslaw01.PackTakes'. -/
def packTakesUptoCard : Claim7 := { stood := { row := packTakesUptoRow, standIns := [], harness := (true, "53ab47eee160975a4671dca6c8c11d185b5d375f9b45f3ecb749396820e21f73"), looks := false }, kinds := [], alts := [], laidByText := true, laidKinds := [.data], laidTests := true, laidLooks := .later }
def PackTakesUptoCardSaid : Prop := Claim7.holds Tryd.pinned (.plain (OpenSpec.upto packTakesSpec)) packTakesUptoCard

/-- THE SECOND FORM's CARD OF 'isthmuslaw01.PackBack'. -/
def packBackUptoCard : Claim7 := { stood := { row := packBackUptoRow, standIns := [], harness := (true, "53ab47eee160975a4671dca6c8c11d185b5d375f9b45f3ecb749396820e21f73"), looks := false }, kinds := [], alts := [], laidByText := true, laidKinds := [.data], laidTests := true, laidLooks := .later }
def PackBackUptoCardSaid : Prop := Claim7.holds Tryd.pinned (.plain (OpenSpec.upto packBackSpec)) packBackUptoCard

/-- THE SECOND FORM's CARD OF 'isthmuslaw01.PackWords'. -/
def packWordsUptoCard : Claim7 := { stood := { row := packWordsUptoRow, standIns := [], harness := (true, "53ab47eee160975a4671dca6c8c11d185b5d375f9b45f3ecb749396820e21f73"), looks := false }, kinds := [], alts := [], laidByText := true, laidKinds := [.data], laidTests := true, laidLooks := .later }
def PackWordsUptoCardSaid : Prop := Claim7.holds Tryd.pinned (.plain (OpenSpec.upto packWordsSpec)) packWordsUptoCard

/-- THE SECOND FORM's CARD OF 'isthmuslaw01.PackMixes'. -/
def packMixesUptoCard : Claim7 := { stood := { row := packMixesUptoRow, standIns := [], harness := (true, "53ab47eee160975a4671dca6c8c11d185b5d375f9b45f3ecb749396820e21f73"), looks := false }, kinds := [], alts := [], laidByText := true, laidKinds := [.data], laidTests := true, laidLooks := .later }
def PackMixesUptoCardSaid : Prop := Claim7.holds Tryd.pinned (.plain (OpenSpec.upto packMixesSpec)) packMixesUptoCard

/-- THE SECOND FORM's CARD OF 'isthmuslaw01.PackApart'. -/
def packApartUptoCard : Claim7 := { stood := { row := packApartUptoRow, standIns := [], harness := (true, "53ab47eee160975a4671dca6c8c11d185b5d375f9b45f3ecb749396820e21f73"), looks := false }, kinds := [], alts := [], laidByText := true, laidKinds := [.data], laidTests := true, laidLooks := .later }
def PackApartUptoCardSaid : Prop := Claim7.holds Tryd.pinned (.plain (OpenSpec.upto packApartSpec)) packApartUptoCard

/-- THE SECOND FORM's CARD OF 'isthmuslaw01.PackLengths'. -/
def packLengthsUptoCard : Claim7 := { stood := { row := packLengthsUptoRow, standIns := [], harness := (true, "53ab47eee160975a4671dca6c8c11d185b5d375f9b45f3ecb749396820e21f73"), looks := false }, kinds := [], alts := [], laidByText := true, laidKinds := [.data], laidTests := true, laidLooks := .later }
def PackLengthsUptoCardSaid : Prop := Claim7.holds Tryd.pinned (.plain (OpenSpec.upto packLengthsSpec)) packLengthsUptoCard

/-- THE SECOND FORM's CARD OF 'isthmuslaw01.PackApartTexts'. -/
def packApartTextsUptoCard : Claim7 := { stood := { row := packApartTextsUptoRow, standIns := [], harness := (true, "53ab47eee160975a4671dca6c8c11d185b5d375f9b45f3ecb749396820e21f73"), looks := false }, kinds := [], alts := [], laidByText := true, laidKinds := [.data], laidTests := true, laidLooks := .later }
def PackApartTextsUptoCardSaid : Prop := Claim7.holds Tryd.pinned (.plain (OpenSpec.upto packApartTextsSpec)) packApartTextsUptoCard
end Rows
end Go.Proofs.YtkpdcmafpikhgaaDoor
