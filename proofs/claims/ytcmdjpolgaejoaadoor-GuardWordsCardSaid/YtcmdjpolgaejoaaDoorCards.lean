/-
  DERIVED. GIVEN WITH THE SEED: THE CARDS: each row of YtcmdjpolgaejoaaDoorRows.lean that lists a variable, with what it lists TIED to the program's text (the seventh form; the later family's looks); each row that meets fmt, with fmt's text TOLD by the authors' own Lean function (tested against real Go, not proved from fmt's source: count such statements apart). THE CARD IS WHAT COUNTS. Prove the row's statement (the work); the ties are given (YtcmdjpolgaejoaaDoorTie.lean); close each card by the builder's one call (the guide's Derived/Test/ToyasCard.lean, 'card_holds'). Laid BY PROGRAM, IN A SANDBOX (cutbox-door.mjs). By AI agents, Wed Nov 11 2026. No macro, syntax, notation, axiom, sorry.
-/
import Derived.Test.YtcmdjpolgaejoaaDoorRows
import GoSem.ClaimSeven
namespace Go.Proofs.YtcmdjpolgaejoaaDoor
namespace Rows

/-- THE TIED CARD OF 'isthmuslaw20.GuardLooks'. -/
def guardLooksCard : Claim7 := { stood := { row := guardLooksRow, standIns := [], harness := (true, "7eeb5ad9bb1a349b369487b0bb13a40dee03df188080a4f05619760ca2dbb98c"), looks := true }, kinds := [], alts := [], laidByText := true, laidKinds := [.data], laidTests := true, laidLooks := .later }
def GuardLooksCardSaid : Prop := Claim7.holds Tryd.pinned (.plain (OpenSpec.ofChange guardLooksSpec)) guardLooksCard

/-- THE TIED CARD OF 'isthmuslaw20.GuardWords'. -/
def guardWordsCard : Claim7 := { stood := { row := guardWordsRow, standIns := [], harness := (true, "7eeb5ad9bb1a349b369487b0bb13a40dee03df188080a4f05619760ca2dbb98c"), looks := true }, kinds := [], alts := [], laidByText := true, laidKinds := [.data], laidTests := true, laidLooks := .later }
def GuardWordsCardSaid : Prop := Claim7.holds Tryd.pinned (.plain (OpenSpec.ofChange guardWordsSpec)) guardWordsCard

/-- THE TIED CARD OF 'isthmuslaw20.GuardBounds'. -/
def guardBoundsCard : Claim7 := { stood := { row := guardBoundsRow, standIns := [], harness := (true, "7eeb5ad9bb1a349b369487b0bb13a40dee03df188080a4f05619760ca2dbb98c"), looks := true }, kinds := [], alts := [], laidByText := true, laidKinds := [.data], laidTests := true, laidLooks := .later }
def GuardBoundsCardSaid : Prop := Claim7.holds Tryd.pinned (.plain (OpenSpec.ofChange guardBoundsSpec)) guardBoundsCard

/-- THE TIED CARD OF 'isthmuslaw20.GuardTakes'. -/
def guardTakesCard : Claim7 := { stood := { row := guardTakesRow, standIns := [], harness := (true, "7eeb5ad9bb1a349b369487b0bb13a40dee03df188080a4f05619760ca2dbb98c"), looks := true }, kinds := [], alts := [], laidByText := true, laidKinds := [.data], laidTests := true, laidLooks := .later }
def GuardTakesCardSaid : Prop := Claim7.holds Tryd.pinned (.plain (OpenSpec.ofChange guardTakesSpec)) guardTakesCard

/-- THE TIED CARD OF 'isthmuslaw20.GuardCut'. -/
def guardCutCard : Claim7 := { stood := { row := guardCutRow, standIns := [], harness := (true, "7eeb5ad9bb1a349b369487b0bb13a40dee03df188080a4f05619760ca2dbb98c"), looks := true }, kinds := [], alts := [], laidByText := true, laidKinds := [.data], laidTests := true, laidLooks := .later }
def GuardCutCardSaid : Prop := Claim7.holds Tryd.pinned (.plain (OpenSpec.ofChange guardCutSpec)) guardCutCard

/-- THE TIED CARD OF 'isthmuslaw20.GuardShifts'. -/
def guardShiftsCard : Claim7 := { stood := { row := guardShiftsRow, standIns := [], harness := (true, "7eeb5ad9bb1a349b369487b0bb13a40dee03df188080a4f05619760ca2dbb98c"), looks := true }, kinds := [], alts := [], laidByText := true, laidKinds := [.data], laidTests := true, laidLooks := .later }
def GuardShiftsCardSaid : Prop := Claim7.holds Tryd.pinned (.plain (OpenSpec.ofChange guardShiftsSpec)) guardShiftsCard

/-- THE SECOND FORM's CARD OF 'isthmuslaw20.GuardLooks'. -/
def guardLooksUptoCard : Claim7 := { stood := { row := guardLooksUptoRow, standIns := [], harness := (true, "7eeb5ad9bb1a349b369487b0bb13a40dee03df188080a4f05619760ca2dbb98c"), looks := true }, kinds := [], alts := [], laidByText := true, laidKinds := [.data], laidTests := true, laidLooks := .later }
def GuardLooksUptoCardSaid : Prop := Claim7.holds Tryd.pinned (.plain (OpenSpec.upto guardLooksSpec)) guardLooksUptoCard

/-- THE SECOND FORM's CARD OF 'isthmuslaw20.GuardWords'. -/
def guardWordsUptoCard : Claim7 := { stood := { row := guardWordsUptoRow, standIns := [], harness := (true, "7eeb5ad9bb1a349b369487b0bb13a40dee03df188080a4f05619760ca2dbb98c"), looks := true }, kinds := [], alts := [], laidByText := true, laidKinds := [.data], laidTests := true, laidLooks := .later }
def GuardWordsUptoCardSaid : Prop := Claim7.holds Tryd.pinned (.plain (OpenSpec.upto guardWordsSpec)) guardWordsUptoCard

/-- THE SECOND FORM's CARD OF 'isthmuslaw20.GuardBounds'. -/
def guardBoundsUptoCard : Claim7 := { stood := { row := guardBoundsUptoRow, standIns := [], harness := (true, "7eeb5ad9bb1a349b369487b0bb13a40dee03df188080a4f05619760ca2dbb98c"), looks := true }, kinds := [], alts := [], laidByText := true, laidKinds := [.data], laidTests := true, laidLooks := .later }
def GuardBoundsUptoCardSaid : Prop := Claim7.holds Tryd.pinned (.plain (OpenSpec.upto guardBoundsSpec)) guardBoundsUptoCard

/-- THE SECOND FORM's CARD OF 'isthmuslaw20.GuardTakes'. -/
def guardTakesUptoCard : Claim7 := { stood := { row := guardTakesUptoRow, standIns := [], harness := (true, "7eeb5ad9bb1a349b369487b0bb13a40dee03df188080a4f05619760ca2dbb98c"), looks := true }, kinds := [], alts := [], laidByText := true, laidKinds := [.data], laidTests := true, laidLooks := .later }
def GuardTakesUptoCardSaid : Prop := Claim7.holds Tryd.pinned (.plain (OpenSpec.upto guardTakesSpec)) guardTakesUptoCard

/-- THE SECOND FORM's CARD OF 'isthmuslaw20.GuardCut'. -/
def guardCutUptoCard : Claim7 := { stood := { row := guardCutUptoRow, standIns := [], harness := (true, "7eeb5ad9bb1a349b369487b0bb13a40dee03df188080a4f05619760ca2dbb98c"), looks := true }, kinds := [], alts := [], laidByText := true, laidKinds := [.data], laidTests := true, laidLooks := .later }
def GuardCutUptoCardSaid : Prop := Claim7.holds Tryd.pinned (.plain (OpenSpec.upto guardCutSpec)) guardCutUptoCard

/-- THE SECOND FORM's CARD OF 'isthmuslaw20.GuardShifts'. -/
def guardShiftsUptoCard : Claim7 := { stood := { row := guardShiftsUptoRow, standIns := [], harness := (true, "7eeb5ad9bb1a349b369487b0bb13a40dee03df188080a4f05619760ca2dbb98c"), looks := true }, kinds := [], alts := [], laidByText := true, laidKinds := [.data], laidTests := true, laidLooks := .later }
def GuardShiftsUptoCardSaid : Prop := Claim7.holds Tryd.pinned (.plain (OpenSpec.upto guardShiftsSpec)) guardShiftsUptoCard
end Rows
end Go.Proofs.YtcmdjpolgaejoaaDoor
