/-
  NARROWER THAN 'FOR EVERY INPUT', by the rows' own cells (each row's printed sentence says how): GuardLooks: laid · GuardWords: laid · GuardBounds: laid · GuardTakes: loops, laid · GuardCut: laid · GuardShifts: laid.
  DERIVED. THE GIVEN ROWS OF THIS SEAT. 6 by the template 'for every input the law returns true; each argument reads behind the call as it read before'; 0 by the template 'total and deterministic' (their statements: YtcmdjpolgaejoaaDoorTotals.lean).
  GIVEN WITH THE SEED: the statements are not yours to turn. If you find one false, say at which input.
  Laid BY PROGRAM, IN A SANDBOX (cutbox-rows.mjs): the forced cells as the released guide's own fill.sh prints them over the translation c03951e209747cee… (all of the seat's roots in one cut). By AI agents, Wed Nov 11 2026. No macro, syntax, notation, axiom, sorry.
-/
import Derived.Test.YtcmdjpolgaejoaaDoorChecked
import GoSem.Claim
import GoSem.ClaimJoined
import GoSem.ClaimMapViews
import Derived.JoinedTies
import Derived.KernelRfl
namespace Go.Proofs.YtcmdjpolgaejoaaDoor
/- THE CELL 'sum', in the pinned program and in every row, IS THE sha256 OF THE DUMP (.gsa) THAT YtcmdjpolgaejoaaDoorProg.lean LOADS. Nothing in Lean hashes anything: it is a label: what it is worth is what the hold of that sum in a sandbox is worth. -/
noncomputable def Tryd.pinned : Pinned := { name := "ytcmdjpolgaejoaadoor", sum := "c03951e209747ceeedb28f27cd13324094f1d48f6a8116603d7e8bd9232c4aec", checked := Tryd.checked }
namespace Rows
def none {H : Type} : Left H := { results := [], args := [] }

/- WHAT THE LISTED PACKAGE-LEVEL VARIABLES READ AS WHEN THE CALL BEGINS. Each datum BY PROGRAM (the guide's laid-datum.mjs) off the statement by which the dump's own 'gosem.cut.vars' lays the variable. In a bare row this is a premise. The card (YtcmdjpolgaejoaaDoorCards.lean) ties it to the program's text. -/
def laid_isthmus_pack_fields {H : Type} : DataW H := .agg [.agg [.lit (.int .u64 56), .lit (.int .u64 8)], .agg [.lit (.int .u64 28), .lit (.int .u64 28)], .agg [.lit (.int .u64 0), .lit (.int .u64 28)]]

/-- 'isthmuslaw20.GuardLooks': WHATEVER THE INPUT: true; the input reads as it did. -/
def guardLooksSpec : ChangeSpec := { name := "guardLooks", fn := fun _ => fun
  | [d] => { results := [.lit (.bool true)], args := [d] }
  | _ => none }
def guardLooksRow : OpenClaim := { program := "ytcmdjpolgaejoaadoor", sum := "c03951e209747ceeedb28f27cd13324094f1d48f6a8116603d7e8bd9232c4aec", func := "isthmus/isthmuslaw20.GuardLooks", spec := "guardLooks", inPlace := ["internal/bytealg.IndexByteString", "internal/bytealg.IndexString"], unfollowed := true, recurses := true, named := ["isthmus/pack.fields", "internal/bytealg.MaxLen"], apart := false, laid := [("isthmus/pack.fields", laid_isthmus_pack_fields)] }
def GuardLooksSaid : Prop := guardLooksRow.holds Tryd.pinned (OpenSpec.ofChange guardLooksSpec)

/-- ITS FALSE NEIGHBOUR: 'it returns false'. Refute it at one input. -/
def guardLooksWrong : ChangeSpec := { name := "guardLooks", fn := fun _ => fun
  | [d] => { results := [.lit (.bool false)], args := [d] }
  | _ => none }
def GuardLooksWrongFalsely : Prop := guardLooksRow.holds Tryd.pinned (OpenSpec.ofChange guardLooksWrong)

/-- 'isthmuslaw20.GuardWords': WHATEVER THE INPUT: true; the input reads as it did. -/
def guardWordsSpec : ChangeSpec := { name := "guardWords", fn := fun _ => fun
  | [d1, d2] => { results := [.lit (.bool true)], args := [d1, d2] }
  | _ => none }
def guardWordsRow : OpenClaim := { program := "ytcmdjpolgaejoaadoor", sum := "c03951e209747ceeedb28f27cd13324094f1d48f6a8116603d7e8bd9232c4aec", func := "isthmus/isthmuslaw20.GuardWords", spec := "guardWords", inPlace := ["internal/bytealg.IndexByteString", "internal/bytealg.IndexString"], unfollowed := true, recurses := true, named := ["isthmus/pack.fields", "internal/bytealg.MaxLen"], apart := false, laid := [("isthmus/pack.fields", laid_isthmus_pack_fields)] }
def GuardWordsSaid : Prop := guardWordsRow.holds Tryd.pinned (OpenSpec.ofChange guardWordsSpec)

/-- ITS FALSE NEIGHBOUR: 'it returns false'. Refute it at one input. -/
def guardWordsWrong : ChangeSpec := { name := "guardWords", fn := fun _ => fun
  | [d1, d2] => { results := [.lit (.bool false)], args := [d1, d2] }
  | _ => none }
def GuardWordsWrongFalsely : Prop := guardWordsRow.holds Tryd.pinned (OpenSpec.ofChange guardWordsWrong)

/-- 'isthmuslaw20.GuardBounds': WHATEVER THE INPUT: true; the input reads as it did. -/
def guardBoundsSpec : ChangeSpec := { name := "guardBounds", fn := fun _ => fun
  | [d1, d2, d3] => { results := [.lit (.bool true)], args := [d1, d2, d3] }
  | _ => none }
def guardBoundsRow : OpenClaim := { program := "ytcmdjpolgaejoaadoor", sum := "c03951e209747ceeedb28f27cd13324094f1d48f6a8116603d7e8bd9232c4aec", func := "isthmus/isthmuslaw20.GuardBounds", spec := "guardBounds", inPlace := ["internal/bytealg.IndexByteString", "internal/bytealg.IndexString"], unfollowed := true, recurses := true, named := ["isthmus/pack.fields", "internal/bytealg.MaxLen"], apart := false, laid := [("isthmus/pack.fields", laid_isthmus_pack_fields)] }
def GuardBoundsSaid : Prop := guardBoundsRow.holds Tryd.pinned (OpenSpec.ofChange guardBoundsSpec)

/-- ITS FALSE NEIGHBOUR: 'it returns false'. Refute it at one input. -/
def guardBoundsWrong : ChangeSpec := { name := "guardBounds", fn := fun _ => fun
  | [d1, d2, d3] => { results := [.lit (.bool false)], args := [d1, d2, d3] }
  | _ => none }
def GuardBoundsWrongFalsely : Prop := guardBoundsRow.holds Tryd.pinned (OpenSpec.ofChange guardBoundsWrong)

/-- 'isthmuslaw20.GuardTakes': WHATEVER THE INPUT: true; the input reads as it did. -/
def guardTakesSpec : ChangeSpec := { name := "guardTakes", fn := fun _ => fun
  | [d] => { results := [.lit (.bool true)], args := [d] }
  | _ => none }
def guardTakesRow : OpenClaim := { program := "ytcmdjpolgaejoaadoor", sum := "c03951e209747ceeedb28f27cd13324094f1d48f6a8116603d7e8bd9232c4aec", func := "isthmus/isthmuslaw20.GuardTakes", spec := "guardTakes", inPlace := ["internal/bytealg.IndexByteString", "internal/bytealg.IndexString"], unfollowed := true, recurses := true, named := ["isthmus/pack.fields", "internal/bytealg.MaxLen"], loops := true, apart := false, laid := [("isthmus/pack.fields", laid_isthmus_pack_fields)] }
def GuardTakesSaid : Prop := guardTakesRow.holds Tryd.pinned (OpenSpec.ofChange guardTakesSpec)

/-- ITS FALSE NEIGHBOUR: 'it returns false'. Refute it at one input. -/
def guardTakesWrong : ChangeSpec := { name := "guardTakes", fn := fun _ => fun
  | [d] => { results := [.lit (.bool false)], args := [d] }
  | _ => none }
def GuardTakesWrongFalsely : Prop := guardTakesRow.holds Tryd.pinned (OpenSpec.ofChange guardTakesWrong)

/-- 'isthmuslaw20.GuardCut': WHATEVER THE INPUT: true; the input reads as it did. -/
def guardCutSpec : ChangeSpec := { name := "guardCut", fn := fun _ => fun
  | [d1, d2, d3] => { results := [.lit (.bool true)], args := [d1, d2, d3] }
  | _ => none }
def guardCutRow : OpenClaim := { program := "ytcmdjpolgaejoaadoor", sum := "c03951e209747ceeedb28f27cd13324094f1d48f6a8116603d7e8bd9232c4aec", func := "isthmus/isthmuslaw20.GuardCut", spec := "guardCut", inPlace := ["internal/bytealg.IndexByteString", "internal/bytealg.IndexString"], unfollowed := true, recurses := true, named := ["isthmus/pack.fields", "internal/bytealg.MaxLen"], apart := false, laid := [("isthmus/pack.fields", laid_isthmus_pack_fields)] }
def GuardCutSaid : Prop := guardCutRow.holds Tryd.pinned (OpenSpec.ofChange guardCutSpec)

/-- ITS FALSE NEIGHBOUR: 'it returns false'. Refute it at one input. -/
def guardCutWrong : ChangeSpec := { name := "guardCut", fn := fun _ => fun
  | [d1, d2, d3] => { results := [.lit (.bool false)], args := [d1, d2, d3] }
  | _ => none }
def GuardCutWrongFalsely : Prop := guardCutRow.holds Tryd.pinned (OpenSpec.ofChange guardCutWrong)

/-- 'isthmuslaw20.GuardShifts': WHATEVER THE INPUT: true; the input reads as it did. -/
def guardShiftsSpec : ChangeSpec := { name := "guardShifts", fn := fun _ => fun
  | [d1, d2, d3] => { results := [.lit (.bool true)], args := [d1, d2, d3] }
  | _ => none }
def guardShiftsRow : OpenClaim := { program := "ytcmdjpolgaejoaadoor", sum := "c03951e209747ceeedb28f27cd13324094f1d48f6a8116603d7e8bd9232c4aec", func := "isthmus/isthmuslaw20.GuardShifts", spec := "guardShifts", inPlace := ["internal/bytealg.IndexByteString", "internal/bytealg.IndexString"], unfollowed := true, recurses := true, named := ["isthmus/pack.fields", "internal/bytealg.MaxLen"], apart := false, laid := [("isthmus/pack.fields", laid_isthmus_pack_fields)] }
def GuardShiftsSaid : Prop := guardShiftsRow.holds Tryd.pinned (OpenSpec.ofChange guardShiftsSpec)

/-- ITS FALSE NEIGHBOUR: 'it returns false'. Refute it at one input. -/
def guardShiftsWrong : ChangeSpec := { name := "guardShifts", fn := fun _ => fun
  | [d1, d2, d3] => { results := [.lit (.bool false)], args := [d1, d2, d3] }
  | _ => none }
def GuardShiftsWrongFalsely : Prop := guardShiftsRow.holds Tryd.pinned (OpenSpec.ofChange guardShiftsWrong)

/- THE SECOND FORM. 'bulk': how many values and letters a reading holds, each counted each time it is reached (what is shared counts as often as it is met; a slice's spare places count too). A statement '..UptoSaid' is the law's where the arguments, and the package variables that the reading takes, are together of bulk at most 1048576: NARROWER than '..Said'. Prove '..Said' where nothing that the law and all that it calls make is longer than what came in: it says more and counts as full. Else prove '..UptoSaid'. A law counts once. -/
mutual
def uptoBulk {H : Type} : DataW H → Nat
  | .lit (.string bytes) => bytes.length + 1
  | .lit _ => 1
  | .nil => 1
  | .ptr d => uptoBulk d + 1
  | .slice elems spare => uptoBulkAll elems + uptoBulkAll spare + 1
  | .agg parts => uptoBulkAll parts + 1
  | .iface _ d => uptoBulk d + 1
  | .map entries => uptoBulkEntries entries + 1
  | .held _ => 1
def uptoBulkAll {H : Type} : List (DataW H) → Nat
  | [] => 0
  | d :: r => uptoBulk d + uptoBulkAll r
def uptoBulkEntries {H : Type} : List (Lit × DataW H) → Nat
  | [] => 0
  | x :: r => uptoBulkEntry x + uptoBulkEntries r
def uptoBulkEntry {H : Type} : Lit × DataW H → Nat
  | (.string bytes, d) => bytes.length + uptoBulk d + 1
  | (_, d) => uptoBulk d + 1
 end
def uptoSmall : (H : Type) → List (DataW H) → Bool := fun _ ds => decide (uptoBulkAll ds ≤ 1048576)
def OpenSpec.upto (s : _root_.Go.ChangeSpec) : _root_.Go.OpenSpec := { _root_.Go.OpenSpec.ofChange s with cond := some uptoSmall }

/-- 'isthmuslaw20.GuardLooks', WHERE WHAT IT READS IS OF BULK AT MOST 1048576: true; the input reads as it did. -/
def guardLooksUptoRow : OpenClaim := { program := "ytcmdjpolgaejoaadoor", sum := "c03951e209747ceeedb28f27cd13324094f1d48f6a8116603d7e8bd9232c4aec", func := "isthmus/isthmuslaw20.GuardLooks", spec := "guardLooks", inPlace := ["internal/bytealg.IndexByteString", "internal/bytealg.IndexString"], unfollowed := true, recurses := true, named := ["isthmus/pack.fields", "internal/bytealg.MaxLen"], apart := false, laid := [("isthmus/pack.fields", laid_isthmus_pack_fields)], narrowed := true }
def GuardLooksUptoSaid : Prop := guardLooksUptoRow.holds Tryd.pinned (OpenSpec.upto guardLooksSpec)

/-- 'isthmuslaw20.GuardWords', WHERE WHAT IT READS IS OF BULK AT MOST 1048576: true; the input reads as it did. -/
def guardWordsUptoRow : OpenClaim := { program := "ytcmdjpolgaejoaadoor", sum := "c03951e209747ceeedb28f27cd13324094f1d48f6a8116603d7e8bd9232c4aec", func := "isthmus/isthmuslaw20.GuardWords", spec := "guardWords", inPlace := ["internal/bytealg.IndexByteString", "internal/bytealg.IndexString"], unfollowed := true, recurses := true, named := ["isthmus/pack.fields", "internal/bytealg.MaxLen"], apart := false, laid := [("isthmus/pack.fields", laid_isthmus_pack_fields)], narrowed := true }
def GuardWordsUptoSaid : Prop := guardWordsUptoRow.holds Tryd.pinned (OpenSpec.upto guardWordsSpec)

/-- 'isthmuslaw20.GuardBounds', WHERE WHAT IT READS IS OF BULK AT MOST 1048576: true; the input reads as it did. -/
def guardBoundsUptoRow : OpenClaim := { program := "ytcmdjpolgaejoaadoor", sum := "c03951e209747ceeedb28f27cd13324094f1d48f6a8116603d7e8bd9232c4aec", func := "isthmus/isthmuslaw20.GuardBounds", spec := "guardBounds", inPlace := ["internal/bytealg.IndexByteString", "internal/bytealg.IndexString"], unfollowed := true, recurses := true, named := ["isthmus/pack.fields", "internal/bytealg.MaxLen"], apart := false, laid := [("isthmus/pack.fields", laid_isthmus_pack_fields)], narrowed := true }
def GuardBoundsUptoSaid : Prop := guardBoundsUptoRow.holds Tryd.pinned (OpenSpec.upto guardBoundsSpec)

/-- 'isthmuslaw20.GuardTakes', WHERE WHAT IT READS IS OF BULK AT MOST 1048576: true; the input reads as it did. -/
def guardTakesUptoRow : OpenClaim := { program := "ytcmdjpolgaejoaadoor", sum := "c03951e209747ceeedb28f27cd13324094f1d48f6a8116603d7e8bd9232c4aec", func := "isthmus/isthmuslaw20.GuardTakes", spec := "guardTakes", inPlace := ["internal/bytealg.IndexByteString", "internal/bytealg.IndexString"], unfollowed := true, recurses := true, named := ["isthmus/pack.fields", "internal/bytealg.MaxLen"], loops := true, apart := false, laid := [("isthmus/pack.fields", laid_isthmus_pack_fields)], narrowed := true }
def GuardTakesUptoSaid : Prop := guardTakesUptoRow.holds Tryd.pinned (OpenSpec.upto guardTakesSpec)

/-- 'isthmuslaw20.GuardCut', WHERE WHAT IT READS IS OF BULK AT MOST 1048576: true; the input reads as it did. -/
def guardCutUptoRow : OpenClaim := { program := "ytcmdjpolgaejoaadoor", sum := "c03951e209747ceeedb28f27cd13324094f1d48f6a8116603d7e8bd9232c4aec", func := "isthmus/isthmuslaw20.GuardCut", spec := "guardCut", inPlace := ["internal/bytealg.IndexByteString", "internal/bytealg.IndexString"], unfollowed := true, recurses := true, named := ["isthmus/pack.fields", "internal/bytealg.MaxLen"], apart := false, laid := [("isthmus/pack.fields", laid_isthmus_pack_fields)], narrowed := true }
def GuardCutUptoSaid : Prop := guardCutUptoRow.holds Tryd.pinned (OpenSpec.upto guardCutSpec)

/-- 'isthmuslaw20.GuardShifts', WHERE WHAT IT READS IS OF BULK AT MOST 1048576: true; the input reads as it did. -/
def guardShiftsUptoRow : OpenClaim := { program := "ytcmdjpolgaejoaadoor", sum := "c03951e209747ceeedb28f27cd13324094f1d48f6a8116603d7e8bd9232c4aec", func := "isthmus/isthmuslaw20.GuardShifts", spec := "guardShifts", inPlace := ["internal/bytealg.IndexByteString", "internal/bytealg.IndexString"], unfollowed := true, recurses := true, named := ["isthmus/pack.fields", "internal/bytealg.MaxLen"], apart := false, laid := [("isthmus/pack.fields", laid_isthmus_pack_fields)], narrowed := true }
def GuardShiftsUptoSaid : Prop := guardShiftsUptoRow.holds Tryd.pinned (OpenSpec.upto guardShiftsSpec)

end Rows
end Go.Proofs.YtcmdjpolgaejoaaDoor
