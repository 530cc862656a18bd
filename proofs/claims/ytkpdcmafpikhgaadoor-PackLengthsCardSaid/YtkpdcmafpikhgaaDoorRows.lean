/-
  NARROWER THAN 'FOR EVERY INPUT', by the rows' own cells (each row's printed sentence says how): PackZigs: laid · PackSevens: laid · PackTakes: laid · PackBack: laid · PackWords: laid · PackMixes: laid · PackApart: laid · PackLengths: laid · PackApartTexts: laid.
  DERIVED. THE GIVEN ROWS OF THIS SEAT. 9 by the template 'for every input the law returns true; each argument reads behind the call as it read before'; 0 by the template 'total and deterministic' (their statements: YtkpdcmafpikhgaaDoorTotals.lean).
  GIVEN WITH THE SEED: the statements are not yours to turn. If you find one false, say at which input.
  Laid BY PROGRAM, IN A SANDBOX (cutbox-rows.mjs): the forced cells as the released guide's own fill.sh prints them over the translation 6fb30d8e28f75208… (all of the seat's roots in one cut). By AI agents, Wed Nov 11 2026. No macro, syntax, notation, axiom, sorry.
-/
import Derived.Test.YtkpdcmafpikhgaaDoorChecked
import GoSem.Claim
import GoSem.ClaimJoined
import GoSem.ClaimMapViews
import Derived.JoinedTies
import Derived.KernelRfl
namespace Go.Proofs.YtkpdcmafpikhgaaDoor
/- THE CELL 'sum', in the pinned program and in every row, IS THE sha256 OF THE DUMP (.gsa) THAT YtkpdcmafpikhgaaDoorProg.lean LOADS. Nothing in Lean hashes anything: it is a label: what it is worth is what the hold of that sum in a sandbox is worth. -/
noncomputable def Tryd.pinned : Pinned := { name := "ytkpdcmafpikhgaadoor", sum := "6fb30d8e28f752089a42b7e867f259d13e6d027e1630425a72bbdf2528ed7285", checked := Tryd.checked }
namespace Rows
def none {H : Type} : Left H := { results := [], args := [] }

/- WHAT THE LISTED PACKAGE-LEVEL VARIABLES READ AS WHEN THE CALL BEGINS. Each datum BY PROGRAM (the guide's laid-datum.mjs) off the statement by which the dump's own 'gosem.cut.vars' lays the variable. In a bare row this is a premise. The card (YtkpdcmafpikhgaaDoorCards.lean) ties it to the program's text. -/
def laid_isthmus_pack_fields {H : Type} : DataW H := .agg [.agg [.lit (.int .u64 56), .lit (.int .u64 8)], .agg [.lit (.int .u64 28), .lit (.int .u64 28)], .agg [.lit (.int .u64 0), .lit (.int .u64 28)]]

/-- 'isthmuslaw01.PackZigs': WHATEVER THE INPUT: true; the input reads as it did. -/
def packZigsSpec : ChangeSpec := { name := "packZigs", fn := fun _ => fun
  | [d1, d2] => { results := [.lit (.bool true)], args := [d1, d2] }
  | _ => none }
def packZigsRow : OpenClaim := { program := "ytkpdcmafpikhgaadoor", sum := "6fb30d8e28f752089a42b7e867f259d13e6d027e1630425a72bbdf2528ed7285", func := "isthmus/isthmuslaw01.PackZigs", spec := "packZigs", named := ["isthmus/pack.fields"], apart := false, laid := [("isthmus/pack.fields", laid_isthmus_pack_fields)] }
def PackZigsSaid : Prop := packZigsRow.holds Tryd.pinned (OpenSpec.ofChange packZigsSpec)

/-- ITS FALSE NEIGHBOUR: 'it returns false'. Refute it at one input. -/
def packZigsWrong : ChangeSpec := { name := "packZigs", fn := fun _ => fun
  | [d1, d2] => { results := [.lit (.bool false)], args := [d1, d2] }
  | _ => none }
def PackZigsWrongFalsely : Prop := packZigsRow.holds Tryd.pinned (OpenSpec.ofChange packZigsWrong)

/-- 'isthmuslaw01.PackSevens': WHATEVER THE INPUT: true; the input reads as it did. -/
def packSevensSpec : ChangeSpec := { name := "packSevens", fn := fun _ => fun
  | [d1, d2] => { results := [.lit (.bool true)], args := [d1, d2] }
  | _ => none }
def packSevensRow : OpenClaim := { program := "ytkpdcmafpikhgaadoor", sum := "6fb30d8e28f752089a42b7e867f259d13e6d027e1630425a72bbdf2528ed7285", func := "isthmus/isthmuslaw01.PackSevens", spec := "packSevens", named := ["isthmus/pack.fields"], apart := false, laid := [("isthmus/pack.fields", laid_isthmus_pack_fields)] }
def PackSevensSaid : Prop := packSevensRow.holds Tryd.pinned (OpenSpec.ofChange packSevensSpec)

/-- ITS FALSE NEIGHBOUR: 'it returns false'. Refute it at one input. -/
def packSevensWrong : ChangeSpec := { name := "packSevens", fn := fun _ => fun
  | [d1, d2] => { results := [.lit (.bool false)], args := [d1, d2] }
  | _ => none }
def PackSevensWrongFalsely : Prop := packSevensRow.holds Tryd.pinned (OpenSpec.ofChange packSevensWrong)

/-- 'isthmuslaw01.PackTakes': WHATEVER THE INPUT: true; the input reads as it did. -/
def packTakesSpec : ChangeSpec := { name := "packTakes", fn := fun _ => fun
  | [d] => { results := [.lit (.bool true)], args := [d] }
  | _ => none }
def packTakesRow : OpenClaim := { program := "ytkpdcmafpikhgaadoor", sum := "6fb30d8e28f752089a42b7e867f259d13e6d027e1630425a72bbdf2528ed7285", func := "isthmus/isthmuslaw01.PackTakes", spec := "packTakes", named := ["isthmus/pack.fields"], apart := false, laid := [("isthmus/pack.fields", laid_isthmus_pack_fields)] }
def PackTakesSaid : Prop := packTakesRow.holds Tryd.pinned (OpenSpec.ofChange packTakesSpec)

/-- ITS FALSE NEIGHBOUR: 'it returns false'. Refute it at one input. -/
def packTakesWrong : ChangeSpec := { name := "packTakes", fn := fun _ => fun
  | [d] => { results := [.lit (.bool false)], args := [d] }
  | _ => none }
def PackTakesWrongFalsely : Prop := packTakesRow.holds Tryd.pinned (OpenSpec.ofChange packTakesWrong)

/-- 'isthmuslaw01.PackBack': WHATEVER THE INPUT: true; the input reads as it did. -/
def packBackSpec : ChangeSpec := { name := "packBack", fn := fun _ => fun
  | [d] => { results := [.lit (.bool true)], args := [d] }
  | _ => none }
def packBackRow : OpenClaim := { program := "ytkpdcmafpikhgaadoor", sum := "6fb30d8e28f752089a42b7e867f259d13e6d027e1630425a72bbdf2528ed7285", func := "isthmus/isthmuslaw01.PackBack", spec := "packBack", named := ["isthmus/pack.fields"], apart := false, laid := [("isthmus/pack.fields", laid_isthmus_pack_fields)] }
def PackBackSaid : Prop := packBackRow.holds Tryd.pinned (OpenSpec.ofChange packBackSpec)

/-- ITS FALSE NEIGHBOUR: 'it returns false'. Refute it at one input. -/
def packBackWrong : ChangeSpec := { name := "packBack", fn := fun _ => fun
  | [d] => { results := [.lit (.bool false)], args := [d] }
  | _ => none }
def PackBackWrongFalsely : Prop := packBackRow.holds Tryd.pinned (OpenSpec.ofChange packBackWrong)

/-- 'isthmuslaw01.PackWords': WHATEVER THE INPUT: true; the input reads as it did. -/
def packWordsSpec : ChangeSpec := { name := "packWords", fn := fun _ => fun
  | [d1, d2, d3, d4] => { results := [.lit (.bool true)], args := [d1, d2, d3, d4] }
  | _ => none }
def packWordsRow : OpenClaim := { program := "ytkpdcmafpikhgaadoor", sum := "6fb30d8e28f752089a42b7e867f259d13e6d027e1630425a72bbdf2528ed7285", func := "isthmus/isthmuslaw01.PackWords", spec := "packWords", named := ["isthmus/pack.fields"], apart := false, laid := [("isthmus/pack.fields", laid_isthmus_pack_fields)] }
def PackWordsSaid : Prop := packWordsRow.holds Tryd.pinned (OpenSpec.ofChange packWordsSpec)

/-- ITS FALSE NEIGHBOUR: 'it returns false'. Refute it at one input. -/
def packWordsWrong : ChangeSpec := { name := "packWords", fn := fun _ => fun
  | [d1, d2, d3, d4] => { results := [.lit (.bool false)], args := [d1, d2, d3, d4] }
  | _ => none }
def PackWordsWrongFalsely : Prop := packWordsRow.holds Tryd.pinned (OpenSpec.ofChange packWordsWrong)

/-- 'isthmuslaw01.PackMixes': WHATEVER THE INPUT: true; the input reads as it did. -/
def packMixesSpec : ChangeSpec := { name := "packMixes", fn := fun _ => fun
  | [d1, d2] => { results := [.lit (.bool true)], args := [d1, d2] }
  | _ => none }
def packMixesRow : OpenClaim := { program := "ytkpdcmafpikhgaadoor", sum := "6fb30d8e28f752089a42b7e867f259d13e6d027e1630425a72bbdf2528ed7285", func := "isthmus/isthmuslaw01.PackMixes", spec := "packMixes", named := ["isthmus/pack.fields"], apart := false, laid := [("isthmus/pack.fields", laid_isthmus_pack_fields)] }
def PackMixesSaid : Prop := packMixesRow.holds Tryd.pinned (OpenSpec.ofChange packMixesSpec)

/-- ITS FALSE NEIGHBOUR: 'it returns false'. Refute it at one input. -/
def packMixesWrong : ChangeSpec := { name := "packMixes", fn := fun _ => fun
  | [d1, d2] => { results := [.lit (.bool false)], args := [d1, d2] }
  | _ => none }
def PackMixesWrongFalsely : Prop := packMixesRow.holds Tryd.pinned (OpenSpec.ofChange packMixesWrong)

/-- 'isthmuslaw01.PackApart': WHATEVER THE INPUT: true; the input reads as it did. -/
def packApartSpec : ChangeSpec := { name := "packApart", fn := fun _ => fun
  | [d1, d2, d3, d4] => { results := [.lit (.bool true)], args := [d1, d2, d3, d4] }
  | _ => none }
def packApartRow : OpenClaim := { program := "ytkpdcmafpikhgaadoor", sum := "6fb30d8e28f752089a42b7e867f259d13e6d027e1630425a72bbdf2528ed7285", func := "isthmus/isthmuslaw01.PackApart", spec := "packApart", named := ["isthmus/pack.fields"], apart := false, laid := [("isthmus/pack.fields", laid_isthmus_pack_fields)] }
def PackApartSaid : Prop := packApartRow.holds Tryd.pinned (OpenSpec.ofChange packApartSpec)

/-- ITS FALSE NEIGHBOUR: 'it returns false'. Refute it at one input. -/
def packApartWrong : ChangeSpec := { name := "packApart", fn := fun _ => fun
  | [d1, d2, d3, d4] => { results := [.lit (.bool false)], args := [d1, d2, d3, d4] }
  | _ => none }
def PackApartWrongFalsely : Prop := packApartRow.holds Tryd.pinned (OpenSpec.ofChange packApartWrong)

/-- 'isthmuslaw01.PackLengths': WHATEVER THE INPUT: true; the input reads as it did. -/
def packLengthsSpec : ChangeSpec := { name := "packLengths", fn := fun _ => fun
  | [d1, d2] => { results := [.lit (.bool true)], args := [d1, d2] }
  | _ => none }
def packLengthsRow : OpenClaim := { program := "ytkpdcmafpikhgaadoor", sum := "6fb30d8e28f752089a42b7e867f259d13e6d027e1630425a72bbdf2528ed7285", func := "isthmus/isthmuslaw01.PackLengths", spec := "packLengths", named := ["isthmus/pack.fields"], apart := false, laid := [("isthmus/pack.fields", laid_isthmus_pack_fields)] }
def PackLengthsSaid : Prop := packLengthsRow.holds Tryd.pinned (OpenSpec.ofChange packLengthsSpec)

/-- ITS FALSE NEIGHBOUR: 'it returns false'. Refute it at one input. -/
def packLengthsWrong : ChangeSpec := { name := "packLengths", fn := fun _ => fun
  | [d1, d2] => { results := [.lit (.bool false)], args := [d1, d2] }
  | _ => none }
def PackLengthsWrongFalsely : Prop := packLengthsRow.holds Tryd.pinned (OpenSpec.ofChange packLengthsWrong)

/-- 'isthmuslaw01.PackApartTexts': WHATEVER THE INPUT: true; the input reads as it did. -/
def packApartTextsSpec : ChangeSpec := { name := "packApartTexts", fn := fun _ => fun
  | [d1, d2] => { results := [.lit (.bool true)], args := [d1, d2] }
  | _ => none }
def packApartTextsRow : OpenClaim := { program := "ytkpdcmafpikhgaadoor", sum := "6fb30d8e28f752089a42b7e867f259d13e6d027e1630425a72bbdf2528ed7285", func := "isthmus/isthmuslaw01.PackApartTexts", spec := "packApartTexts", named := ["isthmus/pack.fields"], apart := false, laid := [("isthmus/pack.fields", laid_isthmus_pack_fields)] }
def PackApartTextsSaid : Prop := packApartTextsRow.holds Tryd.pinned (OpenSpec.ofChange packApartTextsSpec)

/-- ITS FALSE NEIGHBOUR: 'it returns false'. Refute it at one input. -/
def packApartTextsWrong : ChangeSpec := { name := "packApartTexts", fn := fun _ => fun
  | [d1, d2] => { results := [.lit (.bool false)], args := [d1, d2] }
  | _ => none }
def PackApartTextsWrongFalsely : Prop := packApartTextsRow.holds Tryd.pinned (OpenSpec.ofChange packApartTextsWrong)

/- THE SECOND FORM. 'bulk': how many values and letters a reading holds, each counted each time it is reached (what is shared counts as often as it is met; a slice's spare places count too). A statement '..UptoSaid' is the law's where the arguments, and the package variables that the reading takes, are together of bulk at most 1048576: NARROWER than '..Said'. Prove '..Said' where nothing that the law and all that it calls make is longer than what came in: it says more and counts as full. Else prove '..UptoSaid'. A law counts once. -/
mutual
def uptoBulk {H : Type} : DataW H → Nat
  | .lit (.string bytes) => bytes.length + 1
  | .lit _ => 1
  | .nil => 1
  | .ptr d => uptoBulk d + 1
  | .slice elems spare => uptoBulkAll elems + uptoBulkAll spare + 1
  | .agg parts => uptoBulkAll parts + 1
  | .iface _ d => uptoBulk d + 1
  | .map entries => uptoBulkEntries entries + 1
  | .held _ => 1
def uptoBulkAll {H : Type} : List (DataW H) → Nat
  | [] => 0
  | d :: r => uptoBulk d + uptoBulkAll r
def uptoBulkEntries {H : Type} : List (Lit × DataW H) → Nat
  | [] => 0
  | x :: r => uptoBulkEntry x + uptoBulkEntries r
def uptoBulkEntry {H : Type} : Lit × DataW H → Nat
  | (.string bytes, d) => bytes.length + uptoBulk d + 1
  | (_, d) => uptoBulk d + 1
 end
def uptoSmall : (H : Type) → List (DataW H) → Bool := fun _ ds => decide (uptoBulkAll ds ≤ 1048576)
def OpenSpec.upto (s : _root_.Go.ChangeSpec) : _root_.Go.OpenSpec := { _root_.Go.OpenSpec.ofChange s with cond := some uptoSmall }

/-- 'isthmuslaw01.PackZigs', WHERE WHAT IT READS IS OF BULK AT MOST 1048576: true; the input reads as it did. -/
def packZigsUptoRow : OpenClaim := { program := "ytkpdcmafpikhgaadoor", sum := "6fb30d8e28f752089a42b7e867f259d13e6d027e1630425a72bbdf2528ed7285", func := "isthmus/isthmuslaw01.PackZigs", spec := "packZigs", named := ["isthmus/pack.fields"], apart := false, laid := [("isthmus/pack.fields", laid_isthmus_pack_fields)], narrowed := true }
def PackZigsUptoSaid : Prop := packZigsUptoRow.holds Tryd.pinned (OpenSpec.upto packZigsSpec)

/-- 'isthmuslaw01.PackSevens', WHERE WHAT IT READS IS OF BULK AT MOST 1048576: true; the input reads as it did. -/
def packSevensUptoRow : OpenClaim := { program := "ytkpdcmafpikhgaadoor", sum := "6fb30d8e28f752089a42b7e867f259d13e6d027e1630425a72bbdf2528ed7285", func := "isthmus/isthmuslaw01.PackSevens", spec := "packSevens", named := ["isthmus/pack.fields"], apart := false, laid := [("isthmus/pack.fields", laid_isthmus_pack_fields)], narrowed := true }
def PackSevensUptoSaid : Prop := packSevensUptoRow.holds Tryd.pinned (OpenSpec.upto packSevensSpec)

/-- 'isthmuslaw01.PackTakes', WHERE WHAT IT READS IS OF BULK AT MOST 1048576: true; the input reads as it did. -/
def packTakesUptoRow : OpenClaim := { program := "ytkpdcmafpikhgaadoor", sum := "6fb30d8e28f752089a42b7e867f259d13e6d027e1630425a72bbdf2528ed7285", func := "isthmus/isthmuslaw01.PackTakes", spec := "packTakes", named := ["isthmus/pack.fields"], apart := false, laid := [("isthmus/pack.fields", laid_isthmus_pack_fields)], narrowed := true }
def PackTakesUptoSaid : Prop := packTakesUptoRow.holds Tryd.pinned (OpenSpec.upto packTakesSpec)

/-- 'isthmuslaw01.PackBack', WHERE WHAT IT READS IS OF BULK AT MOST 1048576: true; the input reads as it did. -/
def packBackUptoRow : OpenClaim := { program := "ytkpdcmafpikhgaadoor", sum := "6fb30d8e28f752089a42b7e867f259d13e6d027e1630425a72bbdf2528ed7285", func := "isthmus/isthmuslaw01.PackBack", spec := "packBack", named := ["isthmus/pack.fields"], apart := false, laid := [("isthmus/pack.fields", laid_isthmus_pack_fields)], narrowed := true }
def PackBackUptoSaid : Prop := packBackUptoRow.holds Tryd.pinned (OpenSpec.upto packBackSpec)

/-- 'isthmuslaw01.PackWords', WHERE WHAT IT READS IS OF BULK AT MOST 1048576: true; the input reads as it did. -/
def packWordsUptoRow : OpenClaim := { program := "ytkpdcmafpikhgaadoor", sum := "6fb30d8e28f752089a42b7e867f259d13e6d027e1630425a72bbdf2528ed7285", func := "isthmus/isthmuslaw01.PackWords", spec := "packWords", named := ["isthmus/pack.fields"], apart := false, laid := [("isthmus/pack.fields", laid_isthmus_pack_fields)], narrowed := true }
def PackWordsUptoSaid : Prop := packWordsUptoRow.holds Tryd.pinned (OpenSpec.upto packWordsSpec)

/-- 'isthmuslaw01.PackMixes', WHERE WHAT IT READS IS OF BULK AT MOST 1048576: true; the input reads as it did. -/
def packMixesUptoRow : OpenClaim := { program := "ytkpdcmafpikhgaadoor", sum := "6fb30d8e28f752089a42b7e867f259d13e6d027e1630425a72bbdf2528ed7285", func := "isthmus/isthmuslaw01.PackMixes", spec := "packMixes", named := ["isthmus/pack.fields"], apart := false, laid := [("isthmus/pack.fields", laid_isthmus_pack_fields)], narrowed := true }
def PackMixesUptoSaid : Prop := packMixesUptoRow.holds Tryd.pinned (OpenSpec.upto packMixesSpec)

/-- 'isthmuslaw01.PackApart', WHERE WHAT IT READS IS OF BULK AT MOST 1048576: true; the input reads as it did. -/
def packApartUptoRow : OpenClaim := { program := "ytkpdcmafpikhgaadoor", sum := "6fb30d8e28f752089a42b7e867f259d13e6d027e1630425a72bbdf2528ed7285", func := "isthmus/isthmuslaw01.PackApart", spec := "packApart", named := ["isthmus/pack.fields"], apart := false, laid := [("isthmus/pack.fields", laid_isthmus_pack_fields)], narrowed := true }
def PackApartUptoSaid : Prop := packApartUptoRow.holds Tryd.pinned (OpenSpec.upto packApartSpec)

/-- 'isthmuslaw01.PackLengths', WHERE WHAT IT READS IS OF BULK AT MOST 1048576: true; the input reads as it did. -/
def packLengthsUptoRow : OpenClaim := { program := "ytkpdcmafpikhgaadoor", sum := "6fb30d8e28f752089a42b7e867f259d13e6d027e1630425a72bbdf2528ed7285", func := "isthmus/isthmuslaw01.PackLengths", spec := "packLengths", named := ["isthmus/pack.fields"], apart := false, laid := [("isthmus/pack.fields", laid_isthmus_pack_fields)], narrowed := true }
def PackLengthsUptoSaid : Prop := packLengthsUptoRow.holds Tryd.pinned (OpenSpec.upto packLengthsSpec)

/-- 'isthmuslaw01.PackApartTexts', WHERE WHAT IT READS IS OF BULK AT MOST 1048576: true; the input reads as it did. -/
def packApartTextsUptoRow : OpenClaim := { program := "ytkpdcmafpikhgaadoor", sum := "6fb30d8e28f752089a42b7e867f259d13e6d027e1630425a72bbdf2528ed7285", func := "isthmus/isthmuslaw01.PackApartTexts", spec := "packApartTexts", named := ["isthmus/pack.fields"], apart := false, laid := [("isthmus/pack.fields", laid_isthmus_pack_fields)], narrowed := true }
def PackApartTextsUptoSaid : Prop := packApartTextsUptoRow.holds Tryd.pinned (OpenSpec.upto packApartTextsSpec)

end Rows
end Go.Proofs.YtkpdcmafpikhgaaDoor
