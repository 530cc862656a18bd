/-
  NARROWER THAN 'FOR EVERY INPUT', by the rows' own cells (each row's printed sentence says how): CodeRights: laid · CodeWords: laid · CodeReads: laid · CodeTurned: laid · CodeBack: laid · CodeBackWords: laid · CodeLists: laid · CodeTail: laid.
  DERIVED. THE GIVEN ROWS OF THIS SEAT. 8 by the template 'for every input the law returns true; each argument reads behind the call as it read before'; 0 by the template 'total and deterministic' (their statements: YtnlimplbmncdeaaDoorTotals.lean).
  GIVEN WITH THE SEED: the statements are not yours to turn. If you find one false, say at which input.
  Laid BY PROGRAM, IN A SANDBOX (cutbox-rows.mjs): the forced cells as the released guide's own fill.sh prints them over the translation 598cd7921603901e… (all of the seat's roots in one cut). By AI agents, Wed Nov 11 2026. No macro, syntax, notation, axiom, sorry.
-/
import Derived.Test.YtnlimplbmncdeaaDoorChecked
import GoSem.Claim
import GoSem.ClaimJoined
import GoSem.ClaimMapViews
import Derived.JoinedTies
import Derived.KernelRfl
namespace Go.Proofs.YtnlimplbmncdeaaDoor
/- THE CELL 'sum', in the pinned program and in every row, IS THE sha256 OF THE DUMP (.gsa) THAT YtnlimplbmncdeaaDoorProg.lean LOADS. Nothing in Lean hashes anything: it is a label: what it is worth is what the hold of that sum in a sandbox is worth. -/
noncomputable def Tryd.pinned : Pinned := { name := "ytnlimplbmncdeaadoor", sum := "598cd7921603901e7b9ed4e2401f3c8f002fd10f718591d23b52478497679b19", checked := Tryd.checked }
namespace Rows
def none {H : Type} : Left H := { results := [], args := [] }

/- WHAT THE LISTED PACKAGE-LEVEL VARIABLES READ AS WHEN THE CALL BEGINS. Each datum BY PROGRAM (the guide's laid-datum.mjs) off the statement by which the dump's own 'gosem.cut.vars' lays the variable. In a bare row this is a premise. The card (YtnlimplbmncdeaaDoorCards.lean) ties it to the program's text. -/
def laid_isthmus_pack_fields {H : Type} : DataW H := .agg [.agg [.lit (.int .u64 56), .lit (.int .u64 8)], .agg [.lit (.int .u64 28), .lit (.int .u64 28)], .agg [.lit (.int .u64 0), .lit (.int .u64 28)]]

/-- 'isthmuslaw18.CodeRights': WHATEVER THE INPUT: true; the input reads as it did. -/
def codeRightsSpec : ChangeSpec := { name := "codeRights", fn := fun _ => fun
  | [d] => { results := [.lit (.bool true)], args := [d] }
  | _ => none }
def codeRightsRow : OpenClaim := { program := "ytnlimplbmncdeaadoor", sum := "598cd7921603901e7b9ed4e2401f3c8f002fd10f718591d23b52478497679b19", func := "isthmus/isthmuslaw18.CodeRights", spec := "codeRights", inPlace := ["internal/bytealg.IndexByteString", "internal/bytealg.IndexString"], unfollowed := true, recurses := true, named := ["isthmus/pack.fields", "internal/bytealg.MaxLen"], apart := false, laid := [("isthmus/pack.fields", laid_isthmus_pack_fields)] }
def CodeRightsSaid : Prop := codeRightsRow.holds Tryd.pinned (OpenSpec.ofChange codeRightsSpec)

/-- ITS FALSE NEIGHBOUR: 'it returns false'. Refute it at one input. -/
def codeRightsWrong : ChangeSpec := { name := "codeRights", fn := fun _ => fun
  | [d] => { results := [.lit (.bool false)], args := [d] }
  | _ => none }
def CodeRightsWrongFalsely : Prop := codeRightsRow.holds Tryd.pinned (OpenSpec.ofChange codeRightsWrong)

/-- 'isthmuslaw18.CodeWords': WHATEVER THE INPUT: true; the input reads as it did. -/
def codeWordsSpec : ChangeSpec := { name := "codeWords", fn := fun _ => fun
  | [d1, d2, d3] => { results := [.lit (.bool true)], args := [d1, d2, d3] }
  | _ => none }
def codeWordsRow : OpenClaim := { program := "ytnlimplbmncdeaadoor", sum := "598cd7921603901e7b9ed4e2401f3c8f002fd10f718591d23b52478497679b19", func := "isthmus/isthmuslaw18.CodeWords", spec := "codeWords", inPlace := ["internal/bytealg.IndexByteString", "internal/bytealg.IndexString"], unfollowed := true, recurses := true, named := ["isthmus/pack.fields", "internal/bytealg.MaxLen"], apart := false, laid := [("isthmus/pack.fields", laid_isthmus_pack_fields)] }
def CodeWordsSaid : Prop := codeWordsRow.holds Tryd.pinned (OpenSpec.ofChange codeWordsSpec)

/-- ITS FALSE NEIGHBOUR: 'it returns false'. Refute it at one input. -/
def codeWordsWrong : ChangeSpec := { name := "codeWords", fn := fun _ => fun
  | [d1, d2, d3] => { results := [.lit (.bool false)], args := [d1, d2, d3] }
  | _ => none }
def CodeWordsWrongFalsely : Prop := codeWordsRow.holds Tryd.pinned (OpenSpec.ofChange codeWordsWrong)

/-- 'isthmuslaw18.CodeReads': WHATEVER THE INPUT: true; the input reads as it did. -/
def codeReadsSpec : ChangeSpec := { name := "codeReads", fn := fun _ => fun
  | [d] => { results := [.lit (.bool true)], args := [d] }
  | _ => none }
def codeReadsRow : OpenClaim := { program := "ytnlimplbmncdeaadoor", sum := "598cd7921603901e7b9ed4e2401f3c8f002fd10f718591d23b52478497679b19", func := "isthmus/isthmuslaw18.CodeReads", spec := "codeReads", inPlace := ["internal/bytealg.IndexByteString", "internal/bytealg.IndexString"], unfollowed := true, recurses := true, named := ["isthmus/pack.fields", "internal/bytealg.MaxLen"], apart := false, laid := [("isthmus/pack.fields", laid_isthmus_pack_fields)] }
def CodeReadsSaid : Prop := codeReadsRow.holds Tryd.pinned (OpenSpec.ofChange codeReadsSpec)

/-- ITS FALSE NEIGHBOUR: 'it returns false'. Refute it at one input. -/
def codeReadsWrong : ChangeSpec := { name := "codeReads", fn := fun _ => fun
  | [d] => { results := [.lit (.bool false)], args := [d] }
  | _ => none }
def CodeReadsWrongFalsely : Prop := codeReadsRow.holds Tryd.pinned (OpenSpec.ofChange codeReadsWrong)

/-- 'isthmuslaw18.CodeTurned': WHATEVER THE INPUT: true; the input reads as it did. -/
def codeTurnedSpec : ChangeSpec := { name := "codeTurned", fn := fun _ => fun
  | [d1, d2, d3, d4, d5] => { results := [.lit (.bool true)], args := [d1, d2, d3, d4, d5] }
  | _ => none }
def codeTurnedRow : OpenClaim := { program := "ytnlimplbmncdeaadoor", sum := "598cd7921603901e7b9ed4e2401f3c8f002fd10f718591d23b52478497679b19", func := "isthmus/isthmuslaw18.CodeTurned", spec := "codeTurned", inPlace := ["internal/bytealg.IndexByteString", "internal/bytealg.IndexString"], unfollowed := true, recurses := true, named := ["isthmus/pack.fields", "internal/bytealg.MaxLen"], apart := false, laid := [("isthmus/pack.fields", laid_isthmus_pack_fields)] }
def CodeTurnedSaid : Prop := codeTurnedRow.holds Tryd.pinned (OpenSpec.ofChange codeTurnedSpec)

/-- ITS FALSE NEIGHBOUR: 'it returns false'. Refute it at one input. -/
def codeTurnedWrong : ChangeSpec := { name := "codeTurned", fn := fun _ => fun
  | [d1, d2, d3, d4, d5] => { results := [.lit (.bool false)], args := [d1, d2, d3, d4, d5] }
  | _ => none }
def CodeTurnedWrongFalsely : Prop := codeTurnedRow.holds Tryd.pinned (OpenSpec.ofChange codeTurnedWrong)

/-- 'isthmuslaw18.CodeBack': WHATEVER THE INPUT: true; the input reads as it did. -/
def codeBackSpec : ChangeSpec := { name := "codeBack", fn := fun _ => fun
  | [d1, d2] => { results := [.lit (.bool true)], args := [d1, d2] }
  | _ => none }
def codeBackRow : OpenClaim := { program := "ytnlimplbmncdeaadoor", sum := "598cd7921603901e7b9ed4e2401f3c8f002fd10f718591d23b52478497679b19", func := "isthmus/isthmuslaw18.CodeBack", spec := "codeBack", inPlace := ["internal/bytealg.IndexByteString", "internal/bytealg.IndexString"], unfollowed := true, recurses := true, named := ["isthmus/pack.fields", "internal/bytealg.MaxLen"], apart := false, laid := [("isthmus/pack.fields", laid_isthmus_pack_fields)] }
def CodeBackSaid : Prop := codeBackRow.holds Tryd.pinned (OpenSpec.ofChange codeBackSpec)

/-- ITS FALSE NEIGHBOUR: 'it returns false'. Refute it at one input. -/
def codeBackWrong : ChangeSpec := { name := "codeBack", fn := fun _ => fun
  | [d1, d2] => { results := [.lit (.bool false)], args := [d1, d2] }
  | _ => none }
def CodeBackWrongFalsely : Prop := codeBackRow.holds Tryd.pinned (OpenSpec.ofChange codeBackWrong)

/-- 'isthmuslaw18.CodeBackWords': WHATEVER THE INPUT: true; the input reads as it did. -/
def codeBackWordsSpec : ChangeSpec := { name := "codeBackWords", fn := fun _ => fun
  | [d1, d2, d3] => { results := [.lit (.bool true)], args := [d1, d2, d3] }
  | _ => none }
def codeBackWordsRow : OpenClaim := { program := "ytnlimplbmncdeaadoor", sum := "598cd7921603901e7b9ed4e2401f3c8f002fd10f718591d23b52478497679b19", func := "isthmus/isthmuslaw18.CodeBackWords", spec := "codeBackWords", inPlace := ["internal/bytealg.IndexByteString", "internal/bytealg.IndexString"], unfollowed := true, recurses := true, named := ["isthmus/pack.fields", "internal/bytealg.MaxLen"], apart := false, laid := [("isthmus/pack.fields", laid_isthmus_pack_fields)] }
def CodeBackWordsSaid : Prop := codeBackWordsRow.holds Tryd.pinned (OpenSpec.ofChange codeBackWordsSpec)

/-- ITS FALSE NEIGHBOUR: 'it returns false'. Refute it at one input. -/
def codeBackWordsWrong : ChangeSpec := { name := "codeBackWords", fn := fun _ => fun
  | [d1, d2, d3] => { results := [.lit (.bool false)], args := [d1, d2, d3] }
  | _ => none }
def CodeBackWordsWrongFalsely : Prop := codeBackWordsRow.holds Tryd.pinned (OpenSpec.ofChange codeBackWordsWrong)

/-- 'isthmuslaw18.CodeLists': WHATEVER THE INPUT: true; the input reads as it did. -/
def codeListsSpec : ChangeSpec := { name := "codeLists", fn := fun _ => fun
  | [d] => { results := [.lit (.bool true)], args := [d] }
  | _ => none }
def codeListsRow : OpenClaim := { program := "ytnlimplbmncdeaadoor", sum := "598cd7921603901e7b9ed4e2401f3c8f002fd10f718591d23b52478497679b19", func := "isthmus/isthmuslaw18.CodeLists", spec := "codeLists", inPlace := ["internal/bytealg.IndexByteString", "internal/bytealg.IndexString"], unfollowed := true, recurses := true, named := ["isthmus/pack.fields", "internal/bytealg.MaxLen"], apart := false, laid := [("isthmus/pack.fields", laid_isthmus_pack_fields)] }
def CodeListsSaid : Prop := codeListsRow.holds Tryd.pinned (OpenSpec.ofChange codeListsSpec)

/-- ITS FALSE NEIGHBOUR: 'it returns false'. Refute it at one input. -/
def codeListsWrong : ChangeSpec := { name := "codeLists", fn := fun _ => fun
  | [d] => { results := [.lit (.bool false)], args := [d] }
  | _ => none }
def CodeListsWrongFalsely : Prop := codeListsRow.holds Tryd.pinned (OpenSpec.ofChange codeListsWrong)

/-- 'isthmuslaw18.CodeTail': WHATEVER THE INPUT: true; the input reads as it did. -/
def codeTailSpec : ChangeSpec := { name := "codeTail", fn := fun _ => fun
  | [d1, d2, d3, d4] => { results := [.lit (.bool true)], args := [d1, d2, d3, d4] }
  | _ => none }
def codeTailRow : OpenClaim := { program := "ytnlimplbmncdeaadoor", sum := "598cd7921603901e7b9ed4e2401f3c8f002fd10f718591d23b52478497679b19", func := "isthmus/isthmuslaw18.CodeTail", spec := "codeTail", inPlace := ["internal/bytealg.IndexByteString", "internal/bytealg.IndexString"], unfollowed := true, recurses := true, named := ["isthmus/pack.fields", "internal/bytealg.MaxLen"], apart := false, laid := [("isthmus/pack.fields", laid_isthmus_pack_fields)] }
def CodeTailSaid : Prop := codeTailRow.holds Tryd.pinned (OpenSpec.ofChange codeTailSpec)

/-- ITS FALSE NEIGHBOUR: 'it returns false'. Refute it at one input. -/
def codeTailWrong : ChangeSpec := { name := "codeTail", fn := fun _ => fun
  | [d1, d2, d3, d4] => { results := [.lit (.bool false)], args := [d1, d2, d3, d4] }
  | _ => none }
def CodeTailWrongFalsely : Prop := codeTailRow.holds Tryd.pinned (OpenSpec.ofChange codeTailWrong)

/- THE SECOND FORM. 'bulk': how many values and letters a reading holds, each counted each time it is reached (what is shared counts as often as it is met; a slice's spare places count too). A statement '..UptoSaid' is the law's where the arguments, and the package variables that the reading takes, are together of bulk at most 1048576: NARROWER than '..Said'. Prove '..Said' where nothing that the law and all that it calls make is longer than what came in: it says more and counts as full. Else prove '..UptoSaid'. A law counts once. -/
mutual
def uptoBulk {H : Type} : DataW H → Nat
  | .lit (.string bytes) => bytes.length + 1
  | .lit _ => 1
  | .nil => 1
  | .ptr d => uptoBulk d + 1
  | .slice elems spare => uptoBulkAll elems + uptoBulkAll spare + 1
  | .agg parts => uptoBulkAll parts + 1
  | .iface _ d => uptoBulk d + 1
  | .map entries => uptoBulkEntries entries + 1
  | .held _ => 1
def uptoBulkAll {H : Type} : List (DataW H) → Nat
  | [] => 0
  | d :: r => uptoBulk d + uptoBulkAll r
def uptoBulkEntries {H : Type} : List (Lit × DataW H) → Nat
  | [] => 0
  | x :: r => uptoBulkEntry x + uptoBulkEntries r
def uptoBulkEntry {H : Type} : Lit × DataW H → Nat
  | (.string bytes, d) => bytes.length + uptoBulk d + 1
  | (_, d) => uptoBulk d + 1
 end
def uptoSmall : (H : Type) → List (DataW H) → Bool := fun _ ds => decide (uptoBulkAll ds ≤ 1048576)
def OpenSpec.upto (s : _root_.Go.ChangeSpec) : _root_.Go.OpenSpec := { _root_.Go.OpenSpec.ofChange s with cond := some uptoSmall }

/-- 'isthmuslaw18.CodeRights', WHERE WHAT IT READS IS OF BULK AT MOST 1048576: true; the input reads as it did. -/
def codeRightsUptoRow : OpenClaim := { program := "ytnlimplbmncdeaadoor", sum := "598cd7921603901e7b9ed4e2401f3c8f002fd10f718591d23b52478497679b19", func := "isthmus/isthmuslaw18.CodeRights", spec := "codeRights", inPlace := ["internal/bytealg.IndexByteString", "internal/bytealg.IndexString"], unfollowed := true, recurses := true, named := ["isthmus/pack.fields", "internal/bytealg.MaxLen"], apart := false, laid := [("isthmus/pack.fields", laid_isthmus_pack_fields)], narrowed := true }
def CodeRightsUptoSaid : Prop := codeRightsUptoRow.holds Tryd.pinned (OpenSpec.upto codeRightsSpec)

/-- 'isthmuslaw18.CodeWords', WHERE WHAT IT READS IS OF BULK AT MOST 1048576: true; the input reads as it did. -/
def codeWordsUptoRow : OpenClaim := { program := "ytnlimplbmncdeaadoor", sum := "598cd7921603901e7b9ed4e2401f3c8f002fd10f718591d23b52478497679b19", func := "isthmus/isthmuslaw18.CodeWords", spec := "codeWords", inPlace := ["internal/bytealg.IndexByteString", "internal/bytealg.IndexString"], unfollowed := true, recurses := true, named := ["isthmus/pack.fields", "internal/bytealg.MaxLen"], apart := false, laid := [("isthmus/pack.fields", laid_isthmus_pack_fields)], narrowed := true }
def CodeWordsUptoSaid : Prop := codeWordsUptoRow.holds Tryd.pinned (OpenSpec.upto codeWordsSpec)

/-- 'isthmuslaw18.CodeReads', WHERE WHAT IT READS IS OF BULK AT MOST 1048576: true; the input reads as it did. -/
def codeReadsUptoRow : OpenClaim := { program := "ytnlimplbmncdeaadoor", sum := "598cd7921603901e7b9ed4e2401f3c8f002fd10f718591d23b52478497679b19", func := "isthmus/isthmuslaw18.CodeReads", spec := "codeReads", inPlace := ["internal/bytealg.IndexByteString", "internal/bytealg.IndexString"], unfollowed := true, recurses := true, named := ["isthmus/pack.fields", "internal/bytealg.MaxLen"], apart := false, laid := [("isthmus/pack.fields", laid_isthmus_pack_fields)], narrowed := true }
def CodeReadsUptoSaid : Prop := codeReadsUptoRow.holds Tryd.pinned (OpenSpec.upto codeReadsSpec)

/-- 'isthmuslaw18.CodeTurned', WHERE WHAT IT READS IS OF BULK AT MOST 1048576: true; the input reads as it did. -/
def codeTurnedUptoRow : OpenClaim := { program := "ytnlimplbmncdeaadoor", sum := "598cd7921603901e7b9ed4e2401f3c8f002fd10f718591d23b52478497679b19", func := "isthmus/isthmuslaw18.CodeTurned", spec := "codeTurned", inPlace := ["internal/bytealg.IndexByteString", "internal/bytealg.IndexString"], unfollowed := true, recurses := true, named := ["isthmus/pack.fields", "internal/bytealg.MaxLen"], apart := false, laid := [("isthmus/pack.fields", laid_isthmus_pack_fields)], narrowed := true }
def CodeTurnedUptoSaid : Prop := codeTurnedUptoRow.holds Tryd.pinned (OpenSpec.upto codeTurnedSpec)

/-- 'isthmuslaw18.CodeBack', WHERE WHAT IT READS IS OF BULK AT MOST 1048576: true; the input reads as it did. -/
def codeBackUptoRow : OpenClaim := { program := "ytnlimplbmncdeaadoor", sum := "598cd7921603901e7b9ed4e2401f3c8f002fd10f718591d23b52478497679b19", func := "isthmus/isthmuslaw18.CodeBack", spec := "codeBack", inPlace := ["internal/bytealg.IndexByteString", "internal/bytealg.IndexString"], unfollowed := true, recurses := true, named := ["isthmus/pack.fields", "internal/bytealg.MaxLen"], apart := false, laid := [("isthmus/pack.fields", laid_isthmus_pack_fields)], narrowed := true }
def CodeBackUptoSaid : Prop := codeBackUptoRow.holds Tryd.pinned (OpenSpec.upto codeBackSpec)

/-- 'isthmuslaw18.CodeBackWords', WHERE WHAT IT READS IS OF BULK AT MOST 1048576: true; the input reads as it did. -/
def codeBackWordsUptoRow : OpenClaim := { program := "ytnlimplbmncdeaadoor", sum := "598cd7921603901e7b9ed4e2401f3c8f002fd10f718591d23b52478497679b19", func := "isthmus/isthmuslaw18.CodeBackWords", spec := "codeBackWords", inPlace := ["internal/bytealg.IndexByteString", "internal/bytealg.IndexString"], unfollowed := true, recurses := true, named := ["isthmus/pack.fields", "internal/bytealg.MaxLen"], apart := false, laid := [("isthmus/pack.fields", laid_isthmus_pack_fields)], narrowed := true }
def CodeBackWordsUptoSaid : Prop := codeBackWordsUptoRow.holds Tryd.pinned (OpenSpec.upto codeBackWordsSpec)

/-- 'isthmuslaw18.CodeLists', WHERE WHAT IT READS IS OF BULK AT MOST 1048576: true; the input reads as it did. -/
def codeListsUptoRow : OpenClaim := { program := "ytnlimplbmncdeaadoor", sum := "598cd7921603901e7b9ed4e2401f3c8f002fd10f718591d23b52478497679b19", func := "isthmus/isthmuslaw18.CodeLists", spec := "codeLists", inPlace := ["internal/bytealg.IndexByteString", "internal/bytealg.IndexString"], unfollowed := true, recurses := true, named := ["isthmus/pack.fields", "internal/bytealg.MaxLen"], apart := false, laid := [("isthmus/pack.fields", laid_isthmus_pack_fields)], narrowed := true }
def CodeListsUptoSaid : Prop := codeListsUptoRow.holds Tryd.pinned (OpenSpec.upto codeListsSpec)

/-- 'isthmuslaw18.CodeTail', WHERE WHAT IT READS IS OF BULK AT MOST 1048576: true; the input reads as it did. -/
def codeTailUptoRow : OpenClaim := { program := "ytnlimplbmncdeaadoor", sum := "598cd7921603901e7b9ed4e2401f3c8f002fd10f718591d23b52478497679b19", func := "isthmus/isthmuslaw18.CodeTail", spec := "codeTail", inPlace := ["internal/bytealg.IndexByteString", "internal/bytealg.IndexString"], unfollowed := true, recurses := true, named := ["isthmus/pack.fields", "internal/bytealg.MaxLen"], apart := false, laid := [("isthmus/pack.fields", laid_isthmus_pack_fields)], narrowed := true }
def CodeTailUptoSaid : Prop := codeTailUptoRow.holds Tryd.pinned (OpenSpec.upto codeTailSpec)

end Rows
end Go.Proofs.YtnlimplbmncdeaaDoor
