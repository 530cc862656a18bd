/- The laws GuardLooks, GuardWords of the program hold, as their cards say: texts put together by a program, 24 of 38. -/
import Derived.Test.YtcmdjpolgaejoaaDoorPB0
import Derived.Test.YtcmdjpolgaejoaaDoorPB1
import Derived.Test.YtcmdjpolgaejoaaDoorPB2
import Derived.Test.YtcmdjpolgaejoaaDoorPB3
import Derived.Test.YtcmdjpolgaejoaaDoorPB4
import Derived.Test.YtcmdjpolgaejoaaDoorPB5
import Derived.Test.YtcmdjpolgaejoaaDoorPB6
import Derived.Test.YtcmdjpolgaejoaaDoorPB7
import Derived.Test.YtcmdjpolgaejoaaDoorPB8
import Derived.Test.YtcmdjpolgaejoaaDoorPB9
import Derived.Test.YtcmdjpolgaejoaaDoorPB10
import Derived.Test.YtcmdjpolgaejoaaDoorPB11
import Derived.Test.YtcmdjpolgaejoaaDoorPB12
import Derived.Test.YtcmdjpolgaejoaaDoorProg
import Derived.Below
import Derived.Deep.Draws
import Derived.Deep.AppendLies
import Derived.Maps.AppendAt
import Derived.OwnWalk
import Derived.Laws.BytesArg
import Derived.Laws.MakeOwn
import Derived.Laws.OwnMore
import Derived.Deep.OwnRows
import Derived.Tactics
import Derived.Lib.ConvBytes
import Derived.Laws.Slices
import Derived.WalkKit
import Derived.KernelRfl
import Derived.RowKit3
import Derived.Deep.LoopGhost
import Derived.Deep.QuietTactic
import Derived.BigQuiet
import Derived.WideLaws
import Derived.Deep.DeepCutAuto
import Derived.Deep.CutBlock
import Derived.Deep.RegionHeld3
import Derived.Laws.Rows
import Derived.Lib.AppendStr
import Derived.ArgAppend
import Derived.Laws.IdiomCopy
import Derived.OrdersHeld
import Derived.Laws.BitsLemmas
import Derived.RowKit
import Derived.LoopN
import Derived.Laws.RangeAny
import Derived.Lib.SlBytesConst
import Derived.Laws.StructEq
namespace Go.Proofs.YtcmdjpolgaejoaaDoor.D
open Go.RowKit Go.Proofs.YtcmdjpolgaejoaaDoorW.PrintWords Go.Proofs.YtcmdjpolgaejoaaDoorW.PrintLast Go.Proofs.YtcmdjpolgaejoaaDoorW.PrintMore
attribute [local go_sem] max2_int min2_int max_two min_two max_three min_three max_four min_four
set_option linter.unusedVariables false
set_option linter.unusedSimpArgs false
def errW:Option Int→Value
 | none=>.nilIface
 | some c=>.iface 0 (.int .i64 c)
theorem errW_none:errW none=.nilIface:=rfl
theorem errW_some (c:Int):errW (some c)=.iface 0 (.int .i64 c):=rfl
theorem info5:(Tryd.prog.info? 5).map (fun i=>(i.zero,i.size,i.bytes))=some (some (.int .u8 0),1,1):=by kernel_rfl
def Glob (w:World):Prop:=w.cell? ⟨0,0,none⟩=some (.int .u64 56)∧w.cell? ⟨0,1,none⟩=some (.int .u64 8)∧w.cell? ⟨0,2,none⟩=some (.int .u64 28)∧w.cell? ⟨0,3,none⟩=some (.int .u64 28)∧w.cell? ⟨0,4,none⟩=some (.int .u64 0)∧w.cell? ⟨0,5,none⟩=some (.int .u64 28)
theorem Glob.below {w W:World} (h:Glob w) (b:Below w.heap.size w W):Glob W:=by
 obtain ⟨h0,h1,h2,h3,h4,h5⟩:=h
 exact ⟨pw_cell_below b h0,pw_cell_below b h1,pw_cell_below b h2,pw_cell_below b h3,pw_cell_below b h4,pw_cell_below b h5⟩
end Go.Proofs.YtcmdjpolgaejoaaDoor.D
