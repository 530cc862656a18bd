/- The laws GuardLooks, GuardWords of the program hold, as their cards say: texts put together by a program, 10 of 38. -/
import Derived.Test.YtcmdjpolgaejoaaDoorPB8
namespace Go.Proofs.YtcmdjpolgaejoaaDoorW.PrintWords
open Go.RowKit
section
variable {w w' u:World} {m B g:Nat} {o:Obj} {row:Option Nat} {S:Nat→Prop} {a:Addr} {v:Value}
theorem cell_at (hq:w.drewN m=w') (h:w.cell? a=some v):w'.cell? a=some v:=by subst hq; exact h
end
namespace Kd
section
variable {α:Type} {d:Kd α} {e base n m:Nat} {ok:Nat→Prop} {w w':World} {v:Value} {A:Option Addr} {xs:List α}
end
end Kd
end Go.Proofs.YtcmdjpolgaejoaaDoorW.PrintWords
