/- The laws GuardLooks, GuardWords of the program hold, as their cards say: texts put together by a program, 15 of 38. -/
import Derived.Test.YtcmdjpolgaejoaaDoorPB13
namespace Go.Proofs.YtcmdjpolgaejoaaDoor.C
open Go.RowKit Go.Proofs.YtcmdjpolgaejoaaDoorW.PrintWords Go.Proofs.YtcmdjpolgaejoaaDoorW.PrintLast Go.Proofs.YtcmdjpolgaejoaaDoorW.PrintMore
attribute [local go_sem] max2_int min2_int max_two min_two max_three min_three max_four min_four
set_option linter.unusedVariables false
set_option linter.unusedSimpArgs false
def strings_ContainsRune.f (a0:ByteArray) (a1:Int):Option (Bool):=if 0≤a1 then (if a1 < 128 then some (decide (0≤Lib.indexByte a0.data.toList a1.toNat.toUInt8)) else none) else none
theorem strings_ContainsRune.calls (a0:ByteArray) (a1:Int) (r:Bool) (w:World) (h:strings_ContainsRune.f a0 a1=some r) :
  Calls Tryd.prog 101 #[.string a0,.int .i32 a1] w fun e w'=>e=.returned (.bool r)∧Drawn0 w w':=by
 unfold strings_ContainsRune.f at h
 split at h
 ·split at h
  ·rename_i h0 h1
   obtain rfl:=Option.some.inj h
   refine (Tryd.strings_ContainsRune_ascii a0 a1 w h0 h1).mono ?_
   rintro e w' ⟨rfl,rfl⟩
   exact ⟨rfl,Drawn0.refl _⟩
  ·cases h
 ·cases h
end Go.Proofs.YtcmdjpolgaejoaaDoor.C
