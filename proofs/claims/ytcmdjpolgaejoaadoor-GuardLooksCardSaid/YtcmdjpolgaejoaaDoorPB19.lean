/- The laws GuardLooks, GuardWords of the program hold, as their cards say: texts put together by a program, 20 of 38. -/
import Derived.Test.YtcmdjpolgaejoaaDoorPB13
import Derived.Test.YtcmdjpolgaejoaaDoorPB17
import Derived.Test.YtcmdjpolgaejoaaDoorPB18
namespace Go.Proofs.YtcmdjpolgaejoaaDoor.C
open Go.RowKit Go.Proofs.YtcmdjpolgaejoaaDoorW.PrintWords Go.Proofs.YtcmdjpolgaejoaaDoorW.PrintLast Go.Proofs.YtcmdjpolgaejoaaDoorW.PrintMore
attribute [local go_sem] max2_int min2_int max_two min_two max_three min_three max_four min_four
set_option linter.unusedVariables false
set_option linter.unusedSimpArgs false
def IsIdx (r:Int) (b:Bool):Prop:=decide (0≤r)=b
theorem IsIdx.yes {r:Int} {b:Bool} (h:0≤r) (hb:b=true):IsIdx r b:=by unfold IsIdx; rw [hb]; exact decide_eq_true h
theorem IsIdx.no:IsIdx (-1) false:=rfl
theorem IsIdx.eq {r:Int} {b:Bool} (h:IsIdx r b):decide (0≤r)=b:=h
theorem idx_names (p:ByteArray→Bool) (A0:Option Addr) (c0:Nat) (xs:List ByteArray) (w:World) (hr:Kd.C Kd.string w A0 xs.length xs) (hp:∀ x∈xs,∀ W,Below w.heap.size w W→Calls Tryd.prog 44 #[.string x] W fun e W'=>e=.returned (.bool (p x))∧Below W.heap.size W W') :
  Calls Tryd.prog 79 #[.slice A0 xs.length c0,.func (.func 44) #[] #[]] w fun e w'=>(∃ r:Int,e=.returned (.int .i64 r)∧IsIdx r (xs.any p))∧Below w.heap.size w w':=by
 have HR:=Aside0.mk hr
 have HM:=Aside0.mk hr.2.1
 have HP:=Aside0.mk hp
 clear hr hp
 go_enter Tryd.func79,Tryd.ntmps79
 go_wp2
 go_loopw [8] (fun v8 w'=>∃ j:Nat,v8=.int .i64 j∧j≤xs.length∧Aside0 ((xs.take j).any p=false)∧Aside0 (Below w.heap.size w w')) (fun v8 _=>xs.length - (intOf v8).toNat)
 case atStart=>exact ⟨0,rfl,Nat.zero_le _,⟨rfl⟩,⟨by repeat (first|exact Below.refl _ _|apply below_alloc|apply pw_below_drewN|apply below_drew1)⟩⟩
 case round =>
  obtain ⟨j,rfl,hj,HA,HB⟩:=hrel
  have hmax:=HM.out
  by_cases hlt:j < xs.length
  ·obtain ⟨ad,ea,hx⟩:=Kd.at_string (Kd.C_below HR.out HB.out) (j:Int) (Int.natCast_nonneg j) (by omega)
   have hmem:xs[j]∈xs:=List.getElem_mem hlt
   have hrd:rdOf ByteArray.empty xs (j:Int)=xs[j]:=by
    simp [rd,rdOf,List.getD,hlt]
   rw [hrd] at hx
   have hx':wr.cell? (ad.add j)=_:=hx
   have HC:=Aside0.mk (HP.out xs[j] hmem wr HB.out)
   obtain ⟨y,hy⟩:∃ y,y=xs[j]:=⟨_,rfl⟩
   rw [← hy] at hx' HC
   have HY:=Aside0.mk hy
   clear hy hx hmem hrd
   cases ea
   have HT:=Aside0.mk (show (xs.take (j+1)).any p=((xs.take j).any p || p y) by rw [HY.out,List.take_succ_eq_append_getElem hlt,List.any_append]; simp)
   obtain ⟨b,hb⟩:∃ b,b=p y:=⟨_,rfl⟩
   rw [← hb] at HC HT
   cases b with
   | true =>
    have HZ:=Aside0.mk hb
    clear hb
    go_wp2_with (go_at_call 44; (with_reducible refine HC.out.mono ?_); rintro e w1 ⟨rfl,hb1⟩)
    go_ret
    exact ⟨⟨_,rfl,IsIdx.yes (by omega) (List.any_eq_true.2 ⟨y,by rw [HY.out]; exact List.getElem_mem hlt,HZ.out.symm⟩)⟩,by repeat (first|exact below_then HB.out HB.out.size ‹Below wr.heap.size wr _›|apply pw_below_drewN|apply below_drew1)⟩
   | false =>
    clear hb
    go_wp2_with (go_at_call 44; (with_reducible refine HC.out.mono ?_); rintro e w1 ⟨rfl,hb1⟩)
    go_roundw
    case rel=>exact ⟨j+1,(by first|rfl|simp),by omega,⟨by rw [HT.out,HA.out]; rfl⟩,⟨by repeat (first|exact below_then HB.out HB.out.size ‹Below wr.heap.size wr _›|apply pw_below_drewN|apply below_drew1)⟩⟩
    case measure=>simp [intOf]; omega
  ·have HZ:=Aside0.mk (show xs.any p=false by have:=HA.out; rwa [List.take_of_length_le (by omega)] at this)
   go_wp2
   go_ret
   exact ⟨⟨_,rfl,by rw [HZ.out]; exact IsIdx.no⟩,by repeat (first|exact HB.out|apply pw_below_drewN|apply below_drew1)⟩
theorem con_names (p:ByteArray→Bool) (A0:Option Addr) (c0:Nat) (xs:List ByteArray) (w:World) (hr:Kd.C Kd.string w A0 xs.length xs) (hp:∀ x∈xs,∀ W,Below w.heap.size w W→Calls Tryd.prog 44 #[.string x] W fun e W'=>e=.returned (.bool (p x))∧Below W.heap.size W W') :
  Calls Tryd.prog 43 #[.slice A0 xs.length c0,.func (.func 44) #[] #[]] w fun e w'=>e=.returned (.bool (xs.any p))∧Below w.heap.size w w':=by
 have HI:=Aside0.mk (idx_names p A0 c0 xs w hr hp)
 clear hr hp
 go_enter Tryd.func43,Tryd.ntmps43
 go_wp2_with (go_at_call 79; (with_reducible refine HI.out.mono ?_); rintro e w1 ⟨⟨r,rfl,hr⟩,hb1⟩; have hr':=hr.eq; clear hr)
 go_ret
 exact ⟨by simp_all,by assumption⟩
theorem idx_cells (p:Int→Bool) (A0:Option Addr) (c0:Nat) (xs:List Int) (w:World) (hr:Kd.C (Kd.int .i64) w A0 xs.length xs) (hp:∀ x∈xs,∀ W,Below w.heap.size w W→Calls Tryd.prog 47 #[.int .i64 x] W fun e W'=>e=.returned (.bool (p x))∧Below W.heap.size W W') :
  Calls Tryd.prog 82 #[.slice A0 xs.length c0,.func (.func 47) #[] #[]] w fun e w'=>(∃ r:Int,e=.returned (.int .i64 r)∧IsIdx r (xs.any p))∧Below w.heap.size w w':=by
 have HR:=Aside0.mk hr
 have HM:=Aside0.mk hr.2.1
 have HP:=Aside0.mk hp
 clear hr hp
 go_enter Tryd.func82,Tryd.ntmps82
 go_wp2
 go_loopw [8] (fun v8 w'=>∃ j:Nat,v8=.int .i64 j∧j≤xs.length∧Aside0 ((xs.take j).any p=false)∧Aside0 (Below w.heap.size w w')) (fun v8 _=>xs.length - (intOf v8).toNat)
 case atStart=>exact ⟨0,rfl,Nat.zero_le _,⟨rfl⟩,⟨by repeat (first|exact Below.refl _ _|apply below_alloc|apply pw_below_drewN|apply below_drew1)⟩⟩
 case round =>
  obtain ⟨j,rfl,hj,HA,HB⟩:=hrel
  have hmax:=HM.out
  by_cases hlt:j < xs.length
  ·obtain ⟨ad,ea,hx⟩:=Kd.at_int (Kd.C_below HR.out HB.out) (j:Int) (Int.natCast_nonneg j) (by omega)
   have hmem:xs[j]∈xs:=List.getElem_mem hlt
   have hrd:rd xs (j:Int)=xs[j]:=by
    simp [rd,rdOf,List.getD,hlt]
   rw [hrd] at hx
   have hx':wr.cell? (ad.add j)=_:=hx
   have HC:=Aside0.mk (HP.out xs[j] hmem wr HB.out)
   obtain ⟨y,hy⟩:∃ y,y=xs[j]:=⟨_,rfl⟩
   rw [← hy] at hx' HC
   have HY:=Aside0.mk hy
   clear hy hx hmem hrd
   cases ea
   have HT:=Aside0.mk (show (xs.take (j+1)).any p=((xs.take j).any p || p y) by rw [HY.out,List.take_succ_eq_append_getElem hlt,List.any_append]; simp)
   obtain ⟨b,hb⟩:∃ b,b=p y:=⟨_,rfl⟩
   rw [← hb] at HC HT
   cases b with
   | true =>
    have HZ:=Aside0.mk hb
    clear hb
    go_wp2_with (go_at_call 47; (with_reducible refine HC.out.mono ?_); rintro e w1 ⟨rfl,hb1⟩)
    go_ret
    exact ⟨⟨_,rfl,IsIdx.yes (by omega) (List.any_eq_true.2 ⟨y,by rw [HY.out]; exact List.getElem_mem hlt,HZ.out.symm⟩)⟩,by repeat (first|exact below_then HB.out HB.out.size ‹Below wr.heap.size wr _›|apply pw_below_drewN|apply below_drew1)⟩
   | false =>
    clear hb
    go_wp2_with (go_at_call 47; (with_reducible refine HC.out.mono ?_); rintro e w1 ⟨rfl,hb1⟩)
    go_roundw
    case rel=>exact ⟨j+1,(by first|rfl|simp),by omega,⟨by rw [HT.out,HA.out]; rfl⟩,⟨by repeat (first|exact below_then HB.out HB.out.size ‹Below wr.heap.size wr _›|apply pw_below_drewN|apply below_drew1)⟩⟩
    case measure=>simp [intOf]; omega
  ·have HZ:=Aside0.mk (show xs.any p=false by have:=HA.out; rwa [List.take_of_length_le (by omega)] at this)
   go_wp2
   go_ret
   exact ⟨⟨_,rfl,by rw [HZ.out]; exact IsIdx.no⟩,by repeat (first|exact HB.out|apply pw_below_drewN|apply below_drew1)⟩
theorem con_cells (p:Int→Bool) (A0:Option Addr) (c0:Nat) (xs:List Int) (w:World) (hr:Kd.C (Kd.int .i64) w A0 xs.length xs) (hp:∀ x∈xs,∀ W,Below w.heap.size w W→Calls Tryd.prog 47 #[.int .i64 x] W fun e W'=>e=.returned (.bool (p x))∧Below W.heap.size W W') :
  Calls Tryd.prog 46 #[.slice A0 xs.length c0,.func (.func 47) #[] #[]] w fun e w'=>e=.returned (.bool (xs.any p))∧Below w.heap.size w w':=by
 have HI:=Aside0.mk (idx_cells p A0 c0 xs w hr hp)
 clear hr hp
 go_enter Tryd.func46,Tryd.ntmps46
 go_wp2_with (go_at_call 82; (with_reducible refine HI.out.mono ?_); rintro e w1 ⟨⟨r,rfl,hr⟩,hb1⟩; have hr':=hr.eq; clear hr)
 go_ret
 exact ⟨by simp_all,by assumption⟩
theorem idx_words (B:Nat) (p:Int→Bool) (A0:Option Addr) (c0:Nat) (xs:List Int) (w:World) (hr:Kd.C (Kd.int .u64) w A0 xs.length xs) (hp:∀ x∈xs,∀ W,Below w.heap.size w W→Calls Tryd.prog 50 #[.int .u64 x,.pointer (some ⟨B,0,none⟩)] W fun e W'=>e=.returned (.bool (p x))∧Below W.heap.size W W') :
  Calls Tryd.prog 83 #[.slice A0 xs.length c0,.func (.func 50) #[] #[.pointer (some ⟨B,0,none⟩)]] w fun e w'=>(∃ r:Int,e=.returned (.int .i64 r)∧IsIdx r (xs.any p))∧Below w.heap.size w w':=by
 have HR:=Aside0.mk hr
 have HM:=Aside0.mk hr.2.1
 have HP:=Aside0.mk hp
 clear hr hp
 go_enter Tryd.func83,Tryd.ntmps83
 go_wp2
 go_loopw [8] (fun v8 w'=>∃ j:Nat,v8=.int .i64 j∧j≤xs.length∧Aside0 ((xs.take j).any p=false)∧Aside0 (Below w.heap.size w w')) (fun v8 _=>xs.length - (intOf v8).toNat)
 case atStart=>exact ⟨0,rfl,Nat.zero_le _,⟨rfl⟩,⟨by repeat (first|exact Below.refl _ _|apply below_alloc|apply pw_below_drewN|apply below_drew1)⟩⟩
 case round =>
  obtain ⟨j,rfl,hj,HA,HB⟩:=hrel
  have hmax:=HM.out
  by_cases hlt:j < xs.length
  ·obtain ⟨ad,ea,hx⟩:=Kd.at_int (Kd.C_below HR.out HB.out) (j:Int) (Int.natCast_nonneg j) (by omega)
   have hmem:xs[j]∈xs:=List.getElem_mem hlt
   have hrd:rd xs (j:Int)=xs[j]:=by
    simp [rd,rdOf,List.getD,hlt]
   rw [hrd] at hx
   have hx':wr.cell? (ad.add j)=_:=hx
   have HC:=Aside0.mk (HP.out xs[j] hmem wr HB.out)
   obtain ⟨y,hy⟩:∃ y,y=xs[j]:=⟨_,rfl⟩
   rw [← hy] at hx' HC
   have HY:=Aside0.mk hy
   clear hy hx hmem hrd
   cases ea
   have HT:=Aside0.mk (show (xs.take (j+1)).any p=((xs.take j).any p || p y) by rw [HY.out,List.take_succ_eq_append_getElem hlt,List.any_append]; simp)
   obtain ⟨b,hb⟩:∃ b,b=p y:=⟨_,rfl⟩
   rw [← hb] at HC HT
   cases b with
   | true =>
    have HZ:=Aside0.mk hb
    clear hb
    go_wp2_with (go_at_call 50; (with_reducible refine HC.out.mono ?_); rintro e w1 ⟨rfl,hb1⟩)
    go_ret
    exact ⟨⟨_,rfl,IsIdx.yes (by omega) (List.any_eq_true.2 ⟨y,by rw [HY.out]; exact List.getElem_mem hlt,HZ.out.symm⟩)⟩,by repeat (first|exact below_then HB.out HB.out.size ‹Below wr.heap.size wr _›|apply pw_below_drewN|apply below_drew1)⟩
   | false =>
    clear hb
    go_wp2_with (go_at_call 50; (with_reducible refine HC.out.mono ?_); rintro e w1 ⟨rfl,hb1⟩)
    go_roundw
    case rel=>exact ⟨j+1,(by first|rfl|simp),by omega,⟨by rw [HT.out,HA.out]; rfl⟩,⟨by repeat (first|exact below_then HB.out HB.out.size ‹Below wr.heap.size wr _›|apply pw_below_drewN|apply below_drew1)⟩⟩
    case measure=>simp [intOf]; omega
  ·have HZ:=Aside0.mk (show xs.any p=false by have:=HA.out; rwa [List.take_of_length_le (by omega)] at this)
   go_wp2
   go_ret
   exact ⟨⟨_,rfl,by rw [HZ.out]; exact IsIdx.no⟩,by repeat (first|exact HB.out|apply pw_below_drewN|apply below_drew1)⟩
theorem con_words (B:Nat) (p:Int→Bool) (A0:Option Addr) (c0:Nat) (xs:List Int) (w:World) (hr:Kd.C (Kd.int .u64) w A0 xs.length xs) (hp:∀ x∈xs,∀ W,Below w.heap.size w W→Calls Tryd.prog 50 #[.int .u64 x,.pointer (some ⟨B,0,none⟩)] W fun e W'=>e=.returned (.bool (p x))∧Below W.heap.size W W') :
  Calls Tryd.prog 49 #[.slice A0 xs.length c0,.func (.func 50) #[] #[.pointer (some ⟨B,0,none⟩)]] w fun e w'=>e=.returned (.bool (xs.any p))∧Below w.heap.size w w':=by
 have HI:=Aside0.mk (idx_words B p A0 c0 xs w hr hp)
 clear hr hp
 go_enter Tryd.func49,Tryd.ntmps49
 go_wp2_with (go_at_call 83; (with_reducible refine HI.out.mono ?_); rintro e w1 ⟨⟨r,rfl,hr⟩,hb1⟩; have hr':=hr.eq; clear hr)
 go_ret
 exact ⟨by simp_all,by assumption⟩
theorem cl_names (k:Nat) (s:ByteArray) (b:Bool) (w:World) (h:lex_IsName.f k s=some b):Calls Tryd.prog 44 #[.string s] w fun e w'=>e=.returned (.bool (!b))∧Below w.heap.size w w':=by
 have HX:=Aside0.mk h
 clear h
 go_enter Tryd.func44,Tryd.ntmps44
 go_wp2_with (go_at_call 45; (with_reducible refine (lex_IsName.calls k s b _ HX.out).mono ?_); rintro e w1 ⟨rfl,hb1⟩)
 go_ret
 exact ⟨rfl,by assumption⟩
theorem cl_cells (x:Int) (b:Bool) (w:World) (h:code_kind.f x=some b):Calls Tryd.prog 47 #[.int .i64 x] w fun e w'=>e=.returned (.bool (!b))∧Below w.heap.size w w':=by
 have HX:=Aside0.mk h
 clear h
 go_enter Tryd.func47,Tryd.ntmps47
 go_wp2_with (go_at_call 48; (with_reducible refine (code_kind.calls x b _ HX.out).mono ?_); rintro e w1 ⟨rfl,⟨nd,rfl⟩⟩)
 go_ret
 exact ⟨rfl,pw_below_drewN (Below.refl _ _) _⟩
theorem cl_words (k:Nat) (A0_0:Option Addr) (c0_0:Nat) (l0_0:List Int) (A0_1:Option Addr) (c0_1:Nat) (l0_1:List Int) (A0_2:Option Addr) (c0_2:Nat) (l0_2:List ByteArray) (A0_3:Option Addr) (c0_3:Nat) (l0_3:List Int) (B:Nat) (x:Int) (b:Bool) (w:World) (hr0_0:Kd.C (Kd.int .u64) w A0_0 l0_0.length l0_0) (hc0_0:l0_0.length≤c0_0) (hr0_1:Kd.C (Kd.int .i64) w A0_1 l0_1.length l0_1) (hc0_1:l0_1.length≤c0_1) (hr0_2:Kd.C Kd.string w A0_2 l0_2.length l0_2) (hc0_2:l0_2.length≤c0_2) (hr0_3:Kd.C (Kd.int .i64) w A0_3 l0_3.length l0_3) (hc0_3:l0_3.length≤c0_3) (hb0:w.cell? ⟨B,0,none⟩=some (.slice A0_0 l0_0.length c0_0)) (hb1:w.cell? ⟨B,1,none⟩=some (.slice A0_1 l0_1.length c0_1)) (hb2:w.cell? ⟨B,2,none⟩=some (.slice A0_2 l0_2.length c0_2)) (hb3:w.cell? ⟨B,3,none⟩=some (.slice A0_3 l0_3.length c0_3)) (hG:Glob w) (h:code_may.f k l0_0 l0_1 l0_2 l0_3 x=some b) :
  Calls Tryd.prog 50 #[.int .u64 x,.pointer (some ⟨B,0,none⟩)] w fun e w'=>e=.returned (.bool (!b))∧Below w.heap.size w w':=by
 have HX:=Aside0.mk (code_may.calls k A0_0 c0_0 l0_0 A0_1 c0_1 l0_1 A0_2 c0_2 l0_2 A0_3 c0_3 l0_3 x b w hr0_0 hc0_0 hr0_1 hc0_1 hr0_2 hc0_2 hr0_3 hc0_3 hG h)
 clear h hG hr0_0 hc0_0 hr0_1 hc0_1 hr0_2 hc0_2 hr0_3 hc0_3
 go_enter Tryd.func50,Tryd.ntmps50
 go_wp2_with (go_at_call 51; (with_reducible refine HX.out.mono ?_); rintro e w1 ⟨rfl,hb1⟩)
 go_ret
 exact ⟨rfl,by assumption⟩
def nmP (k:Nat) (s:ByteArray):Bool:=!((lex_IsName.f k s).getD false)
def kdP (x:Int):Bool:=!((code_kind.f x).getD false)
def wdP (k:Nat) (l0 l1:List Int) (l2:List ByteArray) (l3:List Int) (x:Int):Bool:=!((code_may.f k l0 l1 l2 l3 x).getD false)
theorem kind_some (x:Int):code_kind.f x=some ((code_kind.f x).getD false):=by unfold code_kind.f; split<;>rfl
theorem some_getD {o:Option Bool} (h:o.isSome=true):o=some (o.getD false):=by cases o<;>simp_all
def code_Right.f (k:Nat) (l0_0:List Int) (l0_1:List Int) (l0_2:List ByteArray) (l0_3:List Int):Option Bool :=
 if 1≤l0_0.length∧l0_0.length≤32768∧l0_1.length≤32768∧l0_2.length≤2000∧l0_3.length≤256 then
  (if (l0_2.all fun s=>(lex_IsName.f k s).isSome)=true∧(l0_0.all fun x=>(code_may.f k l0_0 l0_1 l0_2 l0_3 x).isSome)=true then some (!(l0_2.any (nmP k)) && (!(l0_3.any kdP) && !(l0_0.any (wdP k l0_0 l0_1 l0_2 l0_3)))) else none)
 else some false
set_option maxHeartbeats 8000000 in
set_option maxRecDepth 100000 in
theorem code_Right.calls (k:Nat) (A0_0:Option Addr) (c0_0:Nat) (l0_0:List Int) (A0_1:Option Addr) (c0_1:Nat) (l0_1:List Int) (A0_2:Option Addr) (c0_2:Nat) (l0_2:List ByteArray) (A0_3:Option Addr) (c0_3:Nat) (l0_3:List Int) (r:Bool) (w:World) (hr0_0:Kd.C (Kd.int .u64) w A0_0 l0_0.length l0_0) (hc0_0:l0_0.length≤c0_0) (hr0_1:Kd.C (Kd.int .i64) w A0_1 l0_1.length l0_1) (hc0_1:l0_1.length≤c0_1) (hr0_2:Kd.C Kd.string w A0_2 l0_2.length l0_2) (hc0_2:l0_2.length≤c0_2) (hr0_3:Kd.C (Kd.int .i64) w A0_3 l0_3.length l0_3) (hc0_3:l0_3.length≤c0_3) (hG:Glob w) (h:code_Right.f k l0_0 l0_1 l0_2 l0_3=some r) :
  Calls Tryd.prog 24 #[.agg #[.slice A0_0 l0_0.length c0_0,.slice A0_1 l0_1.length c0_1,.slice A0_2 l0_2.length c0_2,.slice A0_3 l0_3.length c0_3]] w fun e w'=>e=.returned (.bool r)∧Below w.heap.size w w':=by
 unfold code_Right.f at h
 have HR0:=Aside0.mk hr0_0
 have HC0:=Aside0.mk hc0_0
 clear hr0_0 hc0_0
 have HR1:=Aside0.mk hr0_1
 have HC1:=Aside0.mk hc0_1
 clear hr0_1 hc0_1
 have HR2:=Aside0.mk hr0_2
 have HC2:=Aside0.mk hc0_2
 clear hr0_2 hc0_2
 have HR3:=Aside0.mk hr0_3
 have HC3:=Aside0.mk hc0_3
 clear hr0_3 hc0_3
 have HG:=Aside0.mk hG
 clear hG
 have hb0:(w.alloc (.cells #[.slice A0_0 l0_0.length c0_0,.slice A0_1 l0_1.length c0_1,.slice A0_2 l0_2.length c0_2,.slice A0_3 l0_3.length c0_3] 26)).cell? ⟨w.heap.size,0,none⟩=some (.slice A0_0 l0_0.length c0_0):=by
  rw [World.cell?_alloc_at _ _ _ _ rfl]; rfl
 have hbx1:(w.alloc (.cells #[.slice A0_0 l0_0.length c0_0,.slice A0_1 l0_1.length c0_1,.slice A0_2 l0_2.length c0_2,.slice A0_3 l0_3.length c0_3] 26)).cell? ⟨w.heap.size,1,none⟩=some (.slice A0_1 l0_1.length c0_1):=by
  rw [World.cell?_alloc_at _ _ _ _ rfl]; rfl
 have hb2:(w.alloc (.cells #[.slice A0_0 l0_0.length c0_0,.slice A0_1 l0_1.length c0_1,.slice A0_2 l0_2.length c0_2,.slice A0_3 l0_3.length c0_3] 26)).cell? ⟨w.heap.size,2,none⟩=some (.slice A0_2 l0_2.length c0_2):=by
  rw [World.cell?_alloc_at _ _ _ _ rfl]; rfl
 have hb3:(w.alloc (.cells #[.slice A0_0 l0_0.length c0_0,.slice A0_1 l0_1.length c0_1,.slice A0_2 l0_2.length c0_2,.slice A0_3 l0_3.length c0_3] 26)).cell? ⟨w.heap.size,3,none⟩=some (.slice A0_3 l0_3.length c0_3):=by
  rw [World.cell?_alloc_at _ _ _ _ rfl]; rfl
 by_cases q0:1≤l0_0.length
 rotate_left
 ·obtain rfl:r=false:=by
   rw [if_neg (fun hh=>q0 (by omega))] at h
   exact (Option.some.inj h).symm
  clear h
  go_enter Tryd.func24,Tryd.ntmps24
  go_wp2
  go_ret
  exact ⟨by first|rfl|simp,below_alloc (Below.refl _ _) _⟩
 by_cases q1:l0_0.length≤32768
 rotate_left
 ·obtain rfl:r=false:=by
   rw [if_neg (fun hh=>q1 (by omega))] at h
   exact (Option.some.inj h).symm
  clear h
  go_enter Tryd.func24,Tryd.ntmps24
  go_wp2
  go_ret
  exact ⟨by first|rfl|simp,below_alloc (Below.refl _ _) _⟩
 by_cases q2:l0_1.length≤32768
 rotate_left
 ·obtain rfl:r=false:=by
   rw [if_neg (fun hh=>q2 (by omega))] at h
   exact (Option.some.inj h).symm
  clear h
  go_enter Tryd.func24,Tryd.ntmps24
  go_wp2
  go_ret
  exact ⟨by first|rfl|simp,below_alloc (Below.refl _ _) _⟩
 by_cases q3:l0_2.length≤2000
 rotate_left
 ·obtain rfl:r=false:=by
   rw [if_neg (fun hh=>q3 (by omega))] at h
   exact (Option.some.inj h).symm
  clear h
  go_enter Tryd.func24,Tryd.ntmps24
  go_wp2
  go_ret
  exact ⟨by first|rfl|simp,below_alloc (Below.refl _ _) _⟩
 by_cases q4:l0_3.length≤256
 rotate_left
 ·obtain rfl:r=false:=by
   rw [if_neg (fun hh=>q4 (by omega))] at h
   exact (Option.some.inj h).symm
  clear h
  go_enter Tryd.func24,Tryd.ntmps24
  go_wp2
  go_ret
  exact ⟨by first|rfl|simp,below_alloc (Below.refl _ _) _⟩
 rw [if_pos ⟨q0,q1,q2,q3,q4⟩] at h
 by_cases d:(l0_2.all fun s=>(lex_IsName.f k s).isSome)=true∧(l0_0.all fun x=>(code_may.f k l0_0 l0_1 l0_2 l0_3 x).isSome)=true
 rotate_left
 ·rw [if_neg d] at h; cases h
 rw [if_pos d] at h
 obtain ⟨d1,d2⟩:=d
 have P1:=Aside0.mk (fun W (hb:Below w.heap.size w W)=>con_names (nmP k) A0_2 c0_2 l0_2 W (Kd.C_below HR2.out hb) (fun x hx W' _=>(cl_names k x _ W' (some_getD (List.all_eq_true.1 d1 x hx))).mono (fun _ _ h=>h)))
 have P2:=Aside0.mk (fun W (hb:Below w.heap.size w W)=>con_cells kdP A0_3 c0_3 l0_3 W (Kd.C_below HR3.out hb) (fun x hx W' _=>(cl_cells x _ W' (kind_some x)).mono (fun _ _ h=>h)))
 have P3:=Aside0.mk (fun W (hb:Below w.heap.size w W) (b0:W.cell? ⟨w.heap.size,0,none⟩=some (.slice A0_0 l0_0.length c0_0)) (b1:W.cell? ⟨w.heap.size,1,none⟩=some (.slice A0_1 l0_1.length c0_1)) (b2:W.cell? ⟨w.heap.size,2,none⟩=some (.slice A0_2 l0_2.length c0_2)) (b3:W.cell? ⟨w.heap.size,3,none⟩=some (.slice A0_3 l0_3.length c0_3)) =>
  con_words w.heap.size (wdP k l0_0 l0_1 l0_2 l0_3) A0_0 c0_0 l0_0 W (Kd.C_below HR0.out hb) (fun x hx W' hb'=>(cl_words k A0_0 c0_0 l0_0 A0_1 c0_1 l0_1 A0_2 c0_2 l0_2 A0_3 c0_3 l0_3 w.heap.size x _ W' (Kd.C_below HR0.out (below_then hb hb.size hb')) HC0.out (Kd.C_below HR1.out (below_then hb hb.size hb')) HC1.out (Kd.C_below HR2.out (below_then hb hb.size hb')) HC2.out (Kd.C_below HR3.out (below_then hb hb.size hb')) HC3.out (pw_cell_below hb' b0) (pw_cell_below hb' b1) (pw_cell_below hb' b2) (pw_cell_below hb' b3) (Glob.below HG.out (below_then hb hb.size hb')) (some_getD (List.all_eq_true.1 d2 x hx))).mono (fun _ _ h=>h)))
 clear d1 d2
 obtain ⟨x2,hx2⟩:∃ b,b=l0_2.any (nmP k):=⟨_,rfl⟩
 obtain ⟨x3,hx3⟩:∃ b,b=l0_3.any kdP:=⟨_,rfl⟩
 obtain ⟨x0,hx0⟩:∃ b,b=l0_0.any (wdP k l0_0 l0_1 l0_2 l0_3):=⟨_,rfl⟩
 rw [← hx2,← hx3,← hx0] at h
 rw [← hx2] at P1
 rw [← hx3] at P2
 rw [← hx0] at P3
 clear hx2 hx3 hx0
 have hr:=(Option.some.inj h).symm
 subst hr
 clear h
 have HB0:=Aside0.mk (below_alloc (Below.refl w.heap.size w) (.cells #[.slice A0_0 l0_0.length c0_0,.slice A0_1 l0_1.length c0_1,.slice A0_2 l0_2.length c0_2,.slice A0_3 l0_3.length c0_3] 26))
 cases x2<;>cases x3<;>cases x0
 all_goals
  go_enter Tryd.func24,Tryd.ntmps24
  go_wp2_with (first
   | (go_at_call 43; (with_reducible refine (P1.out _ HB0.out).mono ?_); rintro e w1 ⟨rfl,hb1⟩; have HB1:=Aside0.mk (below_then HB0.out HB0.out.size hb1); have HK0:=Aside0.mk (pw_cell_below hb1 hb0); have HK1:=Aside0.mk (pw_cell_below hb1 hbx1); have HK2:=Aside0.mk (pw_cell_below hb1 hb2); have HK3:=Aside0.mk (pw_cell_below hb1 hb3); clear hb1; have g0:=HK0.out; have g1:=HK1.out; have g2:=HK2.out; have g3:=HK3.out)
   | (go_at_call 46; (with_reducible refine (P2.out _ HB1.out).mono ?_); rintro e w2 ⟨rfl,hb2_⟩; have HB2:=Aside0.mk (below_then HB1.out HB1.out.size hb2_); have HJ0:=Aside0.mk (pw_cell_below hb2_ HK0.out); have HJ1:=Aside0.mk (pw_cell_below hb2_ HK1.out); have HJ2:=Aside0.mk (pw_cell_below hb2_ HK2.out); have HJ3:=Aside0.mk (pw_cell_below hb2_ HK3.out); clear hb2_; have k0:=HJ0.out; have k1:=HJ1.out; have k2:=HJ2.out; have k3:=HJ3.out)
   | (go_at_call 49; (with_reducible refine (P3.out _ HB2.out HJ0.out HJ1.out HJ2.out HJ3.out).mono ?_); rintro e w3 ⟨rfl,hb3_⟩; have HB3:=Aside0.mk (below_then HB2.out HB2.out.size hb3_); clear hb3_))
  go_ret
  exact ⟨by first|rfl|simp,by first|exact HB3.out|exact HB2.out|exact HB1.out⟩
def isthmuslaw18_pick.f (a0:Int) (a1:Int):Option (Int):=if a0 < 0 then (if a1=0 then (none) else (some (Int.tmod (wrap64 (-(wrap64 (a0+1)))) a1))) else (if a1=0 then (none) else (some (Int.tmod a0 a1)))
set_option maxHeartbeats 8000000 in
set_option maxRecDepth 100000 in
theorem isthmuslaw18_pick.calls (a0:Int) (a1:Int) (r:Int) (w:World) (h:isthmuslaw18_pick.f a0 a1=some r) :
  Calls Tryd.prog 28 #[.int .i64 a0,.int .i64 a1] w fun e w'=>e=.returned (.int .i64 r)∧Drawn0 w w':=by
 have H:(if a0 < 0 then (if a1=0 then (none) else (some (Int.tmod (wrap64 (-(wrap64 (a0+1)))) a1))) else (if a1=0 then (none) else (some (Int.tmod a0 a1))))=some r:=h
 clear h
 by_cases c3:a0 < 0
 ·rw [if_pos c3] at H
  have c3b0:decide (a0 < 0)=true:=decide_eq_true c3
  clear c3
  by_cases c4:a1=0
  ·rw [if_pos c4] at H
   exact absurd H (by simp)
  ·rw [if_neg c4] at H
   have c4b0:(a1 == 0)=false:=beq_eq_false_iff_ne.mpr c4
   have c4b1:(a1 != 0)=true:=bne_iff_ne.mpr c4
   obtain rfl:=Option.some.inj H
   go_enter Tryd.func28,Tryd.ntmps28
   go_wp2
   go_ret
   exact ⟨by first|rfl|(simp; done)|(simp [*]; done),by repeat (first|exact Drawn0.refl _|apply Drawn0.step)⟩
 ·rw [if_neg c3] at H
  have c3b0:decide (a0 < 0)=false:=decide_eq_false c3
  clear c3
  by_cases c5:a1=0
  ·rw [if_pos c5] at H
   exact absurd H (by simp)
  ·rw [if_neg c5] at H
   have c5b0:(a1 == 0)=false:=beq_eq_false_iff_ne.mpr c5
   have c5b1:(a1 != 0)=true:=bne_iff_ne.mpr c5
   obtain rfl:=Option.some.inj H
   go_enter Tryd.func28,Tryd.ntmps28
   go_wp2
   go_ret
   exact ⟨by first|rfl|(simp; done)|(simp [*]; done),by repeat (first|exact Drawn0.refl _|apply Drawn0.step)⟩
end Go.Proofs.YtcmdjpolgaejoaaDoor.C
