/- The laws GuardLooks, GuardWords of the program hold, as their cards say: texts put together by a program, 26 of 38. -/
import Derived.Test.YtcmdjpolgaejoaaDoorPB23
import Derived.Test.YtcmdjpolgaejoaaDoorPB24
namespace Go.Proofs.YtcmdjpolgaejoaaDoor.D
open Go.RowKit Go.Proofs.YtcmdjpolgaejoaaDoorW.PrintWords Go.Proofs.YtcmdjpolgaejoaaDoorW.PrintLast Go.Proofs.YtcmdjpolgaejoaaDoorW.PrintMore
attribute [local go_sem] max2_int min2_int max_two min_two max_three min_three max_four min_four
set_option linter.unusedVariables false
set_option linter.unusedSimpArgs false
mutual
def isthmusref20_Word.j0:Nat→Int→Int→Int→ByteArray→ByteArray→ByteArray→Int→Bool→List Int→List Int→List ByteArray→List Int→ByteArray→Int→Bool→Bool→Option (ByteArray×ByteArray×Int×Bool)
 | 0,_,_,_,_,_,_,_,_,_,_,_,_,_,_,_,_=>none
 | k+1,x2,x3,x4,x14,x15,x16,x21,x44,x112000,x112001,x112002,x112003,x113000,x113001,x113002,x113003=>if x44=true then (if x14.size+x14.size≤9223372036854775807 then (some (x14++x14,x14,0,true)) else (none)) else (if x21=11 then ((isthmusref20_code.f x4).bind fun t117=>((isthmusref20_code.f x4).bind fun t118=>(if t117.size+t118.size≤9223372036854775807 then (some (t117++t118,x15,0,true)) else (none)))) else (if x21=12 then (if x14.size+x14.size≤9223372036854775807 then (some (x14++x14,x15,0,true)) else (none)) else (if x21=14 then (isthmusref20_Word.j1 k x2 x3 x14 x15 x16 x21 (x21 == 14) x112000 x112001 x112002 x112003 x113000 x113001 x113002 x113003) else (isthmusref20_Word.j1 k x2 x3 x14 x15 x16 x21 (x21 == 15) x112000 x112001 x112002 x112003 x113000 x113001 x113002 x113003))))
def isthmusref20_Word.j1:Nat→Int→Int→ByteArray→ByteArray→ByteArray→Int→Bool→List Int→List Int→List ByteArray→List Int→ByteArray→Int→Bool→Bool→Option (ByteArray×ByteArray×Int×Bool)
 | 0,_,_,_,_,_,_,_,_,_,_,_,_,_,_,_=>none
 | k+1,x2,x3,x14,x15,x16,x21,x68,x112000,x112001,x112002,x112003,x113000,x113001,x113002,x113003=>if x68=true then (some (x15,(⟨#[]⟩:ByteArray),0,true)) else (if x21=16 then (if x3≤3 then (if x16.size+x16.size≤9223372036854775807 then ((isthmusref13_Gives.f k x3).bind fun t119=>((isthmusref20_code.f t119).bind fun t120=>(some (x16++x16,t120,0,true)))) else (none)) else ((isthmusref13_Gives.f k x3).bind fun t121=>((isthmusref20_code.f t121).bind fun t122=>(some (x16,t122,0,true))))) else (if x21=18 then (if 0≤x3 then (if x3 < (x112003.length:Int) then ((isthmusref20_code.f (rd x112003 x3)).bind fun t124=>((isthmusref20_code.f (rd x112003 x3)).bind fun t126=>(some (t124,t126,0,true)))) else (none)) else (none)) else (if x21=26 then (if x14.size+x15.size≤9223372036854775807 then (if (x14++x15).size+x14.size≤9223372036854775807 then (some ((x14++x15)++x14,x14++x15,0,true)) else (none)) else (none)) else (if x21=27 then (some (x15,(⟨#[]⟩:ByteArray),0,true)) else ((isthmusref20_rounds.f k x113000 x113001 x113002 x113003 x2 x3).bind fun bt127=>(some (bt127.1,bt127.2.1,bt127.2.2.1,bt127.2.2.2)))))))
end
def isthmusref20_Word.f (k:Nat) (l0_0:List Int) (l0_1:List Int) (l0_2:List ByteArray) (l0_3:List Int) (a1_0:ByteArray) (a1_1:Int) (a1_2:Bool) (a1_3:Bool) (a2:Int) (a3:Int) (a4:Int):Option (ByteArray×ByteArray×Int×Bool):=(isthmusref20_code.f 1).bind fun t113=>((isthmusref20_code.f 2).bind fun t114=>((isthmusref20_code.f 3).bind fun t115=>(if a2=1 then ((isthmusref20_code.f a4).bind fun t116=>(some ((⟨#[]⟩:ByteArray),t116,0,true))) else (if a2=2 then (some ((⟨#[]⟩:ByteArray),t115,0,true)) else (if a2=3 then (some ((⟨#[]⟩:ByteArray),t115,0,decide (a3 < a1_1))) else (if a2=4 then (some (t113,t113,0,true)) else (if a2=5 then (some (t114,t114,0,true)) else (if a2=6 then (isthmusref20_Word.j0 k a2 a3 a4 t113 t114 t115 a2 (a2 == 6) l0_0 l0_1 l0_2 l0_3 a1_0 a1_1 a1_2 a1_3) else (if a2=7 then (isthmusref20_Word.j0 k a2 a3 a4 t113 t114 t115 a2 (a2 == 7) l0_0 l0_1 l0_2 l0_3 a1_0 a1_1 a1_2 a1_3) else (if a2=8 then (isthmusref20_Word.j0 k a2 a3 a4 t113 t114 t115 a2 (a2 == 8) l0_0 l0_1 l0_2 l0_3 a1_0 a1_1 a1_2 a1_3) else (if a2=9 then (isthmusref20_Word.j0 k a2 a3 a4 t113 t114 t115 a2 (a2 == 9) l0_0 l0_1 l0_2 l0_3 a1_0 a1_1 a1_2 a1_3) else (isthmusref20_Word.j0 k a2 a3 a4 t113 t114 t115 a2 (a2 == 10) l0_0 l0_1 l0_2 l0_3 a1_0 a1_1 a1_2 a1_3))))))))))))
def isthmusref20_Word.T10:Bool×List (List Nat×List Nat):=(true,[([],[]),([],[]),([],[]),([2],[2]),([1,3],[1,3]),([],[]),([0,5,0,5],[0]),([6,0,5,6],[]),([4,7,0,1,2,3,4,5,6,7],[4])])
def isthmusref20_Word.B10:List Nat:=[0,0,0,4,14,0,33,97,255]
theorem isthmusref20_Word.tab10:rtab .any (opsOf Tryd.f41 10)=isthmusref20_Word.T10:=by kernel_rfl
theorem isthmusref20_Word.bits10:waitsOk isthmusref20_Word.T10.2 isthmusref20_Word.B10=true:=by kernel_rfl
def isthmusref20_Word.T34:Bool×List (List Nat×List Nat):=(true,[([],[]),([0],[0]),([],[]),([1,2],[1,2]),([3],[3]),([4],[4]),([],[]),([6],[6]),([],[]),([7,8],[7,8]),([9],[9]),([10,5],[10]),([5,11,0,1,2,3,4,5],[5]),([11,12,0,1,2,3,4,5,6,7,8,9,10,11,12],[11]),([13,0,1,2,3,4,5,6,7,8,9,10,11,12,13],[]),([14,0,1,2,3,4,5,6,7,8,9,10,11,12,13,14],[])])
def isthmusref20_Word.B34:List Nat:=[0,1,0,7,15,31,0,64,0,448,960,2047,4095,8191,16383,32767]
theorem isthmusref20_Word.tab34:rtab .any (opsOf Tryd.f41 34)=isthmusref20_Word.T34:=by kernel_rfl
theorem isthmusref20_Word.bits34:waitsOk isthmusref20_Word.T34.2 isthmusref20_Word.B34=true:=by kernel_rfl
set_option maxHeartbeats 8000000 in
set_option maxRecDepth 100000 in
theorem isthmusref20_Word.calls (k:Nat) (A0_0:Option Addr) (c0_0:Nat) (l0_0:List Int) (A0_1:Option Addr) (c0_1:Nat) (l0_1:List Int) (A0_2:Option Addr) (c0_2:Nat) (l0_2:List ByteArray) (A0_3:Option Addr) (c0_3:Nat) (l0_3:List Int) (a1_0:ByteArray) (a1_1:Int) (a1_2:Bool) (a1_3:Bool) (a2:Int) (a3:Int) (a4:Int) (r1:ByteArray) (r2:ByteArray) (r3:Int) (r4:Bool) (w:World) (hr0_0:Kd.C (Kd.int .u64) w A0_0 l0_0.length l0_0) (hc0_0:l0_0.length≤c0_0) (hr0_1:Kd.C (Kd.int .i64) w A0_1 l0_1.length l0_1) (hc0_1:l0_1.length≤c0_1) (hr0_2:Kd.C Kd.string w A0_2 l0_2.length l0_2) (hc0_2:l0_2.length≤c0_2) (hr0_3:Kd.C (Kd.int .i64) w A0_3 l0_3.length l0_3) (hc0_3:l0_3.length≤c0_3) (h:isthmusref20_Word.f k l0_0 l0_1 l0_2 l0_3 a1_0 a1_1 a1_2 a1_3 a2 a3 a4=some (r1,r2,r3,r4)) :
  Calls Tryd.prog 41 #[.agg #[.slice A0_0 l0_0.length c0_0,.slice A0_1 l0_1.length c0_1,.slice A0_2 l0_2.length c0_2,.slice A0_3 l0_3.length c0_3],.agg #[.string a1_0,.int .i64 a1_1,.bool a1_2,.bool a1_3],.int .i64 a2,.int .i64 a3,.int .i64 a4] w fun e w'=>e=.returned (.tuple #[.string r1,.string r2,.int .i64 r3,.bool r4])∧Below w.heap.size w w':=by
 have hu26:=Tryd.underlying26
 have hu61:=Tryd.underlying61
 have HR0_0:=Aside0.mk hr0_0
 have HC0_0:=Aside0.mk hc0_0
 clear hr0_0 hc0_0
 have HR0_1:=Aside0.mk hr0_1
 have HC0_1:=Aside0.mk hc0_1
 clear hr0_1 hc0_1
 have HR0_2:=Aside0.mk hr0_2
 have HC0_2:=Aside0.mk hc0_2
 clear hr0_2 hc0_2
 have HR0_3:=Aside0.mk hr0_3
 have HC0_3:=Aside0.mk hc0_3
 clear hr0_3 hc0_3
 have HB:=Aside0.mk (Below.refl w.heap.size w)
 have H:((isthmusref20_code.f 1).bind fun t113=>((isthmusref20_code.f 2).bind fun t114=>((isthmusref20_code.f 3).bind fun t115=>(if a2=1 then ((isthmusref20_code.f a4).bind fun t116=>(some ((⟨#[]⟩:ByteArray),t116,0,true))) else (if a2=2 then (some ((⟨#[]⟩:ByteArray),t115,0,true)) else (if a2=3 then (some ((⟨#[]⟩:ByteArray),t115,0,decide (a3 < a1_1))) else (if a2=4 then (some (t113,t113,0,true)) else (if a2=5 then (some (t114,t114,0,true)) else (if a2=6 then (isthmusref20_Word.j0 k a2 a3 a4 t113 t114 t115 a2 (a2 == 6) l0_0 l0_1 l0_2 l0_3 a1_0 a1_1 a1_2 a1_3) else (if a2=7 then (isthmusref20_Word.j0 k a2 a3 a4 t113 t114 t115 a2 (a2 == 7) l0_0 l0_1 l0_2 l0_3 a1_0 a1_1 a1_2 a1_3) else (if a2=8 then (isthmusref20_Word.j0 k a2 a3 a4 t113 t114 t115 a2 (a2 == 8) l0_0 l0_1 l0_2 l0_3 a1_0 a1_1 a1_2 a1_3) else (if a2=9 then (isthmusref20_Word.j0 k a2 a3 a4 t113 t114 t115 a2 (a2 == 9) l0_0 l0_1 l0_2 l0_3 a1_0 a1_1 a1_2 a1_3) else (isthmusref20_Word.j0 k a2 a3 a4 t113 t114 t115 a2 (a2 == 10) l0_0 l0_1 l0_2 l0_3 a1_0 a1_1 a1_2 a1_3)))))))))))))=some (r1,r2,r3,r4):=h
 clear h
 replace H:=Option.bind_eq_some_iff.mp H
 obtain ⟨t113,A60,H⟩:=H
 replace H:((isthmusref20_code.f 2).bind fun t114=>((isthmusref20_code.f 3).bind fun t115=>(if a2=1 then ((isthmusref20_code.f a4).bind fun t116=>(some ((⟨#[]⟩:ByteArray),t116,0,true))) else (if a2=2 then (some ((⟨#[]⟩:ByteArray),t115,0,true)) else (if a2=3 then (some ((⟨#[]⟩:ByteArray),t115,0,decide (a3 < a1_1))) else (if a2=4 then (some (t113,t113,0,true)) else (if a2=5 then (some (t114,t114,0,true)) else (if a2=6 then (isthmusref20_Word.j0 k a2 a3 a4 t113 t114 t115 a2 (a2 == 6) l0_0 l0_1 l0_2 l0_3 a1_0 a1_1 a1_2 a1_3) else (if a2=7 then (isthmusref20_Word.j0 k a2 a3 a4 t113 t114 t115 a2 (a2 == 7) l0_0 l0_1 l0_2 l0_3 a1_0 a1_1 a1_2 a1_3) else (if a2=8 then (isthmusref20_Word.j0 k a2 a3 a4 t113 t114 t115 a2 (a2 == 8) l0_0 l0_1 l0_2 l0_3 a1_0 a1_1 a1_2 a1_3) else (if a2=9 then (isthmusref20_Word.j0 k a2 a3 a4 t113 t114 t115 a2 (a2 == 9) l0_0 l0_1 l0_2 l0_3 a1_0 a1_1 a1_2 a1_3) else (isthmusref20_Word.j0 k a2 a3 a4 t113 t114 t115 a2 (a2 == 10) l0_0 l0_1 l0_2 l0_3 a1_0 a1_1 a1_2 a1_3))))))))))))=some (r1,r2,r3,r4):=H
 have A6:=Aside0.mk A60
 clear A60
 replace H:=Option.bind_eq_some_iff.mp H
 obtain ⟨t114,A70,H⟩:=H
 replace H:((isthmusref20_code.f 3).bind fun t115=>(if a2=1 then ((isthmusref20_code.f a4).bind fun t116=>(some ((⟨#[]⟩:ByteArray),t116,0,true))) else (if a2=2 then (some ((⟨#[]⟩:ByteArray),t115,0,true)) else (if a2=3 then (some ((⟨#[]⟩:ByteArray),t115,0,decide (a3 < a1_1))) else (if a2=4 then (some (t113,t113,0,true)) else (if a2=5 then (some (t114,t114,0,true)) else (if a2=6 then (isthmusref20_Word.j0 k a2 a3 a4 t113 t114 t115 a2 (a2 == 6) l0_0 l0_1 l0_2 l0_3 a1_0 a1_1 a1_2 a1_3) else (if a2=7 then (isthmusref20_Word.j0 k a2 a3 a4 t113 t114 t115 a2 (a2 == 7) l0_0 l0_1 l0_2 l0_3 a1_0 a1_1 a1_2 a1_3) else (if a2=8 then (isthmusref20_Word.j0 k a2 a3 a4 t113 t114 t115 a2 (a2 == 8) l0_0 l0_1 l0_2 l0_3 a1_0 a1_1 a1_2 a1_3) else (if a2=9 then (isthmusref20_Word.j0 k a2 a3 a4 t113 t114 t115 a2 (a2 == 9) l0_0 l0_1 l0_2 l0_3 a1_0 a1_1 a1_2 a1_3) else (isthmusref20_Word.j0 k a2 a3 a4 t113 t114 t115 a2 (a2 == 10) l0_0 l0_1 l0_2 l0_3 a1_0 a1_1 a1_2 a1_3)))))))))))=some (r1,r2,r3,r4):=H
 have A7:=Aside0.mk A70
 clear A70
 replace H:=Option.bind_eq_some_iff.mp H
 obtain ⟨t115,A80,H⟩:=H
 replace H:(if a2=1 then ((isthmusref20_code.f a4).bind fun t116=>(some ((⟨#[]⟩:ByteArray),t116,0,true))) else (if a2=2 then (some ((⟨#[]⟩:ByteArray),t115,0,true)) else (if a2=3 then (some ((⟨#[]⟩:ByteArray),t115,0,decide (a3 < a1_1))) else (if a2=4 then (some (t113,t113,0,true)) else (if a2=5 then (some (t114,t114,0,true)) else (if a2=6 then (isthmusref20_Word.j0 k a2 a3 a4 t113 t114 t115 a2 (a2 == 6) l0_0 l0_1 l0_2 l0_3 a1_0 a1_1 a1_2 a1_3) else (if a2=7 then (isthmusref20_Word.j0 k a2 a3 a4 t113 t114 t115 a2 (a2 == 7) l0_0 l0_1 l0_2 l0_3 a1_0 a1_1 a1_2 a1_3) else (if a2=8 then (isthmusref20_Word.j0 k a2 a3 a4 t113 t114 t115 a2 (a2 == 8) l0_0 l0_1 l0_2 l0_3 a1_0 a1_1 a1_2 a1_3) else (if a2=9 then (isthmusref20_Word.j0 k a2 a3 a4 t113 t114 t115 a2 (a2 == 9) l0_0 l0_1 l0_2 l0_3 a1_0 a1_1 a1_2 a1_3) else (isthmusref20_Word.j0 k a2 a3 a4 t113 t114 t115 a2 (a2 == 10) l0_0 l0_1 l0_2 l0_3 a1_0 a1_1 a1_2 a1_3))))))))))=some (r1,r2,r3,r4):=H
 have A8:=Aside0.mk A80
 clear A80
 by_cases c9:a2=1
 ·rw [if_pos c9] at H
  have c9b0:(a2 == 1)=true:=beq_iff_eq.mpr c9
  have c9b1:(a2 != 1)=false:=bne_eq_false_iff_eq.mpr c9
  clear c9
  replace H:=Option.bind_eq_some_iff.mp H
  obtain ⟨t116,A100,H⟩:=H
  replace H:(some ((⟨#[]⟩:ByteArray),t116,0,true))=some (r1,r2,r3,r4):=H
  have A10:=Aside0.mk A100
  clear A100
  simp only [Option.some.injEq,Prod.mk.injEq] at H
  obtain ⟨rfl,rfl,rfl,rfl⟩:=H
  go_enter Tryd.func41,Tryd.ntmps41
  go_wp2_with (first|((with_reducible refine gate_dst (N:=5) rfl ?_); refine box_event ?hg (N:=5) ?hd (cs:=#[.slice A0_0 l0_0.length c0_0,.slice A0_1 l0_1.length c0_1,.slice A0_2 l0_2.length c0_2,.slice A0_3 l0_3.length c0_3]) (t:=26) ?hr ?_; (case hd=>rfl); (case hg=>rfl); (case hr=>first|(go_simp; done)|(go_simp; rfl)); intro gb111 hg w11 hbox hb; have n0_:=Aside0.mk (below_step (by repeat (first|(with_reducible first|exact HB.out|apply below_alloc|apply pw_below_drewN|apply below_drew1)|exact HB.out)) hb); have n1_:=Aside0.mk (hbox); have n2_:=Aside0.mk ((by rw [hg]; exact (below_size (by repeat (first|(with_reducible first|exact HB.out|apply below_alloc|apply pw_below_drewN|apply below_drew1)|exact HB.out))):w.heap.size≤gb111)); have n3_:=Aside0.mk ((by rw [hg]; exact (below_size (by repeat (first|(with_reducible first|exact HB.out|apply below_alloc|apply pw_below_drewN|apply below_drew1)|exact HB.out))):w.heap.size≤gb111)); clear HB; have HB:=n0_; have BK111:=n1_; have GW111:=n2_; have GE111:=n3_; clear n0_ n1_ n2_ n3_; clear hb hbox hg)|((with_reducible refine gate_dst (N:=6) rfl ?_); refine box_event ?hg (N:=6) ?hd (cs:=#[.string a1_0,.int .i64 a1_1,.bool a1_2,.bool a1_3]) (t:=61) ?hr ?_; (case hd=>rfl); (case hg=>rfl); (case hr=>first|(go_simp; done)|(go_simp; rfl)); intro gb112 hg w12 hbox hb; have n0_:=Aside0.mk (blk_below (g:=gb111) (o:=.cells #[.slice A0_0 l0_0.length c0_0,.slice A0_1 l0_1.length c0_1,.slice A0_2 l0_2.length c0_2,.slice A0_3 l0_3.length c0_3] 26 (0,0)) (by (with_reducible repeat (first|refine blk_drewN ?_ _|refine blk_drew ?_|refine blk_alloc ?_ _)); exact BK111.out) hb); have n1_:=Aside0.mk (below_step (by repeat (first|(with_reducible first|exact HB.out|apply below_alloc|apply pw_below_drewN|apply below_drew1|refine below_set ?_ GE111.out)|exact HB.out)) hb); have n2_:=Aside0.mk (hbox); have n3_:=Aside0.mk ((by rw [hg]; exact (below_size (by repeat (first|(with_reducible first|exact HB.out|apply below_alloc|apply pw_below_drewN|apply below_drew1|refine below_set ?_ GE111.out)|exact HB.out))):w.heap.size≤gb112)); have n4_:=Aside0.mk ((by rw [hg]; exact (below_size (by repeat (first|(with_reducible first|exact HB.out|apply below_alloc|apply pw_below_drewN|apply below_drew1|refine below_set ?_ GE111.out)|exact HB.out))):w.heap.size≤gb112)); have n5_:=Aside0.mk ((by rw [hg]; exact Nat.ne_of_lt (blk_lt (g:=gb111) (o:=.cells #[.slice A0_0 l0_0.length c0_0,.slice A0_1 l0_1.length c0_1,.slice A0_2 l0_2.length c0_2,.slice A0_3 l0_3.length c0_3] 26 (0,0)) (by (with_reducible repeat (first|refine blk_drewN ?_ _|refine blk_drew ?_|refine blk_alloc ?_ _)); exact BK111.out)):gb111≠gb112)); have n6_:=Aside0.mk ((by rw [hg]; exact Nat.ne_of_gt (blk_lt (g:=gb111) (o:=.cells #[.slice A0_0 l0_0.length c0_0,.slice A0_1 l0_1.length c0_1,.slice A0_2 l0_2.length c0_2,.slice A0_3 l0_3.length c0_3] 26 (0,0)) (by (with_reducible repeat (first|refine blk_drewN ?_ _|refine blk_drew ?_|refine blk_alloc ?_ _)); exact BK111.out)):gb112≠gb111)); clear BK111; clear HB; have BK111:=n0_; have HB:=n1_; have BK112:=n2_; have GW112:=n3_; have GE112:=n4_; have NB111_112:=n5_; have NB112_111:=n6_; clear n0_ n1_ n2_ n3_ n4_ n5_ n6_; clear hb hbox hg)|((with_reducible refine gate_callee (f:=77) rfl ?_); refine goesL_ (some 18) rfl rfl Tryd.func77 (by kernel_rfl) rfl #[.int .i64 1] rfl (by (try simp only [List.map_toArray,List.map_cons,List.map_nil]); first|done|rfl|(simp only [List.length_drop,List.length_take]; rfl)) ?_; (with_reducible refine (isthmusref20_code.calls 1 t113 _ A6.out).mono ?_); rintro e w13 ⟨rfl,hb⟩; refine ⟨_,rfl,?_⟩; have n0_:=Aside0.mk (blk_below (g:=gb111) (o:=.cells #[.slice A0_0 l0_0.length c0_0,.slice A0_1 l0_1.length c0_1,.slice A0_2 l0_2.length c0_2,.slice A0_3 l0_3.length c0_3] 26 (0,0)) (by (with_reducible repeat (first|refine blk_drewN ?_ _|refine blk_drew ?_|refine blk_alloc ?_ _)); exact BK111.out) hb); have n1_:=Aside0.mk (blk_below (g:=gb112) (o:=.cells #[.string a1_0,.int .i64 a1_1,.bool a1_2,.bool a1_3] 61 (0,0)) (by (with_reducible repeat (first|refine blk_drewN ?_ _|refine blk_drew ?_|refine blk_alloc ?_ _)); exact BK112.out) hb); have n2_:=Aside0.mk (below_step (by repeat (first|(with_reducible first|exact HB.out|apply below_alloc|apply pw_below_drewN|apply below_drew1|refine below_set ?_ GE111.out|refine below_set ?_ GE112.out)|exact HB.out)) hb); clear BK111; clear BK112; clear HB; have BK111:=n0_; have BK112:=n1_; have HB:=n2_; clear n0_ n1_ n2_; (try clear hb); (try clear hb2); (try clear hk); (try clear hi))|((with_reducible refine gate_callee (f:=77) rfl ?_); refine goesL_ (some 19) rfl rfl Tryd.func77 (by kernel_rfl) rfl #[.int .i64 2] rfl (by (try simp only [List.map_toArray,List.map_cons,List.map_nil]); first|done|rfl|(simp only [List.length_drop,List.length_take]; rfl)) ?_; (with_reducible refine (isthmusref20_code.calls 2 t114 _ A7.out).mono ?_); rintro e w14 ⟨rfl,hb⟩; refine ⟨_,rfl,?_⟩; have n0_:=Aside0.mk (blk_below (g:=gb111) (o:=.cells #[.slice A0_0 l0_0.length c0_0,.slice A0_1 l0_1.length c0_1,.slice A0_2 l0_2.length c0_2,.slice A0_3 l0_3.length c0_3] 26 (0,0)) (by (with_reducible repeat (first|refine blk_drewN ?_ _|refine blk_drew ?_|refine blk_alloc ?_ _)); exact BK111.out) hb); have n1_:=Aside0.mk (blk_below (g:=gb112) (o:=.cells #[.string a1_0,.int .i64 a1_1,.bool a1_2,.bool a1_3] 61 (0,0)) (by (with_reducible repeat (first|refine blk_drewN ?_ _|refine blk_drew ?_|refine blk_alloc ?_ _)); exact BK112.out) hb); have n2_:=Aside0.mk (below_step (by repeat (first|(with_reducible first|exact HB.out|apply below_alloc|apply pw_below_drewN|apply below_drew1|refine below_set ?_ GE111.out|refine below_set ?_ GE112.out)|exact HB.out)) hb); clear BK111; clear BK112; clear HB; have BK111:=n0_; have BK112:=n1_; have HB:=n2_; clear n0_ n1_ n2_; (try clear hb); (try clear hb2); (try clear hk); (try clear hi))|((with_reducible refine gate_callee (f:=77) rfl ?_); refine goesL_ (some 20) rfl rfl Tryd.func77 (by kernel_rfl) rfl #[.int .i64 3] rfl (by (try simp only [List.map_toArray,List.map_cons,List.map_nil]); first|done|rfl|(simp only [List.length_drop,List.length_take]; rfl)) ?_; (with_reducible refine (isthmusref20_code.calls 3 t115 _ A8.out).mono ?_); rintro e w15 ⟨rfl,hb⟩; refine ⟨_,rfl,?_⟩; have n0_:=Aside0.mk (blk_below (g:=gb111) (o:=.cells #[.slice A0_0 l0_0.length c0_0,.slice A0_1 l0_1.length c0_1,.slice A0_2 l0_2.length c0_2,.slice A0_3 l0_3.length c0_3] 26 (0,0)) (by (with_reducible repeat (first|refine blk_drewN ?_ _|refine blk_drew ?_|refine blk_alloc ?_ _)); exact BK111.out) hb); have n1_:=Aside0.mk (blk_below (g:=gb112) (o:=.cells #[.string a1_0,.int .i64 a1_1,.bool a1_2,.bool a1_3] 61 (0,0)) (by (with_reducible repeat (first|refine blk_drewN ?_ _|refine blk_drew ?_|refine blk_alloc ?_ _)); exact BK112.out) hb); have n2_:=Aside0.mk (below_step (by repeat (first|(with_reducible first|exact HB.out|apply below_alloc|apply pw_below_drewN|apply below_drew1|refine below_set ?_ GE111.out|refine below_set ?_ GE112.out)|exact HB.out)) hb); clear BK111; clear BK112; clear HB; have BK111:=n0_; have BK112:=n1_; have HB:=n2_; clear n0_ n1_ n2_; (try clear hb); (try clear hb2); (try clear hk); (try clear hi))|((with_reducible refine gate_callee (f:=77) rfl ?_); refine goesL_ (some 25) rfl rfl Tryd.func77 (by kernel_rfl) rfl #[.int .i64 a4] rfl (by (try simp only [List.map_toArray,List.map_cons,List.map_nil]); first|done|rfl|(simp only [List.length_drop,List.length_take]; rfl)) ?_; (with_reducible refine (isthmusref20_code.calls a4 t116 _ A10.out).mono ?_); rintro e w16 ⟨rfl,hb⟩; refine ⟨_,rfl,?_⟩; have n0_:=Aside0.mk (blk_below (g:=gb111) (o:=.cells #[.slice A0_0 l0_0.length c0_0,.slice A0_1 l0_1.length c0_1,.slice A0_2 l0_2.length c0_2,.slice A0_3 l0_3.length c0_3] 26 (0,0)) (by (with_reducible repeat (first|refine blk_drewN ?_ _|refine blk_drew ?_|refine blk_alloc ?_ _)); exact BK111.out) hb); have n1_:=Aside0.mk (blk_below (g:=gb112) (o:=.cells #[.string a1_0,.int .i64 a1_1,.bool a1_2,.bool a1_3] 61 (0,0)) (by (with_reducible repeat (first|refine blk_drewN ?_ _|refine blk_drew ?_|refine blk_alloc ?_ _)); exact BK112.out) hb); have n2_:=Aside0.mk (below_step (by repeat (first|(with_reducible first|exact HB.out|apply below_alloc|apply pw_below_drewN|apply below_drew1|refine below_set ?_ GE111.out|refine below_set ?_ GE112.out)|exact HB.out)) hb); clear BK111; clear BK112; clear HB; have BK111:=n0_; have BK112:=n1_; have HB:=n2_; clear n0_ n1_ n2_; (try clear hb); (try clear hb2); (try clear hk); (try clear hi)))
  refine bodyPost_ret (results_list (rs:=[.tmp 10,.tmp 11,.tmp 12,.tmp 13]) rfl (by simp) (.tmp (.tmp (.tmp (.tmp .nil))))) rfl ?_
  exact ⟨by first|rfl|(simp [errW_none,errW_some]<;>rfl)|(simp [*,errW_none,errW_some]<;>rfl),by repeat (first|(with_reducible first|exact HB.out|apply below_alloc|apply pw_below_drewN|apply below_drew1|refine below_set ?_ GE111.out|refine below_set ?_ GE112.out)|exact HB.out)⟩
 ·rw [if_neg c9] at H
  have c9b0:(a2 == 1)=false:=beq_eq_false_iff_ne.mpr c9
  have c9b1:(a2 != 1)=true:=bne_iff_ne.mpr c9
  by_cases c17:a2=2
  ·rw [if_pos c17] at H
   have c17b0:(a2 == 2)=true:=beq_iff_eq.mpr c17
   have c17b1:(a2 != 2)=false:=bne_eq_false_iff_eq.mpr c17
   clear c17
   simp only [Option.some.injEq,Prod.mk.injEq] at H
   obtain ⟨rfl,rfl,rfl,rfl⟩:=H
   go_enter Tryd.func41,Tryd.ntmps41
   go_wp2_with (first|((with_reducible refine gate_dst (N:=5) rfl ?_); refine box_event ?hg (N:=5) ?hd (cs:=#[.slice A0_0 l0_0.length c0_0,.slice A0_1 l0_1.length c0_1,.slice A0_2 l0_2.length c0_2,.slice A0_3 l0_3.length c0_3]) (t:=26) ?hr ?_; (case hd=>rfl); (case hg=>rfl); (case hr=>first|(go_simp; done)|(go_simp; rfl)); intro gb111 hg w18 hbox hb; have n0_:=Aside0.mk (below_step (by repeat (first|(with_reducible first|exact HB.out|apply below_alloc|apply pw_below_drewN|apply below_drew1)|exact HB.out)) hb); have n1_:=Aside0.mk (hbox); have n2_:=Aside0.mk ((by rw [hg]; exact (below_size (by repeat (first|(with_reducible first|exact HB.out|apply below_alloc|apply pw_below_drewN|apply below_drew1)|exact HB.out))):w.heap.size≤gb111)); have n3_:=Aside0.mk ((by rw [hg]; exact (below_size (by repeat (first|(with_reducible first|exact HB.out|apply below_alloc|apply pw_below_drewN|apply below_drew1)|exact HB.out))):w.heap.size≤gb111)); clear HB; have HB:=n0_; have BK111:=n1_; have GW111:=n2_; have GE111:=n3_; clear n0_ n1_ n2_ n3_; clear hb hbox hg)|((with_reducible refine gate_dst (N:=6) rfl ?_); refine box_event ?hg (N:=6) ?hd (cs:=#[.string a1_0,.int .i64 a1_1,.bool a1_2,.bool a1_3]) (t:=61) ?hr ?_; (case hd=>rfl); (case hg=>rfl); (case hr=>first|(go_simp; done)|(go_simp; rfl)); intro gb112 hg w19 hbox hb; have n0_:=Aside0.mk (blk_below (g:=gb111) (o:=.cells #[.slice A0_0 l0_0.length c0_0,.slice A0_1 l0_1.length c0_1,.slice A0_2 l0_2.length c0_2,.slice A0_3 l0_3.length c0_3] 26 (0,0)) (by (with_reducible repeat (first|refine blk_drewN ?_ _|refine blk_drew ?_|refine blk_alloc ?_ _)); exact BK111.out) hb); have n1_:=Aside0.mk (below_step (by repeat (first|(with_reducible first|exact HB.out|apply below_alloc|apply pw_below_drewN|apply below_drew1|refine below_set ?_ GE111.out)|exact HB.out)) hb); have n2_:=Aside0.mk (hbox); have n3_:=Aside0.mk ((by rw [hg]; exact (below_size (by repeat (first|(with_reducible first|exact HB.out|apply below_alloc|apply pw_below_drewN|apply below_drew1|refine below_set ?_ GE111.out)|exact HB.out))):w.heap.size≤gb112)); have n4_:=Aside0.mk ((by rw [hg]; exact (below_size (by repeat (first|(with_reducible first|exact HB.out|apply below_alloc|apply pw_below_drewN|apply below_drew1|refine below_set ?_ GE111.out)|exact HB.out))):w.heap.size≤gb112)); have n5_:=Aside0.mk ((by rw [hg]; exact Nat.ne_of_lt (blk_lt (g:=gb111) (o:=.cells #[.slice A0_0 l0_0.length c0_0,.slice A0_1 l0_1.length c0_1,.slice A0_2 l0_2.length c0_2,.slice A0_3 l0_3.length c0_3] 26 (0,0)) (by (with_reducible repeat (first|refine blk_drewN ?_ _|refine blk_drew ?_|refine blk_alloc ?_ _)); exact BK111.out)):gb111≠gb112)); have n6_:=Aside0.mk ((by rw [hg]; exact Nat.ne_of_gt (blk_lt (g:=gb111) (o:=.cells #[.slice A0_0 l0_0.length c0_0,.slice A0_1 l0_1.length c0_1,.slice A0_2 l0_2.length c0_2,.slice A0_3 l0_3.length c0_3] 26 (0,0)) (by (with_reducible repeat (first|refine blk_drewN ?_ _|refine blk_drew ?_|refine blk_alloc ?_ _)); exact BK111.out)):gb112≠gb111)); clear BK111; clear HB; have BK111:=n0_; have HB:=n1_; have BK112:=n2_; have GW112:=n3_; have GE112:=n4_; have NB111_112:=n5_; have NB112_111:=n6_; clear n0_ n1_ n2_ n3_ n4_ n5_ n6_; clear hb hbox hg)|((with_reducible refine gate_callee (f:=77) rfl ?_); refine goesL_ (some 18) rfl rfl Tryd.func77 (by kernel_rfl) rfl #[.int .i64 1] rfl (by (try simp only [List.map_toArray,List.map_cons,List.map_nil]); first|done|rfl|(simp only [List.length_drop,List.length_take]; rfl)) ?_; (with_reducible refine (isthmusref20_code.calls 1 t113 _ A6.out).mono ?_); rintro e w20 ⟨rfl,hb⟩; refine ⟨_,rfl,?_⟩; have n0_:=Aside0.mk (blk_below (g:=gb111) (o:=.cells #[.slice A0_0 l0_0.length c0_0,.slice A0_1 l0_1.length c0_1,.slice A0_2 l0_2.length c0_2,.slice A0_3 l0_3.length c0_3] 26 (0,0)) (by (with_reducible repeat (first|refine blk_drewN ?_ _|refine blk_drew ?_|refine blk_alloc ?_ _)); exact BK111.out) hb); have n1_:=Aside0.mk (blk_below (g:=gb112) (o:=.cells #[.string a1_0,.int .i64 a1_1,.bool a1_2,.bool a1_3] 61 (0,0)) (by (with_reducible repeat (first|refine blk_drewN ?_ _|refine blk_drew ?_|refine blk_alloc ?_ _)); exact BK112.out) hb); have n2_:=Aside0.mk (below_step (by repeat (first|(with_reducible first|exact HB.out|apply below_alloc|apply pw_below_drewN|apply below_drew1|refine below_set ?_ GE111.out|refine below_set ?_ GE112.out)|exact HB.out)) hb); clear BK111; clear BK112; clear HB; have BK111:=n0_; have BK112:=n1_; have HB:=n2_; clear n0_ n1_ n2_; (try clear hb); (try clear hb2); (try clear hk); (try clear hi))|((with_reducible refine gate_callee (f:=77) rfl ?_); refine goesL_ (some 19) rfl rfl Tryd.func77 (by kernel_rfl) rfl #[.int .i64 2] rfl (by (try simp only [List.map_toArray,List.map_cons,List.map_nil]); first|done|rfl|(simp only [List.length_drop,List.length_take]; rfl)) ?_; (with_reducible refine (isthmusref20_code.calls 2 t114 _ A7.out).mono ?_); rintro e w21 ⟨rfl,hb⟩; refine ⟨_,rfl,?_⟩; have n0_:=Aside0.mk (blk_below (g:=gb111) (o:=.cells #[.slice A0_0 l0_0.length c0_0,.slice A0_1 l0_1.length c0_1,.slice A0_2 l0_2.length c0_2,.slice A0_3 l0_3.length c0_3] 26 (0,0)) (by (with_reducible repeat (first|refine blk_drewN ?_ _|refine blk_drew ?_|refine blk_alloc ?_ _)); exact BK111.out) hb); have n1_:=Aside0.mk (blk_below (g:=gb112) (o:=.cells #[.string a1_0,.int .i64 a1_1,.bool a1_2,.bool a1_3] 61 (0,0)) (by (with_reducible repeat (first|refine blk_drewN ?_ _|refine blk_drew ?_|refine blk_alloc ?_ _)); exact BK112.out) hb); have n2_:=Aside0.mk (below_step (by repeat (first|(with_reducible first|exact HB.out|apply below_alloc|apply pw_below_drewN|apply below_drew1|refine below_set ?_ GE111.out|refine below_set ?_ GE112.out)|exact HB.out)) hb); clear BK111; clear BK112; clear HB; have BK111:=n0_; have BK112:=n1_; have HB:=n2_; clear n0_ n1_ n2_; (try clear hb); (try clear hb2); (try clear hk); (try clear hi))|((with_reducible refine gate_callee (f:=77) rfl ?_); refine goesL_ (some 20) rfl rfl Tryd.func77 (by kernel_rfl) rfl #[.int .i64 3] rfl (by (try simp only [List.map_toArray,List.map_cons,List.map_nil]); first|done|rfl|(simp only [List.length_drop,List.length_take]; rfl)) ?_; (with_reducible refine (isthmusref20_code.calls 3 t115 _ A8.out).mono ?_); rintro e w22 ⟨rfl,hb⟩; refine ⟨_,rfl,?_⟩; have n0_:=Aside0.mk (blk_below (g:=gb111) (o:=.cells #[.slice A0_0 l0_0.length c0_0,.slice A0_1 l0_1.length c0_1,.slice A0_2 l0_2.length c0_2,.slice A0_3 l0_3.length c0_3] 26 (0,0)) (by (with_reducible repeat (first|refine blk_drewN ?_ _|refine blk_drew ?_|refine blk_alloc ?_ _)); exact BK111.out) hb); have n1_:=Aside0.mk (blk_below (g:=gb112) (o:=.cells #[.string a1_0,.int .i64 a1_1,.bool a1_2,.bool a1_3] 61 (0,0)) (by (with_reducible repeat (first|refine blk_drewN ?_ _|refine blk_drew ?_|refine blk_alloc ?_ _)); exact BK112.out) hb); have n2_:=Aside0.mk (below_step (by repeat (first|(with_reducible first|exact HB.out|apply below_alloc|apply pw_below_drewN|apply below_drew1|refine below_set ?_ GE111.out|refine below_set ?_ GE112.out)|exact HB.out)) hb); clear BK111; clear BK112; clear HB; have BK111:=n0_; have BK112:=n1_; have HB:=n2_; clear n0_ n1_ n2_; (try clear hb); (try clear hb2); (try clear hk); (try clear hi)))
   refine bodyPost_ret (results_list (rs:=[.tmp 10,.tmp 11,.tmp 12,.tmp 13]) rfl (by simp) (.tmp (.tmp (.tmp (.tmp .nil))))) rfl ?_
   exact ⟨by first|rfl|(simp [errW_none,errW_some]<;>rfl)|(simp [*,errW_none,errW_some]<;>rfl),by repeat (first|(with_reducible first|exact HB.out|apply below_alloc|apply pw_below_drewN|apply below_drew1|refine below_set ?_ GE111.out|refine below_set ?_ GE112.out)|exact HB.out)⟩
  ·rw [if_neg c17] at H
   have c17b0:(a2 == 2)=false:=beq_eq_false_iff_ne.mpr c17
   have c17b1:(a2 != 2)=true:=bne_iff_ne.mpr c17
   by_cases c23:a2=3
   ·rw [if_pos c23] at H
    have c23b0:(a2 == 3)=true:=beq_iff_eq.mpr c23
    have c23b1:(a2 != 3)=false:=bne_eq_false_iff_eq.mpr c23
    clear c23
    simp only [Option.some.injEq,Prod.mk.injEq] at H
    obtain ⟨rfl,rfl,rfl,rfl⟩:=H
    go_enter Tryd.func41,Tryd.ntmps41
    try go_wp2_with (first|((with_reducible refine gate_dst (N:=5) rfl ?_); refine box_event ?hg (N:=5) ?hd (cs:=#[.slice A0_0 l0_0.length c0_0,.slice A0_1 l0_1.length c0_1,.slice A0_2 l0_2.length c0_2,.slice A0_3 l0_3.length c0_3]) (t:=26) ?hr ?_; (case hd=>rfl); (case hg=>rfl); (case hr=>first|(go_simp; done)|(go_simp; rfl)); intro gb111 hg w24 hbox hb; have n0_:=Aside0.mk (below_step (by repeat (first|(with_reducible first|exact HB.out|apply below_alloc|apply pw_below_drewN|apply below_drew1)|exact HB.out)) hb); have n1_:=Aside0.mk (hbox); have n2_:=Aside0.mk ((by rw [hg]; exact (below_size (by repeat (first|(with_reducible first|exact HB.out|apply below_alloc|apply pw_below_drewN|apply below_drew1)|exact HB.out))):w.heap.size≤gb111)); have n3_:=Aside0.mk ((by rw [hg]; exact (below_size (by repeat (first|(with_reducible first|exact HB.out|apply below_alloc|apply pw_below_drewN|apply below_drew1)|exact HB.out))):w.heap.size≤gb111)); clear HB; have HB:=n0_; have BK111:=n1_; have GW111:=n2_; have GE111:=n3_; clear n0_ n1_ n2_ n3_; clear hb hbox hg)|((with_reducible refine gate_dst (N:=6) rfl ?_); refine box_event ?hg (N:=6) ?hd (cs:=#[.string a1_0,.int .i64 a1_1,.bool a1_2,.bool a1_3]) (t:=61) ?hr ?_; (case hd=>rfl); (case hg=>rfl); (case hr=>first|(go_simp; done)|(go_simp; rfl)); intro gb112 hg w25 hbox hb; have n0_:=Aside0.mk (blk_below (g:=gb111) (o:=.cells #[.slice A0_0 l0_0.length c0_0,.slice A0_1 l0_1.length c0_1,.slice A0_2 l0_2.length c0_2,.slice A0_3 l0_3.length c0_3] 26 (0,0)) (by (with_reducible repeat (first|refine blk_drewN ?_ _|refine blk_drew ?_|refine blk_alloc ?_ _)); exact BK111.out) hb); have n1_:=Aside0.mk (below_step (by repeat (first|(with_reducible first|exact HB.out|apply below_alloc|apply pw_below_drewN|apply below_drew1|refine below_set ?_ GE111.out)|exact HB.out)) hb); have n2_:=Aside0.mk (hbox); have n3_:=Aside0.mk ((by rw [hg]; exact (below_size (by repeat (first|(with_reducible first|exact HB.out|apply below_alloc|apply pw_below_drewN|apply below_drew1|refine below_set ?_ GE111.out)|exact HB.out))):w.heap.size≤gb112)); have n4_:=Aside0.mk ((by rw [hg]; exact (below_size (by repeat (first|(with_reducible first|exact HB.out|apply below_alloc|apply pw_below_drewN|apply below_drew1|refine below_set ?_ GE111.out)|exact HB.out))):w.heap.size≤gb112)); have n5_:=Aside0.mk ((by rw [hg]; exact Nat.ne_of_lt (blk_lt (g:=gb111) (o:=.cells #[.slice A0_0 l0_0.length c0_0,.slice A0_1 l0_1.length c0_1,.slice A0_2 l0_2.length c0_2,.slice A0_3 l0_3.length c0_3] 26 (0,0)) (by (with_reducible repeat (first|refine blk_drewN ?_ _|refine blk_drew ?_|refine blk_alloc ?_ _)); exact BK111.out)):gb111≠gb112)); have n6_:=Aside0.mk ((by rw [hg]; exact Nat.ne_of_gt (blk_lt (g:=gb111) (o:=.cells #[.slice A0_0 l0_0.length c0_0,.slice A0_1 l0_1.length c0_1,.slice A0_2 l0_2.length c0_2,.slice A0_3 l0_3.length c0_3] 26 (0,0)) (by (with_reducible repeat (first|refine blk_drewN ?_ _|refine blk_drew ?_|refine blk_alloc ?_ _)); exact BK111.out)):gb112≠gb111)); clear BK111; clear HB; have BK111:=n0_; have HB:=n1_; have BK112:=n2_; have GW112:=n3_; have GE112:=n4_; have NB111_112:=n5_; have NB112_111:=n6_; clear n0_ n1_ n2_ n3_ n4_ n5_ n6_; clear hb hbox hg)|((with_reducible refine gate_callee (f:=77) rfl ?_); refine goesL_ (some 18) rfl rfl Tryd.func77 (by kernel_rfl) rfl #[.int .i64 1] rfl (by (try simp only [List.map_toArray,List.map_cons,List.map_nil]); first|done|rfl|(simp only [List.length_drop,List.length_take]; rfl)) ?_; (with_reducible refine (isthmusref20_code.calls 1 t113 _ A6.out).mono ?_); rintro e w26 ⟨rfl,hb⟩; refine ⟨_,rfl,?_⟩; have n0_:=Aside0.mk (blk_below (g:=gb111) (o:=.cells #[.slice A0_0 l0_0.length c0_0,.slice A0_1 l0_1.length c0_1,.slice A0_2 l0_2.length c0_2,.slice A0_3 l0_3.length c0_3] 26 (0,0)) (by (with_reducible repeat (first|refine blk_drewN ?_ _|refine blk_drew ?_|refine blk_alloc ?_ _)); exact BK111.out) hb); have n1_:=Aside0.mk (blk_below (g:=gb112) (o:=.cells #[.string a1_0,.int .i64 a1_1,.bool a1_2,.bool a1_3] 61 (0,0)) (by (with_reducible repeat (first|refine blk_drewN ?_ _|refine blk_drew ?_|refine blk_alloc ?_ _)); exact BK112.out) hb); have n2_:=Aside0.mk (below_step (by repeat (first|(with_reducible first|exact HB.out|apply below_alloc|apply pw_below_drewN|apply below_drew1|refine below_set ?_ GE111.out|refine below_set ?_ GE112.out)|exact HB.out)) hb); clear BK111; clear BK112; clear HB; have BK111:=n0_; have BK112:=n1_; have HB:=n2_; clear n0_ n1_ n2_; (try clear hb); (try clear hb2); (try clear hk); (try clear hi))|((with_reducible refine gate_callee (f:=77) rfl ?_); refine goesL_ (some 19) rfl rfl Tryd.func77 (by kernel_rfl) rfl #[.int .i64 2] rfl (by (try simp only [List.map_toArray,List.map_cons,List.map_nil]); first|done|rfl|(simp only [List.length_drop,List.length_take]; rfl)) ?_; (with_reducible refine (isthmusref20_code.calls 2 t114 _ A7.out).mono ?_); rintro e w27 ⟨rfl,hb⟩; refine ⟨_,rfl,?_⟩; have n0_:=Aside0.mk (blk_below (g:=gb111) (o:=.cells #[.slice A0_0 l0_0.length c0_0,.slice A0_1 l0_1.length c0_1,.slice A0_2 l0_2.length c0_2,.slice A0_3 l0_3.length c0_3] 26 (0,0)) (by (with_reducible repeat (first|refine blk_drewN ?_ _|refine blk_drew ?_|refine blk_alloc ?_ _)); exact BK111.out) hb); have n1_:=Aside0.mk (blk_below (g:=gb112) (o:=.cells #[.string a1_0,.int .i64 a1_1,.bool a1_2,.bool a1_3] 61 (0,0)) (by (with_reducible repeat (first|refine blk_drewN ?_ _|refine blk_drew ?_|refine blk_alloc ?_ _)); exact BK112.out) hb); have n2_:=Aside0.mk (below_step (by repeat (first|(with_reducible first|exact HB.out|apply below_alloc|apply pw_below_drewN|apply below_drew1|refine below_set ?_ GE111.out|refine below_set ?_ GE112.out)|exact HB.out)) hb); clear BK111; clear BK112; clear HB; have BK111:=n0_; have BK112:=n1_; have HB:=n2_; clear n0_ n1_ n2_; (try clear hb); (try clear hb2); (try clear hk); (try clear hi))|((with_reducible refine gate_callee (f:=77) rfl ?_); refine goesL_ (some 20) rfl rfl Tryd.func77 (by kernel_rfl) rfl #[.int .i64 3] rfl (by (try simp only [List.map_toArray,List.map_cons,List.map_nil]); first|done|rfl|(simp only [List.length_drop,List.length_take]; rfl)) ?_; (with_reducible refine (isthmusref20_code.calls 3 t115 _ A8.out).mono ?_); rintro e w28 ⟨rfl,hb⟩; refine ⟨_,rfl,?_⟩; have n0_:=Aside0.mk (blk_below (g:=gb111) (o:=.cells #[.slice A0_0 l0_0.length c0_0,.slice A0_1 l0_1.length c0_1,.slice A0_2 l0_2.length c0_2,.slice A0_3 l0_3.length c0_3] 26 (0,0)) (by (with_reducible repeat (first|refine blk_drewN ?_ _|refine blk_drew ?_|refine blk_alloc ?_ _)); exact BK111.out) hb); have n1_:=Aside0.mk (blk_below (g:=gb112) (o:=.cells #[.string a1_0,.int .i64 a1_1,.bool a1_2,.bool a1_3] 61 (0,0)) (by (with_reducible repeat (first|refine blk_drewN ?_ _|refine blk_drew ?_|refine blk_alloc ?_ _)); exact BK112.out) hb); have n2_:=Aside0.mk (below_step (by repeat (first|(with_reducible first|exact HB.out|apply below_alloc|apply pw_below_drewN|apply below_drew1|refine below_set ?_ GE111.out|refine below_set ?_ GE112.out)|exact HB.out)) hb); clear BK111; clear BK112; clear HB; have BK111:=n0_; have BK112:=n1_; have HB:=n2_; clear n0_ n1_ n2_; (try clear hb); (try clear hb2); (try clear hk); (try clear hi)))
    have n0_:=Aside0.mk (blk_drew BK111.out)
    have n1_:=Aside0.mk (blk_drew BK112.out)
    have n2_:=Aside0.mk (below_drew1 HB.out)
    clear BK111
    clear BK112
    clear HB
    have BK111:=n0_
    have BK112:=n1_
    have HB:=n2_
    clear n0_ n1_ n2_
    refine start_ (n:=9) (S:=fun w'=>w'.cell? ⟨gb112,0,none⟩=some (.string a1_0)∧w'.cell? ⟨gb112,1,none⟩=some (.int .i64 a1_1)∧w'.cell? ⟨gb112,2,none⟩=some (.bool a1_2)∧w'.cell? ⟨gb112,3,none⟩=some (.bool a1_3)) (ds:=[]) #[false,false,false,false,false,false,false,false,false] (by kernel_rfl) rfl rfl ⟨(blk_cell BK112.out 0).trans rfl,(blk_cell BK112.out 1).trans rfl,(blk_cell BK112.out 2).trans rfl,(blk_cell BK112.out 3).trans rfl⟩ (fun hHeld=>?_); refine with_tabW isthmusref20_Word.tab10 isthmusref20_Word.bits10 (fun HT_ HW_=>?_)
    generalize w28.drew=w29 at BK111 BK112 HB hHeld ⊢
    refine pure_ (i:=0) (N:=some 31) (v:=?_) (a':=?_) (bl_ 9 1) rfl rfl (any_of HT_.out (by kernel_rfl)) (fun _ _ _ h=>h) (Or.inl ⟨by rfl,?_⟩) ?_ ?_
    rotate_left
    ·intro w'
     go_simp
     with_reducible rfl
    rotate_left
    ·simp only [Act.put,zA_,zB_,zC_,i64_w]
     rfl
    refine pure_ (i:=1) (N:=some 32) (v:=?_) (a':=?_) (bl_ 9 3) rfl rfl (any_of HT_.out (by kernel_rfl)) (fun _ _ _ h=>h) (Or.inl ⟨by rfl,?_⟩) ?_ ?_
    rotate_left
    ·intro w'
     go_simp
     with_reducible rfl
    rotate_left
    ·simp only [Act.put,zA_,zB_,zC_,i64_w]
     rfl
    refine pure_ (i:=2) (N:=some 33) (v:=?_) (a':=?_) (bl_ 9 7) rfl rfl (any_of HT_.out (by kernel_rfl)) (fun _ _ _ h=>h) (Or.inl ⟨by rfl,?_⟩) ?_ ?_
    rotate_left
    ·intro w'
     go_simp
     with_reducible rfl
    rotate_left
    ·simp only [Act.put,zA_,zB_,zC_,i64_w]
     rfl
    refine pure_ (i:=5) (N:=some 10) (v:=?_) (a':=?_) (bl_ 9 39) rfl rfl (any_of HT_.out (by kernel_rfl)) (fun _ _ _ h=>h) (Or.inl ⟨by rfl,?_⟩) ?_ ?_
    rotate_left
    ·intro w'
     go_simp
     with_reducible rfl
    rotate_left
    ·simp only [Act.put,zA_,zB_,zC_,i64_w]
     rfl
    refine pure_ (i:=6) (N:=some 11) (v:=?_) (a':=?_) (bl_ 9 103) rfl rfl (any_of HT_.out (by kernel_rfl)) (fun _ _ _ h=>h) (Or.inl ⟨by rfl,?_⟩) ?_ ?_
    rotate_left
    ·intro w'
     go_simp
     with_reducible rfl
    rotate_left
    ·simp only [Act.put,zA_,zB_,zC_,i64_w]
     rfl
    refine pure_ (i:=7) (N:=some 12) (v:=?_) (a':=?_) (bl_ 9 231) rfl rfl (any_of HT_.out (by kernel_rfl)) (fun _ _ _ h=>h) (Or.inl ⟨by rfl,?_⟩) ?_ ?_
    rotate_left
    ·intro w'
     go_simp
     with_reducible rfl
    rotate_left
    ·simp only [Act.put,zA_,zB_,zC_,i64_w]
     rfl
    refine take_ (i:=3) (N:=some 34) (v:=?_) (a':=?_) (bl_ 9 239) rfl rfl (take_ofW HT_.out HW_.out (by kernel_rfl)) (fun _ _ _ h=>h) (Or.inl ⟨by rfl,?_⟩) hHeld ?_ ?_
    rotate_left
    ·rintro w' ⟨s0,s1,s2,s3⟩
     go_simp
     with_reducible rfl
    rotate_left
    ·simp only [Act.put,zA_,zB_,zC_,i64_w]
     rfl
    refine pure_ (i:=4) (N:=some 35) (v:=?_) (a':=?_) (bl_ 9 255) rfl rfl (any_of HT_.out (by kernel_rfl)) (fun _ _ _ h=>h) (Or.inl ⟨by rfl,?_⟩) ?_ ?_
    rotate_left
    ·intro w'
     go_simp
     with_reducible rfl
    rotate_left
    ·simp only [Act.put,zA_,zB_,zC_,i64_w]
     rfl
    refine pure_ (i:=8) (N:=some 13) (v:=?_) (a':=?_) (bl_ 9 511) rfl rfl (any_of HT_.out (by kernel_rfl)) (fun _ _ _ h=>h) (Or.inl ⟨by rfl,?_⟩) ?_ ?_
    rotate_left
    ·intro w'
     go_simp
     with_reducible rfl
    rotate_left
    ·simp only [Act.put,zA_,zB_,zC_,i64_w]
     rfl
    refine done_ (done_of HT_.out (by kernel_rfl)) ?_
    try go_wp2
    refine bodyPost_ret (results_list (rs:=[.tmp 10,.tmp 11,.tmp 12,.tmp 13]) rfl (by simp) (.tmp (.tmp (.tmp (.tmp .nil))))) rfl ?_
    exact ⟨by first|rfl|(simp [errW_none,errW_some]<;>rfl)|(simp [*,errW_none,errW_some]<;>rfl),by repeat (first|(with_reducible first|exact HB.out|apply below_alloc|apply pw_below_drewN|apply below_drew1|refine below_set ?_ GE111.out|refine below_set ?_ GE112.out)|exact HB.out)⟩
   ·rw [if_neg c23] at H
    have c23b0:(a2 == 3)=false:=beq_eq_false_iff_ne.mpr c23
    have c23b1:(a2 != 3)=true:=bne_iff_ne.mpr c23
    by_cases c30:a2=4
    ·rw [if_pos c30] at H
     have c30b0:(a2 == 4)=true:=beq_iff_eq.mpr c30
     have c30b1:(a2 != 4)=false:=bne_eq_false_iff_eq.mpr c30
     clear c30
     simp only [Option.some.injEq,Prod.mk.injEq] at H
     obtain ⟨rfl,rfl,rfl,rfl⟩:=H
     go_enter Tryd.func41,Tryd.ntmps41
     go_wp2_with (first|((with_reducible refine gate_dst (N:=5) rfl ?_); refine box_event ?hg (N:=5) ?hd (cs:=#[.slice A0_0 l0_0.length c0_0,.slice A0_1 l0_1.length c0_1,.slice A0_2 l0_2.length c0_2,.slice A0_3 l0_3.length c0_3]) (t:=26) ?hr ?_; (case hd=>rfl); (case hg=>rfl); (case hr=>first|(go_simp; done)|(go_simp; rfl)); intro gb111 hg w31 hbox hb; have n0_:=Aside0.mk (below_step (by repeat (first|(with_reducible first|exact HB.out|apply below_alloc|apply pw_below_drewN|apply below_drew1)|exact HB.out)) hb); have n1_:=Aside0.mk (hbox); have n2_:=Aside0.mk ((by rw [hg]; exact (below_size (by repeat (first|(with_reducible first|exact HB.out|apply below_alloc|apply pw_below_drewN|apply below_drew1)|exact HB.out))):w.heap.size≤gb111)); have n3_:=Aside0.mk ((by rw [hg]; exact (below_size (by repeat (first|(with_reducible first|exact HB.out|apply below_alloc|apply pw_below_drewN|apply below_drew1)|exact HB.out))):w.heap.size≤gb111)); clear HB; have HB:=n0_; have BK111:=n1_; have GW111:=n2_; have GE111:=n3_; clear n0_ n1_ n2_ n3_; clear hb hbox hg)|((with_reducible refine gate_dst (N:=6) rfl ?_); refine box_event ?hg (N:=6) ?hd (cs:=#[.string a1_0,.int .i64 a1_1,.bool a1_2,.bool a1_3]) (t:=61) ?hr ?_; (case hd=>rfl); (case hg=>rfl); (case hr=>first|(go_simp; done)|(go_simp; rfl)); intro gb112 hg w32 hbox hb; have n0_:=Aside0.mk (blk_below (g:=gb111) (o:=.cells #[.slice A0_0 l0_0.length c0_0,.slice A0_1 l0_1.length c0_1,.slice A0_2 l0_2.length c0_2,.slice A0_3 l0_3.length c0_3] 26 (0,0)) (by (with_reducible repeat (first|refine blk_drewN ?_ _|refine blk_drew ?_|refine blk_alloc ?_ _)); exact BK111.out) hb); have n1_:=Aside0.mk (below_step (by repeat (first|(with_reducible first|exact HB.out|apply below_alloc|apply pw_below_drewN|apply below_drew1|refine below_set ?_ GE111.out)|exact HB.out)) hb); have n2_:=Aside0.mk (hbox); have n3_:=Aside0.mk ((by rw [hg]; exact (below_size (by repeat (first|(with_reducible first|exact HB.out|apply below_alloc|apply pw_below_drewN|apply below_drew1|refine below_set ?_ GE111.out)|exact HB.out))):w.heap.size≤gb112)); have n4_:=Aside0.mk ((by rw [hg]; exact (below_size (by repeat (first|(with_reducible first|exact HB.out|apply below_alloc|apply pw_below_drewN|apply below_drew1|refine below_set ?_ GE111.out)|exact HB.out))):w.heap.size≤gb112)); have n5_:=Aside0.mk ((by rw [hg]; exact Nat.ne_of_lt (blk_lt (g:=gb111) (o:=.cells #[.slice A0_0 l0_0.length c0_0,.slice A0_1 l0_1.length c0_1,.slice A0_2 l0_2.length c0_2,.slice A0_3 l0_3.length c0_3] 26 (0,0)) (by (with_reducible repeat (first|refine blk_drewN ?_ _|refine blk_drew ?_|refine blk_alloc ?_ _)); exact BK111.out)):gb111≠gb112)); have n6_:=Aside0.mk ((by rw [hg]; exact Nat.ne_of_gt (blk_lt (g:=gb111) (o:=.cells #[.slice A0_0 l0_0.length c0_0,.slice A0_1 l0_1.length c0_1,.slice A0_2 l0_2.length c0_2,.slice A0_3 l0_3.length c0_3] 26 (0,0)) (by (with_reducible repeat (first|refine blk_drewN ?_ _|refine blk_drew ?_|refine blk_alloc ?_ _)); exact BK111.out)):gb112≠gb111)); clear BK111; clear HB; have BK111:=n0_; have HB:=n1_; have BK112:=n2_; have GW112:=n3_; have GE112:=n4_; have NB111_112:=n5_; have NB112_111:=n6_; clear n0_ n1_ n2_ n3_ n4_ n5_ n6_; clear hb hbox hg)|((with_reducible refine gate_callee (f:=77) rfl ?_); refine goesL_ (some 18) rfl rfl Tryd.func77 (by kernel_rfl) rfl #[.int .i64 1] rfl (by (try simp only [List.map_toArray,List.map_cons,List.map_nil]); first|done|rfl|(simp only [List.length_drop,List.length_take]; rfl)) ?_; (with_reducible refine (isthmusref20_code.calls 1 t113 _ A6.out).mono ?_); rintro e w33 ⟨rfl,hb⟩; refine ⟨_,rfl,?_⟩; have n0_:=Aside0.mk (blk_below (g:=gb111) (o:=.cells #[.slice A0_0 l0_0.length c0_0,.slice A0_1 l0_1.length c0_1,.slice A0_2 l0_2.length c0_2,.slice A0_3 l0_3.length c0_3] 26 (0,0)) (by (with_reducible repeat (first|refine blk_drewN ?_ _|refine blk_drew ?_|refine blk_alloc ?_ _)); exact BK111.out) hb); have n1_:=Aside0.mk (blk_below (g:=gb112) (o:=.cells #[.string a1_0,.int .i64 a1_1,.bool a1_2,.bool a1_3] 61 (0,0)) (by (with_reducible repeat (first|refine blk_drewN ?_ _|refine blk_drew ?_|refine blk_alloc ?_ _)); exact BK112.out) hb); have n2_:=Aside0.mk (below_step (by repeat (first|(with_reducible first|exact HB.out|apply below_alloc|apply pw_below_drewN|apply below_drew1|refine below_set ?_ GE111.out|refine below_set ?_ GE112.out)|exact HB.out)) hb); clear BK111; clear BK112; clear HB; have BK111:=n0_; have BK112:=n1_; have HB:=n2_; clear n0_ n1_ n2_; (try clear hb); (try clear hb2); (try clear hk); (try clear hi))|((with_reducible refine gate_callee (f:=77) rfl ?_); refine goesL_ (some 19) rfl rfl Tryd.func77 (by kernel_rfl) rfl #[.int .i64 2] rfl (by (try simp only [List.map_toArray,List.map_cons,List.map_nil]); first|done|rfl|(simp only [List.length_drop,List.length_take]; rfl)) ?_; (with_reducible refine (isthmusref20_code.calls 2 t114 _ A7.out).mono ?_); rintro e w34 ⟨rfl,hb⟩; refine ⟨_,rfl,?_⟩; have n0_:=Aside0.mk (blk_below (g:=gb111) (o:=.cells #[.slice A0_0 l0_0.length c0_0,.slice A0_1 l0_1.length c0_1,.slice A0_2 l0_2.length c0_2,.slice A0_3 l0_3.length c0_3] 26 (0,0)) (by (with_reducible repeat (first|refine blk_drewN ?_ _|refine blk_drew ?_|refine blk_alloc ?_ _)); exact BK111.out) hb); have n1_:=Aside0.mk (blk_below (g:=gb112) (o:=.cells #[.string a1_0,.int .i64 a1_1,.bool a1_2,.bool a1_3] 61 (0,0)) (by (with_reducible repeat (first|refine blk_drewN ?_ _|refine blk_drew ?_|refine blk_alloc ?_ _)); exact BK112.out) hb); have n2_:=Aside0.mk (below_step (by repeat (first|(with_reducible first|exact HB.out|apply below_alloc|apply pw_below_drewN|apply below_drew1|refine below_set ?_ GE111.out|refine below_set ?_ GE112.out)|exact HB.out)) hb); clear BK111; clear BK112; clear HB; have BK111:=n0_; have BK112:=n1_; have HB:=n2_; clear n0_ n1_ n2_; (try clear hb); (try clear hb2); (try clear hk); (try clear hi))|((with_reducible refine gate_callee (f:=77) rfl ?_); refine goesL_ (some 20) rfl rfl Tryd.func77 (by kernel_rfl) rfl #[.int .i64 3] rfl (by (try simp only [List.map_toArray,List.map_cons,List.map_nil]); first|done|rfl|(simp only [List.length_drop,List.length_take]; rfl)) ?_; (with_reducible refine (isthmusref20_code.calls 3 t115 _ A8.out).mono ?_); rintro e w35 ⟨rfl,hb⟩; refine ⟨_,rfl,?_⟩; have n0_:=Aside0.mk (blk_below (g:=gb111) (o:=.cells #[.slice A0_0 l0_0.length c0_0,.slice A0_1 l0_1.length c0_1,.slice A0_2 l0_2.length c0_2,.slice A0_3 l0_3.length c0_3] 26 (0,0)) (by (with_reducible repeat (first|refine blk_drewN ?_ _|refine blk_drew ?_|refine blk_alloc ?_ _)); exact BK111.out) hb); have n1_:=Aside0.mk (blk_below (g:=gb112) (o:=.cells #[.string a1_0,.int .i64 a1_1,.bool a1_2,.bool a1_3] 61 (0,0)) (by (with_reducible repeat (first|refine blk_drewN ?_ _|refine blk_drew ?_|refine blk_alloc ?_ _)); exact BK112.out) hb); have n2_:=Aside0.mk (below_step (by repeat (first|(with_reducible first|exact HB.out|apply below_alloc|apply pw_below_drewN|apply below_drew1|refine below_set ?_ GE111.out|refine below_set ?_ GE112.out)|exact HB.out)) hb); clear BK111; clear BK112; clear HB; have BK111:=n0_; have BK112:=n1_; have HB:=n2_; clear n0_ n1_ n2_; (try clear hb); (try clear hb2); (try clear hk); (try clear hi)))
     refine bodyPost_ret (results_list (rs:=[.tmp 10,.tmp 11,.tmp 12,.tmp 13]) rfl (by simp) (.tmp (.tmp (.tmp (.tmp .nil))))) rfl ?_
     exact ⟨by first|rfl|(simp [errW_none,errW_some]<;>rfl)|(simp [*,errW_none,errW_some]<;>rfl),by repeat (first|(with_reducible first|exact HB.out|apply below_alloc|apply pw_below_drewN|apply below_drew1|refine below_set ?_ GE111.out|refine below_set ?_ GE112.out)|exact HB.out)⟩
    ·rw [if_neg c30] at H
     have c30b0:(a2 == 4)=false:=beq_eq_false_iff_ne.mpr c30
     have c30b1:(a2 != 4)=true:=bne_iff_ne.mpr c30
     by_cases c36:a2=5
     ·rw [if_pos c36] at H
      have c36b0:(a2 == 5)=true:=beq_iff_eq.mpr c36
      have c36b1:(a2 != 5)=false:=bne_eq_false_iff_eq.mpr c36
      clear c36
      simp only [Option.some.injEq,Prod.mk.injEq] at H
      obtain ⟨rfl,rfl,rfl,rfl⟩:=H
      go_enter Tryd.func41,Tryd.ntmps41
      go_wp2_with (first|((with_reducible refine gate_dst (N:=5) rfl ?_); refine box_event ?hg (N:=5) ?hd (cs:=#[.slice A0_0 l0_0.length c0_0,.slice A0_1 l0_1.length c0_1,.slice A0_2 l0_2.length c0_2,.slice A0_3 l0_3.length c0_3]) (t:=26) ?hr ?_; (case hd=>rfl); (case hg=>rfl); (case hr=>first|(go_simp; done)|(go_simp; rfl)); intro gb111 hg w37 hbox hb; have n0_:=Aside0.mk (below_step (by repeat (first|(with_reducible first|exact HB.out|apply below_alloc|apply pw_below_drewN|apply below_drew1)|exact HB.out)) hb); have n1_:=Aside0.mk (hbox); have n2_:=Aside0.mk ((by rw [hg]; exact (below_size (by repeat (first|(with_reducible first|exact HB.out|apply below_alloc|apply pw_below_drewN|apply below_drew1)|exact HB.out))):w.heap.size≤gb111)); have n3_:=Aside0.mk ((by rw [hg]; exact (below_size (by repeat (first|(with_reducible first|exact HB.out|apply below_alloc|apply pw_below_drewN|apply below_drew1)|exact HB.out))):w.heap.size≤gb111)); clear HB; have HB:=n0_; have BK111:=n1_; have GW111:=n2_; have GE111:=n3_; clear n0_ n1_ n2_ n3_; clear hb hbox hg)|((with_reducible refine gate_dst (N:=6) rfl ?_); refine box_event ?hg (N:=6) ?hd (cs:=#[.string a1_0,.int .i64 a1_1,.bool a1_2,.bool a1_3]) (t:=61) ?hr ?_; (case hd=>rfl); (case hg=>rfl); (case hr=>first|(go_simp; done)|(go_simp; rfl)); intro gb112 hg w38 hbox hb; have n0_:=Aside0.mk (blk_below (g:=gb111) (o:=.cells #[.slice A0_0 l0_0.length c0_0,.slice A0_1 l0_1.length c0_1,.slice A0_2 l0_2.length c0_2,.slice A0_3 l0_3.length c0_3] 26 (0,0)) (by (with_reducible repeat (first|refine blk_drewN ?_ _|refine blk_drew ?_|refine blk_alloc ?_ _)); exact BK111.out) hb); have n1_:=Aside0.mk (below_step (by repeat (first|(with_reducible first|exact HB.out|apply below_alloc|apply pw_below_drewN|apply below_drew1|refine below_set ?_ GE111.out)|exact HB.out)) hb); have n2_:=Aside0.mk (hbox); have n3_:=Aside0.mk ((by rw [hg]; exact (below_size (by repeat (first|(with_reducible first|exact HB.out|apply below_alloc|apply pw_below_drewN|apply below_drew1|refine below_set ?_ GE111.out)|exact HB.out))):w.heap.size≤gb112)); have n4_:=Aside0.mk ((by rw [hg]; exact (below_size (by repeat (first|(with_reducible first|exact HB.out|apply below_alloc|apply pw_below_drewN|apply below_drew1|refine below_set ?_ GE111.out)|exact HB.out))):w.heap.size≤gb112)); have n5_:=Aside0.mk ((by rw [hg]; exact Nat.ne_of_lt (blk_lt (g:=gb111) (o:=.cells #[.slice A0_0 l0_0.length c0_0,.slice A0_1 l0_1.length c0_1,.slice A0_2 l0_2.length c0_2,.slice A0_3 l0_3.length c0_3] 26 (0,0)) (by (with_reducible repeat (first|refine blk_drewN ?_ _|refine blk_drew ?_|refine blk_alloc ?_ _)); exact BK111.out)):gb111≠gb112)); have n6_:=Aside0.mk ((by rw [hg]; exact Nat.ne_of_gt (blk_lt (g:=gb111) (o:=.cells #[.slice A0_0 l0_0.length c0_0,.slice A0_1 l0_1.length c0_1,.slice A0_2 l0_2.length c0_2,.slice A0_3 l0_3.length c0_3] 26 (0,0)) (by (with_reducible repeat (first|refine blk_drewN ?_ _|refine blk_drew ?_|refine blk_alloc ?_ _)); exact BK111.out)):gb112≠gb111)); clear BK111; clear HB; have BK111:=n0_; have HB:=n1_; have BK112:=n2_; have GW112:=n3_; have GE112:=n4_; have NB111_112:=n5_; have NB112_111:=n6_; clear n0_ n1_ n2_ n3_ n4_ n5_ n6_; clear hb hbox hg)|((with_reducible refine gate_callee (f:=77) rfl ?_); refine goesL_ (some 18) rfl rfl Tryd.func77 (by kernel_rfl) rfl #[.int .i64 1] rfl (by (try simp only [List.map_toArray,List.map_cons,List.map_nil]); first|done|rfl|(simp only [List.length_drop,List.length_take]; rfl)) ?_; (with_reducible refine (isthmusref20_code.calls 1 t113 _ A6.out).mono ?_); rintro e w39 ⟨rfl,hb⟩; refine ⟨_,rfl,?_⟩; have n0_:=Aside0.mk (blk_below (g:=gb111) (o:=.cells #[.slice A0_0 l0_0.length c0_0,.slice A0_1 l0_1.length c0_1,.slice A0_2 l0_2.length c0_2,.slice A0_3 l0_3.length c0_3] 26 (0,0)) (by (with_reducible repeat (first|refine blk_drewN ?_ _|refine blk_drew ?_|refine blk_alloc ?_ _)); exact BK111.out) hb); have n1_:=Aside0.mk (blk_below (g:=gb112) (o:=.cells #[.string a1_0,.int .i64 a1_1,.bool a1_2,.bool a1_3] 61 (0,0)) (by (with_reducible repeat (first|refine blk_drewN ?_ _|refine blk_drew ?_|refine blk_alloc ?_ _)); exact BK112.out) hb); have n2_:=Aside0.mk (below_step (by repeat (first|(with_reducible first|exact HB.out|apply below_alloc|apply pw_below_drewN|apply below_drew1|refine below_set ?_ GE111.out|refine below_set ?_ GE112.out)|exact HB.out)) hb); clear BK111; clear BK112; clear HB; have BK111:=n0_; have BK112:=n1_; have HB:=n2_; clear n0_ n1_ n2_; (try clear hb); (try clear hb2); (try clear hk); (try clear hi))|((with_reducible refine gate_callee (f:=77) rfl ?_); refine goesL_ (some 19) rfl rfl Tryd.func77 (by kernel_rfl) rfl #[.int .i64 2] rfl (by (try simp only [List.map_toArray,List.map_cons,List.map_nil]); first|done|rfl|(simp only [List.length_drop,List.length_take]; rfl)) ?_; (with_reducible refine (isthmusref20_code.calls 2 t114 _ A7.out).mono ?_); rintro e w40 ⟨rfl,hb⟩; refine ⟨_,rfl,?_⟩; have n0_:=Aside0.mk (blk_below (g:=gb111) (o:=.cells #[.slice A0_0 l0_0.length c0_0,.slice A0_1 l0_1.length c0_1,.slice A0_2 l0_2.length c0_2,.slice A0_3 l0_3.length c0_3] 26 (0,0)) (by (with_reducible repeat (first|refine blk_drewN ?_ _|refine blk_drew ?_|refine blk_alloc ?_ _)); exact BK111.out) hb); have n1_:=Aside0.mk (blk_below (g:=gb112) (o:=.cells #[.string a1_0,.int .i64 a1_1,.bool a1_2,.bool a1_3] 61 (0,0)) (by (with_reducible repeat (first|refine blk_drewN ?_ _|refine blk_drew ?_|refine blk_alloc ?_ _)); exact BK112.out) hb); have n2_:=Aside0.mk (below_step (by repeat (first|(with_reducible first|exact HB.out|apply below_alloc|apply pw_below_drewN|apply below_drew1|refine below_set ?_ GE111.out|refine below_set ?_ GE112.out)|exact HB.out)) hb); clear BK111; clear BK112; clear HB; have BK111:=n0_; have BK112:=n1_; have HB:=n2_; clear n0_ n1_ n2_; (try clear hb); (try clear hb2); (try clear hk); (try clear hi))|((with_reducible refine gate_callee (f:=77) rfl ?_); refine goesL_ (some 20) rfl rfl Tryd.func77 (by kernel_rfl) rfl #[.int .i64 3] rfl (by (try simp only [List.map_toArray,List.map_cons,List.map_nil]); first|done|rfl|(simp only [List.length_drop,List.length_take]; rfl)) ?_; (with_reducible refine (isthmusref20_code.calls 3 t115 _ A8.out).mono ?_); rintro e w41 ⟨rfl,hb⟩; refine ⟨_,rfl,?_⟩; have n0_:=Aside0.mk (blk_below (g:=gb111) (o:=.cells #[.slice A0_0 l0_0.length c0_0,.slice A0_1 l0_1.length c0_1,.slice A0_2 l0_2.length c0_2,.slice A0_3 l0_3.length c0_3] 26 (0,0)) (by (with_reducible repeat (first|refine blk_drewN ?_ _|refine blk_drew ?_|refine blk_alloc ?_ _)); exact BK111.out) hb); have n1_:=Aside0.mk (blk_below (g:=gb112) (o:=.cells #[.string a1_0,.int .i64 a1_1,.bool a1_2,.bool a1_3] 61 (0,0)) (by (with_reducible repeat (first|refine blk_drewN ?_ _|refine blk_drew ?_|refine blk_alloc ?_ _)); exact BK112.out) hb); have n2_:=Aside0.mk (below_step (by repeat (first|(with_reducible first|exact HB.out|apply below_alloc|apply pw_below_drewN|apply below_drew1|refine below_set ?_ GE111.out|refine below_set ?_ GE112.out)|exact HB.out)) hb); clear BK111; clear BK112; clear HB; have BK111:=n0_; have BK112:=n1_; have HB:=n2_; clear n0_ n1_ n2_; (try clear hb); (try clear hb2); (try clear hk); (try clear hi)))
      refine bodyPost_ret (results_list (rs:=[.tmp 10,.tmp 11,.tmp 12,.tmp 13]) rfl (by simp) (.tmp (.tmp (.tmp (.tmp .nil))))) rfl ?_
      exact ⟨by first|rfl|(simp [errW_none,errW_some]<;>rfl)|(simp [*,errW_none,errW_some]<;>rfl),by repeat (first|(with_reducible first|exact HB.out|apply below_alloc|apply pw_below_drewN|apply below_drew1|refine below_set ?_ GE111.out|refine below_set ?_ GE112.out)|exact HB.out)⟩
     ·rw [if_neg c36] at H
      have c36b0:(a2 == 5)=false:=beq_eq_false_iff_ne.mpr c36
      have c36b1:(a2 != 5)=true:=bne_iff_ne.mpr c36
      have HC42:=Aside0.mk H
      clear H
      go_enter Tryd.func41,Tryd.ntmps41
      go_upto_if 44 with (first|((with_reducible refine gate_dst (N:=5) rfl ?_); refine box_event ?hg (N:=5) ?hd (cs:=#[.slice A0_0 l0_0.length c0_0,.slice A0_1 l0_1.length c0_1,.slice A0_2 l0_2.length c0_2,.slice A0_3 l0_3.length c0_3]) (t:=26) ?hr ?_; (case hd=>rfl); (case hg=>rfl); (case hr=>first|(go_simp; done)|(go_simp; rfl)); intro gb111 hg w43 hbox hb; have n0_:=Aside0.mk (below_step (by repeat (first|(with_reducible first|exact HB.out|apply below_alloc|apply pw_below_drewN|apply below_drew1)|exact HB.out)) hb); have n1_:=Aside0.mk (hbox); have n2_:=Aside0.mk ((by rw [hg]; exact (below_size (by repeat (first|(with_reducible first|exact HB.out|apply below_alloc|apply pw_below_drewN|apply below_drew1)|exact HB.out))):w.heap.size≤gb111)); have n3_:=Aside0.mk ((by rw [hg]; exact (below_size (by repeat (first|(with_reducible first|exact HB.out|apply below_alloc|apply pw_below_drewN|apply below_drew1)|exact HB.out))):w.heap.size≤gb111)); clear HB; have HB:=n0_; have BK111:=n1_; have GW111:=n2_; have GE111:=n3_; clear n0_ n1_ n2_ n3_; clear hb hbox hg)|((with_reducible refine gate_dst (N:=6) rfl ?_); refine box_event ?hg (N:=6) ?hd (cs:=#[.string a1_0,.int .i64 a1_1,.bool a1_2,.bool a1_3]) (t:=61) ?hr ?_; (case hd=>rfl); (case hg=>rfl); (case hr=>first|(go_simp; done)|(go_simp; rfl)); intro gb112 hg w44 hbox hb; have n0_:=Aside0.mk (blk_below (g:=gb111) (o:=.cells #[.slice A0_0 l0_0.length c0_0,.slice A0_1 l0_1.length c0_1,.slice A0_2 l0_2.length c0_2,.slice A0_3 l0_3.length c0_3] 26 (0,0)) (by (with_reducible repeat (first|refine blk_drewN ?_ _|refine blk_drew ?_|refine blk_alloc ?_ _)); exact BK111.out) hb); have n1_:=Aside0.mk (below_step (by repeat (first|(with_reducible first|exact HB.out|apply below_alloc|apply pw_below_drewN|apply below_drew1|refine below_set ?_ GE111.out)|exact HB.out)) hb); have n2_:=Aside0.mk (hbox); have n3_:=Aside0.mk ((by rw [hg]; exact (below_size (by repeat (first|(with_reducible first|exact HB.out|apply below_alloc|apply pw_below_drewN|apply below_drew1|refine below_set ?_ GE111.out)|exact HB.out))):w.heap.size≤gb112)); have n4_:=Aside0.mk ((by rw [hg]; exact (below_size (by repeat (first|(with_reducible first|exact HB.out|apply below_alloc|apply pw_below_drewN|apply below_drew1|refine below_set ?_ GE111.out)|exact HB.out))):w.heap.size≤gb112)); have n5_:=Aside0.mk ((by rw [hg]; exact Nat.ne_of_lt (blk_lt (g:=gb111) (o:=.cells #[.slice A0_0 l0_0.length c0_0,.slice A0_1 l0_1.length c0_1,.slice A0_2 l0_2.length c0_2,.slice A0_3 l0_3.length c0_3] 26 (0,0)) (by (with_reducible repeat (first|refine blk_drewN ?_ _|refine blk_drew ?_|refine blk_alloc ?_ _)); exact BK111.out)):gb111≠gb112)); have n6_:=Aside0.mk ((by rw [hg]; exact Nat.ne_of_gt (blk_lt (g:=gb111) (o:=.cells #[.slice A0_0 l0_0.length c0_0,.slice A0_1 l0_1.length c0_1,.slice A0_2 l0_2.length c0_2,.slice A0_3 l0_3.length c0_3] 26 (0,0)) (by (with_reducible repeat (first|refine blk_drewN ?_ _|refine blk_drew ?_|refine blk_alloc ?_ _)); exact BK111.out)):gb112≠gb111)); clear BK111; clear HB; have BK111:=n0_; have HB:=n1_; have BK112:=n2_; have GW112:=n3_; have GE112:=n4_; have NB111_112:=n5_; have NB112_111:=n6_; clear n0_ n1_ n2_ n3_ n4_ n5_ n6_; clear hb hbox hg)|((with_reducible refine gate_callee (f:=77) rfl ?_); refine goesL_ (some 18) rfl rfl Tryd.func77 (by kernel_rfl) rfl #[.int .i64 1] rfl (by (try simp only [List.map_toArray,List.map_cons,List.map_nil]); first|done|rfl|(simp only [List.length_drop,List.length_take]; rfl)) ?_; (with_reducible refine (isthmusref20_code.calls 1 t113 _ A6.out).mono ?_); rintro e w45 ⟨rfl,hb⟩; refine ⟨_,rfl,?_⟩; have n0_:=Aside0.mk (blk_below (g:=gb111) (o:=.cells #[.slice A0_0 l0_0.length c0_0,.slice A0_1 l0_1.length c0_1,.slice A0_2 l0_2.length c0_2,.slice A0_3 l0_3.length c0_3] 26 (0,0)) (by (with_reducible repeat (first|refine blk_drewN ?_ _|refine blk_drew ?_|refine blk_alloc ?_ _)); exact BK111.out) hb); have n1_:=Aside0.mk (blk_below (g:=gb112) (o:=.cells #[.string a1_0,.int .i64 a1_1,.bool a1_2,.bool a1_3] 61 (0,0)) (by (with_reducible repeat (first|refine blk_drewN ?_ _|refine blk_drew ?_|refine blk_alloc ?_ _)); exact BK112.out) hb); have n2_:=Aside0.mk (below_step (by repeat (first|(with_reducible first|exact HB.out|apply below_alloc|apply pw_below_drewN|apply below_drew1|refine below_set ?_ GE111.out|refine below_set ?_ GE112.out)|exact HB.out)) hb); clear BK111; clear BK112; clear HB; have BK111:=n0_; have BK112:=n1_; have HB:=n2_; clear n0_ n1_ n2_; (try clear hb); (try clear hb2); (try clear hk); (try clear hi))|((with_reducible refine gate_callee (f:=77) rfl ?_); refine goesL_ (some 19) rfl rfl Tryd.func77 (by kernel_rfl) rfl #[.int .i64 2] rfl (by (try simp only [List.map_toArray,List.map_cons,List.map_nil]); first|done|rfl|(simp only [List.length_drop,List.length_take]; rfl)) ?_; (with_reducible refine (isthmusref20_code.calls 2 t114 _ A7.out).mono ?_); rintro e w46 ⟨rfl,hb⟩; refine ⟨_,rfl,?_⟩; have n0_:=Aside0.mk (blk_below (g:=gb111) (o:=.cells #[.slice A0_0 l0_0.length c0_0,.slice A0_1 l0_1.length c0_1,.slice A0_2 l0_2.length c0_2,.slice A0_3 l0_3.length c0_3] 26 (0,0)) (by (with_reducible repeat (first|refine blk_drewN ?_ _|refine blk_drew ?_|refine blk_alloc ?_ _)); exact BK111.out) hb); have n1_:=Aside0.mk (blk_below (g:=gb112) (o:=.cells #[.string a1_0,.int .i64 a1_1,.bool a1_2,.bool a1_3] 61 (0,0)) (by (with_reducible repeat (first|refine blk_drewN ?_ _|refine blk_drew ?_|refine blk_alloc ?_ _)); exact BK112.out) hb); have n2_:=Aside0.mk (below_step (by repeat (first|(with_reducible first|exact HB.out|apply below_alloc|apply pw_below_drewN|apply below_drew1|refine below_set ?_ GE111.out|refine below_set ?_ GE112.out)|exact HB.out)) hb); clear BK111; clear BK112; clear HB; have BK111:=n0_; have BK112:=n1_; have HB:=n2_; clear n0_ n1_ n2_; (try clear hb); (try clear hb2); (try clear hk); (try clear hi))|((with_reducible refine gate_callee (f:=77) rfl ?_); refine goesL_ (some 20) rfl rfl Tryd.func77 (by kernel_rfl) rfl #[.int .i64 3] rfl (by (try simp only [List.map_toArray,List.map_cons,List.map_nil]); first|done|rfl|(simp only [List.length_drop,List.length_take]; rfl)) ?_; (with_reducible refine (isthmusref20_code.calls 3 t115 _ A8.out).mono ?_); rintro e w47 ⟨rfl,hb⟩; refine ⟨_,rfl,?_⟩; have n0_:=Aside0.mk (blk_below (g:=gb111) (o:=.cells #[.slice A0_0 l0_0.length c0_0,.slice A0_1 l0_1.length c0_1,.slice A0_2 l0_2.length c0_2,.slice A0_3 l0_3.length c0_3] 26 (0,0)) (by (with_reducible repeat (first|refine blk_drewN ?_ _|refine blk_drew ?_|refine blk_alloc ?_ _)); exact BK111.out) hb); have n1_:=Aside0.mk (blk_below (g:=gb112) (o:=.cells #[.string a1_0,.int .i64 a1_1,.bool a1_2,.bool a1_3] 61 (0,0)) (by (with_reducible repeat (first|refine blk_drewN ?_ _|refine blk_drew ?_|refine blk_alloc ?_ _)); exact BK112.out) hb); have n2_:=Aside0.mk (below_step (by repeat (first|(with_reducible first|exact HB.out|apply below_alloc|apply pw_below_drewN|apply below_drew1|refine below_set ?_ GE111.out|refine below_set ?_ GE112.out)|exact HB.out)) hb); clear BK111; clear BK112; clear HB; have BK111:=n0_; have BK112:=n1_; have HB:=n2_; clear n0_ n1_ n2_; (try clear hb); (try clear hb2); (try clear hk); (try clear hi)))
      (try simp only [Act.put,List.setIfInBounds_toArray,List.set_cons_zero,List.set_cons_succ])
      go_cut [44] (fun v44 wc=>∃ (kq:Nat) (x44_41:Bool),v44=.bool x44_41∧Aside0 (isthmusref20_Word.j0 kq a2 a3 a4 t113 t114 t115 a2 x44_41 l0_0 l0_1 l0_2 l0_3 a1_0 a1_1 a1_2 a1_3=some (r1,r2,r3,r4))∧Aside0 (kq≤k)∧Aside0 (wc.heap[gb111]? = some (.cells #[(.slice A0_0 l0_0.length c0_0),(.slice A0_1 l0_1.length c0_1),(.slice A0_2 l0_2.length c0_2),(.slice A0_3 l0_3.length c0_3)] 26 (0,0)))∧Aside0 (wc.heap[gb112]? = some (.cells #[.string a1_0,.int .i64 a1_1,.bool a1_2,.bool a1_3] 61 (0,0)))∧Aside0 (Below w.heap.size w wc))
      case first =>
       have H:=HC42.out
       clear HC42
       by_cases c48:a2=6
       ·rw [if_pos c48] at H
        have c48b0:(a2 == 6)=true:=beq_iff_eq.mpr c48
        have c48b1:(a2 != 6)=false:=bne_eq_false_iff_eq.mpr c48
        clear c48
        (first|rw [c48b0]|(simp only [i64_w,i32_w]; rw [c48b0])|skip)
        have H':=Aside0.mk H
        clear H
        go_wp2
        go_meet
        case rel=>exact ⟨_,((a2 == 6)),(by first|rfl|(simp; done)|(simp [*]; done)),H',⟨by first|omega|exact Nat.le_refl _⟩,⟨by (with_reducible repeat (first|refine blk_drewN ?_ _|refine blk_drew ?_|refine blk_alloc ?_ _)); exact BK111.out⟩,⟨by (with_reducible repeat (first|refine blk_drewN ?_ _|refine blk_drew ?_|refine blk_alloc ?_ _)); exact BK112.out⟩,⟨by repeat (first|(with_reducible first|exact HB.out|apply below_alloc|apply pw_below_drewN|apply below_drew1|refine below_set ?_ GE111.out|refine below_set ?_ GE112.out)|exact HB.out)⟩⟩
       ·rw [if_neg c48] at H
        have c48b0:(a2 == 6)=false:=beq_eq_false_iff_ne.mpr c48
        have c48b1:(a2 != 6)=true:=bne_iff_ne.mpr c48
        (first|rw [c48b0]|(simp only [i64_w,i32_w]; rw [c48b0])|skip)
        by_cases c49:a2=7
        ·rw [if_pos c49] at H
         have c49b0:(a2 == 7)=true:=beq_iff_eq.mpr c49
         have c49b1:(a2 != 7)=false:=bne_eq_false_iff_eq.mpr c49
         clear c49
         have H':=Aside0.mk H
         clear H
         go_wp2
         go_meet
         case rel=>exact ⟨_,((a2 == 7)),(by first|rfl|(simp; done)|(simp [*]; done)),H',⟨by first|omega|exact Nat.le_refl _⟩,⟨by (with_reducible repeat (first|refine blk_drewN ?_ _|refine blk_drew ?_|refine blk_alloc ?_ _)); exact BK111.out⟩,⟨by (with_reducible repeat (first|refine blk_drewN ?_ _|refine blk_drew ?_|refine blk_alloc ?_ _)); exact BK112.out⟩,⟨by repeat (first|(with_reducible first|exact HB.out|apply below_alloc|apply pw_below_drewN|apply below_drew1|refine below_set ?_ GE111.out|refine below_set ?_ GE112.out)|exact HB.out)⟩⟩
        ·rw [if_neg c49] at H
         have c49b0:(a2 == 7)=false:=beq_eq_false_iff_ne.mpr c49
         have c49b1:(a2 != 7)=true:=bne_iff_ne.mpr c49
         by_cases c50:a2=8
         ·rw [if_pos c50] at H
          have c50b0:(a2 == 8)=true:=beq_iff_eq.mpr c50
          have c50b1:(a2 != 8)=false:=bne_eq_false_iff_eq.mpr c50
          clear c50
          have H':=Aside0.mk H
          clear H
          go_wp2
          go_meet
          case rel=>exact ⟨_,((a2 == 8)),(by first|rfl|(simp; done)|(simp [*]; done)),H',⟨by first|omega|exact Nat.le_refl _⟩,⟨by (with_reducible repeat (first|refine blk_drewN ?_ _|refine blk_drew ?_|refine blk_alloc ?_ _)); exact BK111.out⟩,⟨by (with_reducible repeat (first|refine blk_drewN ?_ _|refine blk_drew ?_|refine blk_alloc ?_ _)); exact BK112.out⟩,⟨by repeat (first|(with_reducible first|exact HB.out|apply below_alloc|apply pw_below_drewN|apply below_drew1|refine below_set ?_ GE111.out|refine below_set ?_ GE112.out)|exact HB.out)⟩⟩
         ·rw [if_neg c50] at H
          have c50b0:(a2 == 8)=false:=beq_eq_false_iff_ne.mpr c50
          have c50b1:(a2 != 8)=true:=bne_iff_ne.mpr c50
          by_cases c51:a2=9
          ·rw [if_pos c51] at H
           have c51b0:(a2 == 9)=true:=beq_iff_eq.mpr c51
           have c51b1:(a2 != 9)=false:=bne_eq_false_iff_eq.mpr c51
           clear c51
           have H':=Aside0.mk H
           clear H
           go_wp2
           go_meet
           case rel=>exact ⟨_,((a2 == 9)),(by first|rfl|(simp; done)|(simp [*]; done)),H',⟨by first|omega|exact Nat.le_refl _⟩,⟨by (with_reducible repeat (first|refine blk_drewN ?_ _|refine blk_drew ?_|refine blk_alloc ?_ _)); exact BK111.out⟩,⟨by (with_reducible repeat (first|refine blk_drewN ?_ _|refine blk_drew ?_|refine blk_alloc ?_ _)); exact BK112.out⟩,⟨by repeat (first|(with_reducible first|exact HB.out|apply below_alloc|apply pw_below_drewN|apply below_drew1|refine below_set ?_ GE111.out|refine below_set ?_ GE112.out)|exact HB.out)⟩⟩
          ·rw [if_neg c51] at H
           have c51b0:(a2 == 9)=false:=beq_eq_false_iff_ne.mpr c51
           have c51b1:(a2 != 9)=true:=bne_iff_ne.mpr c51
           have H':=Aside0.mk H
           clear H
           go_wp2
           go_meet
           case rel=>exact ⟨_,((a2 == 10)),(by first|rfl|(simp; done)|(simp [*]; done)),H',⟨by first|omega|exact Nat.le_refl _⟩,⟨by (with_reducible repeat (first|refine blk_drewN ?_ _|refine blk_drew ?_|refine blk_alloc ?_ _)); exact BK111.out⟩,⟨by (with_reducible repeat (first|refine blk_drewN ?_ _|refine blk_drew ?_|refine blk_alloc ?_ _)); exact BK112.out⟩,⟨by repeat (first|(with_reducible first|exact HB.out|apply below_alloc|apply pw_below_drewN|apply below_drew1|refine below_set ?_ GE111.out|refine below_set ?_ GE112.out)|exact HB.out)⟩⟩
      case rest =>
       clear HC42
       try clear c1
       try clear c2
       try clear p2
       try clear c3
       try clear c4
       try clear c5
       try clear c7
       try clear c9
       try clear c9b0
       try clear c9b1
       try clear c17
       try clear c17b0
       try clear c17b1
       try clear c23
       try clear c23b0
       try clear c23b1
       try clear c30
       try clear c30b0
       try clear c30b1
       try clear c36
       try clear c36b0
       try clear c36b1
       try clear c41
       try clear c48
       try clear c48b0
       try clear c48b1
       try clear c49
       try clear c49b0
       try clear c49b1
       try clear c50
       try clear c50b0
       try clear c50b1
       try clear c51
       try clear c51b0
       try clear c51b1
       obtain ⟨kq,x44_41,rfl,HA,HJ41,BK111,BK112,HB⟩:=hcut
       cases kq with
       | zero=>exact absurd HA.out (by simp [isthmusref20_Word.j0])
       | succ kj41 =>
        have H:=HA.out
        clear HA
        simp only [isthmusref20_Word.j0] at H
        by_cases c52:x44_41=true
        ·subst c52
         have H1:(if t113.size+t113.size≤9223372036854775807 then (some (t113++t113,t113,0,true)) else (none))=some (r1,r2,r3,r4):=by rw [if_pos rfl] at H; exact H
         clear H
         have H:=H1
         clear H1
         by_cases c53:t113.size+t113.size≤9223372036854775807
         ·rw [if_pos c53] at H
          have c53b0:=eq_true c53
          have c53b1:decide (t113.size+t113.size≤9223372036854775807)=true:=decide_eq_true c53
          try have c53b2:(9223372036854775807 < t113.size+t113.size)=False:=eq_false (Nat.not_lt.2 c53)
          simp only [Option.some.injEq,Prod.mk.injEq] at H
          obtain ⟨rfl,rfl,rfl,rfl⟩:=H
          go_wp2
          refine bodyPost_ret (results_list (rs:=[.tmp 10,.tmp 11,.tmp 12,.tmp 13]) rfl (by simp) (.tmp (.tmp (.tmp (.tmp .nil))))) rfl ?_
          exact ⟨by first|rfl|(simp [errW_none,errW_some]<;>rfl)|(simp [*,errW_none,errW_some]<;>rfl),by repeat (first|(with_reducible first|exact HB.out|apply below_alloc|apply pw_below_drewN|apply below_drew1|refine below_set ?_ GE111.out|refine below_set ?_ GE112.out)|exact HB.out)⟩
         ·rw [if_neg c53] at H
          exact absurd H (by simp)
        ·replace c52:=Bool.eq_false_iff.mpr c52
         subst c52
         have H1:(if a2=11 then ((isthmusref20_code.f a4).bind fun t117=>((isthmusref20_code.f a4).bind fun t118=>(if t117.size+t118.size≤9223372036854775807 then (some (t117++t118,t114,0,true)) else (none)))) else (if a2=12 then (if t113.size+t113.size≤9223372036854775807 then (some (t113++t113,t114,0,true)) else (none)) else (if a2=14 then (isthmusref20_Word.j1 kj41 a2 a3 t113 t114 t115 a2 (a2 == 14) l0_0 l0_1 l0_2 l0_3 a1_0 a1_1 a1_2 a1_3) else (isthmusref20_Word.j1 kj41 a2 a3 t113 t114 t115 a2 (a2 == 15) l0_0 l0_1 l0_2 l0_3 a1_0 a1_1 a1_2 a1_3))))=some (r1,r2,r3,r4):=by rw [if_neg (show ¬ (false=true) by decide)] at H; exact H
         clear H
         have H:=H1
         clear H1
         by_cases c54:a2=11
         ·rw [if_pos c54] at H
          have c54b0:(a2 == 11)=true:=beq_iff_eq.mpr c54
          have c54b1:(a2 != 11)=false:=bne_eq_false_iff_eq.mpr c54
          clear c54
          replace H:=Option.bind_eq_some_iff.mp H
          obtain ⟨t117,A550,H⟩:=H
          replace H:((isthmusref20_code.f a4).bind fun t118=>(if t117.size+t118.size≤9223372036854775807 then (some (t117++t118,t114,0,true)) else (none)))=some (r1,r2,r3,r4):=H
          have A55:=Aside0.mk A550
          clear A550
          replace H:=Option.bind_eq_some_iff.mp H
          obtain ⟨t118,A560,H⟩:=H
          replace H:(if t117.size+t118.size≤9223372036854775807 then (some (t117++t118,t114,0,true)) else (none))=some (r1,r2,r3,r4):=H
          have A56:=Aside0.mk A560
          clear A560
          by_cases c57:t117.size+t118.size≤9223372036854775807
          ·rw [if_pos c57] at H
           have c57b0:=eq_true c57
           have c57b1:decide (t117.size+t118.size≤9223372036854775807)=true:=decide_eq_true c57
           try have c57b2:(9223372036854775807 < t117.size+t118.size)=False:=eq_false (Nat.not_lt.2 c57)
           simp only [Option.some.injEq,Prod.mk.injEq] at H
           obtain ⟨rfl,rfl,rfl,rfl⟩:=H
           go_wp2_with (first|((with_reducible refine gate_callee (f:=77) rfl ?_); refine goesL_ (some 57) rfl rfl Tryd.func77 (by kernel_rfl) rfl #[.int .i64 a4] rfl (by (try simp only [List.map_toArray,List.map_cons,List.map_nil]); first|done|rfl|(simp only [List.length_drop,List.length_take]; rfl)) ?_; (with_reducible refine (isthmusref20_code.calls a4 t117 _ A55.out).mono ?_); rintro e w58 ⟨rfl,hb⟩; refine ⟨_,rfl,?_⟩; have n0_:=Aside0.mk (blk_below (g:=gb111) (o:=.cells #[.slice A0_0 l0_0.length c0_0,.slice A0_1 l0_1.length c0_1,.slice A0_2 l0_2.length c0_2,.slice A0_3 l0_3.length c0_3] 26 (0,0)) (by (with_reducible repeat (first|refine blk_drewN ?_ _|refine blk_drew ?_|refine blk_alloc ?_ _)); exact BK111.out) hb); have n1_:=Aside0.mk (blk_below (g:=gb112) (o:=.cells #[.string a1_0,.int .i64 a1_1,.bool a1_2,.bool a1_3] 61 (0,0)) (by (with_reducible repeat (first|refine blk_drewN ?_ _|refine blk_drew ?_|refine blk_alloc ?_ _)); exact BK112.out) hb); have n2_:=Aside0.mk (below_step (by repeat (first|(with_reducible first|exact HB.out|apply below_alloc|apply pw_below_drewN|apply below_drew1|refine below_set ?_ GE111.out|refine below_set ?_ GE112.out)|exact HB.out)) hb); clear BK111; clear BK112; clear HB; have BK111:=n0_; have BK112:=n1_; have HB:=n2_; clear n0_ n1_ n2_; (try clear hb); (try clear hb2); (try clear hk); (try clear hi))|((with_reducible refine gate_callee (f:=77) rfl ?_); refine goesL_ (some 59) rfl rfl Tryd.func77 (by kernel_rfl) rfl #[.int .i64 a4] rfl (by (try simp only [List.map_toArray,List.map_cons,List.map_nil]); first|done|rfl|(simp only [List.length_drop,List.length_take]; rfl)) ?_; (with_reducible refine (isthmusref20_code.calls a4 t118 _ A56.out).mono ?_); rintro e w59 ⟨rfl,hb⟩; refine ⟨_,rfl,?_⟩; have n0_:=Aside0.mk (blk_below (g:=gb111) (o:=.cells #[.slice A0_0 l0_0.length c0_0,.slice A0_1 l0_1.length c0_1,.slice A0_2 l0_2.length c0_2,.slice A0_3 l0_3.length c0_3] 26 (0,0)) (by (with_reducible repeat (first|refine blk_drewN ?_ _|refine blk_drew ?_|refine blk_alloc ?_ _)); exact BK111.out) hb); have n1_:=Aside0.mk (blk_below (g:=gb112) (o:=.cells #[.string a1_0,.int .i64 a1_1,.bool a1_2,.bool a1_3] 61 (0,0)) (by (with_reducible repeat (first|refine blk_drewN ?_ _|refine blk_drew ?_|refine blk_alloc ?_ _)); exact BK112.out) hb); have n2_:=Aside0.mk (below_step (by repeat (first|(with_reducible first|exact HB.out|apply below_alloc|apply pw_below_drewN|apply below_drew1|refine below_set ?_ GE111.out|refine below_set ?_ GE112.out)|exact HB.out)) hb); clear BK111; clear BK112; clear HB; have BK111:=n0_; have BK112:=n1_; have HB:=n2_; clear n0_ n1_ n2_; (try clear hb); (try clear hb2); (try clear hk); (try clear hi)))
           refine bodyPost_ret (results_list (rs:=[.tmp 10,.tmp 11,.tmp 12,.tmp 13]) rfl (by simp) (.tmp (.tmp (.tmp (.tmp .nil))))) rfl ?_
           exact ⟨by first|rfl|(simp [errW_none,errW_some]<;>rfl)|(simp [*,errW_none,errW_some]<;>rfl),by repeat (first|(with_reducible first|exact HB.out|apply below_alloc|apply pw_below_drewN|apply below_drew1|refine below_set ?_ GE111.out|refine below_set ?_ GE112.out)|exact HB.out)⟩
          ·rw [if_neg c57] at H
           exact absurd H (by simp)
         ·rw [if_neg c54] at H
          have c54b0:(a2 == 11)=false:=beq_eq_false_iff_ne.mpr c54
          have c54b1:(a2 != 11)=true:=bne_iff_ne.mpr c54
          by_cases c60:a2=12
          ·rw [if_pos c60] at H
           have c60b0:(a2 == 12)=true:=beq_iff_eq.mpr c60
           have c60b1:(a2 != 12)=false:=bne_eq_false_iff_eq.mpr c60
           clear c60
           by_cases c61:t113.size+t113.size≤9223372036854775807
           ·rw [if_pos c61] at H
            have c61b0:=eq_true c61
            have c61b1:decide (t113.size+t113.size≤9223372036854775807)=true:=decide_eq_true c61
            try have c61b2:(9223372036854775807 < t113.size+t113.size)=False:=eq_false (Nat.not_lt.2 c61)
            simp only [Option.some.injEq,Prod.mk.injEq] at H
            obtain ⟨rfl,rfl,rfl,rfl⟩:=H
            go_wp2
            refine bodyPost_ret (results_list (rs:=[.tmp 10,.tmp 11,.tmp 12,.tmp 13]) rfl (by simp) (.tmp (.tmp (.tmp (.tmp .nil))))) rfl ?_
            exact ⟨by first|rfl|(simp [errW_none,errW_some]<;>rfl)|(simp [*,errW_none,errW_some]<;>rfl),by repeat (first|(with_reducible first|exact HB.out|apply below_alloc|apply pw_below_drewN|apply below_drew1|refine below_set ?_ GE111.out|refine below_set ?_ GE112.out)|exact HB.out)⟩
           ·rw [if_neg c61] at H
            exact absurd H (by simp)
          ·rw [if_neg c60] at H
           have c60b0:(a2 == 12)=false:=beq_eq_false_iff_ne.mpr c60
           have c60b1:(a2 != 12)=true:=bne_iff_ne.mpr c60
           have HC62:=Aside0.mk H
           clear H
           go_upto_if 68 with (fail)
           go_cut [68] (fun v68 wc=>∃ (kq:Nat) (x68_61:Bool),v68=.bool x68_61∧Aside0 (isthmusref20_Word.j1 kq a2 a3 t113 t114 t115 a2 x68_61 l0_0 l0_1 l0_2 l0_3 a1_0 a1_1 a1_2 a1_3=some (r1,r2,r3,r4))∧Aside0 (kq≤kj41)∧Aside0 (wc.heap[gb111]? = some (.cells #[(.slice A0_0 l0_0.length c0_0),(.slice A0_1 l0_1.length c0_1),(.slice A0_2 l0_2.length c0_2),(.slice A0_3 l0_3.length c0_3)] 26 (0,0)))∧Aside0 (wc.heap[gb112]? = some (.cells #[.string a1_0,.int .i64 a1_1,.bool a1_2,.bool a1_3] 61 (0,0)))∧Aside0 (Below w.heap.size w wc))
           case first =>
            have H:=HC62.out
            clear HC62
            by_cases c63:a2=14
            ·rw [if_pos c63] at H
             have c63b0:(a2 == 14)=true:=beq_iff_eq.mpr c63
             have c63b1:(a2 != 14)=false:=bne_eq_false_iff_eq.mpr c63
             clear c63
             (first|rw [c63b0]|(simp only [i64_w,i32_w]; rw [c63b0])|skip)
             have H':=Aside0.mk H
             clear H
             go_wp2
             go_meet
             case rel=>exact ⟨_,((a2 == 14)),(by first|rfl|(simp; done)|(simp [*]; done)),H',⟨by have:=HJ41.out; first|omega|exact Nat.le_refl _⟩,⟨by (with_reducible repeat (first|refine blk_drewN ?_ _|refine blk_drew ?_|refine blk_alloc ?_ _)); exact BK111.out⟩,⟨by (with_reducible repeat (first|refine blk_drewN ?_ _|refine blk_drew ?_|refine blk_alloc ?_ _)); exact BK112.out⟩,⟨by repeat (first|(with_reducible first|exact HB.out|apply below_alloc|apply pw_below_drewN|apply below_drew1|refine below_set ?_ GE111.out|refine below_set ?_ GE112.out)|exact HB.out)⟩⟩
            ·rw [if_neg c63] at H
             have c63b0:(a2 == 14)=false:=beq_eq_false_iff_ne.mpr c63
             have c63b1:(a2 != 14)=true:=bne_iff_ne.mpr c63
             (first|rw [c63b0]|(simp only [i64_w,i32_w]; rw [c63b0])|skip)
             have H':=Aside0.mk H
             clear H
             go_wp2
             go_meet
             case rel=>exact ⟨_,((a2 == 15)),(by first|rfl|(simp; done)|(simp [*]; done)),H',⟨by have:=HJ41.out; first|omega|exact Nat.le_refl _⟩,⟨by (with_reducible repeat (first|refine blk_drewN ?_ _|refine blk_drew ?_|refine blk_alloc ?_ _)); exact BK111.out⟩,⟨by (with_reducible repeat (first|refine blk_drewN ?_ _|refine blk_drew ?_|refine blk_alloc ?_ _)); exact BK112.out⟩,⟨by repeat (first|(with_reducible first|exact HB.out|apply below_alloc|apply pw_below_drewN|apply below_drew1|refine below_set ?_ GE111.out|refine below_set ?_ GE112.out)|exact HB.out)⟩⟩
           case rest =>
            clear HC62
            try clear c1
            try clear c2
            try clear p2
            try clear c3
            try clear c4
            try clear c5
            try clear c6
            try clear c7
            try clear c9
            try clear c9b0
            try clear c9b1
            try clear c17
            try clear c17b0
            try clear c17b1
            try clear c23
            try clear c23b0
            try clear c23b1
            try clear c30
            try clear c30b0
            try clear c30b1
            try clear c36
            try clear c36b0
            try clear c36b1
            try clear c41
            try clear c48
            try clear c48b0
            try clear c48b1
            try clear c49
            try clear c49b0
            try clear c49b1
            try clear c50
            try clear c50b0
            try clear c50b1
            try clear c51
            try clear c51b0
            try clear c51b1
            try clear c52
            try clear c53
            try clear c53b0
            try clear c53b1
            try clear c53b2
            try clear c54
            try clear c54b0
            try clear c54b1
            try clear c57
            try clear c57b0
            try clear c57b1
            try clear c57b2
            try clear c60
            try clear c60b0
            try clear c60b1
            try clear c61
            try clear c61b0
            try clear c61b1
            try clear c61b2
            try clear c63
            try clear c63b0
            try clear c63b1
            try clear p2
            obtain ⟨kq,x68_61,rfl,HA,HJ61,BK111,BK112,HB⟩:=hcut
            cases kq with
            | zero=>exact absurd HA.out (by simp [isthmusref20_Word.j1])
            | succ kj61 =>
             have H:=HA.out
             clear HA
             simp only [isthmusref20_Word.j1] at H
             by_cases c64:x68_61=true
             ·subst c64
              have H1:(some (t114,(⟨#[]⟩:ByteArray),0,true))=some (r1,r2,r3,r4):=by rw [if_pos rfl] at H; exact H
              clear H
              have H:=H1
              clear H1
              simp only [Option.some.injEq,Prod.mk.injEq] at H
              obtain ⟨rfl,rfl,rfl,rfl⟩:=H
              go_wp2
              refine bodyPost_ret (results_list (rs:=[.tmp 10,.tmp 11,.tmp 12,.tmp 13]) rfl (by simp) (.tmp (.tmp (.tmp (.tmp .nil))))) rfl ?_
              exact ⟨by first|rfl|(simp [errW_none,errW_some]<;>rfl)|(simp [*,errW_none,errW_some]<;>rfl),by repeat (first|(with_reducible first|exact HB.out|apply below_alloc|apply pw_below_drewN|apply below_drew1|refine below_set ?_ GE111.out|refine below_set ?_ GE112.out)|exact HB.out)⟩
             ·replace c64:=Bool.eq_false_iff.mpr c64
              subst c64
              have H1:(if a2=16 then (if a3≤3 then (if t115.size+t115.size≤9223372036854775807 then ((isthmusref13_Gives.f kj61 a3).bind fun t119=>((isthmusref20_code.f t119).bind fun t120=>(some (t115++t115,t120,0,true)))) else (none)) else ((isthmusref13_Gives.f kj61 a3).bind fun t121=>((isthmusref20_code.f t121).bind fun t122=>(some (t115,t122,0,true))))) else (if a2=18 then (if 0≤a3 then (if a3 < (l0_3.length:Int) then ((isthmusref20_code.f (rd l0_3 a3)).bind fun t124=>((isthmusref20_code.f (rd l0_3 a3)).bind fun t126=>(some (t124,t126,0,true)))) else (none)) else (none)) else (if a2=26 then (if t113.size+t114.size≤9223372036854775807 then (if (t113++t114).size+t113.size≤9223372036854775807 then (some ((t113++t114)++t113,t113++t114,0,true)) else (none)) else (none)) else (if a2=27 then (some (t114,(⟨#[]⟩:ByteArray),0,true)) else ((isthmusref20_rounds.f kj61 a1_0 a1_1 a1_2 a1_3 a2 a3).bind fun bt127=>(some (bt127.1,bt127.2.1,bt127.2.2.1,bt127.2.2.2)))))))=some (r1,r2,r3,r4):=by rw [if_neg (show ¬ (false=true) by decide)] at H; exact H
              clear H
              have H:=H1
              clear H1
              by_cases c65:a2=16
              ·rw [if_pos c65] at H
               have c65b0:(a2 == 16)=true:=beq_iff_eq.mpr c65
               have c65b1:(a2 != 16)=false:=bne_eq_false_iff_eq.mpr c65
               clear c65
               by_cases c66:a3≤3
               ·rw [if_pos c66] at H
                have c66b0:decide (a3≤3)=true:=decide_eq_true c66
                clear c66
                by_cases c67:t115.size+t115.size≤9223372036854775807
                ·rw [if_pos c67] at H
                 have c67b0:=eq_true c67
                 have c67b1:decide (t115.size+t115.size≤9223372036854775807)=true:=decide_eq_true c67
                 try have c67b2:(9223372036854775807 < t115.size+t115.size)=False:=eq_false (Nat.not_lt.2 c67)
                 replace H:=Option.bind_eq_some_iff.mp H
                 obtain ⟨t119,A680,H⟩:=H
                 replace H:((isthmusref20_code.f t119).bind fun t120=>(some (t115++t115,t120,0,true)))=some (r1,r2,r3,r4):=H
                 have A68:=Aside0.mk A680
                 clear A680
                 replace H:=Option.bind_eq_some_iff.mp H
                 obtain ⟨t120,A690,H⟩:=H
                 replace H:(some (t115++t115,t120,0,true))=some (r1,r2,r3,r4):=H
                 have A69:=Aside0.mk A690
                 clear A690
                 simp only [Option.some.injEq,Prod.mk.injEq] at H
                 obtain ⟨rfl,rfl,rfl,rfl⟩:=H
                 go_wp2_with (first|((with_reducible refine gate_callee (f:=70) rfl ?_); refine goesL_ (some 82) rfl rfl Tryd.func70 (by kernel_rfl) rfl #[.int .i64 a3] rfl (by (try simp only [List.map_toArray,List.map_cons,List.map_nil]); first|done|rfl|(simp only [List.length_drop,List.length_take]; rfl)) ?_; (with_reducible refine (isthmusref13_Gives.calls kj61 a3 t119 _ A68.out).mono ?_); rintro e w' ⟨rfl,⟨nd,rfl⟩⟩; refine ⟨_,rfl,?_⟩)|((with_reducible refine gate_callee (f:=77) rfl ?_); refine goesL_ (some 83) rfl rfl Tryd.func77 (by kernel_rfl) rfl #[.int .i64 t119] rfl (by (try simp only [List.map_toArray,List.map_cons,List.map_nil]); first|done|rfl|(simp only [List.length_drop,List.length_take]; rfl)) ?_; (with_reducible refine (isthmusref20_code.calls t119 t120 _ A69.out).mono ?_); rintro e w70 ⟨rfl,hb⟩; refine ⟨_,rfl,?_⟩; have n0_:=Aside0.mk (blk_below (g:=gb111) (o:=.cells #[.slice A0_0 l0_0.length c0_0,.slice A0_1 l0_1.length c0_1,.slice A0_2 l0_2.length c0_2,.slice A0_3 l0_3.length c0_3] 26 (0,0)) (by (with_reducible repeat (first|refine blk_drewN ?_ _|refine blk_drew ?_|refine blk_alloc ?_ _)); exact BK111.out) hb); have n1_:=Aside0.mk (blk_below (g:=gb112) (o:=.cells #[.string a1_0,.int .i64 a1_1,.bool a1_2,.bool a1_3] 61 (0,0)) (by (with_reducible repeat (first|refine blk_drewN ?_ _|refine blk_drew ?_|refine blk_alloc ?_ _)); exact BK112.out) hb); have n2_:=Aside0.mk (below_step (by repeat (first|(with_reducible first|exact HB.out|apply below_alloc|apply pw_below_drewN|apply below_drew1|refine below_set ?_ GE111.out|refine below_set ?_ GE112.out)|exact HB.out)) hb); clear BK111; clear BK112; clear HB; have BK111:=n0_; have BK112:=n1_; have HB:=n2_; clear n0_ n1_ n2_; (try clear hb); (try clear hb2); (try clear hk); (try clear hi)))
                 refine bodyPost_ret (results_list (rs:=[.tmp 10,.tmp 11,.tmp 12,.tmp 13]) rfl (by simp) (.tmp (.tmp (.tmp (.tmp .nil))))) rfl ?_
                 exact ⟨by first|rfl|(simp [errW_none,errW_some]<;>rfl)|(simp [*,errW_none,errW_some]<;>rfl),by repeat (first|(with_reducible first|exact HB.out|apply below_alloc|apply pw_below_drewN|apply below_drew1|refine below_set ?_ GE111.out|refine below_set ?_ GE112.out)|exact HB.out)⟩
                ·rw [if_neg c67] at H
                 exact absurd H (by simp)
               ·rw [if_neg c66] at H
                have c66b0:decide (a3≤3)=false:=decide_eq_false c66
                clear c66
                replace H:=Option.bind_eq_some_iff.mp H
                obtain ⟨t121,A710,H⟩:=H
                replace H:((isthmusref20_code.f t121).bind fun t122=>(some (t115,t122,0,true)))=some (r1,r2,r3,r4):=H
                have A71:=Aside0.mk A710
                clear A710
                replace H:=Option.bind_eq_some_iff.mp H
                obtain ⟨t122,A720,H⟩:=H
                replace H:(some (t115,t122,0,true))=some (r1,r2,r3,r4):=H
                have A72:=Aside0.mk A720
                clear A720
                simp only [Option.some.injEq,Prod.mk.injEq] at H
                obtain ⟨rfl,rfl,rfl,rfl⟩:=H
                go_wp2_with (first|((with_reducible refine gate_callee (f:=70) rfl ?_); refine goesL_ (some 82) rfl rfl Tryd.func70 (by kernel_rfl) rfl #[.int .i64 a3] rfl (by (try simp only [List.map_toArray,List.map_cons,List.map_nil]); first|done|rfl|(simp only [List.length_drop,List.length_take]; rfl)) ?_; (with_reducible refine (isthmusref13_Gives.calls kj61 a3 t121 _ A71.out).mono ?_); rintro e w' ⟨rfl,⟨nd,rfl⟩⟩; refine ⟨_,rfl,?_⟩)|((with_reducible refine gate_callee (f:=77) rfl ?_); refine goesL_ (some 83) rfl rfl Tryd.func77 (by kernel_rfl) rfl #[.int .i64 t121] rfl (by (try simp only [List.map_toArray,List.map_cons,List.map_nil]); first|done|rfl|(simp only [List.length_drop,List.length_take]; rfl)) ?_; (with_reducible refine (isthmusref20_code.calls t121 t122 _ A72.out).mono ?_); rintro e w73 ⟨rfl,hb⟩; refine ⟨_,rfl,?_⟩; have n0_:=Aside0.mk (blk_below (g:=gb111) (o:=.cells #[.slice A0_0 l0_0.length c0_0,.slice A0_1 l0_1.length c0_1,.slice A0_2 l0_2.length c0_2,.slice A0_3 l0_3.length c0_3] 26 (0,0)) (by (with_reducible repeat (first|refine blk_drewN ?_ _|refine blk_drew ?_|refine blk_alloc ?_ _)); exact BK111.out) hb); have n1_:=Aside0.mk (blk_below (g:=gb112) (o:=.cells #[.string a1_0,.int .i64 a1_1,.bool a1_2,.bool a1_3] 61 (0,0)) (by (with_reducible repeat (first|refine blk_drewN ?_ _|refine blk_drew ?_|refine blk_alloc ?_ _)); exact BK112.out) hb); have n2_:=Aside0.mk (below_step (by repeat (first|(with_reducible first|exact HB.out|apply below_alloc|apply pw_below_drewN|apply below_drew1|refine below_set ?_ GE111.out|refine below_set ?_ GE112.out)|exact HB.out)) hb); clear BK111; clear BK112; clear HB; have BK111:=n0_; have BK112:=n1_; have HB:=n2_; clear n0_ n1_ n2_; (try clear hb); (try clear hb2); (try clear hk); (try clear hi)))
                refine bodyPost_ret (results_list (rs:=[.tmp 10,.tmp 11,.tmp 12,.tmp 13]) rfl (by simp) (.tmp (.tmp (.tmp (.tmp .nil))))) rfl ?_
                exact ⟨by first|rfl|(simp [errW_none,errW_some]<;>rfl)|(simp [*,errW_none,errW_some]<;>rfl),by repeat (first|(with_reducible first|exact HB.out|apply below_alloc|apply pw_below_drewN|apply below_drew1|refine below_set ?_ GE111.out|refine below_set ?_ GE112.out)|exact HB.out)⟩
              ·rw [if_neg c65] at H
               have c65b0:(a2 == 16)=false:=beq_eq_false_iff_ne.mpr c65
               have c65b1:(a2 != 16)=true:=bne_iff_ne.mpr c65
               by_cases c74:a2=18
               ·rw [if_pos c74] at H
                have c74b0:(a2 == 18)=true:=beq_iff_eq.mpr c74
                have c74b1:(a2 != 18)=false:=bne_eq_false_iff_eq.mpr c74
                clear c74
                by_cases c75:0≤a3
                ·rw [if_pos c75] at H
                 have c75b0:decide (0≤a3)=true:=decide_eq_true c75
                 clear c75
                 by_cases c76:a3 < (l0_3.length:Int)
                 ·rw [if_pos c76] at H
                  have c76b0:decide (a3 < (l0_3.length:Int))=true:=decide_eq_true c76
                  clear c76
                  replace H:=Option.bind_eq_some_iff.mp H
                  obtain ⟨t124,A770,H⟩:=H
                  replace H:((isthmusref20_code.f (rd l0_3 a3)).bind fun t126=>(some (t124,t126,0,true)))=some (r1,r2,r3,r4):=H
                  have A77:=Aside0.mk A770
                  clear A770
                  replace H:=Option.bind_eq_some_iff.mp H
                  obtain ⟨t126,A780,H⟩:=H
                  replace H:(some (t124,t126,0,true))=some (r1,r2,r3,r4):=H
                  have A78:=Aside0.mk A780
                  clear A780
                  simp only [Option.some.injEq,Prod.mk.injEq] at H
                  obtain ⟨rfl,rfl,rfl,rfl⟩:=H
                  try go_wp2
                  have n0_:=Aside0.mk (blk_drew BK111.out)
                  have n1_:=Aside0.mk (blk_drew BK112.out)
                  have n2_:=Aside0.mk (below_drew1 HB.out)
                  clear BK111
                  clear BK112
                  clear HB
                  have BK111:=n0_
                  have BK112:=n1_
                  have HB:=n2_
                  clear n0_ n1_ n2_
                  have p123:0≤(a3:Int):=of_decide_eq_true (by first|(with_reducible assumption)|assumption)
                  have q123:a3 < (l0_3.length:Int):=of_decide_eq_true (by first|(with_reducible assumption)|assumption)
                  obtain ⟨ad123,e123,hx123_0⟩:=Kd.at_int HR0_3.out a3 p123 q123
                  have hw123_0:=hx123_0
                  cases e123
                  replace hx123_0:=(HB.out.cell (World.block_lt_of_cell? w _ hx123_0)).trans hx123_0
                  replace p123:=eq_true p123
                  replace q123:=eq_true q123
                  have p125:0≤(a3:Int):=of_decide_eq_true (by first|(with_reducible assumption)|assumption)
                  have q125:a3 < (l0_3.length:Int):=of_decide_eq_true (by first|(with_reducible assumption)|assumption)
                  obtain ⟨ad125,e125,hx125_0⟩:=Kd.at_int HR0_3.out a3 p125 q125
                  have hw125_0:=hx125_0
                  obtain rfl:ad123=ad125:=(by injection e125)
                  replace hx125_0:=(HB.out.cell (World.block_lt_of_cell? w _ hx125_0)).trans hx125_0
                  replace p125:=eq_true p125
                  replace q125:=eq_true q125
                  refine start_ (n:=16) (S:=fun w'=>w'.cell? ⟨gb111,0,none⟩=some (.slice A0_0 l0_0.length c0_0)∧w'.cell? ⟨gb111,1,none⟩=some (.slice A0_1 l0_1.length c0_1)∧w'.cell? ⟨gb111,2,none⟩=some (.slice A0_2 l0_2.length c0_2)∧w'.cell? ⟨gb111,3,none⟩=some (.slice (some ad123) l0_3.length c0_3)∧w'.cell? (ad123.add (a3).toNat)=some (.int .i64 (rd l0_3 a3))∧w'.cell? (ad123.add (a3).toNat)=some (.int .i64 (rd l0_3 a3))) (ds:=[]) #[false,false,false,false,false,false,false,false,false,false,false,false,false,false,false,false] (by kernel_rfl) rfl rfl ⟨(blk_cell BK111.out 0).trans rfl,(blk_cell BK111.out 1).trans rfl,(blk_cell BK111.out 2).trans rfl,(blk_cell BK111.out 3).trans rfl,((HB.out.cell (World.block_lt_of_cell? w _ hw123_0)).trans hw123_0),((HB.out.cell (World.block_lt_of_cell? w _ hw125_0)).trans hw125_0)⟩ (fun hHeld=>?_); refine with_tabW isthmusref20_Word.tab34 isthmusref20_Word.bits34 (fun HT_ HW_=>?_)
                  generalize wc.drew=w79 at BK111 BK112 HB hx123_0 hx125_0 hHeld ⊢
                  refine pure_ (i:=0) (N:=some 86) (v:=?_) (a':=?_) (bl_ 16 1) rfl rfl (any_of HT_.out (by kernel_rfl)) (fun _ _ _ h=>h) (Or.inl ⟨by rfl,?_⟩) ?_ ?_
                  rotate_left
                  ·intro w'
                   go_simp
                   with_reducible rfl
                  rotate_left
                  ·simp only [Act.put,zA_,zB_,zC_,i64_w]
                   rfl
                  refine pure_ (i:=2) (N:=some 88) (v:=?_) (a':=?_) (bl_ 16 5) rfl rfl (any_of HT_.out (by kernel_rfl)) (fun _ _ _ h=>h) (Or.inl ⟨by rfl,?_⟩) ?_ ?_
                  rotate_left
                  ·intro w'
                   go_simp
                   with_reducible rfl
                  rotate_left
                  ·simp only [Act.put,zA_,zB_,zC_,i64_w]
                   rfl
                  refine pure_ (i:=6) (N:=some 92) (v:=?_) (a':=?_) (bl_ 16 69) rfl rfl (any_of HT_.out (by kernel_rfl)) (fun _ _ _ h=>h) (Or.inl ⟨by rfl,?_⟩) ?_ ?_
                  rotate_left
                  ·intro w'
                   go_simp
                   with_reducible rfl
                  rotate_left
                  ·simp only [Act.put,zA_,zB_,zC_,i64_w]
                   rfl
                  refine pure_ (i:=8) (N:=some 94) (v:=?_) (a':=?_) (bl_ 16 325) rfl rfl (any_of HT_.out (by kernel_rfl)) (fun _ _ _ h=>h) (Or.inl ⟨by rfl,?_⟩) ?_ ?_
                  rotate_left
                  ·intro w'
                   go_simp
                   with_reducible rfl
                  rotate_left
                  ·simp only [Act.put,zA_,zB_,zC_,i64_w]
                   rfl
                  refine take_ (i:=1) (N:=some 87) (v:=?_) (a':=?_) (bl_ 16 327) rfl rfl (take_ofW HT_.out HW_.out (by kernel_rfl)) (fun _ _ _ h=>h) (Or.inl ⟨by rfl,?_⟩) hHeld ?_ ?_
                  rotate_left
                  ·rintro w' ⟨s0,s1,s2,s3,s4,s5⟩
                   go_simp
                   with_reducible rfl
                  rotate_left
                  ·simp only [Act.put,zA_,zB_,zC_,i64_w]
                   rfl
                  refine pure_ (i:=3) (N:=some 89) (v:=?_) (a':=?_) (bl_ 16 335) rfl rfl (any_of HT_.out (by kernel_rfl)) (fun _ _ _ h=>h) (Or.inl ⟨by rfl,?_⟩) ?_ ?_
                  rotate_left
                  ·intro w'
                   go_simp
                   with_reducible rfl
                  rotate_left
                  ·simp only [Act.put,zA_,zB_,zC_,i64_w]
                   rfl
                  refine take_ (i:=4) (N:=some 90) (v:=?_) (a':=?_) (bl_ 16 351) rfl rfl (take_ofW HT_.out HW_.out (by kernel_rfl)) (fun _ _ _ h=>h) (Or.inl ⟨by rfl,?_⟩) hHeld ?_ ?_
                  rotate_left
                  ·rintro w' ⟨s0,s1,s2,s3,s4,s5⟩
                   go_simp
                   with_reducible rfl
                  rotate_left
                  ·simp only [Act.put,zA_,zB_,zC_,i64_w]
                   rfl
                  refine take_ (i:=7) (N:=some 93) (v:=?_) (a':=?_) (bl_ 16 479) rfl rfl (take_ofW HT_.out HW_.out (by kernel_rfl)) (fun _ _ _ h=>h) (Or.inl ⟨by rfl,?_⟩) hHeld ?_ ?_
                  rotate_left
                  ·rintro w' ⟨s0,s1,s2,s3,s4,s5⟩
                   go_simp
                   with_reducible rfl
                  rotate_left
                  ·simp only [Act.put,zA_,zB_,zC_,i64_w]
                   rfl
                  refine pure_ (i:=9) (N:=some 95) (v:=?_) (a':=?_) (bl_ 16 991) rfl rfl (any_of HT_.out (by kernel_rfl)) (fun _ _ _ h=>h) (Or.inl ⟨by rfl,?_⟩) ?_ ?_
                  rotate_left
                  ·intro w'
                   go_simp
                   with_reducible rfl
                  rotate_left
                  ·simp only [Act.put,zA_,zB_,zC_,i64_w]
                   rfl
                  refine take_ (i:=10) (N:=some 96) (v:=?_) (a':=?_) (bl_ 16 2015) rfl rfl (take_ofW HT_.out HW_.out (by kernel_rfl)) (fun _ _ _ h=>h) (Or.inl ⟨by rfl,?_⟩) hHeld ?_ ?_
                  rotate_left
                  ·rintro w' ⟨s0,s1,s2,s3,s4,s5⟩
                   go_simp
                   with_reducible rfl
                  rotate_left
                  ·simp only [Act.put,zA_,zB_,zC_,i64_w]
                   rfl
                  refine one_ (i:=5) (N:=some 91) (bl_ 16 2047) rfl rfl (one_of HT_.out (by kernel_rfl)) (by decide) (fun K hK=>?_)
                  refine goes_ Tryd.func77 (by kernel_rfl) rfl #[.int .i64 (rd l0_3 a3)] (by rfl) rfl rfl (by (try simp only [List.map_toArray,List.map_cons,List.map_nil]); first|done|rfl|(simp only [List.length_drop,List.length_take]; rfl)) ?_
                  with_reducible refine (isthmusref20_code.calls (rd l0_3 a3) t124 _ A77.out).mono ?_
                  rintro e w80 ⟨rfl,hb⟩
                  refine ⟨_,rfl,?_⟩
                  have n0_:=Aside0.mk (blk_below (g:=gb111) (o:=.cells #[.slice A0_0 l0_0.length c0_0,.slice A0_1 l0_1.length c0_1,.slice A0_2 l0_2.length c0_2,.slice (some ad123) l0_3.length c0_3] 26 (0,0)) (by (with_reducible repeat (first|refine blk_drewN ?_ _|refine blk_drew ?_|refine blk_alloc ?_ _)); exact BK111.out) hb)
                  have n1_:=Aside0.mk (blk_below (g:=gb112) (o:=.cells #[.string a1_0,.int .i64 a1_1,.bool a1_2,.bool a1_3] 61 (0,0)) (by (with_reducible repeat (first|refine blk_drewN ?_ _|refine blk_drew ?_|refine blk_alloc ?_ _)); exact BK112.out) hb)
                  have n2_:=Aside0.mk (below_step (by repeat (first|(with_reducible first|exact HB.out|apply below_alloc|apply pw_below_drewN|apply below_drew1|refine below_set ?_ GE111.out|refine below_set ?_ GE112.out)|exact HB.out)) hb)
                  clear BK111
                  clear BK112
                  clear HB
                  have BK111:=n0_
                  have BK112:=n1_
                  have HB:=n2_
                  clear n0_ n1_ n2_
                  (try clear hb)
                  (try clear hb2)
                  (try clear hk)
                  (try clear hi)
                  refine hK.out _ _ ⟨(blk_cell BK111.out 0).trans rfl,(blk_cell BK111.out 1).trans rfl,(blk_cell BK111.out 2).trans rfl,(blk_cell BK111.out 3).trans rfl,((HB.out.cell (World.block_lt_of_cell? w _ hw123_0)).trans hw123_0),((HB.out.cell (World.block_lt_of_cell? w _ hw125_0)).trans hw125_0)⟩ (fun hHeld=>?_)
                  clear hK K
                  refine norm_ (a':=?_) ?_ ?_
                  rotate_left
                  ·show Act.put _ (some 91) _=_
                   simp only [Act.put,zA_,zB_,zC_,i64_w]
                   rfl
                  refine one_ (i:=11) (N:=some 97) (bl_ 16 4095) rfl rfl (one_of HT_.out (by kernel_rfl)) (by decide) (fun K hK=>?_)
                  refine goes_ Tryd.func77 (by kernel_rfl) rfl #[.int .i64 (rd l0_3 a3)] (by rfl) rfl rfl (by (try simp only [List.map_toArray,List.map_cons,List.map_nil]); first|done|rfl|(simp only [List.length_drop,List.length_take]; rfl)) ?_
                  with_reducible refine (isthmusref20_code.calls (rd l0_3 a3) t126 _ A78.out).mono ?_
                  rintro e w81 ⟨rfl,hb⟩
                  refine ⟨_,rfl,?_⟩
                  have n0_:=Aside0.mk (blk_below (g:=gb111) (o:=.cells #[.slice A0_0 l0_0.length c0_0,.slice A0_1 l0_1.length c0_1,.slice A0_2 l0_2.length c0_2,.slice (some ad123) l0_3.length c0_3] 26 (0,0)) (by (with_reducible repeat (first|refine blk_drewN ?_ _|refine blk_drew ?_|refine blk_alloc ?_ _)); exact BK111.out) hb)
                  have n1_:=Aside0.mk (blk_below (g:=gb112) (o:=.cells #[.string a1_0,.int .i64 a1_1,.bool a1_2,.bool a1_3] 61 (0,0)) (by (with_reducible repeat (first|refine blk_drewN ?_ _|refine blk_drew ?_|refine blk_alloc ?_ _)); exact BK112.out) hb)
                  have n2_:=Aside0.mk (below_step (by repeat (first|(with_reducible first|exact HB.out|apply below_alloc|apply pw_below_drewN|apply below_drew1|refine below_set ?_ GE111.out|refine below_set ?_ GE112.out)|exact HB.out)) hb)
                  clear BK111
                  clear BK112
                  clear HB
                  have BK111:=n0_
                  have BK112:=n1_
                  have HB:=n2_
                  clear n0_ n1_ n2_
                  (try clear hb)
                  (try clear hb2)
                  (try clear hk)
                  (try clear hi)
                  refine hK.out _ _ ⟨(blk_cell BK111.out 0).trans rfl,(blk_cell BK111.out 1).trans rfl,(blk_cell BK111.out 2).trans rfl,(blk_cell BK111.out 3).trans rfl,((HB.out.cell (World.block_lt_of_cell? w _ hw123_0)).trans hw123_0),((HB.out.cell (World.block_lt_of_cell? w _ hw125_0)).trans hw125_0)⟩ (fun hHeld=>?_)
                  clear hK K
                  refine norm_ (a':=?_) ?_ ?_
                  rotate_left
                  ·show Act.put _ (some 97) _=_
                   simp only [Act.put,zA_,zB_,zC_,i64_w]
                   rfl
                  refine pure_ (i:=12) (N:=some 10) (v:=?_) (a':=?_) (bl_ 16 8191) rfl rfl (any_of HT_.out (by kernel_rfl)) (fun _ _ _ h=>h) (Or.inl ⟨by rfl,?_⟩) ?_ ?_
                  rotate_left
                  ·intro w'
                   go_simp
                   with_reducible rfl
                  rotate_left
                  ·simp only [Act.put,zA_,zB_,zC_,i64_w]
                   rfl
                  refine pure_ (i:=13) (N:=some 11) (v:=?_) (a':=?_) (bl_ 16 16383) rfl rfl (any_of HT_.out (by kernel_rfl)) (fun _ _ _ h=>h) (Or.inl ⟨by rfl,?_⟩) ?_ ?_
                  rotate_left
                  ·intro w'
                   go_simp
                   with_reducible rfl
                  rotate_left
                  ·simp only [Act.put,zA_,zB_,zC_,i64_w]
                   rfl
                  refine pure_ (i:=14) (N:=some 12) (v:=?_) (a':=?_) (bl_ 16 32767) rfl rfl (any_of HT_.out (by kernel_rfl)) (fun _ _ _ h=>h) (Or.inl ⟨by rfl,?_⟩) ?_ ?_
                  rotate_left
                  ·intro w'
                   go_simp
                   with_reducible rfl
                  rotate_left
                  ·simp only [Act.put,zA_,zB_,zC_,i64_w]
                   rfl
                  refine pure_ (i:=15) (N:=some 13) (v:=?_) (a':=?_) (bl_ 16 65535) rfl rfl (any_of HT_.out (by kernel_rfl)) (fun _ _ _ h=>h) (Or.inl ⟨by rfl,?_⟩) ?_ ?_
                  rotate_left
                  ·intro w'
                   go_simp
                   with_reducible rfl
                  rotate_left
                  ·simp only [Act.put,zA_,zB_,zC_,i64_w]
                   rfl
                  refine done_ (done_of HT_.out (by kernel_rfl)) ?_
                  try go_wp2
                  refine bodyPost_ret (results_list (rs:=[.tmp 10,.tmp 11,.tmp 12,.tmp 13]) rfl (by simp) (.tmp (.tmp (.tmp (.tmp .nil))))) rfl ?_
                  exact ⟨by first|rfl|(simp [errW_none,errW_some]<;>rfl)|(simp [*,errW_none,errW_some]<;>rfl),by repeat (first|(with_reducible first|exact HB.out|apply below_alloc|apply pw_below_drewN|apply below_drew1|refine below_set ?_ GE111.out|refine below_set ?_ GE112.out)|exact HB.out)⟩
                 ·rw [if_neg c76] at H
                  exact absurd H (by simp)
                ·rw [if_neg c75] at H
                 exact absurd H (by simp)
               ·rw [if_neg c74] at H
                have c74b0:(a2 == 18)=false:=beq_eq_false_iff_ne.mpr c74
                have c74b1:(a2 != 18)=true:=bne_iff_ne.mpr c74
                by_cases c82:a2=26
                ·rw [if_pos c82] at H
                 have c82b0:(a2 == 26)=true:=beq_iff_eq.mpr c82
                 have c82b1:(a2 != 26)=false:=bne_eq_false_iff_eq.mpr c82
                 clear c82
                 by_cases c83:t113.size+t114.size≤9223372036854775807
                 ·rw [if_pos c83] at H
                  have c83b0:=eq_true c83
                  have c83b1:decide (t113.size+t114.size≤9223372036854775807)=true:=decide_eq_true c83
                  try have c83b2:(9223372036854775807 < t113.size+t114.size)=False:=eq_false (Nat.not_lt.2 c83)
                  by_cases c84:(t113++t114).size+t113.size≤9223372036854775807
                  ·rw [if_pos c84] at H
                   have c84b0:=eq_true c84
                   have c84b1:decide ((t113++t114).size+t113.size≤9223372036854775807)=true:=decide_eq_true c84
                   have c84b8:=c84b1
                   simp only [ByteArray.size_append,Int.natCast_add] at c84b8
                   have c84b9:=eq_true (of_decide_eq_true c84b8)
                   try have c84b2:(9223372036854775807 < (t113++t114).size+t113.size)=False:=eq_false (Nat.not_lt.2 c84)
                   simp only [Option.some.injEq,Prod.mk.injEq] at H
                   obtain ⟨rfl,rfl,rfl,rfl⟩:=H
                   go_wp2
                   refine bodyPost_ret (results_list (rs:=[.tmp 10,.tmp 11,.tmp 12,.tmp 13]) rfl (by simp) (.tmp (.tmp (.tmp (.tmp .nil))))) rfl ?_
                   exact ⟨by first|rfl|(simp [errW_none,errW_some]<;>rfl)|(simp [*,errW_none,errW_some]<;>rfl),by repeat (first|(with_reducible first|exact HB.out|apply below_alloc|apply pw_below_drewN|apply below_drew1|refine below_set ?_ GE111.out|refine below_set ?_ GE112.out)|exact HB.out)⟩
                  ·rw [if_neg c84] at H
                   exact absurd H (by simp)
                 ·rw [if_neg c83] at H
                  exact absurd H (by simp)
                ·rw [if_neg c82] at H
                 have c82b0:(a2 == 26)=false:=beq_eq_false_iff_ne.mpr c82
                 have c82b1:(a2 != 26)=true:=bne_iff_ne.mpr c82
                 by_cases c85:a2=27
                 ·rw [if_pos c85] at H
                  have c85b0:(a2 == 27)=true:=beq_iff_eq.mpr c85
                  have c85b1:(a2 != 27)=false:=bne_eq_false_iff_eq.mpr c85
                  clear c85
                  simp only [Option.some.injEq,Prod.mk.injEq] at H
                  obtain ⟨rfl,rfl,rfl,rfl⟩:=H
                  go_wp2
                  refine bodyPost_ret (results_list (rs:=[.tmp 10,.tmp 11,.tmp 12,.tmp 13]) rfl (by simp) (.tmp (.tmp (.tmp (.tmp .nil))))) rfl ?_
                  exact ⟨by first|rfl|(simp [errW_none,errW_some]<;>rfl)|(simp [*,errW_none,errW_some]<;>rfl),by repeat (first|(with_reducible first|exact HB.out|apply below_alloc|apply pw_below_drewN|apply below_drew1|refine below_set ?_ GE111.out|refine below_set ?_ GE112.out)|exact HB.out)⟩
                 ·rw [if_neg c85] at H
                  have c85b0:(a2 == 27)=false:=beq_eq_false_iff_ne.mpr c85
                  have c85b1:(a2 != 27)=true:=bne_iff_ne.mpr c85
                  replace H:=Option.bind_eq_some_iff.mp H
                  obtain ⟨⟨t127,t128,t129,t130⟩,A860,H⟩:=H
                  replace H:(some (t127,t128,t129,t130))=some (r1,r2,r3,r4):=H
                  have A86:=Aside0.mk A860
                  clear A860
                  simp only [Option.some.injEq,Prod.mk.injEq] at H
                  obtain ⟨rfl,rfl,rfl,rfl⟩:=H
                  have hnb87:=NB112_111.out
                  have hnc87:=NB111_112.out
                  have hcz88_0:wc.cell? ⟨gb112,0,none⟩=some (.string a1_0):=(blk_cell BK112.out 0).trans rfl
                  have hcz88_1:wc.cell? ⟨gb112,1,none⟩=some (.int .i64 a1_1):=(blk_cell BK112.out 1).trans rfl
                  have hcz88_2:wc.cell? ⟨gb112,2,none⟩=some (.bool a1_2):=(blk_cell BK112.out 2).trans rfl
                  have hcz88_3:wc.cell? ⟨gb112,3,none⟩=some (.bool a1_3):=(blk_cell BK112.out 3).trans rfl
                  have hfz88_0:=blk_frozen BK112.out 0
                  have hfz88_1:=blk_frozen BK112.out 1
                  have hfz88_2:=blk_frozen BK112.out 2
                  have hfz88_3:=blk_frozen BK112.out 3
                  go_wp2_with (first|((with_reducible refine gate_callee (f:=78) rfl ?_); refine goesL_ (some 114) rfl rfl Tryd.func78 (by kernel_rfl) rfl #[.agg #[.string a1_0,.int .i64 a1_1,.bool a1_2,.bool a1_3],.int .i64 a2,.int .i64 a3] rfl (by (try simp only [List.map_toArray,List.map_cons,List.map_nil]); first|done|rfl|(simp only [List.length_drop,List.length_take]; rfl)) ?_; (with_reducible refine (isthmusref20_rounds.calls kj61 a1_0 a1_1 a1_2 a1_3 a2 a3 t127 t128 t129 t130 _ A86.out).mono ?_); rintro e w89 ⟨rfl,hb⟩; refine ⟨_,rfl,?_⟩; have n0_:=Aside0.mk (blk_below (g:=gb111) (o:=.cells #[.slice A0_0 l0_0.length c0_0,.slice A0_1 l0_1.length c0_1,.slice A0_2 l0_2.length c0_2,.slice A0_3 l0_3.length c0_3] 26 (0,0)) (by (with_reducible repeat (first|refine blk_drewN ?_ _|refine blk_drew ?_|refine blk_alloc ?_ _)); exact BK111.out) hb); have n1_:=Aside0.mk (blk_below (g:=gb112) (o:=.cells #[.string a1_0,.int .i64 a1_1,.bool a1_2,.bool a1_3] 61 (0,0)) (by (with_reducible repeat (first|refine blk_drewN ?_ _|refine blk_drew ?_|refine blk_alloc ?_ _)); exact BK112.out) hb); have n2_:=Aside0.mk (below_step (by repeat (first|(with_reducible first|exact HB.out|apply below_alloc|apply pw_below_drewN|apply below_drew1|refine below_set ?_ GE111.out|refine below_set ?_ GE112.out)|exact HB.out)) hb); clear BK111; clear BK112; clear HB; have BK111:=n0_; have BK112:=n1_; have HB:=n2_; clear n0_ n1_ n2_; (try clear hb); (try clear hb2); (try clear hk); (try clear hi)))
                  refine bodyPost_ret (results_list (rs:=[.tmp 10,.tmp 11,.tmp 12,.tmp 13]) rfl (by simp) (.tmp (.tmp (.tmp (.tmp .nil))))) rfl ?_
                  exact ⟨by first|rfl|(simp [errW_none,errW_some]<;>rfl)|(simp [*,errW_none,errW_some]<;>rfl),by repeat (first|(with_reducible first|exact HB.out|apply below_alloc|apply pw_below_drewN|apply below_drew1|refine below_set ?_ GE111.out|refine below_set ?_ GE112.out)|exact HB.out)⟩
end Go.Proofs.YtcmdjpolgaejoaaDoor.D
