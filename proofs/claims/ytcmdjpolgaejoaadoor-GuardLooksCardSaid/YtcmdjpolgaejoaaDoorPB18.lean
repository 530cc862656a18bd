/- The laws GuardLooks, GuardWords of the program hold, as their cards say: texts put together by a program, 19 of 38. -/
import Derived.Test.YtcmdjpolgaejoaaDoorPB13
import Derived.Test.YtcmdjpolgaejoaaDoorPB17
namespace Go.Proofs.YtcmdjpolgaejoaaDoor.C
open Go.RowKit Go.Proofs.YtcmdjpolgaejoaaDoorW.PrintWords Go.Proofs.YtcmdjpolgaejoaaDoorW.PrintLast Go.Proofs.YtcmdjpolgaejoaaDoorW.PrintMore
attribute [local go_sem] max2_int min2_int max_two min_two max_three min_three max_four min_four
set_option linter.unusedVariables false
set_option linter.unusedSimpArgs false
mutual
def code_may.j0:Nat→Int→Int→Int→Bool→List Int→List Int→List ByteArray→List Int→Option (Bool)
 | 0,_,_,_,_,_,_,_,_=>none
 | k+1,x5,x6,x63,x83,x117000,x117001,x117002,x117003=>if x83=true then (some true) else (if x63=16 then (if x6 ≥ 1 then (some (decide (x6≤10))) else (some false)) else (if x63=18 then (code_may.j1 k x5 x6 x63 (x63 == 18) x117000 x117001 x117002 x117003) else (code_may.j1 k x5 x6 x63 (x63 == 19) x117000 x117001 x117002 x117003)))
def code_may.j1:Nat→Int→Int→Int→Bool→List Int→List Int→List ByteArray→List Int→Option (Bool)
 | 0,_,_,_,_,_,_,_,_=>none
 | k+1,x5,x6,x63,x96,x117000,x117001,x117002,x117003=>if x96=true then ((code_place.f x6 (x117003.length:Int)).bind fun t127=>(some t127)) else (if x63=21 then ((code_place.f x6 (x117002.length:Int)).bind fun t128=>(some t128)) else (if x63=23 then (some (decide (x6≤1024))) else (if x63=26 then (some (decide (x6≤1))) else (if x6=0 then (some (decide (x5≤27))) else (some false)))))
end
def code_may.f (k:Nat) (l0_0:List Int) (l0_1:List Int) (l0_2:List ByteArray) (l0_3:List Int) (a1:Int):Option (Bool):=(pack_Parts.f a1).bind fun bt117=>(if bt117.1=1 then ((code_place.f bt117.2.1 (l0_1.length:Int)).bind fun t120=>(if t120=true then (if bt117.2.2=1 then (some true) else (if bt117.2.2=2 then (if 0≤bt117.2.1 then (if bt117.2.1 < (l0_1.length:Int) then ((code_place.f (rd l0_1 bt117.2.1) 2).bind fun t122=>(some t122)) else (none)) else (none)) else (some false))) else (some false))) else (if bt117.1=11 then (if bt117.2.1=0 then ((code_kind.f bt117.2.2).bind fun t123=>(some t123)) else (some false)) else (if bt117.1=12 then (if bt117.2.1=0 then (some (decide (bt117.2.2≤1))) else (some false)) else (if bt117.1=17 then ((code_place.f bt117.2.1 (l0_3.length:Int)).bind fun t124=>(some t124)) else (if bt117.2.2=0 then (if bt117.1=2 then ((code_place.f bt117.2.1 (l0_1.length:Int)).bind fun t125=>(if t125=true then (if 0≤bt117.2.1 then (if bt117.2.1 < (l0_1.length:Int) then (some (decide ((rd l0_1 bt117.2.1) ≥ 0))) else (none)) else (none)) else (some false))) else (if bt117.1=3 then (some (decide (bt117.2.1 < 4))) else (if bt117.1=13 then (code_may.j0 k bt117.1 bt117.2.1 bt117.1 (bt117.1 == 13) l0_0 l0_1 l0_2 l0_3) else (if bt117.1=14 then (code_may.j0 k bt117.1 bt117.2.1 bt117.1 (bt117.1 == 14) l0_0 l0_1 l0_2 l0_3) else (if bt117.1=15 then (code_may.j0 k bt117.1 bt117.2.1 bt117.1 (bt117.1 == 15) l0_0 l0_1 l0_2 l0_3) else (code_may.j0 k bt117.1 bt117.2.1 bt117.1 (bt117.1 == 24) l0_0 l0_1 l0_2 l0_3)))))) else (some false))))))
set_option maxHeartbeats 8000000 in
set_option maxRecDepth 100000 in
theorem code_may.calls (k:Nat) (A0_0:Option Addr) (c0_0:Nat) (l0_0:List Int) (A0_1:Option Addr) (c0_1:Nat) (l0_1:List Int) (A0_2:Option Addr) (c0_2:Nat) (l0_2:List ByteArray) (A0_3:Option Addr) (c0_3:Nat) (l0_3:List Int) (a1:Int) (r:Bool) (w:World) (hr0_0:Kd.C (Kd.int .u64) w A0_0 l0_0.length l0_0) (hc0_0:l0_0.length≤c0_0) (hr0_1:Kd.C (Kd.int .i64) w A0_1 l0_1.length l0_1) (hc0_1:l0_1.length≤c0_1) (hr0_2:Kd.C Kd.string w A0_2 l0_2.length l0_2) (hc0_2:l0_2.length≤c0_2) (hr0_3:Kd.C (Kd.int .i64) w A0_3 l0_3.length l0_3) (hc0_3:l0_3.length≤c0_3) (hG:Glob w) (h:code_may.f k l0_0 l0_1 l0_2 l0_3 a1=some r) :
  Calls Tryd.prog 51 #[.agg #[.slice A0_0 l0_0.length c0_0,.slice A0_1 l0_1.length c0_1,.slice A0_2 l0_2.length c0_2,.slice A0_3 l0_3.length c0_3],.int .u64 a1] w fun e w'=>e=.returned (.bool r)∧Below w.heap.size w w':=by
 have hu26:=Tryd.underlying26
 have HR0_0:=Aside0.mk hr0_0
 have HC0_0:=Aside0.mk hc0_0
 clear hr0_0 hc0_0
 have HR0_1:=Aside0.mk hr0_1
 have HC0_1:=Aside0.mk hc0_1
 clear hr0_1 hc0_1
 have HR0_2:=Aside0.mk hr0_2
 have HC0_2:=Aside0.mk hc0_2
 clear hr0_2 hc0_2
 have HR0_3:=Aside0.mk hr0_3
 have HC0_3:=Aside0.mk hc0_3
 clear hr0_3 hc0_3
 have HB:=Aside0.mk (Below.refl w.heap.size w)
 have HG:=Aside0.mk hG
 clear hG
 have H:((pack_Parts.f a1).bind fun bt117=>(if bt117.1=1 then ((code_place.f bt117.2.1 (l0_1.length:Int)).bind fun t120=>(if t120=true then (if bt117.2.2=1 then (some true) else (if bt117.2.2=2 then (if 0≤bt117.2.1 then (if bt117.2.1 < (l0_1.length:Int) then ((code_place.f (rd l0_1 bt117.2.1) 2).bind fun t122=>(some t122)) else (none)) else (none)) else (some false))) else (some false))) else (if bt117.1=11 then (if bt117.2.1=0 then ((code_kind.f bt117.2.2).bind fun t123=>(some t123)) else (some false)) else (if bt117.1=12 then (if bt117.2.1=0 then (some (decide (bt117.2.2≤1))) else (some false)) else (if bt117.1=17 then ((code_place.f bt117.2.1 (l0_3.length:Int)).bind fun t124=>(some t124)) else (if bt117.2.2=0 then (if bt117.1=2 then ((code_place.f bt117.2.1 (l0_1.length:Int)).bind fun t125=>(if t125=true then (if 0≤bt117.2.1 then (if bt117.2.1 < (l0_1.length:Int) then (some (decide ((rd l0_1 bt117.2.1) ≥ 0))) else (none)) else (none)) else (some false))) else (if bt117.1=3 then (some (decide (bt117.2.1 < 4))) else (if bt117.1=13 then (code_may.j0 k bt117.1 bt117.2.1 bt117.1 (bt117.1 == 13) l0_0 l0_1 l0_2 l0_3) else (if bt117.1=14 then (code_may.j0 k bt117.1 bt117.2.1 bt117.1 (bt117.1 == 14) l0_0 l0_1 l0_2 l0_3) else (if bt117.1=15 then (code_may.j0 k bt117.1 bt117.2.1 bt117.1 (bt117.1 == 15) l0_0 l0_1 l0_2 l0_3) else (code_may.j0 k bt117.1 bt117.2.1 bt117.1 (bt117.1 == 24) l0_0 l0_1 l0_2 l0_3)))))) else (some false)))))))=some r:=h
 clear h
 replace H:=Option.bind_eq_some_iff.mp H
 obtain ⟨⟨t117,t118,t119⟩,A30,H⟩:=H
 replace H:(if t117=1 then ((code_place.f t118 (l0_1.length:Int)).bind fun t120=>(if t120=true then (if t119=1 then (some true) else (if t119=2 then (if 0≤t118 then (if t118 < (l0_1.length:Int) then ((code_place.f (rd l0_1 t118) 2).bind fun t122=>(some t122)) else (none)) else (none)) else (some false))) else (some false))) else (if t117=11 then (if t118=0 then ((code_kind.f t119).bind fun t123=>(some t123)) else (some false)) else (if t117=12 then (if t118=0 then (some (decide (t119≤1))) else (some false)) else (if t117=17 then ((code_place.f t118 (l0_3.length:Int)).bind fun t124=>(some t124)) else (if t119=0 then (if t117=2 then ((code_place.f t118 (l0_1.length:Int)).bind fun t125=>(if t125=true then (if 0≤t118 then (if t118 < (l0_1.length:Int) then (some (decide ((rd l0_1 t118) ≥ 0))) else (none)) else (none)) else (some false))) else (if t117=3 then (some (decide (t118 < 4))) else (if t117=13 then (code_may.j0 k t117 t118 t117 (t117 == 13) l0_0 l0_1 l0_2 l0_3) else (if t117=14 then (code_may.j0 k t117 t118 t117 (t117 == 14) l0_0 l0_1 l0_2 l0_3) else (if t117=15 then (code_may.j0 k t117 t118 t117 (t117 == 15) l0_0 l0_1 l0_2 l0_3) else (code_may.j0 k t117 t118 t117 (t117 == 24) l0_0 l0_1 l0_2 l0_3)))))) else (some false))))))=some r:=H
 have A3:=Aside0.mk A30
 clear A30
 by_cases c4:t117=1
 ·rw [if_pos c4] at H
  have c4b0:(t117 == 1)=true:=beq_iff_eq.mpr c4
  have c4b1:(t117 != 1)=false:=bne_eq_false_iff_eq.mpr c4
  clear c4
  replace H:=Option.bind_eq_some_iff.mp H
  obtain ⟨t120,A50,H⟩:=H
  replace H:(if t120=true then (if t119=1 then (some true) else (if t119=2 then (if 0≤t118 then (if t118 < (l0_1.length:Int) then ((code_place.f (rd l0_1 t118) 2).bind fun t122=>(some t122)) else (none)) else (none)) else (some false))) else (some false))=some r:=H
  have A5:=Aside0.mk A50
  clear A50
  by_cases c6:t120=true
  ·subst c6
   have H1:(if t119=1 then (some true) else (if t119=2 then (if 0≤t118 then (if t118 < (l0_1.length:Int) then ((code_place.f (rd l0_1 t118) 2).bind fun t122=>(some t122)) else (none)) else (none)) else (some false)))=some r:=by rw [if_pos rfl] at H; exact H
   clear H
   have H:=H1
   clear H1
   by_cases c7:t119=1
   ·rw [if_pos c7] at H
    have c7b0:(t119 == 1)=true:=beq_iff_eq.mpr c7
    have c7b1:(t119 != 1)=false:=bne_eq_false_iff_eq.mpr c7
    clear c7
    obtain rfl:=Option.some.inj H
    go_enter Tryd.func51,Tryd.ntmps51
    go_wp2_with (first|((with_reducible refine gate_dst (N:=2) rfl ?_); refine box_event ?hg (N:=2) ?hd (cs:=#[.slice A0_0 l0_0.length c0_0,.slice A0_1 l0_1.length c0_1,.slice A0_2 l0_2.length c0_2,.slice A0_3 l0_3.length c0_3]) (t:=26) ?hr ?_; (case hd=>rfl); (case hg=>rfl); (case hr=>first|(go_simp; done)|(go_simp; rfl)); intro gb116 hg w8 hbox hb; have n0_:=Aside0.mk (below_step (by repeat (first|(with_reducible first|exact HB.out|apply below_alloc|apply pw_below_drewN|apply below_drew1)|exact HB.out)) hb); have n1_:=Aside0.mk (hbox); have n2_:=Aside0.mk ((by rw [hg]; exact (below_size (by repeat (first|(with_reducible first|exact HB.out|apply below_alloc|apply pw_below_drewN|apply below_drew1)|exact HB.out))):w.heap.size≤gb116)); have n3_:=Aside0.mk ((by rw [hg]; exact (below_size (by repeat (first|(with_reducible first|exact HB.out|apply below_alloc|apply pw_below_drewN|apply below_drew1)|exact HB.out))):w.heap.size≤gb116)); clear HB; have HB:=n0_; have BK116:=n1_; have GW116:=n2_; have GE116:=n3_; clear n0_ n1_ n2_ n3_; clear hb hbox hg)|((with_reducible refine gate_callee (f:=52) rfl ?_); refine goesL_ (some 10) rfl rfl Tryd.func52 (by kernel_rfl) rfl #[.int .u64 a1] rfl (by (try simp only [List.map_toArray,List.map_cons,List.map_nil]); first|done|rfl|(simp only [List.length_drop,List.length_take]; rfl)) ?_; (with_reducible refine (pack_Parts.calls a1 t117 t118 t119 _ ?side1 A3.out).mono ?_); (case side1=>exact Glob.below HG.out (by repeat (first|(with_reducible first|exact HB.out|apply below_alloc|apply pw_below_drewN|apply below_drew1|refine below_set ?_ GE116.out)|exact HB.out))); rintro e w9 ⟨rfl,hb⟩; refine ⟨_,rfl,?_⟩; have n0_:=Aside0.mk (blk_below (g:=gb116) (o:=.cells #[.slice A0_0 l0_0.length c0_0,.slice A0_1 l0_1.length c0_1,.slice A0_2 l0_2.length c0_2,.slice A0_3 l0_3.length c0_3] 26 (0,0)) (by (with_reducible repeat (first|refine blk_drewN ?_ _|refine blk_drew ?_|refine blk_alloc ?_ _)); exact BK116.out) hb); have n1_:=Aside0.mk (below_step (by repeat (first|(with_reducible first|exact HB.out|apply below_alloc|apply pw_below_drewN|apply below_drew1|refine below_set ?_ GE116.out)|exact HB.out)) hb); clear BK116; clear HB; have BK116:=n0_; have HB:=n1_; clear n0_ n1_; (try clear hb); (try clear hb2); (try clear hk); (try clear hi); have hcz10_0:w9.cell? ⟨gb116,0,none⟩=some (.slice A0_0 l0_0.length c0_0):=(blk_cell BK116.out 0).trans rfl; have hcz10_1:w9.cell? ⟨gb116,1,none⟩=some (.slice A0_1 l0_1.length c0_1):=(blk_cell BK116.out 1).trans rfl; have hcz10_2:w9.cell? ⟨gb116,2,none⟩=some (.slice A0_2 l0_2.length c0_2):=(blk_cell BK116.out 2).trans rfl; have hcz10_3:w9.cell? ⟨gb116,3,none⟩=some (.slice A0_3 l0_3.length c0_3):=(blk_cell BK116.out 3).trans rfl; have hfz10_0:=blk_frozen BK116.out 0; have hfz10_1:=blk_frozen BK116.out 1; have hfz10_2:=blk_frozen BK116.out 2; have hfz10_3:=blk_frozen BK116.out 3)|((with_reducible refine gate_callee (f:=84) rfl ?_); refine goesL_ (some 21) rfl rfl Tryd.func84 (by kernel_rfl) rfl #[.int .i64 t118,.int .i64 (l0_1.length:Int)] rfl (by (try simp only [List.map_toArray,List.map_cons,List.map_nil]); first|done|rfl|(simp only [List.length_drop,List.length_take]; rfl)) ?_; (with_reducible refine (code_place.calls t118 (l0_1.length:Int) true _ A5.out).mono ?_); rintro e w' ⟨rfl,⟨nd,rfl⟩⟩; refine ⟨_,rfl,?_⟩))
    go_ret
    exact ⟨by first|rfl|(simp [errW_none,errW_some]<;>rfl)|(simp [*,errW_none,errW_some]<;>rfl),by repeat (first|(with_reducible first|exact HB.out|apply below_alloc|apply pw_below_drewN|apply below_drew1|refine below_set ?_ GE116.out)|exact HB.out)⟩
   ·rw [if_neg c7] at H
    have c7b0:(t119 == 1)=false:=beq_eq_false_iff_ne.mpr c7
    have c7b1:(t119 != 1)=true:=bne_iff_ne.mpr c7
    by_cases c11:t119=2
    ·rw [if_pos c11] at H
     have c11b0:(t119 == 2)=true:=beq_iff_eq.mpr c11
     have c11b1:(t119 != 2)=false:=bne_eq_false_iff_eq.mpr c11
     clear c11
     by_cases c12:0≤t118
     ·rw [if_pos c12] at H
      have c12b0:decide (0≤t118)=true:=decide_eq_true c12
      clear c12
      by_cases c13:t118 < (l0_1.length:Int)
      ·rw [if_pos c13] at H
       have c13b0:decide (t118 < (l0_1.length:Int))=true:=decide_eq_true c13
       clear c13
       replace H:=Option.bind_eq_some_iff.mp H
       obtain ⟨t122,A140,H⟩:=H
       replace H:(some t122)=some r:=H
       have A14:=Aside0.mk A140
       clear A140
       obtain rfl:=Option.some.inj H
       go_enter Tryd.func51,Tryd.ntmps51
       go_wp2_with (first|((with_reducible refine gate_dst (N:=2) rfl ?_); refine box_event ?hg (N:=2) ?hd (cs:=#[.slice A0_0 l0_0.length c0_0,.slice A0_1 l0_1.length c0_1,.slice A0_2 l0_2.length c0_2,.slice A0_3 l0_3.length c0_3]) (t:=26) ?hr ?_; (case hd=>rfl); (case hg=>rfl); (case hr=>first|(go_simp; done)|(go_simp; rfl)); intro gb116 hg w15 hbox hb; have n0_:=Aside0.mk (below_step (by repeat (first|(with_reducible first|exact HB.out|apply below_alloc|apply pw_below_drewN|apply below_drew1)|exact HB.out)) hb); have n1_:=Aside0.mk (hbox); have n2_:=Aside0.mk ((by rw [hg]; exact (below_size (by repeat (first|(with_reducible first|exact HB.out|apply below_alloc|apply pw_below_drewN|apply below_drew1)|exact HB.out))):w.heap.size≤gb116)); have n3_:=Aside0.mk ((by rw [hg]; exact (below_size (by repeat (first|(with_reducible first|exact HB.out|apply below_alloc|apply pw_below_drewN|apply below_drew1)|exact HB.out))):w.heap.size≤gb116)); clear HB; have HB:=n0_; have BK116:=n1_; have GW116:=n2_; have GE116:=n3_; clear n0_ n1_ n2_ n3_; clear hb hbox hg)|((with_reducible refine gate_callee (f:=52) rfl ?_); refine goesL_ (some 10) rfl rfl Tryd.func52 (by kernel_rfl) rfl #[.int .u64 a1] rfl (by (try simp only [List.map_toArray,List.map_cons,List.map_nil]); first|done|rfl|(simp only [List.length_drop,List.length_take]; rfl)) ?_; (with_reducible refine (pack_Parts.calls a1 t117 t118 t119 _ ?side1 A3.out).mono ?_); (case side1=>exact Glob.below HG.out (by repeat (first|(with_reducible first|exact HB.out|apply below_alloc|apply pw_below_drewN|apply below_drew1|refine below_set ?_ GE116.out)|exact HB.out))); rintro e w16 ⟨rfl,hb⟩; refine ⟨_,rfl,?_⟩; have n0_:=Aside0.mk (blk_below (g:=gb116) (o:=.cells #[.slice A0_0 l0_0.length c0_0,.slice A0_1 l0_1.length c0_1,.slice A0_2 l0_2.length c0_2,.slice A0_3 l0_3.length c0_3] 26 (0,0)) (by (with_reducible repeat (first|refine blk_drewN ?_ _|refine blk_drew ?_|refine blk_alloc ?_ _)); exact BK116.out) hb); have n1_:=Aside0.mk (below_step (by repeat (first|(with_reducible first|exact HB.out|apply below_alloc|apply pw_below_drewN|apply below_drew1|refine below_set ?_ GE116.out)|exact HB.out)) hb); clear BK116; clear HB; have BK116:=n0_; have HB:=n1_; clear n0_ n1_; (try clear hb); (try clear hb2); (try clear hk); (try clear hi); have hcz17_0:w16.cell? ⟨gb116,0,none⟩=some (.slice A0_0 l0_0.length c0_0):=(blk_cell BK116.out 0).trans rfl; have hcz17_1:w16.cell? ⟨gb116,1,none⟩=some (.slice A0_1 l0_1.length c0_1):=(blk_cell BK116.out 1).trans rfl; have hcz17_2:w16.cell? ⟨gb116,2,none⟩=some (.slice A0_2 l0_2.length c0_2):=(blk_cell BK116.out 2).trans rfl; have hcz17_3:w16.cell? ⟨gb116,3,none⟩=some (.slice A0_3 l0_3.length c0_3):=(blk_cell BK116.out 3).trans rfl; have hfz17_0:=blk_frozen BK116.out 0; have hfz17_1:=blk_frozen BK116.out 1; have hfz17_2:=blk_frozen BK116.out 2; have hfz17_3:=blk_frozen BK116.out 3)|((with_reducible refine gate_callee (f:=84) rfl ?_); refine goesL_ (some 21) rfl rfl Tryd.func84 (by kernel_rfl) rfl #[.int .i64 t118,.int .i64 (l0_1.length:Int)] rfl (by (try simp only [List.map_toArray,List.map_cons,List.map_nil]); first|done|rfl|(simp only [List.length_drop,List.length_take]; rfl)) ?_; (with_reducible refine (code_place.calls t118 (l0_1.length:Int) true _ A5.out).mono ?_); rintro e w' ⟨rfl,⟨nd,rfl⟩⟩; refine ⟨_,rfl,?_⟩; have p121:0≤(t118:Int):=of_decide_eq_true (by first|(with_reducible assumption)|assumption); have q121:t118 < (l0_1.length:Int):=of_decide_eq_true (by first|(with_reducible assumption)|assumption); obtain ⟨ad121,e121,hx121_0⟩:=Kd.at_int HR0_1.out t118 p121 q121; cases e121; replace hx121_0:=(HB.out.cell (World.block_lt_of_cell? w _ hx121_0)).trans hx121_0; replace p121:=eq_true p121; replace q121:=eq_true q121)|(go_at_call 84; (with_reducible refine (code_place.calls (rd l0_1 t118) 2 t122 _ A14.out).mono ?_); rintro e w' ⟨rfl,⟨nd,rfl⟩⟩))
       go_ret
       exact ⟨by first|rfl|(simp [errW_none,errW_some]<;>rfl)|(simp [*,errW_none,errW_some]<;>rfl),by repeat (first|(with_reducible first|exact HB.out|apply below_alloc|apply pw_below_drewN|apply below_drew1|refine below_set ?_ GE116.out)|exact HB.out)⟩
      ·rw [if_neg c13] at H
       exact absurd H (by simp)
     ·rw [if_neg c12] at H
      exact absurd H (by simp)
    ·rw [if_neg c11] at H
     have c11b0:(t119 == 2)=false:=beq_eq_false_iff_ne.mpr c11
     have c11b1:(t119 != 2)=true:=bne_iff_ne.mpr c11
     obtain rfl:=Option.some.inj H
     go_enter Tryd.func51,Tryd.ntmps51
     go_wp2_with (first|((with_reducible refine gate_dst (N:=2) rfl ?_); refine box_event ?hg (N:=2) ?hd (cs:=#[.slice A0_0 l0_0.length c0_0,.slice A0_1 l0_1.length c0_1,.slice A0_2 l0_2.length c0_2,.slice A0_3 l0_3.length c0_3]) (t:=26) ?hr ?_; (case hd=>rfl); (case hg=>rfl); (case hr=>first|(go_simp; done)|(go_simp; rfl)); intro gb116 hg w18 hbox hb; have n0_:=Aside0.mk (below_step (by repeat (first|(with_reducible first|exact HB.out|apply below_alloc|apply pw_below_drewN|apply below_drew1)|exact HB.out)) hb); have n1_:=Aside0.mk (hbox); have n2_:=Aside0.mk ((by rw [hg]; exact (below_size (by repeat (first|(with_reducible first|exact HB.out|apply below_alloc|apply pw_below_drewN|apply below_drew1)|exact HB.out))):w.heap.size≤gb116)); have n3_:=Aside0.mk ((by rw [hg]; exact (below_size (by repeat (first|(with_reducible first|exact HB.out|apply below_alloc|apply pw_below_drewN|apply below_drew1)|exact HB.out))):w.heap.size≤gb116)); clear HB; have HB:=n0_; have BK116:=n1_; have GW116:=n2_; have GE116:=n3_; clear n0_ n1_ n2_ n3_; clear hb hbox hg)|((with_reducible refine gate_callee (f:=52) rfl ?_); refine goesL_ (some 10) rfl rfl Tryd.func52 (by kernel_rfl) rfl #[.int .u64 a1] rfl (by (try simp only [List.map_toArray,List.map_cons,List.map_nil]); first|done|rfl|(simp only [List.length_drop,List.length_take]; rfl)) ?_; (with_reducible refine (pack_Parts.calls a1 t117 t118 t119 _ ?side1 A3.out).mono ?_); (case side1=>exact Glob.below HG.out (by repeat (first|(with_reducible first|exact HB.out|apply below_alloc|apply pw_below_drewN|apply below_drew1|refine below_set ?_ GE116.out)|exact HB.out))); rintro e w19 ⟨rfl,hb⟩; refine ⟨_,rfl,?_⟩; have n0_:=Aside0.mk (blk_below (g:=gb116) (o:=.cells #[.slice A0_0 l0_0.length c0_0,.slice A0_1 l0_1.length c0_1,.slice A0_2 l0_2.length c0_2,.slice A0_3 l0_3.length c0_3] 26 (0,0)) (by (with_reducible repeat (first|refine blk_drewN ?_ _|refine blk_drew ?_|refine blk_alloc ?_ _)); exact BK116.out) hb); have n1_:=Aside0.mk (below_step (by repeat (first|(with_reducible first|exact HB.out|apply below_alloc|apply pw_below_drewN|apply below_drew1|refine below_set ?_ GE116.out)|exact HB.out)) hb); clear BK116; clear HB; have BK116:=n0_; have HB:=n1_; clear n0_ n1_; (try clear hb); (try clear hb2); (try clear hk); (try clear hi); have hcz20_0:w19.cell? ⟨gb116,0,none⟩=some (.slice A0_0 l0_0.length c0_0):=(blk_cell BK116.out 0).trans rfl; have hcz20_1:w19.cell? ⟨gb116,1,none⟩=some (.slice A0_1 l0_1.length c0_1):=(blk_cell BK116.out 1).trans rfl; have hcz20_2:w19.cell? ⟨gb116,2,none⟩=some (.slice A0_2 l0_2.length c0_2):=(blk_cell BK116.out 2).trans rfl; have hcz20_3:w19.cell? ⟨gb116,3,none⟩=some (.slice A0_3 l0_3.length c0_3):=(blk_cell BK116.out 3).trans rfl; have hfz20_0:=blk_frozen BK116.out 0; have hfz20_1:=blk_frozen BK116.out 1; have hfz20_2:=blk_frozen BK116.out 2; have hfz20_3:=blk_frozen BK116.out 3)|((with_reducible refine gate_callee (f:=84) rfl ?_); refine goesL_ (some 21) rfl rfl Tryd.func84 (by kernel_rfl) rfl #[.int .i64 t118,.int .i64 (l0_1.length:Int)] rfl (by (try simp only [List.map_toArray,List.map_cons,List.map_nil]); first|done|rfl|(simp only [List.length_drop,List.length_take]; rfl)) ?_; (with_reducible refine (code_place.calls t118 (l0_1.length:Int) true _ A5.out).mono ?_); rintro e w' ⟨rfl,⟨nd,rfl⟩⟩; refine ⟨_,rfl,?_⟩))
     go_ret
     exact ⟨by first|rfl|(simp [errW_none,errW_some]<;>rfl)|(simp [*,errW_none,errW_some]<;>rfl),by repeat (first|(with_reducible first|exact HB.out|apply below_alloc|apply pw_below_drewN|apply below_drew1|refine below_set ?_ GE116.out)|exact HB.out)⟩
  ·replace c6:=Bool.eq_false_iff.mpr c6
   subst c6
   have H1:(some false)=some r:=by rw [if_neg (show ¬ (false=true) by decide)] at H; exact H
   clear H
   have H:=H1
   clear H1
   obtain rfl:=Option.some.inj H
   go_enter Tryd.func51,Tryd.ntmps51
   go_wp2_with (first|((with_reducible refine gate_dst (N:=2) rfl ?_); refine box_event ?hg (N:=2) ?hd (cs:=#[.slice A0_0 l0_0.length c0_0,.slice A0_1 l0_1.length c0_1,.slice A0_2 l0_2.length c0_2,.slice A0_3 l0_3.length c0_3]) (t:=26) ?hr ?_; (case hd=>rfl); (case hg=>rfl); (case hr=>first|(go_simp; done)|(go_simp; rfl)); intro gb116 hg w21 hbox hb; have n0_:=Aside0.mk (below_step (by repeat (first|(with_reducible first|exact HB.out|apply below_alloc|apply pw_below_drewN|apply below_drew1)|exact HB.out)) hb); have n1_:=Aside0.mk (hbox); have n2_:=Aside0.mk ((by rw [hg]; exact (below_size (by repeat (first|(with_reducible first|exact HB.out|apply below_alloc|apply pw_below_drewN|apply below_drew1)|exact HB.out))):w.heap.size≤gb116)); have n3_:=Aside0.mk ((by rw [hg]; exact (below_size (by repeat (first|(with_reducible first|exact HB.out|apply below_alloc|apply pw_below_drewN|apply below_drew1)|exact HB.out))):w.heap.size≤gb116)); clear HB; have HB:=n0_; have BK116:=n1_; have GW116:=n2_; have GE116:=n3_; clear n0_ n1_ n2_ n3_; clear hb hbox hg)|((with_reducible refine gate_callee (f:=52) rfl ?_); refine goesL_ (some 10) rfl rfl Tryd.func52 (by kernel_rfl) rfl #[.int .u64 a1] rfl (by (try simp only [List.map_toArray,List.map_cons,List.map_nil]); first|done|rfl|(simp only [List.length_drop,List.length_take]; rfl)) ?_; (with_reducible refine (pack_Parts.calls a1 t117 t118 t119 _ ?side1 A3.out).mono ?_); (case side1=>exact Glob.below HG.out (by repeat (first|(with_reducible first|exact HB.out|apply below_alloc|apply pw_below_drewN|apply below_drew1|refine below_set ?_ GE116.out)|exact HB.out))); rintro e w22 ⟨rfl,hb⟩; refine ⟨_,rfl,?_⟩; have n0_:=Aside0.mk (blk_below (g:=gb116) (o:=.cells #[.slice A0_0 l0_0.length c0_0,.slice A0_1 l0_1.length c0_1,.slice A0_2 l0_2.length c0_2,.slice A0_3 l0_3.length c0_3] 26 (0,0)) (by (with_reducible repeat (first|refine blk_drewN ?_ _|refine blk_drew ?_|refine blk_alloc ?_ _)); exact BK116.out) hb); have n1_:=Aside0.mk (below_step (by repeat (first|(with_reducible first|exact HB.out|apply below_alloc|apply pw_below_drewN|apply below_drew1|refine below_set ?_ GE116.out)|exact HB.out)) hb); clear BK116; clear HB; have BK116:=n0_; have HB:=n1_; clear n0_ n1_; (try clear hb); (try clear hb2); (try clear hk); (try clear hi); have hcz23_0:w22.cell? ⟨gb116,0,none⟩=some (.slice A0_0 l0_0.length c0_0):=(blk_cell BK116.out 0).trans rfl; have hcz23_1:w22.cell? ⟨gb116,1,none⟩=some (.slice A0_1 l0_1.length c0_1):=(blk_cell BK116.out 1).trans rfl; have hcz23_2:w22.cell? ⟨gb116,2,none⟩=some (.slice A0_2 l0_2.length c0_2):=(blk_cell BK116.out 2).trans rfl; have hcz23_3:w22.cell? ⟨gb116,3,none⟩=some (.slice A0_3 l0_3.length c0_3):=(blk_cell BK116.out 3).trans rfl; have hfz23_0:=blk_frozen BK116.out 0; have hfz23_1:=blk_frozen BK116.out 1; have hfz23_2:=blk_frozen BK116.out 2; have hfz23_3:=blk_frozen BK116.out 3)|((with_reducible refine gate_callee (f:=84) rfl ?_); refine goesL_ (some 21) rfl rfl Tryd.func84 (by kernel_rfl) rfl #[.int .i64 t118,.int .i64 (l0_1.length:Int)] rfl (by (try simp only [List.map_toArray,List.map_cons,List.map_nil]); first|done|rfl|(simp only [List.length_drop,List.length_take]; rfl)) ?_; (with_reducible refine (code_place.calls t118 (l0_1.length:Int) false _ A5.out).mono ?_); rintro e w' ⟨rfl,⟨nd,rfl⟩⟩; refine ⟨_,rfl,?_⟩))
   go_ret
   exact ⟨by first|rfl|(simp [errW_none,errW_some]<;>rfl)|(simp [*,errW_none,errW_some]<;>rfl),by repeat (first|(with_reducible first|exact HB.out|apply below_alloc|apply pw_below_drewN|apply below_drew1|refine below_set ?_ GE116.out)|exact HB.out)⟩
 ·rw [if_neg c4] at H
  have c4b0:(t117 == 1)=false:=beq_eq_false_iff_ne.mpr c4
  have c4b1:(t117 != 1)=true:=bne_iff_ne.mpr c4
  by_cases c24:t117=11
  ·rw [if_pos c24] at H
   have c24b0:(t117 == 11)=true:=beq_iff_eq.mpr c24
   have c24b1:(t117 != 11)=false:=bne_eq_false_iff_eq.mpr c24
   clear c24
   by_cases c25:t118=0
   ·rw [if_pos c25] at H
    have c25b0:(t118 == 0)=true:=beq_iff_eq.mpr c25
    have c25b1:(t118 != 0)=false:=bne_eq_false_iff_eq.mpr c25
    clear c25
    replace H:=Option.bind_eq_some_iff.mp H
    obtain ⟨t123,A260,H⟩:=H
    replace H:(some t123)=some r:=H
    have A26:=Aside0.mk A260
    clear A260
    obtain rfl:=Option.some.inj H
    go_enter Tryd.func51,Tryd.ntmps51
    go_wp2_with (first|((with_reducible refine gate_dst (N:=2) rfl ?_); refine box_event ?hg (N:=2) ?hd (cs:=#[.slice A0_0 l0_0.length c0_0,.slice A0_1 l0_1.length c0_1,.slice A0_2 l0_2.length c0_2,.slice A0_3 l0_3.length c0_3]) (t:=26) ?hr ?_; (case hd=>rfl); (case hg=>rfl); (case hr=>first|(go_simp; done)|(go_simp; rfl)); intro gb116 hg w27 hbox hb; have n0_:=Aside0.mk (below_step (by repeat (first|(with_reducible first|exact HB.out|apply below_alloc|apply pw_below_drewN|apply below_drew1)|exact HB.out)) hb); have n1_:=Aside0.mk (hbox); have n2_:=Aside0.mk ((by rw [hg]; exact (below_size (by repeat (first|(with_reducible first|exact HB.out|apply below_alloc|apply pw_below_drewN|apply below_drew1)|exact HB.out))):w.heap.size≤gb116)); have n3_:=Aside0.mk ((by rw [hg]; exact (below_size (by repeat (first|(with_reducible first|exact HB.out|apply below_alloc|apply pw_below_drewN|apply below_drew1)|exact HB.out))):w.heap.size≤gb116)); clear HB; have HB:=n0_; have BK116:=n1_; have GW116:=n2_; have GE116:=n3_; clear n0_ n1_ n2_ n3_; clear hb hbox hg)|((with_reducible refine gate_callee (f:=52) rfl ?_); refine goesL_ (some 10) rfl rfl Tryd.func52 (by kernel_rfl) rfl #[.int .u64 a1] rfl (by (try simp only [List.map_toArray,List.map_cons,List.map_nil]); first|done|rfl|(simp only [List.length_drop,List.length_take]; rfl)) ?_; (with_reducible refine (pack_Parts.calls a1 t117 t118 t119 _ ?side1 A3.out).mono ?_); (case side1=>exact Glob.below HG.out (by repeat (first|(with_reducible first|exact HB.out|apply below_alloc|apply pw_below_drewN|apply below_drew1|refine below_set ?_ GE116.out)|exact HB.out))); rintro e w28 ⟨rfl,hb⟩; refine ⟨_,rfl,?_⟩; have n0_:=Aside0.mk (blk_below (g:=gb116) (o:=.cells #[.slice A0_0 l0_0.length c0_0,.slice A0_1 l0_1.length c0_1,.slice A0_2 l0_2.length c0_2,.slice A0_3 l0_3.length c0_3] 26 (0,0)) (by (with_reducible repeat (first|refine blk_drewN ?_ _|refine blk_drew ?_|refine blk_alloc ?_ _)); exact BK116.out) hb); have n1_:=Aside0.mk (below_step (by repeat (first|(with_reducible first|exact HB.out|apply below_alloc|apply pw_below_drewN|apply below_drew1|refine below_set ?_ GE116.out)|exact HB.out)) hb); clear BK116; clear HB; have BK116:=n0_; have HB:=n1_; clear n0_ n1_; (try clear hb); (try clear hb2); (try clear hk); (try clear hi))|(go_at_call 48; (with_reducible refine (code_kind.calls t119 t123 _ A26.out).mono ?_); rintro e w' ⟨rfl,⟨nd,rfl⟩⟩))
    go_ret
    exact ⟨by first|rfl|(simp [errW_none,errW_some]<;>rfl)|(simp [*,errW_none,errW_some]<;>rfl),by repeat (first|(with_reducible first|exact HB.out|apply below_alloc|apply pw_below_drewN|apply below_drew1|refine below_set ?_ GE116.out)|exact HB.out)⟩
   ·rw [if_neg c25] at H
    have c25b0:(t118 == 0)=false:=beq_eq_false_iff_ne.mpr c25
    have c25b1:(t118 != 0)=true:=bne_iff_ne.mpr c25
    obtain rfl:=Option.some.inj H
    go_enter Tryd.func51,Tryd.ntmps51
    go_wp2_with (first|((with_reducible refine gate_dst (N:=2) rfl ?_); refine box_event ?hg (N:=2) ?hd (cs:=#[.slice A0_0 l0_0.length c0_0,.slice A0_1 l0_1.length c0_1,.slice A0_2 l0_2.length c0_2,.slice A0_3 l0_3.length c0_3]) (t:=26) ?hr ?_; (case hd=>rfl); (case hg=>rfl); (case hr=>first|(go_simp; done)|(go_simp; rfl)); intro gb116 hg w29 hbox hb; have n0_:=Aside0.mk (below_step (by repeat (first|(with_reducible first|exact HB.out|apply below_alloc|apply pw_below_drewN|apply below_drew1)|exact HB.out)) hb); have n1_:=Aside0.mk (hbox); have n2_:=Aside0.mk ((by rw [hg]; exact (below_size (by repeat (first|(with_reducible first|exact HB.out|apply below_alloc|apply pw_below_drewN|apply below_drew1)|exact HB.out))):w.heap.size≤gb116)); have n3_:=Aside0.mk ((by rw [hg]; exact (below_size (by repeat (first|(with_reducible first|exact HB.out|apply below_alloc|apply pw_below_drewN|apply below_drew1)|exact HB.out))):w.heap.size≤gb116)); clear HB; have HB:=n0_; have BK116:=n1_; have GW116:=n2_; have GE116:=n3_; clear n0_ n1_ n2_ n3_; clear hb hbox hg)|((with_reducible refine gate_callee (f:=52) rfl ?_); refine goesL_ (some 10) rfl rfl Tryd.func52 (by kernel_rfl) rfl #[.int .u64 a1] rfl (by (try simp only [List.map_toArray,List.map_cons,List.map_nil]); first|done|rfl|(simp only [List.length_drop,List.length_take]; rfl)) ?_; (with_reducible refine (pack_Parts.calls a1 t117 t118 t119 _ ?side1 A3.out).mono ?_); (case side1=>exact Glob.below HG.out (by repeat (first|(with_reducible first|exact HB.out|apply below_alloc|apply pw_below_drewN|apply below_drew1|refine below_set ?_ GE116.out)|exact HB.out))); rintro e w30 ⟨rfl,hb⟩; refine ⟨_,rfl,?_⟩; have n0_:=Aside0.mk (blk_below (g:=gb116) (o:=.cells #[.slice A0_0 l0_0.length c0_0,.slice A0_1 l0_1.length c0_1,.slice A0_2 l0_2.length c0_2,.slice A0_3 l0_3.length c0_3] 26 (0,0)) (by (with_reducible repeat (first|refine blk_drewN ?_ _|refine blk_drew ?_|refine blk_alloc ?_ _)); exact BK116.out) hb); have n1_:=Aside0.mk (below_step (by repeat (first|(with_reducible first|exact HB.out|apply below_alloc|apply pw_below_drewN|apply below_drew1|refine below_set ?_ GE116.out)|exact HB.out)) hb); clear BK116; clear HB; have BK116:=n0_; have HB:=n1_; clear n0_ n1_; (try clear hb); (try clear hb2); (try clear hk); (try clear hi)))
    go_ret
    exact ⟨by first|rfl|(simp [errW_none,errW_some]<;>rfl)|(simp [*,errW_none,errW_some]<;>rfl),by repeat (first|(with_reducible first|exact HB.out|apply below_alloc|apply pw_below_drewN|apply below_drew1|refine below_set ?_ GE116.out)|exact HB.out)⟩
  ·rw [if_neg c24] at H
   have c24b0:(t117 == 11)=false:=beq_eq_false_iff_ne.mpr c24
   have c24b1:(t117 != 11)=true:=bne_iff_ne.mpr c24
   by_cases c31:t117=12
   ·rw [if_pos c31] at H
    have c31b0:(t117 == 12)=true:=beq_iff_eq.mpr c31
    have c31b1:(t117 != 12)=false:=bne_eq_false_iff_eq.mpr c31
    clear c31
    by_cases c32:t118=0
    ·rw [if_pos c32] at H
     have c32b0:(t118 == 0)=true:=beq_iff_eq.mpr c32
     have c32b1:(t118 != 0)=false:=bne_eq_false_iff_eq.mpr c32
     clear c32
     obtain rfl:=Option.some.inj H
     go_enter Tryd.func51,Tryd.ntmps51
     go_wp2_with (first|((with_reducible refine gate_dst (N:=2) rfl ?_); refine box_event ?hg (N:=2) ?hd (cs:=#[.slice A0_0 l0_0.length c0_0,.slice A0_1 l0_1.length c0_1,.slice A0_2 l0_2.length c0_2,.slice A0_3 l0_3.length c0_3]) (t:=26) ?hr ?_; (case hd=>rfl); (case hg=>rfl); (case hr=>first|(go_simp; done)|(go_simp; rfl)); intro gb116 hg w33 hbox hb; have n0_:=Aside0.mk (below_step (by repeat (first|(with_reducible first|exact HB.out|apply below_alloc|apply pw_below_drewN|apply below_drew1)|exact HB.out)) hb); have n1_:=Aside0.mk (hbox); have n2_:=Aside0.mk ((by rw [hg]; exact (below_size (by repeat (first|(with_reducible first|exact HB.out|apply below_alloc|apply pw_below_drewN|apply below_drew1)|exact HB.out))):w.heap.size≤gb116)); have n3_:=Aside0.mk ((by rw [hg]; exact (below_size (by repeat (first|(with_reducible first|exact HB.out|apply below_alloc|apply pw_below_drewN|apply below_drew1)|exact HB.out))):w.heap.size≤gb116)); clear HB; have HB:=n0_; have BK116:=n1_; have GW116:=n2_; have GE116:=n3_; clear n0_ n1_ n2_ n3_; clear hb hbox hg)|((with_reducible refine gate_callee (f:=52) rfl ?_); refine goesL_ (some 10) rfl rfl Tryd.func52 (by kernel_rfl) rfl #[.int .u64 a1] rfl (by (try simp only [List.map_toArray,List.map_cons,List.map_nil]); first|done|rfl|(simp only [List.length_drop,List.length_take]; rfl)) ?_; (with_reducible refine (pack_Parts.calls a1 t117 t118 t119 _ ?side1 A3.out).mono ?_); (case side1=>exact Glob.below HG.out (by repeat (first|(with_reducible first|exact HB.out|apply below_alloc|apply pw_below_drewN|apply below_drew1|refine below_set ?_ GE116.out)|exact HB.out))); rintro e w34 ⟨rfl,hb⟩; refine ⟨_,rfl,?_⟩; have n0_:=Aside0.mk (blk_below (g:=gb116) (o:=.cells #[.slice A0_0 l0_0.length c0_0,.slice A0_1 l0_1.length c0_1,.slice A0_2 l0_2.length c0_2,.slice A0_3 l0_3.length c0_3] 26 (0,0)) (by (with_reducible repeat (first|refine blk_drewN ?_ _|refine blk_drew ?_|refine blk_alloc ?_ _)); exact BK116.out) hb); have n1_:=Aside0.mk (below_step (by repeat (first|(with_reducible first|exact HB.out|apply below_alloc|apply pw_below_drewN|apply below_drew1|refine below_set ?_ GE116.out)|exact HB.out)) hb); clear BK116; clear HB; have BK116:=n0_; have HB:=n1_; clear n0_ n1_; (try clear hb); (try clear hb2); (try clear hk); (try clear hi)))
     go_ret
     exact ⟨by first|rfl|(simp [errW_none,errW_some]<;>rfl)|(simp [*,errW_none,errW_some]<;>rfl),by repeat (first|(with_reducible first|exact HB.out|apply below_alloc|apply pw_below_drewN|apply below_drew1|refine below_set ?_ GE116.out)|exact HB.out)⟩
    ·rw [if_neg c32] at H
     have c32b0:(t118 == 0)=false:=beq_eq_false_iff_ne.mpr c32
     have c32b1:(t118 != 0)=true:=bne_iff_ne.mpr c32
     obtain rfl:=Option.some.inj H
     go_enter Tryd.func51,Tryd.ntmps51
     go_wp2_with (first|((with_reducible refine gate_dst (N:=2) rfl ?_); refine box_event ?hg (N:=2) ?hd (cs:=#[.slice A0_0 l0_0.length c0_0,.slice A0_1 l0_1.length c0_1,.slice A0_2 l0_2.length c0_2,.slice A0_3 l0_3.length c0_3]) (t:=26) ?hr ?_; (case hd=>rfl); (case hg=>rfl); (case hr=>first|(go_simp; done)|(go_simp; rfl)); intro gb116 hg w35 hbox hb; have n0_:=Aside0.mk (below_step (by repeat (first|(with_reducible first|exact HB.out|apply below_alloc|apply pw_below_drewN|apply below_drew1)|exact HB.out)) hb); have n1_:=Aside0.mk (hbox); have n2_:=Aside0.mk ((by rw [hg]; exact (below_size (by repeat (first|(with_reducible first|exact HB.out|apply below_alloc|apply pw_below_drewN|apply below_drew1)|exact HB.out))):w.heap.size≤gb116)); have n3_:=Aside0.mk ((by rw [hg]; exact (below_size (by repeat (first|(with_reducible first|exact HB.out|apply below_alloc|apply pw_below_drewN|apply below_drew1)|exact HB.out))):w.heap.size≤gb116)); clear HB; have HB:=n0_; have BK116:=n1_; have GW116:=n2_; have GE116:=n3_; clear n0_ n1_ n2_ n3_; clear hb hbox hg)|((with_reducible refine gate_callee (f:=52) rfl ?_); refine goesL_ (some 10) rfl rfl Tryd.func52 (by kernel_rfl) rfl #[.int .u64 a1] rfl (by (try simp only [List.map_toArray,List.map_cons,List.map_nil]); first|done|rfl|(simp only [List.length_drop,List.length_take]; rfl)) ?_; (with_reducible refine (pack_Parts.calls a1 t117 t118 t119 _ ?side1 A3.out).mono ?_); (case side1=>exact Glob.below HG.out (by repeat (first|(with_reducible first|exact HB.out|apply below_alloc|apply pw_below_drewN|apply below_drew1|refine below_set ?_ GE116.out)|exact HB.out))); rintro e w36 ⟨rfl,hb⟩; refine ⟨_,rfl,?_⟩; have n0_:=Aside0.mk (blk_below (g:=gb116) (o:=.cells #[.slice A0_0 l0_0.length c0_0,.slice A0_1 l0_1.length c0_1,.slice A0_2 l0_2.length c0_2,.slice A0_3 l0_3.length c0_3] 26 (0,0)) (by (with_reducible repeat (first|refine blk_drewN ?_ _|refine blk_drew ?_|refine blk_alloc ?_ _)); exact BK116.out) hb); have n1_:=Aside0.mk (below_step (by repeat (first|(with_reducible first|exact HB.out|apply below_alloc|apply pw_below_drewN|apply below_drew1|refine below_set ?_ GE116.out)|exact HB.out)) hb); clear BK116; clear HB; have BK116:=n0_; have HB:=n1_; clear n0_ n1_; (try clear hb); (try clear hb2); (try clear hk); (try clear hi)))
     go_ret
     exact ⟨by first|rfl|(simp [errW_none,errW_some]<;>rfl)|(simp [*,errW_none,errW_some]<;>rfl),by repeat (first|(with_reducible first|exact HB.out|apply below_alloc|apply pw_below_drewN|apply below_drew1|refine below_set ?_ GE116.out)|exact HB.out)⟩
   ·rw [if_neg c31] at H
    have c31b0:(t117 == 12)=false:=beq_eq_false_iff_ne.mpr c31
    have c31b1:(t117 != 12)=true:=bne_iff_ne.mpr c31
    by_cases c37:t117=17
    ·rw [if_pos c37] at H
     have c37b0:(t117 == 17)=true:=beq_iff_eq.mpr c37
     have c37b1:(t117 != 17)=false:=bne_eq_false_iff_eq.mpr c37
     clear c37
     replace H:=Option.bind_eq_some_iff.mp H
     obtain ⟨t124,A380,H⟩:=H
     replace H:(some t124)=some r:=H
     have A38:=Aside0.mk A380
     clear A380
     obtain rfl:=Option.some.inj H
     go_enter Tryd.func51,Tryd.ntmps51
     go_wp2_with (first|((with_reducible refine gate_dst (N:=2) rfl ?_); refine box_event ?hg (N:=2) ?hd (cs:=#[.slice A0_0 l0_0.length c0_0,.slice A0_1 l0_1.length c0_1,.slice A0_2 l0_2.length c0_2,.slice A0_3 l0_3.length c0_3]) (t:=26) ?hr ?_; (case hd=>rfl); (case hg=>rfl); (case hr=>first|(go_simp; done)|(go_simp; rfl)); intro gb116 hg w39 hbox hb; have n0_:=Aside0.mk (below_step (by repeat (first|(with_reducible first|exact HB.out|apply below_alloc|apply pw_below_drewN|apply below_drew1)|exact HB.out)) hb); have n1_:=Aside0.mk (hbox); have n2_:=Aside0.mk ((by rw [hg]; exact (below_size (by repeat (first|(with_reducible first|exact HB.out|apply below_alloc|apply pw_below_drewN|apply below_drew1)|exact HB.out))):w.heap.size≤gb116)); have n3_:=Aside0.mk ((by rw [hg]; exact (below_size (by repeat (first|(with_reducible first|exact HB.out|apply below_alloc|apply pw_below_drewN|apply below_drew1)|exact HB.out))):w.heap.size≤gb116)); clear HB; have HB:=n0_; have BK116:=n1_; have GW116:=n2_; have GE116:=n3_; clear n0_ n1_ n2_ n3_; clear hb hbox hg)|((with_reducible refine gate_callee (f:=52) rfl ?_); refine goesL_ (some 10) rfl rfl Tryd.func52 (by kernel_rfl) rfl #[.int .u64 a1] rfl (by (try simp only [List.map_toArray,List.map_cons,List.map_nil]); first|done|rfl|(simp only [List.length_drop,List.length_take]; rfl)) ?_; (with_reducible refine (pack_Parts.calls a1 t117 t118 t119 _ ?side1 A3.out).mono ?_); (case side1=>exact Glob.below HG.out (by repeat (first|(with_reducible first|exact HB.out|apply below_alloc|apply pw_below_drewN|apply below_drew1|refine below_set ?_ GE116.out)|exact HB.out))); rintro e w40 ⟨rfl,hb⟩; refine ⟨_,rfl,?_⟩; have n0_:=Aside0.mk (blk_below (g:=gb116) (o:=.cells #[.slice A0_0 l0_0.length c0_0,.slice A0_1 l0_1.length c0_1,.slice A0_2 l0_2.length c0_2,.slice A0_3 l0_3.length c0_3] 26 (0,0)) (by (with_reducible repeat (first|refine blk_drewN ?_ _|refine blk_drew ?_|refine blk_alloc ?_ _)); exact BK116.out) hb); have n1_:=Aside0.mk (below_step (by repeat (first|(with_reducible first|exact HB.out|apply below_alloc|apply pw_below_drewN|apply below_drew1|refine below_set ?_ GE116.out)|exact HB.out)) hb); clear BK116; clear HB; have BK116:=n0_; have HB:=n1_; clear n0_ n1_; (try clear hb); (try clear hb2); (try clear hk); (try clear hi); have hcz41_0:w40.cell? ⟨gb116,0,none⟩=some (.slice A0_0 l0_0.length c0_0):=(blk_cell BK116.out 0).trans rfl; have hcz41_1:w40.cell? ⟨gb116,1,none⟩=some (.slice A0_1 l0_1.length c0_1):=(blk_cell BK116.out 1).trans rfl; have hcz41_2:w40.cell? ⟨gb116,2,none⟩=some (.slice A0_2 l0_2.length c0_2):=(blk_cell BK116.out 2).trans rfl; have hcz41_3:w40.cell? ⟨gb116,3,none⟩=some (.slice A0_3 l0_3.length c0_3):=(blk_cell BK116.out 3).trans rfl; have hfz41_0:=blk_frozen BK116.out 0; have hfz41_1:=blk_frozen BK116.out 1; have hfz41_2:=blk_frozen BK116.out 2; have hfz41_3:=blk_frozen BK116.out 3)|((with_reducible refine gate_callee (f:=84) rfl ?_); refine goesL_ (some 60) rfl rfl Tryd.func84 (by kernel_rfl) rfl #[.int .i64 t118,.int .i64 (l0_3.length:Int)] rfl (by (try simp only [List.map_toArray,List.map_cons,List.map_nil]); first|done|rfl|(simp only [List.length_drop,List.length_take]; rfl)) ?_; (with_reducible refine (code_place.calls t118 (l0_3.length:Int) t124 _ A38.out).mono ?_); rintro e w' ⟨rfl,⟨nd,rfl⟩⟩; refine ⟨_,rfl,?_⟩))
     go_ret
     exact ⟨by first|rfl|(simp [errW_none,errW_some]<;>rfl)|(simp [*,errW_none,errW_some]<;>rfl),by repeat (first|(with_reducible first|exact HB.out|apply below_alloc|apply pw_below_drewN|apply below_drew1|refine below_set ?_ GE116.out)|exact HB.out)⟩
    ·rw [if_neg c37] at H
     have c37b0:(t117 == 17)=false:=beq_eq_false_iff_ne.mpr c37
     have c37b1:(t117 != 17)=true:=bne_iff_ne.mpr c37
     by_cases c42:t119=0
     ·rw [if_pos c42] at H
      have c42b0:(t119 == 0)=true:=beq_iff_eq.mpr c42
      have c42b1:(t119 != 0)=false:=bne_eq_false_iff_eq.mpr c42
      clear c42
      by_cases c43:t117=2
      ·rw [if_pos c43] at H
       have c43b0:(t117 == 2)=true:=beq_iff_eq.mpr c43
       have c43b1:(t117 != 2)=false:=bne_eq_false_iff_eq.mpr c43
       clear c43
       replace H:=Option.bind_eq_some_iff.mp H
       obtain ⟨t125,A440,H⟩:=H
       replace H:(if t125=true then (if 0≤t118 then (if t118 < (l0_1.length:Int) then (some (decide ((rd l0_1 t118) ≥ 0))) else (none)) else (none)) else (some false))=some r:=H
       have A44:=Aside0.mk A440
       clear A440
       by_cases c45:t125=true
       ·subst c45
        have H1:(if 0≤t118 then (if t118 < (l0_1.length:Int) then (some (decide ((rd l0_1 t118) ≥ 0))) else (none)) else (none))=some r:=by rw [if_pos rfl] at H; exact H
        clear H
        have H:=H1
        clear H1
        by_cases c46:0≤t118
        ·rw [if_pos c46] at H
         have c46b0:decide (0≤t118)=true:=decide_eq_true c46
         clear c46
         by_cases c47:t118 < (l0_1.length:Int)
         ·rw [if_pos c47] at H
          have c47b0:decide (t118 < (l0_1.length:Int))=true:=decide_eq_true c47
          clear c47
          obtain rfl:=Option.some.inj H
          go_enter Tryd.func51,Tryd.ntmps51
          go_wp2_with (first|((with_reducible refine gate_dst (N:=2) rfl ?_); refine box_event ?hg (N:=2) ?hd (cs:=#[.slice A0_0 l0_0.length c0_0,.slice A0_1 l0_1.length c0_1,.slice A0_2 l0_2.length c0_2,.slice A0_3 l0_3.length c0_3]) (t:=26) ?hr ?_; (case hd=>rfl); (case hg=>rfl); (case hr=>first|(go_simp; done)|(go_simp; rfl)); intro gb116 hg w48 hbox hb; have n0_:=Aside0.mk (below_step (by repeat (first|(with_reducible first|exact HB.out|apply below_alloc|apply pw_below_drewN|apply below_drew1)|exact HB.out)) hb); have n1_:=Aside0.mk (hbox); have n2_:=Aside0.mk ((by rw [hg]; exact (below_size (by repeat (first|(with_reducible first|exact HB.out|apply below_alloc|apply pw_below_drewN|apply below_drew1)|exact HB.out))):w.heap.size≤gb116)); have n3_:=Aside0.mk ((by rw [hg]; exact (below_size (by repeat (first|(with_reducible first|exact HB.out|apply below_alloc|apply pw_below_drewN|apply below_drew1)|exact HB.out))):w.heap.size≤gb116)); clear HB; have HB:=n0_; have BK116:=n1_; have GW116:=n2_; have GE116:=n3_; clear n0_ n1_ n2_ n3_; clear hb hbox hg)|((with_reducible refine gate_callee (f:=52) rfl ?_); refine goesL_ (some 10) rfl rfl Tryd.func52 (by kernel_rfl) rfl #[.int .u64 a1] rfl (by (try simp only [List.map_toArray,List.map_cons,List.map_nil]); first|done|rfl|(simp only [List.length_drop,List.length_take]; rfl)) ?_; (with_reducible refine (pack_Parts.calls a1 t117 t118 t119 _ ?side1 A3.out).mono ?_); (case side1=>exact Glob.below HG.out (by repeat (first|(with_reducible first|exact HB.out|apply below_alloc|apply pw_below_drewN|apply below_drew1|refine below_set ?_ GE116.out)|exact HB.out))); rintro e w49 ⟨rfl,hb⟩; refine ⟨_,rfl,?_⟩; have n0_:=Aside0.mk (blk_below (g:=gb116) (o:=.cells #[.slice A0_0 l0_0.length c0_0,.slice A0_1 l0_1.length c0_1,.slice A0_2 l0_2.length c0_2,.slice A0_3 l0_3.length c0_3] 26 (0,0)) (by (with_reducible repeat (first|refine blk_drewN ?_ _|refine blk_drew ?_|refine blk_alloc ?_ _)); exact BK116.out) hb); have n1_:=Aside0.mk (below_step (by repeat (first|(with_reducible first|exact HB.out|apply below_alloc|apply pw_below_drewN|apply below_drew1|refine below_set ?_ GE116.out)|exact HB.out)) hb); clear BK116; clear HB; have BK116:=n0_; have HB:=n1_; clear n0_ n1_; (try clear hb); (try clear hb2); (try clear hk); (try clear hi); have hcz50_0:w49.cell? ⟨gb116,0,none⟩=some (.slice A0_0 l0_0.length c0_0):=(blk_cell BK116.out 0).trans rfl; have hcz50_1:w49.cell? ⟨gb116,1,none⟩=some (.slice A0_1 l0_1.length c0_1):=(blk_cell BK116.out 1).trans rfl; have hcz50_2:w49.cell? ⟨gb116,2,none⟩=some (.slice A0_2 l0_2.length c0_2):=(blk_cell BK116.out 2).trans rfl; have hcz50_3:w49.cell? ⟨gb116,3,none⟩=some (.slice A0_3 l0_3.length c0_3):=(blk_cell BK116.out 3).trans rfl; have hfz50_0:=blk_frozen BK116.out 0; have hfz50_1:=blk_frozen BK116.out 1; have hfz50_2:=blk_frozen BK116.out 2; have hfz50_3:=blk_frozen BK116.out 3)|((with_reducible refine gate_callee (f:=84) rfl ?_); refine goesL_ (some 70) rfl rfl Tryd.func84 (by kernel_rfl) rfl #[.int .i64 t118,.int .i64 (l0_1.length:Int)] rfl (by (try simp only [List.map_toArray,List.map_cons,List.map_nil]); first|done|rfl|(simp only [List.length_drop,List.length_take]; rfl)) ?_; (with_reducible refine (code_place.calls t118 (l0_1.length:Int) true _ A44.out).mono ?_); rintro e w' ⟨rfl,⟨nd,rfl⟩⟩; refine ⟨_,rfl,?_⟩; have p126:0≤(t118:Int):=of_decide_eq_true (by first|(with_reducible assumption)|assumption); have q126:t118 < (l0_1.length:Int):=of_decide_eq_true (by first|(with_reducible assumption)|assumption); obtain ⟨ad126,e126,hx126_0⟩:=Kd.at_int HR0_1.out t118 p126 q126; cases e126; replace hx126_0:=(HB.out.cell (World.block_lt_of_cell? w _ hx126_0)).trans hx126_0; replace p126:=eq_true p126; replace q126:=eq_true q126))
          go_ret
          exact ⟨by first|rfl|(simp [errW_none,errW_some]<;>rfl)|(simp [*,errW_none,errW_some]<;>rfl),by repeat (first|(with_reducible first|exact HB.out|apply below_alloc|apply pw_below_drewN|apply below_drew1|refine below_set ?_ GE116.out)|exact HB.out)⟩
         ·rw [if_neg c47] at H
          exact absurd H (by simp)
        ·rw [if_neg c46] at H
         exact absurd H (by simp)
       ·replace c45:=Bool.eq_false_iff.mpr c45
        subst c45
        have H1:(some false)=some r:=by rw [if_neg (show ¬ (false=true) by decide)] at H; exact H
        clear H
        have H:=H1
        clear H1
        obtain rfl:=Option.some.inj H
        go_enter Tryd.func51,Tryd.ntmps51
        go_wp2_with (first|((with_reducible refine gate_dst (N:=2) rfl ?_); refine box_event ?hg (N:=2) ?hd (cs:=#[.slice A0_0 l0_0.length c0_0,.slice A0_1 l0_1.length c0_1,.slice A0_2 l0_2.length c0_2,.slice A0_3 l0_3.length c0_3]) (t:=26) ?hr ?_; (case hd=>rfl); (case hg=>rfl); (case hr=>first|(go_simp; done)|(go_simp; rfl)); intro gb116 hg w51 hbox hb; have n0_:=Aside0.mk (below_step (by repeat (first|(with_reducible first|exact HB.out|apply below_alloc|apply pw_below_drewN|apply below_drew1)|exact HB.out)) hb); have n1_:=Aside0.mk (hbox); have n2_:=Aside0.mk ((by rw [hg]; exact (below_size (by repeat (first|(with_reducible first|exact HB.out|apply below_alloc|apply pw_below_drewN|apply below_drew1)|exact HB.out))):w.heap.size≤gb116)); have n3_:=Aside0.mk ((by rw [hg]; exact (below_size (by repeat (first|(with_reducible first|exact HB.out|apply below_alloc|apply pw_below_drewN|apply below_drew1)|exact HB.out))):w.heap.size≤gb116)); clear HB; have HB:=n0_; have BK116:=n1_; have GW116:=n2_; have GE116:=n3_; clear n0_ n1_ n2_ n3_; clear hb hbox hg)|((with_reducible refine gate_callee (f:=52) rfl ?_); refine goesL_ (some 10) rfl rfl Tryd.func52 (by kernel_rfl) rfl #[.int .u64 a1] rfl (by (try simp only [List.map_toArray,List.map_cons,List.map_nil]); first|done|rfl|(simp only [List.length_drop,List.length_take]; rfl)) ?_; (with_reducible refine (pack_Parts.calls a1 t117 t118 t119 _ ?side1 A3.out).mono ?_); (case side1=>exact Glob.below HG.out (by repeat (first|(with_reducible first|exact HB.out|apply below_alloc|apply pw_below_drewN|apply below_drew1|refine below_set ?_ GE116.out)|exact HB.out))); rintro e w52 ⟨rfl,hb⟩; refine ⟨_,rfl,?_⟩; have n0_:=Aside0.mk (blk_below (g:=gb116) (o:=.cells #[.slice A0_0 l0_0.length c0_0,.slice A0_1 l0_1.length c0_1,.slice A0_2 l0_2.length c0_2,.slice A0_3 l0_3.length c0_3] 26 (0,0)) (by (with_reducible repeat (first|refine blk_drewN ?_ _|refine blk_drew ?_|refine blk_alloc ?_ _)); exact BK116.out) hb); have n1_:=Aside0.mk (below_step (by repeat (first|(with_reducible first|exact HB.out|apply below_alloc|apply pw_below_drewN|apply below_drew1|refine below_set ?_ GE116.out)|exact HB.out)) hb); clear BK116; clear HB; have BK116:=n0_; have HB:=n1_; clear n0_ n1_; (try clear hb); (try clear hb2); (try clear hk); (try clear hi); have hcz53_0:w52.cell? ⟨gb116,0,none⟩=some (.slice A0_0 l0_0.length c0_0):=(blk_cell BK116.out 0).trans rfl; have hcz53_1:w52.cell? ⟨gb116,1,none⟩=some (.slice A0_1 l0_1.length c0_1):=(blk_cell BK116.out 1).trans rfl; have hcz53_2:w52.cell? ⟨gb116,2,none⟩=some (.slice A0_2 l0_2.length c0_2):=(blk_cell BK116.out 2).trans rfl; have hcz53_3:w52.cell? ⟨gb116,3,none⟩=some (.slice A0_3 l0_3.length c0_3):=(blk_cell BK116.out 3).trans rfl; have hfz53_0:=blk_frozen BK116.out 0; have hfz53_1:=blk_frozen BK116.out 1; have hfz53_2:=blk_frozen BK116.out 2; have hfz53_3:=blk_frozen BK116.out 3)|((with_reducible refine gate_callee (f:=84) rfl ?_); refine goesL_ (some 70) rfl rfl Tryd.func84 (by kernel_rfl) rfl #[.int .i64 t118,.int .i64 (l0_1.length:Int)] rfl (by (try simp only [List.map_toArray,List.map_cons,List.map_nil]); first|done|rfl|(simp only [List.length_drop,List.length_take]; rfl)) ?_; (with_reducible refine (code_place.calls t118 (l0_1.length:Int) false _ A44.out).mono ?_); rintro e w' ⟨rfl,⟨nd,rfl⟩⟩; refine ⟨_,rfl,?_⟩))
        go_ret
        exact ⟨by first|rfl|(simp [errW_none,errW_some]<;>rfl)|(simp [*,errW_none,errW_some]<;>rfl),by repeat (first|(with_reducible first|exact HB.out|apply below_alloc|apply pw_below_drewN|apply below_drew1|refine below_set ?_ GE116.out)|exact HB.out)⟩
      ·rw [if_neg c43] at H
       have c43b0:(t117 == 2)=false:=beq_eq_false_iff_ne.mpr c43
       have c43b1:(t117 != 2)=true:=bne_iff_ne.mpr c43
       by_cases c54:t117=3
       ·rw [if_pos c54] at H
        have c54b0:(t117 == 3)=true:=beq_iff_eq.mpr c54
        have c54b1:(t117 != 3)=false:=bne_eq_false_iff_eq.mpr c54
        clear c54
        obtain rfl:=Option.some.inj H
        go_enter Tryd.func51,Tryd.ntmps51
        go_wp2_with (first|((with_reducible refine gate_dst (N:=2) rfl ?_); refine box_event ?hg (N:=2) ?hd (cs:=#[.slice A0_0 l0_0.length c0_0,.slice A0_1 l0_1.length c0_1,.slice A0_2 l0_2.length c0_2,.slice A0_3 l0_3.length c0_3]) (t:=26) ?hr ?_; (case hd=>rfl); (case hg=>rfl); (case hr=>first|(go_simp; done)|(go_simp; rfl)); intro gb116 hg w55 hbox hb; have n0_:=Aside0.mk (below_step (by repeat (first|(with_reducible first|exact HB.out|apply below_alloc|apply pw_below_drewN|apply below_drew1)|exact HB.out)) hb); have n1_:=Aside0.mk (hbox); have n2_:=Aside0.mk ((by rw [hg]; exact (below_size (by repeat (first|(with_reducible first|exact HB.out|apply below_alloc|apply pw_below_drewN|apply below_drew1)|exact HB.out))):w.heap.size≤gb116)); have n3_:=Aside0.mk ((by rw [hg]; exact (below_size (by repeat (first|(with_reducible first|exact HB.out|apply below_alloc|apply pw_below_drewN|apply below_drew1)|exact HB.out))):w.heap.size≤gb116)); clear HB; have HB:=n0_; have BK116:=n1_; have GW116:=n2_; have GE116:=n3_; clear n0_ n1_ n2_ n3_; clear hb hbox hg)|((with_reducible refine gate_callee (f:=52) rfl ?_); refine goesL_ (some 10) rfl rfl Tryd.func52 (by kernel_rfl) rfl #[.int .u64 a1] rfl (by (try simp only [List.map_toArray,List.map_cons,List.map_nil]); first|done|rfl|(simp only [List.length_drop,List.length_take]; rfl)) ?_; (with_reducible refine (pack_Parts.calls a1 t117 t118 t119 _ ?side1 A3.out).mono ?_); (case side1=>exact Glob.below HG.out (by repeat (first|(with_reducible first|exact HB.out|apply below_alloc|apply pw_below_drewN|apply below_drew1|refine below_set ?_ GE116.out)|exact HB.out))); rintro e w56 ⟨rfl,hb⟩; refine ⟨_,rfl,?_⟩; have n0_:=Aside0.mk (blk_below (g:=gb116) (o:=.cells #[.slice A0_0 l0_0.length c0_0,.slice A0_1 l0_1.length c0_1,.slice A0_2 l0_2.length c0_2,.slice A0_3 l0_3.length c0_3] 26 (0,0)) (by (with_reducible repeat (first|refine blk_drewN ?_ _|refine blk_drew ?_|refine blk_alloc ?_ _)); exact BK116.out) hb); have n1_:=Aside0.mk (below_step (by repeat (first|(with_reducible first|exact HB.out|apply below_alloc|apply pw_below_drewN|apply below_drew1|refine below_set ?_ GE116.out)|exact HB.out)) hb); clear BK116; clear HB; have BK116:=n0_; have HB:=n1_; clear n0_ n1_; (try clear hb); (try clear hb2); (try clear hk); (try clear hi)))
        go_ret
        exact ⟨by first|rfl|(simp [errW_none,errW_some]<;>rfl)|(simp [*,errW_none,errW_some]<;>rfl),by repeat (first|(with_reducible first|exact HB.out|apply below_alloc|apply pw_below_drewN|apply below_drew1|refine below_set ?_ GE116.out)|exact HB.out)⟩
       ·rw [if_neg c54] at H
        have c54b0:(t117 == 3)=false:=beq_eq_false_iff_ne.mpr c54
        have c54b1:(t117 != 3)=true:=bne_iff_ne.mpr c54
        have HC57:=Aside0.mk H
        clear H
        go_enter Tryd.func51,Tryd.ntmps51
        go_upto_if 83 with (first|((with_reducible refine gate_dst (N:=2) rfl ?_); refine box_event ?hg (N:=2) ?hd (cs:=#[.slice A0_0 l0_0.length c0_0,.slice A0_1 l0_1.length c0_1,.slice A0_2 l0_2.length c0_2,.slice A0_3 l0_3.length c0_3]) (t:=26) ?hr ?_; (case hd=>rfl); (case hg=>rfl); (case hr=>first|(go_simp; done)|(go_simp; rfl)); intro gb116 hg w58 hbox hb; have n0_:=Aside0.mk (below_step (by repeat (first|(with_reducible first|exact HB.out|apply below_alloc|apply pw_below_drewN|apply below_drew1)|exact HB.out)) hb); have n1_:=Aside0.mk (hbox); have n2_:=Aside0.mk ((by rw [hg]; exact (below_size (by repeat (first|(with_reducible first|exact HB.out|apply below_alloc|apply pw_below_drewN|apply below_drew1)|exact HB.out))):w.heap.size≤gb116)); have n3_:=Aside0.mk ((by rw [hg]; exact (below_size (by repeat (first|(with_reducible first|exact HB.out|apply below_alloc|apply pw_below_drewN|apply below_drew1)|exact HB.out))):w.heap.size≤gb116)); clear HB; have HB:=n0_; have BK116:=n1_; have GW116:=n2_; have GE116:=n3_; clear n0_ n1_ n2_ n3_; clear hb hbox hg)|((with_reducible refine gate_callee (f:=52) rfl ?_); refine goesL_ (some 10) rfl rfl Tryd.func52 (by kernel_rfl) rfl #[.int .u64 a1] rfl (by (try simp only [List.map_toArray,List.map_cons,List.map_nil]); first|done|rfl|(simp only [List.length_drop,List.length_take]; rfl)) ?_; (with_reducible refine (pack_Parts.calls a1 t117 t118 t119 _ ?side1 A3.out).mono ?_); (case side1=>exact Glob.below HG.out (by repeat (first|(with_reducible first|exact HB.out|apply below_alloc|apply pw_below_drewN|apply below_drew1|refine below_set ?_ GE116.out)|exact HB.out))); rintro e w59 ⟨rfl,hb⟩; refine ⟨_,rfl,?_⟩; have n0_:=Aside0.mk (blk_below (g:=gb116) (o:=.cells #[.slice A0_0 l0_0.length c0_0,.slice A0_1 l0_1.length c0_1,.slice A0_2 l0_2.length c0_2,.slice A0_3 l0_3.length c0_3] 26 (0,0)) (by (with_reducible repeat (first|refine blk_drewN ?_ _|refine blk_drew ?_|refine blk_alloc ?_ _)); exact BK116.out) hb); have n1_:=Aside0.mk (below_step (by repeat (first|(with_reducible first|exact HB.out|apply below_alloc|apply pw_below_drewN|apply below_drew1|refine below_set ?_ GE116.out)|exact HB.out)) hb); clear BK116; clear HB; have BK116:=n0_; have HB:=n1_; clear n0_ n1_; (try clear hb); (try clear hb2); (try clear hk); (try clear hi)))
        (try simp only [Act.put,List.setIfInBounds_toArray,List.set_cons_zero,List.set_cons_succ])
        go_cut [83] (fun v83 wc=>∃ (kq:Nat) (x83_56:Bool),v83=.bool x83_56∧Aside0 (code_may.j0 kq t117 t118 t117 x83_56 l0_0 l0_1 l0_2 l0_3=some r)∧Aside0 (kq≤k)∧Aside0 (wc.heap[gb116]? = some (.cells #[(.slice A0_0 l0_0.length c0_0),(.slice A0_1 l0_1.length c0_1),(.slice A0_2 l0_2.length c0_2),(.slice A0_3 l0_3.length c0_3)] 26 (0,0)))∧Aside0 (Below w.heap.size w wc))
        case first =>
         have H:=HC57.out
         clear HC57
         by_cases c60:t117=13
         ·rw [if_pos c60] at H
          have c60b0:(t117 == 13)=true:=beq_iff_eq.mpr c60
          have c60b1:(t117 != 13)=false:=bne_eq_false_iff_eq.mpr c60
          clear c60
          (first|rw [c60b0]|(simp only [i64_w,i32_w]; rw [c60b0])|skip)
          have H':=Aside0.mk H
          clear H
          go_wp2
          go_meet
          case rel=>exact ⟨_,((t117 == 13)),(by first|rfl|(simp; done)|(simp [*]; done)),H',⟨by first|omega|exact Nat.le_refl _⟩,⟨by (with_reducible repeat (first|refine blk_drewN ?_ _|refine blk_drew ?_|refine blk_alloc ?_ _)); exact BK116.out⟩,⟨by repeat (first|(with_reducible first|exact HB.out|apply below_alloc|apply pw_below_drewN|apply below_drew1|refine below_set ?_ GE116.out)|exact HB.out)⟩⟩
         ·rw [if_neg c60] at H
          have c60b0:(t117 == 13)=false:=beq_eq_false_iff_ne.mpr c60
          have c60b1:(t117 != 13)=true:=bne_iff_ne.mpr c60
          (first|rw [c60b0]|(simp only [i64_w,i32_w]; rw [c60b0])|skip)
          by_cases c61:t117=14
          ·rw [if_pos c61] at H
           have c61b0:(t117 == 14)=true:=beq_iff_eq.mpr c61
           have c61b1:(t117 != 14)=false:=bne_eq_false_iff_eq.mpr c61
           clear c61
           have H':=Aside0.mk H
           clear H
           go_wp2
           go_meet
           case rel=>exact ⟨_,((t117 == 14)),(by first|rfl|(simp; done)|(simp [*]; done)),H',⟨by first|omega|exact Nat.le_refl _⟩,⟨by (with_reducible repeat (first|refine blk_drewN ?_ _|refine blk_drew ?_|refine blk_alloc ?_ _)); exact BK116.out⟩,⟨by repeat (first|(with_reducible first|exact HB.out|apply below_alloc|apply pw_below_drewN|apply below_drew1|refine below_set ?_ GE116.out)|exact HB.out)⟩⟩
          ·rw [if_neg c61] at H
           have c61b0:(t117 == 14)=false:=beq_eq_false_iff_ne.mpr c61
           have c61b1:(t117 != 14)=true:=bne_iff_ne.mpr c61
           by_cases c62:t117=15
           ·rw [if_pos c62] at H
            have c62b0:(t117 == 15)=true:=beq_iff_eq.mpr c62
            have c62b1:(t117 != 15)=false:=bne_eq_false_iff_eq.mpr c62
            clear c62
            have H':=Aside0.mk H
            clear H
            go_wp2
            go_meet
            case rel=>exact ⟨_,((t117 == 15)),(by first|rfl|(simp; done)|(simp [*]; done)),H',⟨by first|omega|exact Nat.le_refl _⟩,⟨by (with_reducible repeat (first|refine blk_drewN ?_ _|refine blk_drew ?_|refine blk_alloc ?_ _)); exact BK116.out⟩,⟨by repeat (first|(with_reducible first|exact HB.out|apply below_alloc|apply pw_below_drewN|apply below_drew1|refine below_set ?_ GE116.out)|exact HB.out)⟩⟩
           ·rw [if_neg c62] at H
            have c62b0:(t117 == 15)=false:=beq_eq_false_iff_ne.mpr c62
            have c62b1:(t117 != 15)=true:=bne_iff_ne.mpr c62
            have H':=Aside0.mk H
            clear H
            go_wp2
            go_meet
            case rel=>exact ⟨_,((t117 == 24)),(by first|rfl|(simp; done)|(simp [*]; done)),H',⟨by first|omega|exact Nat.le_refl _⟩,⟨by (with_reducible repeat (first|refine blk_drewN ?_ _|refine blk_drew ?_|refine blk_alloc ?_ _)); exact BK116.out⟩,⟨by repeat (first|(with_reducible first|exact HB.out|apply below_alloc|apply pw_below_drewN|apply below_drew1|refine below_set ?_ GE116.out)|exact HB.out)⟩⟩
        case rest =>
         clear HC57
         try clear c1
         try clear p1
         try clear q1
         try clear hx1
         try clear c2
         try clear p2
         try clear c3
         try clear c4
         try clear c4b0
         try clear c4b1
         try clear c5
         try clear c6
         try clear c7
         try clear c7b0
         try clear c7b1
         try clear c8
         try clear c11
         try clear c11b0
         try clear c11b1
         try clear c12
         try clear c12b0
         try clear p12
         try clear q12
         try clear hx12
         try clear c13
         try clear c13b0
         try clear c24
         try clear c24b0
         try clear c24b1
         try clear c25
         try clear c25b0
         try clear c25b1
         try clear c31
         try clear c31b0
         try clear c31b1
         try clear c32
         try clear c32b0
         try clear c32b1
         try clear c37
         try clear c37b0
         try clear c37b1
         try clear c42
         try clear c42b0
         try clear c42b1
         try clear c43
         try clear c43b0
         try clear c43b1
         try clear c45
         try clear c46
         try clear c46b0
         try clear c47
         try clear c47b0
         try clear c51
         try clear c52
         try clear c54
         try clear c54b0
         try clear c54b1
         try clear c60
         try clear c60b0
         try clear c60b1
         try clear c61
         try clear c61b0
         try clear c61b1
         try clear c62
         try clear c62b0
         try clear c62b1
         try clear hcz10_0
         try clear hcz10_1
         try clear hcz10_2
         try clear hcz10_3
         try clear hcz17_0
         try clear hcz17_1
         try clear hcz17_2
         try clear hcz17_3
         try clear hcz20_0
         try clear hcz20_1
         try clear hcz20_2
         try clear hcz20_3
         try clear hcz23_0
         try clear hcz23_1
         try clear hcz23_2
         try clear hcz23_3
         try clear hcz41_0
         try clear hcz41_1
         try clear hcz41_2
         try clear hcz41_3
         try clear hcz50_0
         try clear hcz50_1
         try clear hcz50_2
         try clear hcz50_3
         try clear hcz53_0
         try clear hcz53_1
         try clear hcz53_2
         try clear hcz53_3
         try clear hfz10_0
         try clear hfz10_1
         try clear hfz10_2
         try clear hfz10_3
         try clear hfz17_0
         try clear hfz17_1
         try clear hfz17_2
         try clear hfz17_3
         try clear hfz20_0
         try clear hfz20_1
         try clear hfz20_2
         try clear hfz20_3
         try clear hfz23_0
         try clear hfz23_1
         try clear hfz23_2
         try clear hfz23_3
         try clear hfz41_0
         try clear hfz41_1
         try clear hfz41_2
         try clear hfz41_3
         try clear hfz50_0
         try clear hfz50_1
         try clear hfz50_2
         try clear hfz50_3
         try clear hfz53_0
         try clear hfz53_1
         try clear hfz53_2
         try clear hfz53_3
         try clear hx121_0
         try clear hx126_0
         try clear p121
         try clear p126
         try clear q121
         try clear q126
         obtain ⟨kq,x83_56,rfl,HA,HJ56,BK116,HB⟩:=hcut
         cases kq with
         | zero=>exact absurd HA.out (by simp [code_may.j0])
         | succ kj56 =>
          have H:=HA.out
          clear HA
          simp only [code_may.j0] at H
          by_cases c63:x83_56=true
          ·subst c63
           have H1:(some true)=some r:=by rw [if_pos rfl] at H; exact H
           clear H
           have H:=H1
           clear H1
           obtain rfl:=Option.some.inj H
           go_wp2
           go_ret
           exact ⟨by first|rfl|(simp [errW_none,errW_some]<;>rfl)|(simp [*,errW_none,errW_some]<;>rfl),by repeat (first|(with_reducible first|exact HB.out|apply below_alloc|apply pw_below_drewN|apply below_drew1|refine below_set ?_ GE116.out)|exact HB.out)⟩
          ·replace c63:=Bool.eq_false_iff.mpr c63
           subst c63
           have H1:(if t117=16 then (if t118 ≥ 1 then (some (decide (t118≤10))) else (some false)) else (if t117=18 then (code_may.j1 kj56 t117 t118 t117 (t117 == 18) l0_0 l0_1 l0_2 l0_3) else (code_may.j1 kj56 t117 t118 t117 (t117 == 19) l0_0 l0_1 l0_2 l0_3)))=some r:=by rw [if_neg (show ¬ (false=true) by decide)] at H; exact H
           clear H
           have H:=H1
           clear H1
           by_cases c64:t117=16
           ·rw [if_pos c64] at H
            have c64b0:(t117 == 16)=true:=beq_iff_eq.mpr c64
            have c64b1:(t117 != 16)=false:=bne_eq_false_iff_eq.mpr c64
            clear c64
            by_cases c65:t118 ≥ 1
            ·rw [if_pos c65] at H
             have c65b0:decide (1≤t118)=true:=decide_eq_true c65
             clear c65
             obtain rfl:=Option.some.inj H
             go_wp2
             go_ret
             exact ⟨by first|rfl|(simp [errW_none,errW_some]<;>rfl)|(simp [*,errW_none,errW_some]<;>rfl),by repeat (first|(with_reducible first|exact HB.out|apply below_alloc|apply pw_below_drewN|apply below_drew1|refine below_set ?_ GE116.out)|exact HB.out)⟩
            ·rw [if_neg c65] at H
             have c65b0:decide (1≤t118)=false:=decide_eq_false c65
             clear c65
             obtain rfl:=Option.some.inj H
             go_wp2
             go_ret
             exact ⟨by first|rfl|(simp [errW_none,errW_some]<;>rfl)|(simp [*,errW_none,errW_some]<;>rfl),by repeat (first|(with_reducible first|exact HB.out|apply below_alloc|apply pw_below_drewN|apply below_drew1|refine below_set ?_ GE116.out)|exact HB.out)⟩
           ·rw [if_neg c64] at H
            have c64b0:(t117 == 16)=false:=beq_eq_false_iff_ne.mpr c64
            have c64b1:(t117 != 16)=true:=bne_iff_ne.mpr c64
            have HC66:=Aside0.mk H
            clear H
            go_upto_if 96 with (fail)
            go_cut [96] (fun v96 wc=>∃ (kq:Nat) (x96_65:Bool),v96=.bool x96_65∧Aside0 (code_may.j1 kq t117 t118 t117 x96_65 l0_0 l0_1 l0_2 l0_3=some r)∧Aside0 (kq≤kj56)∧Aside0 (wc.heap[gb116]? = some (.cells #[(.slice A0_0 l0_0.length c0_0),(.slice A0_1 l0_1.length c0_1),(.slice A0_2 l0_2.length c0_2),(.slice A0_3 l0_3.length c0_3)] 26 (0,0)))∧Aside0 (Below w.heap.size w wc))
            case first =>
             have H:=HC66.out
             clear HC66
             by_cases c67:t117=18
             ·rw [if_pos c67] at H
              have c67b0:(t117 == 18)=true:=beq_iff_eq.mpr c67
              have c67b1:(t117 != 18)=false:=bne_eq_false_iff_eq.mpr c67
              clear c67
              (first|rw [c67b0]|(simp only [i64_w,i32_w]; rw [c67b0])|skip)
              have H':=Aside0.mk H
              clear H
              go_wp2
              go_meet
              case rel=>exact ⟨_,((t117 == 18)),(by first|rfl|(simp; done)|(simp [*]; done)),H',⟨by have:=HJ56.out; first|omega|exact Nat.le_refl _⟩,⟨by (with_reducible repeat (first|refine blk_drewN ?_ _|refine blk_drew ?_|refine blk_alloc ?_ _)); exact BK116.out⟩,⟨by repeat (first|(with_reducible first|exact HB.out|apply below_alloc|apply pw_below_drewN|apply below_drew1|refine below_set ?_ GE116.out)|exact HB.out)⟩⟩
             ·rw [if_neg c67] at H
              have c67b0:(t117 == 18)=false:=beq_eq_false_iff_ne.mpr c67
              have c67b1:(t117 != 18)=true:=bne_iff_ne.mpr c67
              (first|rw [c67b0]|(simp only [i64_w,i32_w]; rw [c67b0])|skip)
              have H':=Aside0.mk H
              clear H
              go_wp2
              go_meet
              case rel=>exact ⟨_,((t117 == 19)),(by first|rfl|(simp; done)|(simp [*]; done)),H',⟨by have:=HJ56.out; first|omega|exact Nat.le_refl _⟩,⟨by (with_reducible repeat (first|refine blk_drewN ?_ _|refine blk_drew ?_|refine blk_alloc ?_ _)); exact BK116.out⟩,⟨by repeat (first|(with_reducible first|exact HB.out|apply below_alloc|apply pw_below_drewN|apply below_drew1|refine below_set ?_ GE116.out)|exact HB.out)⟩⟩
            case rest =>
             clear HC66
             try clear c1
             try clear p1
             try clear q1
             try clear hx1
             try clear c2
             try clear p2
             try clear c3
             try clear c4
             try clear c4b0
             try clear c4b1
             try clear c5
             try clear c6
             try clear c7
             try clear c7b0
             try clear c7b1
             try clear c8
             try clear c11
             try clear c11b0
             try clear c11b1
             try clear c12
             try clear c12b0
             try clear p12
             try clear q12
             try clear hx12
             try clear c13
             try clear c13b0
             try clear c24
             try clear c24b0
             try clear c24b1
             try clear c25
             try clear c25b0
             try clear c25b1
             try clear c31
             try clear c31b0
             try clear c31b1
             try clear c32
             try clear c32b0
             try clear c32b1
             try clear c37
             try clear c37b0
             try clear c37b1
             try clear c42
             try clear c42b0
             try clear c42b1
             try clear c43
             try clear c43b0
             try clear c43b1
             try clear c45
             try clear c46
             try clear c46b0
             try clear c47
             try clear c47b0
             try clear c51
             try clear c52
             try clear c54
             try clear c54b0
             try clear c54b1
             try clear c60
             try clear c60b0
             try clear c60b1
             try clear c61
             try clear c61b0
             try clear c61b1
             try clear c62
             try clear c62b0
             try clear c62b1
             try clear c63
             try clear c64
             try clear c64b0
             try clear c64b1
             try clear c65
             try clear c65b0
             try clear c67
             try clear c67b0
             try clear c67b1
             try clear hcz10_0
             try clear hcz10_1
             try clear hcz10_2
             try clear hcz10_3
             try clear hcz17_0
             try clear hcz17_1
             try clear hcz17_2
             try clear hcz17_3
             try clear hcz20_0
             try clear hcz20_1
             try clear hcz20_2
             try clear hcz20_3
             try clear hcz23_0
             try clear hcz23_1
             try clear hcz23_2
             try clear hcz23_3
             try clear hcz41_0
             try clear hcz41_1
             try clear hcz41_2
             try clear hcz41_3
             try clear hcz50_0
             try clear hcz50_1
             try clear hcz50_2
             try clear hcz50_3
             try clear hcz53_0
             try clear hcz53_1
             try clear hcz53_2
             try clear hcz53_3
             try clear hfz10_0
             try clear hfz10_1
             try clear hfz10_2
             try clear hfz10_3
             try clear hfz17_0
             try clear hfz17_1
             try clear hfz17_2
             try clear hfz17_3
             try clear hfz20_0
             try clear hfz20_1
             try clear hfz20_2
             try clear hfz20_3
             try clear hfz23_0
             try clear hfz23_1
             try clear hfz23_2
             try clear hfz23_3
             try clear hfz41_0
             try clear hfz41_1
             try clear hfz41_2
             try clear hfz41_3
             try clear hfz50_0
             try clear hfz50_1
             try clear hfz50_2
             try clear hfz50_3
             try clear hfz53_0
             try clear hfz53_1
             try clear hfz53_2
             try clear hfz53_3
             try clear hx121_0
             try clear hx126_0
             try clear p1
             try clear p12
             try clear p121
             try clear p126
             try clear p2
             try clear q1
             try clear q12
             try clear q121
             try clear q126
             obtain ⟨kq,x96_65,rfl,HA,HJ65,BK116,HB⟩:=hcut
             cases kq with
             | zero=>exact absurd HA.out (by simp [code_may.j1])
             | succ kj65 =>
              have H:=HA.out
              clear HA
              simp only [code_may.j1] at H
              by_cases c68:x96_65=true
              ·subst c68
               have H1:((code_place.f t118 (l0_3.length:Int)).bind fun t127=>(some t127))=some r:=by rw [if_pos rfl] at H; exact H
               clear H
               have H:=H1
               clear H1
               replace H:=Option.bind_eq_some_iff.mp H
               obtain ⟨t127,A690,H⟩:=H
               replace H:(some t127)=some r:=H
               have A69:=Aside0.mk A690
               clear A690
               obtain rfl:=Option.some.inj H
               have hcz70_0:wc.cell? ⟨gb116,0,none⟩=some (.slice A0_0 l0_0.length c0_0):=(blk_cell BK116.out 0).trans rfl
               have hcz70_1:wc.cell? ⟨gb116,1,none⟩=some (.slice A0_1 l0_1.length c0_1):=(blk_cell BK116.out 1).trans rfl
               have hcz70_2:wc.cell? ⟨gb116,2,none⟩=some (.slice A0_2 l0_2.length c0_2):=(blk_cell BK116.out 2).trans rfl
               have hcz70_3:wc.cell? ⟨gb116,3,none⟩=some (.slice A0_3 l0_3.length c0_3):=(blk_cell BK116.out 3).trans rfl
               have hfz70_0:=blk_frozen BK116.out 0
               have hfz70_1:=blk_frozen BK116.out 1
               have hfz70_2:=blk_frozen BK116.out 2
               have hfz70_3:=blk_frozen BK116.out 3
               go_wp2_with (first|((with_reducible refine gate_callee (f:=84) rfl ?_); refine goesL_ (some 103) rfl rfl Tryd.func84 (by kernel_rfl) rfl #[.int .i64 t118,.int .i64 (l0_3.length:Int)] rfl (by (try simp only [List.map_toArray,List.map_cons,List.map_nil]); first|done|rfl|(simp only [List.length_drop,List.length_take]; rfl)) ?_; (with_reducible refine (code_place.calls t118 (l0_3.length:Int) t127 _ A69.out).mono ?_); rintro e w' ⟨rfl,⟨nd,rfl⟩⟩; refine ⟨_,rfl,?_⟩))
               go_ret
               exact ⟨by first|rfl|(simp [errW_none,errW_some]<;>rfl)|(simp [*,errW_none,errW_some]<;>rfl),by repeat (first|(with_reducible first|exact HB.out|apply below_alloc|apply pw_below_drewN|apply below_drew1|refine below_set ?_ GE116.out)|exact HB.out)⟩
              ·replace c68:=Bool.eq_false_iff.mpr c68
               subst c68
               have H1:(if t117=21 then ((code_place.f t118 (l0_2.length:Int)).bind fun t128=>(some t128)) else (if t117=23 then (some (decide (t118≤1024))) else (if t117=26 then (some (decide (t118≤1))) else (if t118=0 then (some (decide (t117≤27))) else (some false)))))=some r:=by rw [if_neg (show ¬ (false=true) by decide)] at H; exact H
               clear H
               have H:=H1
               clear H1
               by_cases c71:t117=21
               ·rw [if_pos c71] at H
                have c71b0:(t117 == 21)=true:=beq_iff_eq.mpr c71
                have c71b1:(t117 != 21)=false:=bne_eq_false_iff_eq.mpr c71
                clear c71
                replace H:=Option.bind_eq_some_iff.mp H
                obtain ⟨t128,A720,H⟩:=H
                replace H:(some t128)=some r:=H
                have A72:=Aside0.mk A720
                clear A720
                obtain rfl:=Option.some.inj H
                have hcz73_0:wc.cell? ⟨gb116,0,none⟩=some (.slice A0_0 l0_0.length c0_0):=(blk_cell BK116.out 0).trans rfl
                have hcz73_1:wc.cell? ⟨gb116,1,none⟩=some (.slice A0_1 l0_1.length c0_1):=(blk_cell BK116.out 1).trans rfl
                have hcz73_2:wc.cell? ⟨gb116,2,none⟩=some (.slice A0_2 l0_2.length c0_2):=(blk_cell BK116.out 2).trans rfl
                have hcz73_3:wc.cell? ⟨gb116,3,none⟩=some (.slice A0_3 l0_3.length c0_3):=(blk_cell BK116.out 3).trans rfl
                have hfz73_0:=blk_frozen BK116.out 0
                have hfz73_1:=blk_frozen BK116.out 1
                have hfz73_2:=blk_frozen BK116.out 2
                have hfz73_3:=blk_frozen BK116.out 3
                go_wp2_with (first|((with_reducible refine gate_callee (f:=84) rfl ?_); refine goesL_ (some 110) rfl rfl Tryd.func84 (by kernel_rfl) rfl #[.int .i64 t118,.int .i64 (l0_2.length:Int)] rfl (by (try simp only [List.map_toArray,List.map_cons,List.map_nil]); first|done|rfl|(simp only [List.length_drop,List.length_take]; rfl)) ?_; (with_reducible refine (code_place.calls t118 (l0_2.length:Int) t128 _ A72.out).mono ?_); rintro e w' ⟨rfl,⟨nd,rfl⟩⟩; refine ⟨_,rfl,?_⟩))
                go_ret
                exact ⟨by first|rfl|(simp [errW_none,errW_some]<;>rfl)|(simp [*,errW_none,errW_some]<;>rfl),by repeat (first|(with_reducible first|exact HB.out|apply below_alloc|apply pw_below_drewN|apply below_drew1|refine below_set ?_ GE116.out)|exact HB.out)⟩
               ·rw [if_neg c71] at H
                have c71b0:(t117 == 21)=false:=beq_eq_false_iff_ne.mpr c71
                have c71b1:(t117 != 21)=true:=bne_iff_ne.mpr c71
                by_cases c74:t117=23
                ·rw [if_pos c74] at H
                 have c74b0:(t117 == 23)=true:=beq_iff_eq.mpr c74
                 have c74b1:(t117 != 23)=false:=bne_eq_false_iff_eq.mpr c74
                 clear c74
                 obtain rfl:=Option.some.inj H
                 go_wp2
                 go_ret
                 exact ⟨by first|rfl|(simp [errW_none,errW_some]<;>rfl)|(simp [*,errW_none,errW_some]<;>rfl),by repeat (first|(with_reducible first|exact HB.out|apply below_alloc|apply pw_below_drewN|apply below_drew1|refine below_set ?_ GE116.out)|exact HB.out)⟩
                ·rw [if_neg c74] at H
                 have c74b0:(t117 == 23)=false:=beq_eq_false_iff_ne.mpr c74
                 have c74b1:(t117 != 23)=true:=bne_iff_ne.mpr c74
                 by_cases c75:t117=26
                 ·rw [if_pos c75] at H
                  have c75b0:(t117 == 26)=true:=beq_iff_eq.mpr c75
                  have c75b1:(t117 != 26)=false:=bne_eq_false_iff_eq.mpr c75
                  clear c75
                  obtain rfl:=Option.some.inj H
                  go_wp2
                  go_ret
                  exact ⟨by first|rfl|(simp [errW_none,errW_some]<;>rfl)|(simp [*,errW_none,errW_some]<;>rfl),by repeat (first|(with_reducible first|exact HB.out|apply below_alloc|apply pw_below_drewN|apply below_drew1|refine below_set ?_ GE116.out)|exact HB.out)⟩
                 ·rw [if_neg c75] at H
                  have c75b0:(t117 == 26)=false:=beq_eq_false_iff_ne.mpr c75
                  have c75b1:(t117 != 26)=true:=bne_iff_ne.mpr c75
                  by_cases c76:t118=0
                  ·rw [if_pos c76] at H
                   have c76b0:(t118 == 0)=true:=beq_iff_eq.mpr c76
                   have c76b1:(t118 != 0)=false:=bne_eq_false_iff_eq.mpr c76
                   clear c76
                   obtain rfl:=Option.some.inj H
                   go_wp2
                   go_ret
                   exact ⟨by first|rfl|(simp [errW_none,errW_some]<;>rfl)|(simp [*,errW_none,errW_some]<;>rfl),by repeat (first|(with_reducible first|exact HB.out|apply below_alloc|apply pw_below_drewN|apply below_drew1|refine below_set ?_ GE116.out)|exact HB.out)⟩
                  ·rw [if_neg c76] at H
                   have c76b0:(t118 == 0)=false:=beq_eq_false_iff_ne.mpr c76
                   have c76b1:(t118 != 0)=true:=bne_iff_ne.mpr c76
                   obtain rfl:=Option.some.inj H
                   go_wp2
                   go_ret
                   exact ⟨by first|rfl|(simp [errW_none,errW_some]<;>rfl)|(simp [*,errW_none,errW_some]<;>rfl),by repeat (first|(with_reducible first|exact HB.out|apply below_alloc|apply pw_below_drewN|apply below_drew1|refine below_set ?_ GE116.out)|exact HB.out)⟩
     ·rw [if_neg c42] at H
      have c42b0:(t119 == 0)=false:=beq_eq_false_iff_ne.mpr c42
      have c42b1:(t119 != 0)=true:=bne_iff_ne.mpr c42
      obtain rfl:=Option.some.inj H
      go_enter Tryd.func51,Tryd.ntmps51
      go_wp2_with (first|((with_reducible refine gate_dst (N:=2) rfl ?_); refine box_event ?hg (N:=2) ?hd (cs:=#[.slice A0_0 l0_0.length c0_0,.slice A0_1 l0_1.length c0_1,.slice A0_2 l0_2.length c0_2,.slice A0_3 l0_3.length c0_3]) (t:=26) ?hr ?_; (case hd=>rfl); (case hg=>rfl); (case hr=>first|(go_simp; done)|(go_simp; rfl)); intro gb116 hg w77 hbox hb; have n0_:=Aside0.mk (below_step (by repeat (first|(with_reducible first|exact HB.out|apply below_alloc|apply pw_below_drewN|apply below_drew1)|exact HB.out)) hb); have n1_:=Aside0.mk (hbox); have n2_:=Aside0.mk ((by rw [hg]; exact (below_size (by repeat (first|(with_reducible first|exact HB.out|apply below_alloc|apply pw_below_drewN|apply below_drew1)|exact HB.out))):w.heap.size≤gb116)); have n3_:=Aside0.mk ((by rw [hg]; exact (below_size (by repeat (first|(with_reducible first|exact HB.out|apply below_alloc|apply pw_below_drewN|apply below_drew1)|exact HB.out))):w.heap.size≤gb116)); clear HB; have HB:=n0_; have BK116:=n1_; have GW116:=n2_; have GE116:=n3_; clear n0_ n1_ n2_ n3_; clear hb hbox hg)|((with_reducible refine gate_callee (f:=52) rfl ?_); refine goesL_ (some 10) rfl rfl Tryd.func52 (by kernel_rfl) rfl #[.int .u64 a1] rfl (by (try simp only [List.map_toArray,List.map_cons,List.map_nil]); first|done|rfl|(simp only [List.length_drop,List.length_take]; rfl)) ?_; (with_reducible refine (pack_Parts.calls a1 t117 t118 t119 _ ?side1 A3.out).mono ?_); (case side1=>exact Glob.below HG.out (by repeat (first|(with_reducible first|exact HB.out|apply below_alloc|apply pw_below_drewN|apply below_drew1|refine below_set ?_ GE116.out)|exact HB.out))); rintro e w78 ⟨rfl,hb⟩; refine ⟨_,rfl,?_⟩; have n0_:=Aside0.mk (blk_below (g:=gb116) (o:=.cells #[.slice A0_0 l0_0.length c0_0,.slice A0_1 l0_1.length c0_1,.slice A0_2 l0_2.length c0_2,.slice A0_3 l0_3.length c0_3] 26 (0,0)) (by (with_reducible repeat (first|refine blk_drewN ?_ _|refine blk_drew ?_|refine blk_alloc ?_ _)); exact BK116.out) hb); have n1_:=Aside0.mk (below_step (by repeat (first|(with_reducible first|exact HB.out|apply below_alloc|apply pw_below_drewN|apply below_drew1|refine below_set ?_ GE116.out)|exact HB.out)) hb); clear BK116; clear HB; have BK116:=n0_; have HB:=n1_; clear n0_ n1_; (try clear hb); (try clear hb2); (try clear hk); (try clear hi)))
      go_ret
      exact ⟨by first|rfl|(simp [errW_none,errW_some]<;>rfl)|(simp [*,errW_none,errW_some]<;>rfl),by repeat (first|(with_reducible first|exact HB.out|apply below_alloc|apply pw_below_drewN|apply below_drew1|refine below_set ?_ GE116.out)|exact HB.out)⟩
end Go.Proofs.YtcmdjpolgaejoaaDoor.C
