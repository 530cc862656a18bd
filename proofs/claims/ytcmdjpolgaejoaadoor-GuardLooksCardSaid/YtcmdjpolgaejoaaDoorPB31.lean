/- The laws GuardLooks, GuardWords of the program hold, as their cards say: texts put together by a program, 32 of 38. -/
import Derived.Test.YtcmdjpolgaejoaaDoorPB13
import Derived.Test.YtcmdjpolgaejoaaDoorPB29
namespace Go.Proofs.YtcmdjpolgaejoaaDoor.C
open Go.RowKit Go.Proofs.YtcmdjpolgaejoaaDoorW.PrintWords Go.Proofs.YtcmdjpolgaejoaaDoorW.PrintLast Go.Proofs.YtcmdjpolgaejoaaDoorW.PrintMore
attribute [local go_sem] max2_int min2_int max_two min_two max_three min_three max_four min_four
set_option linter.unusedVariables false
set_option linter.unusedSimpArgs false
mutual
def isthmusref18_word.j0:Nat→Int→Int→Int→Int→Bool→List Int→List Int→List ByteArray→List Int→Option (Bool)
 | 0,_,_,_,_,_,_,_,_,_=>none
 | k+1,x5,x6,x7,x14,x84,x148000,x148001,x148002,x148003=>if x84=true then (some (x7 == 0)) else (if x14=16 then (if x6 ≥ 1 then (if x6≤10 then (some (x7 == 0)) else (some false)) else (some false)) else (if x14=17 then ((isthmusref18_within.f x6 (x148003.length:Int)).bind fun t157=>(some t157)) else (if x14=18 then (isthmusref18_word.j1 k x5 x6 x7 x14 (x14 == 18) x148000 x148001 x148002 x148003) else (isthmusref18_word.j1 k x5 x6 x7 x14 (x14 == 19) x148000 x148001 x148002 x148003))))
def isthmusref18_word.j1:Nat→Int→Int→Int→Int→Bool→List Int→List Int→List ByteArray→List Int→Option (Bool)
 | 0,_,_,_,_,_,_,_,_,_=>none
 | k+1,x5,x6,x7,x14,x110,x148000,x148001,x148002,x148003=>if x110=true then ((isthmusref18_within.f x6 (x148003.length:Int)).bind fun t158=>(if t158=true then (some (x7 == 0)) else (some false))) else (if x14=21 then ((isthmusref18_within.f x6 (x148002.length:Int)).bind fun t159=>(if t159=true then (some (x7 == 0)) else (some false))) else (if x14=23 then (if x6≤1024 then (some (x7 == 0)) else (some false)) else (if x14=26 then (if x6≤1 then (some (x7 == 0)) else (some false)) else (if x5 < 28 then (if x6=0 then (some (x7 == 0)) else (some false)) else (some false)))))
end
def isthmusref18_word.f (k:Nat) (l0_0:List Int) (l0_1:List Int) (l0_2:List ByteArray) (l0_3:List Int) (a1:Int):Option (Bool):=(isthmusref01_Parts.f a1).bind fun bt148=>(if bt148.1=1 then ((isthmusref18_within.f bt148.2.1 (l0_1.length:Int)).bind fun t151=>(if t151=true then (if bt148.2.2=1 then (some true) else (if bt148.2.2=2 then (if 0≤bt148.2.1 then (if bt148.2.1 < (l0_1.length:Int) then ((isthmusref18_within.f (rd l0_1 bt148.2.1) 2).bind fun t153=>(some t153)) else (none)) else (none)) else (some false))) else (some false))) else (if bt148.1=2 then ((isthmusref18_within.f bt148.2.1 (l0_1.length:Int)).bind fun t154=>(if t154=true then (if 0≤bt148.2.1 then (if bt148.2.1 < (l0_1.length:Int) then (if (rd l0_1 bt148.2.1) ≥ 0 then (some (bt148.2.2 == 0)) else (some false)) else (none)) else (none)) else (some false))) else (if bt148.1=3 then (if bt148.2.1≤3 then (some (bt148.2.2 == 0)) else (some false)) else (if bt148.1=11 then (if bt148.2.1=0 then ((isthmusref18_kind.f bt148.2.2).bind fun t156=>(some t156)) else (some false)) else (if bt148.1=12 then (if bt148.2.1=0 then (some (decide (bt148.2.2≤1))) else (some false)) else (if bt148.1=13 then (isthmusref18_word.j0 k bt148.1 bt148.2.1 bt148.2.2 bt148.1 (bt148.1 == 13) l0_0 l0_1 l0_2 l0_3) else (if bt148.1=14 then (isthmusref18_word.j0 k bt148.1 bt148.2.1 bt148.2.2 bt148.1 (bt148.1 == 14) l0_0 l0_1 l0_2 l0_3) else (if bt148.1=15 then (isthmusref18_word.j0 k bt148.1 bt148.2.1 bt148.2.2 bt148.1 (bt148.1 == 15) l0_0 l0_1 l0_2 l0_3) else (isthmusref18_word.j0 k bt148.1 bt148.2.1 bt148.2.2 bt148.1 (bt148.1 == 24) l0_0 l0_1 l0_2 l0_3)))))))))
set_option maxHeartbeats 8000000 in
set_option maxRecDepth 100000 in
theorem isthmusref18_word.calls (k:Nat) (A0_0:Option Addr) (c0_0:Nat) (l0_0:List Int) (A0_1:Option Addr) (c0_1:Nat) (l0_1:List Int) (A0_2:Option Addr) (c0_2:Nat) (l0_2:List ByteArray) (A0_3:Option Addr) (c0_3:Nat) (l0_3:List Int) (a1:Int) (r:Bool) (w:World) (hr0_0:Kd.C (Kd.int .u64) w A0_0 l0_0.length l0_0) (hc0_0:l0_0.length≤c0_0) (hr0_1:Kd.C (Kd.int .i64) w A0_1 l0_1.length l0_1) (hc0_1:l0_1.length≤c0_1) (hr0_2:Kd.C Kd.string w A0_2 l0_2.length l0_2) (hc0_2:l0_2.length≤c0_2) (hr0_3:Kd.C (Kd.int .i64) w A0_3 l0_3.length l0_3) (hc0_3:l0_3.length≤c0_3) (h:isthmusref18_word.f k l0_0 l0_1 l0_2 l0_3 a1=some r) :
  Calls Tryd.prog 38 #[.agg #[.slice A0_0 l0_0.length c0_0,.slice A0_1 l0_1.length c0_1,.slice A0_2 l0_2.length c0_2,.slice A0_3 l0_3.length c0_3],.int .u64 a1] w fun e w'=>e=.returned (.bool r)∧Below w.heap.size w w':=by
 have hu26:=Tryd.underlying26
 have HR0_0:=Aside0.mk hr0_0
 have HC0_0:=Aside0.mk hc0_0
 clear hr0_0 hc0_0
 have HR0_1:=Aside0.mk hr0_1
 have HC0_1:=Aside0.mk hc0_1
 clear hr0_1 hc0_1
 have HR0_2:=Aside0.mk hr0_2
 have HC0_2:=Aside0.mk hc0_2
 clear hr0_2 hc0_2
 have HR0_3:=Aside0.mk hr0_3
 have HC0_3:=Aside0.mk hc0_3
 clear hr0_3 hc0_3
 have HB:=Aside0.mk (Below.refl w.heap.size w)
 have H:((isthmusref01_Parts.f a1).bind fun bt148=>(if bt148.1=1 then ((isthmusref18_within.f bt148.2.1 (l0_1.length:Int)).bind fun t151=>(if t151=true then (if bt148.2.2=1 then (some true) else (if bt148.2.2=2 then (if 0≤bt148.2.1 then (if bt148.2.1 < (l0_1.length:Int) then ((isthmusref18_within.f (rd l0_1 bt148.2.1) 2).bind fun t153=>(some t153)) else (none)) else (none)) else (some false))) else (some false))) else (if bt148.1=2 then ((isthmusref18_within.f bt148.2.1 (l0_1.length:Int)).bind fun t154=>(if t154=true then (if 0≤bt148.2.1 then (if bt148.2.1 < (l0_1.length:Int) then (if (rd l0_1 bt148.2.1) ≥ 0 then (some (bt148.2.2 == 0)) else (some false)) else (none)) else (none)) else (some false))) else (if bt148.1=3 then (if bt148.2.1≤3 then (some (bt148.2.2 == 0)) else (some false)) else (if bt148.1=11 then (if bt148.2.1=0 then ((isthmusref18_kind.f bt148.2.2).bind fun t156=>(some t156)) else (some false)) else (if bt148.1=12 then (if bt148.2.1=0 then (some (decide (bt148.2.2≤1))) else (some false)) else (if bt148.1=13 then (isthmusref18_word.j0 k bt148.1 bt148.2.1 bt148.2.2 bt148.1 (bt148.1 == 13) l0_0 l0_1 l0_2 l0_3) else (if bt148.1=14 then (isthmusref18_word.j0 k bt148.1 bt148.2.1 bt148.2.2 bt148.1 (bt148.1 == 14) l0_0 l0_1 l0_2 l0_3) else (if bt148.1=15 then (isthmusref18_word.j0 k bt148.1 bt148.2.1 bt148.2.2 bt148.1 (bt148.1 == 15) l0_0 l0_1 l0_2 l0_3) else (isthmusref18_word.j0 k bt148.1 bt148.2.1 bt148.2.2 bt148.1 (bt148.1 == 24) l0_0 l0_1 l0_2 l0_3))))))))))=some r:=h
 clear h
 replace H:=Option.bind_eq_some_iff.mp H
 obtain ⟨⟨t148,t149,t150⟩,A30,H⟩:=H
 replace H:(if t148=1 then ((isthmusref18_within.f t149 (l0_1.length:Int)).bind fun t151=>(if t151=true then (if t150=1 then (some true) else (if t150=2 then (if 0≤t149 then (if t149 < (l0_1.length:Int) then ((isthmusref18_within.f (rd l0_1 t149) 2).bind fun t153=>(some t153)) else (none)) else (none)) else (some false))) else (some false))) else (if t148=2 then ((isthmusref18_within.f t149 (l0_1.length:Int)).bind fun t154=>(if t154=true then (if 0≤t149 then (if t149 < (l0_1.length:Int) then (if (rd l0_1 t149) ≥ 0 then (some (t150 == 0)) else (some false)) else (none)) else (none)) else (some false))) else (if t148=3 then (if t149≤3 then (some (t150 == 0)) else (some false)) else (if t148=11 then (if t149=0 then ((isthmusref18_kind.f t150).bind fun t156=>(some t156)) else (some false)) else (if t148=12 then (if t149=0 then (some (decide (t150≤1))) else (some false)) else (if t148=13 then (isthmusref18_word.j0 k t148 t149 t150 t148 (t148 == 13) l0_0 l0_1 l0_2 l0_3) else (if t148=14 then (isthmusref18_word.j0 k t148 t149 t150 t148 (t148 == 14) l0_0 l0_1 l0_2 l0_3) else (if t148=15 then (isthmusref18_word.j0 k t148 t149 t150 t148 (t148 == 15) l0_0 l0_1 l0_2 l0_3) else (isthmusref18_word.j0 k t148 t149 t150 t148 (t148 == 24) l0_0 l0_1 l0_2 l0_3)))))))))=some r:=H
 have A3:=Aside0.mk A30
 clear A30
 by_cases c4:t148=1
 ·rw [if_pos c4] at H
  have c4b0:(t148 == 1)=true:=beq_iff_eq.mpr c4
  have c4b1:(t148 != 1)=false:=bne_eq_false_iff_eq.mpr c4
  clear c4
  replace H:=Option.bind_eq_some_iff.mp H
  obtain ⟨t151,A50,H⟩:=H
  replace H:(if t151=true then (if t150=1 then (some true) else (if t150=2 then (if 0≤t149 then (if t149 < (l0_1.length:Int) then ((isthmusref18_within.f (rd l0_1 t149) 2).bind fun t153=>(some t153)) else (none)) else (none)) else (some false))) else (some false))=some r:=H
  have A5:=Aside0.mk A50
  clear A50
  by_cases c6:t151=true
  ·subst c6
   have H1:(if t150=1 then (some true) else (if t150=2 then (if 0≤t149 then (if t149 < (l0_1.length:Int) then ((isthmusref18_within.f (rd l0_1 t149) 2).bind fun t153=>(some t153)) else (none)) else (none)) else (some false)))=some r:=by rw [if_pos rfl] at H; exact H
   clear H
   have H:=H1
   clear H1
   by_cases c7:t150=1
   ·rw [if_pos c7] at H
    have c7b0:(t150 == 1)=true:=beq_iff_eq.mpr c7
    have c7b1:(t150 != 1)=false:=bne_eq_false_iff_eq.mpr c7
    clear c7
    obtain rfl:=Option.some.inj H
    go_enter Tryd.func38,Tryd.ntmps38
    go_wp2_with (first|((with_reducible refine gate_dst (N:=2) rfl ?_); refine box_event ?hg (N:=2) ?hd (cs:=#[.slice A0_0 l0_0.length c0_0,.slice A0_1 l0_1.length c0_1,.slice A0_2 l0_2.length c0_2,.slice A0_3 l0_3.length c0_3]) (t:=26) ?hr ?_; (case hd=>rfl); (case hg=>rfl); (case hr=>first|(go_simp; done)|(go_simp; rfl)); intro gb147 hg w8 hbox hb; have n0_:=Aside0.mk (below_step (by repeat (first|(with_reducible first|exact HB.out|apply below_alloc|apply pw_below_drewN|apply below_drew1)|exact HB.out)) hb); have n1_:=Aside0.mk (hbox); have n2_:=Aside0.mk ((by rw [hg]; exact (below_size (by repeat (first|(with_reducible first|exact HB.out|apply below_alloc|apply pw_below_drewN|apply below_drew1)|exact HB.out))):w.heap.size≤gb147)); have n3_:=Aside0.mk ((by rw [hg]; exact (below_size (by repeat (first|(with_reducible first|exact HB.out|apply below_alloc|apply pw_below_drewN|apply below_drew1)|exact HB.out))):w.heap.size≤gb147)); clear HB; have HB:=n0_; have BK147:=n1_; have GW147:=n2_; have GE147:=n3_; clear n0_ n1_ n2_ n3_; clear hb hbox hg)|((with_reducible refine gate_callee (f:=39) rfl ?_); refine goesL_ (some 10) rfl rfl Tryd.func39 (by kernel_rfl) rfl #[.int .u64 a1] rfl (by (try simp only [List.map_toArray,List.map_cons,List.map_nil]); first|done|rfl|(simp only [List.length_drop,List.length_take]; rfl)) ?_; (with_reducible refine (isthmusref01_Parts.calls a1 t148 t149 t150 _ A3.out).mono ?_); rintro e w' ⟨rfl,⟨nd,rfl⟩⟩; refine ⟨_,rfl,?_⟩; have hcz9_0:w8.cell? ⟨gb147,0,none⟩=some (.slice A0_0 l0_0.length c0_0):=(blk_cell BK147.out 0).trans rfl; have hcz9_1:w8.cell? ⟨gb147,1,none⟩=some (.slice A0_1 l0_1.length c0_1):=(blk_cell BK147.out 1).trans rfl; have hcz9_2:w8.cell? ⟨gb147,2,none⟩=some (.slice A0_2 l0_2.length c0_2):=(blk_cell BK147.out 2).trans rfl; have hcz9_3:w8.cell? ⟨gb147,3,none⟩=some (.slice A0_3 l0_3.length c0_3):=(blk_cell BK147.out 3).trans rfl; have hfz9_0:=blk_frozen BK147.out 0; have hfz9_1:=blk_frozen BK147.out 1; have hfz9_2:=blk_frozen BK147.out 2; have hfz9_3:=blk_frozen BK147.out 3)|((with_reducible refine gate_callee (f:=76) rfl ?_); refine goesL_ (some 21) rfl rfl Tryd.func76 (by kernel_rfl) rfl #[.int .i64 t149,.int .i64 (l0_1.length:Int)] rfl (by (try simp only [List.map_toArray,List.map_cons,List.map_nil]); first|done|rfl|(simp only [List.length_drop,List.length_take]; rfl)) ?_; (with_reducible refine (isthmusref18_within.calls t149 (l0_1.length:Int) true _ A5.out).mono ?_); rintro e w' ⟨rfl,⟨nd,rfl⟩⟩; refine ⟨_,rfl,?_⟩))
    go_ret
    exact ⟨by first|rfl|(simp [errW_none,errW_some]<;>rfl)|(simp [*,errW_none,errW_some]<;>rfl),by repeat (first|(with_reducible first|exact HB.out|apply below_alloc|apply pw_below_drewN|apply below_drew1|refine below_set ?_ GE147.out)|exact HB.out)⟩
   ·rw [if_neg c7] at H
    have c7b0:(t150 == 1)=false:=beq_eq_false_iff_ne.mpr c7
    have c7b1:(t150 != 1)=true:=bne_iff_ne.mpr c7
    by_cases c10:t150=2
    ·rw [if_pos c10] at H
     have c10b0:(t150 == 2)=true:=beq_iff_eq.mpr c10
     have c10b1:(t150 != 2)=false:=bne_eq_false_iff_eq.mpr c10
     clear c10
     by_cases c11:0≤t149
     ·rw [if_pos c11] at H
      have c11b0:decide (0≤t149)=true:=decide_eq_true c11
      clear c11
      by_cases c12:t149 < (l0_1.length:Int)
      ·rw [if_pos c12] at H
       have c12b0:decide (t149 < (l0_1.length:Int))=true:=decide_eq_true c12
       clear c12
       replace H:=Option.bind_eq_some_iff.mp H
       obtain ⟨t153,A130,H⟩:=H
       replace H:(some t153)=some r:=H
       have A13:=Aside0.mk A130
       clear A130
       obtain rfl:=Option.some.inj H
       go_enter Tryd.func38,Tryd.ntmps38
       go_wp2_with (first|((with_reducible refine gate_dst (N:=2) rfl ?_); refine box_event ?hg (N:=2) ?hd (cs:=#[.slice A0_0 l0_0.length c0_0,.slice A0_1 l0_1.length c0_1,.slice A0_2 l0_2.length c0_2,.slice A0_3 l0_3.length c0_3]) (t:=26) ?hr ?_; (case hd=>rfl); (case hg=>rfl); (case hr=>first|(go_simp; done)|(go_simp; rfl)); intro gb147 hg w14 hbox hb; have n0_:=Aside0.mk (below_step (by repeat (first|(with_reducible first|exact HB.out|apply below_alloc|apply pw_below_drewN|apply below_drew1)|exact HB.out)) hb); have n1_:=Aside0.mk (hbox); have n2_:=Aside0.mk ((by rw [hg]; exact (below_size (by repeat (first|(with_reducible first|exact HB.out|apply below_alloc|apply pw_below_drewN|apply below_drew1)|exact HB.out))):w.heap.size≤gb147)); have n3_:=Aside0.mk ((by rw [hg]; exact (below_size (by repeat (first|(with_reducible first|exact HB.out|apply below_alloc|apply pw_below_drewN|apply below_drew1)|exact HB.out))):w.heap.size≤gb147)); clear HB; have HB:=n0_; have BK147:=n1_; have GW147:=n2_; have GE147:=n3_; clear n0_ n1_ n2_ n3_; clear hb hbox hg)|((with_reducible refine gate_callee (f:=39) rfl ?_); refine goesL_ (some 10) rfl rfl Tryd.func39 (by kernel_rfl) rfl #[.int .u64 a1] rfl (by (try simp only [List.map_toArray,List.map_cons,List.map_nil]); first|done|rfl|(simp only [List.length_drop,List.length_take]; rfl)) ?_; (with_reducible refine (isthmusref01_Parts.calls a1 t148 t149 t150 _ A3.out).mono ?_); rintro e w' ⟨rfl,⟨nd,rfl⟩⟩; refine ⟨_,rfl,?_⟩; have hcz15_0:w14.cell? ⟨gb147,0,none⟩=some (.slice A0_0 l0_0.length c0_0):=(blk_cell BK147.out 0).trans rfl; have hcz15_1:w14.cell? ⟨gb147,1,none⟩=some (.slice A0_1 l0_1.length c0_1):=(blk_cell BK147.out 1).trans rfl; have hcz15_2:w14.cell? ⟨gb147,2,none⟩=some (.slice A0_2 l0_2.length c0_2):=(blk_cell BK147.out 2).trans rfl; have hcz15_3:w14.cell? ⟨gb147,3,none⟩=some (.slice A0_3 l0_3.length c0_3):=(blk_cell BK147.out 3).trans rfl; have hfz15_0:=blk_frozen BK147.out 0; have hfz15_1:=blk_frozen BK147.out 1; have hfz15_2:=blk_frozen BK147.out 2; have hfz15_3:=blk_frozen BK147.out 3)|((with_reducible refine gate_callee (f:=76) rfl ?_); refine goesL_ (some 21) rfl rfl Tryd.func76 (by kernel_rfl) rfl #[.int .i64 t149,.int .i64 (l0_1.length:Int)] rfl (by (try simp only [List.map_toArray,List.map_cons,List.map_nil]); first|done|rfl|(simp only [List.length_drop,List.length_take]; rfl)) ?_; (with_reducible refine (isthmusref18_within.calls t149 (l0_1.length:Int) true _ A5.out).mono ?_); rintro e w' ⟨rfl,⟨nd,rfl⟩⟩; refine ⟨_,rfl,?_⟩; have p152:0≤(t149:Int):=of_decide_eq_true (by first|(with_reducible assumption)|assumption); have q152:t149 < (l0_1.length:Int):=of_decide_eq_true (by first|(with_reducible assumption)|assumption); obtain ⟨ad152,e152,hx152_0⟩:=Kd.at_int HR0_1.out t149 p152 q152; cases e152; replace hx152_0:=(HB.out.cell (World.block_lt_of_cell? w _ hx152_0)).trans hx152_0; replace p152:=eq_true p152; replace q152:=eq_true q152)|(go_at_call 76; (with_reducible refine (isthmusref18_within.calls (rd l0_1 t149) 2 t153 _ A13.out).mono ?_); rintro e w' ⟨rfl,⟨nd,rfl⟩⟩))
       go_ret
       exact ⟨by first|rfl|(simp [errW_none,errW_some]<;>rfl)|(simp [*,errW_none,errW_some]<;>rfl),by repeat (first|(with_reducible first|exact HB.out|apply below_alloc|apply pw_below_drewN|apply below_drew1|refine below_set ?_ GE147.out)|exact HB.out)⟩
      ·rw [if_neg c12] at H
       exact absurd H (by simp)
     ·rw [if_neg c11] at H
      exact absurd H (by simp)
    ·rw [if_neg c10] at H
     have c10b0:(t150 == 2)=false:=beq_eq_false_iff_ne.mpr c10
     have c10b1:(t150 != 2)=true:=bne_iff_ne.mpr c10
     obtain rfl:=Option.some.inj H
     go_enter Tryd.func38,Tryd.ntmps38
     go_wp2_with (first|((with_reducible refine gate_dst (N:=2) rfl ?_); refine box_event ?hg (N:=2) ?hd (cs:=#[.slice A0_0 l0_0.length c0_0,.slice A0_1 l0_1.length c0_1,.slice A0_2 l0_2.length c0_2,.slice A0_3 l0_3.length c0_3]) (t:=26) ?hr ?_; (case hd=>rfl); (case hg=>rfl); (case hr=>first|(go_simp; done)|(go_simp; rfl)); intro gb147 hg w16 hbox hb; have n0_:=Aside0.mk (below_step (by repeat (first|(with_reducible first|exact HB.out|apply below_alloc|apply pw_below_drewN|apply below_drew1)|exact HB.out)) hb); have n1_:=Aside0.mk (hbox); have n2_:=Aside0.mk ((by rw [hg]; exact (below_size (by repeat (first|(with_reducible first|exact HB.out|apply below_alloc|apply pw_below_drewN|apply below_drew1)|exact HB.out))):w.heap.size≤gb147)); have n3_:=Aside0.mk ((by rw [hg]; exact (below_size (by repeat (first|(with_reducible first|exact HB.out|apply below_alloc|apply pw_below_drewN|apply below_drew1)|exact HB.out))):w.heap.size≤gb147)); clear HB; have HB:=n0_; have BK147:=n1_; have GW147:=n2_; have GE147:=n3_; clear n0_ n1_ n2_ n3_; clear hb hbox hg)|((with_reducible refine gate_callee (f:=39) rfl ?_); refine goesL_ (some 10) rfl rfl Tryd.func39 (by kernel_rfl) rfl #[.int .u64 a1] rfl (by (try simp only [List.map_toArray,List.map_cons,List.map_nil]); first|done|rfl|(simp only [List.length_drop,List.length_take]; rfl)) ?_; (with_reducible refine (isthmusref01_Parts.calls a1 t148 t149 t150 _ A3.out).mono ?_); rintro e w' ⟨rfl,⟨nd,rfl⟩⟩; refine ⟨_,rfl,?_⟩; have hcz17_0:w16.cell? ⟨gb147,0,none⟩=some (.slice A0_0 l0_0.length c0_0):=(blk_cell BK147.out 0).trans rfl; have hcz17_1:w16.cell? ⟨gb147,1,none⟩=some (.slice A0_1 l0_1.length c0_1):=(blk_cell BK147.out 1).trans rfl; have hcz17_2:w16.cell? ⟨gb147,2,none⟩=some (.slice A0_2 l0_2.length c0_2):=(blk_cell BK147.out 2).trans rfl; have hcz17_3:w16.cell? ⟨gb147,3,none⟩=some (.slice A0_3 l0_3.length c0_3):=(blk_cell BK147.out 3).trans rfl; have hfz17_0:=blk_frozen BK147.out 0; have hfz17_1:=blk_frozen BK147.out 1; have hfz17_2:=blk_frozen BK147.out 2; have hfz17_3:=blk_frozen BK147.out 3)|((with_reducible refine gate_callee (f:=76) rfl ?_); refine goesL_ (some 21) rfl rfl Tryd.func76 (by kernel_rfl) rfl #[.int .i64 t149,.int .i64 (l0_1.length:Int)] rfl (by (try simp only [List.map_toArray,List.map_cons,List.map_nil]); first|done|rfl|(simp only [List.length_drop,List.length_take]; rfl)) ?_; (with_reducible refine (isthmusref18_within.calls t149 (l0_1.length:Int) true _ A5.out).mono ?_); rintro e w' ⟨rfl,⟨nd,rfl⟩⟩; refine ⟨_,rfl,?_⟩))
     go_ret
     exact ⟨by first|rfl|(simp [errW_none,errW_some]<;>rfl)|(simp [*,errW_none,errW_some]<;>rfl),by repeat (first|(with_reducible first|exact HB.out|apply below_alloc|apply pw_below_drewN|apply below_drew1|refine below_set ?_ GE147.out)|exact HB.out)⟩
  ·replace c6:=Bool.eq_false_iff.mpr c6
   subst c6
   have H1:(some false)=some r:=by rw [if_neg (show ¬ (false=true) by decide)] at H; exact H
   clear H
   have H:=H1
   clear H1
   obtain rfl:=Option.some.inj H
   go_enter Tryd.func38,Tryd.ntmps38
   go_wp2_with (first|((with_reducible refine gate_dst (N:=2) rfl ?_); refine box_event ?hg (N:=2) ?hd (cs:=#[.slice A0_0 l0_0.length c0_0,.slice A0_1 l0_1.length c0_1,.slice A0_2 l0_2.length c0_2,.slice A0_3 l0_3.length c0_3]) (t:=26) ?hr ?_; (case hd=>rfl); (case hg=>rfl); (case hr=>first|(go_simp; done)|(go_simp; rfl)); intro gb147 hg w18 hbox hb; have n0_:=Aside0.mk (below_step (by repeat (first|(with_reducible first|exact HB.out|apply below_alloc|apply pw_below_drewN|apply below_drew1)|exact HB.out)) hb); have n1_:=Aside0.mk (hbox); have n2_:=Aside0.mk ((by rw [hg]; exact (below_size (by repeat (first|(with_reducible first|exact HB.out|apply below_alloc|apply pw_below_drewN|apply below_drew1)|exact HB.out))):w.heap.size≤gb147)); have n3_:=Aside0.mk ((by rw [hg]; exact (below_size (by repeat (first|(with_reducible first|exact HB.out|apply below_alloc|apply pw_below_drewN|apply below_drew1)|exact HB.out))):w.heap.size≤gb147)); clear HB; have HB:=n0_; have BK147:=n1_; have GW147:=n2_; have GE147:=n3_; clear n0_ n1_ n2_ n3_; clear hb hbox hg)|((with_reducible refine gate_callee (f:=39) rfl ?_); refine goesL_ (some 10) rfl rfl Tryd.func39 (by kernel_rfl) rfl #[.int .u64 a1] rfl (by (try simp only [List.map_toArray,List.map_cons,List.map_nil]); first|done|rfl|(simp only [List.length_drop,List.length_take]; rfl)) ?_; (with_reducible refine (isthmusref01_Parts.calls a1 t148 t149 t150 _ A3.out).mono ?_); rintro e w' ⟨rfl,⟨nd,rfl⟩⟩; refine ⟨_,rfl,?_⟩; have hcz19_0:w18.cell? ⟨gb147,0,none⟩=some (.slice A0_0 l0_0.length c0_0):=(blk_cell BK147.out 0).trans rfl; have hcz19_1:w18.cell? ⟨gb147,1,none⟩=some (.slice A0_1 l0_1.length c0_1):=(blk_cell BK147.out 1).trans rfl; have hcz19_2:w18.cell? ⟨gb147,2,none⟩=some (.slice A0_2 l0_2.length c0_2):=(blk_cell BK147.out 2).trans rfl; have hcz19_3:w18.cell? ⟨gb147,3,none⟩=some (.slice A0_3 l0_3.length c0_3):=(blk_cell BK147.out 3).trans rfl; have hfz19_0:=blk_frozen BK147.out 0; have hfz19_1:=blk_frozen BK147.out 1; have hfz19_2:=blk_frozen BK147.out 2; have hfz19_3:=blk_frozen BK147.out 3)|((with_reducible refine gate_callee (f:=76) rfl ?_); refine goesL_ (some 21) rfl rfl Tryd.func76 (by kernel_rfl) rfl #[.int .i64 t149,.int .i64 (l0_1.length:Int)] rfl (by (try simp only [List.map_toArray,List.map_cons,List.map_nil]); first|done|rfl|(simp only [List.length_drop,List.length_take]; rfl)) ?_; (with_reducible refine (isthmusref18_within.calls t149 (l0_1.length:Int) false _ A5.out).mono ?_); rintro e w' ⟨rfl,⟨nd,rfl⟩⟩; refine ⟨_,rfl,?_⟩))
   go_ret
   exact ⟨by first|rfl|(simp [errW_none,errW_some]<;>rfl)|(simp [*,errW_none,errW_some]<;>rfl),by repeat (first|(with_reducible first|exact HB.out|apply below_alloc|apply pw_below_drewN|apply below_drew1|refine below_set ?_ GE147.out)|exact HB.out)⟩
 ·rw [if_neg c4] at H
  have c4b0:(t148 == 1)=false:=beq_eq_false_iff_ne.mpr c4
  have c4b1:(t148 != 1)=true:=bne_iff_ne.mpr c4
  by_cases c20:t148=2
  ·rw [if_pos c20] at H
   have c20b0:(t148 == 2)=true:=beq_iff_eq.mpr c20
   have c20b1:(t148 != 2)=false:=bne_eq_false_iff_eq.mpr c20
   clear c20
   replace H:=Option.bind_eq_some_iff.mp H
   obtain ⟨t154,A210,H⟩:=H
   replace H:(if t154=true then (if 0≤t149 then (if t149 < (l0_1.length:Int) then (if (rd l0_1 t149) ≥ 0 then (some (t150 == 0)) else (some false)) else (none)) else (none)) else (some false))=some r:=H
   have A21:=Aside0.mk A210
   clear A210
   by_cases c22:t154=true
   ·subst c22
    have H1:(if 0≤t149 then (if t149 < (l0_1.length:Int) then (if (rd l0_1 t149) ≥ 0 then (some (t150 == 0)) else (some false)) else (none)) else (none))=some r:=by rw [if_pos rfl] at H; exact H
    clear H
    have H:=H1
    clear H1
    by_cases c23:0≤t149
    ·rw [if_pos c23] at H
     have c23b0:decide (0≤t149)=true:=decide_eq_true c23
     clear c23
     by_cases c24:t149 < (l0_1.length:Int)
     ·rw [if_pos c24] at H
      have c24b0:decide (t149 < (l0_1.length:Int))=true:=decide_eq_true c24
      clear c24
      by_cases c25:(rd l0_1 t149) ≥ 0
      ·rw [if_pos c25] at H
       have c25b0:decide (0≤(rd l0_1 t149))=true:=decide_eq_true c25
       clear c25
       obtain rfl:=Option.some.inj H
       go_enter Tryd.func38,Tryd.ntmps38
       go_wp2_with (first|((with_reducible refine gate_dst (N:=2) rfl ?_); refine box_event ?hg (N:=2) ?hd (cs:=#[.slice A0_0 l0_0.length c0_0,.slice A0_1 l0_1.length c0_1,.slice A0_2 l0_2.length c0_2,.slice A0_3 l0_3.length c0_3]) (t:=26) ?hr ?_; (case hd=>rfl); (case hg=>rfl); (case hr=>first|(go_simp; done)|(go_simp; rfl)); intro gb147 hg w26 hbox hb; have n0_:=Aside0.mk (below_step (by repeat (first|(with_reducible first|exact HB.out|apply below_alloc|apply pw_below_drewN|apply below_drew1)|exact HB.out)) hb); have n1_:=Aside0.mk (hbox); have n2_:=Aside0.mk ((by rw [hg]; exact (below_size (by repeat (first|(with_reducible first|exact HB.out|apply below_alloc|apply pw_below_drewN|apply below_drew1)|exact HB.out))):w.heap.size≤gb147)); have n3_:=Aside0.mk ((by rw [hg]; exact (below_size (by repeat (first|(with_reducible first|exact HB.out|apply below_alloc|apply pw_below_drewN|apply below_drew1)|exact HB.out))):w.heap.size≤gb147)); clear HB; have HB:=n0_; have BK147:=n1_; have GW147:=n2_; have GE147:=n3_; clear n0_ n1_ n2_ n3_; clear hb hbox hg)|((with_reducible refine gate_callee (f:=39) rfl ?_); refine goesL_ (some 10) rfl rfl Tryd.func39 (by kernel_rfl) rfl #[.int .u64 a1] rfl (by (try simp only [List.map_toArray,List.map_cons,List.map_nil]); first|done|rfl|(simp only [List.length_drop,List.length_take]; rfl)) ?_; (with_reducible refine (isthmusref01_Parts.calls a1 t148 t149 t150 _ A3.out).mono ?_); rintro e w' ⟨rfl,⟨nd,rfl⟩⟩; refine ⟨_,rfl,?_⟩; have hcz27_0:w26.cell? ⟨gb147,0,none⟩=some (.slice A0_0 l0_0.length c0_0):=(blk_cell BK147.out 0).trans rfl; have hcz27_1:w26.cell? ⟨gb147,1,none⟩=some (.slice A0_1 l0_1.length c0_1):=(blk_cell BK147.out 1).trans rfl; have hcz27_2:w26.cell? ⟨gb147,2,none⟩=some (.slice A0_2 l0_2.length c0_2):=(blk_cell BK147.out 2).trans rfl; have hcz27_3:w26.cell? ⟨gb147,3,none⟩=some (.slice A0_3 l0_3.length c0_3):=(blk_cell BK147.out 3).trans rfl; have hfz27_0:=blk_frozen BK147.out 0; have hfz27_1:=blk_frozen BK147.out 1; have hfz27_2:=blk_frozen BK147.out 2; have hfz27_3:=blk_frozen BK147.out 3)|((with_reducible refine gate_callee (f:=76) rfl ?_); refine goesL_ (some 47) rfl rfl Tryd.func76 (by kernel_rfl) rfl #[.int .i64 t149,.int .i64 (l0_1.length:Int)] rfl (by (try simp only [List.map_toArray,List.map_cons,List.map_nil]); first|done|rfl|(simp only [List.length_drop,List.length_take]; rfl)) ?_; (with_reducible refine (isthmusref18_within.calls t149 (l0_1.length:Int) true _ A21.out).mono ?_); rintro e w' ⟨rfl,⟨nd,rfl⟩⟩; refine ⟨_,rfl,?_⟩; have p155:0≤(t149:Int):=of_decide_eq_true (by first|(with_reducible assumption)|assumption); have q155:t149 < (l0_1.length:Int):=of_decide_eq_true (by first|(with_reducible assumption)|assumption); obtain ⟨ad155,e155,hx155_0⟩:=Kd.at_int HR0_1.out t149 p155 q155; cases e155; replace hx155_0:=(HB.out.cell (World.block_lt_of_cell? w _ hx155_0)).trans hx155_0; replace p155:=eq_true p155; replace q155:=eq_true q155))
       go_ret
       exact ⟨by first|rfl|(simp [errW_none,errW_some]<;>rfl)|(simp [*,errW_none,errW_some]<;>rfl),by repeat (first|(with_reducible first|exact HB.out|apply below_alloc|apply pw_below_drewN|apply below_drew1|refine below_set ?_ GE147.out)|exact HB.out)⟩
      ·rw [if_neg c25] at H
       have c25b0:decide (0≤(rd l0_1 t149))=false:=decide_eq_false c25
       clear c25
       obtain rfl:=Option.some.inj H
       go_enter Tryd.func38,Tryd.ntmps38
       go_wp2_with (first|((with_reducible refine gate_dst (N:=2) rfl ?_); refine box_event ?hg (N:=2) ?hd (cs:=#[.slice A0_0 l0_0.length c0_0,.slice A0_1 l0_1.length c0_1,.slice A0_2 l0_2.length c0_2,.slice A0_3 l0_3.length c0_3]) (t:=26) ?hr ?_; (case hd=>rfl); (case hg=>rfl); (case hr=>first|(go_simp; done)|(go_simp; rfl)); intro gb147 hg w28 hbox hb; have n0_:=Aside0.mk (below_step (by repeat (first|(with_reducible first|exact HB.out|apply below_alloc|apply pw_below_drewN|apply below_drew1)|exact HB.out)) hb); have n1_:=Aside0.mk (hbox); have n2_:=Aside0.mk ((by rw [hg]; exact (below_size (by repeat (first|(with_reducible first|exact HB.out|apply below_alloc|apply pw_below_drewN|apply below_drew1)|exact HB.out))):w.heap.size≤gb147)); have n3_:=Aside0.mk ((by rw [hg]; exact (below_size (by repeat (first|(with_reducible first|exact HB.out|apply below_alloc|apply pw_below_drewN|apply below_drew1)|exact HB.out))):w.heap.size≤gb147)); clear HB; have HB:=n0_; have BK147:=n1_; have GW147:=n2_; have GE147:=n3_; clear n0_ n1_ n2_ n3_; clear hb hbox hg)|((with_reducible refine gate_callee (f:=39) rfl ?_); refine goesL_ (some 10) rfl rfl Tryd.func39 (by kernel_rfl) rfl #[.int .u64 a1] rfl (by (try simp only [List.map_toArray,List.map_cons,List.map_nil]); first|done|rfl|(simp only [List.length_drop,List.length_take]; rfl)) ?_; (with_reducible refine (isthmusref01_Parts.calls a1 t148 t149 t150 _ A3.out).mono ?_); rintro e w' ⟨rfl,⟨nd,rfl⟩⟩; refine ⟨_,rfl,?_⟩; have hcz29_0:w28.cell? ⟨gb147,0,none⟩=some (.slice A0_0 l0_0.length c0_0):=(blk_cell BK147.out 0).trans rfl; have hcz29_1:w28.cell? ⟨gb147,1,none⟩=some (.slice A0_1 l0_1.length c0_1):=(blk_cell BK147.out 1).trans rfl; have hcz29_2:w28.cell? ⟨gb147,2,none⟩=some (.slice A0_2 l0_2.length c0_2):=(blk_cell BK147.out 2).trans rfl; have hcz29_3:w28.cell? ⟨gb147,3,none⟩=some (.slice A0_3 l0_3.length c0_3):=(blk_cell BK147.out 3).trans rfl; have hfz29_0:=blk_frozen BK147.out 0; have hfz29_1:=blk_frozen BK147.out 1; have hfz29_2:=blk_frozen BK147.out 2; have hfz29_3:=blk_frozen BK147.out 3)|((with_reducible refine gate_callee (f:=76) rfl ?_); refine goesL_ (some 47) rfl rfl Tryd.func76 (by kernel_rfl) rfl #[.int .i64 t149,.int .i64 (l0_1.length:Int)] rfl (by (try simp only [List.map_toArray,List.map_cons,List.map_nil]); first|done|rfl|(simp only [List.length_drop,List.length_take]; rfl)) ?_; (with_reducible refine (isthmusref18_within.calls t149 (l0_1.length:Int) true _ A21.out).mono ?_); rintro e w' ⟨rfl,⟨nd,rfl⟩⟩; refine ⟨_,rfl,?_⟩; have p155:0≤(t149:Int):=of_decide_eq_true (by first|(with_reducible assumption)|assumption); have q155:t149 < (l0_1.length:Int):=of_decide_eq_true (by first|(with_reducible assumption)|assumption); obtain ⟨ad155,e155,hx155_0⟩:=Kd.at_int HR0_1.out t149 p155 q155; cases e155; replace hx155_0:=(HB.out.cell (World.block_lt_of_cell? w _ hx155_0)).trans hx155_0; replace p155:=eq_true p155; replace q155:=eq_true q155))
       go_ret
       exact ⟨by first|rfl|(simp [errW_none,errW_some]<;>rfl)|(simp [*,errW_none,errW_some]<;>rfl),by repeat (first|(with_reducible first|exact HB.out|apply below_alloc|apply pw_below_drewN|apply below_drew1|refine below_set ?_ GE147.out)|exact HB.out)⟩
     ·rw [if_neg c24] at H
      exact absurd H (by simp)
    ·rw [if_neg c23] at H
     exact absurd H (by simp)
   ·replace c22:=Bool.eq_false_iff.mpr c22
    subst c22
    have H1:(some false)=some r:=by rw [if_neg (show ¬ (false=true) by decide)] at H; exact H
    clear H
    have H:=H1
    clear H1
    obtain rfl:=Option.some.inj H
    go_enter Tryd.func38,Tryd.ntmps38
    go_wp2_with (first|((with_reducible refine gate_dst (N:=2) rfl ?_); refine box_event ?hg (N:=2) ?hd (cs:=#[.slice A0_0 l0_0.length c0_0,.slice A0_1 l0_1.length c0_1,.slice A0_2 l0_2.length c0_2,.slice A0_3 l0_3.length c0_3]) (t:=26) ?hr ?_; (case hd=>rfl); (case hg=>rfl); (case hr=>first|(go_simp; done)|(go_simp; rfl)); intro gb147 hg w30 hbox hb; have n0_:=Aside0.mk (below_step (by repeat (first|(with_reducible first|exact HB.out|apply below_alloc|apply pw_below_drewN|apply below_drew1)|exact HB.out)) hb); have n1_:=Aside0.mk (hbox); have n2_:=Aside0.mk ((by rw [hg]; exact (below_size (by repeat (first|(with_reducible first|exact HB.out|apply below_alloc|apply pw_below_drewN|apply below_drew1)|exact HB.out))):w.heap.size≤gb147)); have n3_:=Aside0.mk ((by rw [hg]; exact (below_size (by repeat (first|(with_reducible first|exact HB.out|apply below_alloc|apply pw_below_drewN|apply below_drew1)|exact HB.out))):w.heap.size≤gb147)); clear HB; have HB:=n0_; have BK147:=n1_; have GW147:=n2_; have GE147:=n3_; clear n0_ n1_ n2_ n3_; clear hb hbox hg)|((with_reducible refine gate_callee (f:=39) rfl ?_); refine goesL_ (some 10) rfl rfl Tryd.func39 (by kernel_rfl) rfl #[.int .u64 a1] rfl (by (try simp only [List.map_toArray,List.map_cons,List.map_nil]); first|done|rfl|(simp only [List.length_drop,List.length_take]; rfl)) ?_; (with_reducible refine (isthmusref01_Parts.calls a1 t148 t149 t150 _ A3.out).mono ?_); rintro e w' ⟨rfl,⟨nd,rfl⟩⟩; refine ⟨_,rfl,?_⟩; have hcz31_0:w30.cell? ⟨gb147,0,none⟩=some (.slice A0_0 l0_0.length c0_0):=(blk_cell BK147.out 0).trans rfl; have hcz31_1:w30.cell? ⟨gb147,1,none⟩=some (.slice A0_1 l0_1.length c0_1):=(blk_cell BK147.out 1).trans rfl; have hcz31_2:w30.cell? ⟨gb147,2,none⟩=some (.slice A0_2 l0_2.length c0_2):=(blk_cell BK147.out 2).trans rfl; have hcz31_3:w30.cell? ⟨gb147,3,none⟩=some (.slice A0_3 l0_3.length c0_3):=(blk_cell BK147.out 3).trans rfl; have hfz31_0:=blk_frozen BK147.out 0; have hfz31_1:=blk_frozen BK147.out 1; have hfz31_2:=blk_frozen BK147.out 2; have hfz31_3:=blk_frozen BK147.out 3)|((with_reducible refine gate_callee (f:=76) rfl ?_); refine goesL_ (some 47) rfl rfl Tryd.func76 (by kernel_rfl) rfl #[.int .i64 t149,.int .i64 (l0_1.length:Int)] rfl (by (try simp only [List.map_toArray,List.map_cons,List.map_nil]); first|done|rfl|(simp only [List.length_drop,List.length_take]; rfl)) ?_; (with_reducible refine (isthmusref18_within.calls t149 (l0_1.length:Int) false _ A21.out).mono ?_); rintro e w' ⟨rfl,⟨nd,rfl⟩⟩; refine ⟨_,rfl,?_⟩))
    go_ret
    exact ⟨by first|rfl|(simp [errW_none,errW_some]<;>rfl)|(simp [*,errW_none,errW_some]<;>rfl),by repeat (first|(with_reducible first|exact HB.out|apply below_alloc|apply pw_below_drewN|apply below_drew1|refine below_set ?_ GE147.out)|exact HB.out)⟩
  ·rw [if_neg c20] at H
   have c20b0:(t148 == 2)=false:=beq_eq_false_iff_ne.mpr c20
   have c20b1:(t148 != 2)=true:=bne_iff_ne.mpr c20
   by_cases c32:t148=3
   ·rw [if_pos c32] at H
    have c32b0:(t148 == 3)=true:=beq_iff_eq.mpr c32
    have c32b1:(t148 != 3)=false:=bne_eq_false_iff_eq.mpr c32
    clear c32
    by_cases c33:t149≤3
    ·rw [if_pos c33] at H
     have c33b0:decide (t149≤3)=true:=decide_eq_true c33
     clear c33
     obtain rfl:=Option.some.inj H
     go_enter Tryd.func38,Tryd.ntmps38
     go_wp2_with (first|((with_reducible refine gate_dst (N:=2) rfl ?_); refine box_event ?hg (N:=2) ?hd (cs:=#[.slice A0_0 l0_0.length c0_0,.slice A0_1 l0_1.length c0_1,.slice A0_2 l0_2.length c0_2,.slice A0_3 l0_3.length c0_3]) (t:=26) ?hr ?_; (case hd=>rfl); (case hg=>rfl); (case hr=>first|(go_simp; done)|(go_simp; rfl)); intro gb147 hg w34 hbox hb; have n0_:=Aside0.mk (below_step (by repeat (first|(with_reducible first|exact HB.out|apply below_alloc|apply pw_below_drewN|apply below_drew1)|exact HB.out)) hb); have n1_:=Aside0.mk (hbox); have n2_:=Aside0.mk ((by rw [hg]; exact (below_size (by repeat (first|(with_reducible first|exact HB.out|apply below_alloc|apply pw_below_drewN|apply below_drew1)|exact HB.out))):w.heap.size≤gb147)); have n3_:=Aside0.mk ((by rw [hg]; exact (below_size (by repeat (first|(with_reducible first|exact HB.out|apply below_alloc|apply pw_below_drewN|apply below_drew1)|exact HB.out))):w.heap.size≤gb147)); clear HB; have HB:=n0_; have BK147:=n1_; have GW147:=n2_; have GE147:=n3_; clear n0_ n1_ n2_ n3_; clear hb hbox hg)|((with_reducible refine gate_callee (f:=39) rfl ?_); refine goesL_ (some 10) rfl rfl Tryd.func39 (by kernel_rfl) rfl #[.int .u64 a1] rfl (by (try simp only [List.map_toArray,List.map_cons,List.map_nil]); first|done|rfl|(simp only [List.length_drop,List.length_take]; rfl)) ?_; (with_reducible refine (isthmusref01_Parts.calls a1 t148 t149 t150 _ A3.out).mono ?_); rintro e w' ⟨rfl,⟨nd,rfl⟩⟩; refine ⟨_,rfl,?_⟩))
     go_ret
     exact ⟨by first|rfl|(simp [errW_none,errW_some]<;>rfl)|(simp [*,errW_none,errW_some]<;>rfl),by repeat (first|(with_reducible first|exact HB.out|apply below_alloc|apply pw_below_drewN|apply below_drew1|refine below_set ?_ GE147.out)|exact HB.out)⟩
    ·rw [if_neg c33] at H
     have c33b0:decide (t149≤3)=false:=decide_eq_false c33
     clear c33
     obtain rfl:=Option.some.inj H
     go_enter Tryd.func38,Tryd.ntmps38
     go_wp2_with (first|((with_reducible refine gate_dst (N:=2) rfl ?_); refine box_event ?hg (N:=2) ?hd (cs:=#[.slice A0_0 l0_0.length c0_0,.slice A0_1 l0_1.length c0_1,.slice A0_2 l0_2.length c0_2,.slice A0_3 l0_3.length c0_3]) (t:=26) ?hr ?_; (case hd=>rfl); (case hg=>rfl); (case hr=>first|(go_simp; done)|(go_simp; rfl)); intro gb147 hg w35 hbox hb; have n0_:=Aside0.mk (below_step (by repeat (first|(with_reducible first|exact HB.out|apply below_alloc|apply pw_below_drewN|apply below_drew1)|exact HB.out)) hb); have n1_:=Aside0.mk (hbox); have n2_:=Aside0.mk ((by rw [hg]; exact (below_size (by repeat (first|(with_reducible first|exact HB.out|apply below_alloc|apply pw_below_drewN|apply below_drew1)|exact HB.out))):w.heap.size≤gb147)); have n3_:=Aside0.mk ((by rw [hg]; exact (below_size (by repeat (first|(with_reducible first|exact HB.out|apply below_alloc|apply pw_below_drewN|apply below_drew1)|exact HB.out))):w.heap.size≤gb147)); clear HB; have HB:=n0_; have BK147:=n1_; have GW147:=n2_; have GE147:=n3_; clear n0_ n1_ n2_ n3_; clear hb hbox hg)|((with_reducible refine gate_callee (f:=39) rfl ?_); refine goesL_ (some 10) rfl rfl Tryd.func39 (by kernel_rfl) rfl #[.int .u64 a1] rfl (by (try simp only [List.map_toArray,List.map_cons,List.map_nil]); first|done|rfl|(simp only [List.length_drop,List.length_take]; rfl)) ?_; (with_reducible refine (isthmusref01_Parts.calls a1 t148 t149 t150 _ A3.out).mono ?_); rintro e w' ⟨rfl,⟨nd,rfl⟩⟩; refine ⟨_,rfl,?_⟩))
     go_ret
     exact ⟨by first|rfl|(simp [errW_none,errW_some]<;>rfl)|(simp [*,errW_none,errW_some]<;>rfl),by repeat (first|(with_reducible first|exact HB.out|apply below_alloc|apply pw_below_drewN|apply below_drew1|refine below_set ?_ GE147.out)|exact HB.out)⟩
   ·rw [if_neg c32] at H
    have c32b0:(t148 == 3)=false:=beq_eq_false_iff_ne.mpr c32
    have c32b1:(t148 != 3)=true:=bne_iff_ne.mpr c32
    by_cases c36:t148=11
    ·rw [if_pos c36] at H
     have c36b0:(t148 == 11)=true:=beq_iff_eq.mpr c36
     have c36b1:(t148 != 11)=false:=bne_eq_false_iff_eq.mpr c36
     clear c36
     by_cases c37:t149=0
     ·rw [if_pos c37] at H
      have c37b0:(t149 == 0)=true:=beq_iff_eq.mpr c37
      have c37b1:(t149 != 0)=false:=bne_eq_false_iff_eq.mpr c37
      clear c37
      replace H:=Option.bind_eq_some_iff.mp H
      obtain ⟨t156,A380,H⟩:=H
      replace H:(some t156)=some r:=H
      have A38:=Aside0.mk A380
      clear A380
      obtain rfl:=Option.some.inj H
      go_enter Tryd.func38,Tryd.ntmps38
      go_wp2_with (first|((with_reducible refine gate_dst (N:=2) rfl ?_); refine box_event ?hg (N:=2) ?hd (cs:=#[.slice A0_0 l0_0.length c0_0,.slice A0_1 l0_1.length c0_1,.slice A0_2 l0_2.length c0_2,.slice A0_3 l0_3.length c0_3]) (t:=26) ?hr ?_; (case hd=>rfl); (case hg=>rfl); (case hr=>first|(go_simp; done)|(go_simp; rfl)); intro gb147 hg w39 hbox hb; have n0_:=Aside0.mk (below_step (by repeat (first|(with_reducible first|exact HB.out|apply below_alloc|apply pw_below_drewN|apply below_drew1)|exact HB.out)) hb); have n1_:=Aside0.mk (hbox); have n2_:=Aside0.mk ((by rw [hg]; exact (below_size (by repeat (first|(with_reducible first|exact HB.out|apply below_alloc|apply pw_below_drewN|apply below_drew1)|exact HB.out))):w.heap.size≤gb147)); have n3_:=Aside0.mk ((by rw [hg]; exact (below_size (by repeat (first|(with_reducible first|exact HB.out|apply below_alloc|apply pw_below_drewN|apply below_drew1)|exact HB.out))):w.heap.size≤gb147)); clear HB; have HB:=n0_; have BK147:=n1_; have GW147:=n2_; have GE147:=n3_; clear n0_ n1_ n2_ n3_; clear hb hbox hg)|((with_reducible refine gate_callee (f:=39) rfl ?_); refine goesL_ (some 10) rfl rfl Tryd.func39 (by kernel_rfl) rfl #[.int .u64 a1] rfl (by (try simp only [List.map_toArray,List.map_cons,List.map_nil]); first|done|rfl|(simp only [List.length_drop,List.length_take]; rfl)) ?_; (with_reducible refine (isthmusref01_Parts.calls a1 t148 t149 t150 _ A3.out).mono ?_); rintro e w' ⟨rfl,⟨nd,rfl⟩⟩; refine ⟨_,rfl,?_⟩)|(go_at_call 37; (with_reducible refine (isthmusref18_kind.calls t150 t156 _ A38.out).mono ?_); rintro e w' ⟨rfl,⟨nd,rfl⟩⟩))
      go_ret
      exact ⟨by first|rfl|(simp [errW_none,errW_some]<;>rfl)|(simp [*,errW_none,errW_some]<;>rfl),by repeat (first|(with_reducible first|exact HB.out|apply below_alloc|apply pw_below_drewN|apply below_drew1|refine below_set ?_ GE147.out)|exact HB.out)⟩
     ·rw [if_neg c37] at H
      have c37b0:(t149 == 0)=false:=beq_eq_false_iff_ne.mpr c37
      have c37b1:(t149 != 0)=true:=bne_iff_ne.mpr c37
      obtain rfl:=Option.some.inj H
      go_enter Tryd.func38,Tryd.ntmps38
      go_wp2_with (first|((with_reducible refine gate_dst (N:=2) rfl ?_); refine box_event ?hg (N:=2) ?hd (cs:=#[.slice A0_0 l0_0.length c0_0,.slice A0_1 l0_1.length c0_1,.slice A0_2 l0_2.length c0_2,.slice A0_3 l0_3.length c0_3]) (t:=26) ?hr ?_; (case hd=>rfl); (case hg=>rfl); (case hr=>first|(go_simp; done)|(go_simp; rfl)); intro gb147 hg w40 hbox hb; have n0_:=Aside0.mk (below_step (by repeat (first|(with_reducible first|exact HB.out|apply below_alloc|apply pw_below_drewN|apply below_drew1)|exact HB.out)) hb); have n1_:=Aside0.mk (hbox); have n2_:=Aside0.mk ((by rw [hg]; exact (below_size (by repeat (first|(with_reducible first|exact HB.out|apply below_alloc|apply pw_below_drewN|apply below_drew1)|exact HB.out))):w.heap.size≤gb147)); have n3_:=Aside0.mk ((by rw [hg]; exact (below_size (by repeat (first|(with_reducible first|exact HB.out|apply below_alloc|apply pw_below_drewN|apply below_drew1)|exact HB.out))):w.heap.size≤gb147)); clear HB; have HB:=n0_; have BK147:=n1_; have GW147:=n2_; have GE147:=n3_; clear n0_ n1_ n2_ n3_; clear hb hbox hg)|((with_reducible refine gate_callee (f:=39) rfl ?_); refine goesL_ (some 10) rfl rfl Tryd.func39 (by kernel_rfl) rfl #[.int .u64 a1] rfl (by (try simp only [List.map_toArray,List.map_cons,List.map_nil]); first|done|rfl|(simp only [List.length_drop,List.length_take]; rfl)) ?_; (with_reducible refine (isthmusref01_Parts.calls a1 t148 t149 t150 _ A3.out).mono ?_); rintro e w' ⟨rfl,⟨nd,rfl⟩⟩; refine ⟨_,rfl,?_⟩))
      go_ret
      exact ⟨by first|rfl|(simp [errW_none,errW_some]<;>rfl)|(simp [*,errW_none,errW_some]<;>rfl),by repeat (first|(with_reducible first|exact HB.out|apply below_alloc|apply pw_below_drewN|apply below_drew1|refine below_set ?_ GE147.out)|exact HB.out)⟩
    ·rw [if_neg c36] at H
     have c36b0:(t148 == 11)=false:=beq_eq_false_iff_ne.mpr c36
     have c36b1:(t148 != 11)=true:=bne_iff_ne.mpr c36
     by_cases c41:t148=12
     ·rw [if_pos c41] at H
      have c41b0:(t148 == 12)=true:=beq_iff_eq.mpr c41
      have c41b1:(t148 != 12)=false:=bne_eq_false_iff_eq.mpr c41
      clear c41
      by_cases c42:t149=0
      ·rw [if_pos c42] at H
       have c42b0:(t149 == 0)=true:=beq_iff_eq.mpr c42
       have c42b1:(t149 != 0)=false:=bne_eq_false_iff_eq.mpr c42
       clear c42
       obtain rfl:=Option.some.inj H
       go_enter Tryd.func38,Tryd.ntmps38
       go_wp2_with (first|((with_reducible refine gate_dst (N:=2) rfl ?_); refine box_event ?hg (N:=2) ?hd (cs:=#[.slice A0_0 l0_0.length c0_0,.slice A0_1 l0_1.length c0_1,.slice A0_2 l0_2.length c0_2,.slice A0_3 l0_3.length c0_3]) (t:=26) ?hr ?_; (case hd=>rfl); (case hg=>rfl); (case hr=>first|(go_simp; done)|(go_simp; rfl)); intro gb147 hg w43 hbox hb; have n0_:=Aside0.mk (below_step (by repeat (first|(with_reducible first|exact HB.out|apply below_alloc|apply pw_below_drewN|apply below_drew1)|exact HB.out)) hb); have n1_:=Aside0.mk (hbox); have n2_:=Aside0.mk ((by rw [hg]; exact (below_size (by repeat (first|(with_reducible first|exact HB.out|apply below_alloc|apply pw_below_drewN|apply below_drew1)|exact HB.out))):w.heap.size≤gb147)); have n3_:=Aside0.mk ((by rw [hg]; exact (below_size (by repeat (first|(with_reducible first|exact HB.out|apply below_alloc|apply pw_below_drewN|apply below_drew1)|exact HB.out))):w.heap.size≤gb147)); clear HB; have HB:=n0_; have BK147:=n1_; have GW147:=n2_; have GE147:=n3_; clear n0_ n1_ n2_ n3_; clear hb hbox hg)|((with_reducible refine gate_callee (f:=39) rfl ?_); refine goesL_ (some 10) rfl rfl Tryd.func39 (by kernel_rfl) rfl #[.int .u64 a1] rfl (by (try simp only [List.map_toArray,List.map_cons,List.map_nil]); first|done|rfl|(simp only [List.length_drop,List.length_take]; rfl)) ?_; (with_reducible refine (isthmusref01_Parts.calls a1 t148 t149 t150 _ A3.out).mono ?_); rintro e w' ⟨rfl,⟨nd,rfl⟩⟩; refine ⟨_,rfl,?_⟩))
       go_ret
       exact ⟨by first|rfl|(simp [errW_none,errW_some]<;>rfl)|(simp [*,errW_none,errW_some]<;>rfl),by repeat (first|(with_reducible first|exact HB.out|apply below_alloc|apply pw_below_drewN|apply below_drew1|refine below_set ?_ GE147.out)|exact HB.out)⟩
      ·rw [if_neg c42] at H
       have c42b0:(t149 == 0)=false:=beq_eq_false_iff_ne.mpr c42
       have c42b1:(t149 != 0)=true:=bne_iff_ne.mpr c42
       obtain rfl:=Option.some.inj H
       go_enter Tryd.func38,Tryd.ntmps38
       go_wp2_with (first|((with_reducible refine gate_dst (N:=2) rfl ?_); refine box_event ?hg (N:=2) ?hd (cs:=#[.slice A0_0 l0_0.length c0_0,.slice A0_1 l0_1.length c0_1,.slice A0_2 l0_2.length c0_2,.slice A0_3 l0_3.length c0_3]) (t:=26) ?hr ?_; (case hd=>rfl); (case hg=>rfl); (case hr=>first|(go_simp; done)|(go_simp; rfl)); intro gb147 hg w44 hbox hb; have n0_:=Aside0.mk (below_step (by repeat (first|(with_reducible first|exact HB.out|apply below_alloc|apply pw_below_drewN|apply below_drew1)|exact HB.out)) hb); have n1_:=Aside0.mk (hbox); have n2_:=Aside0.mk ((by rw [hg]; exact (below_size (by repeat (first|(with_reducible first|exact HB.out|apply below_alloc|apply pw_below_drewN|apply below_drew1)|exact HB.out))):w.heap.size≤gb147)); have n3_:=Aside0.mk ((by rw [hg]; exact (below_size (by repeat (first|(with_reducible first|exact HB.out|apply below_alloc|apply pw_below_drewN|apply below_drew1)|exact HB.out))):w.heap.size≤gb147)); clear HB; have HB:=n0_; have BK147:=n1_; have GW147:=n2_; have GE147:=n3_; clear n0_ n1_ n2_ n3_; clear hb hbox hg)|((with_reducible refine gate_callee (f:=39) rfl ?_); refine goesL_ (some 10) rfl rfl Tryd.func39 (by kernel_rfl) rfl #[.int .u64 a1] rfl (by (try simp only [List.map_toArray,List.map_cons,List.map_nil]); first|done|rfl|(simp only [List.length_drop,List.length_take]; rfl)) ?_; (with_reducible refine (isthmusref01_Parts.calls a1 t148 t149 t150 _ A3.out).mono ?_); rintro e w' ⟨rfl,⟨nd,rfl⟩⟩; refine ⟨_,rfl,?_⟩))
       go_ret
       exact ⟨by first|rfl|(simp [errW_none,errW_some]<;>rfl)|(simp [*,errW_none,errW_some]<;>rfl),by repeat (first|(with_reducible first|exact HB.out|apply below_alloc|apply pw_below_drewN|apply below_drew1|refine below_set ?_ GE147.out)|exact HB.out)⟩
     ·rw [if_neg c41] at H
      have c41b0:(t148 == 12)=false:=beq_eq_false_iff_ne.mpr c41
      have c41b1:(t148 != 12)=true:=bne_iff_ne.mpr c41
      have HC45:=Aside0.mk H
      clear H
      go_enter Tryd.func38,Tryd.ntmps38
      go_upto_if 84 with (first|((with_reducible refine gate_dst (N:=2) rfl ?_); refine box_event ?hg (N:=2) ?hd (cs:=#[.slice A0_0 l0_0.length c0_0,.slice A0_1 l0_1.length c0_1,.slice A0_2 l0_2.length c0_2,.slice A0_3 l0_3.length c0_3]) (t:=26) ?hr ?_; (case hd=>rfl); (case hg=>rfl); (case hr=>first|(go_simp; done)|(go_simp; rfl)); intro gb147 hg w46 hbox hb; have n0_:=Aside0.mk (below_step (by repeat (first|(with_reducible first|exact HB.out|apply below_alloc|apply pw_below_drewN|apply below_drew1)|exact HB.out)) hb); have n1_:=Aside0.mk (hbox); have n2_:=Aside0.mk ((by rw [hg]; exact (below_size (by repeat (first|(with_reducible first|exact HB.out|apply below_alloc|apply pw_below_drewN|apply below_drew1)|exact HB.out))):w.heap.size≤gb147)); have n3_:=Aside0.mk ((by rw [hg]; exact (below_size (by repeat (first|(with_reducible first|exact HB.out|apply below_alloc|apply pw_below_drewN|apply below_drew1)|exact HB.out))):w.heap.size≤gb147)); clear HB; have HB:=n0_; have BK147:=n1_; have GW147:=n2_; have GE147:=n3_; clear n0_ n1_ n2_ n3_; clear hb hbox hg)|((with_reducible refine gate_callee (f:=39) rfl ?_); refine goesL_ (some 10) rfl rfl Tryd.func39 (by kernel_rfl) rfl #[.int .u64 a1] rfl (by (try simp only [List.map_toArray,List.map_cons,List.map_nil]); first|done|rfl|(simp only [List.length_drop,List.length_take]; rfl)) ?_; (with_reducible refine (isthmusref01_Parts.calls a1 t148 t149 t150 _ A3.out).mono ?_); rintro e w' ⟨rfl,⟨nd,rfl⟩⟩; refine ⟨_,rfl,?_⟩))
      (try simp only [Act.put,List.setIfInBounds_toArray,List.set_cons_zero,List.set_cons_succ])
      go_cut [84] (fun v84 wc=>∃ (kq:Nat) (x84_44:Bool),v84=.bool x84_44∧Aside0 (isthmusref18_word.j0 kq t148 t149 t150 t148 x84_44 l0_0 l0_1 l0_2 l0_3=some r)∧Aside0 (kq≤k)∧Aside0 (wc.heap[gb147]? = some (.cells #[(.slice A0_0 l0_0.length c0_0),(.slice A0_1 l0_1.length c0_1),(.slice A0_2 l0_2.length c0_2),(.slice A0_3 l0_3.length c0_3)] 26 (0,0)))∧Aside0 (Below w.heap.size w wc))
      case first =>
       have H:=HC45.out
       clear HC45
       by_cases c47:t148=13
       ·rw [if_pos c47] at H
        have c47b0:(t148 == 13)=true:=beq_iff_eq.mpr c47
        have c47b1:(t148 != 13)=false:=bne_eq_false_iff_eq.mpr c47
        clear c47
        (first|rw [c47b0]|(simp only [i64_w,i32_w]; rw [c47b0])|skip)
        have H':=Aside0.mk H
        clear H
        go_wp2
        go_meet
        case rel=>exact ⟨_,((t148 == 13)),(by first|rfl|(simp; done)|(simp [*]; done)),H',⟨by first|omega|exact Nat.le_refl _⟩,⟨by (with_reducible repeat (first|refine blk_drewN ?_ _|refine blk_drew ?_|refine blk_alloc ?_ _)); exact BK147.out⟩,⟨by repeat (first|(with_reducible first|exact HB.out|apply below_alloc|apply pw_below_drewN|apply below_drew1|refine below_set ?_ GE147.out)|exact HB.out)⟩⟩
       ·rw [if_neg c47] at H
        have c47b0:(t148 == 13)=false:=beq_eq_false_iff_ne.mpr c47
        have c47b1:(t148 != 13)=true:=bne_iff_ne.mpr c47
        (first|rw [c47b0]|(simp only [i64_w,i32_w]; rw [c47b0])|skip)
        by_cases c48:t148=14
        ·rw [if_pos c48] at H
         have c48b0:(t148 == 14)=true:=beq_iff_eq.mpr c48
         have c48b1:(t148 != 14)=false:=bne_eq_false_iff_eq.mpr c48
         clear c48
         have H':=Aside0.mk H
         clear H
         go_wp2
         go_meet
         case rel=>exact ⟨_,((t148 == 14)),(by first|rfl|(simp; done)|(simp [*]; done)),H',⟨by first|omega|exact Nat.le_refl _⟩,⟨by (with_reducible repeat (first|refine blk_drewN ?_ _|refine blk_drew ?_|refine blk_alloc ?_ _)); exact BK147.out⟩,⟨by repeat (first|(with_reducible first|exact HB.out|apply below_alloc|apply pw_below_drewN|apply below_drew1|refine below_set ?_ GE147.out)|exact HB.out)⟩⟩
        ·rw [if_neg c48] at H
         have c48b0:(t148 == 14)=false:=beq_eq_false_iff_ne.mpr c48
         have c48b1:(t148 != 14)=true:=bne_iff_ne.mpr c48
         by_cases c49:t148=15
         ·rw [if_pos c49] at H
          have c49b0:(t148 == 15)=true:=beq_iff_eq.mpr c49
          have c49b1:(t148 != 15)=false:=bne_eq_false_iff_eq.mpr c49
          clear c49
          have H':=Aside0.mk H
          clear H
          go_wp2
          go_meet
          case rel=>exact ⟨_,((t148 == 15)),(by first|rfl|(simp; done)|(simp [*]; done)),H',⟨by first|omega|exact Nat.le_refl _⟩,⟨by (with_reducible repeat (first|refine blk_drewN ?_ _|refine blk_drew ?_|refine blk_alloc ?_ _)); exact BK147.out⟩,⟨by repeat (first|(with_reducible first|exact HB.out|apply below_alloc|apply pw_below_drewN|apply below_drew1|refine below_set ?_ GE147.out)|exact HB.out)⟩⟩
         ·rw [if_neg c49] at H
          have c49b0:(t148 == 15)=false:=beq_eq_false_iff_ne.mpr c49
          have c49b1:(t148 != 15)=true:=bne_iff_ne.mpr c49
          have H':=Aside0.mk H
          clear H
          go_wp2
          go_meet
          case rel=>exact ⟨_,((t148 == 24)),(by first|rfl|(simp; done)|(simp [*]; done)),H',⟨by first|omega|exact Nat.le_refl _⟩,⟨by (with_reducible repeat (first|refine blk_drewN ?_ _|refine blk_drew ?_|refine blk_alloc ?_ _)); exact BK147.out⟩,⟨by repeat (first|(with_reducible first|exact HB.out|apply below_alloc|apply pw_below_drewN|apply below_drew1|refine below_set ?_ GE147.out)|exact HB.out)⟩⟩
      case rest =>
       clear HC45
       try clear c1
       try clear p1
       try clear q1
       try clear hx1
       try clear c2
       try clear p2
       try clear c3
       try clear c4
       try clear c4b0
       try clear c4b1
       try clear c6
       try clear c7
       try clear c7b0
       try clear c7b1
       try clear c10
       try clear c10b0
       try clear c10b1
       try clear c11
       try clear c11b0
       try clear c12
       try clear c12b0
       try clear p15
       try clear q15
       try clear hx15
       try clear c20
       try clear c20b0
       try clear c20b1
       try clear c22
       try clear c23
       try clear c23b0
       try clear c24
       try clear c24b0
       try clear c25
       try clear c25b0
       try clear c32
       try clear c32b0
       try clear c32b1
       try clear c33
       try clear c33b0
       try clear c36
       try clear c36b0
       try clear c36b1
       try clear c37
       try clear c37b0
       try clear c37b1
       try clear c38
       try clear c39
       try clear c41
       try clear c41b0
       try clear c41b1
       try clear c42
       try clear c42b0
       try clear c42b1
       try clear c47
       try clear c47b0
       try clear c47b1
       try clear c48
       try clear c48b0
       try clear c48b1
       try clear c49
       try clear c49b0
       try clear c49b1
       try clear hcz15_0
       try clear hcz15_1
       try clear hcz15_2
       try clear hcz15_3
       try clear hcz17_0
       try clear hcz17_1
       try clear hcz17_2
       try clear hcz17_3
       try clear hcz19_0
       try clear hcz19_1
       try clear hcz19_2
       try clear hcz19_3
       try clear hcz27_0
       try clear hcz27_1
       try clear hcz27_2
       try clear hcz27_3
       try clear hcz29_0
       try clear hcz29_1
       try clear hcz29_2
       try clear hcz29_3
       try clear hcz31_0
       try clear hcz31_1
       try clear hcz31_2
       try clear hcz31_3
       try clear hcz9_0
       try clear hcz9_1
       try clear hcz9_2
       try clear hcz9_3
       try clear hfz15_0
       try clear hfz15_1
       try clear hfz15_2
       try clear hfz15_3
       try clear hfz17_0
       try clear hfz17_1
       try clear hfz17_2
       try clear hfz17_3
       try clear hfz19_0
       try clear hfz19_1
       try clear hfz19_2
       try clear hfz19_3
       try clear hfz27_0
       try clear hfz27_1
       try clear hfz27_2
       try clear hfz27_3
       try clear hfz29_0
       try clear hfz29_1
       try clear hfz29_2
       try clear hfz29_3
       try clear hfz31_0
       try clear hfz31_1
       try clear hfz31_2
       try clear hfz31_3
       try clear hfz9_0
       try clear hfz9_1
       try clear hfz9_2
       try clear hfz9_3
       try clear hx152_0
       try clear hx155_0
       try clear p152
       try clear p155
       try clear q152
       try clear q155
       obtain ⟨kq,x84_44,rfl,HA,HJ44,BK147,HB⟩:=hcut
       cases kq with
       | zero=>exact absurd HA.out (by simp [isthmusref18_word.j0])
       | succ kj44 =>
        have H:=HA.out
        clear HA
        simp only [isthmusref18_word.j0] at H
        by_cases c50:x84_44=true
        ·subst c50
         have H1:(some (t150 == 0))=some r:=by rw [if_pos rfl] at H; exact H
         clear H
         have H:=H1
         clear H1
         obtain rfl:=Option.some.inj H
         go_wp2
         go_ret
         exact ⟨by first|rfl|(simp [errW_none,errW_some]<;>rfl)|(simp [*,errW_none,errW_some]<;>rfl),by repeat (first|(with_reducible first|exact HB.out|apply below_alloc|apply pw_below_drewN|apply below_drew1|refine below_set ?_ GE147.out)|exact HB.out)⟩
        ·replace c50:=Bool.eq_false_iff.mpr c50
         subst c50
         have H1:(if t148=16 then (if t149 ≥ 1 then (if t149≤10 then (some (t150 == 0)) else (some false)) else (some false)) else (if t148=17 then ((isthmusref18_within.f t149 (l0_3.length:Int)).bind fun t157=>(some t157)) else (if t148=18 then (isthmusref18_word.j1 kj44 t148 t149 t150 t148 (t148 == 18) l0_0 l0_1 l0_2 l0_3) else (isthmusref18_word.j1 kj44 t148 t149 t150 t148 (t148 == 19) l0_0 l0_1 l0_2 l0_3))))=some r:=by rw [if_neg (show ¬ (false=true) by decide)] at H; exact H
         clear H
         have H:=H1
         clear H1
         by_cases c51:t148=16
         ·rw [if_pos c51] at H
          have c51b0:(t148 == 16)=true:=beq_iff_eq.mpr c51
          have c51b1:(t148 != 16)=false:=bne_eq_false_iff_eq.mpr c51
          clear c51
          by_cases c52:t149 ≥ 1
          ·rw [if_pos c52] at H
           have c52b0:decide (1≤t149)=true:=decide_eq_true c52
           clear c52
           by_cases c53:t149≤10
           ·rw [if_pos c53] at H
            have c53b0:decide (t149≤10)=true:=decide_eq_true c53
            clear c53
            obtain rfl:=Option.some.inj H
            go_wp2
            go_ret
            exact ⟨by first|rfl|(simp [errW_none,errW_some]<;>rfl)|(simp [*,errW_none,errW_some]<;>rfl),by repeat (first|(with_reducible first|exact HB.out|apply below_alloc|apply pw_below_drewN|apply below_drew1|refine below_set ?_ GE147.out)|exact HB.out)⟩
           ·rw [if_neg c53] at H
            have c53b0:decide (t149≤10)=false:=decide_eq_false c53
            clear c53
            obtain rfl:=Option.some.inj H
            go_wp2
            go_ret
            exact ⟨by first|rfl|(simp [errW_none,errW_some]<;>rfl)|(simp [*,errW_none,errW_some]<;>rfl),by repeat (first|(with_reducible first|exact HB.out|apply below_alloc|apply pw_below_drewN|apply below_drew1|refine below_set ?_ GE147.out)|exact HB.out)⟩
          ·rw [if_neg c52] at H
           have c52b0:decide (1≤t149)=false:=decide_eq_false c52
           clear c52
           obtain rfl:=Option.some.inj H
           go_wp2
           go_ret
           exact ⟨by first|rfl|(simp [errW_none,errW_some]<;>rfl)|(simp [*,errW_none,errW_some]<;>rfl),by repeat (first|(with_reducible first|exact HB.out|apply below_alloc|apply pw_below_drewN|apply below_drew1|refine below_set ?_ GE147.out)|exact HB.out)⟩
         ·rw [if_neg c51] at H
          have c51b0:(t148 == 16)=false:=beq_eq_false_iff_ne.mpr c51
          have c51b1:(t148 != 16)=true:=bne_iff_ne.mpr c51
          by_cases c54:t148=17
          ·rw [if_pos c54] at H
           have c54b0:(t148 == 17)=true:=beq_iff_eq.mpr c54
           have c54b1:(t148 != 17)=false:=bne_eq_false_iff_eq.mpr c54
           clear c54
           replace H:=Option.bind_eq_some_iff.mp H
           obtain ⟨t157,A550,H⟩:=H
           replace H:(some t157)=some r:=H
           have A55:=Aside0.mk A550
           clear A550
           obtain rfl:=Option.some.inj H
           have hcz56_0:wc.cell? ⟨gb147,0,none⟩=some (.slice A0_0 l0_0.length c0_0):=(blk_cell BK147.out 0).trans rfl
           have hcz56_1:wc.cell? ⟨gb147,1,none⟩=some (.slice A0_1 l0_1.length c0_1):=(blk_cell BK147.out 1).trans rfl
           have hcz56_2:wc.cell? ⟨gb147,2,none⟩=some (.slice A0_2 l0_2.length c0_2):=(blk_cell BK147.out 2).trans rfl
           have hcz56_3:wc.cell? ⟨gb147,3,none⟩=some (.slice A0_3 l0_3.length c0_3):=(blk_cell BK147.out 3).trans rfl
           have hfz56_0:=blk_frozen BK147.out 0
           have hfz56_1:=blk_frozen BK147.out 1
           have hfz56_2:=blk_frozen BK147.out 2
           have hfz56_3:=blk_frozen BK147.out 3
           go_wp2_with (first|((with_reducible refine gate_callee (f:=76) rfl ?_); refine goesL_ (some 109) rfl rfl Tryd.func76 (by kernel_rfl) rfl #[.int .i64 t149,.int .i64 (l0_3.length:Int)] rfl (by (try simp only [List.map_toArray,List.map_cons,List.map_nil]); first|done|rfl|(simp only [List.length_drop,List.length_take]; rfl)) ?_; (with_reducible refine (isthmusref18_within.calls t149 (l0_3.length:Int) t157 _ A55.out).mono ?_); rintro e w' ⟨rfl,⟨nd,rfl⟩⟩; refine ⟨_,rfl,?_⟩))
           go_ret
           exact ⟨by first|rfl|(simp [errW_none,errW_some]<;>rfl)|(simp [*,errW_none,errW_some]<;>rfl),by repeat (first|(with_reducible first|exact HB.out|apply below_alloc|apply pw_below_drewN|apply below_drew1|refine below_set ?_ GE147.out)|exact HB.out)⟩
          ·rw [if_neg c54] at H
           have c54b0:(t148 == 17)=false:=beq_eq_false_iff_ne.mpr c54
           have c54b1:(t148 != 17)=true:=bne_iff_ne.mpr c54
           have HC57:=Aside0.mk H
           clear H
           go_upto_if 110 with (fail)
           go_cut [110] (fun v110 wc=>∃ (kq:Nat) (x110_56:Bool),v110=.bool x110_56∧Aside0 (isthmusref18_word.j1 kq t148 t149 t150 t148 x110_56 l0_0 l0_1 l0_2 l0_3=some r)∧Aside0 (kq≤kj44)∧Aside0 (wc.heap[gb147]? = some (.cells #[(.slice A0_0 l0_0.length c0_0),(.slice A0_1 l0_1.length c0_1),(.slice A0_2 l0_2.length c0_2),(.slice A0_3 l0_3.length c0_3)] 26 (0,0)))∧Aside0 (Below w.heap.size w wc))
           case first =>
            have H:=HC57.out
            clear HC57
            by_cases c58:t148=18
            ·rw [if_pos c58] at H
             have c58b0:(t148 == 18)=true:=beq_iff_eq.mpr c58
             have c58b1:(t148 != 18)=false:=bne_eq_false_iff_eq.mpr c58
             clear c58
             (first|rw [c58b0]|(simp only [i64_w,i32_w]; rw [c58b0])|skip)
             have H':=Aside0.mk H
             clear H
             go_wp2
             go_meet
             case rel=>exact ⟨_,((t148 == 18)),(by first|rfl|(simp; done)|(simp [*]; done)),H',⟨by have:=HJ44.out; first|omega|exact Nat.le_refl _⟩,⟨by (with_reducible repeat (first|refine blk_drewN ?_ _|refine blk_drew ?_|refine blk_alloc ?_ _)); exact BK147.out⟩,⟨by repeat (first|(with_reducible first|exact HB.out|apply below_alloc|apply pw_below_drewN|apply below_drew1|refine below_set ?_ GE147.out)|exact HB.out)⟩⟩
            ·rw [if_neg c58] at H
             have c58b0:(t148 == 18)=false:=beq_eq_false_iff_ne.mpr c58
             have c58b1:(t148 != 18)=true:=bne_iff_ne.mpr c58
             (first|rw [c58b0]|(simp only [i64_w,i32_w]; rw [c58b0])|skip)
             have H':=Aside0.mk H
             clear H
             go_wp2
             go_meet
             case rel=>exact ⟨_,((t148 == 19)),(by first|rfl|(simp; done)|(simp [*]; done)),H',⟨by have:=HJ44.out; first|omega|exact Nat.le_refl _⟩,⟨by (with_reducible repeat (first|refine blk_drewN ?_ _|refine blk_drew ?_|refine blk_alloc ?_ _)); exact BK147.out⟩,⟨by repeat (first|(with_reducible first|exact HB.out|apply below_alloc|apply pw_below_drewN|apply below_drew1|refine below_set ?_ GE147.out)|exact HB.out)⟩⟩
           case rest =>
            clear HC57
            try clear c1
            try clear p1
            try clear q1
            try clear hx1
            try clear c2
            try clear p2
            try clear c3
            try clear c4
            try clear c4b0
            try clear c4b1
            try clear c5
            try clear c6
            try clear c7
            try clear c7b0
            try clear c7b1
            try clear c10
            try clear c10b0
            try clear c10b1
            try clear c11
            try clear c11b0
            try clear c12
            try clear c12b0
            try clear p15
            try clear q15
            try clear hx15
            try clear c20
            try clear c20b0
            try clear c20b1
            try clear c22
            try clear c23
            try clear c23b0
            try clear c24
            try clear c24b0
            try clear c25
            try clear c25b0
            try clear c32
            try clear c32b0
            try clear c32b1
            try clear c33
            try clear c33b0
            try clear c36
            try clear c36b0
            try clear c36b1
            try clear c37
            try clear c37b0
            try clear c37b1
            try clear c38
            try clear c39
            try clear c41
            try clear c41b0
            try clear c41b1
            try clear c42
            try clear c42b0
            try clear c42b1
            try clear c47
            try clear c47b0
            try clear c47b1
            try clear c48
            try clear c48b0
            try clear c48b1
            try clear c49
            try clear c49b0
            try clear c49b1
            try clear c50
            try clear c51
            try clear c51b0
            try clear c51b1
            try clear c52
            try clear c52b0
            try clear c53
            try clear c53b0
            try clear c54
            try clear c54b0
            try clear c54b1
            try clear c58
            try clear c58b0
            try clear c58b1
            try clear hcz15_0
            try clear hcz15_1
            try clear hcz15_2
            try clear hcz15_3
            try clear hcz17_0
            try clear hcz17_1
            try clear hcz17_2
            try clear hcz17_3
            try clear hcz19_0
            try clear hcz19_1
            try clear hcz19_2
            try clear hcz19_3
            try clear hcz27_0
            try clear hcz27_1
            try clear hcz27_2
            try clear hcz27_3
            try clear hcz29_0
            try clear hcz29_1
            try clear hcz29_2
            try clear hcz29_3
            try clear hcz31_0
            try clear hcz31_1
            try clear hcz31_2
            try clear hcz31_3
            try clear hcz56_0
            try clear hcz56_1
            try clear hcz56_2
            try clear hcz56_3
            try clear hcz9_0
            try clear hcz9_1
            try clear hcz9_2
            try clear hcz9_3
            try clear hfz15_0
            try clear hfz15_1
            try clear hfz15_2
            try clear hfz15_3
            try clear hfz17_0
            try clear hfz17_1
            try clear hfz17_2
            try clear hfz17_3
            try clear hfz19_0
            try clear hfz19_1
            try clear hfz19_2
            try clear hfz19_3
            try clear hfz27_0
            try clear hfz27_1
            try clear hfz27_2
            try clear hfz27_3
            try clear hfz29_0
            try clear hfz29_1
            try clear hfz29_2
            try clear hfz29_3
            try clear hfz31_0
            try clear hfz31_1
            try clear hfz31_2
            try clear hfz31_3
            try clear hfz56_0
            try clear hfz56_1
            try clear hfz56_2
            try clear hfz56_3
            try clear hfz9_0
            try clear hfz9_1
            try clear hfz9_2
            try clear hfz9_3
            try clear hx152_0
            try clear hx155_0
            try clear p1
            try clear p15
            try clear p152
            try clear p155
            try clear p2
            try clear q1
            try clear q15
            try clear q152
            try clear q155
            obtain ⟨kq,x110_56,rfl,HA,HJ56,BK147,HB⟩:=hcut
            cases kq with
            | zero=>exact absurd HA.out (by simp [isthmusref18_word.j1])
            | succ kj56 =>
             have H:=HA.out
             clear HA
             simp only [isthmusref18_word.j1] at H
             by_cases c59:x110_56=true
             ·subst c59
              have H1:((isthmusref18_within.f t149 (l0_3.length:Int)).bind fun t158=>(if t158=true then (some (t150 == 0)) else (some false)))=some r:=by rw [if_pos rfl] at H; exact H
              clear H
              have H:=H1
              clear H1
              replace H:=Option.bind_eq_some_iff.mp H
              obtain ⟨t158,A600,H⟩:=H
              replace H:(if t158=true then (some (t150 == 0)) else (some false))=some r:=H
              have A60:=Aside0.mk A600
              clear A600
              by_cases c61:t158=true
              ·subst c61
               have H1:(some (t150 == 0))=some r:=by rw [if_pos rfl] at H; exact H
               clear H
               have H:=H1
               clear H1
               obtain rfl:=Option.some.inj H
               have hcz62_0:wc.cell? ⟨gb147,0,none⟩=some (.slice A0_0 l0_0.length c0_0):=(blk_cell BK147.out 0).trans rfl
               have hcz62_1:wc.cell? ⟨gb147,1,none⟩=some (.slice A0_1 l0_1.length c0_1):=(blk_cell BK147.out 1).trans rfl
               have hcz62_2:wc.cell? ⟨gb147,2,none⟩=some (.slice A0_2 l0_2.length c0_2):=(blk_cell BK147.out 2).trans rfl
               have hcz62_3:wc.cell? ⟨gb147,3,none⟩=some (.slice A0_3 l0_3.length c0_3):=(blk_cell BK147.out 3).trans rfl
               have hfz62_0:=blk_frozen BK147.out 0
               have hfz62_1:=blk_frozen BK147.out 1
               have hfz62_2:=blk_frozen BK147.out 2
               have hfz62_3:=blk_frozen BK147.out 3
               go_wp2_with (first|((with_reducible refine gate_callee (f:=76) rfl ?_); refine goesL_ (some 117) rfl rfl Tryd.func76 (by kernel_rfl) rfl #[.int .i64 t149,.int .i64 (l0_3.length:Int)] rfl (by (try simp only [List.map_toArray,List.map_cons,List.map_nil]); first|done|rfl|(simp only [List.length_drop,List.length_take]; rfl)) ?_; (with_reducible refine (isthmusref18_within.calls t149 (l0_3.length:Int) true _ A60.out).mono ?_); rintro e w' ⟨rfl,⟨nd,rfl⟩⟩; refine ⟨_,rfl,?_⟩))
               go_ret
               exact ⟨by first|rfl|(simp [errW_none,errW_some]<;>rfl)|(simp [*,errW_none,errW_some]<;>rfl),by repeat (first|(with_reducible first|exact HB.out|apply below_alloc|apply pw_below_drewN|apply below_drew1|refine below_set ?_ GE147.out)|exact HB.out)⟩
              ·replace c61:=Bool.eq_false_iff.mpr c61
               subst c61
               have H1:(some false)=some r:=by rw [if_neg (show ¬ (false=true) by decide)] at H; exact H
               clear H
               have H:=H1
               clear H1
               obtain rfl:=Option.some.inj H
               have hcz63_0:wc.cell? ⟨gb147,0,none⟩=some (.slice A0_0 l0_0.length c0_0):=(blk_cell BK147.out 0).trans rfl
               have hcz63_1:wc.cell? ⟨gb147,1,none⟩=some (.slice A0_1 l0_1.length c0_1):=(blk_cell BK147.out 1).trans rfl
               have hcz63_2:wc.cell? ⟨gb147,2,none⟩=some (.slice A0_2 l0_2.length c0_2):=(blk_cell BK147.out 2).trans rfl
               have hcz63_3:wc.cell? ⟨gb147,3,none⟩=some (.slice A0_3 l0_3.length c0_3):=(blk_cell BK147.out 3).trans rfl
               have hfz63_0:=blk_frozen BK147.out 0
               have hfz63_1:=blk_frozen BK147.out 1
               have hfz63_2:=blk_frozen BK147.out 2
               have hfz63_3:=blk_frozen BK147.out 3
               go_wp2_with (first|((with_reducible refine gate_callee (f:=76) rfl ?_); refine goesL_ (some 117) rfl rfl Tryd.func76 (by kernel_rfl) rfl #[.int .i64 t149,.int .i64 (l0_3.length:Int)] rfl (by (try simp only [List.map_toArray,List.map_cons,List.map_nil]); first|done|rfl|(simp only [List.length_drop,List.length_take]; rfl)) ?_; (with_reducible refine (isthmusref18_within.calls t149 (l0_3.length:Int) false _ A60.out).mono ?_); rintro e w' ⟨rfl,⟨nd,rfl⟩⟩; refine ⟨_,rfl,?_⟩))
               go_ret
               exact ⟨by first|rfl|(simp [errW_none,errW_some]<;>rfl)|(simp [*,errW_none,errW_some]<;>rfl),by repeat (first|(with_reducible first|exact HB.out|apply below_alloc|apply pw_below_drewN|apply below_drew1|refine below_set ?_ GE147.out)|exact HB.out)⟩
             ·replace c59:=Bool.eq_false_iff.mpr c59
              subst c59
              have H1:(if t148=21 then ((isthmusref18_within.f t149 (l0_2.length:Int)).bind fun t159=>(if t159=true then (some (t150 == 0)) else (some false))) else (if t148=23 then (if t149≤1024 then (some (t150 == 0)) else (some false)) else (if t148=26 then (if t149≤1 then (some (t150 == 0)) else (some false)) else (if t148 < 28 then (if t149=0 then (some (t150 == 0)) else (some false)) else (some false)))))=some r:=by rw [if_neg (show ¬ (false=true) by decide)] at H; exact H
              clear H
              have H:=H1
              clear H1
              by_cases c64:t148=21
              ·rw [if_pos c64] at H
               have c64b0:(t148 == 21)=true:=beq_iff_eq.mpr c64
               have c64b1:(t148 != 21)=false:=bne_eq_false_iff_eq.mpr c64
               clear c64
               replace H:=Option.bind_eq_some_iff.mp H
               obtain ⟨t159,A650,H⟩:=H
               replace H:(if t159=true then (some (t150 == 0)) else (some false))=some r:=H
               have A65:=Aside0.mk A650
               clear A650
               by_cases c66:t159=true
               ·subst c66
                have H1:(some (t150 == 0))=some r:=by rw [if_pos rfl] at H; exact H
                clear H
                have H:=H1
                clear H1
                obtain rfl:=Option.some.inj H
                have hcz67_0:wc.cell? ⟨gb147,0,none⟩=some (.slice A0_0 l0_0.length c0_0):=(blk_cell BK147.out 0).trans rfl
                have hcz67_1:wc.cell? ⟨gb147,1,none⟩=some (.slice A0_1 l0_1.length c0_1):=(blk_cell BK147.out 1).trans rfl
                have hcz67_2:wc.cell? ⟨gb147,2,none⟩=some (.slice A0_2 l0_2.length c0_2):=(blk_cell BK147.out 2).trans rfl
                have hcz67_3:wc.cell? ⟨gb147,3,none⟩=some (.slice A0_3 l0_3.length c0_3):=(blk_cell BK147.out 3).trans rfl
                have hfz67_0:=blk_frozen BK147.out 0
                have hfz67_1:=blk_frozen BK147.out 1
                have hfz67_2:=blk_frozen BK147.out 2
                have hfz67_3:=blk_frozen BK147.out 3
                go_wp2_with (first|((with_reducible refine gate_callee (f:=76) rfl ?_); refine goesL_ (some 128) rfl rfl Tryd.func76 (by kernel_rfl) rfl #[.int .i64 t149,.int .i64 (l0_2.length:Int)] rfl (by (try simp only [List.map_toArray,List.map_cons,List.map_nil]); first|done|rfl|(simp only [List.length_drop,List.length_take]; rfl)) ?_; (with_reducible refine (isthmusref18_within.calls t149 (l0_2.length:Int) true _ A65.out).mono ?_); rintro e w' ⟨rfl,⟨nd,rfl⟩⟩; refine ⟨_,rfl,?_⟩))
                go_ret
                exact ⟨by first|rfl|(simp [errW_none,errW_some]<;>rfl)|(simp [*,errW_none,errW_some]<;>rfl),by repeat (first|(with_reducible first|exact HB.out|apply below_alloc|apply pw_below_drewN|apply below_drew1|refine below_set ?_ GE147.out)|exact HB.out)⟩
               ·replace c66:=Bool.eq_false_iff.mpr c66
                subst c66
                have H1:(some false)=some r:=by rw [if_neg (show ¬ (false=true) by decide)] at H; exact H
                clear H
                have H:=H1
                clear H1
                obtain rfl:=Option.some.inj H
                have hcz68_0:wc.cell? ⟨gb147,0,none⟩=some (.slice A0_0 l0_0.length c0_0):=(blk_cell BK147.out 0).trans rfl
                have hcz68_1:wc.cell? ⟨gb147,1,none⟩=some (.slice A0_1 l0_1.length c0_1):=(blk_cell BK147.out 1).trans rfl
                have hcz68_2:wc.cell? ⟨gb147,2,none⟩=some (.slice A0_2 l0_2.length c0_2):=(blk_cell BK147.out 2).trans rfl
                have hcz68_3:wc.cell? ⟨gb147,3,none⟩=some (.slice A0_3 l0_3.length c0_3):=(blk_cell BK147.out 3).trans rfl
                have hfz68_0:=blk_frozen BK147.out 0
                have hfz68_1:=blk_frozen BK147.out 1
                have hfz68_2:=blk_frozen BK147.out 2
                have hfz68_3:=blk_frozen BK147.out 3
                go_wp2_with (first|((with_reducible refine gate_callee (f:=76) rfl ?_); refine goesL_ (some 128) rfl rfl Tryd.func76 (by kernel_rfl) rfl #[.int .i64 t149,.int .i64 (l0_2.length:Int)] rfl (by (try simp only [List.map_toArray,List.map_cons,List.map_nil]); first|done|rfl|(simp only [List.length_drop,List.length_take]; rfl)) ?_; (with_reducible refine (isthmusref18_within.calls t149 (l0_2.length:Int) false _ A65.out).mono ?_); rintro e w' ⟨rfl,⟨nd,rfl⟩⟩; refine ⟨_,rfl,?_⟩))
                go_ret
                exact ⟨by first|rfl|(simp [errW_none,errW_some]<;>rfl)|(simp [*,errW_none,errW_some]<;>rfl),by repeat (first|(with_reducible first|exact HB.out|apply below_alloc|apply pw_below_drewN|apply below_drew1|refine below_set ?_ GE147.out)|exact HB.out)⟩
              ·rw [if_neg c64] at H
               have c64b0:(t148 == 21)=false:=beq_eq_false_iff_ne.mpr c64
               have c64b1:(t148 != 21)=true:=bne_iff_ne.mpr c64
               by_cases c69:t148=23
               ·rw [if_pos c69] at H
                have c69b0:(t148 == 23)=true:=beq_iff_eq.mpr c69
                have c69b1:(t148 != 23)=false:=bne_eq_false_iff_eq.mpr c69
                clear c69
                by_cases c70:t149≤1024
                ·rw [if_pos c70] at H
                 have c70b0:decide (t149≤1024)=true:=decide_eq_true c70
                 clear c70
                 obtain rfl:=Option.some.inj H
                 go_wp2
                 go_ret
                 exact ⟨by first|rfl|(simp [errW_none,errW_some]<;>rfl)|(simp [*,errW_none,errW_some]<;>rfl),by repeat (first|(with_reducible first|exact HB.out|apply below_alloc|apply pw_below_drewN|apply below_drew1|refine below_set ?_ GE147.out)|exact HB.out)⟩
                ·rw [if_neg c70] at H
                 have c70b0:decide (t149≤1024)=false:=decide_eq_false c70
                 clear c70
                 obtain rfl:=Option.some.inj H
                 go_wp2
                 go_ret
                 exact ⟨by first|rfl|(simp [errW_none,errW_some]<;>rfl)|(simp [*,errW_none,errW_some]<;>rfl),by repeat (first|(with_reducible first|exact HB.out|apply below_alloc|apply pw_below_drewN|apply below_drew1|refine below_set ?_ GE147.out)|exact HB.out)⟩
               ·rw [if_neg c69] at H
                have c69b0:(t148 == 23)=false:=beq_eq_false_iff_ne.mpr c69
                have c69b1:(t148 != 23)=true:=bne_iff_ne.mpr c69
                by_cases c71:t148=26
                ·rw [if_pos c71] at H
                 have c71b0:(t148 == 26)=true:=beq_iff_eq.mpr c71
                 have c71b1:(t148 != 26)=false:=bne_eq_false_iff_eq.mpr c71
                 clear c71
                 by_cases c72:t149≤1
                 ·rw [if_pos c72] at H
                  have c72b0:decide (t149≤1)=true:=decide_eq_true c72
                  clear c72
                  obtain rfl:=Option.some.inj H
                  go_wp2
                  go_ret
                  exact ⟨by first|rfl|(simp [errW_none,errW_some]<;>rfl)|(simp [*,errW_none,errW_some]<;>rfl),by repeat (first|(with_reducible first|exact HB.out|apply below_alloc|apply pw_below_drewN|apply below_drew1|refine below_set ?_ GE147.out)|exact HB.out)⟩
                 ·rw [if_neg c72] at H
                  have c72b0:decide (t149≤1)=false:=decide_eq_false c72
                  clear c72
                  obtain rfl:=Option.some.inj H
                  go_wp2
                  go_ret
                  exact ⟨by first|rfl|(simp [errW_none,errW_some]<;>rfl)|(simp [*,errW_none,errW_some]<;>rfl),by repeat (first|(with_reducible first|exact HB.out|apply below_alloc|apply pw_below_drewN|apply below_drew1|refine below_set ?_ GE147.out)|exact HB.out)⟩
                ·rw [if_neg c71] at H
                 have c71b0:(t148 == 26)=false:=beq_eq_false_iff_ne.mpr c71
                 have c71b1:(t148 != 26)=true:=bne_iff_ne.mpr c71
                 by_cases c73:t148 < 28
                 ·rw [if_pos c73] at H
                  have c73b0:decide (t148 < 28)=true:=decide_eq_true c73
                  clear c73
                  by_cases c74:t149=0
                  ·rw [if_pos c74] at H
                   have c74b0:(t149 == 0)=true:=beq_iff_eq.mpr c74
                   have c74b1:(t149 != 0)=false:=bne_eq_false_iff_eq.mpr c74
                   clear c74
                   obtain rfl:=Option.some.inj H
                   go_wp2
                   go_ret
                   exact ⟨by first|rfl|(simp [errW_none,errW_some]<;>rfl)|(simp [*,errW_none,errW_some]<;>rfl),by repeat (first|(with_reducible first|exact HB.out|apply below_alloc|apply pw_below_drewN|apply below_drew1|refine below_set ?_ GE147.out)|exact HB.out)⟩
                  ·rw [if_neg c74] at H
                   have c74b0:(t149 == 0)=false:=beq_eq_false_iff_ne.mpr c74
                   have c74b1:(t149 != 0)=true:=bne_iff_ne.mpr c74
                   obtain rfl:=Option.some.inj H
                   go_wp2
                   go_ret
                   exact ⟨by first|rfl|(simp [errW_none,errW_some]<;>rfl)|(simp [*,errW_none,errW_some]<;>rfl),by repeat (first|(with_reducible first|exact HB.out|apply below_alloc|apply pw_below_drewN|apply below_drew1|refine below_set ?_ GE147.out)|exact HB.out)⟩
                 ·rw [if_neg c73] at H
                  have c73b0:decide (t148 < 28)=false:=decide_eq_false c73
                  clear c73
                  obtain rfl:=Option.some.inj H
                  go_wp2
                  go_ret
                  exact ⟨by first|rfl|(simp [errW_none,errW_some]<;>rfl)|(simp [*,errW_none,errW_some]<;>rfl),by repeat (first|(with_reducible first|exact HB.out|apply below_alloc|apply pw_below_drewN|apply below_drew1|refine below_set ?_ GE147.out)|exact HB.out)⟩
end Go.Proofs.YtcmdjpolgaejoaaDoor.C
