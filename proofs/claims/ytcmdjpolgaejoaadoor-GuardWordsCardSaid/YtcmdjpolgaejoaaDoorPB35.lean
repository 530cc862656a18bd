/- The laws GuardLooks, GuardWords of the program hold, as their cards say: texts put together by a program, 36 of 38. -/
import Derived.Test.YtcmdjpolgaejoaaDoorPB13
import Derived.Test.YtcmdjpolgaejoaaDoorPB20
import Derived.Test.YtcmdjpolgaejoaaDoorPB24
import Derived.Test.YtcmdjpolgaejoaaDoorPB26
import Derived.Test.YtcmdjpolgaejoaaDoorPB34
import Derived.Outline
import Derived.Test.YtcmdjpolgaejoaaDoorRows
import Derived.ProofKit
import Derived.LaidMore
import Derived.OpenShut
import Derived.Stop.Joined
namespace Go.Proofs.YtcmdjpolgaejoaaDoor.Gd
open Go.RowKit Go.Proofs.YtcmdjpolgaejoaaDoorW.PrintWords Go.Proofs.YtcmdjpolgaejoaaDoorW.PrintLast Go.Proofs.YtcmdjpolgaejoaaDoorW.PrintMore Go.Proofs.YtcmdjpolgaejoaaDoor.Code Go.Proofs.YtcmdjpolgaejoaaDoor.C
set_option linter.unusedVariables false
set_option linter.unusedSimpArgs false
theorem bound250:D.guard_Bound.f 5 10 2 4=some 250:=by decide +kernel
abbrev rawC1:Array Value:=#[.int .i64 1,.int .i64 0,.int .i64 1,.int .i64 1,.int .i64 1,.int .i64 1,.int .i64 6,.int .i64 0,.int .i64 0,.int .i64 0,.int .i64 0,.int .i64 0]
abbrev rawC2:Array Value:=#[.int .i64 6,.int .i64 0,.int .i64 0,.int .i64 0,.int .i64 0,.int .i64 0]
theorem raws1_C (w:World):Kd.C kRaw (w.alloc (.cells rawC1 54)) (some ⟨w.heap.size,0,none⟩) awRaws.length awRaws:=by
 have hr2:Kd.R kRaw 54 (w.alloc (.cells rawC1 54)) w.heap.size (fun _=>True) (.slice (some ⟨w.heap.size,0,none⟩) 4 4) awRaws :=
  ⟨fun _ _=>trivial,_,⟨rfl,.inr ⟨_,4,_,rfl,Nat.le_refl _,heap_alloc_new _ _,Nat.le_refl _,by decide,rfl,rfl⟩⟩,⟨rfl,fun j p hp=>by
   match j with
   | 0=>obtain rfl:=Option.some.inj hp; exact kRaw_mkM _ _ _ ⟨1,0,1⟩
   | 1=>obtain rfl:=Option.some.inj hp; exact kRaw_mkM _ _ _ ⟨1,1,1⟩
   | 2=>obtain rfl:=Option.some.inj hp; exact kRaw_mkM _ _ _ ⟨6,0,0⟩
   | 3=>obtain rfl:=Option.some.inj hp; exact kRaw_mkM _ _ _ ⟨0,0,0⟩
   | j+4=>simp [awRaws] at hp⟩⟩
 obtain ⟨A0,c0,ev,hlc0,hC0⟩:=Kd.R_reads hr2
 injection ev with ea en ec
 subst ea
 exact hC0
theorem raws2_C (w:World):Kd.C kRaw (w.alloc (.cells rawC2 54)) (some ⟨w.heap.size,0,none⟩) awRaws2.length awRaws2:=by
 have hr2:Kd.R kRaw 54 (w.alloc (.cells rawC2 54)) w.heap.size (fun _=>True) (.slice (some ⟨w.heap.size,0,none⟩) 2 2) awRaws2 :=
  ⟨fun _ _=>trivial,_,⟨rfl,.inr ⟨_,2,_,rfl,Nat.le_refl _,heap_alloc_new _ _,Nat.le_refl _,by decide,rfl,rfl⟩⟩,⟨rfl,fun j p hp=>by
   match j with
   | 0=>obtain rfl:=Option.some.inj hp; exact kRaw_mkM _ _ _ ⟨6,0,0⟩
   | 1=>obtain rfl:=Option.some.inj hp; exact kRaw_mkM _ _ _ ⟨0,0,0⟩
   | j+2=>simp [awRaws2] at hp⟩⟩
 obtain ⟨A0,c0,ev,hlc0,hC0⟩:=Kd.R_reads hr2
 injection ev with ea en ec
 subst ea
 exact hC0
theorem ints_C (w:World) (l:List Int) (hl:l.length < 1000):Kd.C (Kd.int .i64) (w.alloc (.cells (l.map (Value.int .i64)).toArray 3)) (some ⟨w.heap.size,0,none⟩) l.length l:=by
 have hl1:(w.alloc (.cells (l.map (Value.int .i64)).toArray 3)).ownsRow w.heap.size 3 1 (.slice (some ⟨w.heap.size,0,none⟩) l.length l.length) l.length (nums .i64 l):=⟨by simp [nums],.inr ⟨_,l.length,_,rfl,Nat.le_refl _,heap_alloc_new _ _,Nat.le_refl _,Nat.le_trans (Nat.le_of_lt hl) (by decide),by simp,by rw [Nat.mul_one]; simp only [nums]; exact List.take_of_length_le (by simp)⟩⟩
 obtain ⟨A1,c1,ev,hlc1,hC1⟩:=Kd.R_reads (Kd.R_of_own (h1:=fun _=>rfl) (ok:=fun _=>True) hl1 (fun _ _=>trivial))
 injection ev with ea en ec
 subst ea
 exact hC1
abbrev codeC (A0:Option Addr) (c0 n0:Nat) (A1:Option Addr) (c1 n1:Nat) (A2:Option Addr) (c2 n2:Nat) (A3:Option Addr) (c3 n3:Nat):Array Value:=#[.slice A0 n0 c0,.slice A1 n1 c1,.slice A2 n2 c2,.slice A3 n3 c3]
abbrev limC (s r k:Int):Array Value:=#[.int .i64 s,.int .i64 r,.int .i64 k]
set_option maxHeartbeats 8000000 in
set_option maxRecDepth 100000 in
theorem awake_calls (w:World) (hG:Glob w):Calls Tryd.prog 9 #[] w fun e w'=>e=.returned (.bool true)∧Below w.heap.size w w':=by
 have HG:=Aside0.mk hG
 clear hG
 have z1:(w.alloc (.cells rawC1 54)).heap.size=w.heap.size+1:=by simp
 have hC0:=raws1_C w
 have hC1:=ints_C (w.alloc (.cells rawC1 54)) [1,2] (by decide)
 rw [z1] at hC1
 have hb1:=below_alloc (Below.refl (w.alloc (.cells rawC1 54)).heap.size (w.alloc (.cells rawC1 54))) (.cells (([1,2]:List Int).map (Value.int .i64)).toArray 3)
 have hb2:=below_alloc (below_alloc (Below.refl w.heap.size w) (.cells rawC1 54)) (.cells (([1,2]:List Int).map (Value.int .i64)).toArray 3)
 have HC0:=Aside0.mk (Kd.C_below hC0 hb1)
 have HC1:=Aside0.mk hC1
 have HB0:=Aside0.mk hb2
 clear hC0 hC1 hb1 hb2 z1
 have F1:=Aside0.mk awc1
 have F2:=Aside0.mk aw1
 go_enter Tryd.func9,Tryd.ntmps9
 go_wp2_with (first
  | (go_at_call 14; (refine (isthmuslaw18_Code.calls (some ⟨w.heap.size,0,none⟩) 4 awRaws (some ⟨w.heap.size+1,0,none⟩) 2 [1,2] none 0 [] none 0 [] true awWs _ HC0.out (by decide) F1.out).mono ?_); rintro e w1 ⟨v0,rfl,hR,hb⟩; obtain ⟨Aw,cw,rfl,hlw,hCw⟩:=Kd.R_reads hR; have HB1:=Aside0.mk (below_step HB0.out hb); have HC7:=Aside0.mk (Kd.C_below HC1.out hb); have HCW:=Aside0.mk hCw; have HLW:=Aside0.mk hlw; have bx0:=heap_alloc_new w1 (.cells (codeC Aw cw 4 (some ⟨w.heap.size+1,0,none⟩) 2 2 none 0 0 none 0 0) 26); have y0:=blk_cell bx0 0; have y1:=blk_cell bx0 1; have y2:=blk_cell bx0 2; have y3:=blk_cell bx0 3; have HX:=Aside0.mk (below_alloc (Below.refl w1.heap.size w1) (.cells (codeC Aw cw 4 (some ⟨w.heap.size+1,0,none⟩) 2 2 none 0 0 none 0 0) 26)); clear hR hb hCw hlw F1 bx0)
  | (go_at_call 12; (refine (verify_at Aw cw awWs (some ⟨w.heap.size+1,0,none⟩) 2 [1,2] none 0 [] none 0 [] 2 0 1 0 0 _ (Kd.C_below HCW.out HX.out) HLW.out (Kd.C_below HC7.out HX.out) (by decide) (Kd.C_nil _ _) (Nat.le_refl _) (Kd.C_nil _ _) (Nat.le_refl _) awu1 (HG.out.below (below_then HB1.out HB1.out.size HX.out)) F2.out).mono ?_); rintro e w2 ⟨rfl,hb⟩; have HB2:=Aside0.mk (below_then (below_then HB1.out HB1.out.size HX.out) (below_then HB1.out HB1.out.size HX.out).size hb); have bl:=heap_alloc_new w2 (.cells (limC 2 0 1) 29); have BL:=Aside0.mk (blk_alloc bl (.cells rawC2 54)); have hr:=raws2_C (w2.alloc (.cells (limC 2 0 1) 29)); have z2:(w2.alloc (.cells (limC 2 0 1) 29)).heap.size=w2.heap.size+1:=(by simp); rw [z2] at hr; have HR2:=Aside0.mk hr; have HB3:=Aside0.mk (below_alloc (below_alloc HB2.out (.cells (limC 2 0 1) 29)) (.cells rawC2 54)); have G1:=Aside0.mk awc2; clear hr z2 bl hb F2 HX HCW HLW HC7 HB1)
  | (go_at_call 14; have G2:=Aside0.mk aw2; (refine (isthmuslaw18_Code.calls (some ⟨w2.heap.size+1,0,none⟩) 2 awRaws2 none 0 [] none 0 [] none 0 [] true awWs2 _ HR2.out (by decide) G1.out).mono ?_); rintro e w3 ⟨v3,rfl,hR,hb⟩; obtain ⟨Aw2,cw2,rfl,hlw,hCw⟩:=Kd.R_reads hR; have HB4:=Aside0.mk (below_step HB3.out hb); have BL2:=Aside0.mk (blk_below BL.out hb); have HCW:=Aside0.mk hCw; have HLW:=Aside0.mk hlw; have bx0:=heap_alloc_new w3 (.cells (codeC Aw2 cw2 2 none 0 0 none 0 0 none 0 0) 26); have y0:=blk_cell bx0 0; have y1:=blk_cell bx0 1; have y2:=blk_cell bx0 2; have y3:=blk_cell bx0 3; have HX:=Aside0.mk (below_alloc (Below.refl w3.heap.size w3) (.cells (codeC Aw2 cw2 2 none 0 0 none 0 0 none 0 0) 26)); clear hR hb hCw hlw G1 bx0)
  | (go_at_call 12; (refine (verify_at Aw2 cw2 awWs2 none 0 [] none 0 [] none 0 [] 0 0 0 201 0 _ (Kd.C_below HCW.out HX.out) HLW.out (Kd.C_nil _ _) (Nat.le_refl _) (Kd.C_nil _ _) (Nat.le_refl _) (Kd.C_nil _ _) (Nat.le_refl _) awu2 (HG.out.below (below_then HB4.out HB4.out.size HX.out)) G2.out).mono ?_); rintro e w4 ⟨rfl,hb⟩; have HB5:=Aside0.mk (below_alloc (below_then (below_then HB4.out HB4.out.size HX.out) (below_then HB4.out HB4.out.size HX.out).size hb) (.cells (limC 0 0 0) 29)); have bl:=blk_alloc (blk_below (blk_below BL2.out HX.out) hb) (.cells (limC 0 0 0) 29); have u0:=blk_cell bl 0; have u1:=blk_cell bl 1; have u2:=blk_cell bl 2; clear bl hb G2 HX)
  | (go_at_call 15; (refine (D.guard_Bound.calls 5 10 2 4 250 _ bound250).mono ?_); rintro e w5 ⟨rfl,hb⟩; have HB6:=Aside0.mk (below_then HB5.out HB5.out.size hb)))
 go_ret
 exact ⟨rfl,HB6.out⟩
end Go.Proofs.YtcmdjpolgaejoaaDoor.Gd
namespace Go.Proofs.YtcmdjpolgaejoaaDoor.Code
open Go.RowKit Go.Proofs.YtcmdjpolgaejoaaDoorW.PrintWords Go.Proofs.YtcmdjpolgaejoaaDoorW.PrintMore Go.Proofs.YtcmdjpolgaejoaaDoor.C Go.Proofs.YtcmdjpolgaejoaaDoor.PackBits Go.Proofs.YtcmdjpolgaejoaaDoor.Pack Go.Proofs.YtcmdjpolgaejoaaDoor.Lex Go.Proofs.YtcmdjpolgaejoaaDoor.Str
theorem w2 {i:Nat} (h:i < 9223372036854775800):wrap64 ((i:Int)+1)=((i+1:Nat):Int):=by rw [Lex.w64_id (by omega) (by omega)]; omega
section
variable (a:List Int) (b:List Int) (c:List ByteArray) (d:List Int)
end
def pk (a n:Int):Int:=if a < 0 then (-(a+1))%n else a%n
theorem pick_f {a n:Int} (h0:-9223372036854775808≤a) (h1:a≤9223372036854775807) (hn:0 < n):isthmuslaw18_pick.f a n=some (pk a n):=by
 unfold isthmuslaw18_pick.f pk
 by_cases h:a < 0
 ·rw [if_pos h,if_pos h,if_neg (by omega),Lex.w64_id (n:=a+1) (by omega) (by omega),Lex.w64_id (by omega) (by omega),Int.tmod_eq_emod_of_nonneg (by omega)]
 ·rw [if_neg h,if_neg h,if_neg (by omega),Int.tmod_eq_emod_of_nonneg (by omega)]
theorem pk_range (a:Int) {n:Int} (hn:0 < n):0≤pk a n∧pk a n < n:=by
 unfold pk
 split
 ·exact ⟨Int.emod_nonneg _ (by omega),Int.emod_lt_of_pos _ hn⟩
 ·exact ⟨Int.emod_nonneg _ (by omega),Int.emod_lt_of_pos _ hn⟩
def RW (x:SRaw):Prop:=(-9223372036854775808≤x.f0∧x.f0≤9223372036854775807)∧(-9223372036854775808≤x.f1∧x.f1≤9223372036854775807)∧(-9223372036854775808≤x.f2∧x.f2≤9223372036854775807)
def wdV (x:SRaw):Int:=laid (pk x.f0 28) (pk x.f1 12) (pk x.f2 12)
theorem wd_f {x:SRaw} (h:RW x):isthmuslaw18_Code.wd true x=some (wdV x)∧0≤wdV x∧wdV x≤18446744073709551615:=by
 obtain ⟨h0,h1,h2⟩:=h
 have a:=pk_range x.f0 (n:=28) (by omega)
 have b:=pk_range x.f1 (n:=12) (by omega)
 have c:=pk_range x.f2 (n:=12) (by omega)
 unfold isthmuslaw18_Code.wd wdV
 rw [pick_f h0.1 h0.2 (by omega),bs,pick_f h1.1 h1.2 (by omega),bs,pick_f h2.1 h2.2 (by omega),bs,if_pos rfl,pick_f h0.1 h0.2 (by omega),bs,pick_f h1.1 h1.2 (by omega),bs,pick_f h2.1 h2.2 (by omega),bs,Pack.ref_word,if_pos ⟨by omega,by omega,by omega,by omega,by omega,by omega⟩,bs]
 unfold laid
 exact ⟨rfl,by omega,by omega⟩
theorem ws_f:∀ (l:List SRaw) (acc:List Int),(∀ x∈l,RW x)→(acc.length+l.length)*8≤140737488355328→isthmuslaw18_Code.ws true l acc=some (acc++l.map wdV)
 | [],acc,_,_=>by rw [isthmuslaw18_Code.ws]; simp
 | x :: t,acc,h,hl=>by
  rw [List.length_cons] at hl
  rw [isthmuslaw18_Code.ws,(wd_f (h x (List.mem_cons_self ..))).1,bs,if_pos (by omega),ws_f t _ (fun y hy=>h y (List.mem_cons_of_mem _ hy)) (by rw [List.length_append,List.length_singleton]; omega),List.map_cons,List.append_assoc]
  rfl
theorem code_f {l:List SRaw} (h:∀ x∈l,RW x) (hl:l.length*8≤140737488355328):isthmuslaw18_Code.f l true=some (l.map wdV):=by
 unfold isthmuslaw18_Code.f
 rw [ws_f l [] h (by simpa using hl),List.nil_append]
theorem code_u {l:List SRaw} (h:∀ x∈l,RW x):U64 (l.map wdV):=fun y hy=>by
 obtain ⟨x,hx,rfl⟩:=List.mem_map.1 hy
 exact (wd_f (h x hx)).2
end Go.Proofs.YtcmdjpolgaejoaaDoor.Code
namespace Go.Proofs.YtcmdjpolgaejoaaDoor.Gd
open Go.RowKit Go.Proofs.YtcmdjpolgaejoaaDoorW.PrintWords Go.Proofs.YtcmdjpolgaejoaaDoorW.PrintLast Go.Proofs.YtcmdjpolgaejoaaDoorW.PrintMore Go.Proofs.YtcmdjpolgaejoaaDoor.Code Go.Proofs.YtcmdjpolgaejoaaDoor.C
set_option linter.unusedVariables false
set_option linter.unusedSimpArgs false
def few:ByteArray:=⟨#[102,101,119]⟩
def none_:ByteArray:=⟨#[110,111,110,101]⟩
theorem strs_C (w:World) (l:List ByteArray) (hl:l.length < 1000):Kd.C Kd.string (w.alloc (.cells (l.map Value.string).toArray 9)) (some ⟨w.heap.size,0,none⟩) l.length l:=by
 have hl1:(w.alloc (.cells (l.map Value.string).toArray 9)).ownsRow w.heap.size 9 1 (.slice (some ⟨w.heap.size,0,none⟩) l.length l.length) l.length (encs Value.string l):=⟨by simp [encs],.inr ⟨_,l.length,_,rfl,Nat.le_refl _,heap_alloc_new _ _,Nat.le_refl _,Nat.le_trans (Nat.le_of_lt hl) (by decide),by simp,by rw [Nat.mul_one]; simp only [encs]; exact List.take_of_length_le (by simp)⟩⟩
 obtain ⟨A1,c1,ev,hlc1,hC1⟩:=Kd.R_reads (Kd.R_of_own (h1:=fun _=>rfl) (ok:=fun _=>True) hl1 (fun _ _=>trivial))
 injection ev with ea en ec
 subst ea
 exact hC1
theorem own_base {w:World} {base base' e sz n:Nat} {v:Value} {xs:List Value} (h:w.ownsRow base e sz v n xs) (hb:base'≤base):w.ownsRow base' e sz v n xs :=
 ⟨h.1,h.2.imp id fun ⟨g,cap,cur,hv,hg,rest⟩=>⟨g,cap,cur,hv,Nat.le_trans hb hg,rest⟩⟩
end Go.Proofs.YtcmdjpolgaejoaaDoor.Gd
namespace Go.Proofs.YtcmdjpolgaejoaaDoor.Gd
open Go.RowKit Go.Proofs.YtcmdjpolgaejoaaDoorW.PrintWords Go.Proofs.YtcmdjpolgaejoaaDoorW.PrintLast Go.Proofs.YtcmdjpolgaejoaaDoorW.PrintMore Go.Proofs.YtcmdjpolgaejoaaDoor.Code Go.Proofs.YtcmdjpolgaejoaaDoor.C
set_option linter.unusedVariables false
set_option linter.unusedSimpArgs false
set_option maxHeartbeats 8000000 in
set_option maxRecDepth 100000 in
theorem looks3_calls (A0:Option Addr) (c0:Nat) (l0:List Int) (A1:Option Addr) (c1:Nat) (l1:List Int) (A2:Option Addr) (c2:Nat) (l2:List ByteArray) (A3:Option Addr) (c3:Nat) (l3:List Int) (w:World) (hr0:Kd.C (Kd.int .u64) w A0 l0.length l0) (hc0:l0.length≤c0) (hr1:Kd.C (Kd.int .i64) w A1 l1.length l1) (hc1:l1.length≤c1) (hr2:Kd.C Kd.string w A2 l2.length l2) (hc2:l2.length≤c2) (hr3:Kd.C (Kd.int .i64) w A3 l3.length l3) (hc3:l3.length≤c3) (hz:l0.length*8≤140737488351232∧l1.length*8≤140737488351232∧l2.length*16≤140737488351232∧l3.length*8≤140737488351232) (hU:U64 l0) (hG:Glob w):Calls Tryd.prog 3 #[.agg #[.slice A0 l0.length c0,.slice A1 l1.length c1,.slice A2 l2.length c2,.slice A3 l3.length c3]] w fun e w'=>e=.returned (.bool true)∧Below w.heap.size w w':=by
 obtain ⟨⟨s,r,k,e,a⟩,hv⟩:∃ v,verifyS l0 l1 l2 l3=v:=⟨_,rfl⟩
 have HV:=Aside0.mk hv
 have HU:=Aside0.mk hU
 have HG:=Aside0.mk hG
 have HZ:=Aside0.mk hz
 have HR0:=Aside0.mk hr0
 have HC0:=Aside0.mk hc0
 have HR1:=Aside0.mk hr1
 have HC1:=Aside0.mk hc1
 have HR2:=Aside0.mk hr2
 have HC2:=Aside0.mk hc2
 have HR3:=Aside0.mk hr3
 have HC3:=Aside0.mk hc3
 have HB0:=Aside0.mk (below_alloc (Below.refl w.heap.size w) (.cells #[.slice A0 l0.length c0,.slice A1 l1.length c1,.slice A2 l2.length c2,.slice A3 l3.length c3] 26))
 have BX0:=Aside0.mk (heap_alloc_new w (.cells #[.slice A0 l0.length c0,.slice A1 l1.length c1,.slice A2 l2.length c2,.slice A3 l3.length c3] 26))
 clear hv hU hG hz hr0 hr1 hr2 hr3 hc0 hc1 hc2 hc3
 go_enter Tryd.func3,Tryd.ntmps3
 go_wp2_with (first
  | (go_at_call 9; (refine (awake_calls _ (HG.out.below HB0.out)).mono ?_); rintro e1 w1 ⟨rfl,hb⟩; have HB1:=Aside0.mk (below_then HB0.out HB0.out.size hb); have BX1:=Aside0.mk (blk_below BX0.out hb); have y0:=blk_cell BX1.out 0; have y1:=blk_cell BX1.out 1; have y2:=blk_cell BX1.out 2; have y3:=blk_cell BX1.out 3; clear hb)
  | (go_at_call 10; (refine (rverify_at A0 c0 l0 A1 c1 l1 A2 c2 l2 A3 c3 l3 s r k e a _ (Kd.C_below HR0.out HB1.out) HC0.out (Kd.C_below HR1.out HB1.out) HC1.out (Kd.C_below HR2.out HB1.out) HC2.out (Kd.C_below HR3.out HB1.out) HC3.out HU.out HV.out).mono ?_); rintro e2 w2 ⟨rfl,hb⟩; have HB2:=Aside0.mk (below_alloc (below_then HB1.out HB1.out.size hb) (.cells (limC s r k) 29)); have BX2:=Aside0.mk (blk_alloc (blk_below BX1.out hb) (.cells (limC s r k) 29)); have BL2:=Aside0.mk (heap_alloc_new w2 (.cells (limC s r k) 29)); have y0:=blk_cell BX2.out 0; have y1:=blk_cell BX2.out 1; have y2:=blk_cell BX2.out 2; have y3:=blk_cell BX2.out 3; clear hb)
  | (go_at_call 11; (refine (isthmuslaw18_Lent.calls A0 c0 l0 A1 c1 l1 A2 c2 l2 A3 c3 l3 _ (Kd.C_below HR0.out HB2.out) HC0.out (Kd.C_below HR1.out HB2.out) HC1.out (Kd.C_below HR2.out HB2.out) HC2.out (Kd.C_below HR3.out HB2.out) HC3.out HZ.out).mono ?_); rintro e3 w3 ⟨g0,d0,g1,d1,g2,d2,g3,d3,rfl,hl0,e0_,hl1,e1_,hl2,e2_,hl3,e3_,hb⟩; have HD0:=Aside0.mk e0_; have HL0:=Aside0.mk hl0; have HD1:=Aside0.mk e1_; have HL1:=Aside0.mk hl1; have HD2:=Aside0.mk e2_; have HL2:=Aside0.mk hl2; have HD3:=Aside0.mk e3_; have HL3:=Aside0.mk hl3; have HO3:=Aside0.mk (below_alloc (Below.refl w3.heap.size w3) (.cells #[.slice (some ⟨g0,0,none⟩) l0.length d0,.slice (some ⟨g1,0,none⟩) l1.length d1,.slice (some ⟨g2,0,none⟩) l2.length d2,.slice (some ⟨g3,0,none⟩) l3.length d3] 26)); have HB3:=Aside0.mk (below_alloc (below_then HB2.out HB2.out.size hb) (.cells #[.slice (some ⟨g0,0,none⟩) l0.length d0,.slice (some ⟨g1,0,none⟩) l1.length d1,.slice (some ⟨g2,0,none⟩) l2.length d2,.slice (some ⟨g3,0,none⟩) l3.length d3] 26)); have BX3:=Aside0.mk (blk_alloc (blk_below BX2.out hb) (.cells #[.slice (some ⟨g0,0,none⟩) l0.length d0,.slice (some ⟨g1,0,none⟩) l1.length d1,.slice (some ⟨g2,0,none⟩) l2.length d2,.slice (some ⟨g3,0,none⟩) l3.length d3] 26)); have BL3:=Aside0.mk (blk_alloc (blk_below BL2.out hb) (.cells #[.slice (some ⟨g0,0,none⟩) l0.length d0,.slice (some ⟨g1,0,none⟩) l1.length d1,.slice (some ⟨g2,0,none⟩) l2.length d2,.slice (some ⟨g3,0,none⟩) l3.length d3] 26)); have BO3:=Aside0.mk (heap_alloc_new w3 (.cells #[.slice (some ⟨g0,0,none⟩) l0.length d0,.slice (some ⟨g1,0,none⟩) l1.length d1,.slice (some ⟨g2,0,none⟩) l2.length d2,.slice (some ⟨g3,0,none⟩) l3.length d3] 26)); clear hb hl0 hl1 hl2 hl3 e0_ e1_ e2_ e3_ y0 y1 y2 y3))
 clear HB1 BX1 BX2 BL2
 go_loopw [8] (fun v8 w'=>∃ j:Nat,v8=.int .i64 (j:Nat)∧j≤2∧Aside0 (Below (w3.alloc (.cells #[.slice (some ⟨g0,0,none⟩) l0.length d0,.slice (some ⟨g1,0,none⟩) l1.length d1,.slice (some ⟨g2,0,none⟩) l2.length d2,.slice (some ⟨g3,0,none⟩) l3.length d3] 26)).heap.size (w3.alloc (.cells #[.slice (some ⟨g0,0,none⟩) l0.length d0,.slice (some ⟨g1,0,none⟩) l1.length d1,.slice (some ⟨g2,0,none⟩) l2.length d2,.slice (some ⟨g3,0,none⟩) l3.length d3] 26)) w')) (fun v8 _=>2 - (intOf v8).toNat)
 case atStart=>exact ⟨0,rfl,by decide,⟨Below.refl _ _⟩⟩
 case round =>
  obtain ⟨j,rfl,hj,HW⟩:=hrel
  have HBW:=Aside0.mk (below_then HB3.out HB3.out.size HW.out)
  have HOW:=Aside0.mk (below_then HO3.out HO3.out.size HW.out)
  have BX:=Aside0.mk (blk_below BX3.out HW.out)
  have BL:=Aside0.mk (blk_below BL3.out HW.out)
  have BO:=Aside0.mk (blk_below BO3.out HW.out)
  have ej:wrap64 ((j:Int)+1)=(j:Int)+1:=Lex.w64_id (by omega) (by omega)
  have y0:=blk_cell BO.out 0
  have y1:=blk_cell BO.out 1
  have y2:=blk_cell BO.out 2
  have y3:=blk_cell BO.out 3
  by_cases hlt:j < 2
  ·have q2:decide ((j:Int) < 2)=true:=decide_eq_true (by omega)
   go_wp2_with (first
    | (go_at_call 12; (refine (verify_at (some ⟨g0,0,none⟩) d0 l0 (some ⟨g1,0,none⟩) d1 l1 (some ⟨g2,0,none⟩) d2 l2 (some ⟨g3,0,none⟩) d3 l3 s r k e a _ (C_init (Kd.C_below HD0.out HOW.out)) (Nat.le_of_succ_le HL0.out) (C_init (Kd.C_below HD1.out HOW.out)) (Nat.le_of_succ_le HL1.out) (C_init (Kd.C_below HD2.out HOW.out)) (Nat.le_of_succ_le HL2.out) (C_init (Kd.C_below HD3.out HOW.out)) (Nat.le_of_succ_le HL3.out) HU.out (HG.out.below HBW.out) HV.out).mono ?_); rintro e5 w5 ⟨rfl,hb⟩; have hbl:=below_alloc hb (.cells (limC s r k) 29); have HW5:=Aside0.mk (below_alloc (below_then HW.out HW.out.size hb) (.cells (limC s r k) 29)); have HBW5:=Aside0.mk (below_then HB3.out HB3.out.size HW5.out); have HOW5:=Aside0.mk (below_then HO3.out HO3.out.size HW5.out); have BX5:=Aside0.mk (blk_below BX.out hbl); have BL5:=Aside0.mk (blk_below BL.out hbl); have BO5:=Aside0.mk (blk_below BO.out hbl); have BM5:=Aside0.mk (heap_alloc_new w5 (.cells (limC s r k) 29)); have y0:=blk_cell BO5.out 0; have y1:=blk_cell BO5.out 1; have y2:=blk_cell BO5.out 2; have y3:=blk_cell BO5.out 3; have x0:=blk_cell BX5.out 0; have x1:=blk_cell BX5.out 1; have x2:=blk_cell BX5.out 2; have x3:=blk_cell BX5.out 3; clear hb hbl)
    | (go_at_call 13; (refine (isthmuslaw18_Kept.calls (some ⟨g0,0,none⟩) d0 l0 (some ⟨g1,0,none⟩) d1 l1 (some ⟨g2,0,none⟩) d2 l2 (some ⟨g3,0,none⟩) d3 l3 A0 c0 A1 c1 A2 c2 A3 c3 _ (Kd.C_below HD0.out HOW5.out) HL0.out (Kd.C_below HD1.out HOW5.out) HL1.out (Kd.C_below HD2.out HOW5.out) HL2.out (Kd.C_below HD3.out HOW5.out) HL3.out (Kd.C_below HR0.out HBW5.out) HC0.out (Kd.C_below HR1.out HBW5.out) HC1.out (Kd.C_below HR2.out HBW5.out) HC2.out (Kd.C_below HR3.out HBW5.out) HC3.out).mono ?_); rintro e6 w6 ⟨rfl,hb⟩; have HW6:=Aside0.mk (below_then HW5.out HW5.out.size hb); have BL6:=Aside0.mk (blk_below BL5.out hb); have BM6:=Aside0.mk (blk_below BM5.out hb); have p0:=blk_cell BL6.out 0; have p1:=blk_cell BL6.out 1; have p2:=blk_cell BL6.out 2; have m0:=blk_cell BM6.out 0; have m1:=blk_cell BM6.out 1; have m2:=blk_cell BM6.out 2; clear hb x0 x1 x2 x3 y0 y1 y2 y3))
   go_roundw
   case rel=>exact ⟨j+1,(by first|rfl|simp),by omega,HW6⟩
   case measure=>simp [intOf]; try omega
  ·have q2:decide ((j:Int) < 2)=false:=decide_eq_false (by omega)
   go_wp2_with fail
   go_ret
   exact ⟨rfl,HBW.out⟩
set_option maxHeartbeats 8000000 in
set_option maxRecDepth 100000 in
theorem words_calls (A0:Option Addr) (c0:Nat) (l:List SRaw) (A1:Option Addr) (c1:Nat) (l1:List Int) (w:World) (hr0:Kd.C kRaw w A0 l.length l) (hc0:l.length≤c0) (hr1:Kd.C (Kd.int .i64) w A1 l1.length l1) (hc1:l1.length≤c1)
  (hRW:∀ x∈l,RW x) (hz:l.length*24≤140737488351232) (hz1:l1.length*8≤140737488351232) (hG:Glob w) :
  Calls Tryd.prog 4 #[.slice A0 l.length c0,.slice A1 l1.length c1] w fun e w'=>e=.returned (.bool true)∧Below w.heap.size w w':=by
 obtain ⟨ws,hws⟩:∃ ws,ws=l.map wdV:=⟨_,rfl⟩
 have HF:=Aside0.mk (hws ▸ code_f hRW (by omega))
 have HU:=Aside0.mk (hws ▸ code_u hRW)
 have hlen:ws.length=l.length:=by rw [hws]; simp
 have HZ:=Aside0.mk (show ws.length*8≤140737488351232∧l1.length*8≤140737488351232∧([few]:List ByteArray).length*16≤140737488351232∧([1,2,3]:List Int).length*8≤140737488351232 from ⟨by omega,hz1,by decide,by decide⟩)
 have HW:=Aside0.mk (below_alloc (below_alloc (Below.refl w.heap.size w) (.cells (([few]:List ByteArray).map Value.string).toArray 9)) (.cells (([1,2,3]:List Int).map (Value.int .i64)).toArray 3))
 have HN:=Aside0.mk (Kd.C_below (strs_C w [few] (by decide)) (below_alloc (Below.refl _ _) (.cells (([1,2,3]:List Int).map (Value.int .i64)).toArray 3)))
 have hi:=ints_C (w.alloc (.cells (([few]:List ByteArray).map Value.string).toArray 9)) [1,2,3] (by decide)
 have z1:(w.alloc (.cells (([few]:List ByteArray).map Value.string).toArray 9)).heap.size=w.heap.size+1:=by simp
 rw [z1] at hi
 have HI:=Aside0.mk hi
 have HR0:=Aside0.mk hr0
 have HR1:=Aside0.mk hr1
 have HC0:=Aside0.mk hc0
 have HC1:=Aside0.mk hc1
 have HG:=Aside0.mk hG
 clear hi z1 hws hRW hz hz1 hlen hr0 hr1 hc0 hc1 hG
 go_enter Tryd.func4,Tryd.ntmps4
 go_wp2_with (first
  | (go_at_call 14; (refine (isthmuslaw18_Code.calls A0 c0 l A1 c1 l1 (some ⟨w.heap.size,0,none⟩) 1 [few] (some ⟨w.heap.size+1,0,none⟩) 3 [1,2,3] true ws _ (Kd.C_below HR0.out HW.out) HC0.out HF.out).mono ?_); rintro e2 w2 ⟨v0,rfl,hR,hb⟩; obtain ⟨Aw,cw,rfl,hlw,hCw⟩:=Kd.R_reads hR; have HB2:=Aside0.mk (below_step HW.out hb); have HCW:=Aside0.mk hCw; have HLW:=Aside0.mk hlw; have HN2:=Aside0.mk (Kd.C_below HN.out hb); have HI2:=Aside0.mk (Kd.C_below HI.out hb); clear hR hb hCw hlw)
  | (go_at_call 3; (refine (looks3_calls Aw cw ws A1 c1 l1 (some ⟨w.heap.size,0,none⟩) 1 [few] (some ⟨w.heap.size+1,0,none⟩) 3 [1,2,3] _ HCW.out HLW.out (Kd.C_below HR1.out HB2.out) HC1.out HN2.out (by decide) HI2.out (by decide) HZ.out HU.out (HG.out.below HB2.out)).mono ?_); rintro e3 w3 ⟨rfl,hb⟩; have HB3:=Aside0.mk (below_then HB2.out HB2.out.size hb); clear hb))
 go_ret
 exact ⟨rfl,HB3.out⟩
end Go.Proofs.YtcmdjpolgaejoaaDoor.Gd
namespace Go.Proofs.YtcmdjpolgaejoaaDoor
open Go.ChangeShapes Go.WideShapes Go.ChangeAt Go.RowKit
namespace Laid
theorem gF:Tryd.prog.globalNamed "isthmus/pack.fields"=some 0:=by kernel_rfl
theorem tF:(Tryd.prog.globals[0]?).map (·.type)=some 129:=by kernel_rfl
abbrev laid1:List (String×DataW Unit):=[("isthmus/pack.fields",Rows.laid_isthmus_pack_fields)]
theorem door_met (os:Os) (args:Array Value):laidMetH Tryd.prog laid1 ((World.doorLaid Tryd.prog 400 os).forCall (fun _ _=>0) ⟨#[],args,[]⟩).memory :=
 laidMetH_of_parts3 (fuel:=8) (laidMet_of_run' 8 (by kernel_rfl) (by kernel_rfl)) (by kernel_rfl) (by kernel_rfl)
theorem one_int {H:Type} {enc:TypeId×Value→H} {w:World} {m:Nat} {cs:List Value} {x:DataW H×List MemPlace} {k:Int} (h:DataW.trod enc Tryd.prog w 0 (fun _=>true) false m 110 cs=some x) (e:x.1=.lit (.int .u64 k)):cs=[.int .u64 k]:=by
 obtain ⟨n,e1,e2,_⟩:=DataW.trod_int Tryd.underlying110 h
 subst e2
 simp only [DataW.lit.injEq,Lit.int.injEq,true_and] at e
 subst e
 exact e1
theorem one_field {w:World} {m:Nat} {cs:List Value} {x:DataW Unit×List MemPlace} {a b:Int} {enc:TypeId×Value→Unit} (h:DataW.trod enc Tryd.prog w 0 (fun _=>true) false m 128 cs=some x) (e:x.1=.agg [.lit (.int .u64 a),.lit (.int .u64 b)]):cs=[.int .u64 a,.int .u64 b]:=by
 obtain ⟨y0,y1,n,rfl,hl,h0,h1⟩:=trod_struct2 Tryd.underlying128 h
 have c42:Tryd.prog.cellsOf 110=1:=by kernel_rfl
 have c46:Tryd.prog.cellsOf 128=2:=by kernel_rfl
 rw [c46] at hl
 rw [c42] at h0 h1
 simp only [DataW.agg.injEq,List.cons.injEq,and_true] at e
 match cs,hl with
 | [c0,c1],_ =>
  have e0:=one_int h0 e.1
  have e1:=one_int h1 e.2
  simp at e0 e1
  rw [e0,e1]
set_option maxRecDepth 100000 in
theorem of_laid {W:World} (h:laidMetH Tryd.prog laid1 W):C.Glob W:=by
 rw [MakeChecks.laidMetH_plain _ _ _ (by kernel_rfl)] at h
 obtain ⟨ps,⟨g0,t0,cs0,f0,p0,q0,hg0,ht0,hv0,hd0,_,_⟩,_⟩:=h
 obtain rfl:=Option.some.inj (gF.symm.trans hg0)
 obtain rfl:=Option.some.inj (tF.symm.trans ht0)
 obtain ⟨xs,m1,rfl,hx1,hlen,hn3,hel⟩:=DataW.trod_array Tryd.underlying129 hd0
 have c46:Tryd.prog.cellsOf 128=2:=by kernel_rfl
 have c47:Tryd.prog.cellsOf 129=6:=by kernel_rfl
 rw [c46] at hel
 rw [c47] at hlen
 have e0:=hel 0 (by decide)
 have e1:=hel 1 (by decide)
 have e2:=hel 2 (by decide)
 have hc:∀ i,W.cell? ⟨0,i,none⟩=cs0[i]? := fun i=>World.var?_cell hg0 hv0 i
 obtain ⟨l⟩:=cs0
 simp only [Prod.mk.injEq,Rows.laid_isthmus_pack_fields,DataW.agg.injEq] at hx1
 obtain ⟨c0,c1,c2,c3,c4,c5,rfl⟩:∃ c0 c1 c2 c3 c4 c5,l=[c0,c1,c2,c3,c4,c5]:=by
  match l,hlen with
  | [c0,c1,c2,c3,c4,c5],_=>exact ⟨_,_,_,_,_,_,rfl⟩
 match xs,hn3,hx1,e0,e1,e2 with
 | [x0,x1,x2],_,hx1,e0,e1,e2 =>
  simp only [List.map_cons,List.map_nil,List.cons.injEq,and_true] at hx1
  have a0:=one_field e0 hx1.1.1.symm
  have a1:=one_field e1 hx1.1.2.1.symm
  have a2:=one_field e2 hx1.1.2.2.symm
  simp at a0 a1 a2
  obtain ⟨rfl,rfl⟩:=a0
  obtain ⟨rfl,rfl⟩:=a1
  obtain ⟨rfl,rfl⟩:=a2
  exact ⟨hc 0,hc 1,hc 2,hc 3,hc 4,hc 5⟩
end Laid
end Go.Proofs.YtcmdjpolgaejoaaDoor
