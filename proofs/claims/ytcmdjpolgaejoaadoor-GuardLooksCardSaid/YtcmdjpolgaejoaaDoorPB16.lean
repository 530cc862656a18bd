/- The laws GuardLooks, GuardWords of the program hold, as their cards say: texts put together by a program, 17 of 38. -/
import Derived.Test.YtcmdjpolgaejoaaDoorPB13
namespace Go.Proofs.YtcmdjpolgaejoaaDoor.C
open Go.RowKit Go.Proofs.YtcmdjpolgaejoaaDoorW.PrintWords Go.Proofs.YtcmdjpolgaejoaaDoorW.PrintLast Go.Proofs.YtcmdjpolgaejoaaDoorW.PrintMore
attribute [local go_sem] max2_int min2_int max_two min_two max_three min_three max_four min_four
set_option linter.unusedVariables false
set_option linter.unusedSimpArgs false
def cmp_isNaN_string.f (a0:ByteArray):Option (Bool):=some (a0.toList != a0.toList)
set_option maxHeartbeats 8000000 in
set_option maxRecDepth 100000 in
theorem cmp_isNaN_string.calls (a0:ByteArray) (r:Bool) (w:World) (h:cmp_isNaN_string.f a0=some r) :
  Calls Tryd.prog 112 #[.string a0] w fun e w'=>e=.returned (.bool r)∧Drawn0 w w':=by
 have H:(some (a0.toList != a0.toList))=some r:=h
 clear h
 obtain rfl:=Option.some.inj H
 go_enter Tryd.func112,Tryd.ntmps112
 go_wp2
 go_ret
 exact ⟨by first|rfl|(simp; done)|(simp [*]; done),by repeat (first|exact Drawn0.refl _|apply Drawn0.step)⟩
def cmp_Less_string.f (a0:ByteArray) (a1:ByteArray):Option (Bool):=(cmp_isNaN_string.f a0).bind fun t102=>(if t102=true then ((cmp_isNaN_string.f a1).bind fun t103=>(if t103=true then (some (Op.bytesLess a0.toList a1.toList)) else (some true))) else (some (Op.bytesLess a0.toList a1.toList)))
set_option maxHeartbeats 8000000 in
set_option maxRecDepth 100000 in
theorem cmp_Less_string.calls (a0:ByteArray) (a1:ByteArray) (r:Bool) (w:World) (h:cmp_Less_string.f a0 a1=some r) :
  Calls Tryd.prog 106 #[.string a0,.string a1] w fun e w'=>e=.returned (.bool r)∧Drawn0 w w':=by
 have H:((cmp_isNaN_string.f a0).bind fun t102=>(if t102=true then ((cmp_isNaN_string.f a1).bind fun t103=>(if t103=true then (some (Op.bytesLess a0.toList a1.toList)) else (some true))) else (some (Op.bytesLess a0.toList a1.toList))))=some r:=h
 clear h
 replace H:=Option.bind_eq_some_iff.mp H
 obtain ⟨t102,A30,H⟩:=H
 replace H:(if t102=true then ((cmp_isNaN_string.f a1).bind fun t103=>(if t103=true then (some (Op.bytesLess a0.toList a1.toList)) else (some true))) else (some (Op.bytesLess a0.toList a1.toList)))=some r:=H
 have A3:=Aside0.mk A30
 clear A30
 by_cases c4:t102=true
 ·subst c4
  have H1:((cmp_isNaN_string.f a1).bind fun t103=>(if t103=true then (some (Op.bytesLess a0.toList a1.toList)) else (some true)))=some r:=by rw [if_pos rfl] at H; exact H
  clear H
  have H:=H1
  clear H1
  replace H:=Option.bind_eq_some_iff.mp H
  obtain ⟨t103,A50,H⟩:=H
  replace H:(if t103=true then (some (Op.bytesLess a0.toList a1.toList)) else (some true))=some r:=H
  have A5:=Aside0.mk A50
  clear A50
  by_cases c6:t103=true
  ·subst c6
   have H1:(some (Op.bytesLess a0.toList a1.toList))=some r:=by rw [if_pos rfl] at H; exact H
   clear H
   have H:=H1
   clear H1
   obtain rfl:=Option.some.inj H
   go_enter Tryd.func106,Tryd.ntmps106
   go_wp2_with (first|((with_reducible refine gate_callee (f:=112) rfl ?_); refine goesL_ (some 6) rfl rfl Tryd.func112 (by kernel_rfl) rfl #[.string a0] rfl (by (try simp only [List.map_toArray,List.map_cons,List.map_nil]); first|done|rfl|(simp only [List.length_drop,List.length_take]; rfl)) ?_; (with_reducible refine (cmp_isNaN_string.calls a0 true _ A3.out).mono ?_); rintro e w' ⟨rfl,⟨nd,rfl⟩⟩; refine ⟨_,rfl,?_⟩)|(go_at_call 112; (with_reducible refine (cmp_isNaN_string.calls a1 true _ A5.out).mono ?_); rintro e w' ⟨rfl,⟨nd,rfl⟩⟩))
   go_ret
   exact ⟨by first|rfl|(simp; done)|(simp [*]; done),by repeat (first|exact Drawn0.refl _|apply Drawn0.step)⟩
  ·replace c6:=Bool.eq_false_iff.mpr c6
   subst c6
   have H1:(some true)=some r:=by rw [if_neg (show ¬ (false=true) by decide)] at H; exact H
   clear H
   have H:=H1
   clear H1
   obtain rfl:=Option.some.inj H
   go_enter Tryd.func106,Tryd.ntmps106
   go_wp2_with (first|((with_reducible refine gate_callee (f:=112) rfl ?_); refine goesL_ (some 6) rfl rfl Tryd.func112 (by kernel_rfl) rfl #[.string a0] rfl (by (try simp only [List.map_toArray,List.map_cons,List.map_nil]); first|done|rfl|(simp only [List.length_drop,List.length_take]; rfl)) ?_; (with_reducible refine (cmp_isNaN_string.calls a0 true _ A3.out).mono ?_); rintro e w' ⟨rfl,⟨nd,rfl⟩⟩; refine ⟨_,rfl,?_⟩)|(go_at_call 112; (with_reducible refine (cmp_isNaN_string.calls a1 false _ A5.out).mono ?_); rintro e w' ⟨rfl,⟨nd,rfl⟩⟩))
   go_ret
   exact ⟨by first|rfl|(simp; done)|(simp [*]; done),by repeat (first|exact Drawn0.refl _|apply Drawn0.step)⟩
 ·replace c4:=Bool.eq_false_iff.mpr c4
  subst c4
  have H1:(some (Op.bytesLess a0.toList a1.toList))=some r:=by rw [if_neg (show ¬ (false=true) by decide)] at H; exact H
  clear H
  have H:=H1
  clear H1
  obtain rfl:=Option.some.inj H
  go_enter Tryd.func106,Tryd.ntmps106
  go_wp2_with (first|((with_reducible refine gate_callee (f:=112) rfl ?_); refine goesL_ (some 6) rfl rfl Tryd.func112 (by kernel_rfl) rfl #[.string a0] rfl (by (try simp only [List.map_toArray,List.map_cons,List.map_nil]); first|done|rfl|(simp only [List.length_drop,List.length_take]; rfl)) ?_; (with_reducible refine (cmp_isNaN_string.calls a0 false _ A3.out).mono ?_); rintro e w' ⟨rfl,⟨nd,rfl⟩⟩; refine ⟨_,rfl,?_⟩))
  go_ret
  exact ⟨by first|rfl|(simp; done)|(simp [*]; done),by repeat (first|exact Drawn0.refl _|apply Drawn0.step)⟩
def slices_isNaN_string.f (a0:ByteArray):Option (Bool):=some (a0.toList != a0.toList)
set_option maxHeartbeats 8000000 in
set_option maxRecDepth 100000 in
theorem slices_isNaN_string.calls (a0:ByteArray) (r:Bool) (w:World) (h:slices_isNaN_string.f a0=some r) :
  Calls Tryd.prog 107 #[.string a0] w fun e w'=>e=.returned (.bool r)∧Drawn0 w w':=by
 have H:(some (a0.toList != a0.toList))=some r:=h
 clear h
 obtain rfl:=Option.some.inj H
 go_enter Tryd.func107,Tryd.ntmps107
 go_wp2
 go_ret
 exact ⟨by first|rfl|(simp; done)|(simp [*]; done),by repeat (first|exact Drawn0.refl _|apply Drawn0.step)⟩
def slices_BinarySearch_string_string.l0:Nat→List ByteArray→ByteArray→Int→Int→Int→Option (Int×Bool)
 | 0,_,_,_,_,_=>none
 | k+1,x0,x1,x6,x7,x8=>if x7 < x8 then (if 0≤(wrap64 ((IntKind.u64.wrap (wrap64 (x7+x8))) / 2)) then (if (wrap64 ((IntKind.u64.wrap (wrap64 (x7+x8))) / 2)) < (x0.length:Int) then ((cmp_Less_string.f (rdOf ByteArray.empty x0 (wrap64 ((IntKind.u64.wrap (wrap64 (x7+x8))) / 2))) x1).bind fun t105=>(if t105=true then (slices_BinarySearch_string_string.l0 k x0 x1 x6 (wrap64 ((wrap64 ((IntKind.u64.wrap (wrap64 (x7+x8))) / 2))+1)) x8) else (slices_BinarySearch_string_string.l0 k x0 x1 x6 x7 (wrap64 ((IntKind.u64.wrap (wrap64 (x7+x8))) / 2))))) else (none)) else (none)) else (if x7 < x6 then (if 0≤x7 then (if x7 < (x0.length:Int) then (if (rdOf ByteArray.empty x0 x7).toList=x1.toList then (some (x7,true)) else ((slices_isNaN_string.f (rdOf ByteArray.empty x0 x7)).bind fun t108=>(if t108=true then ((slices_isNaN_string.f x1).bind fun t109=>(some (x7,t109))) else (some (x7,false))))) else (none)) else (none)) else (some (x7,false)))
def slices_BinarySearch_string_string.f (k:Nat) (l0:List ByteArray) (a1:ByteArray):Option (Int×Bool):=slices_BinarySearch_string_string.l0 k l0 a1 (l0.length:Int) 0 (l0.length:Int)
theorem slices_BinarySearch_string_string.mono_l:∀ k,(∀ y0 y1 y2 y3 y4,LeO (slices_BinarySearch_string_string.l0 k y0 y1 y2 y3 y4) (slices_BinarySearch_string_string.l0 (k+1) y0 y1 y2 y3 y4))
 | 0=>fun _ _ _ _ _ r h=>by simp [slices_BinarySearch_string_string.l0] at h
 | k+1=>by
  have ih0:=slices_BinarySearch_string_string.mono_l k
  ·intro y0 y1 y2 y3 y4
   unfold slices_BinarySearch_string_string.l0
   repeat' first
   | (with_reducible exact ih0 _ _ _ _ _)
   | (with_reducible exact LeO.refl _)
   | (with_reducible exact LeO.none _)
   | (with_reducible refine LeO.ite ?_ ?_)
   | (with_reducible refine LeO.bind ?_ (fun _=>?_))
   | exact ih0 _ _ _ _ _
   | exact LeO.none _
   | refine LeO.ite ?_ ?_
   | refine LeO.bind ?_ (fun _=>?_)
theorem slices_BinarySearch_string_string.mono:∀ a0 a1 k,LeO (slices_BinarySearch_string_string.f k a0 a1) (slices_BinarySearch_string_string.f (k+1) a0 a1):=by
 intro a0 a1 k
 have ih0:=slices_BinarySearch_string_string.mono_l k
 unfold slices_BinarySearch_string_string.f
 repeat' first
   | (with_reducible exact ih0 _ _ _ _ _)
   | (with_reducible exact LeO.refl _)
   | (with_reducible exact LeO.none _)
   | (with_reducible refine LeO.ite ?_ ?_)
   | (with_reducible refine LeO.bind ?_ (fun _=>?_))
   | exact ih0 _ _ _ _ _
   | exact LeO.none _
   | refine LeO.ite ?_ ?_
   | refine LeO.bind ?_ (fun _=>?_)
set_option maxHeartbeats 8000000 in
set_option maxRecDepth 100000 in
theorem slices_BinarySearch_string_string.calls (k:Nat) (A0:Option Addr) (c0:Nat) (l0:List ByteArray) (a1:ByteArray) (r1:Int) (r2:Bool) (w:World) (hr0:Kd.C Kd.string w A0 l0.length l0) (hc0:l0.length≤c0) (h:slices_BinarySearch_string_string.f k l0 a1=some (r1,r2)) :
  Calls Tryd.prog 102 #[.slice A0 l0.length c0,.string a1] w fun e w'=>e=.returned (.tuple #[.int .i64 r1,.bool r2])∧Drawn0 w w':=by
 have HR0:=Aside0.mk hr0
 have HC0:=Aside0.mk hc0
 clear hr0 hc0
 have H:(slices_BinarySearch_string_string.l0 k l0 a1 (l0.length:Int) 0 (l0.length:Int))=some (r1,r2):=h
 clear h
 have H':=Aside0.mk H
 clear H
 go_enter Tryd.func102,Tryd.ntmps102
 go_wp2
 go_loopg [7,8] k (fun kq v7 v8 w'=>∃ (x7_1:Int) (x8_1:Int),v7=.int .i64 x7_1∧v8=.int .i64 x8_1∧Aside0 (slices_BinarySearch_string_string.l0 kq l0 a1 (l0.length:Int) x7_1 x8_1=some (r1,r2))∧Aside0 (kq≤k)∧Drawn0 w w')
 case atStart=>exact ⟨(0),((l0.length:Int)),(by first|rfl|(simp; done)|(simp [*]; done)),(by first|rfl|(simp; done)|(simp [*]; done)),H',⟨Nat.le_refl _⟩,by repeat (first|exact Drawn0.refl _|apply Drawn0.step)⟩
 case round =>
  clear H'
  try clear c1
  try clear p2
  obtain ⟨x7_1,x8_1,rfl,rfl,HA,HK1,⟨m1,rfl⟩⟩:=hrel
  cases gk with
  | zero=>exact absurd HA.out (by simp [slices_BinarySearch_string_string.l0])
  | succ k1 =>
   have H:=HA.out
   clear HA
   simp only [slices_BinarySearch_string_string.l0] at H
   by_cases c3:x7_1 < x8_1
   ·rw [if_pos c3] at H
    have c3b0:decide (x7_1 < x8_1)=true:=decide_eq_true c3
    clear c3
    obtain ⟨ji4,hji4⟩:∃ j_:Int,(wrap64 ((IntKind.u64.wrap (wrap64 (x7_1+x8_1))) / 2))=j_:=⟨_,rfl⟩
    replace H:(if 0≤(ji4) then (if (ji4) < (l0.length:Int) then ((cmp_Less_string.f (rdOf ByteArray.empty l0 (ji4)) a1).bind fun t105=>(if t105=true then (slices_BinarySearch_string_string.l0 k1 l0 a1 (l0.length:Int) (wrap64 ((ji4)+1)) x8_1) else (slices_BinarySearch_string_string.l0 k1 l0 a1 (l0.length:Int) x7_1 ji4))) else (none)) else (none))=some (r1,r2):=by first|(rw [hji4] at H; exact H)|(simp only [hji4] at H ⊢; exact H)
    have hji4w:(IntKind.i64.wrap ((IntKind.u64.wrap (wrap64 (x7_1+x8_1))) / 2))=ji4:=(i64_w _).trans hji4
    by_cases c5:0≤(ji4)
    ·rw [if_pos c5] at H
     have c5b0:decide (0≤(ji4))=true:=decide_eq_true c5
     clear c5
     by_cases c6:(ji4) < (l0.length:Int)
     ·rw [if_pos c6] at H
      have c6b0:decide ((ji4) < (l0.length:Int))=true:=decide_eq_true c6
      clear c6
      replace H:=Option.bind_eq_some_iff.mp H
      obtain ⟨t105,A70,H⟩:=H
      replace H:(if t105=true then (slices_BinarySearch_string_string.l0 k1 l0 a1 (l0.length:Int) (wrap64 ((ji4)+1)) x8_1) else (slices_BinarySearch_string_string.l0 k1 l0 a1 (l0.length:Int) x7_1 ji4))=some (r1,r2):=H
      have A7:=Aside0.mk A70
      clear A70
      by_cases c8:t105=true
      ·subst c8
       have H1:(slices_BinarySearch_string_string.l0 k1 l0 a1 (l0.length:Int) (wrap64 ((ji4)+1)) x8_1)=some (r1,r2):=by rw [if_pos rfl] at H; exact H
       clear H
       have H:=H1
       clear H1
       have H':=Aside0.mk H
       clear H
       have p104:0≤((ji4):Int):=of_decide_eq_true (by first|(with_reducible assumption)|assumption)
       have q104:(ji4) < (l0.length:Int):=of_decide_eq_true (by first|(with_reducible assumption)|assumption)
       obtain ⟨ad104,e104,hx104_0⟩:=Kd.at_string HR0.out (ji4) p104 q104
       cases e104
       replace p104:=eq_true p104
       replace q104:=eq_true q104
       go_wp2_with (first|((with_reducible refine gate_callee (f:=106) rfl ?_); refine goesL_ (some 27) rfl rfl Tryd.func106 (by kernel_rfl) rfl #[.string (rdOf ByteArray.empty l0 (ji4)),.string a1] rfl (by (try simp only [List.map_toArray,List.map_cons,List.map_nil]); first|done|(simp only [hji4]; rfl)|rfl|(simp only [List.length_drop,List.length_take]; rfl)) ?_; (with_reducible refine (cmp_Less_string.calls (rdOf ByteArray.empty l0 (ji4)) a1 true _ A7.out).mono ?_); rintro e w' ⟨rfl,⟨nd,rfl⟩⟩; refine ⟨_,rfl,?_⟩))
       go_roundg k1
       case measure=>have:=HK1.out; omega
       case rel=>exact ⟨(wrap64 ((ji4)+1)),(x8_1),(by first|rfl|(simp; done)|(simp only [← hji4]<;>(first|rfl|simp))|(simp [*]; done)),(by first|rfl|(simp; done)|(simp [*]; done)),H',⟨by have:=HK1.out; omega⟩,by repeat (first|exact Drawn0.refl _|apply Drawn0.step)⟩
      ·replace c8:=Bool.eq_false_iff.mpr c8
       subst c8
       have H1:(slices_BinarySearch_string_string.l0 k1 l0 a1 (l0.length:Int) x7_1 ji4)=some (r1,r2):=by rw [if_neg (show ¬ (false=true) by decide)] at H; exact H
       clear H
       have H:=H1
       clear H1
       have H':=Aside0.mk H
       clear H
       have p104:0≤((ji4):Int):=of_decide_eq_true (by first|(with_reducible assumption)|assumption)
       have q104:(ji4) < (l0.length:Int):=of_decide_eq_true (by first|(with_reducible assumption)|assumption)
       obtain ⟨ad104,e104,hx104_0⟩:=Kd.at_string HR0.out (ji4) p104 q104
       cases e104
       replace p104:=eq_true p104
       replace q104:=eq_true q104
       go_wp2_with (first|((with_reducible refine gate_callee (f:=106) rfl ?_); refine goesL_ (some 27) rfl rfl Tryd.func106 (by kernel_rfl) rfl #[.string (rdOf ByteArray.empty l0 (ji4)),.string a1] rfl (by (try simp only [List.map_toArray,List.map_cons,List.map_nil]); first|done|(simp only [hji4]; rfl)|rfl|(simp only [List.length_drop,List.length_take]; rfl)) ?_; (with_reducible refine (cmp_Less_string.calls (rdOf ByteArray.empty l0 (ji4)) a1 false _ A7.out).mono ?_); rintro e w' ⟨rfl,⟨nd,rfl⟩⟩; refine ⟨_,rfl,?_⟩))
       go_roundg k1
       case measure=>have:=HK1.out; omega
       case rel=>exact ⟨(x7_1),(ji4),(by first|rfl|(simp; done)|(simp [*]; done)),(by first|rfl|(simp; done)|(simp only [← hji4]<;>(first|rfl|simp))|(simp [*]; done)),H',⟨by have:=HK1.out; omega⟩,by repeat (first|exact Drawn0.refl _|apply Drawn0.step)⟩
     ·rw [if_neg c6] at H
      exact absurd H (by simp)
    ·rw [if_neg c5] at H
     exact absurd H (by simp)
   ·rw [if_neg c3] at H
    have c3b0:decide (x7_1 < x8_1)=false:=decide_eq_false c3
    clear c3
    by_cases c9:x7_1 < (l0.length:Int)
    ·rw [if_pos c9] at H
     have c9b0:decide (x7_1 < (l0.length:Int))=true:=decide_eq_true c9
     clear c9
     by_cases c10:0≤x7_1
     ·rw [if_pos c10] at H
      have c10b0:decide (0≤x7_1)=true:=decide_eq_true c10
      clear c10
      by_cases c11:x7_1 < (l0.length:Int)
      ·rw [if_pos c11] at H
       have c11b0:decide (x7_1 < (l0.length:Int))=true:=decide_eq_true c11
       clear c11
       by_cases c12:(rdOf ByteArray.empty l0 x7_1).toList=a1.toList
       ·rw [if_pos c12] at H
        have c12b0:((rdOf ByteArray.empty l0 x7_1).toList == a1.toList)=true:=beq_iff_eq.mpr c12
        have c12b1:((rdOf ByteArray.empty l0 x7_1).toList != a1.toList)=false:=bne_eq_false_iff_eq.mpr c12
        clear c12
        simp only [Option.some.injEq,Prod.mk.injEq] at H
        obtain ⟨rfl,rfl⟩:=H
        have p106:0≤(x7_1:Int):=of_decide_eq_true (by first|(with_reducible assumption)|assumption)
        have q106:x7_1 < (l0.length:Int):=of_decide_eq_true (by first|(with_reducible assumption)|assumption)
        obtain ⟨ad106,e106,hx106_0⟩:=Kd.at_string HR0.out x7_1 p106 q106
        cases e106
        replace p106:=eq_true p106
        replace q106:=eq_true q106
        go_wp2
        go_ret2
        exact ⟨by first|rfl|(simp; done)|(simp [*]; done),by repeat (first|exact Drawn0.refl _|apply Drawn0.step)⟩
       ·rw [if_neg c12] at H
        have c12b0:((rdOf ByteArray.empty l0 x7_1).toList == a1.toList)=false:=beq_eq_false_iff_ne.mpr c12
        have c12b1:((rdOf ByteArray.empty l0 x7_1).toList != a1.toList)=true:=bne_iff_ne.mpr c12
        replace H:=Option.bind_eq_some_iff.mp H
        obtain ⟨t108,A130,H⟩:=H
        replace H:(if t108=true then ((slices_isNaN_string.f a1).bind fun t109=>(some (x7_1,t109))) else (some (x7_1,false)))=some (r1,r2):=H
        have A13:=Aside0.mk A130
        clear A130
        by_cases c14:t108=true
        ·subst c14
         have H1:((slices_isNaN_string.f a1).bind fun t109=>(some (x7_1,t109)))=some (r1,r2):=by rw [if_pos rfl] at H; exact H
         clear H
         have H:=H1
         clear H1
         replace H:=Option.bind_eq_some_iff.mp H
         obtain ⟨t109,A150,H⟩:=H
         replace H:(some (x7_1,t109))=some (r1,r2):=H
         have A15:=Aside0.mk A150
         clear A150
         simp only [Option.some.injEq,Prod.mk.injEq] at H
         obtain ⟨rfl,rfl⟩:=H
         have p106:0≤(x7_1:Int):=of_decide_eq_true (by first|(with_reducible assumption)|assumption)
         have q106:x7_1 < (l0.length:Int):=of_decide_eq_true (by first|(with_reducible assumption)|assumption)
         obtain ⟨ad106,e106,hx106_0⟩:=Kd.at_string HR0.out x7_1 p106 q106
         cases e106
         replace p106:=eq_true p106
         replace q106:=eq_true q106
         have p107:0≤(x7_1:Int):=of_decide_eq_true (by first|(with_reducible assumption)|assumption)
         have q107:x7_1 < (l0.length:Int):=of_decide_eq_true (by first|(with_reducible assumption)|assumption)
         obtain ⟨ad107,e107,hx107_0⟩:=Kd.at_string HR0.out x7_1 p107 q107
         obtain rfl:ad106=ad107:=(by injection e107)
         replace p107:=eq_true p107
         replace q107:=eq_true q107
         go_wp2_with (first|(go_at_call 107; (with_reducible refine (slices_isNaN_string.calls (rdOf ByteArray.empty l0 x7_1) true _ A13.out).mono ?_); rintro e w' ⟨rfl,⟨nd,rfl⟩⟩)|(go_at_call 107; (with_reducible refine (slices_isNaN_string.calls a1 t109 _ A15.out).mono ?_); rintro e w' ⟨rfl,⟨nd,rfl⟩⟩))
         go_ret2
         exact ⟨by first|rfl|(simp; done)|(simp [*]; done),by repeat (first|exact Drawn0.refl _|apply Drawn0.step)⟩
        ·replace c14:=Bool.eq_false_iff.mpr c14
         subst c14
         have H1:(some (x7_1,false))=some (r1,r2):=by rw [if_neg (show ¬ (false=true) by decide)] at H; exact H
         clear H
         have H:=H1
         clear H1
         simp only [Option.some.injEq,Prod.mk.injEq] at H
         obtain ⟨rfl,rfl⟩:=H
         have p106:0≤(x7_1:Int):=of_decide_eq_true (by first|(with_reducible assumption)|assumption)
         have q106:x7_1 < (l0.length:Int):=of_decide_eq_true (by first|(with_reducible assumption)|assumption)
         obtain ⟨ad106,e106,hx106_0⟩:=Kd.at_string HR0.out x7_1 p106 q106
         cases e106
         replace p106:=eq_true p106
         replace q106:=eq_true q106
         have p107:0≤(x7_1:Int):=of_decide_eq_true (by first|(with_reducible assumption)|assumption)
         have q107:x7_1 < (l0.length:Int):=of_decide_eq_true (by first|(with_reducible assumption)|assumption)
         obtain ⟨ad107,e107,hx107_0⟩:=Kd.at_string HR0.out x7_1 p107 q107
         obtain rfl:ad106=ad107:=(by injection e107)
         replace p107:=eq_true p107
         replace q107:=eq_true q107
         go_wp2_with (first|(go_at_call 107; (with_reducible refine (slices_isNaN_string.calls (rdOf ByteArray.empty l0 x7_1) false _ A13.out).mono ?_); rintro e w' ⟨rfl,⟨nd,rfl⟩⟩))
         go_ret2
         exact ⟨by first|rfl|(simp; done)|(simp [*]; done),by repeat (first|exact Drawn0.refl _|apply Drawn0.step)⟩
      ·rw [if_neg c11] at H
       exact absurd H (by simp)
     ·rw [if_neg c10] at H
      exact absurd H (by simp)
    ·rw [if_neg c9] at H
     have c9b0:decide (x7_1 < (l0.length:Int))=false:=decide_eq_false c9
     clear c9
     simp only [Option.some.injEq,Prod.mk.injEq] at H
     obtain ⟨rfl,rfl⟩:=H
     go_wp2
     go_ret2
     exact ⟨by first|rfl|(simp; done)|(simp [*]; done),by repeat (first|exact Drawn0.refl _|apply Drawn0.step)⟩
def lex_isWord.f (k:Nat) (a0:ByteArray):Option (Bool):=(slices_BinarySearch_string_string.f k (([(⟨#[97,108,108]⟩:ByteArray),(⟨#[97,110,100]⟩:ByteArray),(⟨#[97,114,111,117,110,100]⟩:ByteArray),(⟨#[98,108,111,99,107]⟩:ByteArray),(⟨#[98,111,116,116,108,101,110,101,99,107]⟩:ByteArray),(⟨#[99,111,110,110,101,99,116,101,100]⟩:ByteArray),(⟨#[99,111,117,110,116]⟩:ByteArray),(⟨#[100,101,103,114,101,101]⟩:ByteArray),(⟨#[101,108,115,101]⟩:ByteArray),(⟨#[102,97,108,115,101]⟩:ByteArray),(⟨#[105,102]⟩:ByteArray),(⟨#[105,110]⟩:ByteArray),(⟨#[108,101,97,115,116]⟩:ByteArray),(⟨#[109,97,120]⟩:ByteArray),(⟨#[109,105,110]⟩:ByteArray),(⟨#[109,111,115,116]⟩:ByteArray),(⟨#[110,111,116]⟩:ByteArray),(⟨#[111,114]⟩:ByteArray),(⟨#[114,101,112]⟩:ByteArray),(⟨#[115,105,122,101]⟩:ByteArray),(⟨#[115,111,109,101]⟩:ByteArray),(⟨#[115,117,109]⟩:ByteArray),(⟨#[116,104,101,110]⟩:ByteArray),(⟨#[116,111,116,97,108]⟩:ByteArray),(⟨#[116,114,117,101]⟩:ByteArray),(⟨#[118,97,108,117,101]⟩:ByteArray),(⟨#[118,101,114,116,105,99,101,115]⟩:ByteArray)]:List ByteArray)) a0).bind fun bt113=>(some bt113.2)
theorem lex_isWord.mono:∀ a0 k,LeO (lex_isWord.f k a0) (lex_isWord.f (k+1) a0):=by
 intro a0 k
 unfold lex_isWord.f
 repeat' first
   | (with_reducible exact slices_BinarySearch_string_string.mono _ _ _)
   | (with_reducible exact LeO.refl _)
   | (with_reducible exact LeO.none _)
   | (with_reducible refine LeO.ite ?_ ?_)
   | (with_reducible refine LeO.bind ?_ (fun _=>?_))
   | exact slices_BinarySearch_string_string.mono _ _ _
   | exact LeO.none _
   | refine LeO.ite ?_ ?_
   | refine LeO.bind ?_ (fun _=>?_)
set_option maxHeartbeats 8000000 in
set_option maxRecDepth 100000 in
theorem lex_isWord.calls (k:Nat) (a0:ByteArray) (r:Bool) (w:World) (h:lex_isWord.f k a0=some r) :
  Calls Tryd.prog 81 #[.string a0] w fun e w'=>e=.returned (.bool r)∧Below w.heap.size w w':=by
 have HB:=Aside0.mk (Below.refl w.heap.size w)
 have H:((slices_BinarySearch_string_string.f k (([(⟨#[97,108,108]⟩:ByteArray),(⟨#[97,110,100]⟩:ByteArray),(⟨#[97,114,111,117,110,100]⟩:ByteArray),(⟨#[98,108,111,99,107]⟩:ByteArray),(⟨#[98,111,116,116,108,101,110,101,99,107]⟩:ByteArray),(⟨#[99,111,110,110,101,99,116,101,100]⟩:ByteArray),(⟨#[99,111,117,110,116]⟩:ByteArray),(⟨#[100,101,103,114,101,101]⟩:ByteArray),(⟨#[101,108,115,101]⟩:ByteArray),(⟨#[102,97,108,115,101]⟩:ByteArray),(⟨#[105,102]⟩:ByteArray),(⟨#[105,110]⟩:ByteArray),(⟨#[108,101,97,115,116]⟩:ByteArray),(⟨#[109,97,120]⟩:ByteArray),(⟨#[109,105,110]⟩:ByteArray),(⟨#[109,111,115,116]⟩:ByteArray),(⟨#[110,111,116]⟩:ByteArray),(⟨#[111,114]⟩:ByteArray),(⟨#[114,101,112]⟩:ByteArray),(⟨#[115,105,122,101]⟩:ByteArray),(⟨#[115,111,109,101]⟩:ByteArray),(⟨#[115,117,109]⟩:ByteArray),(⟨#[116,104,101,110]⟩:ByteArray),(⟨#[116,111,116,97,108]⟩:ByteArray),(⟨#[116,114,117,101]⟩:ByteArray),(⟨#[118,97,108,117,101]⟩:ByteArray),(⟨#[118,101,114,116,105,99,101,115]⟩:ByteArray)]:List ByteArray)) a0).bind fun bt113=>(some bt113.2))=some r:=h
 clear h
 obtain ⟨y110,hy110⟩:∃ y_:List ByteArray,y_=(([(⟨#[97,108,108]⟩:ByteArray),(⟨#[97,110,100]⟩:ByteArray),(⟨#[97,114,111,117,110,100]⟩:ByteArray),(⟨#[98,108,111,99,107]⟩:ByteArray),(⟨#[98,111,116,116,108,101,110,101,99,107]⟩:ByteArray),(⟨#[99,111,110,110,101,99,116,101,100]⟩:ByteArray),(⟨#[99,111,117,110,116]⟩:ByteArray),(⟨#[100,101,103,114,101,101]⟩:ByteArray),(⟨#[101,108,115,101]⟩:ByteArray),(⟨#[102,97,108,115,101]⟩:ByteArray),(⟨#[105,102]⟩:ByteArray),(⟨#[105,110]⟩:ByteArray),(⟨#[108,101,97,115,116]⟩:ByteArray),(⟨#[109,97,120]⟩:ByteArray),(⟨#[109,105,110]⟩:ByteArray),(⟨#[109,111,115,116]⟩:ByteArray),(⟨#[110,111,116]⟩:ByteArray),(⟨#[111,114]⟩:ByteArray),(⟨#[114,101,112]⟩:ByteArray),(⟨#[115,105,122,101]⟩:ByteArray),(⟨#[115,111,109,101]⟩:ByteArray),(⟨#[115,117,109]⟩:ByteArray),(⟨#[116,104,101,110]⟩:ByteArray),(⟨#[116,111,116,97,108]⟩:ByteArray),(⟨#[116,114,117,101]⟩:ByteArray),(⟨#[118,97,108,117,101]⟩:ByteArray),(⟨#[118,101,114,116,105,99,101,115]⟩:ByteArray)]:List ByteArray)):=⟨_,rfl⟩
 replace H:((slices_BinarySearch_string_string.f k y110 a0).bind fun bt113=>(some bt113.2))=some r:=by first|(rw [hy110]; with_reducible exact H)|(have H2_:=(Option.bind_some _ _).symm.trans H; rw [hy110]; with_reducible exact H2_)|(have H2_:=(Option.bind_some _ _).symm.trans H; with_reducible exact H2_)|with_reducible exact H|(rw [hy110]; exact H)|exact H
 have Ny110:=Aside0.mk hy110
 clear hy110
 replace H:=Option.bind_eq_some_iff.mp H
 obtain ⟨⟨t113,t114⟩,A20,H⟩:=H
 replace H:(some t114)=some r:=H
 have A2:=Aside0.mk A20
 clear A20
 obtain rfl:=Option.some.inj H
 go_enter Tryd.func81,Tryd.ntmps81
 go_wp2_with (first|((with_reducible refine gate_dst (N:=6) rfl ?_); refine Kd.R_lit Kd.string _ 9 ?hg (N:=6) ?hd (xs:=([(⟨#[97,108,108]⟩:ByteArray),(⟨#[97,110,100]⟩:ByteArray),(⟨#[97,114,111,117,110,100]⟩:ByteArray),(⟨#[98,108,111,99,107]⟩:ByteArray),(⟨#[98,111,116,116,108,101,110,101,99,107]⟩:ByteArray),(⟨#[99,111,110,110,101,99,116,101,100]⟩:ByteArray),(⟨#[99,111,117,110,116]⟩:ByteArray),(⟨#[100,101,103,114,101,101]⟩:ByteArray),(⟨#[101,108,115,101]⟩:ByteArray),(⟨#[102,97,108,115,101]⟩:ByteArray),(⟨#[105,102]⟩:ByteArray),(⟨#[105,110]⟩:ByteArray),(⟨#[108,101,97,115,116]⟩:ByteArray),(⟨#[109,97,120]⟩:ByteArray),(⟨#[109,105,110]⟩:ByteArray),(⟨#[109,111,115,116]⟩:ByteArray),(⟨#[110,111,116]⟩:ByteArray),(⟨#[111,114]⟩:ByteArray),(⟨#[114,101,112]⟩:ByteArray),(⟨#[115,105,122,101]⟩:ByteArray),(⟨#[115,111,109,101]⟩:ByteArray),(⟨#[115,117,109]⟩:ByteArray),(⟨#[116,104,101,110]⟩:ByteArray),(⟨#[116,111,116,97,108]⟩:ByteArray),(⟨#[116,114,117,101]⟩:ByteArray),(⟨#[118,97,108,117,101]⟩:ByteArray),(⟨#[118,101,114,116,105,99,101,115]⟩:ByteArray)]:List ByteArray)) (inner:=[.string (⟨#[97,108,108]⟩:ByteArray),.string (⟨#[97,110,100]⟩:ByteArray),.string (⟨#[97,114,111,117,110,100]⟩:ByteArray),.string (⟨#[98,108,111,99,107]⟩:ByteArray),.string (⟨#[98,111,116,116,108,101,110,101,99,107]⟩:ByteArray),.string (⟨#[99,111,110,110,101,99,116,101,100]⟩:ByteArray),.string (⟨#[99,111,117,110,116]⟩:ByteArray),.string (⟨#[100,101,103,114,101,101]⟩:ByteArray),.string (⟨#[101,108,115,101]⟩:ByteArray),.string (⟨#[102,97,108,115,101]⟩:ByteArray),.string (⟨#[105,102]⟩:ByteArray),.string (⟨#[105,110]⟩:ByteArray),.string (⟨#[108,101,97,115,116]⟩:ByteArray),.string (⟨#[109,97,120]⟩:ByteArray),.string (⟨#[109,105,110]⟩:ByteArray),.string (⟨#[109,111,115,116]⟩:ByteArray),.string (⟨#[110,111,116]⟩:ByteArray),.string (⟨#[111,114]⟩:ByteArray),.string (⟨#[114,101,112]⟩:ByteArray),.string (⟨#[115,105,122,101]⟩:ByteArray),.string (⟨#[115,111,109,101]⟩:ByteArray),.string (⟨#[115,117,109]⟩:ByteArray),.string (⟨#[116,104,101,110]⟩:ByteArray),.string (⟨#[116,111,116,97,108]⟩:ByteArray),.string (⟨#[116,114,117,101]⟩:ByteArray),.string (⟨#[118,97,108,117,101]⟩:ByteArray),.string (⟨#[118,101,114,116,105,99,101,115]⟩:ByteArray)]) (ok:=fun _=>True) (okp:=fun _=>True) ?hr ?hp (fun _ hk=>hk) trivial (Below.refl _ _) (Nat.le_refl _) (by simp) ?_; (case hd=>rfl); (case hg=>rfl); (case hr=>first|(go_simp; done)|(go_simp; rfl)); (case hp=>exact (Reps.one (show Kd.M Kd.string _ _ _ (⟨#[97,108,108]⟩:ByteArray) [.string (⟨#[97,108,108]⟩:ByteArray)] from rfl) (Reps.one (show Kd.M Kd.string _ _ _ (⟨#[97,110,100]⟩:ByteArray) [.string (⟨#[97,110,100]⟩:ByteArray)] from rfl) (Reps.one (show Kd.M Kd.string _ _ _ (⟨#[97,114,111,117,110,100]⟩:ByteArray) [.string (⟨#[97,114,111,117,110,100]⟩:ByteArray)] from rfl) (Reps.one (show Kd.M Kd.string _ _ _ (⟨#[98,108,111,99,107]⟩:ByteArray) [.string (⟨#[98,108,111,99,107]⟩:ByteArray)] from rfl) (Reps.one (show Kd.M Kd.string _ _ _ (⟨#[98,111,116,116,108,101,110,101,99,107]⟩:ByteArray) [.string (⟨#[98,111,116,116,108,101,110,101,99,107]⟩:ByteArray)] from rfl) (Reps.one (show Kd.M Kd.string _ _ _ (⟨#[99,111,110,110,101,99,116,101,100]⟩:ByteArray) [.string (⟨#[99,111,110,110,101,99,116,101,100]⟩:ByteArray)] from rfl) (Reps.one (show Kd.M Kd.string _ _ _ (⟨#[99,111,117,110,116]⟩:ByteArray) [.string (⟨#[99,111,117,110,116]⟩:ByteArray)] from rfl) (Reps.one (show Kd.M Kd.string _ _ _ (⟨#[100,101,103,114,101,101]⟩:ByteArray) [.string (⟨#[100,101,103,114,101,101]⟩:ByteArray)] from rfl) (Reps.one (show Kd.M Kd.string _ _ _ (⟨#[101,108,115,101]⟩:ByteArray) [.string (⟨#[101,108,115,101]⟩:ByteArray)] from rfl) (Reps.one (show Kd.M Kd.string _ _ _ (⟨#[102,97,108,115,101]⟩:ByteArray) [.string (⟨#[102,97,108,115,101]⟩:ByteArray)] from rfl) (Reps.one (show Kd.M Kd.string _ _ _ (⟨#[105,102]⟩:ByteArray) [.string (⟨#[105,102]⟩:ByteArray)] from rfl) (Reps.one (show Kd.M Kd.string _ _ _ (⟨#[105,110]⟩:ByteArray) [.string (⟨#[105,110]⟩:ByteArray)] from rfl) (Reps.one (show Kd.M Kd.string _ _ _ (⟨#[108,101,97,115,116]⟩:ByteArray) [.string (⟨#[108,101,97,115,116]⟩:ByteArray)] from rfl) (Reps.one (show Kd.M Kd.string _ _ _ (⟨#[109,97,120]⟩:ByteArray) [.string (⟨#[109,97,120]⟩:ByteArray)] from rfl) (Reps.one (show Kd.M Kd.string _ _ _ (⟨#[109,105,110]⟩:ByteArray) [.string (⟨#[109,105,110]⟩:ByteArray)] from rfl) (Reps.one (show Kd.M Kd.string _ _ _ (⟨#[109,111,115,116]⟩:ByteArray) [.string (⟨#[109,111,115,116]⟩:ByteArray)] from rfl) (Reps.one (show Kd.M Kd.string _ _ _ (⟨#[110,111,116]⟩:ByteArray) [.string (⟨#[110,111,116]⟩:ByteArray)] from rfl) (Reps.one (show Kd.M Kd.string _ _ _ (⟨#[111,114]⟩:ByteArray) [.string (⟨#[111,114]⟩:ByteArray)] from rfl) (Reps.one (show Kd.M Kd.string _ _ _ (⟨#[114,101,112]⟩:ByteArray) [.string (⟨#[114,101,112]⟩:ByteArray)] from rfl) (Reps.one (show Kd.M Kd.string _ _ _ (⟨#[115,105,122,101]⟩:ByteArray) [.string (⟨#[115,105,122,101]⟩:ByteArray)] from rfl) (Reps.one (show Kd.M Kd.string _ _ _ (⟨#[115,111,109,101]⟩:ByteArray) [.string (⟨#[115,111,109,101]⟩:ByteArray)] from rfl) (Reps.one (show Kd.M Kd.string _ _ _ (⟨#[115,117,109]⟩:ByteArray) [.string (⟨#[115,117,109]⟩:ByteArray)] from rfl) (Reps.one (show Kd.M Kd.string _ _ _ (⟨#[116,104,101,110]⟩:ByteArray) [.string (⟨#[116,104,101,110]⟩:ByteArray)] from rfl) (Reps.one (show Kd.M Kd.string _ _ _ (⟨#[116,111,116,97,108]⟩:ByteArray) [.string (⟨#[116,111,116,97,108]⟩:ByteArray)] from rfl) (Reps.one (show Kd.M Kd.string _ _ _ (⟨#[116,114,117,101]⟩:ByteArray) [.string (⟨#[116,114,117,101]⟩:ByteArray)] from rfl) (Reps.one (show Kd.M Kd.string _ _ _ (⟨#[118,97,108,117,101]⟩:ByteArray) [.string (⟨#[118,97,108,117,101]⟩:ByteArray)] from rfl) (Reps.one (show Kd.M Kd.string _ _ _ (⟨#[118,101,114,116,105,99,101,115]⟩:ByteArray) [.string (⟨#[118,101,114,116,105,99,101,115]⟩:ByteArray)] from rfl) (Reps.none _ _))))))))))))))))))))))))))))); intro v111 w3 ho4 hb hg_ hnew_; clear hg_ hnew_; (first|rw [← Ny110.out] at ho4|(simp only [Int.reduceToNat] at ho4; rw [← Ny110.out] at ho4)); have n0_:=Aside0.mk (Kd.R_lower ho4 (below_size (by repeat (first|(with_reducible first|exact HB.out|apply below_alloc|apply pw_below_drewN|apply below_drew1)|exact HB.out)))); have n1_:=Aside0.mk (below_step (by repeat (first|(with_reducible first|exact HB.out|apply below_alloc|apply pw_below_drewN|apply below_drew1)|exact HB.out)) hb); clear HB; have HO112:=n0_; have HB:=n1_; clear n0_ n1_; clear hb ho4; obtain ⟨Ao5,co5,eo5⟩:=Kd.R_slice HO112.out; subst eo5)|((with_reducible refine gate_callee (f:=102) rfl ?_); refine goesL_ (some 8) rfl rfl Tryd.func102 (by kernel_rfl) rfl #[.slice Ao5 y110.length co5,.string a0] rfl (by (try simp only [List.map_toArray,List.map_cons,List.map_nil]); first|done|rfl|(simp only [List.length_drop,List.length_take]; rfl)) ?_; (with_reducible refine (slices_BinarySearch_string_string.calls k _ _ y110 a0 t113 t114 _ ?side1 ?side2 A2.out).mono ?_); (case side1=>repeat (first|exact (Kd.R_reads' HO112.out).2.2|(with_reducible refine Kd.C_alloc ?_ _)|(with_reducible refine Kd.C_drewN ?_ _)|(with_reducible refine Kd.C_drew ?_))); (case side2=>exact (Kd.R_reads' HO112.out).2.1); rintro e w' ⟨rfl,⟨nd,rfl⟩⟩; refine ⟨_,rfl,?_⟩))
 go_ret
 exact ⟨by first|rfl|(simp [errW_none,errW_some]<;>rfl)|(simp [*,errW_none,errW_some]<;>rfl),by repeat (first|(with_reducible first|exact HB.out|apply below_alloc|apply pw_below_drewN|apply below_drew1)|exact HB.out)⟩
end Go.Proofs.YtcmdjpolgaejoaaDoor.C
