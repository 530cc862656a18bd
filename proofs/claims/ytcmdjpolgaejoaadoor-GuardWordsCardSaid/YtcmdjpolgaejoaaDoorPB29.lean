/- The laws GuardLooks, GuardWords of the program hold, as their cards say: texts put together by a program, 30 of 38. -/
import Derived.Test.YtcmdjpolgaejoaaDoorPB13
import Derived.Test.YtcmdjpolgaejoaaDoorPB28
namespace Go.Proofs.YtcmdjpolgaejoaaDoor.C
open Go.RowKit Go.Proofs.YtcmdjpolgaejoaaDoorW.PrintWords Go.Proofs.YtcmdjpolgaejoaaDoorW.PrintLast Go.Proofs.YtcmdjpolgaejoaaDoorW.PrintMore
attribute [local go_sem] max2_int min2_int max_two min_two max_three min_three max_four min_four
set_option linter.unusedVariables false
set_option linter.unusedSimpArgs false
mutual
def isthmusref11_IsName.j0:Nat→ByteArray→Bool→Option (Bool)
 | 0,_,_=>none
 | k+1,x0,x19=>if x19=true then (some false) else (isthmusref11_IsName.l0 k x0 0)
def isthmusref11_IsName.l0:Nat→ByteArray→Int→Option (Bool)
 | 0,_,_=>none
 | k+1,x0,x3=>if x3 < (x0.size:Int) then (if 0≤x3 then ((isthmusref11_small.f (bt x0 x3)).bind fun t145=>(if t145=true then (isthmusref11_IsName.l0 k x0 (wrap64 (x3+1))) else ((isthmusref11_digit.f (bt x0 x3)).bind fun t146=>(if t146=true then (isthmusref11_IsName.l0 k x0 (wrap64 (x3+1))) else (if ((bt x0 x3)=95) then (isthmusref11_IsName.l0 k x0 (wrap64 (x3+1))) else (some false)))))) else (none)) else ((isthmusref11_Word.f k x0).bind fun t144=>(some (!t144)))
end
def isthmusref11_IsName.f (k:Nat) (a0:ByteArray):Option (Bool):=if (a0.size:Int) < 1 then (isthmusref11_IsName.j0 k a0 true) else (if (a0.size:Int) > 12 then (isthmusref11_IsName.j0 k a0 true) else (if 0 < (a0.size:Int) then ((isthmusref11_small.f (bt a0 0)).bind fun t143=>(isthmusref11_IsName.j0 k a0 (!t143))) else (none)))
set_option maxHeartbeats 8000000 in
set_option maxRecDepth 100000 in
theorem isthmusref11_IsName.calls (k:Nat) (a0:ByteArray) (r:Bool) (w:World) (h:isthmusref11_IsName.f k a0=some r) :
  Calls Tryd.prog 36 #[.string a0] w fun e w'=>e=.returned (.bool r)∧Below w.heap.size w w':=by
 have HB:=Aside0.mk (Below.refl w.heap.size w)
 have H:(if (a0.size:Int) < 1 then (isthmusref11_IsName.j0 k a0 true) else (if (a0.size:Int) > 12 then (isthmusref11_IsName.j0 k a0 true) else (if 0 < (a0.size:Int) then ((isthmusref11_small.f (bt a0 0)).bind fun t143=>(isthmusref11_IsName.j0 k a0 (!t143))) else (none))))=some r:=h
 clear h
 have HC2:=Aside0.mk H
 clear H
 go_enter Tryd.func36,Tryd.ntmps36
 go_upto_region 1 with (fail)
 go_cut [19] (fun v19 wc=>∃ (kq:Nat) (x19_1:Bool),v19=.bool x19_1∧Aside0 (isthmusref11_IsName.j0 kq a0 x19_1=some r)∧Aside0 (kq≤k)∧Aside0 (Below w.heap.size w wc))
 case first =>
  have H:=HC2.out
  clear HC2
  by_cases c3:(a0.size:Int) < 1
  ·rw [if_pos c3] at H
   have c3b0:decide ((a0.size:Int) < 1)=true:=decide_eq_true c3
   have c3b1:decide (a0.size < 1)=true:=decide_eq_true (by omega)
   clear c3
   (first|rw [c3b0]|(simp only [i64_w,i32_w]; rw [c3b0])|skip)
   have H':=Aside0.mk H
   clear H
   go_wp2
   go_meet
   case rel=>exact ⟨_,(true),(by first|rfl|(simp; done)|(simp [*]; done)),H',⟨by first|omega|exact Nat.le_refl _⟩,⟨by repeat (first|(with_reducible first|exact HB.out|apply below_alloc|apply pw_below_drewN|apply below_drew1)|exact HB.out)⟩⟩
  ·rw [if_neg c3] at H
   have c3b0:decide ((a0.size:Int) < 1)=false:=decide_eq_false c3
   have c3b1:decide (a0.size < 1)=false:=decide_eq_false (by omega)
   clear c3
   (first|rw [c3b0]|(simp only [i64_w,i32_w]; rw [c3b0])|skip)
   by_cases c4:(a0.size:Int) > 12
   ·rw [if_pos c4] at H
    have c4b0:decide (12 < (a0.size:Int))=true:=decide_eq_true c4
    have c4b1:decide (12 < a0.size)=true:=decide_eq_true (by omega)
    clear c4
    have H':=Aside0.mk H
    clear H
    go_wp2
    go_meet
    case rel=>exact ⟨_,(true),(by first|rfl|(simp; done)|(simp [*]; done)),H',⟨by first|omega|exact Nat.le_refl _⟩,⟨by repeat (first|(with_reducible first|exact HB.out|apply below_alloc|apply pw_below_drewN|apply below_drew1)|exact HB.out)⟩⟩
   ·rw [if_neg c4] at H
    have c4b0:decide (12 < (a0.size:Int))=false:=decide_eq_false c4
    have c4b1:decide (12 < a0.size)=false:=decide_eq_false (by omega)
    clear c4
    by_cases c5:0 < (a0.size:Int)
    ·rw [if_pos c5] at H
     have c5b0:decide (0 < (a0.size:Int))=true:=decide_eq_true c5
     have c5b1:decide (0 < a0.size)=true:=decide_eq_true (by omega)
     clear c5
     replace H:=Option.bind_eq_some_iff.mp H
     obtain ⟨t143,A70,H⟩:=H
     replace H:(isthmusref11_IsName.j0 k a0 (!t143))=some r:=H
     have A7:=Aside0.mk A70
     clear A70
     have H':=Aside0.mk H
     clear H
     have p6:0≤(0:Int):=(by omega)
     have q6:0 < a0.size:=(by have:(0:Int) < (a0.size:Int):=of_decide_eq_true (by first|(with_reducible assumption)|assumption); omega)
     have hx6:∀ h:0 < a0.size,((a0[0]'h).toNat:Int)=bt a0 0:=bt_at a0 0
     clear p6
     have qi6:(0 < (a0.size:Int))=True:=eq_true (of_decide_eq_true (by first|(with_reducible assumption)|assumption))
     replace q6:=eq_true q6
     go_wp2_with (first|(go_at_call 73; (with_reducible refine (isthmusref11_small.calls (bt a0 0) t143 _ A7.out).mono ?_); rintro e w' ⟨rfl,⟨nd,rfl⟩⟩))
     go_meet
     case rel=>exact ⟨_,(!t143),(by first|rfl|(simp; done)|(simp [*]; done)),H',⟨by first|omega|exact Nat.le_refl _⟩,⟨by repeat (first|(with_reducible first|exact HB.out|apply below_alloc|apply pw_below_drewN|apply below_drew1)|exact HB.out)⟩⟩
    ·rw [if_neg c5] at H
     exact absurd H (by simp)
 case rest =>
  clear HC2
  try clear p2
  try clear c3
  try clear c3b0
  try clear c3b1
  try clear c4
  try clear c4b0
  try clear c4b1
  try clear c5
  try clear c5b0
  try clear c5b1
  try clear p6
  try clear q6
  try clear hx6
  try clear qi6
  try clear p6
  try clear q6
  obtain ⟨kq,x19_1,rfl,HA,HJ1,HB⟩:=hcut
  cases kq with
  | zero=>exact absurd HA.out (by simp [isthmusref11_IsName.j0])
  | succ kj1 =>
   have H:=HA.out
   clear HA
   simp only [isthmusref11_IsName.j0] at H
   by_cases c8:x19_1=true
   ·subst c8
    have H1:(some false)=some r:=by rw [if_pos rfl] at H; exact H
    clear H
    have H:=H1
    clear H1
    obtain rfl:=Option.some.inj H
    go_wp2
    go_ret
    exact ⟨by first|rfl|(simp [errW_none,errW_some]<;>rfl)|(simp [*,errW_none,errW_some]<;>rfl),by repeat (first|(with_reducible first|exact HB.out|apply below_alloc|apply pw_below_drewN|apply below_drew1)|exact HB.out)⟩
   ·replace c8:=Bool.eq_false_iff.mpr c8
    subst c8
    have H1:(isthmusref11_IsName.l0 kj1 a0 0)=some r:=by rw [if_neg (show ¬ (false=true) by decide)] at H; exact H
    clear H
    have H:=H1
    clear H1
    have H':=Aside0.mk H
    clear H
    go_wp2
    go_loopg [3] kj1 (fun kq v3 w'=>∃ (x3_2:Int),v3=.int .i64 x3_2∧Aside0 (isthmusref11_IsName.l0 kq a0 x3_2=some r)∧Aside0 (kq≤kj1)∧Aside0 (Below w.heap.size w w'))
    case atStart=>exact ⟨(0),(by first|rfl|(simp; done)|(simp [*]; done)),H',⟨Nat.le_refl _⟩,⟨by repeat (first|(with_reducible first|exact HB.out|apply below_alloc|apply pw_below_drewN|apply below_drew1)|exact HB.out)⟩⟩
    case round =>
     clear H'
     try clear p2
     try clear c3
     try clear c3b0
     try clear c3b1
     try clear c4
     try clear c4b0
     try clear c4b1
     try clear c5
     try clear c5b0
     try clear c5b1
     try clear p6
     try clear q6
     try clear hx6
     try clear qi6
     try clear c8
     try clear p2
     try clear p6
     try clear q6
     obtain ⟨x3_2,rfl,HA,HK2,HB⟩:=hrel
     cases gk with
     | zero=>exact absurd HA.out (by simp [isthmusref11_IsName.l0])
     | succ k2 =>
      have H:=HA.out
      clear HA
      simp only [isthmusref11_IsName.l0] at H
      by_cases c9:x3_2 < (a0.size:Int)
      ·rw [if_pos c9] at H
       have c9b0:decide (x3_2 < (a0.size:Int))=true:=decide_eq_true c9
       clear c9
       by_cases c10:0≤x3_2
       ·rw [if_pos c10] at H
        have c10b0:decide (0≤x3_2)=true:=decide_eq_true c10
        clear c10
        replace H:=Option.bind_eq_some_iff.mp H
        obtain ⟨t145,A120,H⟩:=H
        replace H:(if t145=true then (isthmusref11_IsName.l0 k2 a0 (wrap64 (x3_2+1))) else ((isthmusref11_digit.f (bt a0 x3_2)).bind fun t146=>(if t146=true then (isthmusref11_IsName.l0 k2 a0 (wrap64 (x3_2+1))) else (if ((bt a0 x3_2)=95) then (isthmusref11_IsName.l0 k2 a0 (wrap64 (x3_2+1))) else (some false)))))=some r:=H
        have A12:=Aside0.mk A120
        clear A120
        by_cases c13:t145=true
        ·subst c13
         have H1:(isthmusref11_IsName.l0 k2 a0 (wrap64 (x3_2+1)))=some r:=by rw [if_pos rfl] at H; exact H
         clear H
         have H:=H1
         clear H1
         have H':=Aside0.mk H
         clear H
         have p11:0≤(x3_2:Int):=of_decide_eq_true (by first|(with_reducible assumption)|assumption)
         have q11:x3_2 < (a0.size:Int):=of_decide_eq_true (by first|(with_reducible assumption)|assumption)
         have hx11:=bt_at a0 x3_2
         replace p11:=eq_true p11
         replace q11:=eq_true q11
         go_wp2_with (first|((with_reducible refine gate_callee (f:=73) rfl ?_); refine goesL_ (some 29) rfl rfl Tryd.func73 (by kernel_rfl) rfl #[.int .u8 (bt a0 x3_2)] rfl (by (try simp only [List.map_toArray,List.map_cons,List.map_nil]); first|done|rfl|(simp only [List.length_drop,List.length_take]; rfl)) ?_; (with_reducible refine (isthmusref11_small.calls (bt a0 x3_2) true _ A12.out).mono ?_); rintro e w' ⟨rfl,⟨nd,rfl⟩⟩; refine ⟨_,rfl,?_⟩))
         go_roundg k2
         case measure=>have:=HJ1.out; have:=HK2.out; omega
         case rel=>exact ⟨(wrap64 (x3_2+1)),(by first|rfl|(simp; done)|(simp [*]; done)),H',⟨by have:=HJ1.out; have:=HK2.out; omega⟩,⟨by repeat (first|(with_reducible first|exact HB.out|apply below_alloc|apply pw_below_drewN|apply below_drew1)|exact HB.out)⟩⟩
        ·replace c13:=Bool.eq_false_iff.mpr c13
         subst c13
         have H1:((isthmusref11_digit.f (bt a0 x3_2)).bind fun t146=>(if t146=true then (isthmusref11_IsName.l0 k2 a0 (wrap64 (x3_2+1))) else (if ((bt a0 x3_2)=95) then (isthmusref11_IsName.l0 k2 a0 (wrap64 (x3_2+1))) else (some false))))=some r:=by rw [if_neg (show ¬ (false=true) by decide)] at H; exact H
         clear H
         have H:=H1
         clear H1
         replace H:=Option.bind_eq_some_iff.mp H
         obtain ⟨t146,A150,H⟩:=H
         replace H:(if t146=true then (isthmusref11_IsName.l0 k2 a0 (wrap64 (x3_2+1))) else (if ((bt a0 x3_2)=95) then (isthmusref11_IsName.l0 k2 a0 (wrap64 (x3_2+1))) else (some false)))=some r:=H
         have A15:=Aside0.mk A150
         clear A150
         by_cases c16:t146=true
         ·subst c16
          have H1:(isthmusref11_IsName.l0 k2 a0 (wrap64 (x3_2+1)))=some r:=by rw [if_pos rfl] at H; exact H
          clear H
          have H:=H1
          clear H1
          have H':=Aside0.mk H
          clear H
          have p11:0≤(x3_2:Int):=of_decide_eq_true (by first|(with_reducible assumption)|assumption)
          have q11:x3_2 < (a0.size:Int):=of_decide_eq_true (by first|(with_reducible assumption)|assumption)
          have hx11:=bt_at a0 x3_2
          replace p11:=eq_true p11
          replace q11:=eq_true q11
          go_wp2_with (first|((with_reducible refine gate_callee (f:=73) rfl ?_); refine goesL_ (some 29) rfl rfl Tryd.func73 (by kernel_rfl) rfl #[.int .u8 (bt a0 x3_2)] rfl (by (try simp only [List.map_toArray,List.map_cons,List.map_nil]); first|done|rfl|(simp only [List.length_drop,List.length_take]; rfl)) ?_; (with_reducible refine (isthmusref11_small.calls (bt a0 x3_2) false _ A12.out).mono ?_); rintro e w' ⟨rfl,⟨nd,rfl⟩⟩; refine ⟨_,rfl,?_⟩; have p14:0≤(x3_2:Int):=of_decide_eq_true (by first|(with_reducible assumption)|assumption); have q14:x3_2 < (a0.size:Int):=of_decide_eq_true (by first|(with_reducible assumption)|assumption); have hx14:=bt_at a0 x3_2; replace p14:=eq_true p14; replace q14:=eq_true q14)|(go_at_call 74; (with_reducible refine (isthmusref11_digit.calls (bt a0 x3_2) true _ A15.out).mono ?_); rintro e w' ⟨rfl,⟨nd,rfl⟩⟩))
          go_roundg k2
          case measure=>have:=HJ1.out; have:=HK2.out; omega
          case rel=>exact ⟨(wrap64 (x3_2+1)),(by first|rfl|(simp; done)|(simp [*]; done)),H',⟨by have:=HJ1.out; have:=HK2.out; omega⟩,⟨by repeat (first|(with_reducible first|exact HB.out|apply below_alloc|apply pw_below_drewN|apply below_drew1)|exact HB.out)⟩⟩
         ·replace c16:=Bool.eq_false_iff.mpr c16
          subst c16
          have H1:(if ((bt a0 x3_2)=95) then (isthmusref11_IsName.l0 k2 a0 (wrap64 (x3_2+1))) else (some false))=some r:=by rw [if_neg (show ¬ (false=true) by decide)] at H; exact H
          clear H
          have H:=H1
          clear H1
          by_cases c18:((bt a0 x3_2)=95)
          ·rw [if_pos c18] at H
           have c18b0:((bt a0 x3_2) == 95)=true:=beq_iff_eq.mpr c18
           have c18b1:((bt a0 x3_2) != 95)=false:=bne_eq_false_iff_eq.mpr c18
           clear c18
           have H':=Aside0.mk H
           clear H
           have p11:0≤(x3_2:Int):=of_decide_eq_true (by first|(with_reducible assumption)|assumption)
           have q11:x3_2 < (a0.size:Int):=of_decide_eq_true (by first|(with_reducible assumption)|assumption)
           have hx11:=bt_at a0 x3_2
           replace p11:=eq_true p11
           replace q11:=eq_true q11
           go_wp2_with (first|((with_reducible refine gate_callee (f:=73) rfl ?_); refine goesL_ (some 29) rfl rfl Tryd.func73 (by kernel_rfl) rfl #[.int .u8 (bt a0 x3_2)] rfl (by (try simp only [List.map_toArray,List.map_cons,List.map_nil]); first|done|rfl|(simp only [List.length_drop,List.length_take]; rfl)) ?_; (with_reducible refine (isthmusref11_small.calls (bt a0 x3_2) false _ A12.out).mono ?_); rintro e w' ⟨rfl,⟨nd,rfl⟩⟩; refine ⟨_,rfl,?_⟩; have p14:0≤(x3_2:Int):=of_decide_eq_true (by first|(with_reducible assumption)|assumption); have q14:x3_2 < (a0.size:Int):=of_decide_eq_true (by first|(with_reducible assumption)|assumption); have hx14:=bt_at a0 x3_2; replace p14:=eq_true p14; replace q14:=eq_true q14)|(go_at_call 74; (with_reducible refine (isthmusref11_digit.calls (bt a0 x3_2) false _ A15.out).mono ?_); rintro e w' ⟨rfl,⟨nd,rfl⟩⟩; have p17:0≤(x3_2:Int):=of_decide_eq_true (by first|(with_reducible assumption)|assumption); have q17:x3_2 < (a0.size:Int):=of_decide_eq_true (by first|(with_reducible assumption)|assumption); have hx17:=bt_at a0 x3_2; replace p17:=eq_true p17; replace q17:=eq_true q17))
           go_roundg k2
           case measure=>have:=HJ1.out; have:=HK2.out; omega
           case rel=>exact ⟨(wrap64 (x3_2+1)),(by first|rfl|(simp; done)|(simp [*]; done)),H',⟨by have:=HJ1.out; have:=HK2.out; omega⟩,⟨by repeat (first|(with_reducible first|exact HB.out|apply below_alloc|apply pw_below_drewN|apply below_drew1)|exact HB.out)⟩⟩
          ·rw [if_neg c18] at H
           have c18b0:((bt a0 x3_2) == 95)=false:=beq_eq_false_iff_ne.mpr c18
           have c18b1:((bt a0 x3_2) != 95)=true:=bne_iff_ne.mpr c18
           obtain rfl:=Option.some.inj H
           have p11:0≤(x3_2:Int):=of_decide_eq_true (by first|(with_reducible assumption)|assumption)
           have q11:x3_2 < (a0.size:Int):=of_decide_eq_true (by first|(with_reducible assumption)|assumption)
           have hx11:=bt_at a0 x3_2
           replace p11:=eq_true p11
           replace q11:=eq_true q11
           go_wp2_with (first|((with_reducible refine gate_callee (f:=73) rfl ?_); refine goesL_ (some 29) rfl rfl Tryd.func73 (by kernel_rfl) rfl #[.int .u8 (bt a0 x3_2)] rfl (by (try simp only [List.map_toArray,List.map_cons,List.map_nil]); first|done|rfl|(simp only [List.length_drop,List.length_take]; rfl)) ?_; (with_reducible refine (isthmusref11_small.calls (bt a0 x3_2) false _ A12.out).mono ?_); rintro e w' ⟨rfl,⟨nd,rfl⟩⟩; refine ⟨_,rfl,?_⟩; have p14:0≤(x3_2:Int):=of_decide_eq_true (by first|(with_reducible assumption)|assumption); have q14:x3_2 < (a0.size:Int):=of_decide_eq_true (by first|(with_reducible assumption)|assumption); have hx14:=bt_at a0 x3_2; replace p14:=eq_true p14; replace q14:=eq_true q14)|(go_at_call 74; (with_reducible refine (isthmusref11_digit.calls (bt a0 x3_2) false _ A15.out).mono ?_); rintro e w' ⟨rfl,⟨nd,rfl⟩⟩; have p17:0≤(x3_2:Int):=of_decide_eq_true (by first|(with_reducible assumption)|assumption); have q17:x3_2 < (a0.size:Int):=of_decide_eq_true (by first|(with_reducible assumption)|assumption); have hx17:=bt_at a0 x3_2; replace p17:=eq_true p17; replace q17:=eq_true q17))
           go_ret
           exact ⟨by first|rfl|(simp [errW_none,errW_some]<;>rfl)|(simp [*,errW_none,errW_some]<;>rfl),by repeat (first|(with_reducible first|exact HB.out|apply below_alloc|apply pw_below_drewN|apply below_drew1)|exact HB.out)⟩
       ·rw [if_neg c10] at H
        exact absurd H (by simp)
      ·rw [if_neg c9] at H
       have c9b0:decide (x3_2 < (a0.size:Int))=false:=decide_eq_false c9
       clear c9
       replace H:=Option.bind_eq_some_iff.mp H
       obtain ⟨t144,A190,H⟩:=H
       replace H:(some (!t144))=some r:=H
       have A19:=Aside0.mk A190
       clear A190
       obtain rfl:=Option.some.inj H
       go_wp2_with (first|((with_reducible refine gate_callee (f:=75) rfl ?_); refine goesL_ (some 45) rfl rfl Tryd.func75 (by kernel_rfl) rfl #[.string a0] rfl (by (try simp only [List.map_toArray,List.map_cons,List.map_nil]); first|done|rfl|(simp only [List.length_drop,List.length_take]; rfl)) ?_; (with_reducible refine (isthmusref11_Word.calls k2 a0 t144 _ A19.out).mono ?_); rintro e w20 ⟨rfl,hb⟩; refine ⟨_,rfl,?_⟩; have n0_:=Aside0.mk (below_step (by repeat (first|(with_reducible first|exact HB.out|apply below_alloc|apply pw_below_drewN|apply below_drew1)|exact HB.out)) hb); clear HB; have HB:=n0_; clear n0_; (try clear hb); (try clear hb2); (try clear hk); (try clear hi)))
       go_ret
       exact ⟨by first|rfl|(simp [errW_none,errW_some]<;>rfl)|(simp [*,errW_none,errW_some]<;>rfl),by repeat (first|(with_reducible first|exact HB.out|apply below_alloc|apply pw_below_drewN|apply below_drew1)|exact HB.out)⟩
def isthmusref18_kind.f (a0:Int):Option (Bool):=if a0 ≥ 1 then (some (decide (a0≤3))) else (some false)
set_option maxHeartbeats 8000000 in
set_option maxRecDepth 100000 in
theorem isthmusref18_kind.calls (a0:Int) (r:Bool) (w:World) (h:isthmusref18_kind.f a0=some r) :
  Calls Tryd.prog 37 #[.int .i64 a0] w fun e w'=>e=.returned (.bool r)∧Drawn0 w w':=by
 have H:(if a0 ≥ 1 then (some (decide (a0≤3))) else (some false))=some r:=h
 clear h
 by_cases c2:a0 ≥ 1
 ·rw [if_pos c2] at H
  have c2b0:decide (1≤a0)=true:=decide_eq_true c2
  clear c2
  obtain rfl:=Option.some.inj H
  go_enter Tryd.func37,Tryd.ntmps37
  go_wp2
  go_ret
  exact ⟨by first|rfl|(simp; done)|(simp [*]; done),by repeat (first|exact Drawn0.refl _|apply Drawn0.step)⟩
 ·rw [if_neg c2] at H
  have c2b0:decide (1≤a0)=false:=decide_eq_false c2
  clear c2
  obtain rfl:=Option.some.inj H
  go_enter Tryd.func37,Tryd.ntmps37
  go_wp2
  go_ret
  exact ⟨by first|rfl|(simp; done)|(simp [*]; done),by repeat (first|exact Drawn0.refl _|apply Drawn0.step)⟩
def isthmusref01_Parts.f (a0:Int):Option (Int×Int×Int):=some (wrap64 (IntKind.u64.wrap (Int.tdiv (IntKind.u64.wrap (Int.tdiv a0 268435456)) 268435456)),wrap64 (Int.tmod (IntKind.u64.wrap (Int.tdiv a0 268435456)) 268435456),wrap64 (Int.tmod a0 268435456))
set_option maxHeartbeats 8000000 in
set_option maxRecDepth 100000 in
theorem isthmusref01_Parts.calls (a0:Int) (r1:Int) (r2:Int) (r3:Int) (w:World) (h:isthmusref01_Parts.f a0=some (r1,r2,r3)) :
  Calls Tryd.prog 39 #[.int .u64 a0] w fun e w'=>e=.returned (.tuple #[.int .i64 r1,.int .i64 r2,.int .i64 r3])∧Drawn0 w w':=by
 have H:(some (wrap64 (IntKind.u64.wrap (Int.tdiv (IntKind.u64.wrap (Int.tdiv a0 268435456)) 268435456)),wrap64 (Int.tmod (IntKind.u64.wrap (Int.tdiv a0 268435456)) 268435456),wrap64 (Int.tmod a0 268435456)))=some (r1,r2,r3):=h
 clear h
 simp only [Option.some.injEq,Prod.mk.injEq] at H
 obtain ⟨rfl,rfl,rfl⟩:=H
 go_enter Tryd.func39,Tryd.ntmps39
 go_wp2
 go_ret3
 exact ⟨by first|rfl|(simp; done)|(simp [*]; done),by repeat (first|exact Drawn0.refl _|apply Drawn0.step)⟩
def isthmusref18_within.f (a0:Int) (a1:Int):Option (Bool):=if a0 ≥ 0 then (some (decide (a0 < a1))) else (some false)
set_option maxHeartbeats 8000000 in
set_option maxRecDepth 100000 in
theorem isthmusref18_within.calls (a0:Int) (a1:Int) (r:Bool) (w:World) (h:isthmusref18_within.f a0 a1=some r) :
  Calls Tryd.prog 76 #[.int .i64 a0,.int .i64 a1] w fun e w'=>e=.returned (.bool r)∧Drawn0 w w':=by
 have H:(if a0 ≥ 0 then (some (decide (a0 < a1))) else (some false))=some r:=h
 clear h
 by_cases c3:a0 ≥ 0
 ·rw [if_pos c3] at H
  have c3b0:decide (0≤a0)=true:=decide_eq_true c3
  clear c3
  obtain rfl:=Option.some.inj H
  go_enter Tryd.func76,Tryd.ntmps76
  go_wp2
  go_ret
  exact ⟨by first|rfl|(simp; done)|(simp [*]; done),by repeat (first|exact Drawn0.refl _|apply Drawn0.step)⟩
 ·rw [if_neg c3] at H
  have c3b0:decide (0≤a0)=false:=decide_eq_false c3
  clear c3
  obtain rfl:=Option.some.inj H
  go_enter Tryd.func76,Tryd.ntmps76
  go_wp2
  go_ret
  exact ⟨by first|rfl|(simp; done)|(simp [*]; done),by repeat (first|exact Drawn0.refl _|apply Drawn0.step)⟩
end Go.Proofs.YtcmdjpolgaejoaaDoor.C
