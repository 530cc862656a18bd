/- The laws GuardLooks, GuardWords of the program hold, as their cards say: texts put together by a program, 16 of 38. -/
import Derived.Test.YtcmdjpolgaejoaaDoorPB13
import Derived.Test.YtcmdjpolgaejoaaDoorPB14
namespace Go.Proofs.YtcmdjpolgaejoaaDoor.C
open Go.RowKit Go.Proofs.YtcmdjpolgaejoaaDoorW.PrintWords Go.Proofs.YtcmdjpolgaejoaaDoorW.PrintLast Go.Proofs.YtcmdjpolgaejoaaDoorW.PrintMore
attribute [local go_sem] max2_int min2_int max_two min_two max_three min_three max_four min_four
set_option linter.unusedVariables false
set_option linter.unusedSimpArgs false
mutual
def lex_class.j0:Nat→Int→Bool→Option (Int)
 | 0,_,_=>none
 | k+1,x0,x3=>if x3=true then (some 2) else (if x0 ≥ 97 then (lex_class.j1 k x0 (decide (x0≤122))) else (lex_class.j1 k x0 false))
def lex_class.j1:Nat→Int→Bool→Option (Int)
 | 0,_,_=>none
 | k+1,x0,x10=>if x10=true then (some 3) else (if x0 ≥ 65 then (lex_class.j2 k x0 (decide (x0≤90))) else (lex_class.j2 k x0 false))
def lex_class.j2:Nat→Int→Bool→Option (Int)
 | 0,_,_=>none
 | k+1,x0,x17=>if x17=true then (some 4) else (if x0=95 then (some 5) else (if x0=32 then (lex_class.j3 k x0 true) else (if x0=9 then (lex_class.j3 k x0 true) else (if x0=10 then (lex_class.j3 k x0 true) else (lex_class.j3 k x0 (x0 == 13))))))
def lex_class.j3:Nat→Int→Bool→Option (Int)
 | 0,_,_=>none
 | k+1,x0,x27=>if x27=true then (some 1) else (if x0 < 128 then ((strings_ContainsRune.f (⟨#[40,41,123,125,44,58,64,43,45,42,47,37,61,60,33]⟩:ByteArray) x0).bind fun t101=>(if t101=true then (some 6) else (some 0))) else (some 0))
end
def lex_class.f (k:Nat) (a0:Int):Option (Int):=if a0 ≥ 48 then (lex_class.j0 k a0 (decide (a0≤57))) else (lex_class.j0 k a0 false)
set_option maxHeartbeats 8000000 in
set_option maxRecDepth 100000 in
theorem lex_class.calls (k:Nat) (a0:Int) (r:Int) (w:World) (h:lex_class.f k a0=some r) :
  Calls Tryd.prog 80 #[.int .i32 a0] w fun e w'=>e=.returned (.int .i64 r)∧Drawn0 w w':=by
 have H:(if a0 ≥ 48 then (lex_class.j0 k a0 (decide (a0≤57))) else (lex_class.j0 k a0 false))=some r:=h
 clear h
 have HC2:=Aside0.mk H
 clear H
 go_enter Tryd.func80,Tryd.ntmps80
 go_upto_region 1 with (fail)
 go_cut [3] (fun v3 wc=>∃ (kq:Nat) (x3_1:Bool),v3=.bool x3_1∧Aside0 (lex_class.j0 kq a0 x3_1=some r)∧Aside0 (kq≤k)∧Drawn0 w wc)
 case first =>
  have H:=HC2.out
  clear HC2
  by_cases c3:a0 ≥ 48
  ·rw [if_pos c3] at H
   have c3b0:decide (48≤a0)=true:=decide_eq_true c3
   clear c3
   (first|rw [c3b0]|(simp only [i64_w,i32_w]; rw [c3b0])|skip)
   have H':=Aside0.mk H
   clear H
   go_wp2
   go_meet
   case rel=>exact ⟨_,(decide (a0≤57)),(by first|rfl|(simp; done)|(simp [*]; done)),H',⟨by first|omega|exact Nat.le_refl _⟩,by repeat (first|exact Drawn0.refl _|apply Drawn0.step)⟩
  ·rw [if_neg c3] at H
   have c3b0:decide (48≤a0)=false:=decide_eq_false c3
   clear c3
   (first|rw [c3b0]|(simp only [i64_w,i32_w]; rw [c3b0])|skip)
   have H':=Aside0.mk H
   clear H
   go_wp2
   go_meet
   case rel=>exact ⟨_,(false),(by first|rfl|(simp; done)|(simp [*]; done)),H',⟨by first|omega|exact Nat.le_refl _⟩,by repeat (first|exact Drawn0.refl _|apply Drawn0.step)⟩
 case rest =>
  clear HC2
  try clear p2
  try clear c3
  try clear c3b0
  obtain ⟨kq,x3_1,rfl,HA,HJ1,⟨mc1,rfl⟩⟩:=hcut
  cases kq with
  | zero=>exact absurd HA.out (by simp [lex_class.j0])
  | succ kj1 =>
   have H:=HA.out
   clear HA
   simp only [lex_class.j0] at H
   by_cases c4:x3_1=true
   ·subst c4
    have H1:(some 2)=some r:=by rw [if_pos rfl] at H; exact H
    clear H
    have H:=H1
    clear H1
    obtain rfl:=Option.some.inj H
    go_wp2
    go_ret
    exact ⟨by first|rfl|(simp; done)|(simp [*]; done),by repeat (first|exact Drawn0.refl _|apply Drawn0.step)⟩
   ·replace c4:=Bool.eq_false_iff.mpr c4
    subst c4
    have H1:(if a0 ≥ 97 then (lex_class.j1 kj1 a0 (decide (a0≤122))) else (lex_class.j1 kj1 a0 false))=some r:=by rw [if_neg (show ¬ (false=true) by decide)] at H; exact H
    clear H
    have H:=H1
    clear H1
    have HC5:=Aside0.mk H
    clear H
    go_upto_region 3 with (fail)
    go_cut [10] (fun v10 wc=>∃ (kq:Nat) (x10_4:Bool),v10=.bool x10_4∧Aside0 (lex_class.j1 kq a0 x10_4=some r)∧Aside0 (kq≤kj1)∧Drawn0 w wc)
    case first =>
     have H:=HC5.out
     clear HC5
     by_cases c6:a0 ≥ 97
     ·rw [if_pos c6] at H
      have c6b0:decide (97≤a0)=true:=decide_eq_true c6
      clear c6
      (first|rw [c6b0]|(simp only [i64_w,i32_w]; rw [c6b0])|skip)
      have H':=Aside0.mk H
      clear H
      go_wp2
      go_meet
      case rel=>exact ⟨_,(decide (a0≤122)),(by first|rfl|(simp; done)|(simp [*]; done)),H',⟨by have:=HJ1.out; first|omega|exact Nat.le_refl _⟩,by repeat (first|exact Drawn0.refl _|apply Drawn0.step)⟩
     ·rw [if_neg c6] at H
      have c6b0:decide (97≤a0)=false:=decide_eq_false c6
      clear c6
      (first|rw [c6b0]|(simp only [i64_w,i32_w]; rw [c6b0])|skip)
      have H':=Aside0.mk H
      clear H
      go_wp2
      go_meet
      case rel=>exact ⟨_,(false),(by first|rfl|(simp; done)|(simp [*]; done)),H',⟨by have:=HJ1.out; first|omega|exact Nat.le_refl _⟩,by repeat (first|exact Drawn0.refl _|apply Drawn0.step)⟩
    case rest =>
     clear HC5
     try clear c1
     try clear p2
     try clear c3
     try clear c3b0
     try clear c4
     try clear c6
     try clear c6b0
     try clear p2
     obtain ⟨kq,x10_4,rfl,HA,HJ4,⟨mc4,rfl⟩⟩:=hcut
     cases kq with
     | zero=>exact absurd HA.out (by simp [lex_class.j1])
     | succ kj4 =>
      have H:=HA.out
      clear HA
      simp only [lex_class.j1] at H
      by_cases c7:x10_4=true
      ·subst c7
       have H1:(some 3)=some r:=by rw [if_pos rfl] at H; exact H
       clear H
       have H:=H1
       clear H1
       obtain rfl:=Option.some.inj H
       go_wp2
       go_ret
       exact ⟨by first|rfl|(simp; done)|(simp [*]; done),by repeat (first|exact Drawn0.refl _|apply Drawn0.step)⟩
      ·replace c7:=Bool.eq_false_iff.mpr c7
       subst c7
       have H1:(if a0 ≥ 65 then (lex_class.j2 kj4 a0 (decide (a0≤90))) else (lex_class.j2 kj4 a0 false))=some r:=by rw [if_neg (show ¬ (false=true) by decide)] at H; exact H
       clear H
       have H:=H1
       clear H1
       have HC8:=Aside0.mk H
       clear H
       go_upto_region 5 with (fail)
       go_cut [17] (fun v17 wc=>∃ (kq:Nat) (x17_7:Bool),v17=.bool x17_7∧Aside0 (lex_class.j2 kq a0 x17_7=some r)∧Aside0 (kq≤kj4)∧Drawn0 w wc)
       case first =>
        have H:=HC8.out
        clear HC8
        by_cases c9:a0 ≥ 65
        ·rw [if_pos c9] at H
         have c9b0:decide (65≤a0)=true:=decide_eq_true c9
         clear c9
         (first|rw [c9b0]|(simp only [i64_w,i32_w]; rw [c9b0])|skip)
         have H':=Aside0.mk H
         clear H
         go_wp2
         go_meet
         case rel=>exact ⟨_,(decide (a0≤90)),(by first|rfl|(simp; done)|(simp [*]; done)),H',⟨by have:=HJ1.out; have:=HJ4.out; first|omega|exact Nat.le_refl _⟩,by repeat (first|exact Drawn0.refl _|apply Drawn0.step)⟩
        ·rw [if_neg c9] at H
         have c9b0:decide (65≤a0)=false:=decide_eq_false c9
         clear c9
         (first|rw [c9b0]|(simp only [i64_w,i32_w]; rw [c9b0])|skip)
         have H':=Aside0.mk H
         clear H
         go_wp2
         go_meet
         case rel=>exact ⟨_,(false),(by first|rfl|(simp; done)|(simp [*]; done)),H',⟨by have:=HJ1.out; have:=HJ4.out; first|omega|exact Nat.le_refl _⟩,by repeat (first|exact Drawn0.refl _|apply Drawn0.step)⟩
       case rest =>
        clear HC8
        try clear c1
        try clear p2
        try clear c3
        try clear c3b0
        try clear c4
        try clear c6
        try clear c6b0
        try clear c7
        try clear c8
        try clear c9
        try clear c9b0
        try clear p2
        obtain ⟨kq,x17_7,rfl,HA,HJ7,⟨mc7,rfl⟩⟩:=hcut
        cases kq with
        | zero=>exact absurd HA.out (by simp [lex_class.j2])
        | succ kj7 =>
         have H:=HA.out
         clear HA
         simp only [lex_class.j2] at H
         by_cases c10:x17_7=true
         ·subst c10
          have H1:(some 4)=some r:=by rw [if_pos rfl] at H; exact H
          clear H
          have H:=H1
          clear H1
          obtain rfl:=Option.some.inj H
          go_wp2
          go_ret
          exact ⟨by first|rfl|(simp; done)|(simp [*]; done),by repeat (first|exact Drawn0.refl _|apply Drawn0.step)⟩
         ·replace c10:=Bool.eq_false_iff.mpr c10
          subst c10
          have H1:(if a0=95 then (some 5) else (if a0=32 then (lex_class.j3 kj7 a0 true) else (if a0=9 then (lex_class.j3 kj7 a0 true) else (if a0=10 then (lex_class.j3 kj7 a0 true) else (lex_class.j3 kj7 a0 (a0 == 13))))))=some r:=by rw [if_neg (show ¬ (false=true) by decide)] at H; exact H
          clear H
          have H:=H1
          clear H1
          by_cases c11:a0=95
          ·rw [if_pos c11] at H
           have c11b0:(a0 == 95)=true:=beq_iff_eq.mpr c11
           have c11b1:(a0 != 95)=false:=bne_eq_false_iff_eq.mpr c11
           clear c11
           obtain rfl:=Option.some.inj H
           go_wp2
           go_ret
           exact ⟨by first|rfl|(simp; done)|(simp [*]; done),by repeat (first|exact Drawn0.refl _|apply Drawn0.step)⟩
          ·rw [if_neg c11] at H
           have c11b0:(a0 == 95)=false:=beq_eq_false_iff_ne.mpr c11
           have c11b1:(a0 != 95)=true:=bne_iff_ne.mpr c11
           have HC12:=Aside0.mk H
           clear H
           go_upto_region 9 with (fail)
           go_cut [27] (fun v27 wc=>∃ (kq:Nat) (x27_11:Bool),v27=.bool x27_11∧Aside0 (lex_class.j3 kq a0 x27_11=some r)∧Aside0 (kq≤kj7)∧Drawn0 w wc)
           case first =>
            have H:=HC12.out
            clear HC12
            by_cases c13:a0=32
            ·rw [if_pos c13] at H
             have c13b0:(a0 == 32)=true:=beq_iff_eq.mpr c13
             have c13b1:(a0 != 32)=false:=bne_eq_false_iff_eq.mpr c13
             clear c13
             (first|rw [c13b0]|(simp only [i64_w,i32_w]; rw [c13b0])|skip)
             have H':=Aside0.mk H
             clear H
             go_wp2
             go_meet
             case rel=>exact ⟨_,(true),(by first|rfl|(simp; done)|(simp [*]; done)),H',⟨by have:=HJ1.out; have:=HJ4.out; have:=HJ7.out; first|omega|exact Nat.le_refl _⟩,by repeat (first|exact Drawn0.refl _|apply Drawn0.step)⟩
            ·rw [if_neg c13] at H
             have c13b0:(a0 == 32)=false:=beq_eq_false_iff_ne.mpr c13
             have c13b1:(a0 != 32)=true:=bne_iff_ne.mpr c13
             (first|rw [c13b0]|(simp only [i64_w,i32_w]; rw [c13b0])|skip)
             by_cases c14:a0=9
             ·rw [if_pos c14] at H
              have c14b0:(a0 == 9)=true:=beq_iff_eq.mpr c14
              have c14b1:(a0 != 9)=false:=bne_eq_false_iff_eq.mpr c14
              clear c14
              have H':=Aside0.mk H
              clear H
              go_wp2
              go_meet
              case rel=>exact ⟨_,(true),(by first|rfl|(simp; done)|(simp [*]; done)),H',⟨by have:=HJ1.out; have:=HJ4.out; have:=HJ7.out; first|omega|exact Nat.le_refl _⟩,by repeat (first|exact Drawn0.refl _|apply Drawn0.step)⟩
             ·rw [if_neg c14] at H
              have c14b0:(a0 == 9)=false:=beq_eq_false_iff_ne.mpr c14
              have c14b1:(a0 != 9)=true:=bne_iff_ne.mpr c14
              by_cases c15:a0=10
              ·rw [if_pos c15] at H
               have c15b0:(a0 == 10)=true:=beq_iff_eq.mpr c15
               have c15b1:(a0 != 10)=false:=bne_eq_false_iff_eq.mpr c15
               clear c15
               have H':=Aside0.mk H
               clear H
               go_wp2
               go_meet
               case rel=>exact ⟨_,(true),(by first|rfl|(simp; done)|(simp [*]; done)),H',⟨by have:=HJ1.out; have:=HJ4.out; have:=HJ7.out; first|omega|exact Nat.le_refl _⟩,by repeat (first|exact Drawn0.refl _|apply Drawn0.step)⟩
              ·rw [if_neg c15] at H
               have c15b0:(a0 == 10)=false:=beq_eq_false_iff_ne.mpr c15
               have c15b1:(a0 != 10)=true:=bne_iff_ne.mpr c15
               have H':=Aside0.mk H
               clear H
               go_wp2
               go_meet
               case rel=>exact ⟨_,((a0 == 13)),(by first|rfl|(simp; done)|(simp [*]; done)),H',⟨by have:=HJ1.out; have:=HJ4.out; have:=HJ7.out; first|omega|exact Nat.le_refl _⟩,by repeat (first|exact Drawn0.refl _|apply Drawn0.step)⟩
           case rest =>
            clear HC12
            try clear c1
            try clear p2
            try clear c3
            try clear c3b0
            try clear c4
            try clear c6
            try clear c6b0
            try clear c7
            try clear c8
            try clear c9
            try clear c9b0
            try clear c10
            try clear c11
            try clear c11b0
            try clear c11b1
            try clear c13
            try clear c13b0
            try clear c13b1
            try clear c14
            try clear c14b0
            try clear c14b1
            try clear c15
            try clear c15b0
            try clear c15b1
            try clear p2
            obtain ⟨kq,x27_11,rfl,HA,HJ11,⟨mc11,rfl⟩⟩:=hcut
            cases kq with
            | zero=>exact absurd HA.out (by simp [lex_class.j3])
            | succ kj11 =>
             have H:=HA.out
             clear HA
             simp only [lex_class.j3] at H
             by_cases c16:x27_11=true
             ·subst c16
              have H1:(some 1)=some r:=by rw [if_pos rfl] at H; exact H
              clear H
              have H:=H1
              clear H1
              obtain rfl:=Option.some.inj H
              go_wp2
              go_ret
              exact ⟨by first|rfl|(simp; done)|(simp [*]; done),by repeat (first|exact Drawn0.refl _|apply Drawn0.step)⟩
             ·replace c16:=Bool.eq_false_iff.mpr c16
              subst c16
              have H1:(if a0 < 128 then ((strings_ContainsRune.f (⟨#[40,41,123,125,44,58,64,43,45,42,47,37,61,60,33]⟩:ByteArray) a0).bind fun t101=>(if t101=true then (some 6) else (some 0))) else (some 0))=some r:=by rw [if_neg (show ¬ (false=true) by decide)] at H; exact H
              clear H
              have H:=H1
              clear H1
              by_cases c17:a0 < 128
              ·rw [if_pos c17] at H
               have c17b0:decide (a0 < 128)=true:=decide_eq_true c17
               clear c17
               replace H:=Option.bind_eq_some_iff.mp H
               obtain ⟨t101,A180,H⟩:=H
               replace H:(if t101=true then (some 6) else (some 0))=some r:=H
               have A18:=Aside0.mk A180
               clear A180
               by_cases c19:t101=true
               ·subst c19
                have H1:(some 6)=some r:=by rw [if_pos rfl] at H; exact H
                clear H
                have H:=H1
                clear H1
                obtain rfl:=Option.some.inj H
                go_wp2_with (first|(go_at_call 101; (with_reducible refine (strings_ContainsRune.calls (⟨#[40,41,123,125,44,58,64,43,45,42,47,37,61,60,33]⟩:ByteArray) a0 true _ A18.out).mono ?_); rintro e w' ⟨rfl,⟨nd,rfl⟩⟩))
                go_ret
                exact ⟨by first|rfl|(simp; done)|(simp [*]; done),by repeat (first|exact Drawn0.refl _|apply Drawn0.step)⟩
               ·replace c19:=Bool.eq_false_iff.mpr c19
                subst c19
                have H1:(some 0)=some r:=by rw [if_neg (show ¬ (false=true) by decide)] at H; exact H
                clear H
                have H:=H1
                clear H1
                obtain rfl:=Option.some.inj H
                go_wp2_with (first|(go_at_call 101; (with_reducible refine (strings_ContainsRune.calls (⟨#[40,41,123,125,44,58,64,43,45,42,47,37,61,60,33]⟩:ByteArray) a0 false _ A18.out).mono ?_); rintro e w' ⟨rfl,⟨nd,rfl⟩⟩))
                go_ret
                exact ⟨by first|rfl|(simp; done)|(simp [*]; done),by repeat (first|exact Drawn0.refl _|apply Drawn0.step)⟩
              ·rw [if_neg c17] at H
               have c17b0:decide (a0 < 128)=false:=decide_eq_false c17
               clear c17
               obtain rfl:=Option.some.inj H
               go_wp2
               go_ret
               exact ⟨by first|rfl|(simp; done)|(simp [*]; done),by repeat (first|exact Drawn0.refl _|apply Drawn0.step)⟩
def cls3 (c:Int):Int:=if c < 128 then (if 0≤Lib.indexByte [40,41,123,125,44,58,64,43,45,42,47,37,61,60,33] c.toNat.toUInt8 then 6 else 0) else 0
def cls2 (c:Int):Int:=if c=95 then 5 else if c=32∨c=9∨c=10∨c=13 then 1 else cls3 c
def cls1 (c:Int):Int:=if 65≤c∧c≤90 then 4 else cls2 c
def cls0 (c:Int):Int:=if 97≤c∧c≤122 then 3 else cls1 c
def clsv (c:Int):Int:=if 48≤c∧c≤57 then 2 else cls0 c
theorem cls_j3 {c:Int} (h:0≤c) (k:Nat) (b:Bool):lex_class.j3 (k+1) c b=some (if b=true then 1 else cls3 c):=by
 unfold cls3
 simp only [lex_class.j3,strings_ContainsRune.f]
 rw [if_pos h]
 by_cases hb:b=true
 ·rw [if_pos hb,if_pos hb]
 ·rw [if_neg hb,if_neg hb]
  by_cases h1:c < 128
  ·rw [if_pos h1,if_pos h1,if_pos h1]
   simp only [Option.bind_some,decide_eq_true_eq]
   by_cases h2:0≤Lib.indexByte [40,41,123,125,44,58,64,43,45,42,47,37,61,60,33] c.toNat.toUInt8
   ·rw [if_pos h2,if_pos h2]
   ·rw [if_neg h2,if_neg h2]
  ·rw [if_neg h1,if_neg h1]
theorem cls_j2 {c:Int} (h:0≤c) (k:Nat) (b:Bool):lex_class.j2 (k+2) c b=some (if b=true then 4 else cls2 c):=by
 unfold cls2
 simp only [lex_class.j2,cls_j3 h,if_true,beq_iff_eq]
 by_cases hb:b=true
 ·rw [if_pos hb,if_pos hb]
 ·rw [if_neg hb,if_neg hb]
  by_cases h4:c=95
  ·rw [if_pos h4,if_pos h4]
  ·rw [if_neg h4,if_neg h4]
   by_cases h1:c=32
   ·rw [if_pos h1,if_pos (.inl h1)]
   ·rw [if_neg h1]
    by_cases h2:c=9
    ·rw [if_pos h2,if_pos (.inr (.inl h2))]
    ·rw [if_neg h2]
     by_cases h3:c=10
     ·rw [if_pos h3,if_pos (.inr (.inr (.inl h3)))]
     ·rw [if_neg h3]
      by_cases h5:c=13
      ·rw [if_pos h5,if_pos (.inr (.inr (.inr h5)))]
      ·rw [if_neg h5,if_neg (by rintro (h|h|h|h)<;>contradiction)]
theorem cls_j1 {c:Int} (h:0≤c) (k:Nat) (b:Bool):lex_class.j1 (k+3) c b=some (if b=true then 3 else cls1 c):=by
 unfold cls1
 simp only [lex_class.j1,cls_j2 h,Bool.false_eq_true,if_false,decide_eq_true_eq]
 by_cases hb:b=true
 ·rw [if_pos hb,if_pos hb]
 ·rw [if_neg hb,if_neg hb]
  by_cases h1:65≤c
  ·rw [if_pos h1]
   by_cases h2:c≤90
   ·rw [if_pos h2,if_pos ⟨h1,h2⟩]
   ·rw [if_neg h2,if_neg (fun h=>h2 h.2)]
  ·rw [if_neg h1,if_neg (fun h=>h1 h.1)]
theorem cls_j0 {c:Int} (h:0≤c) (k:Nat) (b:Bool):lex_class.j0 (k+4) c b=some (if b=true then 2 else cls0 c):=by
 unfold cls0
 simp only [lex_class.j0,cls_j1 h,Bool.false_eq_true,if_false,decide_eq_true_eq]
 by_cases hb:b=true
 ·rw [if_pos hb,if_pos hb]
 ·rw [if_neg hb,if_neg hb]
  by_cases h1:97≤c
  ·rw [if_pos h1]
   by_cases h2:c≤122
   ·rw [if_pos h2,if_pos ⟨h1,h2⟩]
   ·rw [if_neg h2,if_neg (fun h=>h2 h.2)]
  ·rw [if_neg h1,if_neg (fun h=>h1 h.1)]
theorem class_val {c:Int} (h:0≤c) (k:Nat):lex_class.f (k+4) c=some (clsv c):=by
 unfold clsv lex_class.f
 simp only [cls_j0 h,Bool.false_eq_true,if_false,decide_eq_true_eq]
 by_cases h1:48≤c
 ·rw [if_pos h1]
  by_cases h2:c≤57
  ·rw [if_pos h2,if_pos ⟨h1,h2⟩]
  ·rw [if_neg h2,if_neg (fun h=>h2 h.2)]
 ·rw [if_neg h1,if_neg (fun h=>h1 h.1)]
theorem clsv_high {c:Int} (h:128≤c):clsv c=0:=by
 unfold clsv cls0 cls1 cls2 cls3
 rw [if_neg (by omega),if_neg (by omega),if_neg (by omega),if_neg (by omega),if_neg (by omega),if_neg (by omega)]
theorem clsv_two (c:Int):clsv c=2↔(48≤c∧c≤57):=by
 unfold clsv cls0 cls1 cls2 cls3
 repeat' split
 all_goals omega
theorem clsv_three (c:Int):clsv c=3↔(97≤c∧c≤122):=by
 unfold clsv cls0 cls1 cls2 cls3
 repeat' split
 all_goals omega
theorem clsv_five (c:Int):clsv c=5↔c=95:=by
 unfold clsv cls0 cls1 cls2 cls3
 repeat' split
 all_goals omega
theorem rune_cls (s:ByteArray) (p:Nat) (h:p < s.size):clsv (((Utf8.decode s p).1:Nat):Int)=clsv (bt s p)∧(bt s p < 128→(Utf8.decode s p)=((bt s p).toNat,1)):=by
 have hb:bt s p=(((s[p]'h).toNat:Nat):Int):=(bt_at s p h).symm
 by_cases ha:(s[p]'h).toNat < 128
 ·have:=decode_ascii s p h ha
  rw [this,hb]
  exact ⟨rfl,fun _=>rfl⟩
 ·obtain ⟨h1,_⟩:=decode_high s p h (by omega)
  rw [clsv_high (by omega),hb,clsv_high (by omega)]
  exact ⟨rfl,fun h=>by omega⟩
theorem iter_drew_next {P:Program} (w:World) (n:Nat) (s:ByteArray) (p:Nat) (ty:TypeId) (h:p < s.size) :
  (Instr.next (.pointer (some ⟨w.heap.size,0,none⟩)) true ty).run P ((w.iter s p).drewN n)=.ok (.tuple #[.bool true,.int .i64 p,.int .i32 (Utf8.decode s p).1]) ((w.iter s (p+(Utf8.decode s p).2)).drewN n):=run_next_any (w.drewN n) s p ty h
theorem iter_drew_end {P:Program} (w:World) (n:Nat) (s:ByteArray) (p:Nat) (ty:TypeId) (h:¬ p < s.size) :
  (Instr.next (.pointer (some ⟨w.heap.size,0,none⟩)) true ty).run P ((w.iter s p).drewN n)=.ok (.tuple #[.bool false]) ((w.iter s p).drewN n):=run_next_end (w.drewN n) s p ty h
theorem iter_pos (w:World) (n:Nat) (s:ByteArray) (p:Nat):((w.iter s p).drewN n).iterPos w.heap.size=p:=World.iterPos_iter (w.drewN n) s p
theorem iter_below (w:World) (n:Nat) (s:ByteArray) (p:Nat):Below w.heap.size w ((w.iter s p).drewN n):=pw_below_drewN (below_alloc (Below.refl _ _) _) n
end Go.Proofs.YtcmdjpolgaejoaaDoor.C
