/- The laws GuardLooks, GuardWords of the program hold, as their cards say: texts put together by a program, 25 of 38. -/
import Derived.Test.YtcmdjpolgaejoaaDoorPB23
namespace Go.Proofs.YtcmdjpolgaejoaaDoor.D
open Go.RowKit Go.Proofs.YtcmdjpolgaejoaaDoorW.PrintWords Go.Proofs.YtcmdjpolgaejoaaDoorW.PrintLast Go.Proofs.YtcmdjpolgaejoaaDoorW.PrintMore
attribute [local go_sem] max2_int min2_int max_two min_two max_three min_three max_four min_four
set_option linter.unusedVariables false
set_option linter.unusedSimpArgs false
def bits_Mul64.f (a0:Int) (a1:Int):Option (Int×Int):=some (IntKind.u64.wrap ((IntKind.u64.wrap ((IntKind.u64.wrap ((a0 / 4294967296)*(a1 / 4294967296)))+((IntKind.u64.wrap ((IntKind.u64.wrap ((a0 / 4294967296)*(Go.bits .and .u64 a1 4294967295)))+((IntKind.u64.wrap ((Go.bits .and .u64 a0 4294967295)*(Go.bits .and .u64 a1 4294967295))) / 4294967296))) / 4294967296)))+((IntKind.u64.wrap ((Go.bits .and .u64 (IntKind.u64.wrap ((IntKind.u64.wrap ((a0 / 4294967296)*(Go.bits .and .u64 a1 4294967295)))+((IntKind.u64.wrap ((Go.bits .and .u64 a0 4294967295)*(Go.bits .and .u64 a1 4294967295))) / 4294967296))) 4294967295)+(IntKind.u64.wrap ((Go.bits .and .u64 a0 4294967295)*(a1 / 4294967296))))) / 4294967296)),IntKind.u64.wrap (a0*a1))
set_option maxHeartbeats 8000000 in
set_option maxRecDepth 100000 in
theorem bits_Mul64.calls (a0:Int) (a1:Int) (r1:Int) (r2:Int) (w:World) (h:bits_Mul64.f a0 a1=some (r1,r2)) :
  Calls Tryd.prog 30 #[.int .u64 a0,.int .u64 a1] w fun e w'=>e=.returned (.tuple #[.int .u64 r1,.int .u64 r2])∧Drawn0 w w':=by
 have H:(some (IntKind.u64.wrap ((IntKind.u64.wrap ((IntKind.u64.wrap ((a0 / 4294967296)*(a1 / 4294967296)))+((IntKind.u64.wrap ((IntKind.u64.wrap ((a0 / 4294967296)*(Go.bits .and .u64 a1 4294967295)))+((IntKind.u64.wrap ((Go.bits .and .u64 a0 4294967295)*(Go.bits .and .u64 a1 4294967295))) / 4294967296))) / 4294967296)))+((IntKind.u64.wrap ((Go.bits .and .u64 (IntKind.u64.wrap ((IntKind.u64.wrap ((a0 / 4294967296)*(Go.bits .and .u64 a1 4294967295)))+((IntKind.u64.wrap ((Go.bits .and .u64 a0 4294967295)*(Go.bits .and .u64 a1 4294967295))) / 4294967296))) 4294967295)+(IntKind.u64.wrap ((Go.bits .and .u64 a0 4294967295)*(a1 / 4294967296))))) / 4294967296)),IntKind.u64.wrap (a0*a1)))=some (r1,r2):=h
 clear h
 simp only [Option.some.injEq,Prod.mk.injEq] at H
 obtain ⟨rfl,rfl⟩:=H
 go_enter Tryd.func30,Tryd.ntmps30
 go_wp2
 go_ret2
 exact ⟨by first|rfl|(simp; done)|(simp [*]; done),by repeat (first|exact Drawn0.refl _|apply Drawn0.step)⟩
def guard_Bound.l0:Nat→Int→Int→Int→Int→Option (Int)
 | 0,_,_,_,_=>none
 | k+1,x2,x7,x16,x17=>if x17 < x16 then ((bits_Mul64.f x7 ((mn (mx x2 0) 2147483648)+1)).bind fun bt101=>(if bt101.1 > 0 then (some 4611686018427387904) else (if bt101.2 > 4611686018427387904 then (some 4611686018427387904) else (guard_Bound.l0 k x2 bt101.2 x16 (wrap64 (x17+1)))))) else (some (wrap64 (x7)))
def guard_Bound.f (k:Nat) (a0:Int) (a1:Int) (a2:Int):Option (Int):=guard_Bound.l0 k a2 (mn (mx a0 0) 2147483648) (mn (mx a1 0) 4) 0
set_option maxHeartbeats 8000000 in
set_option maxRecDepth 100000 in
theorem guard_Bound.calls (k:Nat) (a0:Int) (a1:Int) (a2:Int) (r:Int) (w:World) (h:guard_Bound.f k a0 a1 a2=some r) :
  Calls Tryd.prog 15 #[.int .i64 a0,.int .i64 a1,.int .i64 a2] w fun e w'=>e=.returned (.int .i64 r)∧Below w.heap.size w w':=by
 have HB:=Aside0.mk (Below.refl w.heap.size w)
 have H:(guard_Bound.l0 k a2 (mn (mx a0 0) 2147483648) (mn (mx a1 0) 4) 0)=some r:=h
 clear h
 obtain ⟨ji4,hji4⟩:∃ j_:Int,(mx a0 0)=j_:=⟨_,rfl⟩
 replace H:(guard_Bound.l0 k a2 (mn (ji4) 2147483648) (mn (mx a1 0) 4) 0)=some r:=by first|(rw [hji4] at H; exact H)|(simp only [hji4] at H ⊢; exact H)
 (try (have hji4l:0≤ji4:=by (rw [← hji4]; unfold mx; (repeat' split)<;>omega)))
 (try (have hji4m:0≤ji4:=by omega))
 have hji4_:(if a0 < 0 then 0 else a0)=ji4:=hji4
 obtain ⟨ji5,hji5⟩:∃ j_:Int,(mn (ji4) 2147483648)=j_:=⟨_,rfl⟩
 replace H:(guard_Bound.l0 k a2 ji5 (mn (mx a1 0) 4) 0)=some r:=by first|(rw [hji5] at H; exact H)|(simp only [hji5] at H ⊢; exact H)
 have hji5_:(if 2147483648 < (ji4) then 2147483648 else (ji4))=ji5:=hji5
 obtain ⟨ji6,hji6⟩:∃ j_:Int,(mx a1 0)=j_:=⟨_,rfl⟩
 replace H:(guard_Bound.l0 k a2 ji5 (mn (ji6) 4) 0)=some r:=by first|(rw [hji6] at H; exact H)|(simp only [hji6] at H ⊢; exact H)
 (try (have hji6l:0≤ji6:=by (rw [← hji6]; unfold mx; (repeat' split)<;>omega)))
 (try (have hji6m:0≤ji6:=by omega))
 have hji6_:(if a1 < 0 then 0 else a1)=ji6:=hji6
 obtain ⟨ji7,hji7⟩:∃ j_:Int,(mn (ji6) 4)=j_:=⟨_,rfl⟩
 replace H:(guard_Bound.l0 k a2 ji5 ji7 0)=some r:=by first|(rw [hji7] at H; exact H)|(simp only [hji7] at H ⊢; exact H)
 have hji7_:(if 4 < (ji6) then 4 else (ji6))=ji7:=hji7
 have H':=Aside0.mk H
 clear H
 go_enter Tryd.func15,Tryd.ntmps15
 go_wp2
 go_loopg [7,17] k (fun kq v7 v17 w'=>∃ (x7_1:Int) (x17_1:Int),v7=.int .u64 x7_1∧v17=.int .i64 x17_1∧Aside0 (guard_Bound.l0 kq a2 x7_1 ji7 x17_1=some r)∧Aside0 (kq≤k)∧Aside0 (Below w.heap.size w w'))
 case atStart=>exact ⟨(ji5),(0),(by first|rfl|(simp; done)|(simp only [← hji5]<;>(first|rfl|simp))|(simp [*]; done)),(by first|rfl|(simp; done)|(simp [*]; done)),H',⟨Nat.le_refl _⟩,⟨by repeat (first|(with_reducible first|exact HB.out|apply below_alloc|apply pw_below_drewN|apply below_drew1)|exact HB.out)⟩⟩
 case round =>
  clear H'
  try clear c1
  try clear p2
  obtain ⟨x7_1,x17_1,rfl,rfl,HA,HK1,HB⟩:=hrel
  cases gk with
  | zero=>exact absurd HA.out (by simp [guard_Bound.l0])
  | succ k1 =>
   have H:=HA.out
   clear HA
   simp only [guard_Bound.l0] at H
   by_cases c8:x17_1 < ji7
   ·rw [if_pos c8] at H
    have c8b0:decide (x17_1 < ji7)=true:=decide_eq_true c8
    clear c8
    obtain ⟨ji9,hji9⟩:∃ j_:Int,(mx a2 0)=j_:=⟨_,rfl⟩
    replace H:((bits_Mul64.f x7_1 ((mn (ji9) 2147483648)+1)).bind fun bt101=>(if bt101.1 > 0 then (some 4611686018427387904) else (if bt101.2 > 4611686018427387904 then (some 4611686018427387904) else (guard_Bound.l0 k1 a2 bt101.2 ji7 (wrap64 (x17_1+1))))))=some r:=by first|(rw [hji9] at H; exact H)|(simp only [hji9] at H ⊢; exact H)
    have hji9_:(if a2 < 0 then 0 else a2)=ji9:=hji9
    obtain ⟨ji10,hji10⟩:∃ j_:Int,(mn (ji9) 2147483648)=j_:=⟨_,rfl⟩
    replace H:((bits_Mul64.f x7_1 ((ji10)+1)).bind fun bt101=>(if bt101.1 > 0 then (some 4611686018427387904) else (if bt101.2 > 4611686018427387904 then (some 4611686018427387904) else (guard_Bound.l0 k1 a2 bt101.2 ji7 (wrap64 (x17_1+1))))))=some r:=by first|(rw [hji10] at H; exact H)|(simp only [hji10] at H ⊢; exact H)
    have hji10_:(if 2147483648 < (ji9) then 2147483648 else (ji9))=ji10:=hji10
    replace H:=Option.bind_eq_some_iff.mp H
    obtain ⟨⟨t101,t102⟩,A110,H⟩:=H
    replace H:(if t101 > 0 then (some 4611686018427387904) else (if t102 > 4611686018427387904 then (some 4611686018427387904) else (guard_Bound.l0 k1 a2 t102 ji7 (wrap64 (x17_1+1)))))=some r:=H
    have A11:=Aside0.mk A110
    clear A110
    by_cases c12:t101 > 0
    ·rw [if_pos c12] at H
     have c12b0:decide (0 < t101)=true:=decide_eq_true c12
     clear c12
     obtain rfl:=Option.some.inj H
     go_wp2_with (first|((with_reducible refine gate_callee (f:=30) rfl ?_); refine goesL_ (some 26) rfl rfl Tryd.func30 (by kernel_rfl) rfl #[.int .u64 x7_1,.int .u64 ((ji10)+1)] rfl (by (try simp only [List.map_toArray,List.map_cons,List.map_nil]); first|done|(simp only [hji10]; rfl)|rfl|(simp only [List.length_drop,List.length_take]; rfl)) ?_; (with_reducible refine (bits_Mul64.calls x7_1 ((ji10)+1) t101 t102 _ A11.out).mono ?_); rintro e w' ⟨rfl,⟨nd,rfl⟩⟩; refine ⟨_,rfl,?_⟩))
     go_ret
     exact ⟨by first|rfl|(simp [errW_none,errW_some]<;>rfl)|(simp only [← hji4,← hji5,← hji6,← hji7,← hji9,← hji10]; first|rfl|(simp [errW_none,errW_some]<;>rfl))|(simp [*,errW_none,errW_some]<;>rfl),by repeat (first|(with_reducible first|exact HB.out|apply below_alloc|apply pw_below_drewN|apply below_drew1)|exact HB.out)⟩
    ·rw [if_neg c12] at H
     have c12b0:decide (0 < t101)=false:=decide_eq_false c12
     clear c12
     by_cases c13:t102 > 4611686018427387904
     ·rw [if_pos c13] at H
      have c13b0:decide (4611686018427387904 < t102)=true:=decide_eq_true c13
      clear c13
      obtain rfl:=Option.some.inj H
      go_wp2_with (first|((with_reducible refine gate_callee (f:=30) rfl ?_); refine goesL_ (some 26) rfl rfl Tryd.func30 (by kernel_rfl) rfl #[.int .u64 x7_1,.int .u64 ((ji10)+1)] rfl (by (try simp only [List.map_toArray,List.map_cons,List.map_nil]); first|done|(simp only [hji10]; rfl)|rfl|(simp only [List.length_drop,List.length_take]; rfl)) ?_; (with_reducible refine (bits_Mul64.calls x7_1 ((ji10)+1) t101 t102 _ A11.out).mono ?_); rintro e w' ⟨rfl,⟨nd,rfl⟩⟩; refine ⟨_,rfl,?_⟩))
      go_ret
      exact ⟨by first|rfl|(simp [errW_none,errW_some]<;>rfl)|(simp only [← hji4,← hji5,← hji6,← hji7,← hji9,← hji10]; first|rfl|(simp [errW_none,errW_some]<;>rfl))|(simp [*,errW_none,errW_some]<;>rfl),by repeat (first|(with_reducible first|exact HB.out|apply below_alloc|apply pw_below_drewN|apply below_drew1)|exact HB.out)⟩
     ·rw [if_neg c13] at H
      have c13b0:decide (4611686018427387904 < t102)=false:=decide_eq_false c13
      clear c13
      have H':=Aside0.mk H
      clear H
      go_wp2_with (first|((with_reducible refine gate_callee (f:=30) rfl ?_); refine goesL_ (some 26) rfl rfl Tryd.func30 (by kernel_rfl) rfl #[.int .u64 x7_1,.int .u64 ((ji10)+1)] rfl (by (try simp only [List.map_toArray,List.map_cons,List.map_nil]); first|done|(simp only [hji10]; rfl)|rfl|(simp only [List.length_drop,List.length_take]; rfl)) ?_; (with_reducible refine (bits_Mul64.calls x7_1 ((ji10)+1) t101 t102 _ A11.out).mono ?_); rintro e w' ⟨rfl,⟨nd,rfl⟩⟩; refine ⟨_,rfl,?_⟩))
      go_roundg k1
      case measure=>have:=HK1.out; omega
      case rel=>exact ⟨(t102),(wrap64 (x17_1+1)),(by first|rfl|(simp; done)|(simp [*]; done)),(by first|rfl|(simp; done)|(simp [*]; done)),H',⟨by have:=HK1.out; omega⟩,⟨by repeat (first|(with_reducible first|exact HB.out|apply below_alloc|apply pw_below_drewN|apply below_drew1)|exact HB.out)⟩⟩
   ·rw [if_neg c8] at H
    have c8b0:decide (x17_1 < ji7)=false:=decide_eq_false c8
    clear c8
    obtain rfl:=Option.some.inj H
    go_wp2
    go_ret
    exact ⟨by first|rfl|(simp [errW_none,errW_some]<;>rfl)|(simp only [← hji4,← hji5,← hji6,← hji7]; first|rfl|(simp [errW_none,errW_some]<;>rfl))|(simp [*,errW_none,errW_some]<;>rfl),by repeat (first|(with_reducible first|exact HB.out|apply below_alloc|apply pw_below_drewN|apply below_drew1)|exact HB.out)⟩
def isthmusref13_Gives.j0:Nat→Int→Bool→Option (Int)
 | 0,_,_=>none
 | k+1,x3,x4=>if x4=true then (some 2) else (if x3=10 then (some 3) else (some 1))
def isthmusref13_Gives.f (k:Nat) (a0:Int):Option (Int):=if a0=1 then (isthmusref13_Gives.j0 k a0 (a0 == 1)) else (isthmusref13_Gives.j0 k a0 (a0 == 2))
set_option maxHeartbeats 8000000 in
set_option maxRecDepth 100000 in
theorem isthmusref13_Gives.calls (k:Nat) (a0:Int) (r:Int) (w:World) (h:isthmusref13_Gives.f k a0=some r) :
  Calls Tryd.prog 70 #[.int .i64 a0] w fun e w'=>e=.returned (.int .i64 r)∧Drawn0 w w':=by
 have H:(if a0=1 then (isthmusref13_Gives.j0 k a0 (a0 == 1)) else (isthmusref13_Gives.j0 k a0 (a0 == 2)))=some r:=h
 clear h
 have HC2:=Aside0.mk H
 clear H
 go_enter Tryd.func70,Tryd.ntmps70
 go_upto_if 4 with (fail)
 go_cut [4] (fun v4 wc=>∃ (kq:Nat) (x4_1:Bool),v4=.bool x4_1∧Aside0 (isthmusref13_Gives.j0 kq a0 x4_1=some r)∧Aside0 (kq≤k)∧Drawn0 w wc)
 case first =>
  have H:=HC2.out
  clear HC2
  by_cases c3:a0=1
  ·rw [if_pos c3] at H
   have c3b0:(a0 == 1)=true:=beq_iff_eq.mpr c3
   have c3b1:(a0 != 1)=false:=bne_eq_false_iff_eq.mpr c3
   clear c3
   (first|rw [c3b0]|(simp only [i64_w,i32_w]; rw [c3b0])|skip)
   have H':=Aside0.mk H
   clear H
   go_wp2
   go_meet
   case rel=>exact ⟨_,((a0 == 1)),(by first|rfl|(simp; done)|(simp [*]; done)),H',⟨by first|omega|exact Nat.le_refl _⟩,by repeat (first|exact Drawn0.refl _|apply Drawn0.step)⟩
  ·rw [if_neg c3] at H
   have c3b0:(a0 == 1)=false:=beq_eq_false_iff_ne.mpr c3
   have c3b1:(a0 != 1)=true:=bne_iff_ne.mpr c3
   (first|rw [c3b0]|(simp only [i64_w,i32_w]; rw [c3b0])|skip)
   have H':=Aside0.mk H
   clear H
   go_wp2
   go_meet
   case rel=>exact ⟨_,((a0 == 2)),(by first|rfl|(simp; done)|(simp [*]; done)),H',⟨by first|omega|exact Nat.le_refl _⟩,by repeat (first|exact Drawn0.refl _|apply Drawn0.step)⟩
 case rest =>
  clear HC2
  try clear p2
  try clear c3
  try clear c3b0
  try clear c3b1
  obtain ⟨kq,x4_1,rfl,HA,HJ1,⟨mc1,rfl⟩⟩:=hcut
  cases kq with
  | zero=>exact absurd HA.out (by simp [isthmusref13_Gives.j0])
  | succ kj1 =>
   have H:=HA.out
   clear HA
   simp only [isthmusref13_Gives.j0] at H
   by_cases c4:x4_1=true
   ·subst c4
    have H1:(some 2)=some r:=by rw [if_pos rfl] at H; exact H
    clear H
    have H:=H1
    clear H1
    obtain rfl:=Option.some.inj H
    go_wp2
    go_ret
    exact ⟨by first|rfl|(simp; done)|(simp [*]; done),by repeat (first|exact Drawn0.refl _|apply Drawn0.step)⟩
   ·replace c4:=Bool.eq_false_iff.mpr c4
    subst c4
    have H1:(if a0=10 then (some 3) else (some 1))=some r:=by rw [if_neg (show ¬ (false=true) by decide)] at H; exact H
    clear H
    have H:=H1
    clear H1
    by_cases c5:a0=10
    ·rw [if_pos c5] at H
     have c5b0:(a0 == 10)=true:=beq_iff_eq.mpr c5
     have c5b1:(a0 != 10)=false:=bne_eq_false_iff_eq.mpr c5
     clear c5
     obtain rfl:=Option.some.inj H
     go_wp2
     go_ret
     exact ⟨by first|rfl|(simp; done)|(simp [*]; done),by repeat (first|exact Drawn0.refl _|apply Drawn0.step)⟩
    ·rw [if_neg c5] at H
     have c5b0:(a0 == 10)=false:=beq_eq_false_iff_ne.mpr c5
     have c5b1:(a0 != 10)=true:=bne_iff_ne.mpr c5
     obtain rfl:=Option.some.inj H
     go_wp2
     go_ret
     exact ⟨by first|rfl|(simp; done)|(simp [*]; done),by repeat (first|exact Drawn0.refl _|apply Drawn0.step)⟩
def isthmusref20_code.f (a0:Int):Option (ByteArray):=some (strOfNums (([(a0)%256]:List Int)))
set_option maxHeartbeats 8000000 in
set_option maxRecDepth 100000 in
theorem isthmusref20_code.calls (a0:Int) (r:ByteArray) (w:World) (h:isthmusref20_code.f a0=some r) :
  Calls Tryd.prog 77 #[.int .i64 a0] w fun e w'=>e=.returned (.string r)∧Below w.heap.size w w':=by
 have HB:=Aside0.mk (Below.refl w.heap.size w)
 have H:(some (strOfNums (([(a0)%256]:List Int))))=some r:=h
 clear h
 obtain ⟨y103,hy103⟩:∃ y_:List Int,y_=(([(a0)%256]:List Int)):=⟨_,rfl⟩
 replace H:(some (strOfNums y103))=some r:=by first|(rw [hy103]; with_reducible exact H)|(have H2_:=(Option.bind_some _ _).symm.trans H; rw [hy103]; with_reducible exact H2_)|(have H2_:=(Option.bind_some _ _).symm.trans H; with_reducible exact H2_)|with_reducible exact H|(rw [hy103]; exact H)|exact H
 have Ny103:=Aside0.mk hy103
 clear hy103
 obtain rfl:=Option.some.inj H
 go_enter Tryd.func77,Tryd.ntmps77
 go_wp2_with (first|((with_reducible refine gate_dst (N:=5) rfl ?_); refine Kd.R_lit (Kd.int .u8) _ 5 ?hg (N:=5) ?hd (xs:=([(a0)%256]:List Int)) (inner:=[.int .u8 ((a0)%256)]) (ok:=fun _=>True) (okp:=fun _=>True) ?hr ?hp (fun _ hk=>hk) trivial (Below.refl _ _) (Nat.le_refl _) (by simp) ?_; (case hd=>rfl); (case hg=>rfl); (case hr=>first|(go_simp; done)|(go_simp; rfl)); (case hp=>exact (Reps.one (show Kd.M (Kd.int .u8) _ _ _ ((a0)%256) [.int .u8 ((a0)%256)] from rfl) (Reps.none _ _))); intro v104 w2 ho3 hb hg_ hnew_; clear hg_ hnew_; (first|rw [← Ny103.out] at ho3|(simp only [Int.reduceToNat] at ho3; rw [← Ny103.out] at ho3)); have n0_:=Aside0.mk (Kd.R_lower ho3 (below_size (by repeat (first|(with_reducible first|exact HB.out|apply below_alloc|apply pw_below_drewN|apply below_drew1)|exact HB.out)))); have n1_:=Aside0.mk (below_step (by repeat (first|(with_reducible first|exact HB.out|apply below_alloc|apply pw_below_drewN|apply below_drew1)|exact HB.out)) hb); clear HB; have HO105:=n0_; have HB:=n1_; clear n0_ n1_; clear hb ho3; have hcv4:=own_string (P:=Tryd.prog) Tryd.underlying136 Tryd.underlying5 Tryd.underlying9 (Kd.own_of_R HO105.out)))
 go_ret
 exact ⟨by first|rfl|(simp [errW_none,errW_some]<;>rfl)|(simp [*,errW_none,errW_some]<;>rfl),by repeat (first|(with_reducible first|exact HB.out|apply below_alloc|apply pw_below_drewN|apply below_drew1)|exact HB.out)⟩
mutual
def isthmusref20_rounds.j0:Nat→Int→ByteArray→Int→Bool→ByteArray→Int→Bool→Bool→Option (ByteArray×ByteArray×Int×Bool)
 | 0,_,_,_,_,_,_,_,_=>none
 | k+1,x2,x10,x14,x15,x107000,x107001,x107002,x107003=>if x15=true then (some ((⟨#[]⟩:ByteArray),(⟨#[]⟩:ByteArray),1,decide (x107001 < 4))) else (if x14=22 then (some (x10,(⟨#[]⟩:ByteArray),1,decide (x107001 < 4))) else (if x14=23 then (isthmusref20_rounds.l0 k x2 ([]:List Int) 0 x107000 x107001 x107002 x107003) else (if x14=24 then (some ((⟨#[]⟩:ByteArray),(⟨#[]⟩:ByteArray),0,decide (x107001 > 0))) else (if x14=25 then (some ((⟨#[]⟩:ByteArray),(⟨#[]⟩:ByteArray),(-1),decide (x107001 > 0))) else (some ((⟨#[]⟩:ByteArray),(⟨#[]⟩:ByteArray),0,true))))))
def isthmusref20_rounds.l0:Nat→Int→List Int→Int→ByteArray→Int→Bool→Bool→Option (ByteArray×ByteArray×Int×Bool)
 | 0,_,_,_,_,_,_,_=>none
 | k+1,x2,x11,x12,x107000,x107001,x107002,x107003=>if x12 < x2 then (if x11.length < 140737488355328 then (isthmusref20_rounds.l0 k x2 (x11++[3]) (wrap64 (x12+1)) x107000 x107001 x107002 x107003) else (none)) else (some (strOfNums x11,(⟨#[]⟩:ByteArray),1,decide (x107001 < 4)))
end
def isthmusref20_rounds.f (k:Nat) (a0_0:ByteArray) (a0_1:Int) (a0_2:Bool) (a0_3:Bool) (a1:Int) (a2:Int):Option (ByteArray×ByteArray×Int×Bool):=(isthmusref20_code.f 3).bind fun t107=>(if a1=20 then (isthmusref20_rounds.j0 k a2 t107 a1 (a1 == 20) a0_0 a0_1 a0_2 a0_3) else (isthmusref20_rounds.j0 k a2 t107 a1 (a1 == 21) a0_0 a0_1 a0_2 a0_3))
set_option maxHeartbeats 8000000 in
set_option maxRecDepth 100000 in
theorem isthmusref20_rounds.calls (k:Nat) (a0_0:ByteArray) (a0_1:Int) (a0_2:Bool) (a0_3:Bool) (a1:Int) (a2:Int) (r1:ByteArray) (r2:ByteArray) (r3:Int) (r4:Bool) (w:World) (h:isthmusref20_rounds.f k a0_0 a0_1 a0_2 a0_3 a1 a2=some (r1,r2,r3,r4)) :
  Calls Tryd.prog 78 #[.agg #[.string a0_0,.int .i64 a0_1,.bool a0_2,.bool a0_3],.int .i64 a1,.int .i64 a2] w fun e w'=>e=.returned (.tuple #[.string r1,.string r2,.int .i64 r3,.bool r4])∧Below w.heap.size w w':=by
 have hu61:=Tryd.underlying61
 have HB:=Aside0.mk (Below.refl w.heap.size w)
 have H:((isthmusref20_code.f 3).bind fun t107=>(if a1=20 then (isthmusref20_rounds.j0 k a2 t107 a1 (a1 == 20) a0_0 a0_1 a0_2 a0_3) else (isthmusref20_rounds.j0 k a2 t107 a1 (a1 == 21) a0_0 a0_1 a0_2 a0_3)))=some (r1,r2,r3,r4):=h
 clear h
 replace H:=Option.bind_eq_some_iff.mp H
 obtain ⟨t107,A40,H⟩:=H
 replace H:(if a1=20 then (isthmusref20_rounds.j0 k a2 t107 a1 (a1 == 20) a0_0 a0_1 a0_2 a0_3) else (isthmusref20_rounds.j0 k a2 t107 a1 (a1 == 21) a0_0 a0_1 a0_2 a0_3))=some (r1,r2,r3,r4):=H
 have A4:=Aside0.mk A40
 clear A40
 have HC5:=Aside0.mk H
 clear H
 go_enter Tryd.func78,Tryd.ntmps78
 go_upto_if 15 with (first|((with_reducible refine gate_dst (N:=3) rfl ?_); refine box_event ?hg (N:=3) ?hd (cs:=#[.string a0_0,.int .i64 a0_1,.bool a0_2,.bool a0_3]) (t:=61) ?hr ?_; (case hd=>rfl); (case hg=>rfl); (case hr=>first|(go_simp; done)|(go_simp; rfl)); intro gb106 hg w6 hbox hb; have n0_:=Aside0.mk (below_step (by repeat (first|(with_reducible first|exact HB.out|apply below_alloc|apply pw_below_drewN|apply below_drew1)|exact HB.out)) hb); have n1_:=Aside0.mk (hbox); have n2_:=Aside0.mk ((by rw [hg]; exact (below_size (by repeat (first|(with_reducible first|exact HB.out|apply below_alloc|apply pw_below_drewN|apply below_drew1)|exact HB.out))):w.heap.size≤gb106)); have n3_:=Aside0.mk ((by rw [hg]; exact (below_size (by repeat (first|(with_reducible first|exact HB.out|apply below_alloc|apply pw_below_drewN|apply below_drew1)|exact HB.out))):w.heap.size≤gb106)); clear HB; have HB:=n0_; have BK106:=n1_; have GW106:=n2_; have GE106:=n3_; clear n0_ n1_ n2_ n3_; clear hb hbox hg)|(go_at_call 77; (with_reducible refine (isthmusref20_code.calls 3 t107 _ A4.out).mono ?_); rintro e w7 ⟨rfl,hb⟩; have n0_:=Aside0.mk (blk_below (g:=gb106) (o:=.cells #[.string a0_0,.int .i64 a0_1,.bool a0_2,.bool a0_3] 61 (0,0)) (by (with_reducible repeat (first|refine blk_drewN ?_ _|refine blk_drew ?_|refine blk_alloc ?_ _)); exact BK106.out) hb); have n1_:=Aside0.mk (below_step (by repeat (first|(with_reducible first|exact HB.out|apply below_alloc|apply pw_below_drewN|apply below_drew1|refine below_set ?_ GE106.out)|exact HB.out)) hb); clear BK106; clear HB; have BK106:=n0_; have HB:=n1_; clear n0_ n1_; (try clear hb); (try clear hb2); (try clear hk); (try clear hi)))
 repeat (go_quiet (first|((with_reducible refine gate_dst (N:=3) rfl ?_); refine box_event ?hg (N:=3) ?hd (cs:=#[.string a0_0,.int .i64 a0_1,.bool a0_2,.bool a0_3]) (t:=61) ?hr ?_; (case hd=>rfl); (case hg=>rfl); (case hr=>first|(go_simp; done)|(go_simp; rfl)); intro gb106 hg w6 hbox hb; have n0_:=Aside0.mk (below_step (by repeat (first|(with_reducible first|exact HB.out|apply below_alloc|apply pw_below_drewN|apply below_drew1)|exact HB.out)) hb); have n1_:=Aside0.mk (hbox); have n2_:=Aside0.mk ((by rw [hg]; exact (below_size (by repeat (first|(with_reducible first|exact HB.out|apply below_alloc|apply pw_below_drewN|apply below_drew1)|exact HB.out))):w.heap.size≤gb106)); have n3_:=Aside0.mk ((by rw [hg]; exact (below_size (by repeat (first|(with_reducible first|exact HB.out|apply below_alloc|apply pw_below_drewN|apply below_drew1)|exact HB.out))):w.heap.size≤gb106)); clear HB; have HB:=n0_; have BK106:=n1_; have GW106:=n2_; have GE106:=n3_; clear n0_ n1_ n2_ n3_; clear hb hbox hg)|(go_at_call 77; (with_reducible refine (isthmusref20_code.calls 3 t107 _ A4.out).mono ?_); rintro e w7 ⟨rfl,hb⟩; have n0_:=Aside0.mk (blk_below (g:=gb106) (o:=.cells #[.string a0_0,.int .i64 a0_1,.bool a0_2,.bool a0_3] 61 (0,0)) (by (with_reducible repeat (first|refine blk_drewN ?_ _|refine blk_drew ?_|refine blk_alloc ?_ _)); exact BK106.out) hb); have n1_:=Aside0.mk (below_step (by repeat (first|(with_reducible first|exact HB.out|apply below_alloc|apply pw_below_drewN|apply below_drew1|refine below_set ?_ GE106.out)|exact HB.out)) hb); clear BK106; clear HB; have BK106:=n0_; have HB:=n1_; clear n0_ n1_; (try clear hb); (try clear hb2); (try clear hk); (try clear hi))); go_upto_if 15 with (first|((with_reducible refine gate_dst (N:=3) rfl ?_); refine box_event ?hg (N:=3) ?hd (cs:=#[.string a0_0,.int .i64 a0_1,.bool a0_2,.bool a0_3]) (t:=61) ?hr ?_; (case hd=>rfl); (case hg=>rfl); (case hr=>first|(go_simp; done)|(go_simp; rfl)); intro gb106 hg w6 hbox hb; have n0_:=Aside0.mk (below_step (by repeat (first|(with_reducible first|exact HB.out|apply below_alloc|apply pw_below_drewN|apply below_drew1)|exact HB.out)) hb); have n1_:=Aside0.mk (hbox); have n2_:=Aside0.mk ((by rw [hg]; exact (below_size (by repeat (first|(with_reducible first|exact HB.out|apply below_alloc|apply pw_below_drewN|apply below_drew1)|exact HB.out))):w.heap.size≤gb106)); have n3_:=Aside0.mk ((by rw [hg]; exact (below_size (by repeat (first|(with_reducible first|exact HB.out|apply below_alloc|apply pw_below_drewN|apply below_drew1)|exact HB.out))):w.heap.size≤gb106)); clear HB; have HB:=n0_; have BK106:=n1_; have GW106:=n2_; have GE106:=n3_; clear n0_ n1_ n2_ n3_; clear hb hbox hg)|(go_at_call 77; (with_reducible refine (isthmusref20_code.calls 3 t107 _ A4.out).mono ?_); rintro e w7 ⟨rfl,hb⟩; have n0_:=Aside0.mk (blk_below (g:=gb106) (o:=.cells #[.string a0_0,.int .i64 a0_1,.bool a0_2,.bool a0_3] 61 (0,0)) (by (with_reducible repeat (first|refine blk_drewN ?_ _|refine blk_drew ?_|refine blk_alloc ?_ _)); exact BK106.out) hb); have n1_:=Aside0.mk (below_step (by repeat (first|(with_reducible first|exact HB.out|apply below_alloc|apply pw_below_drewN|apply below_drew1|refine below_set ?_ GE106.out)|exact HB.out)) hb); clear BK106; clear HB; have BK106:=n0_; have HB:=n1_; clear n0_ n1_; (try clear hb); (try clear hb2); (try clear hk); (try clear hi))))
 (try simp only [Act.put,List.setIfInBounds_toArray,List.set_cons_zero,List.set_cons_succ])
 go_cut [15] (fun v15 wc=>∃ (kq:Nat) (x15_4:Bool),v15=.bool x15_4∧Aside0 (isthmusref20_rounds.j0 kq a2 t107 a1 x15_4 a0_0 a0_1 a0_2 a0_3=some (r1,r2,r3,r4))∧Aside0 (kq≤k)∧Aside0 (wc.heap[gb106]? = some (.cells #[.string a0_0,.int .i64 a0_1,.bool a0_2,.bool a0_3] 61 (0,0)))∧Aside0 (Below w.heap.size w wc))
 case first =>
  have H:=HC5.out
  clear HC5
  by_cases c8:a1=20
  ·rw [if_pos c8] at H
   have c8b0:(a1 == 20)=true:=beq_iff_eq.mpr c8
   have c8b1:(a1 != 20)=false:=bne_eq_false_iff_eq.mpr c8
   clear c8
   (first|rw [c8b0]|(simp only [i64_w,i32_w]; rw [c8b0])|skip)
   have H':=Aside0.mk H
   clear H
   go_wp2
   repeat (go_quiet (fail); try go_wp2)
   go_meet
   case rel=>exact ⟨_,((a1 == 20)),(by first|rfl|(simp; done)|(simp [*]; done)),H',⟨by first|omega|exact Nat.le_refl _⟩,⟨by (with_reducible repeat (first|refine blk_drewN ?_ _|refine blk_drew ?_|refine blk_alloc ?_ _)); exact BK106.out⟩,⟨by repeat (first|(with_reducible first|exact HB.out|apply below_alloc|apply pw_below_drewN|apply below_drew1|refine below_set ?_ GE106.out)|exact HB.out)⟩⟩
  ·rw [if_neg c8] at H
   have c8b0:(a1 == 20)=false:=beq_eq_false_iff_ne.mpr c8
   have c8b1:(a1 != 20)=true:=bne_iff_ne.mpr c8
   (first|rw [c8b0]|(simp only [i64_w,i32_w]; rw [c8b0])|skip)
   have H':=Aside0.mk H
   clear H
   go_wp2
   repeat (go_quiet (fail); try go_wp2)
   go_meet
   case rel=>exact ⟨_,((a1 == 21)),(by first|rfl|(simp; done)|(simp [*]; done)),H',⟨by first|omega|exact Nat.le_refl _⟩,⟨by (with_reducible repeat (first|refine blk_drewN ?_ _|refine blk_drew ?_|refine blk_alloc ?_ _)); exact BK106.out⟩,⟨by repeat (first|(with_reducible first|exact HB.out|apply below_alloc|apply pw_below_drewN|apply below_drew1|refine below_set ?_ GE106.out)|exact HB.out)⟩⟩
 case rest =>
  clear HC5
  try clear p2
  try clear c7
  try clear c8
  try clear c8b0
  try clear c8b1
  obtain ⟨kq,x15_4,rfl,HA,HJ4,BK106,HB⟩:=hcut
  cases kq with
  | zero=>exact absurd HA.out (by simp [isthmusref20_rounds.j0])
  | succ kj4 =>
   have H:=HA.out
   clear HA
   simp only [isthmusref20_rounds.j0] at H
   by_cases c9:x15_4=true
   ·subst c9
    have H1:(some ((⟨#[]⟩:ByteArray),(⟨#[]⟩:ByteArray),1,decide (a0_1 < 4)))=some (r1,r2,r3,r4):=by rw [if_pos rfl] at H; exact H
    clear H
    have H:=H1
    clear H1
    simp only [Option.some.injEq,Prod.mk.injEq] at H
    obtain ⟨rfl,rfl,rfl,rfl⟩:=H
    have hcz10_0:wc.cell? ⟨gb106,0,none⟩=some (.string a0_0):=(blk_cell BK106.out 0).trans rfl
    have hcz10_1:wc.cell? ⟨gb106,1,none⟩=some (.int .i64 a0_1):=(blk_cell BK106.out 1).trans rfl
    have hcz10_2:wc.cell? ⟨gb106,2,none⟩=some (.bool a0_2):=(blk_cell BK106.out 2).trans rfl
    have hcz10_3:wc.cell? ⟨gb106,3,none⟩=some (.bool a0_3):=(blk_cell BK106.out 3).trans rfl
    have hfz10_0:=blk_frozen BK106.out 0
    have hfz10_1:=blk_frozen BK106.out 1
    have hfz10_2:=blk_frozen BK106.out 2
    have hfz10_3:=blk_frozen BK106.out 3
    go_wp2
    repeat (go_quiet (fail); try go_wp2)
    refine bodyPost_ret (results_list (rs:=[.tmp 6,.tmp 7,.tmp 8,.tmp 9]) rfl (by simp) (.tmp (.tmp (.tmp (.tmp .nil))))) rfl ?_
    exact ⟨by first|rfl|(simp [errW_none,errW_some]<;>rfl)|(simp [*,errW_none,errW_some]<;>rfl),by repeat (first|(with_reducible first|exact HB.out|apply below_alloc|apply pw_below_drewN|apply below_drew1|refine below_set ?_ GE106.out)|exact HB.out)⟩
   ·replace c9:=Bool.eq_false_iff.mpr c9
    subst c9
    have H1:(if a1=22 then (some (t107,(⟨#[]⟩:ByteArray),1,decide (a0_1 < 4))) else (if a1=23 then (isthmusref20_rounds.l0 kj4 a2 ([]:List Int) 0 a0_0 a0_1 a0_2 a0_3) else (if a1=24 then (some ((⟨#[]⟩:ByteArray),(⟨#[]⟩:ByteArray),0,decide (a0_1 > 0))) else (if a1=25 then (some ((⟨#[]⟩:ByteArray),(⟨#[]⟩:ByteArray),(-1),decide (a0_1 > 0))) else (some ((⟨#[]⟩:ByteArray),(⟨#[]⟩:ByteArray),0,true))))))=some (r1,r2,r3,r4):=by rw [if_neg (show ¬ (false=true) by decide)] at H; exact H
    clear H
    have H:=H1
    clear H1
    by_cases c11:a1=22
    ·rw [if_pos c11] at H
     have c11b0:(a1 == 22)=true:=beq_iff_eq.mpr c11
     have c11b1:(a1 != 22)=false:=bne_eq_false_iff_eq.mpr c11
     clear c11
     simp only [Option.some.injEq,Prod.mk.injEq] at H
     obtain ⟨rfl,rfl,rfl,rfl⟩:=H
     have hcz12_0:wc.cell? ⟨gb106,0,none⟩=some (.string a0_0):=(blk_cell BK106.out 0).trans rfl
     have hcz12_1:wc.cell? ⟨gb106,1,none⟩=some (.int .i64 a0_1):=(blk_cell BK106.out 1).trans rfl
     have hcz12_2:wc.cell? ⟨gb106,2,none⟩=some (.bool a0_2):=(blk_cell BK106.out 2).trans rfl
     have hcz12_3:wc.cell? ⟨gb106,3,none⟩=some (.bool a0_3):=(blk_cell BK106.out 3).trans rfl
     have hfz12_0:=blk_frozen BK106.out 0
     have hfz12_1:=blk_frozen BK106.out 1
     have hfz12_2:=blk_frozen BK106.out 2
     have hfz12_3:=blk_frozen BK106.out 3
     go_wp2
     repeat (go_quiet (fail); try go_wp2)
     refine bodyPost_ret (results_list (rs:=[.tmp 6,.tmp 7,.tmp 8,.tmp 9]) rfl (by simp) (.tmp (.tmp (.tmp (.tmp .nil))))) rfl ?_
     exact ⟨by first|rfl|(simp [errW_none,errW_some]<;>rfl)|(simp [*,errW_none,errW_some]<;>rfl),by repeat (first|(with_reducible first|exact HB.out|apply below_alloc|apply pw_below_drewN|apply below_drew1|refine below_set ?_ GE106.out)|exact HB.out)⟩
    ·rw [if_neg c11] at H
     have c11b0:(a1 == 22)=false:=beq_eq_false_iff_ne.mpr c11
     have c11b1:(a1 != 22)=true:=bne_iff_ne.mpr c11
     by_cases c13:a1=23
     ·rw [if_pos c13] at H
      have c13b0:(a1 == 23)=true:=beq_iff_eq.mpr c13
      have c13b1:(a1 != 23)=false:=bne_eq_false_iff_eq.mpr c13
      clear c13
      have H':=Aside0.mk H
      clear H
      go_wp2
      repeat (go_quiet (fail); try go_wp2)
      go_loopg [11,12] kj4 (fun kq v11 v12 w'=>∃ (x11_2:List Int) (x12_2:Int),v12=.int .i64 x12_2∧Aside0 (isthmusref20_rounds.l0 kq a2 x11_2 x12_2 a0_0 a0_1 a0_2 a0_3=some (r1,r2,r3,r4))∧Aside0 (kq≤kj4)∧Aside0 (Kd.R (Kd.int .u8) 5 w' w.heap.size (fun _=>True) v11 x11_2)∧Aside0 (w'.heap[gb106]? = some (.cells #[.string a0_0,.int .i64 a0_1,.bool a0_2,.bool a0_3] 61 (0,0)))∧Aside0 (Below w.heap.size w w'))
      case atStart=>exact ⟨(([]:List Int)),(0),(by first|rfl|(simp; done)|(simp [*]; done)),H',⟨Nat.le_refl _⟩,⟨by first|exact Kd.R_nil _ _ _ _ _|exact Kd.N_nil _ _ _ _ _|exact Kd.V_nil _ _ _ _ _|exact Kd.Q_nil _ _ _ _ _|exact Kd.S_nil _ _ _ _ _⟩,⟨by (with_reducible repeat (first|refine blk_drewN ?_ _|refine blk_drew ?_|refine blk_alloc ?_ _)); exact BK106.out⟩,⟨by repeat (first|(with_reducible first|exact HB.out|apply below_alloc|apply pw_below_drewN|apply below_drew1|refine below_set ?_ GE106.out)|exact HB.out)⟩⟩
      case round =>
       clear H'
       try clear c1
       try clear p2
       try clear c7
       try clear c8
       try clear c8b0
       try clear c8b1
       try clear c9
       try clear c11
       try clear c11b0
       try clear c11b1
       try clear c13
       try clear c13b0
       try clear c13b1
       try clear hcz10_0
       try clear hcz10_1
       try clear hcz10_2
       try clear hcz10_3
       try clear hcz12_0
       try clear hcz12_1
       try clear hcz12_2
       try clear hcz12_3
       try clear hfz10_0
       try clear hfz10_1
       try clear hfz10_2
       try clear hfz10_3
       try clear hfz12_0
       try clear hfz12_1
       try clear hfz12_2
       try clear hfz12_3
       try clear p2
       obtain ⟨x11_2,x12_2,rfl,HA,HK2,HO_11,BK106,HB⟩:=hrel
       cases gk with
       | zero=>exact absurd HA.out (by simp [isthmusref20_rounds.l0])
       | succ k2 =>
        have H:=HA.out
        clear HA
        simp only [isthmusref20_rounds.l0] at H
        by_cases c14:x12_2 < a2
        ·rw [if_pos c14] at H
         have c14b0:decide (x12_2 < a2)=true:=decide_eq_true c14
         clear c14
         by_cases c15:x11_2.length < 140737488355328
         ·rw [if_pos c15] at H
          have LMc15:=Aside0.mk c15
          clear c15
          obtain ⟨y108,hy108⟩:∃ y_:List Int,y_=(x11_2++[3]):=⟨_,rfl⟩
          replace H:(isthmusref20_rounds.l0 k2 a2 y108 (wrap64 (x12_2+1)) a0_0 a0_1 a0_2 a0_3)=some (r1,r2,r3,r4):=by first|(rw [hy108]; with_reducible exact H)|(have H2_:=(Option.bind_some _ _).symm.trans H; rw [hy108]; with_reducible exact H2_)|(have H2_:=(Option.bind_some _ _).symm.trans H; with_reducible exact H2_)|with_reducible exact H|(rw [hy108]; exact H)|exact H
          have Ny108:=Aside0.mk hy108
          clear hy108
          have H':=Aside0.mk H
          clear H
          go_wp2_with (first|((with_reducible refine gate_builtin (b:=.append) (xs:=#[.tmp 34,.tmp 35]) rfl ?_); at_builtin; refine Kd.R_append (Kd.int .u8) (w0:=w) w.heap.size rfl (.tmp 34) (.tmp 35) 136 5 (.int .u8 0) 1 rfl Tryd.underlying136 info5 rfl (by decide) (by omega) u11 x11_2 3 [.int .u8 3] (fun _=>True) (fun _=>False) rfl rfl ?aP (fun _ hk=>hk.elim) ?aF ?aO ?aB ?aS ?aL ?_; (case aP=>exact rfl); (case aB=>exact (by repeat (first|(with_reducible first|exact HB.out|apply below_alloc|apply pw_below_drewN|apply below_drew1|refine below_set ?_ GE106.out)|exact HB.out))); (case aF=>exact (fun _ _=>trivial)); (case aO=>exact (by (with_reducible repeat (first|apply Kd.R_alloc|apply Kd.R_drewN|apply Kd.R_drew)); exact HO_11.out)); (case aS=>exact (below_size (by repeat (first|(with_reducible first|exact HB.out|apply below_alloc|apply pw_below_drewN|apply below_drew1|refine below_set ?_ GE106.out)|exact HB.out)))); (case aL=>have:=LMc15.out; omega); intro v109 w16 ho hb hg hat; rw [← Ny108.out] at ho; have n0_:=Aside0.mk (blk_grown (g:=gb106) (o:=.cells #[.string a0_0,.int .i64 a0_1,.bool a0_2,.bool a0_3] 61 (0,0)) (by (with_reducible repeat (first|refine blk_drewN ?_ _|refine blk_drew ?_|refine blk_alloc ?_ _)); exact BK106.out) hg (Kd.R_ne HO_11.out BK106.out (by decide))); have n1_:=Aside0.mk (hb); have n2_:=Aside0.mk (ho); clear BK106; clear HB; clear HO_11; have BK106:=n0_; have HB:=n1_; have HO110:=n2_; clear n0_ n1_ n2_; clear ho hb hg hat))
          repeat (go_quiet (first|((with_reducible refine gate_builtin (b:=.append) (xs:=#[.tmp 34,.tmp 35]) rfl ?_); at_builtin; refine Kd.R_append (Kd.int .u8) (w0:=w) w.heap.size rfl (.tmp 34) (.tmp 35) 136 5 (.int .u8 0) 1 rfl Tryd.underlying136 info5 rfl (by decide) (by omega) u11 x11_2 3 [.int .u8 3] (fun _=>True) (fun _=>False) rfl rfl ?aP (fun _ hk=>hk.elim) ?aF ?aO ?aB ?aS ?aL ?_; (case aP=>exact rfl); (case aB=>exact (by repeat (first|(with_reducible first|exact HB.out|apply below_alloc|apply pw_below_drewN|apply below_drew1|refine below_set ?_ GE106.out)|exact HB.out))); (case aF=>exact (fun _ _=>trivial)); (case aO=>exact (by (with_reducible repeat (first|apply Kd.R_alloc|apply Kd.R_drewN|apply Kd.R_drew)); exact HO_11.out)); (case aS=>exact (below_size (by repeat (first|(with_reducible first|exact HB.out|apply below_alloc|apply pw_below_drewN|apply below_drew1|refine below_set ?_ GE106.out)|exact HB.out)))); (case aL=>have:=LMc15.out; omega); intro v109 w16 ho hb hg hat; rw [← Ny108.out] at ho; have n0_:=Aside0.mk (blk_grown (g:=gb106) (o:=.cells #[.string a0_0,.int .i64 a0_1,.bool a0_2,.bool a0_3] 61 (0,0)) (by (with_reducible repeat (first|refine blk_drewN ?_ _|refine blk_drew ?_|refine blk_alloc ?_ _)); exact BK106.out) hg (Kd.R_ne HO_11.out BK106.out (by decide))); have n1_:=Aside0.mk (hb); have n2_:=Aside0.mk (ho); clear BK106; clear HB; clear HO_11; have BK106:=n0_; have HB:=n1_; have HO110:=n2_; clear n0_ n1_ n2_; clear ho hb hg hat)); try go_wp2_with (first|((with_reducible refine gate_builtin (b:=.append) (xs:=#[.tmp 34,.tmp 35]) rfl ?_); at_builtin; refine Kd.R_append (Kd.int .u8) (w0:=w) w.heap.size rfl (.tmp 34) (.tmp 35) 136 5 (.int .u8 0) 1 rfl Tryd.underlying136 info5 rfl (by decide) (by omega) u11 x11_2 3 [.int .u8 3] (fun _=>True) (fun _=>False) rfl rfl ?aP (fun _ hk=>hk.elim) ?aF ?aO ?aB ?aS ?aL ?_; (case aP=>exact rfl); (case aB=>exact (by repeat (first|(with_reducible first|exact HB.out|apply below_alloc|apply pw_below_drewN|apply below_drew1|refine below_set ?_ GE106.out)|exact HB.out))); (case aF=>exact (fun _ _=>trivial)); (case aO=>exact (by (with_reducible repeat (first|apply Kd.R_alloc|apply Kd.R_drewN|apply Kd.R_drew)); exact HO_11.out)); (case aS=>exact (below_size (by repeat (first|(with_reducible first|exact HB.out|apply below_alloc|apply pw_below_drewN|apply below_drew1|refine below_set ?_ GE106.out)|exact HB.out)))); (case aL=>have:=LMc15.out; omega); intro v109 w16 ho hb hg hat; rw [← Ny108.out] at ho; have n0_:=Aside0.mk (blk_grown (g:=gb106) (o:=.cells #[.string a0_0,.int .i64 a0_1,.bool a0_2,.bool a0_3] 61 (0,0)) (by (with_reducible repeat (first|refine blk_drewN ?_ _|refine blk_drew ?_|refine blk_alloc ?_ _)); exact BK106.out) hg (Kd.R_ne HO_11.out BK106.out (by decide))); have n1_:=Aside0.mk (hb); have n2_:=Aside0.mk (ho); clear BK106; clear HB; clear HO_11; have BK106:=n0_; have HB:=n1_; have HO110:=n2_; clear n0_ n1_ n2_; clear ho hb hg hat)))
          go_roundg k2
          case measure=>have:=HJ4.out; have:=HK2.out; omega
          case rel=>exact ⟨(y108),(wrap64 (x12_2+1)),(by first|rfl|(simp; done)|(simp [*]; done)),H',⟨by have:=HJ4.out; have:=HK2.out; omega⟩,⟨by (with_reducible repeat (first|apply Kd.R_alloc|apply Kd.R_drewN|apply Kd.R_drew)); exact HO110.out⟩,⟨by (with_reducible repeat (first|refine blk_drewN ?_ _|refine blk_drew ?_|refine blk_alloc ?_ _)); exact BK106.out⟩,⟨by repeat (first|(with_reducible first|exact HB.out|apply below_alloc|apply pw_below_drewN|apply below_drew1|refine below_set ?_ GE106.out)|exact HB.out)⟩⟩
         ·rw [if_neg c15] at H
          exact absurd H (by simp)
        ·rw [if_neg c14] at H
         have c14b0:decide (x12_2 < a2)=false:=decide_eq_false c14
         clear c14
         simp only [Option.some.injEq,Prod.mk.injEq] at H
         obtain ⟨rfl,rfl,rfl,rfl⟩:=H
         have hcv17:=own_string (P:=Tryd.prog) Tryd.underlying136 Tryd.underlying5 Tryd.underlying9 (Kd.own_of_R HO_11.out)
         have hcz18_0:wr.cell? ⟨gb106,0,none⟩=some (.string a0_0):=(blk_cell BK106.out 0).trans rfl
         have hcz18_1:wr.cell? ⟨gb106,1,none⟩=some (.int .i64 a0_1):=(blk_cell BK106.out 1).trans rfl
         have hcz18_2:wr.cell? ⟨gb106,2,none⟩=some (.bool a0_2):=(blk_cell BK106.out 2).trans rfl
         have hcz18_3:wr.cell? ⟨gb106,3,none⟩=some (.bool a0_3):=(blk_cell BK106.out 3).trans rfl
         have hfz18_0:=blk_frozen BK106.out 0
         have hfz18_1:=blk_frozen BK106.out 1
         have hfz18_2:=blk_frozen BK106.out 2
         have hfz18_3:=blk_frozen BK106.out 3
         go_wp2
         have hcv18:=own_string (P:=Tryd.prog) Tryd.underlying136 Tryd.underlying5 Tryd.underlying9 (Kd.own_of_R (Kd.R_drewN HO_11.out 1))
         refine start_ (n:=9) (S:=fun w'=>w'.cell? ⟨gb106,1,none⟩=some (.int .i64 a0_1)) (ds:=[]) #[false,false,false,false,false,false,false,false,false] (by kernel_rfl) rfl rfl (hcz18_1) (fun hHeld=>?_)
         refine pure_ (i:=0) (N:=some 37) (v:=?_) (a':=?_) (bl_ 9 1) rfl rfl (by kernel_rfl) (fun _ _ _ h=>h) (Or.inl ⟨by rfl,?_⟩) ?_ ?_
         rotate_left
         ·intro w'
          go_simp
          with_reducible rfl
         rotate_left
         ·simp only [Act.put,zA_,zB_,zC_,i64_w]
          rfl
         refine pure_ (i:=2) (N:=some 39) (v:=?_) (a':=?_) (bl_ 9 5) rfl rfl (by kernel_rfl) (fun _ _ _ h=>h) (Or.inl ⟨by rfl,?_⟩) ?_ ?_
         rotate_left
         ·intro w'
          go_simp
          with_reducible rfl
         rotate_left
         ·simp only [Act.put,zA_,zB_,zC_,i64_w]
          rfl
         refine take_ (i:=3) (N:=some 40) (v:=?_) (a':=?_) (bl_ 9 13) rfl rfl (by kernel_rfl) (fun _ _ _ h=>h) (Or.inl ⟨by rfl,?_⟩) hHeld ?_ ?_
         rotate_left
         ·intro w' s0
          go_simp
          with_reducible rfl
         rotate_left
         ·simp only [Act.put,zA_,zB_,zC_,i64_w]
          rfl
         refine pure_ (i:=4) (N:=some 41) (v:=?_) (a':=?_) (bl_ 9 29) rfl rfl (by kernel_rfl) (fun _ _ _ h=>h) (Or.inl ⟨by rfl,?_⟩) ?_ ?_
         rotate_left
         ·intro w'
          go_simp
          with_reducible rfl
         rotate_left
         ·simp only [Act.put,zA_,zB_,zC_,i64_w]
          rfl
         refine one_ (i:=1) (N:=some 38) (bl_ 9 31) rfl rfl (by kernel_rfl) (by decide) (fun K hK=>?_)
         refine value_ (w1:=wr.drew) (v:=.string (strOfNums x11_2)) (by rfl) rfl (by (have hcv19:(convert 136 9 u11).run Tryd.prog wr.drew=.ok (.string (strOfNums x11_2)) wr.drew:=hcv18); go_simp; first|done|(simp only [hcv19]; done)|(simp [hcv19]; done)) ?_
         refine hK.out _ _ (hHeld) (fun hHeld=>?_)
         clear hK K
         refine norm_ (a':=?_) ?_ ?_
         rotate_left
         ·show Act.put _ (some 38) _=_
          simp only [Act.put,zA_,zB_,zC_,i64_w]
          rfl
         refine pure_ (i:=5) (N:=some 6) (v:=?_) (a':=?_) (bl_ 9 63) rfl rfl (by kernel_rfl) (fun _ _ _ h=>h) (Or.inl ⟨by rfl,?_⟩) ?_ ?_
         rotate_left
         ·intro w'
          go_simp
          with_reducible rfl
         rotate_left
         ·simp only [Act.put,zA_,zB_,zC_,i64_w]
          rfl
         refine pure_ (i:=6) (N:=some 7) (v:=?_) (a':=?_) (bl_ 9 127) rfl rfl (by kernel_rfl) (fun _ _ _ h=>h) (Or.inl ⟨by rfl,?_⟩) ?_ ?_
         rotate_left
         ·intro w'
          go_simp
          with_reducible rfl
         rotate_left
         ·simp only [Act.put,zA_,zB_,zC_,i64_w]
          rfl
         refine pure_ (i:=7) (N:=some 8) (v:=?_) (a':=?_) (bl_ 9 255) rfl rfl (by kernel_rfl) (fun _ _ _ h=>h) (Or.inl ⟨by rfl,?_⟩) ?_ ?_
         rotate_left
         ·intro w'
          go_simp
          with_reducible rfl
         rotate_left
         ·simp only [Act.put,zA_,zB_,zC_,i64_w]
          rfl
         refine pure_ (i:=8) (N:=some 9) (v:=?_) (a':=?_) (bl_ 9 511) rfl rfl (by kernel_rfl) (fun _ _ _ h=>h) (Or.inl ⟨by rfl,?_⟩) ?_ ?_
         rotate_left
         ·intro w'
          go_simp
          with_reducible rfl
         rotate_left
         ·simp only [Act.put,zA_,zB_,zC_,i64_w]
          rfl
         refine done_ (by kernel_rfl) ?_
         go_wp2
         refine bodyPost_ret (results_list (rs:=[.tmp 6,.tmp 7,.tmp 8,.tmp 9]) rfl (by simp) (.tmp (.tmp (.tmp (.tmp .nil))))) rfl ?_
         exact ⟨by first|rfl|(simp [errW_none,errW_some]<;>rfl)|(simp [*,errW_none,errW_some]<;>rfl),by repeat (first|(with_reducible first|exact HB.out|apply below_alloc|apply pw_below_drewN|apply below_drew1|refine below_set ?_ GE106.out)|exact HB.out)⟩
     ·rw [if_neg c13] at H
      have c13b0:(a1 == 23)=false:=beq_eq_false_iff_ne.mpr c13
      have c13b1:(a1 != 23)=true:=bne_iff_ne.mpr c13
      by_cases c19:a1=24
      ·rw [if_pos c19] at H
       have c19b0:(a1 == 24)=true:=beq_iff_eq.mpr c19
       have c19b1:(a1 != 24)=false:=bne_eq_false_iff_eq.mpr c19
       clear c19
       simp only [Option.some.injEq,Prod.mk.injEq] at H
       obtain ⟨rfl,rfl,rfl,rfl⟩:=H
       have hcz20_0:wc.cell? ⟨gb106,0,none⟩=some (.string a0_0):=(blk_cell BK106.out 0).trans rfl
       have hcz20_1:wc.cell? ⟨gb106,1,none⟩=some (.int .i64 a0_1):=(blk_cell BK106.out 1).trans rfl
       have hcz20_2:wc.cell? ⟨gb106,2,none⟩=some (.bool a0_2):=(blk_cell BK106.out 2).trans rfl
       have hcz20_3:wc.cell? ⟨gb106,3,none⟩=some (.bool a0_3):=(blk_cell BK106.out 3).trans rfl
       have hfz20_0:=blk_frozen BK106.out 0
       have hfz20_1:=blk_frozen BK106.out 1
       have hfz20_2:=blk_frozen BK106.out 2
       have hfz20_3:=blk_frozen BK106.out 3
       go_wp2
       repeat (go_quiet (fail); try go_wp2)
       refine bodyPost_ret (results_list (rs:=[.tmp 6,.tmp 7,.tmp 8,.tmp 9]) rfl (by simp) (.tmp (.tmp (.tmp (.tmp .nil))))) rfl ?_
       exact ⟨by first|rfl|(simp [errW_none,errW_some]<;>rfl)|(simp [*,errW_none,errW_some]<;>rfl),by repeat (first|(with_reducible first|exact HB.out|apply below_alloc|apply pw_below_drewN|apply below_drew1|refine below_set ?_ GE106.out)|exact HB.out)⟩
      ·rw [if_neg c19] at H
       have c19b0:(a1 == 24)=false:=beq_eq_false_iff_ne.mpr c19
       have c19b1:(a1 != 24)=true:=bne_iff_ne.mpr c19
       by_cases c21:a1=25
       ·rw [if_pos c21] at H
        have c21b0:(a1 == 25)=true:=beq_iff_eq.mpr c21
        have c21b1:(a1 != 25)=false:=bne_eq_false_iff_eq.mpr c21
        clear c21
        simp only [Option.some.injEq,Prod.mk.injEq] at H
        obtain ⟨rfl,rfl,rfl,rfl⟩:=H
        have hcz22_0:wc.cell? ⟨gb106,0,none⟩=some (.string a0_0):=(blk_cell BK106.out 0).trans rfl
        have hcz22_1:wc.cell? ⟨gb106,1,none⟩=some (.int .i64 a0_1):=(blk_cell BK106.out 1).trans rfl
        have hcz22_2:wc.cell? ⟨gb106,2,none⟩=some (.bool a0_2):=(blk_cell BK106.out 2).trans rfl
        have hcz22_3:wc.cell? ⟨gb106,3,none⟩=some (.bool a0_3):=(blk_cell BK106.out 3).trans rfl
        have hfz22_0:=blk_frozen BK106.out 0
        have hfz22_1:=blk_frozen BK106.out 1
        have hfz22_2:=blk_frozen BK106.out 2
        have hfz22_3:=blk_frozen BK106.out 3
        go_wp2
        repeat (go_quiet (fail); try go_wp2)
        refine bodyPost_ret (results_list (rs:=[.tmp 6,.tmp 7,.tmp 8,.tmp 9]) rfl (by simp) (.tmp (.tmp (.tmp (.tmp .nil))))) rfl ?_
        exact ⟨by first|rfl|(simp [errW_none,errW_some]<;>rfl)|(simp [*,errW_none,errW_some]<;>rfl),by repeat (first|(with_reducible first|exact HB.out|apply below_alloc|apply pw_below_drewN|apply below_drew1|refine below_set ?_ GE106.out)|exact HB.out)⟩
       ·rw [if_neg c21] at H
        have c21b0:(a1 == 25)=false:=beq_eq_false_iff_ne.mpr c21
        have c21b1:(a1 != 25)=true:=bne_iff_ne.mpr c21
        simp only [Option.some.injEq,Prod.mk.injEq] at H
        obtain ⟨rfl,rfl,rfl,rfl⟩:=H
        go_wp2
        repeat (go_quiet (fail); try go_wp2)
        refine bodyPost_ret (results_list (rs:=[.tmp 6,.tmp 7,.tmp 8,.tmp 9]) rfl (by simp) (.tmp (.tmp (.tmp (.tmp .nil))))) rfl ?_
        exact ⟨by first|rfl|(simp [errW_none,errW_some]<;>rfl)|(simp [*,errW_none,errW_some]<;>rfl),by repeat (first|(with_reducible first|exact HB.out|apply below_alloc|apply pw_below_drewN|apply below_drew1|refine below_set ?_ GE106.out)|exact HB.out)⟩
end Go.Proofs.YtcmdjpolgaejoaaDoor.D
