/- The laws GuardLooks, GuardWords of the program hold, as their cards say: texts put together by a program, 29 of 38. -/
import Derived.Test.YtcmdjpolgaejoaaDoorPB13
namespace Go.Proofs.YtcmdjpolgaejoaaDoor.C
open Go.RowKit Go.Proofs.YtcmdjpolgaejoaaDoorW.PrintWords Go.Proofs.YtcmdjpolgaejoaaDoorW.PrintLast Go.Proofs.YtcmdjpolgaejoaaDoorW.PrintMore
attribute [local go_sem] max2_int min2_int max_two min_two max_three min_three max_four min_four
set_option linter.unusedVariables false
set_option linter.unusedSimpArgs false
def isthmusref11_small.f (a0:Int):Option (Bool):=if a0 ≥ 97 then (some (decide (a0≤122))) else (some false)
set_option maxHeartbeats 8000000 in
set_option maxRecDepth 100000 in
theorem isthmusref11_small.calls (a0:Int) (r:Bool) (w:World) (h:isthmusref11_small.f a0=some r) :
  Calls Tryd.prog 73 #[.int .u8 a0] w fun e w'=>e=.returned (.bool r)∧Drawn0 w w':=by
 have H:(if a0 ≥ 97 then (some (decide (a0≤122))) else (some false))=some r:=h
 clear h
 by_cases c2:a0 ≥ 97
 ·rw [if_pos c2] at H
  have c2b0:decide (97≤a0)=true:=decide_eq_true c2
  clear c2
  obtain rfl:=Option.some.inj H
  go_enter Tryd.func73,Tryd.ntmps73
  go_wp2
  go_ret
  exact ⟨by first|rfl|(simp; done)|(simp [*]; done),by repeat (first|exact Drawn0.refl _|apply Drawn0.step)⟩
 ·rw [if_neg c2] at H
  have c2b0:decide (97≤a0)=false:=decide_eq_false c2
  clear c2
  obtain rfl:=Option.some.inj H
  go_enter Tryd.func73,Tryd.ntmps73
  go_wp2
  go_ret
  exact ⟨by first|rfl|(simp; done)|(simp [*]; done),by repeat (first|exact Drawn0.refl _|apply Drawn0.step)⟩
def isthmusref11_digit.f (a0:Int):Option (Bool):=if a0 ≥ 48 then (some (decide (a0≤57))) else (some false)
set_option maxHeartbeats 8000000 in
set_option maxRecDepth 100000 in
theorem isthmusref11_digit.calls (a0:Int) (r:Bool) (w:World) (h:isthmusref11_digit.f a0=some r) :
  Calls Tryd.prog 74 #[.int .u8 a0] w fun e w'=>e=.returned (.bool r)∧Drawn0 w w':=by
 have H:(if a0 ≥ 48 then (some (decide (a0≤57))) else (some false))=some r:=h
 clear h
 by_cases c2:a0 ≥ 48
 ·rw [if_pos c2] at H
  have c2b0:decide (48≤a0)=true:=decide_eq_true c2
  clear c2
  obtain rfl:=Option.some.inj H
  go_enter Tryd.func74,Tryd.ntmps74
  go_wp2
  go_ret
  exact ⟨by first|rfl|(simp; done)|(simp [*]; done),by repeat (first|exact Drawn0.refl _|apply Drawn0.step)⟩
 ·rw [if_neg c2] at H
  have c2b0:decide (48≤a0)=false:=decide_eq_false c2
  clear c2
  obtain rfl:=Option.some.inj H
  go_enter Tryd.func74,Tryd.ntmps74
  go_wp2
  go_ret
  exact ⟨by first|rfl|(simp; done)|(simp [*]; done),by repeat (first|exact Drawn0.refl _|apply Drawn0.step)⟩
def isthmusref11_Word.l0:Nat→ByteArray→List ByteArray→Int→Option (Bool)
 | 0,_,_,_=>none
 | k+1,x0,x3,x4=>if x4 < (x3.length:Int) then (if 0≤x4 then (if (rdOf ByteArray.empty x3 x4).toList=x0.toList then (some true) else (isthmusref11_Word.l0 k x0 x3 (wrap64 (x4+1)))) else (none)) else (some false)
def isthmusref11_Word.f (k:Nat) (a0:ByteArray):Option (Bool):=isthmusref11_Word.l0 k a0 (([(⟨#[97,108,108]⟩:ByteArray),(⟨#[97,110,100]⟩:ByteArray),(⟨#[97,114,111,117,110,100]⟩:ByteArray),(⟨#[98,108,111,99,107]⟩:ByteArray),(⟨#[98,111,116,116,108,101,110,101,99,107]⟩:ByteArray),(⟨#[99,111,110,110,101,99,116,101,100]⟩:ByteArray),(⟨#[99,111,117,110,116]⟩:ByteArray),(⟨#[100,101,103,114,101,101]⟩:ByteArray),(⟨#[101,108,115,101]⟩:ByteArray),(⟨#[102,97,108,115,101]⟩:ByteArray),(⟨#[105,102]⟩:ByteArray),(⟨#[105,110]⟩:ByteArray),(⟨#[108,101,97,115,116]⟩:ByteArray),(⟨#[109,97,120]⟩:ByteArray),(⟨#[109,105,110]⟩:ByteArray),(⟨#[109,111,115,116]⟩:ByteArray),(⟨#[110,111,116]⟩:ByteArray),(⟨#[111,114]⟩:ByteArray),(⟨#[114,101,112]⟩:ByteArray),(⟨#[115,105,122,101]⟩:ByteArray),(⟨#[115,111,109,101]⟩:ByteArray),(⟨#[115,117,109]⟩:ByteArray),(⟨#[116,104,101,110]⟩:ByteArray),(⟨#[116,111,116,97,108]⟩:ByteArray),(⟨#[116,114,117,101]⟩:ByteArray),(⟨#[118,97,108,117,101]⟩:ByteArray),(⟨#[118,101,114,116,105,99,101,115]⟩:ByteArray)]:List ByteArray)) 0
set_option maxHeartbeats 8000000 in
set_option maxRecDepth 100000 in
theorem isthmusref11_Word.calls (k:Nat) (a0:ByteArray) (r:Bool) (w:World) (h:isthmusref11_Word.f k a0=some r) :
  Calls Tryd.prog 75 #[.string a0] w fun e w'=>e=.returned (.bool r)∧Below w.heap.size w w':=by
 have HB:=Aside0.mk (Below.refl w.heap.size w)
 have H:(isthmusref11_Word.l0 k a0 (([(⟨#[97,108,108]⟩:ByteArray),(⟨#[97,110,100]⟩:ByteArray),(⟨#[97,114,111,117,110,100]⟩:ByteArray),(⟨#[98,108,111,99,107]⟩:ByteArray),(⟨#[98,111,116,116,108,101,110,101,99,107]⟩:ByteArray),(⟨#[99,111,110,110,101,99,116,101,100]⟩:ByteArray),(⟨#[99,111,117,110,116]⟩:ByteArray),(⟨#[100,101,103,114,101,101]⟩:ByteArray),(⟨#[101,108,115,101]⟩:ByteArray),(⟨#[102,97,108,115,101]⟩:ByteArray),(⟨#[105,102]⟩:ByteArray),(⟨#[105,110]⟩:ByteArray),(⟨#[108,101,97,115,116]⟩:ByteArray),(⟨#[109,97,120]⟩:ByteArray),(⟨#[109,105,110]⟩:ByteArray),(⟨#[109,111,115,116]⟩:ByteArray),(⟨#[110,111,116]⟩:ByteArray),(⟨#[111,114]⟩:ByteArray),(⟨#[114,101,112]⟩:ByteArray),(⟨#[115,105,122,101]⟩:ByteArray),(⟨#[115,111,109,101]⟩:ByteArray),(⟨#[115,117,109]⟩:ByteArray),(⟨#[116,104,101,110]⟩:ByteArray),(⟨#[116,111,116,97,108]⟩:ByteArray),(⟨#[116,114,117,101]⟩:ByteArray),(⟨#[118,97,108,117,101]⟩:ByteArray),(⟨#[118,101,114,116,105,99,101,115]⟩:ByteArray)]:List ByteArray)) 0)=some r:=h
 clear h
 obtain ⟨y139,hy139⟩:∃ y_:List ByteArray,y_=(([(⟨#[97,108,108]⟩:ByteArray),(⟨#[97,110,100]⟩:ByteArray),(⟨#[97,114,111,117,110,100]⟩:ByteArray),(⟨#[98,108,111,99,107]⟩:ByteArray),(⟨#[98,111,116,116,108,101,110,101,99,107]⟩:ByteArray),(⟨#[99,111,110,110,101,99,116,101,100]⟩:ByteArray),(⟨#[99,111,117,110,116]⟩:ByteArray),(⟨#[100,101,103,114,101,101]⟩:ByteArray),(⟨#[101,108,115,101]⟩:ByteArray),(⟨#[102,97,108,115,101]⟩:ByteArray),(⟨#[105,102]⟩:ByteArray),(⟨#[105,110]⟩:ByteArray),(⟨#[108,101,97,115,116]⟩:ByteArray),(⟨#[109,97,120]⟩:ByteArray),(⟨#[109,105,110]⟩:ByteArray),(⟨#[109,111,115,116]⟩:ByteArray),(⟨#[110,111,116]⟩:ByteArray),(⟨#[111,114]⟩:ByteArray),(⟨#[114,101,112]⟩:ByteArray),(⟨#[115,105,122,101]⟩:ByteArray),(⟨#[115,111,109,101]⟩:ByteArray),(⟨#[115,117,109]⟩:ByteArray),(⟨#[116,104,101,110]⟩:ByteArray),(⟨#[116,111,116,97,108]⟩:ByteArray),(⟨#[116,114,117,101]⟩:ByteArray),(⟨#[118,97,108,117,101]⟩:ByteArray),(⟨#[118,101,114,116,105,99,101,115]⟩:ByteArray)]:List ByteArray)):=⟨_,rfl⟩
 replace H:(isthmusref11_Word.l0 k a0 y139 0)=some r:=by first|(rw [hy139]; with_reducible exact H)|(have H2_:=(Option.bind_some _ _).symm.trans H; rw [hy139]; with_reducible exact H2_)|(have H2_:=(Option.bind_some _ _).symm.trans H; with_reducible exact H2_)|with_reducible exact H|(rw [hy139]; exact H)|exact H
 have Ny139:=Aside0.mk hy139
 clear hy139
 have H':=Aside0.mk H
 clear H
 go_enter Tryd.func75,Tryd.ntmps75
 go_wp2_with (first|((with_reducible refine gate_dst (N:=5) rfl ?_); refine Kd.R_lit Kd.string _ 9 ?hg (N:=5) ?hd (xs:=([(⟨#[97,108,108]⟩:ByteArray),(⟨#[97,110,100]⟩:ByteArray),(⟨#[97,114,111,117,110,100]⟩:ByteArray),(⟨#[98,108,111,99,107]⟩:ByteArray),(⟨#[98,111,116,116,108,101,110,101,99,107]⟩:ByteArray),(⟨#[99,111,110,110,101,99,116,101,100]⟩:ByteArray),(⟨#[99,111,117,110,116]⟩:ByteArray),(⟨#[100,101,103,114,101,101]⟩:ByteArray),(⟨#[101,108,115,101]⟩:ByteArray),(⟨#[102,97,108,115,101]⟩:ByteArray),(⟨#[105,102]⟩:ByteArray),(⟨#[105,110]⟩:ByteArray),(⟨#[108,101,97,115,116]⟩:ByteArray),(⟨#[109,97,120]⟩:ByteArray),(⟨#[109,105,110]⟩:ByteArray),(⟨#[109,111,115,116]⟩:ByteArray),(⟨#[110,111,116]⟩:ByteArray),(⟨#[111,114]⟩:ByteArray),(⟨#[114,101,112]⟩:ByteArray),(⟨#[115,105,122,101]⟩:ByteArray),(⟨#[115,111,109,101]⟩:ByteArray),(⟨#[115,117,109]⟩:ByteArray),(⟨#[116,104,101,110]⟩:ByteArray),(⟨#[116,111,116,97,108]⟩:ByteArray),(⟨#[116,114,117,101]⟩:ByteArray),(⟨#[118,97,108,117,101]⟩:ByteArray),(⟨#[118,101,114,116,105,99,101,115]⟩:ByteArray)]:List ByteArray)) (inner:=[.string (⟨#[97,108,108]⟩:ByteArray),.string (⟨#[97,110,100]⟩:ByteArray),.string (⟨#[97,114,111,117,110,100]⟩:ByteArray),.string (⟨#[98,108,111,99,107]⟩:ByteArray),.string (⟨#[98,111,116,116,108,101,110,101,99,107]⟩:ByteArray),.string (⟨#[99,111,110,110,101,99,116,101,100]⟩:ByteArray),.string (⟨#[99,111,117,110,116]⟩:ByteArray),.string (⟨#[100,101,103,114,101,101]⟩:ByteArray),.string (⟨#[101,108,115,101]⟩:ByteArray),.string (⟨#[102,97,108,115,101]⟩:ByteArray),.string (⟨#[105,102]⟩:ByteArray),.string (⟨#[105,110]⟩:ByteArray),.string (⟨#[108,101,97,115,116]⟩:ByteArray),.string (⟨#[109,97,120]⟩:ByteArray),.string (⟨#[109,105,110]⟩:ByteArray),.string (⟨#[109,111,115,116]⟩:ByteArray),.string (⟨#[110,111,116]⟩:ByteArray),.string (⟨#[111,114]⟩:ByteArray),.string (⟨#[114,101,112]⟩:ByteArray),.string (⟨#[115,105,122,101]⟩:ByteArray),.string (⟨#[115,111,109,101]⟩:ByteArray),.string (⟨#[115,117,109]⟩:ByteArray),.string (⟨#[116,104,101,110]⟩:ByteArray),.string (⟨#[116,111,116,97,108]⟩:ByteArray),.string (⟨#[116,114,117,101]⟩:ByteArray),.string (⟨#[118,97,108,117,101]⟩:ByteArray),.string (⟨#[118,101,114,116,105,99,101,115]⟩:ByteArray)]) (ok:=fun _=>True) (okp:=fun _=>True) ?hr ?hp (fun _ hk=>hk) trivial (Below.refl _ _) (Nat.le_refl _) (by simp) ?_; (case hd=>rfl); (case hg=>rfl); (case hr=>first|(go_simp; done)|(go_simp; rfl)); (case hp=>exact (Reps.one (show Kd.M Kd.string _ _ _ (⟨#[97,108,108]⟩:ByteArray) [.string (⟨#[97,108,108]⟩:ByteArray)] from rfl) (Reps.one (show Kd.M Kd.string _ _ _ (⟨#[97,110,100]⟩:ByteArray) [.string (⟨#[97,110,100]⟩:ByteArray)] from rfl) (Reps.one (show Kd.M Kd.string _ _ _ (⟨#[97,114,111,117,110,100]⟩:ByteArray) [.string (⟨#[97,114,111,117,110,100]⟩:ByteArray)] from rfl) (Reps.one (show Kd.M Kd.string _ _ _ (⟨#[98,108,111,99,107]⟩:ByteArray) [.string (⟨#[98,108,111,99,107]⟩:ByteArray)] from rfl) (Reps.one (show Kd.M Kd.string _ _ _ (⟨#[98,111,116,116,108,101,110,101,99,107]⟩:ByteArray) [.string (⟨#[98,111,116,116,108,101,110,101,99,107]⟩:ByteArray)] from rfl) (Reps.one (show Kd.M Kd.string _ _ _ (⟨#[99,111,110,110,101,99,116,101,100]⟩:ByteArray) [.string (⟨#[99,111,110,110,101,99,116,101,100]⟩:ByteArray)] from rfl) (Reps.one (show Kd.M Kd.string _ _ _ (⟨#[99,111,117,110,116]⟩:ByteArray) [.string (⟨#[99,111,117,110,116]⟩:ByteArray)] from rfl) (Reps.one (show Kd.M Kd.string _ _ _ (⟨#[100,101,103,114,101,101]⟩:ByteArray) [.string (⟨#[100,101,103,114,101,101]⟩:ByteArray)] from rfl) (Reps.one (show Kd.M Kd.string _ _ _ (⟨#[101,108,115,101]⟩:ByteArray) [.string (⟨#[101,108,115,101]⟩:ByteArray)] from rfl) (Reps.one (show Kd.M Kd.string _ _ _ (⟨#[102,97,108,115,101]⟩:ByteArray) [.string (⟨#[102,97,108,115,101]⟩:ByteArray)] from rfl) (Reps.one (show Kd.M Kd.string _ _ _ (⟨#[105,102]⟩:ByteArray) [.string (⟨#[105,102]⟩:ByteArray)] from rfl) (Reps.one (show Kd.M Kd.string _ _ _ (⟨#[105,110]⟩:ByteArray) [.string (⟨#[105,110]⟩:ByteArray)] from rfl) (Reps.one (show Kd.M Kd.string _ _ _ (⟨#[108,101,97,115,116]⟩:ByteArray) [.string (⟨#[108,101,97,115,116]⟩:ByteArray)] from rfl) (Reps.one (show Kd.M Kd.string _ _ _ (⟨#[109,97,120]⟩:ByteArray) [.string (⟨#[109,97,120]⟩:ByteArray)] from rfl) (Reps.one (show Kd.M Kd.string _ _ _ (⟨#[109,105,110]⟩:ByteArray) [.string (⟨#[109,105,110]⟩:ByteArray)] from rfl) (Reps.one (show Kd.M Kd.string _ _ _ (⟨#[109,111,115,116]⟩:ByteArray) [.string (⟨#[109,111,115,116]⟩:ByteArray)] from rfl) (Reps.one (show Kd.M Kd.string _ _ _ (⟨#[110,111,116]⟩:ByteArray) [.string (⟨#[110,111,116]⟩:ByteArray)] from rfl) (Reps.one (show Kd.M Kd.string _ _ _ (⟨#[111,114]⟩:ByteArray) [.string (⟨#[111,114]⟩:ByteArray)] from rfl) (Reps.one (show Kd.M Kd.string _ _ _ (⟨#[114,101,112]⟩:ByteArray) [.string (⟨#[114,101,112]⟩:ByteArray)] from rfl) (Reps.one (show Kd.M Kd.string _ _ _ (⟨#[115,105,122,101]⟩:ByteArray) [.string (⟨#[115,105,122,101]⟩:ByteArray)] from rfl) (Reps.one (show Kd.M Kd.string _ _ _ (⟨#[115,111,109,101]⟩:ByteArray) [.string (⟨#[115,111,109,101]⟩:ByteArray)] from rfl) (Reps.one (show Kd.M Kd.string _ _ _ (⟨#[115,117,109]⟩:ByteArray) [.string (⟨#[115,117,109]⟩:ByteArray)] from rfl) (Reps.one (show Kd.M Kd.string _ _ _ (⟨#[116,104,101,110]⟩:ByteArray) [.string (⟨#[116,104,101,110]⟩:ByteArray)] from rfl) (Reps.one (show Kd.M Kd.string _ _ _ (⟨#[116,111,116,97,108]⟩:ByteArray) [.string (⟨#[116,111,116,97,108]⟩:ByteArray)] from rfl) (Reps.one (show Kd.M Kd.string _ _ _ (⟨#[116,114,117,101]⟩:ByteArray) [.string (⟨#[116,114,117,101]⟩:ByteArray)] from rfl) (Reps.one (show Kd.M Kd.string _ _ _ (⟨#[118,97,108,117,101]⟩:ByteArray) [.string (⟨#[118,97,108,117,101]⟩:ByteArray)] from rfl) (Reps.one (show Kd.M Kd.string _ _ _ (⟨#[118,101,114,116,105,99,101,115]⟩:ByteArray) [.string (⟨#[118,101,114,116,105,99,101,115]⟩:ByteArray)] from rfl) (Reps.none _ _))))))))))))))))))))))))))))); intro v140 w2 ho3 hb hg_ hnew_; clear hg_ hnew_; (first|rw [← Ny139.out] at ho3|(simp only [Int.reduceToNat] at ho3; rw [← Ny139.out] at ho3)); have n0_:=Aside0.mk (Kd.R_lower ho3 (below_size (by repeat (first|(with_reducible first|exact HB.out|apply below_alloc|apply pw_below_drewN|apply below_drew1)|exact HB.out)))); have n1_:=Aside0.mk (below_step (by repeat (first|(with_reducible first|exact HB.out|apply below_alloc|apply pw_below_drewN|apply below_drew1)|exact HB.out)) hb); clear HB; have HO141:=n0_; have HB:=n1_; clear n0_ n1_; clear hb ho3))
 go_loopg [4] k (fun kq v4 w'=>∃ (x4_1:Int),v4=.int .i64 x4_1∧Aside0 (isthmusref11_Word.l0 kq a0 y139 x4_1=some r)∧Aside0 (kq≤k)∧Aside0 (Kd.R Kd.string 9 w' w.heap.size (fun _=>True) v140 y139)∧Aside0 (Below w.heap.size w w'))
 case atStart=>exact ⟨(0),(by first|rfl|(simp; done)|(simp [*]; done)),H',⟨Nat.le_refl _⟩,⟨by (with_reducible repeat (first|apply Kd.R_alloc|apply Kd.R_drewN|apply Kd.R_drew)); exact HO141.out⟩,⟨by repeat (first|(with_reducible first|exact HB.out|apply below_alloc|apply pw_below_drewN|apply below_drew1)|exact HB.out)⟩⟩
 case round =>
  clear H'
  try clear p2
  obtain ⟨x4_1,rfl,HA,HK1,HO_3,HB⟩:=hrel
  cases gk with
  | zero=>exact absurd HA.out (by simp [isthmusref11_Word.l0])
  | succ k1 =>
   have H:=HA.out
   clear HA
   simp only [isthmusref11_Word.l0] at H
   by_cases c4:x4_1 < (y139.length:Int)
   ·rw [if_pos c4] at H
    have c4b0:decide (x4_1 < (y139.length:Int))=true:=decide_eq_true c4
    clear c4
    by_cases c5:0≤x4_1
    ·rw [if_pos c5] at H
     have c5b0:decide (0≤x4_1)=true:=decide_eq_true c5
     clear c5
     by_cases c6:(rdOf ByteArray.empty y139 x4_1).toList=a0.toList
     ·rw [if_pos c6] at H
      have c6b0:((rdOf ByteArray.empty y139 x4_1).toList == a0.toList)=true:=beq_iff_eq.mpr c6
      have c6b1:((rdOf ByteArray.empty y139 x4_1).toList != a0.toList)=false:=bne_eq_false_iff_eq.mpr c6
      clear c6
      obtain rfl:=Option.some.inj H
      obtain ⟨Ao7,co7,eo7⟩:=Kd.R_slice HO_3.out
      subst eo7
      have p142:0≤(x4_1:Int):=of_decide_eq_true (by first|(with_reducible assumption)|assumption)
      have q142:x4_1 < (y139.length:Int):=of_decide_eq_true (by first|(with_reducible assumption)|assumption)
      obtain ⟨ad142,e142,hx142_0⟩:=Kd.at_string (Kd.R_reads' HO_3.out).2.2 x4_1 p142 q142
      cases e142
      replace p142:=eq_true p142
      replace q142:=eq_true q142
      go_wp2
      go_ret
      exact ⟨by first|rfl|(simp [errW_none,errW_some]<;>rfl)|(simp [*,errW_none,errW_some]<;>rfl),by repeat (first|(with_reducible first|exact HB.out|apply below_alloc|apply pw_below_drewN|apply below_drew1)|exact HB.out)⟩
     ·rw [if_neg c6] at H
      have c6b0:((rdOf ByteArray.empty y139 x4_1).toList == a0.toList)=false:=beq_eq_false_iff_ne.mpr c6
      have c6b1:((rdOf ByteArray.empty y139 x4_1).toList != a0.toList)=true:=bne_iff_ne.mpr c6
      have H':=Aside0.mk H
      clear H
      obtain ⟨Ao8,co8,eo8⟩:=Kd.R_slice HO_3.out
      subst eo8
      have p142:0≤(x4_1:Int):=of_decide_eq_true (by first|(with_reducible assumption)|assumption)
      have q142:x4_1 < (y139.length:Int):=of_decide_eq_true (by first|(with_reducible assumption)|assumption)
      obtain ⟨ad142,e142,hx142_0⟩:=Kd.at_string (Kd.R_reads' HO_3.out).2.2 x4_1 p142 q142
      cases e142
      replace p142:=eq_true p142
      replace q142:=eq_true q142
      go_wp2
      go_roundg k1
      case measure=>have:=HK1.out; omega
      case rel=>exact ⟨(wrap64 (x4_1+1)),(by first|rfl|(simp; done)|(simp [*]; done)),H',⟨by have:=HK1.out; omega⟩,⟨by (with_reducible repeat (first|apply Kd.R_alloc|apply Kd.R_drewN|apply Kd.R_drew)); exact HO_3.out⟩,⟨by repeat (first|(with_reducible first|exact HB.out|apply below_alloc|apply pw_below_drewN|apply below_drew1)|exact HB.out)⟩⟩
    ·rw [if_neg c5] at H
     exact absurd H (by simp)
   ·rw [if_neg c4] at H
    have c4b0:decide (x4_1 < (y139.length:Int))=false:=decide_eq_false c4
    clear c4
    obtain rfl:=Option.some.inj H
    obtain ⟨Ao9,co9,eo9⟩:=Kd.R_slice HO_3.out
    subst eo9
    go_wp2
    go_ret
    exact ⟨by first|rfl|(simp [errW_none,errW_some]<;>rfl)|(simp [*,errW_none,errW_some]<;>rfl),by repeat (first|(with_reducible first|exact HB.out|apply below_alloc|apply pw_below_drewN|apply below_drew1)|exact HB.out)⟩
end Go.Proofs.YtcmdjpolgaejoaaDoor.C
