/- The laws GuardLooks, GuardWords of the program hold, as their cards say: texts put together by a program, 34 of 38. -/
import Derived.Test.YtcmdjpolgaejoaaDoorPB13
import Derived.Test.YtcmdjpolgaejoaaDoorPB29
import Derived.Test.YtcmdjpolgaejoaaDoorPB31
namespace Go.Proofs.YtcmdjpolgaejoaaDoor.C
open Go.RowKit Go.Proofs.YtcmdjpolgaejoaaDoorW.PrintWords Go.Proofs.YtcmdjpolgaejoaaDoorW.PrintLast Go.Proofs.YtcmdjpolgaejoaaDoorW.PrintMore
attribute [local go_sem] max2_int min2_int max_two min_two max_three min_three max_four min_four
set_option linter.unusedVariables false
set_option linter.unusedSimpArgs false
mutual
def isthmusref18_Right.j0:Nat→Bool→List Int→List Int→List ByteArray→List Int→Option (Bool)
 | 0,_,_,_,_,_=>none
 | k+1,x36,x161000,x161001,x161002,x161003=>if x36=true then (some false) else (isthmusref18_Right.l0 k 0 x161000 x161001 x161002 x161003)
def isthmusref18_Right.l0:Nat→Int→List Int→List Int→List ByteArray→List Int→Option (Bool)
 | 0,_,_,_,_,_=>none
 | k+1,x3,x161000,x161001,x161002,x161003=>if x3 < (x161002.length:Int) then (if 0≤x3 then ((isthmusref11_IsName.f k (rdOf ByteArray.empty x161002 x3)).bind fun t162=>(if t162=true then (isthmusref18_Right.l0 k (wrap64 (x3+1)) x161000 x161001 x161002 x161003) else (some false))) else (none)) else (isthmusref18_Right.l1 k 0 x161000 x161001 x161002 x161003)
def isthmusref18_Right.l1:Nat→Int→List Int→List Int→List ByteArray→List Int→Option (Bool)
 | 0,_,_,_,_,_=>none
 | k+1,x5,x161000,x161001,x161002,x161003=>if x5 < (x161003.length:Int) then (if 0≤x5 then ((isthmusref18_kind.f (rd x161003 x5)).bind fun t164=>(if t164=true then (isthmusref18_Right.l1 k (wrap64 (x5+1)) x161000 x161001 x161002 x161003) else (some false))) else (none)) else (isthmusref18_Right.l2 k 0 x161000 x161001 x161002 x161003)
def isthmusref18_Right.l2:Nat→Int→List Int→List Int→List ByteArray→List Int→Option (Bool)
 | 0,_,_,_,_,_=>none
 | k+1,x7,x161000,x161001,x161002,x161003=>if x7 < (x161000.length:Int) then (if 0≤x7 then ((isthmusref18_word.f k x161000 x161001 x161002 x161003 (rd x161000 x7)).bind fun t166=>(if t166=true then (isthmusref18_Right.l2 k (wrap64 (x7+1)) x161000 x161001 x161002 x161003) else (some false))) else (none)) else (some true)
end
def isthmusref18_Right.f (k:Nat) (l0_0:List Int) (l0_1:List Int) (l0_2:List ByteArray) (l0_3:List Int):Option (Bool):=if (l0_0.length:Int) < 1 then (isthmusref18_Right.j0 k true l0_0 l0_1 l0_2 l0_3) else (if (l0_0.length:Int) > 32768 then (isthmusref18_Right.j0 k true l0_0 l0_1 l0_2 l0_3) else (if (l0_1.length:Int) > 32768 then (isthmusref18_Right.j0 k true l0_0 l0_1 l0_2 l0_3) else (if (l0_2.length:Int) > 2000 then (isthmusref18_Right.j0 k true l0_0 l0_1 l0_2 l0_3) else (isthmusref18_Right.j0 k (decide ((l0_3.length:Int) > 256)) l0_0 l0_1 l0_2 l0_3))))
def isthmusref18_Right.T18:Bool×List (List Nat×List Nat):=(true,[([],[]),([],[]),([1],[1]),([],[]),([2,3],[2,3]),([4],[4]),([0,5],[0,5]),([6,6,0,1,2,3,4,5,6],[6])])
def isthmusref18_Right.B18:List Nat:=[0,0,2,0,14,30,63,127]
theorem isthmusref18_Right.tab18:rtab .any (opsOf Tryd.f21 18)=isthmusref18_Right.T18:=by kernel_rfl
theorem isthmusref18_Right.bits18:waitsOk isthmusref18_Right.T18.2 isthmusref18_Right.B18=true:=by kernel_rfl
set_option maxHeartbeats 8000000 in
set_option maxRecDepth 100000 in
theorem isthmusref18_Right.calls (k:Nat) (A0_0:Option Addr) (c0_0:Nat) (l0_0:List Int) (A0_1:Option Addr) (c0_1:Nat) (l0_1:List Int) (A0_2:Option Addr) (c0_2:Nat) (l0_2:List ByteArray) (A0_3:Option Addr) (c0_3:Nat) (l0_3:List Int) (r:Bool) (w:World) (hr0_0:Kd.C (Kd.int .u64) w A0_0 l0_0.length l0_0) (hc0_0:l0_0.length≤c0_0) (hr0_1:Kd.C (Kd.int .i64) w A0_1 l0_1.length l0_1) (hc0_1:l0_1.length≤c0_1) (hr0_2:Kd.C Kd.string w A0_2 l0_2.length l0_2) (hc0_2:l0_2.length≤c0_2) (hr0_3:Kd.C (Kd.int .i64) w A0_3 l0_3.length l0_3) (hc0_3:l0_3.length≤c0_3) (h:isthmusref18_Right.f k l0_0 l0_1 l0_2 l0_3=some r) :
  Calls Tryd.prog 21 #[.agg #[.slice A0_0 l0_0.length c0_0,.slice A0_1 l0_1.length c0_1,.slice A0_2 l0_2.length c0_2,.slice A0_3 l0_3.length c0_3]] w fun e w'=>e=.returned (.bool r)∧Below w.heap.size w w':=by
 have hu26:=Tryd.underlying26
 have HR0_0:=Aside0.mk hr0_0
 have HC0_0:=Aside0.mk hc0_0
 clear hr0_0 hc0_0
 have HR0_1:=Aside0.mk hr0_1
 have HC0_1:=Aside0.mk hc0_1
 clear hr0_1 hc0_1
 have HR0_2:=Aside0.mk hr0_2
 have HC0_2:=Aside0.mk hc0_2
 clear hr0_2 hc0_2
 have HR0_3:=Aside0.mk hr0_3
 have HC0_3:=Aside0.mk hc0_3
 clear hr0_3 hc0_3
 have HB:=Aside0.mk (Below.refl w.heap.size w)
 have H:(if (l0_0.length:Int) < 1 then (isthmusref18_Right.j0 k true l0_0 l0_1 l0_2 l0_3) else (if (l0_0.length:Int) > 32768 then (isthmusref18_Right.j0 k true l0_0 l0_1 l0_2 l0_3) else (if (l0_1.length:Int) > 32768 then (isthmusref18_Right.j0 k true l0_0 l0_1 l0_2 l0_3) else (if (l0_2.length:Int) > 2000 then (isthmusref18_Right.j0 k true l0_0 l0_1 l0_2 l0_3) else (isthmusref18_Right.j0 k (decide ((l0_3.length:Int) > 256)) l0_0 l0_1 l0_2 l0_3)))))=some r:=h
 clear h
 have HC2:=Aside0.mk H
 clear H
 go_enter Tryd.func21,Tryd.ntmps21
 go_upto_region 1 with (first|((with_reducible refine gate_dst (N:=1) rfl ?_); (try (refine gate_guard (by rfl) ?_; dsimp only)); refine box_event ?hg (N:=1) ?hd (cs:=#[.slice A0_0 l0_0.length c0_0,.slice A0_1 l0_1.length c0_1,.slice A0_2 l0_2.length c0_2,.slice A0_3 l0_3.length c0_3]) (t:=26) ?hr ?_; (case hd=>rfl); (case hg=>rfl); (case hr=>first|(go_simp; done)|(go_simp; rfl)); intro gb160 hg w3 hbox hb; have n0_:=Aside0.mk (below_step (by repeat (first|(with_reducible first|exact HB.out|apply below_alloc|apply pw_below_drewN|apply below_drew1)|exact HB.out)) hb); have n1_:=Aside0.mk (hbox); have n2_:=Aside0.mk ((by rw [hg]; exact (below_size (by repeat (first|(with_reducible first|exact HB.out|apply below_alloc|apply pw_below_drewN|apply below_drew1)|exact HB.out))):w.heap.size≤gb160)); have n3_:=Aside0.mk ((by rw [hg]; exact (below_size (by repeat (first|(with_reducible first|exact HB.out|apply below_alloc|apply pw_below_drewN|apply below_drew1)|exact HB.out))):w.heap.size≤gb160)); clear HB; have HB:=n0_; have BK160:=n1_; have GW160:=n2_; have GE160:=n3_; clear n0_ n1_ n2_ n3_; clear hb hbox hg))
 (try simp only [Act.put,List.setIfInBounds_toArray,List.set_cons_zero,List.set_cons_succ])
 go_cut [36] (fun v36 wc=>∃ (kq:Nat) (x36_1:Bool),v36=.bool x36_1∧Aside0 (isthmusref18_Right.j0 kq x36_1 l0_0 l0_1 l0_2 l0_3=some r)∧Aside0 (kq≤k)∧Aside0 (wc.heap[gb160]? = some (.cells #[(.slice A0_0 l0_0.length c0_0),(.slice A0_1 l0_1.length c0_1),(.slice A0_2 l0_2.length c0_2),(.slice A0_3 l0_3.length c0_3)] 26 (0,0)))∧Aside0 (Below w.heap.size w wc))
 case first =>
  have H:=HC2.out
  clear HC2
  by_cases c4:(l0_0.length:Int) < 1
  ·rw [if_pos c4] at H
   have c4b0:decide ((l0_0.length:Int) < 1)=true:=decide_eq_true c4
   have c4b1:decide (l0_0.length < 1)=true:=decide_eq_true (by omega)
   clear c4
   (first|rw [c4b0]|(simp only [i64_w,i32_w]; rw [c4b0])|skip)
   have H':=Aside0.mk H
   clear H
   have hcz5_0:w3.cell? ⟨gb160,0,none⟩=some (.slice A0_0 l0_0.length c0_0):=(blk_cell BK160.out 0).trans rfl
   have hcz5_1:w3.cell? ⟨gb160,1,none⟩=some (.slice A0_1 l0_1.length c0_1):=(blk_cell BK160.out 1).trans rfl
   have hcz5_2:w3.cell? ⟨gb160,2,none⟩=some (.slice A0_2 l0_2.length c0_2):=(blk_cell BK160.out 2).trans rfl
   have hcz5_3:w3.cell? ⟨gb160,3,none⟩=some (.slice A0_3 l0_3.length c0_3):=(blk_cell BK160.out 3).trans rfl
   have hfz5_0:=blk_frozen BK160.out 0
   have hfz5_1:=blk_frozen BK160.out 1
   have hfz5_2:=blk_frozen BK160.out 2
   have hfz5_3:=blk_frozen BK160.out 3
   go_wp2
   go_meet
   case rel=>exact ⟨_,(true),(by first|rfl|(simp; done)|(simp [*]; done)),H',⟨by first|omega|exact Nat.le_refl _⟩,⟨by (with_reducible repeat (first|refine blk_drewN ?_ _|refine blk_drew ?_|refine blk_alloc ?_ _)); exact BK160.out⟩,⟨by repeat (first|(with_reducible first|exact HB.out|apply below_alloc|apply pw_below_drewN|apply below_drew1|refine below_set ?_ GE160.out)|exact HB.out)⟩⟩
  ·rw [if_neg c4] at H
   have c4b0:decide ((l0_0.length:Int) < 1)=false:=decide_eq_false c4
   have c4b1:decide (l0_0.length < 1)=false:=decide_eq_false (by omega)
   clear c4
   (first|rw [c4b0]|(simp only [i64_w,i32_w]; rw [c4b0])|skip)
   by_cases c6:(l0_0.length:Int) > 32768
   ·rw [if_pos c6] at H
    have c6b0:decide (32768 < (l0_0.length:Int))=true:=decide_eq_true c6
    have c6b1:decide (32768 < l0_0.length)=true:=decide_eq_true (by omega)
    clear c6
    have H':=Aside0.mk H
    clear H
    have hcz7_0:w3.cell? ⟨gb160,0,none⟩=some (.slice A0_0 l0_0.length c0_0):=(blk_cell BK160.out 0).trans rfl
    have hcz7_1:w3.cell? ⟨gb160,1,none⟩=some (.slice A0_1 l0_1.length c0_1):=(blk_cell BK160.out 1).trans rfl
    have hcz7_2:w3.cell? ⟨gb160,2,none⟩=some (.slice A0_2 l0_2.length c0_2):=(blk_cell BK160.out 2).trans rfl
    have hcz7_3:w3.cell? ⟨gb160,3,none⟩=some (.slice A0_3 l0_3.length c0_3):=(blk_cell BK160.out 3).trans rfl
    have hfz7_0:=blk_frozen BK160.out 0
    have hfz7_1:=blk_frozen BK160.out 1
    have hfz7_2:=blk_frozen BK160.out 2
    have hfz7_3:=blk_frozen BK160.out 3
    go_wp2
    go_meet
    case rel=>exact ⟨_,(true),(by first|rfl|(simp; done)|(simp [*]; done)),H',⟨by first|omega|exact Nat.le_refl _⟩,⟨by (with_reducible repeat (first|refine blk_drewN ?_ _|refine blk_drew ?_|refine blk_alloc ?_ _)); exact BK160.out⟩,⟨by repeat (first|(with_reducible first|exact HB.out|apply below_alloc|apply pw_below_drewN|apply below_drew1|refine below_set ?_ GE160.out)|exact HB.out)⟩⟩
   ·rw [if_neg c6] at H
    have c6b0:decide (32768 < (l0_0.length:Int))=false:=decide_eq_false c6
    have c6b1:decide (32768 < l0_0.length)=false:=decide_eq_false (by omega)
    clear c6
    by_cases c8:(l0_1.length:Int) > 32768
    ·rw [if_pos c8] at H
     have c8b0:decide (32768 < (l0_1.length:Int))=true:=decide_eq_true c8
     have c8b1:decide (32768 < l0_1.length)=true:=decide_eq_true (by omega)
     clear c8
     have H':=Aside0.mk H
     clear H
     have hcz9_0:w3.cell? ⟨gb160,0,none⟩=some (.slice A0_0 l0_0.length c0_0):=(blk_cell BK160.out 0).trans rfl
     have hcz9_1:w3.cell? ⟨gb160,1,none⟩=some (.slice A0_1 l0_1.length c0_1):=(blk_cell BK160.out 1).trans rfl
     have hcz9_2:w3.cell? ⟨gb160,2,none⟩=some (.slice A0_2 l0_2.length c0_2):=(blk_cell BK160.out 2).trans rfl
     have hcz9_3:w3.cell? ⟨gb160,3,none⟩=some (.slice A0_3 l0_3.length c0_3):=(blk_cell BK160.out 3).trans rfl
     have hfz9_0:=blk_frozen BK160.out 0
     have hfz9_1:=blk_frozen BK160.out 1
     have hfz9_2:=blk_frozen BK160.out 2
     have hfz9_3:=blk_frozen BK160.out 3
     go_wp2
     go_meet
     case rel=>exact ⟨_,(true),(by first|rfl|(simp; done)|(simp [*]; done)),H',⟨by first|omega|exact Nat.le_refl _⟩,⟨by (with_reducible repeat (first|refine blk_drewN ?_ _|refine blk_drew ?_|refine blk_alloc ?_ _)); exact BK160.out⟩,⟨by repeat (first|(with_reducible first|exact HB.out|apply below_alloc|apply pw_below_drewN|apply below_drew1|refine below_set ?_ GE160.out)|exact HB.out)⟩⟩
    ·rw [if_neg c8] at H
     have c8b0:decide (32768 < (l0_1.length:Int))=false:=decide_eq_false c8
     have c8b1:decide (32768 < l0_1.length)=false:=decide_eq_false (by omega)
     clear c8
     by_cases c10:(l0_2.length:Int) > 2000
     ·rw [if_pos c10] at H
      have c10b0:decide (2000 < (l0_2.length:Int))=true:=decide_eq_true c10
      have c10b1:decide (2000 < l0_2.length)=true:=decide_eq_true (by omega)
      clear c10
      have H':=Aside0.mk H
      clear H
      have hcz11_0:w3.cell? ⟨gb160,0,none⟩=some (.slice A0_0 l0_0.length c0_0):=(blk_cell BK160.out 0).trans rfl
      have hcz11_1:w3.cell? ⟨gb160,1,none⟩=some (.slice A0_1 l0_1.length c0_1):=(blk_cell BK160.out 1).trans rfl
      have hcz11_2:w3.cell? ⟨gb160,2,none⟩=some (.slice A0_2 l0_2.length c0_2):=(blk_cell BK160.out 2).trans rfl
      have hcz11_3:w3.cell? ⟨gb160,3,none⟩=some (.slice A0_3 l0_3.length c0_3):=(blk_cell BK160.out 3).trans rfl
      have hfz11_0:=blk_frozen BK160.out 0
      have hfz11_1:=blk_frozen BK160.out 1
      have hfz11_2:=blk_frozen BK160.out 2
      have hfz11_3:=blk_frozen BK160.out 3
      go_wp2
      go_meet
      case rel=>exact ⟨_,(true),(by first|rfl|(simp; done)|(simp [*]; done)),H',⟨by first|omega|exact Nat.le_refl _⟩,⟨by (with_reducible repeat (first|refine blk_drewN ?_ _|refine blk_drew ?_|refine blk_alloc ?_ _)); exact BK160.out⟩,⟨by repeat (first|(with_reducible first|exact HB.out|apply below_alloc|apply pw_below_drewN|apply below_drew1|refine below_set ?_ GE160.out)|exact HB.out)⟩⟩
     ·rw [if_neg c10] at H
      have c10b0:decide (2000 < (l0_2.length:Int))=false:=decide_eq_false c10
      have c10b1:decide (2000 < l0_2.length)=false:=decide_eq_false (by omega)
      clear c10
      have H':=Aside0.mk H
      clear H
      have hcz12_0:w3.cell? ⟨gb160,0,none⟩=some (.slice A0_0 l0_0.length c0_0):=(blk_cell BK160.out 0).trans rfl
      have hcz12_1:w3.cell? ⟨gb160,1,none⟩=some (.slice A0_1 l0_1.length c0_1):=(blk_cell BK160.out 1).trans rfl
      have hcz12_2:w3.cell? ⟨gb160,2,none⟩=some (.slice A0_2 l0_2.length c0_2):=(blk_cell BK160.out 2).trans rfl
      have hcz12_3:w3.cell? ⟨gb160,3,none⟩=some (.slice A0_3 l0_3.length c0_3):=(blk_cell BK160.out 3).trans rfl
      have hfz12_0:=blk_frozen BK160.out 0
      have hfz12_1:=blk_frozen BK160.out 1
      have hfz12_2:=blk_frozen BK160.out 2
      have hfz12_3:=blk_frozen BK160.out 3
      go_wp2
      go_meet
      case rel=>exact ⟨_,(decide ((l0_3.length:Int) > 256)),(by first|rfl|(simp; done)|(simp [*]; done)),H',⟨by first|omega|exact Nat.le_refl _⟩,⟨by (with_reducible repeat (first|refine blk_drewN ?_ _|refine blk_drew ?_|refine blk_alloc ?_ _)); exact BK160.out⟩,⟨by repeat (first|(with_reducible first|exact HB.out|apply below_alloc|apply pw_below_drewN|apply below_drew1|refine below_set ?_ GE160.out)|exact HB.out)⟩⟩
 case rest =>
  clear HC2
  try clear c1
  try clear c2
  try clear p2
  try clear c4
  try clear c4b0
  try clear c4b1
  try clear c6
  try clear c6b0
  try clear c6b1
  try clear c8
  try clear c8b0
  try clear c8b1
  try clear c10
  try clear c10b0
  try clear c10b1
  try clear hcz11_0
  try clear hcz11_1
  try clear hcz11_2
  try clear hcz11_3
  try clear hcz12_0
  try clear hcz12_1
  try clear hcz12_2
  try clear hcz12_3
  try clear hcz5_0
  try clear hcz5_1
  try clear hcz5_2
  try clear hcz5_3
  try clear hcz7_0
  try clear hcz7_1
  try clear hcz7_2
  try clear hcz7_3
  try clear hcz9_0
  try clear hcz9_1
  try clear hcz9_2
  try clear hcz9_3
  try clear hfz11_0
  try clear hfz11_1
  try clear hfz11_2
  try clear hfz11_3
  try clear hfz12_0
  try clear hfz12_1
  try clear hfz12_2
  try clear hfz12_3
  try clear hfz5_0
  try clear hfz5_1
  try clear hfz5_2
  try clear hfz5_3
  try clear hfz7_0
  try clear hfz7_1
  try clear hfz7_2
  try clear hfz7_3
  try clear hfz9_0
  try clear hfz9_1
  try clear hfz9_2
  try clear hfz9_3
  obtain ⟨kq,x36_1,rfl,HA,HJ1,BK160,HB⟩:=hcut
  cases kq with
  | zero=>exact absurd HA.out (by simp [isthmusref18_Right.j0])
  | succ kj1 =>
   have H:=HA.out
   clear HA
   simp only [isthmusref18_Right.j0] at H
   by_cases c13:x36_1=true
   ·subst c13
    have H1:(some false)=some r:=by rw [if_pos rfl] at H; exact H
    clear H
    have H:=H1
    clear H1
    obtain rfl:=Option.some.inj H
    go_wp2
    go_ret
    exact ⟨by first|rfl|(simp [errW_none,errW_some]<;>rfl)|(simp [*,errW_none,errW_some]<;>rfl),by repeat (first|(with_reducible first|exact HB.out|apply below_alloc|apply pw_below_drewN|apply below_drew1|refine below_set ?_ GE160.out)|exact HB.out)⟩
   ·replace c13:=Bool.eq_false_iff.mpr c13
    subst c13
    have H1:(isthmusref18_Right.l0 kj1 0 l0_0 l0_1 l0_2 l0_3)=some r:=by rw [if_neg (show ¬ (false=true) by decide)] at H; exact H
    clear H
    have H:=H1
    clear H1
    have H':=Aside0.mk H
    clear H
    go_wp2
    go_loopg [3] kj1 (fun kq v3 w'=>∃ (x3_2:Int),v3=.int .i64 x3_2∧Aside0 (isthmusref18_Right.l0 kq x3_2 l0_0 l0_1 l0_2 l0_3=some r)∧Aside0 (kq≤kj1)∧Aside0 (w'.heap[gb160]? = some (.cells #[(.slice A0_0 l0_0.length c0_0),(.slice A0_1 l0_1.length c0_1),(.slice A0_2 l0_2.length c0_2),(.slice A0_3 l0_3.length c0_3)] 26 (0,0)))∧Aside0 (Below w.heap.size w w'))
    case atStart=>exact ⟨(0),(by first|rfl|(simp; done)|(simp [*]; done)),H',⟨Nat.le_refl _⟩,⟨by (with_reducible repeat (first|refine blk_drewN ?_ _|refine blk_drew ?_|refine blk_alloc ?_ _)); exact BK160.out⟩,⟨by repeat (first|(with_reducible first|exact HB.out|apply below_alloc|apply pw_below_drewN|apply below_drew1|refine below_set ?_ GE160.out)|exact HB.out)⟩⟩
    case round =>
     clear H'
     try clear c1
     try clear c2
     try clear p2
     try clear c4
     try clear c4b0
     try clear c4b1
     try clear c6
     try clear c6b0
     try clear c6b1
     try clear c8
     try clear c8b0
     try clear c8b1
     try clear c10
     try clear c10b0
     try clear c10b1
     try clear c13
     try clear hcz11_0
     try clear hcz11_1
     try clear hcz11_2
     try clear hcz11_3
     try clear hcz12_0
     try clear hcz12_1
     try clear hcz12_2
     try clear hcz12_3
     try clear hcz5_0
     try clear hcz5_1
     try clear hcz5_2
     try clear hcz5_3
     try clear hcz7_0
     try clear hcz7_1
     try clear hcz7_2
     try clear hcz7_3
     try clear hcz9_0
     try clear hcz9_1
     try clear hcz9_2
     try clear hcz9_3
     try clear hfz11_0
     try clear hfz11_1
     try clear hfz11_2
     try clear hfz11_3
     try clear hfz12_0
     try clear hfz12_1
     try clear hfz12_2
     try clear hfz12_3
     try clear hfz5_0
     try clear hfz5_1
     try clear hfz5_2
     try clear hfz5_3
     try clear hfz7_0
     try clear hfz7_1
     try clear hfz7_2
     try clear hfz7_3
     try clear hfz9_0
     try clear hfz9_1
     try clear hfz9_2
     try clear hfz9_3
     try clear p2
     obtain ⟨x3_2,rfl,HA,HK2,BK160,HB⟩:=hrel
     cases gk with
     | zero=>exact absurd HA.out (by simp [isthmusref18_Right.l0])
     | succ k2 =>
      have H:=HA.out
      clear HA
      simp only [isthmusref18_Right.l0] at H
      by_cases c14:x3_2 < (l0_2.length:Int)
      ·rw [if_pos c14] at H
       have c14b0:decide (x3_2 < (l0_2.length:Int))=true:=decide_eq_true c14
       clear c14
       by_cases c15:0≤x3_2
       ·rw [if_pos c15] at H
        have c15b0:decide (0≤x3_2)=true:=decide_eq_true c15
        clear c15
        replace H:=Option.bind_eq_some_iff.mp H
        obtain ⟨t162,A160,H⟩:=H
        replace H:(if t162=true then (isthmusref18_Right.l0 k2 (wrap64 (x3_2+1)) l0_0 l0_1 l0_2 l0_3) else (some false))=some r:=H
        have A16:=Aside0.mk A160
        clear A160
        by_cases c17:t162=true
        ·subst c17
         have H1:(isthmusref18_Right.l0 k2 (wrap64 (x3_2+1)) l0_0 l0_1 l0_2 l0_3)=some r:=by rw [if_pos rfl] at H; exact H
         clear H
         have H:=H1
         clear H1
         have H':=Aside0.mk H
         clear H
         have hcz18_0:wr.cell? ⟨gb160,0,none⟩=some (.slice A0_0 l0_0.length c0_0):=(blk_cell BK160.out 0).trans rfl
         have hcz18_1:wr.cell? ⟨gb160,1,none⟩=some (.slice A0_1 l0_1.length c0_1):=(blk_cell BK160.out 1).trans rfl
         have hcz18_2:wr.cell? ⟨gb160,2,none⟩=some (.slice A0_2 l0_2.length c0_2):=(blk_cell BK160.out 2).trans rfl
         have hcz18_3:wr.cell? ⟨gb160,3,none⟩=some (.slice A0_3 l0_3.length c0_3):=(blk_cell BK160.out 3).trans rfl
         have hfz18_0:=blk_frozen BK160.out 0
         have hfz18_1:=blk_frozen BK160.out 1
         have hfz18_2:=blk_frozen BK160.out 2
         have hfz18_3:=blk_frozen BK160.out 3
         have p161:0≤(x3_2:Int):=of_decide_eq_true (by first|(with_reducible assumption)|assumption)
         have q161:x3_2 < (l0_2.length:Int):=of_decide_eq_true (by first|(with_reducible assumption)|assumption)
         obtain ⟨ad161,e161,hx161_0⟩:=Kd.at_string HR0_2.out x3_2 p161 q161
         cases e161
         replace hx161_0:=(HB.out.cell (World.block_lt_of_cell? w _ hx161_0)).trans hx161_0
         replace p161:=eq_true p161
         replace q161:=eq_true q161
         go_wp2_with (first|((with_reducible refine gate_callee (f:=36) rfl ?_); refine goesL_ (some 49) rfl rfl Tryd.func36 (by kernel_rfl) rfl #[.string (rdOf ByteArray.empty l0_2 x3_2)] rfl (by (try simp only [List.map_toArray,List.map_cons,List.map_nil]); first|done|rfl|(simp only [List.length_drop,List.length_take]; rfl)) ?_; (with_reducible refine (isthmusref11_IsName.calls k2 (rdOf ByteArray.empty l0_2 x3_2) true _ A16.out).mono ?_); rintro e w19 ⟨rfl,hb⟩; refine ⟨_,rfl,?_⟩; have n0_:=Aside0.mk (blk_below (g:=gb160) (o:=.cells #[.slice A0_0 l0_0.length c0_0,.slice A0_1 l0_1.length c0_1,.slice (some ad161) l0_2.length c0_2,.slice A0_3 l0_3.length c0_3] 26 (0,0)) (by (with_reducible repeat (first|refine blk_drewN ?_ _|refine blk_drew ?_|refine blk_alloc ?_ _)); exact BK160.out) hb); have n1_:=Aside0.mk (below_step (by repeat (first|(with_reducible first|exact HB.out|apply below_alloc|apply pw_below_drewN|apply below_drew1|refine below_set ?_ GE160.out)|exact HB.out)) hb); clear BK160; clear HB; have BK160:=n0_; have HB:=n1_; clear n0_ n1_; (try clear hb); (try clear hb2); (try clear hk); (try clear hi)))
         go_roundg k2
         case measure=>have:=HJ1.out; have:=HK2.out; omega
         case rel=>exact ⟨(wrap64 (x3_2+1)),(by first|rfl|(simp; done)|(simp [*]; done)),H',⟨by have:=HJ1.out; have:=HK2.out; omega⟩,⟨by (with_reducible repeat (first|refine blk_drewN ?_ _|refine blk_drew ?_|refine blk_alloc ?_ _)); exact BK160.out⟩,⟨by repeat (first|(with_reducible first|exact HB.out|apply below_alloc|apply pw_below_drewN|apply below_drew1|refine below_set ?_ GE160.out)|exact HB.out)⟩⟩
        ·replace c17:=Bool.eq_false_iff.mpr c17
         subst c17
         have H1:(some false)=some r:=by rw [if_neg (show ¬ (false=true) by decide)] at H; exact H
         clear H
         have H:=H1
         clear H1
         obtain rfl:=Option.some.inj H
         have hcz20_0:wr.cell? ⟨gb160,0,none⟩=some (.slice A0_0 l0_0.length c0_0):=(blk_cell BK160.out 0).trans rfl
         have hcz20_1:wr.cell? ⟨gb160,1,none⟩=some (.slice A0_1 l0_1.length c0_1):=(blk_cell BK160.out 1).trans rfl
         have hcz20_2:wr.cell? ⟨gb160,2,none⟩=some (.slice A0_2 l0_2.length c0_2):=(blk_cell BK160.out 2).trans rfl
         have hcz20_3:wr.cell? ⟨gb160,3,none⟩=some (.slice A0_3 l0_3.length c0_3):=(blk_cell BK160.out 3).trans rfl
         have hfz20_0:=blk_frozen BK160.out 0
         have hfz20_1:=blk_frozen BK160.out 1
         have hfz20_2:=blk_frozen BK160.out 2
         have hfz20_3:=blk_frozen BK160.out 3
         have p161:0≤(x3_2:Int):=of_decide_eq_true (by first|(with_reducible assumption)|assumption)
         have q161:x3_2 < (l0_2.length:Int):=of_decide_eq_true (by first|(with_reducible assumption)|assumption)
         obtain ⟨ad161,e161,hx161_0⟩:=Kd.at_string HR0_2.out x3_2 p161 q161
         cases e161
         replace hx161_0:=(HB.out.cell (World.block_lt_of_cell? w _ hx161_0)).trans hx161_0
         replace p161:=eq_true p161
         replace q161:=eq_true q161
         go_wp2_with (first|((with_reducible refine gate_callee (f:=36) rfl ?_); refine goesL_ (some 49) rfl rfl Tryd.func36 (by kernel_rfl) rfl #[.string (rdOf ByteArray.empty l0_2 x3_2)] rfl (by (try simp only [List.map_toArray,List.map_cons,List.map_nil]); first|done|rfl|(simp only [List.length_drop,List.length_take]; rfl)) ?_; (with_reducible refine (isthmusref11_IsName.calls k2 (rdOf ByteArray.empty l0_2 x3_2) false _ A16.out).mono ?_); rintro e w21 ⟨rfl,hb⟩; refine ⟨_,rfl,?_⟩; have n0_:=Aside0.mk (blk_below (g:=gb160) (o:=.cells #[.slice A0_0 l0_0.length c0_0,.slice A0_1 l0_1.length c0_1,.slice (some ad161) l0_2.length c0_2,.slice A0_3 l0_3.length c0_3] 26 (0,0)) (by (with_reducible repeat (first|refine blk_drewN ?_ _|refine blk_drew ?_|refine blk_alloc ?_ _)); exact BK160.out) hb); have n1_:=Aside0.mk (below_step (by repeat (first|(with_reducible first|exact HB.out|apply below_alloc|apply pw_below_drewN|apply below_drew1|refine below_set ?_ GE160.out)|exact HB.out)) hb); clear BK160; clear HB; have BK160:=n0_; have HB:=n1_; clear n0_ n1_; (try clear hb); (try clear hb2); (try clear hk); (try clear hi)))
         go_ret
         exact ⟨by first|rfl|(simp [errW_none,errW_some]<;>rfl)|(simp [*,errW_none,errW_some]<;>rfl),by repeat (first|(with_reducible first|exact HB.out|apply below_alloc|apply pw_below_drewN|apply below_drew1|refine below_set ?_ GE160.out)|exact HB.out)⟩
       ·rw [if_neg c15] at H
        exact absurd H (by simp)
      ·rw [if_neg c14] at H
       have c14b0:decide (x3_2 < (l0_2.length:Int))=false:=decide_eq_false c14
       clear c14
       have H':=Aside0.mk H
       clear H
       have hcz22_0:wr.cell? ⟨gb160,0,none⟩=some (.slice A0_0 l0_0.length c0_0):=(blk_cell BK160.out 0).trans rfl
       have hcz22_1:wr.cell? ⟨gb160,1,none⟩=some (.slice A0_1 l0_1.length c0_1):=(blk_cell BK160.out 1).trans rfl
       have hcz22_2:wr.cell? ⟨gb160,2,none⟩=some (.slice A0_2 l0_2.length c0_2):=(blk_cell BK160.out 2).trans rfl
       have hcz22_3:wr.cell? ⟨gb160,3,none⟩=some (.slice A0_3 l0_3.length c0_3):=(blk_cell BK160.out 3).trans rfl
       have hfz22_0:=blk_frozen BK160.out 0
       have hfz22_1:=blk_frozen BK160.out 1
       have hfz22_2:=blk_frozen BK160.out 2
       have hfz22_3:=blk_frozen BK160.out 3
       go_wp2
       go_loopg [5] k2 (fun kq v5 w'=>∃ (x5_3:Int),v5=.int .i64 x5_3∧Aside0 (isthmusref18_Right.l1 kq x5_3 l0_0 l0_1 l0_2 l0_3=some r)∧Aside0 (kq≤k2)∧Aside0 (w'.heap[gb160]? = some (.cells #[(.slice A0_0 l0_0.length c0_0),(.slice A0_1 l0_1.length c0_1),(.slice A0_2 l0_2.length c0_2),(.slice A0_3 l0_3.length c0_3)] 26 (0,0)))∧Aside0 (Below w.heap.size w w'))
       case atStart=>exact ⟨(0),(by first|rfl|(simp; done)|(simp [*]; done)),H',⟨Nat.le_refl _⟩,⟨by (with_reducible repeat (first|refine blk_drewN ?_ _|refine blk_drew ?_|refine blk_alloc ?_ _)); exact BK160.out⟩,⟨by repeat (first|(with_reducible first|exact HB.out|apply below_alloc|apply pw_below_drewN|apply below_drew1|refine below_set ?_ GE160.out)|exact HB.out)⟩⟩
       case round =>
        clear H'
        try clear c1
        try clear p1
        try clear q1
        try clear hx1
        try clear c2
        try clear p2
        try clear c3
        try clear c4
        try clear c4b0
        try clear c4b1
        try clear c6
        try clear c6b0
        try clear c6b1
        try clear p6
        try clear c8
        try clear c8b0
        try clear c8b1
        try clear c10
        try clear c10b0
        try clear c10b1
        try clear c13
        try clear c14
        try clear c14b0
        try clear c15
        try clear c15b0
        try clear p16
        try clear q16
        try clear hx16
        try clear c17
        try clear c21
        try clear hcz11_0
        try clear hcz11_1
        try clear hcz11_2
        try clear hcz11_3
        try clear hcz12_0
        try clear hcz12_1
        try clear hcz12_2
        try clear hcz12_3
        try clear hcz18_0
        try clear hcz18_1
        try clear hcz18_2
        try clear hcz18_3
        try clear hcz20_0
        try clear hcz20_1
        try clear hcz20_2
        try clear hcz20_3
        try clear hcz22_0
        try clear hcz22_1
        try clear hcz22_2
        try clear hcz22_3
        try clear hcz5_0
        try clear hcz5_1
        try clear hcz5_2
        try clear hcz5_3
        try clear hcz7_0
        try clear hcz7_1
        try clear hcz7_2
        try clear hcz7_3
        try clear hcz9_0
        try clear hcz9_1
        try clear hcz9_2
        try clear hcz9_3
        try clear hfz11_0
        try clear hfz11_1
        try clear hfz11_2
        try clear hfz11_3
        try clear hfz12_0
        try clear hfz12_1
        try clear hfz12_2
        try clear hfz12_3
        try clear hfz18_0
        try clear hfz18_1
        try clear hfz18_2
        try clear hfz18_3
        try clear hfz20_0
        try clear hfz20_1
        try clear hfz20_2
        try clear hfz20_3
        try clear hfz22_0
        try clear hfz22_1
        try clear hfz22_2
        try clear hfz22_3
        try clear hfz5_0
        try clear hfz5_1
        try clear hfz5_2
        try clear hfz5_3
        try clear hfz7_0
        try clear hfz7_1
        try clear hfz7_2
        try clear hfz7_3
        try clear hfz9_0
        try clear hfz9_1
        try clear hfz9_2
        try clear hfz9_3
        try clear hx161_0
        try clear p161
        try clear p2
        try clear q161
        obtain ⟨x5_3,rfl,HA,HK3,BK160,HB⟩:=hrel
        cases gk with
        | zero=>exact absurd HA.out (by simp [isthmusref18_Right.l1])
        | succ k3 =>
         have H:=HA.out
         clear HA
         simp only [isthmusref18_Right.l1] at H
         by_cases c23:x5_3 < (l0_3.length:Int)
         ·rw [if_pos c23] at H
          have c23b0:decide (x5_3 < (l0_3.length:Int))=true:=decide_eq_true c23
          clear c23
          by_cases c24:0≤x5_3
          ·rw [if_pos c24] at H
           have c24b0:decide (0≤x5_3)=true:=decide_eq_true c24
           clear c24
           replace H:=Option.bind_eq_some_iff.mp H
           obtain ⟨t164,A250,H⟩:=H
           replace H:(if t164=true then (isthmusref18_Right.l1 k3 (wrap64 (x5_3+1)) l0_0 l0_1 l0_2 l0_3) else (some false))=some r:=H
           have A25:=Aside0.mk A250
           clear A250
           by_cases c26:t164=true
           ·subst c26
            have H1:(isthmusref18_Right.l1 k3 (wrap64 (x5_3+1)) l0_0 l0_1 l0_2 l0_3)=some r:=by rw [if_pos rfl] at H; exact H
            clear H
            have H:=H1
            clear H1
            have H':=Aside0.mk H
            clear H
            have hcz27_0:wr.cell? ⟨gb160,0,none⟩=some (.slice A0_0 l0_0.length c0_0):=(blk_cell BK160.out 0).trans rfl
            have hcz27_1:wr.cell? ⟨gb160,1,none⟩=some (.slice A0_1 l0_1.length c0_1):=(blk_cell BK160.out 1).trans rfl
            have hcz27_2:wr.cell? ⟨gb160,2,none⟩=some (.slice A0_2 l0_2.length c0_2):=(blk_cell BK160.out 2).trans rfl
            have hcz27_3:wr.cell? ⟨gb160,3,none⟩=some (.slice A0_3 l0_3.length c0_3):=(blk_cell BK160.out 3).trans rfl
            have hfz27_0:=blk_frozen BK160.out 0
            have hfz27_1:=blk_frozen BK160.out 1
            have hfz27_2:=blk_frozen BK160.out 2
            have hfz27_3:=blk_frozen BK160.out 3
            have p163:0≤(x5_3:Int):=of_decide_eq_true (by first|(with_reducible assumption)|assumption)
            have q163:x5_3 < (l0_3.length:Int):=of_decide_eq_true (by first|(with_reducible assumption)|assumption)
            obtain ⟨ad163,e163,hx163_0⟩:=Kd.at_int HR0_3.out x5_3 p163 q163
            cases e163
            replace hx163_0:=(HB.out.cell (World.block_lt_of_cell? w _ hx163_0)).trans hx163_0
            replace p163:=eq_true p163
            replace q163:=eq_true q163
            go_wp2_with (first|((with_reducible refine gate_callee (f:=37) rfl ?_); refine goesL_ (some 64) rfl rfl Tryd.func37 (by kernel_rfl) rfl #[.int .i64 (rd l0_3 x5_3)] rfl (by (try simp only [List.map_toArray,List.map_cons,List.map_nil]); first|done|rfl|(simp only [List.length_drop,List.length_take]; rfl)) ?_; (with_reducible refine (isthmusref18_kind.calls (rd l0_3 x5_3) true _ A25.out).mono ?_); rintro e w' ⟨rfl,⟨nd,rfl⟩⟩; refine ⟨_,rfl,?_⟩))
            go_roundg k3
            case measure=>have:=HJ1.out; have:=HK2.out; have:=HK3.out; omega
            case rel=>exact ⟨(wrap64 (x5_3+1)),(by first|rfl|(simp; done)|(simp [*]; done)),H',⟨by have:=HJ1.out; have:=HK2.out; have:=HK3.out; omega⟩,⟨by (with_reducible repeat (first|refine blk_drewN ?_ _|refine blk_drew ?_|refine blk_alloc ?_ _)); exact BK160.out⟩,⟨by repeat (first|(with_reducible first|exact HB.out|apply below_alloc|apply pw_below_drewN|apply below_drew1|refine below_set ?_ GE160.out)|exact HB.out)⟩⟩
           ·replace c26:=Bool.eq_false_iff.mpr c26
            subst c26
            have H1:(some false)=some r:=by rw [if_neg (show ¬ (false=true) by decide)] at H; exact H
            clear H
            have H:=H1
            clear H1
            obtain rfl:=Option.some.inj H
            have hcz28_0:wr.cell? ⟨gb160,0,none⟩=some (.slice A0_0 l0_0.length c0_0):=(blk_cell BK160.out 0).trans rfl
            have hcz28_1:wr.cell? ⟨gb160,1,none⟩=some (.slice A0_1 l0_1.length c0_1):=(blk_cell BK160.out 1).trans rfl
            have hcz28_2:wr.cell? ⟨gb160,2,none⟩=some (.slice A0_2 l0_2.length c0_2):=(blk_cell BK160.out 2).trans rfl
            have hcz28_3:wr.cell? ⟨gb160,3,none⟩=some (.slice A0_3 l0_3.length c0_3):=(blk_cell BK160.out 3).trans rfl
            have hfz28_0:=blk_frozen BK160.out 0
            have hfz28_1:=blk_frozen BK160.out 1
            have hfz28_2:=blk_frozen BK160.out 2
            have hfz28_3:=blk_frozen BK160.out 3
            have p163:0≤(x5_3:Int):=of_decide_eq_true (by first|(with_reducible assumption)|assumption)
            have q163:x5_3 < (l0_3.length:Int):=of_decide_eq_true (by first|(with_reducible assumption)|assumption)
            obtain ⟨ad163,e163,hx163_0⟩:=Kd.at_int HR0_3.out x5_3 p163 q163
            cases e163
            replace hx163_0:=(HB.out.cell (World.block_lt_of_cell? w _ hx163_0)).trans hx163_0
            replace p163:=eq_true p163
            replace q163:=eq_true q163
            go_wp2_with (first|((with_reducible refine gate_callee (f:=37) rfl ?_); refine goesL_ (some 64) rfl rfl Tryd.func37 (by kernel_rfl) rfl #[.int .i64 (rd l0_3 x5_3)] rfl (by (try simp only [List.map_toArray,List.map_cons,List.map_nil]); first|done|rfl|(simp only [List.length_drop,List.length_take]; rfl)) ?_; (with_reducible refine (isthmusref18_kind.calls (rd l0_3 x5_3) false _ A25.out).mono ?_); rintro e w' ⟨rfl,⟨nd,rfl⟩⟩; refine ⟨_,rfl,?_⟩))
            go_ret
            exact ⟨by first|rfl|(simp [errW_none,errW_some]<;>rfl)|(simp [*,errW_none,errW_some]<;>rfl),by repeat (first|(with_reducible first|exact HB.out|apply below_alloc|apply pw_below_drewN|apply below_drew1|refine below_set ?_ GE160.out)|exact HB.out)⟩
          ·rw [if_neg c24] at H
           exact absurd H (by simp)
         ·rw [if_neg c23] at H
          have c23b0:decide (x5_3 < (l0_3.length:Int))=false:=decide_eq_false c23
          clear c23
          have H':=Aside0.mk H
          clear H
          have hcz29_0:wr.cell? ⟨gb160,0,none⟩=some (.slice A0_0 l0_0.length c0_0):=(blk_cell BK160.out 0).trans rfl
          have hcz29_1:wr.cell? ⟨gb160,1,none⟩=some (.slice A0_1 l0_1.length c0_1):=(blk_cell BK160.out 1).trans rfl
          have hcz29_2:wr.cell? ⟨gb160,2,none⟩=some (.slice A0_2 l0_2.length c0_2):=(blk_cell BK160.out 2).trans rfl
          have hcz29_3:wr.cell? ⟨gb160,3,none⟩=some (.slice A0_3 l0_3.length c0_3):=(blk_cell BK160.out 3).trans rfl
          have hfz29_0:=blk_frozen BK160.out 0
          have hfz29_1:=blk_frozen BK160.out 1
          have hfz29_2:=blk_frozen BK160.out 2
          have hfz29_3:=blk_frozen BK160.out 3
          go_wp2
          go_loopg [7] k3 (fun kq v7 w'=>∃ (x7_4:Int),v7=.int .i64 x7_4∧Aside0 (isthmusref18_Right.l2 kq x7_4 l0_0 l0_1 l0_2 l0_3=some r)∧Aside0 (kq≤k3)∧Aside0 (w'.heap[gb160]? = some (.cells #[(.slice A0_0 l0_0.length c0_0),(.slice A0_1 l0_1.length c0_1),(.slice A0_2 l0_2.length c0_2),(.slice A0_3 l0_3.length c0_3)] 26 (0,0)))∧Aside0 (Below w.heap.size w w'))
          case atStart=>exact ⟨(0),(by first|rfl|(simp; done)|(simp [*]; done)),H',⟨Nat.le_refl _⟩,⟨by (with_reducible repeat (first|refine blk_drewN ?_ _|refine blk_drew ?_|refine blk_alloc ?_ _)); exact BK160.out⟩,⟨by repeat (first|(with_reducible first|exact HB.out|apply below_alloc|apply pw_below_drewN|apply below_drew1|refine below_set ?_ GE160.out)|exact HB.out)⟩⟩
          case round =>
           clear H'
           try clear c1
           try clear p1
           try clear q1
           try clear hx1
           try clear c2
           try clear p2
           try clear c3
           try clear c4
           try clear c4b0
           try clear c4b1
           try clear c6
           try clear c6b0
           try clear c6b1
           try clear p6
           try clear c8
           try clear c8b0
           try clear c8b1
           try clear c10
           try clear c10b0
           try clear c10b1
           try clear c13
           try clear c14
           try clear c14b0
           try clear c15
           try clear c15b0
           try clear p16
           try clear q16
           try clear hx16
           try clear c17
           try clear c21
           try clear c23
           try clear c23b0
           try clear c24
           try clear c24b0
           try clear c26
           try clear hcz11_0
           try clear hcz11_1
           try clear hcz11_2
           try clear hcz11_3
           try clear hcz12_0
           try clear hcz12_1
           try clear hcz12_2
           try clear hcz12_3
           try clear hcz18_0
           try clear hcz18_1
           try clear hcz18_2
           try clear hcz18_3
           try clear hcz20_0
           try clear hcz20_1
           try clear hcz20_2
           try clear hcz20_3
           try clear hcz22_0
           try clear hcz22_1
           try clear hcz22_2
           try clear hcz22_3
           try clear hcz27_0
           try clear hcz27_1
           try clear hcz27_2
           try clear hcz27_3
           try clear hcz28_0
           try clear hcz28_1
           try clear hcz28_2
           try clear hcz28_3
           try clear hcz29_0
           try clear hcz29_1
           try clear hcz29_2
           try clear hcz29_3
           try clear hcz5_0
           try clear hcz5_1
           try clear hcz5_2
           try clear hcz5_3
           try clear hcz7_0
           try clear hcz7_1
           try clear hcz7_2
           try clear hcz7_3
           try clear hcz9_0
           try clear hcz9_1
           try clear hcz9_2
           try clear hcz9_3
           try clear hfz11_0
           try clear hfz11_1
           try clear hfz11_2
           try clear hfz11_3
           try clear hfz12_0
           try clear hfz12_1
           try clear hfz12_2
           try clear hfz12_3
           try clear hfz18_0
           try clear hfz18_1
           try clear hfz18_2
           try clear hfz18_3
           try clear hfz20_0
           try clear hfz20_1
           try clear hfz20_2
           try clear hfz20_3
           try clear hfz22_0
           try clear hfz22_1
           try clear hfz22_2
           try clear hfz22_3
           try clear hfz27_0
           try clear hfz27_1
           try clear hfz27_2
           try clear hfz27_3
           try clear hfz28_0
           try clear hfz28_1
           try clear hfz28_2
           try clear hfz28_3
           try clear hfz29_0
           try clear hfz29_1
           try clear hfz29_2
           try clear hfz29_3
           try clear hfz5_0
           try clear hfz5_1
           try clear hfz5_2
           try clear hfz5_3
           try clear hfz7_0
           try clear hfz7_1
           try clear hfz7_2
           try clear hfz7_3
           try clear hfz9_0
           try clear hfz9_1
           try clear hfz9_2
           try clear hfz9_3
           try clear hx161_0
           try clear hx163_0
           try clear p1
           try clear p16
           try clear p161
           try clear p163
           try clear p2
           try clear p6
           try clear q1
           try clear q16
           try clear q161
           try clear q163
           obtain ⟨x7_4,rfl,HA,HK4,BK160,HB⟩:=hrel
           cases gk with
           | zero=>exact absurd HA.out (by simp [isthmusref18_Right.l2])
           | succ k4 =>
            have H:=HA.out
            clear HA
            simp only [isthmusref18_Right.l2] at H
            by_cases c30:x7_4 < (l0_0.length:Int)
            ·rw [if_pos c30] at H
             have c30b0:decide (x7_4 < (l0_0.length:Int))=true:=decide_eq_true c30
             clear c30
             by_cases c31:0≤x7_4
             ·rw [if_pos c31] at H
              have c31b0:decide (0≤x7_4)=true:=decide_eq_true c31
              clear c31
              replace H:=Option.bind_eq_some_iff.mp H
              obtain ⟨t166,A320,H⟩:=H
              replace H:(if t166=true then (isthmusref18_Right.l2 k4 (wrap64 (x7_4+1)) l0_0 l0_1 l0_2 l0_3) else (some false))=some r:=H
              have A32:=Aside0.mk A320
              clear A320
              by_cases c33:t166=true
              ·subst c33
               have H1:(isthmusref18_Right.l2 k4 (wrap64 (x7_4+1)) l0_0 l0_1 l0_2 l0_3)=some r:=by rw [if_pos rfl] at H; exact H
               clear H
               have H:=H1
               clear H1
               have H':=Aside0.mk H
               clear H
               have hcz34_0:wr.cell? ⟨gb160,0,none⟩=some (.slice A0_0 l0_0.length c0_0):=(blk_cell BK160.out 0).trans rfl
               have hcz34_1:wr.cell? ⟨gb160,1,none⟩=some (.slice A0_1 l0_1.length c0_1):=(blk_cell BK160.out 1).trans rfl
               have hcz34_2:wr.cell? ⟨gb160,2,none⟩=some (.slice A0_2 l0_2.length c0_2):=(blk_cell BK160.out 2).trans rfl
               have hcz34_3:wr.cell? ⟨gb160,3,none⟩=some (.slice A0_3 l0_3.length c0_3):=(blk_cell BK160.out 3).trans rfl
               have hfz34_0:=blk_frozen BK160.out 0
               have hfz34_1:=blk_frozen BK160.out 1
               have hfz34_2:=blk_frozen BK160.out 2
               have hfz34_3:=blk_frozen BK160.out 3
               try go_wp2
               have n0_:=Aside0.mk (blk_drew BK160.out)
               have n1_:=Aside0.mk (below_drew1 HB.out)
               clear BK160
               clear HB
               have BK160:=n0_
               have HB:=n1_
               clear n0_ n1_
               have p165:0≤(x7_4:Int):=of_decide_eq_true (by first|(with_reducible assumption)|assumption)
               have q165:x7_4 < (l0_0.length:Int):=of_decide_eq_true (by first|(with_reducible assumption)|assumption)
               obtain ⟨ad165,e165,hx165_0⟩:=Kd.at_int HR0_0.out x7_4 p165 q165
               have hw165_0:=hx165_0
               cases e165
               replace hx165_0:=(HB.out.cell (World.block_lt_of_cell? w _ hx165_0)).trans hx165_0
               replace p165:=eq_true p165
               replace q165:=eq_true q165
               refine start_ (n:=8) (S:=fun w'=>w'.cell? ⟨gb160,0,none⟩=some (.slice (some ad165) l0_0.length c0_0)∧w'.cell? ⟨gb160,1,none⟩=some (.slice A0_1 l0_1.length c0_1)∧w'.cell? ⟨gb160,2,none⟩=some (.slice A0_2 l0_2.length c0_2)∧w'.cell? ⟨gb160,3,none⟩=some (.slice A0_3 l0_3.length c0_3)∧w'.cell? (ad165.add (x7_4).toNat)=some (.int .u64 (rd l0_0 x7_4))) (ds:=[]) #[false,false,false,false,false,false,false,false] (by kernel_rfl) rfl rfl ⟨(blk_cell BK160.out 0).trans rfl,(blk_cell BK160.out 1).trans rfl,(blk_cell BK160.out 2).trans rfl,(blk_cell BK160.out 3).trans rfl,((HB.out.cell (World.block_lt_of_cell? w _ hw165_0)).trans hw165_0)⟩ (fun hHeld=>?_); refine with_tabW isthmusref18_Right.tab18 isthmusref18_Right.bits18 (fun HT_ HW_=>?_)
               generalize wr.drew=w35 at BK160 HB hx165_0 hHeld ⊢
               refine pure_ (i:=1) (N:=some 75) (v:=?_) (a':=?_) (bl_ 8 2) rfl rfl (any_of HT_.out (by kernel_rfl)) (fun _ _ _ h=>h) (Or.inl ⟨by rfl,?_⟩) ?_ ?_
               rotate_left
               ·intro w'
                go_simp
                with_reducible rfl
               rotate_left
               ·simp only [Act.put,zA_,zB_,zC_,i64_w]
                rfl
               refine pure_ (i:=3) (N:=some 77) (v:=?_) (a':=?_) (bl_ 8 10) rfl rfl (any_of HT_.out (by kernel_rfl)) (fun _ _ _ h=>h) (Or.inl ⟨by rfl,?_⟩) ?_ ?_
               rotate_left
               ·intro w'
                go_simp
                with_reducible rfl
               rotate_left
               ·simp only [Act.put,zA_,zB_,zC_,i64_w]
                rfl
               refine take_ (i:=0) (N:=some 74) (v:=?_) (a':=?_) (bl_ 8 11) rfl rfl (take_ofW HT_.out HW_.out (by kernel_rfl)) (fun _ _ _ h=>h) (Or.inl ⟨by rfl,?_⟩) hHeld ?_ ?_
               rotate_left
               ·rintro w' ⟨s0,s1,s2,s3,s4⟩
                go_simp
                with_reducible rfl
               rotate_left
               ·simp only [Act.put,zA_,zB_,zC_,i64_w]
                rfl
               refine take_ (i:=2) (N:=some 76) (v:=?_) (a':=?_) (bl_ 8 15) rfl rfl (take_ofW HT_.out HW_.out (by kernel_rfl)) (fun _ _ _ h=>h) (Or.inl ⟨by rfl,?_⟩) hHeld ?_ ?_
               rotate_left
               ·rintro w' ⟨s0,s1,s2,s3,s4⟩
                go_simp
                with_reducible rfl
               rotate_left
               ·simp only [Act.put,zA_,zB_,zC_,i64_w]
                rfl
               refine pure_ (i:=4) (N:=some 78) (v:=?_) (a':=?_) (bl_ 8 31) rfl rfl (any_of HT_.out (by kernel_rfl)) (fun _ _ _ h=>h) (Or.inl ⟨by rfl,?_⟩) ?_ ?_
               rotate_left
               ·intro w'
                go_simp
                with_reducible rfl
               rotate_left
               ·simp only [Act.put,zA_,zB_,zC_,i64_w]
                rfl
               refine take_ (i:=5) (N:=some 79) (v:=?_) (a':=?_) (bl_ 8 63) rfl rfl (take_ofW HT_.out HW_.out (by kernel_rfl)) (fun _ _ _ h=>h) (Or.inl ⟨by rfl,?_⟩) hHeld ?_ ?_
               rotate_left
               ·rintro w' ⟨s0,s1,s2,s3,s4⟩
                go_simp
                with_reducible rfl
               rotate_left
               ·simp only [Act.put,zA_,zB_,zC_,i64_w]
                rfl
               refine one_ (i:=6) (N:=some 80) (bl_ 8 127) rfl rfl (one_of HT_.out (by kernel_rfl)) (by decide) (fun K hK=>?_)
               refine goes_ Tryd.func38 (by kernel_rfl) rfl #[.agg #[.slice (some ad165) l0_0.length c0_0,.slice A0_1 l0_1.length c0_1,.slice A0_2 l0_2.length c0_2,.slice A0_3 l0_3.length c0_3],.int .u64 (rd l0_0 x7_4)] (by rfl) rfl rfl (by (try simp only [List.map_toArray,List.map_cons,List.map_nil]); first|done|rfl|(simp only [List.length_drop,List.length_take]; rfl)) ?_
               with_reducible refine (isthmusref18_word.calls k4 _ _ l0_0 _ _ l0_1 _ _ l0_2 _ _ l0_3 (rd l0_0 x7_4) true _ ?side1 ?side2 ?side3 ?side4 ?side5 ?side6 ?side7 ?side8 A32.out).mono ?_
               (case side1=>repeat (first|exact (Kd.C_below HR0_0.out HB.out)|(with_reducible refine Kd.C_alloc ?_ _)|(with_reducible refine Kd.C_drewN ?_ _)|(with_reducible refine Kd.C_drew ?_)))
               (case side2=>exact HC0_0.out)
               (case side3=>repeat (first|exact (Kd.C_below HR0_1.out HB.out)|(with_reducible refine Kd.C_alloc ?_ _)|(with_reducible refine Kd.C_drewN ?_ _)|(with_reducible refine Kd.C_drew ?_)))
               (case side4=>exact HC0_1.out)
               (case side5=>repeat (first|exact (Kd.C_below HR0_2.out HB.out)|(with_reducible refine Kd.C_alloc ?_ _)|(with_reducible refine Kd.C_drewN ?_ _)|(with_reducible refine Kd.C_drew ?_)))
               (case side6=>exact HC0_2.out)
               (case side7=>repeat (first|exact (Kd.C_below HR0_3.out HB.out)|(with_reducible refine Kd.C_alloc ?_ _)|(with_reducible refine Kd.C_drewN ?_ _)|(with_reducible refine Kd.C_drew ?_)))
               (case side8=>exact HC0_3.out)
               rintro e w36 ⟨rfl,hb⟩
               refine ⟨_,rfl,?_⟩
               have n0_:=Aside0.mk (blk_below (g:=gb160) (o:=.cells #[.slice (some ad165) l0_0.length c0_0,.slice A0_1 l0_1.length c0_1,.slice A0_2 l0_2.length c0_2,.slice A0_3 l0_3.length c0_3] 26 (0,0)) (by (with_reducible repeat (first|refine blk_drewN ?_ _|refine blk_drew ?_|refine blk_alloc ?_ _)); exact BK160.out) hb)
               have n1_:=Aside0.mk (below_step (by repeat (first|(with_reducible first|exact HB.out|apply below_alloc|apply pw_below_drewN|apply below_drew1|refine below_set ?_ GE160.out)|exact HB.out)) hb)
               clear BK160
               clear HB
               have BK160:=n0_
               have HB:=n1_
               clear n0_ n1_
               (try clear hb)
               (try clear hb2)
               (try clear hk)
               (try clear hi)
               refine hK.out _ _ ⟨(blk_cell BK160.out 0).trans rfl,(blk_cell BK160.out 1).trans rfl,(blk_cell BK160.out 2).trans rfl,(blk_cell BK160.out 3).trans rfl,((HB.out.cell (World.block_lt_of_cell? w _ hw165_0)).trans hw165_0)⟩ (fun hHeld=>?_)
               clear hK K
               refine norm_ (a':=?_) ?_ ?_
               rotate_left
               ·show Act.put _ (some 80) _=_
                simp only [Act.put,zA_,zB_,zC_,i64_w]
                rfl
               refine pure_ (i:=7) (N:=some 8) (v:=?_) (a':=?_) (bl_ 8 255) rfl rfl (any_of HT_.out (by kernel_rfl)) (fun _ _ _ h=>h) (Or.inl ⟨by rfl,?_⟩) ?_ ?_
               rotate_left
               ·intro w'
                go_simp
                with_reducible rfl
               rotate_left
               ·simp only [Act.put,zA_,zB_,zC_,i64_w]
                rfl
               refine done_ (done_of HT_.out (by kernel_rfl)) ?_
               try go_wp2
               go_roundg k4
               case measure=>have:=HJ1.out; have:=HK2.out; have:=HK3.out; have:=HK4.out; omega
               case rel=>exact ⟨(wrap64 (x7_4+1)),(by first|rfl|(simp; done)|(simp [*]; done)),H',⟨by have:=HJ1.out; have:=HK2.out; have:=HK3.out; have:=HK4.out; omega⟩,⟨by (with_reducible repeat (first|refine blk_drewN ?_ _|refine blk_drew ?_|refine blk_alloc ?_ _)); exact BK160.out⟩,⟨by repeat (first|(with_reducible first|exact HB.out|apply below_alloc|apply pw_below_drewN|apply below_drew1|refine below_set ?_ GE160.out)|exact HB.out)⟩⟩
              ·replace c33:=Bool.eq_false_iff.mpr c33
               subst c33
               have H1:(some false)=some r:=by rw [if_neg (show ¬ (false=true) by decide)] at H; exact H
               clear H
               have H:=H1
               clear H1
               obtain rfl:=Option.some.inj H
               have hcz37_0:wr.cell? ⟨gb160,0,none⟩=some (.slice A0_0 l0_0.length c0_0):=(blk_cell BK160.out 0).trans rfl
               have hcz37_1:wr.cell? ⟨gb160,1,none⟩=some (.slice A0_1 l0_1.length c0_1):=(blk_cell BK160.out 1).trans rfl
               have hcz37_2:wr.cell? ⟨gb160,2,none⟩=some (.slice A0_2 l0_2.length c0_2):=(blk_cell BK160.out 2).trans rfl
               have hcz37_3:wr.cell? ⟨gb160,3,none⟩=some (.slice A0_3 l0_3.length c0_3):=(blk_cell BK160.out 3).trans rfl
               have hfz37_0:=blk_frozen BK160.out 0
               have hfz37_1:=blk_frozen BK160.out 1
               have hfz37_2:=blk_frozen BK160.out 2
               have hfz37_3:=blk_frozen BK160.out 3
               try go_wp2
               have n0_:=Aside0.mk (blk_drew BK160.out)
               have n1_:=Aside0.mk (below_drew1 HB.out)
               clear BK160
               clear HB
               have BK160:=n0_
               have HB:=n1_
               clear n0_ n1_
               have p165:0≤(x7_4:Int):=of_decide_eq_true (by first|(with_reducible assumption)|assumption)
               have q165:x7_4 < (l0_0.length:Int):=of_decide_eq_true (by first|(with_reducible assumption)|assumption)
               obtain ⟨ad165,e165,hx165_0⟩:=Kd.at_int HR0_0.out x7_4 p165 q165
               have hw165_0:=hx165_0
               cases e165
               replace hx165_0:=(HB.out.cell (World.block_lt_of_cell? w _ hx165_0)).trans hx165_0
               replace p165:=eq_true p165
               replace q165:=eq_true q165
               refine start_ (n:=8) (S:=fun w'=>w'.cell? ⟨gb160,0,none⟩=some (.slice (some ad165) l0_0.length c0_0)∧w'.cell? ⟨gb160,1,none⟩=some (.slice A0_1 l0_1.length c0_1)∧w'.cell? ⟨gb160,2,none⟩=some (.slice A0_2 l0_2.length c0_2)∧w'.cell? ⟨gb160,3,none⟩=some (.slice A0_3 l0_3.length c0_3)∧w'.cell? (ad165.add (x7_4).toNat)=some (.int .u64 (rd l0_0 x7_4))) (ds:=[]) #[false,false,false,false,false,false,false,false] (by kernel_rfl) rfl rfl ⟨(blk_cell BK160.out 0).trans rfl,(blk_cell BK160.out 1).trans rfl,(blk_cell BK160.out 2).trans rfl,(blk_cell BK160.out 3).trans rfl,((HB.out.cell (World.block_lt_of_cell? w _ hw165_0)).trans hw165_0)⟩ (fun hHeld=>?_); refine with_tabW isthmusref18_Right.tab18 isthmusref18_Right.bits18 (fun HT_ HW_=>?_)
               generalize wr.drew=w38 at BK160 HB hx165_0 hHeld ⊢
               refine pure_ (i:=1) (N:=some 75) (v:=?_) (a':=?_) (bl_ 8 2) rfl rfl (any_of HT_.out (by kernel_rfl)) (fun _ _ _ h=>h) (Or.inl ⟨by rfl,?_⟩) ?_ ?_
               rotate_left
               ·intro w'
                go_simp
                with_reducible rfl
               rotate_left
               ·simp only [Act.put,zA_,zB_,zC_,i64_w]
                rfl
               refine pure_ (i:=3) (N:=some 77) (v:=?_) (a':=?_) (bl_ 8 10) rfl rfl (any_of HT_.out (by kernel_rfl)) (fun _ _ _ h=>h) (Or.inl ⟨by rfl,?_⟩) ?_ ?_
               rotate_left
               ·intro w'
                go_simp
                with_reducible rfl
               rotate_left
               ·simp only [Act.put,zA_,zB_,zC_,i64_w]
                rfl
               refine take_ (i:=0) (N:=some 74) (v:=?_) (a':=?_) (bl_ 8 11) rfl rfl (take_ofW HT_.out HW_.out (by kernel_rfl)) (fun _ _ _ h=>h) (Or.inl ⟨by rfl,?_⟩) hHeld ?_ ?_
               rotate_left
               ·rintro w' ⟨s0,s1,s2,s3,s4⟩
                go_simp
                with_reducible rfl
               rotate_left
               ·simp only [Act.put,zA_,zB_,zC_,i64_w]
                rfl
               refine take_ (i:=2) (N:=some 76) (v:=?_) (a':=?_) (bl_ 8 15) rfl rfl (take_ofW HT_.out HW_.out (by kernel_rfl)) (fun _ _ _ h=>h) (Or.inl ⟨by rfl,?_⟩) hHeld ?_ ?_
               rotate_left
               ·rintro w' ⟨s0,s1,s2,s3,s4⟩
                go_simp
                with_reducible rfl
               rotate_left
               ·simp only [Act.put,zA_,zB_,zC_,i64_w]
                rfl
               refine pure_ (i:=4) (N:=some 78) (v:=?_) (a':=?_) (bl_ 8 31) rfl rfl (any_of HT_.out (by kernel_rfl)) (fun _ _ _ h=>h) (Or.inl ⟨by rfl,?_⟩) ?_ ?_
               rotate_left
               ·intro w'
                go_simp
                with_reducible rfl
               rotate_left
               ·simp only [Act.put,zA_,zB_,zC_,i64_w]
                rfl
               refine take_ (i:=5) (N:=some 79) (v:=?_) (a':=?_) (bl_ 8 63) rfl rfl (take_ofW HT_.out HW_.out (by kernel_rfl)) (fun _ _ _ h=>h) (Or.inl ⟨by rfl,?_⟩) hHeld ?_ ?_
               rotate_left
               ·rintro w' ⟨s0,s1,s2,s3,s4⟩
                go_simp
                with_reducible rfl
               rotate_left
               ·simp only [Act.put,zA_,zB_,zC_,i64_w]
                rfl
               refine one_ (i:=6) (N:=some 80) (bl_ 8 127) rfl rfl (one_of HT_.out (by kernel_rfl)) (by decide) (fun K hK=>?_)
               refine goes_ Tryd.func38 (by kernel_rfl) rfl #[.agg #[.slice (some ad165) l0_0.length c0_0,.slice A0_1 l0_1.length c0_1,.slice A0_2 l0_2.length c0_2,.slice A0_3 l0_3.length c0_3],.int .u64 (rd l0_0 x7_4)] (by rfl) rfl rfl (by (try simp only [List.map_toArray,List.map_cons,List.map_nil]); first|done|rfl|(simp only [List.length_drop,List.length_take]; rfl)) ?_
               with_reducible refine (isthmusref18_word.calls k4 _ _ l0_0 _ _ l0_1 _ _ l0_2 _ _ l0_3 (rd l0_0 x7_4) false _ ?side1 ?side2 ?side3 ?side4 ?side5 ?side6 ?side7 ?side8 A32.out).mono ?_
               (case side1=>repeat (first|exact (Kd.C_below HR0_0.out HB.out)|(with_reducible refine Kd.C_alloc ?_ _)|(with_reducible refine Kd.C_drewN ?_ _)|(with_reducible refine Kd.C_drew ?_)))
               (case side2=>exact HC0_0.out)
               (case side3=>repeat (first|exact (Kd.C_below HR0_1.out HB.out)|(with_reducible refine Kd.C_alloc ?_ _)|(with_reducible refine Kd.C_drewN ?_ _)|(with_reducible refine Kd.C_drew ?_)))
               (case side4=>exact HC0_1.out)
               (case side5=>repeat (first|exact (Kd.C_below HR0_2.out HB.out)|(with_reducible refine Kd.C_alloc ?_ _)|(with_reducible refine Kd.C_drewN ?_ _)|(with_reducible refine Kd.C_drew ?_)))
               (case side6=>exact HC0_2.out)
               (case side7=>repeat (first|exact (Kd.C_below HR0_3.out HB.out)|(with_reducible refine Kd.C_alloc ?_ _)|(with_reducible refine Kd.C_drewN ?_ _)|(with_reducible refine Kd.C_drew ?_)))
               (case side8=>exact HC0_3.out)
               rintro e w39 ⟨rfl,hb⟩
               refine ⟨_,rfl,?_⟩
               have n0_:=Aside0.mk (blk_below (g:=gb160) (o:=.cells #[.slice (some ad165) l0_0.length c0_0,.slice A0_1 l0_1.length c0_1,.slice A0_2 l0_2.length c0_2,.slice A0_3 l0_3.length c0_3] 26 (0,0)) (by (with_reducible repeat (first|refine blk_drewN ?_ _|refine blk_drew ?_|refine blk_alloc ?_ _)); exact BK160.out) hb)
               have n1_:=Aside0.mk (below_step (by repeat (first|(with_reducible first|exact HB.out|apply below_alloc|apply pw_below_drewN|apply below_drew1|refine below_set ?_ GE160.out)|exact HB.out)) hb)
               clear BK160
               clear HB
               have BK160:=n0_
               have HB:=n1_
               clear n0_ n1_
               (try clear hb)
               (try clear hb2)
               (try clear hk)
               (try clear hi)
               refine hK.out _ _ ⟨(blk_cell BK160.out 0).trans rfl,(blk_cell BK160.out 1).trans rfl,(blk_cell BK160.out 2).trans rfl,(blk_cell BK160.out 3).trans rfl,((HB.out.cell (World.block_lt_of_cell? w _ hw165_0)).trans hw165_0)⟩ (fun hHeld=>?_)
               clear hK K
               refine norm_ (a':=?_) ?_ ?_
               rotate_left
               ·show Act.put _ (some 80) _=_
                simp only [Act.put,zA_,zB_,zC_,i64_w]
                rfl
               refine pure_ (i:=7) (N:=some 8) (v:=?_) (a':=?_) (bl_ 8 255) rfl rfl (any_of HT_.out (by kernel_rfl)) (fun _ _ _ h=>h) (Or.inl ⟨by rfl,?_⟩) ?_ ?_
               rotate_left
               ·intro w'
                go_simp
                with_reducible rfl
               rotate_left
               ·simp only [Act.put,zA_,zB_,zC_,i64_w]
                rfl
               refine done_ (done_of HT_.out (by kernel_rfl)) ?_
               try go_wp2
               go_ret
               exact ⟨by first|rfl|(simp [errW_none,errW_some]<;>rfl)|(simp [*,errW_none,errW_some]<;>rfl),by repeat (first|(with_reducible first|exact HB.out|apply below_alloc|apply pw_below_drewN|apply below_drew1|refine below_set ?_ GE160.out)|exact HB.out)⟩
             ·rw [if_neg c31] at H
              exact absurd H (by simp)
            ·rw [if_neg c30] at H
             have c30b0:decide (x7_4 < (l0_0.length:Int))=false:=decide_eq_false c30
             clear c30
             obtain rfl:=Option.some.inj H
             have hcz40_0:wr.cell? ⟨gb160,0,none⟩=some (.slice A0_0 l0_0.length c0_0):=(blk_cell BK160.out 0).trans rfl
             have hcz40_1:wr.cell? ⟨gb160,1,none⟩=some (.slice A0_1 l0_1.length c0_1):=(blk_cell BK160.out 1).trans rfl
             have hcz40_2:wr.cell? ⟨gb160,2,none⟩=some (.slice A0_2 l0_2.length c0_2):=(blk_cell BK160.out 2).trans rfl
             have hcz40_3:wr.cell? ⟨gb160,3,none⟩=some (.slice A0_3 l0_3.length c0_3):=(blk_cell BK160.out 3).trans rfl
             have hfz40_0:=blk_frozen BK160.out 0
             have hfz40_1:=blk_frozen BK160.out 1
             have hfz40_2:=blk_frozen BK160.out 2
             have hfz40_3:=blk_frozen BK160.out 3
             go_wp2
             go_ret
             exact ⟨by first|rfl|(simp [errW_none,errW_some]<;>rfl)|(simp [*,errW_none,errW_some]<;>rfl),by repeat (first|(with_reducible first|exact HB.out|apply below_alloc|apply pw_below_drewN|apply below_drew1|refine below_set ?_ GE160.out)|exact HB.out)⟩
end Go.Proofs.YtcmdjpolgaejoaaDoor.C
