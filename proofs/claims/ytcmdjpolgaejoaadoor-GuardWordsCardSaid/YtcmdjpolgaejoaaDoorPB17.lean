/- The laws GuardLooks, GuardWords of the program hold, as their cards say: texts put together by a program, 18 of 38. -/
import Derived.Test.YtcmdjpolgaejoaaDoorPB13
import Derived.Test.YtcmdjpolgaejoaaDoorPB15
import Derived.Test.YtcmdjpolgaejoaaDoorPB16
namespace Go.Proofs.YtcmdjpolgaejoaaDoor.C
open Go.RowKit Go.Proofs.YtcmdjpolgaejoaaDoorW.PrintWords Go.Proofs.YtcmdjpolgaejoaaDoorW.PrintLast Go.Proofs.YtcmdjpolgaejoaaDoorW.PrintMore
attribute [local go_sem] max2_int min2_int max_two min_two max_three min_three max_four min_four
set_option linter.unusedVariables false
set_option linter.unusedSimpArgs false
def nmB (i:Nat) (c:Int):Prop:=clsv c=3∨(i≠0∧(clsv c=2∨clsv c=5))
instance (i:Nat) (c:Int):Decidable (nmB i c):=inferInstanceAs (Decidable (_∨_))
def nmAll (s:ByteArray):Bool:=decide (∀ i,i < s.size→nmB i (bt s i))
theorem nmB_of_3 {c:Int} {p:Nat} (h:clsv c=3):nmB p c:=.inl h
theorem nmB_of_2 {c:Int} {p:Nat} (hp:p≠0) (h:clsv c=2):nmB p c:=.inr ⟨hp,.inl h⟩
theorem nmB_of_5 {c:Int} {p:Nat} (hp:p≠0) (h:clsv c=5):nmB p c:=.inr ⟨hp,.inr h⟩
def lex_IsName.f (k:Nat) (a0:ByteArray):Option (Bool):=if nmAll a0=true then (if (a0.size:Int) ≥ 1 then (if (a0.size:Int)≤12 then ((lex_isWord.f k a0).bind fun t=>(some (!t))) else (some false)) else (some false)) else (some false)
theorem lex_IsName_yes (s:ByteArray) (p n:Nat) (w:World) (hp:p < s.size) (h:nmB p (bt s p)) (ha:∀ i,i < p→nmB i (bt s i)):(p+(Utf8.decode s p).2=p+1)∧(∀ i,i < p+1→nmB i (bt s i)):=by
 have hr:=rune_cls s p hp
 have hlt:bt s p < 128:=by
  by_cases h1:bt s p < 128
  ·exact h1
  ·have:=clsv_high (c:=bt s p) (by omega)
   unfold nmB at h
   omega
 rw [hr.2 hlt]
 refine ⟨rfl,fun i hi=>?_⟩
 by_cases e:i=p
 ·subst e; exact h
 ·exact ha i (by omega)
theorem lex_IsName_no (s:ByteArray) (p:Nat) (hp:p < s.size) (h:¬ nmB p (bt s p)):nmAll s=false:=by
 unfold nmAll
 rw [decide_eq_false_iff_not]
 exact fun hh=>h (hh p hp)
set_option maxHeartbeats 8000000 in
set_option maxRecDepth 100000 in
theorem lex_IsName.calls (k:Nat) (a0:ByteArray) (r:Bool) (w:World) (h:lex_IsName.f k a0=some r) :
  Calls Tryd.prog 45 #[.string a0] w fun e w'=>e=.returned (.bool r)∧Below w.heap.size w w':=by
 have HX:=Aside0.mk h
 clear h
 go_enter Tryd.func45,Tryd.ntmps45
 go_wp2
 go_loopw [] (fun w'=>∃ (n p:Nat),w'=(w.iter a0 p).drewN n∧p≤a0.size∧Aside0 (∀ i,i < p→nmB i (bt a0 i))) (fun w'=>a0.size - w'.iterPos w.heap.size)
 case atStart=>exact ⟨0,0,rfl,Nat.zero_le _,⟨fun i hi=>by omega⟩⟩
 case round =>
  obtain ⟨n,p,rfl,hp,HA⟩:=hrel
  by_cases hlt:p < a0.size
  ·have hnx:∀ ty,(Instr.next (.pointer (some ⟨w.heap.size,0,none⟩)) true ty).run Tryd.prog ((w.iter a0 p).drewN n)=_:=fun ty=>iter_drew_next w n a0 p ty hlt
   have HR:=Aside0.mk (rune_cls a0 p hlt)
   obtain ⟨rv,hrv⟩:∃ rv:Int,rv=(((Utf8.decode a0 p).1:Nat):Int):=⟨_,rfl⟩
   obtain ⟨wd,hwd⟩:∃ wd:Nat,wd=(Utf8.decode a0 p).2:=⟨_,rfl⟩
   rw [← hrv] at HR hnx
   rw [← hwd] at hnx
   have hrv0:0≤rv:=by omega
   have HV:=Aside0.mk hrv
   have HW:=Aside0.mk hwd
   clear hrv hwd
   have hcl:=class_val hrv0 0
   obtain ⟨cv,hcv⟩:∃ cv:Int,cv=clsv rv:=⟨_,rfl⟩
   rw [← hcv] at hcl
   have HC:=Aside0.mk hcv
   have HL:=Aside0.mk hcl
   clear hcv hcl
   have hkey:clsv (bt a0 p)=cv:=HR.out.1.symm.trans HC.out.symm
   have HKEY:=Aside0.mk hkey
   clear hkey
   by_cases c3:cv=3
   ·have c3a:(cv == 3)=true:=beq_iff_eq.mpr c3
    have c3b:(cv != 3)=false:=bne_eq_false_iff_eq.mpr c3
    have HE:=Aside0.mk c3
    clear c3
    go_wp2_with (go_at_call 80; (with_reducible refine (lex_class.calls 4 rv cv _ HL.out).mono ?_); rintro e w' ⟨rfl,⟨m,rfl⟩⟩)
    go_roundw
    case rel =>
     obtain ⟨e1,e2⟩:=lex_IsName_yes a0 p n w hlt (nmB_of_3 (HKEY.out.trans HE.out)) HA.out
     rw [← HW.out] at e1
     exact ⟨n+m,p+wd,(by first|rfl|exact World.drewN_drewN _ _ _),(by omega),⟨by rw [e1]; exact e2⟩⟩
    case measure =>
     obtain ⟨e1,_⟩:=lex_IsName_yes a0 p n w hlt (nmB_of_3 (HKEY.out.trans HE.out)) HA.out
     rw [← HW.out] at e1
     first|(rw [World.drewN_drewN,iter_pos,iter_pos]; omega)|(rw [iter_pos,iter_pos]; omega)|(simp [iter_pos]; omega)
   ·have c3a:(cv == 3)=false:=beq_eq_false_iff_ne.mpr c3
    have c3b:(cv != 3)=true:=bne_iff_ne.mpr c3
    have HE3:=Aside0.mk c3
    clear c3
    by_cases p0:p=0
    ·subst p0
     have HN:=Aside0.mk (lex_IsName_no a0 _ hlt (by intro hh; rcases hh with h|h; exact HE3.out (HKEY.out.symm.trans h); exact h.1 rfl))
     have hr:r=false:=by
      have hx:=HX.out
      unfold lex_IsName.f at hx
      rw [HN.out,if_neg (by simp)] at hx
      exact (Option.some.inj hx).symm
     subst hr
     go_wp2_with (go_at_call 80; (with_reducible refine (lex_class.calls 4 rv cv _ HL.out).mono ?_); rintro e w' ⟨rfl,⟨m,rfl⟩⟩)
     go_ret
     exact ⟨rfl,by first|exact iter_below _ _ _ _|(rw [World.drewN_drewN]; exact iter_below _ _ _ _)|exact pw_below_drewN (iter_below _ _ _ _) _⟩
    ·have p0i:¬ ((p:Int)=0):=by omega
     have p0ia:((p:Int) == 0)=false:=beq_eq_false_iff_ne.mpr p0i
     have p0ib:((p:Int) != 0)=true:=bne_iff_ne.mpr p0i
     have HP:=Aside0.mk p0
     clear p0 p0i
     by_cases c2:cv=2
     ·have c2a:(cv == 2)=true:=beq_iff_eq.mpr c2
      have c2b:(cv != 2)=false:=bne_eq_false_iff_eq.mpr c2
      have HE:=Aside0.mk c2
      clear c2
      go_wp2_with (go_at_call 80; (with_reducible refine (lex_class.calls 4 rv cv _ HL.out).mono ?_); rintro e w' ⟨rfl,⟨m,rfl⟩⟩)
      go_roundw
      case rel =>
       obtain ⟨e1,e2⟩:=lex_IsName_yes a0 p n w hlt (nmB_of_2 HP.out (HKEY.out.trans HE.out)) HA.out
       rw [← HW.out] at e1
       exact ⟨n+m,p+wd,(by first|rfl|exact World.drewN_drewN _ _ _),(by omega),⟨by rw [e1]; exact e2⟩⟩
      case measure =>
       obtain ⟨e1,_⟩:=lex_IsName_yes a0 p n w hlt (nmB_of_2 HP.out (HKEY.out.trans HE.out)) HA.out
       rw [← HW.out] at e1
       first|(rw [World.drewN_drewN,iter_pos,iter_pos]; omega)|(rw [iter_pos,iter_pos]; omega)|(simp [iter_pos]; omega)
     ·have c2a:(cv == 2)=false:=beq_eq_false_iff_ne.mpr c2
      have c2b:(cv != 2)=true:=bne_iff_ne.mpr c2
      have HE2:=Aside0.mk c2
      clear c2
      by_cases c5:cv=5
      ·have c5a:(cv == 5)=true:=beq_iff_eq.mpr c5
       have c5b:(cv != 5)=false:=bne_eq_false_iff_eq.mpr c5
       have HE:=Aside0.mk c5
       clear c5
       go_wp2_with (go_at_call 80; (with_reducible refine (lex_class.calls 4 rv cv _ HL.out).mono ?_); rintro e w' ⟨rfl,⟨m,rfl⟩⟩)
       go_roundw
       case rel =>
        obtain ⟨e1,e2⟩:=lex_IsName_yes a0 p n w hlt (nmB_of_5 HP.out (HKEY.out.trans HE.out)) HA.out
        rw [← HW.out] at e1
        exact ⟨n+m,p+wd,(by first|rfl|exact World.drewN_drewN _ _ _),(by omega),⟨by rw [e1]; exact e2⟩⟩
       case measure =>
        obtain ⟨e1,_⟩:=lex_IsName_yes a0 p n w hlt (nmB_of_5 HP.out (HKEY.out.trans HE.out)) HA.out
        rw [← HW.out] at e1
        first|(rw [World.drewN_drewN,iter_pos,iter_pos]; omega)|(rw [iter_pos,iter_pos]; omega)|(simp [iter_pos]; omega)
      ·have c5a:(cv == 5)=false:=beq_eq_false_iff_ne.mpr c5
       have c5b:(cv != 5)=true:=bne_iff_ne.mpr c5
       have HE5:=Aside0.mk c5
       clear c5
       have HN:=Aside0.mk (lex_IsName_no a0 _ hlt (by intro hh; rcases hh with h|⟨_,h|h⟩; exact HE3.out (HKEY.out.symm.trans h); exact HE2.out (HKEY.out.symm.trans h); exact HE5.out (HKEY.out.symm.trans h)))
       have hr:r=false:=by
        have hx:=HX.out
        unfold lex_IsName.f at hx
        rw [HN.out,if_neg (by simp)] at hx
        exact (Option.some.inj hx).symm
       subst hr
       go_wp2_with (go_at_call 80; (with_reducible refine (lex_class.calls 4 rv cv _ HL.out).mono ?_); rintro e w' ⟨rfl,⟨m,rfl⟩⟩)
       go_ret
       exact ⟨rfl,by first|exact iter_below _ _ _ _|(rw [World.drewN_drewN]; exact iter_below _ _ _ _)|exact pw_below_drewN (iter_below _ _ _ _) _⟩
  ·have hnx:∀ ty,(Instr.next (.pointer (some ⟨w.heap.size,0,none⟩)) true ty).run Tryd.prog ((w.iter a0 p).drewN n)=_:=fun ty=>iter_drew_end w n a0 p ty hlt
   have HT:Aside0 (nmAll a0=true):=⟨by unfold nmAll; rw [decide_eq_true_iff]; exact fun i hi=>HA.out i (by omega)⟩
   have hx:=HX.out
   unfold lex_IsName.f at hx
   rw [if_pos HT.out] at hx
   by_cases s1:(a0.size:Int) ≥ 1
   ·rw [if_pos s1] at hx
    have s1b:decide ((1:Int)≤(a0.size:Int))=true:=decide_eq_true s1
    have s1c:decide (1≤a0.size)=true:=decide_eq_true (by omega)
    clear s1
    by_cases s2:(a0.size:Int)≤12
    ·rw [if_pos s2] at hx
     have s2b:decide ((a0.size:Int)≤12)=true:=decide_eq_true s2
     have s2c:decide (a0.size≤12)=true:=decide_eq_true (by omega)
     clear s2
     obtain ⟨t,ht,hx⟩:=Option.bind_eq_some_iff.mp hx
     obtain rfl:=Option.some.inj hx
     clear hx
     have HT2:=Aside0.mk ht
     clear ht
     go_wp2_with (go_at_call 81; (with_reducible refine (lex_isWord.calls k a0 t _ HT2.out).mono ?_); rintro e w1 ⟨rfl,hb1⟩; have HB1:=Aside0.mk hb1; clear hb1)
     go_ret
     exact ⟨rfl,below_then (iter_below _ _ _ _) (iter_below _ _ _ _).size HB1.out⟩
    ·rw [if_neg s2] at hx
     have s2b:decide ((a0.size:Int)≤12)=false:=decide_eq_false s2
     have s2c:decide (a0.size≤12)=false:=decide_eq_false (by omega)
     clear s2
     obtain rfl:=Option.some.inj hx
     go_wp2
     go_ret
     exact ⟨rfl,iter_below _ _ _ _⟩
   ·rw [if_neg s1] at hx
    have s1b:decide ((1:Int)≤(a0.size:Int))=false:=decide_eq_false s1
    have s1c:decide (1≤a0.size)=false:=decide_eq_false (by omega)
    clear s1
    obtain rfl:=Option.some.inj hx
    go_wp2
    go_ret
    exact ⟨rfl,iter_below _ _ _ _⟩
def code_kind.f (a0:Int):Option (Bool):=if a0 ≥ 1 then (some (decide (a0≤3))) else (some false)
set_option maxHeartbeats 8000000 in
set_option maxRecDepth 100000 in
theorem code_kind.calls (a0:Int) (r:Bool) (w:World) (h:code_kind.f a0=some r) :
  Calls Tryd.prog 48 #[.int .i64 a0] w fun e w'=>e=.returned (.bool r)∧Drawn0 w w':=by
 have H:(if a0 ≥ 1 then (some (decide (a0≤3))) else (some false))=some r:=h
 clear h
 by_cases c2:a0 ≥ 1
 ·rw [if_pos c2] at H
  have c2b0:decide (1≤a0)=true:=decide_eq_true c2
  clear c2
  obtain rfl:=Option.some.inj H
  go_enter Tryd.func48,Tryd.ntmps48
  go_wp2
  go_ret
  exact ⟨by first|rfl|(simp; done)|(simp [*]; done),by repeat (first|exact Drawn0.refl _|apply Drawn0.step)⟩
 ·rw [if_neg c2] at H
  have c2b0:decide (1≤a0)=false:=decide_eq_false c2
  clear c2
  obtain rfl:=Option.some.inj H
  go_enter Tryd.func48,Tryd.ntmps48
  go_wp2
  go_ret
  exact ⟨by first|rfl|(simp; done)|(simp [*]; done),by repeat (first|exact Drawn0.refl _|apply Drawn0.step)⟩
def pack_part.f (a0:Int) (a1_0:Int) (a1_1:Int):Option (Int):=if 0≤a1_0 then (if 0≤a1_1 then (some (wrap64 (Go.bits .and .u64 (shr .u64 a0 a1_0) (IntKind.u64.wrap ((shl .u64 1 a1_1) - 1))))) else (none)) else (none)
set_option maxHeartbeats 8000000 in
set_option maxRecDepth 100000 in
theorem pack_part.calls (a0:Int) (a1_0:Int) (a1_1:Int) (r:Int) (w:World) (h:pack_part.f a0 a1_0 a1_1=some r) :
  Calls Tryd.prog 85 #[.int .u64 a0,.agg #[.int .u64 a1_0,.int .u64 a1_1]] w fun e w'=>e=.returned (.int .i64 r)∧Below w.heap.size w w':=by
 have hu128:=Tryd.underlying128
 have HB:=Aside0.mk (Below.refl w.heap.size w)
 have H:(if 0≤a1_0 then (if 0≤a1_1 then (some (wrap64 (Go.bits .and .u64 (shr .u64 a0 a1_0) (IntKind.u64.wrap ((shl .u64 1 a1_1) - 1))))) else (none)) else (none))=some r:=h
 clear h
 by_cases c3:0≤a1_0
 ·rw [if_pos c3] at H
  have c3b0:=eq_true c3
  have c3b1:decide (0≤a1_0)=true:=decide_eq_true c3
  clear c3
  obtain ⟨ji4,hji4⟩:∃ j_:Int,(shr .u64 a0 a1_0)=j_:=⟨_,rfl⟩
  replace H:(if 0≤a1_1 then (some (wrap64 (Go.bits .and .u64 (ji4) (IntKind.u64.wrap ((shl .u64 1 a1_1) - 1))))) else (none))=some r:=by first|(rw [hji4] at H; exact H)|(simp only [hji4] at H ⊢; exact H)
  have hji4_:(a0 / 2 ^ min a1_0.toNat 64)=ji4:=hji4
  have hji4z:a1_0≤64→(a0 / 2 ^ a1_0.toNat)=ji4:=shr_small hji4
  by_cases c5:0≤a1_1
  ·rw [if_pos c5] at H
   have c5b0:=eq_true c5
   have c5b1:decide (0≤a1_1)=true:=decide_eq_true c5
   clear c5
   obtain ⟨ji6,hji6⟩:∃ j_:Int,(shl .u64 1 a1_1)=j_:=⟨_,rfl⟩
   replace H:(some (wrap64 (Go.bits .and .u64 (ji4) (IntKind.u64.wrap ((ji6) - 1)))))=some r:=by first|(rw [hji6] at H; exact H)|(simp only [hji6] at H ⊢; exact H)
   have hji6_:(IntKind.u64.wrap (1*2 ^ min a1_1.toNat 64))=ji6:=hji6
   have hji6z:a1_1≤64→(IntKind.u64.wrap (1*2 ^ a1_1.toNat))=ji6:=shl_small hji6
   have hji6u:(IntKind.u64.wrap (2 ^ min a1_1.toNat 64))=ji6:=by have h_:=hji6_; rw [Int.one_mul] at h_; exact h_
   have hji6v:a1_1≤64→(IntKind.u64.wrap (2 ^ a1_1.toNat))=ji6:=fun hle_=>by have h_:=hji6z hle_; rw [Int.one_mul] at h_; exact h_
   obtain rfl:=Option.some.inj H
   go_enter Tryd.func85,Tryd.ntmps85
   go_wp2_with (first|((with_reducible refine gate_dst (N:=3) rfl ?_); refine box_event ?hg (N:=3) ?hd (cs:=#[.int .u64 a1_0,.int .u64 a1_1]) (t:=128) ?hr ?_; (case hd=>rfl); (case hg=>rfl); (case hr=>first|(go_simp; done)|(go_simp; rfl)); intro gb115 hg w7 hbox hb; have n0_:=Aside0.mk (below_step (by repeat (first|(with_reducible first|exact HB.out|apply below_alloc|apply pw_below_drewN|apply below_drew1)|exact HB.out)) hb); have n1_:=Aside0.mk (hbox); have n2_:=Aside0.mk ((by rw [hg]; exact (below_size (by repeat (first|(with_reducible first|exact HB.out|apply below_alloc|apply pw_below_drewN|apply below_drew1)|exact HB.out))):w.heap.size≤gb115)); have n3_:=Aside0.mk ((by rw [hg]; exact (below_size (by repeat (first|(with_reducible first|exact HB.out|apply below_alloc|apply pw_below_drewN|apply below_drew1)|exact HB.out))):w.heap.size≤gb115)); clear HB; have HB:=n0_; have BK115:=n1_; have GW115:=n2_; have GE115:=n3_; clear n0_ n1_ n2_ n3_; clear hb hbox hg; have hcz8_0:w7.cell? ⟨gb115,0,none⟩=some (.int .u64 a1_0):=(blk_cell BK115.out 0).trans rfl; have hcz8_1:w7.cell? ⟨gb115,1,none⟩=some (.int .u64 a1_1):=(blk_cell BK115.out 1).trans rfl; have hfz8_0:=blk_frozen BK115.out 0; have hfz8_1:=blk_frozen BK115.out 1))
   go_ret
   exact ⟨by first|rfl|(simp [errW_none,errW_some]<;>rfl)|(simp only [← hji4,← hji6]; first|rfl|(simp [errW_none,errW_some]<;>rfl))|(simp [*,errW_none,errW_some]<;>rfl),by repeat (first|(with_reducible first|exact HB.out|apply below_alloc|apply pw_below_drewN|apply below_drew1|refine below_set ?_ GE115.out)|exact HB.out)⟩
  ·rw [if_neg c5] at H
   exact absurd H (by simp)
 ·rw [if_neg c3] at H
  exact absurd H (by simp)
theorem keepG {w W W':World} (h:((W.cell? ⟨0,0,none⟩=some (.int .u64 56)∧W.cell? ⟨0,1,none⟩=some (.int .u64 8)∧W.cell? ⟨0,2,none⟩=some (.int .u64 28)∧W.cell? ⟨0,3,none⟩=some (.int .u64 28)∧W.cell? ⟨0,4,none⟩=some (.int .u64 0)∧W.cell? ⟨0,5,none⟩=some (.int .u64 28))∧Below w.heap.size w W)) (b:Below W.heap.size W W'):((W'.cell? ⟨0,0,none⟩=some (.int .u64 56)∧W'.cell? ⟨0,1,none⟩=some (.int .u64 8)∧W'.cell? ⟨0,2,none⟩=some (.int .u64 28)∧W'.cell? ⟨0,3,none⟩=some (.int .u64 28)∧W'.cell? ⟨0,4,none⟩=some (.int .u64 0)∧W'.cell? ⟨0,5,none⟩=some (.int .u64 28))∧Below w.heap.size w W'):=by
 obtain ⟨⟨h0,h1,h2,h3,h4,h5⟩,h6⟩:=h
 exact ⟨⟨pw_cell_below b h0,pw_cell_below b h1,pw_cell_below b h2,pw_cell_below b h3,pw_cell_below b h4,pw_cell_below b h5⟩,below_then h6 h6.size b⟩
theorem keepG_drew {w W:World} (h:((W.cell? ⟨0,0,none⟩=some (.int .u64 56)∧W.cell? ⟨0,1,none⟩=some (.int .u64 8)∧W.cell? ⟨0,2,none⟩=some (.int .u64 28)∧W.cell? ⟨0,3,none⟩=some (.int .u64 28)∧W.cell? ⟨0,4,none⟩=some (.int .u64 0)∧W.cell? ⟨0,5,none⟩=some (.int .u64 28))∧Below w.heap.size w W)):((W.drew.cell? ⟨0,0,none⟩=some (.int .u64 56)∧W.drew.cell? ⟨0,1,none⟩=some (.int .u64 8)∧W.drew.cell? ⟨0,2,none⟩=some (.int .u64 28)∧W.drew.cell? ⟨0,3,none⟩=some (.int .u64 28)∧W.drew.cell? ⟨0,4,none⟩=some (.int .u64 0)∧W.drew.cell? ⟨0,5,none⟩=some (.int .u64 28))∧Below w.heap.size w W.drew):=keepG h (Below.refl _ _).drew
def pack_Parts.f (a0:Int):Option (Int×Int×Int):=(pack_part.f a0 56 8).bind fun x=>(pack_part.f a0 28 28).bind fun y=>(pack_part.f a0 0 28).bind fun z=>some (x,y,z)
set_option maxHeartbeats 8000000 in
set_option maxRecDepth 100000 in
theorem pack_Parts.calls (a0:Int) (r1 r2 r3:Int) (w:World) (hG:Glob w) (h:pack_Parts.f a0=some (r1,r2,r3)) :
  Calls Tryd.prog 52 #[.int .u64 a0] w fun e w'=>e=.returned (.tuple #[.int .i64 r1,.int .i64 r2,.int .i64 r3])∧Below w.heap.size w w':=by
 unfold pack_Parts.f at h
 obtain ⟨x,hx0,h⟩:=Option.bind_eq_some_iff.mp h
 obtain ⟨y,hy0,h⟩:=Option.bind_eq_some_iff.mp h
 obtain ⟨z,hz0,h⟩:=Option.bind_eq_some_iff.mp h
 have hx:=Aside0.mk hx0
 have hy:=Aside0.mk hy0
 have hz:=Aside0.mk hz0
 clear hx0 hy0 hz0
 simp only [Option.some.injEq,Prod.mk.injEq] at h
 obtain ⟨rfl,rfl,rfl⟩:=h
 have HS:((w.cell? ⟨0,0,none⟩=some (.int .u64 56)∧w.cell? ⟨0,1,none⟩=some (.int .u64 8)∧w.cell? ⟨0,2,none⟩=some (.int .u64 28)∧w.cell? ⟨0,3,none⟩=some (.int .u64 28)∧w.cell? ⟨0,4,none⟩=some (.int .u64 0)∧w.cell? ⟨0,5,none⟩=some (.int .u64 28))∧Below w.heap.size w w):=⟨hG,Below.refl _ _⟩
 clear hG
 go_enter Tryd.func52,Tryd.ntmps52
 go_wp2
 go_region_held3 (fun w'=>((w'.cell? ⟨0,0,none⟩=some (.int .u64 56)∧w'.cell? ⟨0,1,none⟩=some (.int .u64 8)∧w'.cell? ⟨0,2,none⟩=some (.int .u64 28)∧w'.cell? ⟨0,3,none⟩=some (.int .u64 28)∧w'.cell? ⟨0,4,none⟩=some (.int .u64 0)∧w'.cell? ⟨0,5,none⟩=some (.int .u64 28))∧Below w.heap.size w w'))
  (first|exact keepG_drew HS|exact keepG (by assumption) hb1)
  (first
   | (go_at_call 85; (with_reducible refine (pack_part.calls a0 56 8 x _ hx.out).mono ?_); rintro e w1 ⟨rfl,hb1⟩)
   | (go_at_call 85; (with_reducible refine (pack_part.calls a0 28 28 y _ hy.out).mono ?_); rintro e w1 ⟨rfl,hb1⟩)
   | (go_at_call 85; (with_reducible refine (pack_part.calls a0 0 28 z _ hz.out).mono ?_); rintro e w1 ⟨rfl,hb1⟩))
 go_wp2
 go_ret3
 exact ⟨by simp,‹_∧Below w.heap.size w _›.2⟩
def code_place.f (a0:Int) (a1:Int):Option (Bool):=if a0 ≥ 0 then (some (decide (a0 < a1))) else (some false)
set_option maxHeartbeats 8000000 in
set_option maxRecDepth 100000 in
theorem code_place.calls (a0:Int) (a1:Int) (r:Bool) (w:World) (h:code_place.f a0 a1=some r) :
  Calls Tryd.prog 84 #[.int .i64 a0,.int .i64 a1] w fun e w'=>e=.returned (.bool r)∧Drawn0 w w':=by
 have H:(if a0 ≥ 0 then (some (decide (a0 < a1))) else (some false))=some r:=h
 clear h
 by_cases c3:a0 ≥ 0
 ·rw [if_pos c3] at H
  have c3b0:decide (0≤a0)=true:=decide_eq_true c3
  clear c3
  obtain rfl:=Option.some.inj H
  go_enter Tryd.func84,Tryd.ntmps84
  go_wp2
  go_ret
  exact ⟨by first|rfl|(simp; done)|(simp [*]; done),by repeat (first|exact Drawn0.refl _|apply Drawn0.step)⟩
 ·rw [if_neg c3] at H
  have c3b0:decide (0≤a0)=false:=decide_eq_false c3
  clear c3
  obtain rfl:=Option.some.inj H
  go_enter Tryd.func84,Tryd.ntmps84
  go_wp2
  go_ret
  exact ⟨by first|rfl|(simp; done)|(simp [*]; done),by repeat (first|exact Drawn0.refl _|apply Drawn0.step)⟩
end Go.Proofs.YtcmdjpolgaejoaaDoor.C
