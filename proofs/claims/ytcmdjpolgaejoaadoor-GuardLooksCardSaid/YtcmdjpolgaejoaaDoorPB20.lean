/- The laws GuardLooks, GuardWords of the program hold, as their cards say: texts put together by a program, 21 of 38. -/
import Derived.Test.YtcmdjpolgaejoaaDoorPB13
import Derived.Test.YtcmdjpolgaejoaaDoorPB19
namespace Go.Proofs.YtcmdjpolgaejoaaDoor.C
open Go.RowKit Go.Proofs.YtcmdjpolgaejoaaDoorW.PrintWords Go.Proofs.YtcmdjpolgaejoaaDoorW.PrintLast Go.Proofs.YtcmdjpolgaejoaaDoorW.PrintMore
attribute [local go_sem] max2_int min2_int max_two min_two max_three min_three max_four min_four
set_option linter.unusedVariables false
set_option linter.unusedSimpArgs false
def isthmusref01_Word.f (a0:Int) (a1:Int) (a2:Int):Option (Int×Int):=if a0 < 0 then (some (0,12)) else (if a0 > 255 then (some (0,12)) else (if a1 < 0 then (some (0,12)) else (if a1 ≥ 268435456 then (some (0,12)) else (if a2 < 0 then (some (0,12)) else (if a2 ≥ 268435456 then (some (0,12)) else (some (IntKind.u64.wrap ((IntKind.u64.wrap ((IntKind.u64.wrap ((IntKind.u64.wrap ((IntKind.u64.wrap (a0))*268435456))+(IntKind.u64.wrap (a1))))*268435456))+(IntKind.u64.wrap (a2))),0)))))))
set_option maxHeartbeats 8000000 in
set_option maxRecDepth 100000 in
theorem isthmusref01_Word.calls (a0:Int) (a1:Int) (a2:Int) (r1:Int) (r2:Int) (w:World) (h:isthmusref01_Word.f a0 a1 a2=some (r1,r2)) :
  Calls Tryd.prog 29 #[.int .i64 a0,.int .i64 a1,.int .i64 a2] w fun e w'=>e=.returned (.tuple #[.int .u64 r1,.int .i64 r2])∧Drawn0 w w':=by
 have H:(if a0 < 0 then (some (0,12)) else (if a0 > 255 then (some (0,12)) else (if a1 < 0 then (some (0,12)) else (if a1 ≥ 268435456 then (some (0,12)) else (if a2 < 0 then (some (0,12)) else (if a2 ≥ 268435456 then (some (0,12)) else (some (IntKind.u64.wrap ((IntKind.u64.wrap ((IntKind.u64.wrap ((IntKind.u64.wrap ((IntKind.u64.wrap (a0))*268435456))+(IntKind.u64.wrap (a1))))*268435456))+(IntKind.u64.wrap (a2))),0))))))))=some (r1,r2):=h
 clear h
 by_cases c4:a0 < 0
 ·rw [if_pos c4] at H
  have c4b0:decide (a0 < 0)=true:=decide_eq_true c4
  clear c4
  simp only [Option.some.injEq,Prod.mk.injEq] at H
  obtain ⟨rfl,rfl⟩:=H
  go_enter Tryd.func29,Tryd.ntmps29
  go_wp2
  go_ret2
  exact ⟨by first|rfl|(simp; done)|(simp [*]; done),by repeat (first|exact Drawn0.refl _|apply Drawn0.step)⟩
 ·rw [if_neg c4] at H
  have c4b0:decide (a0 < 0)=false:=decide_eq_false c4
  clear c4
  by_cases c5:a0 > 255
  ·rw [if_pos c5] at H
   have c5b0:decide (255 < a0)=true:=decide_eq_true c5
   clear c5
   simp only [Option.some.injEq,Prod.mk.injEq] at H
   obtain ⟨rfl,rfl⟩:=H
   go_enter Tryd.func29,Tryd.ntmps29
   go_wp2
   go_ret2
   exact ⟨by first|rfl|(simp; done)|(simp [*]; done),by repeat (first|exact Drawn0.refl _|apply Drawn0.step)⟩
  ·rw [if_neg c5] at H
   have c5b0:decide (255 < a0)=false:=decide_eq_false c5
   clear c5
   by_cases c6:a1 < 0
   ·rw [if_pos c6] at H
    have c6b0:decide (a1 < 0)=true:=decide_eq_true c6
    clear c6
    simp only [Option.some.injEq,Prod.mk.injEq] at H
    obtain ⟨rfl,rfl⟩:=H
    go_enter Tryd.func29,Tryd.ntmps29
    go_wp2
    go_ret2
    exact ⟨by first|rfl|(simp; done)|(simp [*]; done),by repeat (first|exact Drawn0.refl _|apply Drawn0.step)⟩
   ·rw [if_neg c6] at H
    have c6b0:decide (a1 < 0)=false:=decide_eq_false c6
    clear c6
    by_cases c7:a1 ≥ 268435456
    ·rw [if_pos c7] at H
     have c7b0:decide (268435456≤a1)=true:=decide_eq_true c7
     clear c7
     simp only [Option.some.injEq,Prod.mk.injEq] at H
     obtain ⟨rfl,rfl⟩:=H
     go_enter Tryd.func29,Tryd.ntmps29
     go_wp2
     go_ret2
     exact ⟨by first|rfl|(simp; done)|(simp [*]; done),by repeat (first|exact Drawn0.refl _|apply Drawn0.step)⟩
    ·rw [if_neg c7] at H
     have c7b0:decide (268435456≤a1)=false:=decide_eq_false c7
     clear c7
     by_cases c8:a2 < 0
     ·rw [if_pos c8] at H
      have c8b0:decide (a2 < 0)=true:=decide_eq_true c8
      clear c8
      simp only [Option.some.injEq,Prod.mk.injEq] at H
      obtain ⟨rfl,rfl⟩:=H
      go_enter Tryd.func29,Tryd.ntmps29
      go_wp2
      go_ret2
      exact ⟨by first|rfl|(simp; done)|(simp [*]; done),by repeat (first|exact Drawn0.refl _|apply Drawn0.step)⟩
     ·rw [if_neg c8] at H
      have c8b0:decide (a2 < 0)=false:=decide_eq_false c8
      clear c8
      by_cases c9:a2 ≥ 268435456
      ·rw [if_pos c9] at H
       have c9b0:decide (268435456≤a2)=true:=decide_eq_true c9
       clear c9
       simp only [Option.some.injEq,Prod.mk.injEq] at H
       obtain ⟨rfl,rfl⟩:=H
       go_enter Tryd.func29,Tryd.ntmps29
       go_wp2
       go_ret2
       exact ⟨by first|rfl|(simp; done)|(simp [*]; done),by repeat (first|exact Drawn0.refl _|apply Drawn0.step)⟩
      ·rw [if_neg c9] at H
       have c9b0:decide (268435456≤a2)=false:=decide_eq_false c9
       clear c9
       simp only [Option.some.injEq,Prod.mk.injEq] at H
       obtain ⟨rfl,rfl⟩:=H
       go_enter Tryd.func29,Tryd.ntmps29
       go_wp2
       go_ret2
       exact ⟨by first|rfl|(simp; done)|(simp [*]; done),by repeat (first|exact Drawn0.refl _|apply Drawn0.step)⟩
theorem own_lt {W:World} {base:Nat} {e:TypeId} {sz n:Nat} {v:Value} {xs:List Value} (h:W.ownsRow base e sz v n xs) {k:Nat} (hk:v.ownBlock=some k):k < W.heap.size:=by
 obtain ⟨_,hc⟩:=own_typed h k hk
 exact blk_lt hc
theorem own_ne {W:World} {base:Nat} {e t:TypeId} {sz n:Nat} {v:Value} {xs:List Value} {C:Array Value} {m:Nat×Nat} {b:Nat} (h:W.ownsRow base e sz v n xs) (ht:t≠e) (hb:W.heap[b]? = some (.cells C t m)) {k:Nat} (hk:v.ownBlock=some k):k≠b:=by
 rintro rfl
 obtain ⟨_,hc⟩:=own_typed h k hk
 rw [hb] at hc
 injection hc with hc
 injection hc with _ hc _
 exact ht hc
structure SRaw where
 f0:Int
 f1:Int
 f2:Int
def kRaw:Kd SRaw:=Kd.iso (Kd.pair (Kd.int .i64) (Kd.pair (Kd.int .i64) (Kd.int .i64))) (fun x:SRaw=>(x.f0,x.f1,x.f2))
theorem kRaw_open {w:World} {x:SRaw} {cs:List Value} (h:kRaw.K w x cs):cs=[.int .i64 x.f0,.int .i64 x.f1,.int .i64 x.f2]:=by
 obtain ⟨_,_,rfl,rfl,⟨_,_,rfl,rfl,rfl⟩⟩:=h
 exact rfl
theorem kRaw_mk (w:World) (x:SRaw):kRaw.K w x [.int .i64 x.f0,.int .i64 x.f1,.int .i64 x.f2]:=⟨[.int .i64 x.f0],[.int .i64 x.f1,.int .i64 x.f2],rfl,rfl,⟨[.int .i64 x.f1],[.int .i64 x.f2],rfl,rfl,rfl⟩⟩
theorem kRaw_mkM (w:World) (base:Nat) (ok:Nat→Prop) (x:SRaw):kRaw.M w base ok x [.int .i64 x.f0,.int .i64 x.f1,.int .i64 x.f2]:=⟨[.int .i64 x.f0],[.int .i64 x.f1,.int .i64 x.f2],rfl,rfl,⟨[.int .i64 x.f1],[.int .i64 x.f2],rfl,rfl,rfl⟩⟩
def rd_Raw (xs:List SRaw) (i:Int):SRaw:=xs.getD i.toNat ⟨0,0,0⟩
theorem at_Raw {w:World} {A:Option Addr} {n:Nat} {xs:List SRaw} (h:Kd.C kRaw w A n xs) (i:Int) (h0:0≤i) (h1:i < n):∃ ad,A=some ad∧w.cell? (ad.add (i.toNat*3))=some (.int .i64 (rd_Raw xs i).f0)∧w.cell? ⟨(ad.add (i.toNat*3)).block,(ad.add (i.toNat*3)).off+1,none⟩=some (.int .i64 (rd_Raw xs i).f1)∧w.cell? ⟨(ad.add (i.toNat*3)).block,(ad.add (i.toNat*3)).off+2,none⟩=some (.int .i64 (rd_Raw xs i).f2):=by
 obtain ⟨ad,c,e,_,hK,hc0⟩:=Kd.C_get h ⟨0,0,0⟩ i h0 h1
 have hc:∀ j u,c[j]? = some u→w.cell? (ad.add (i.toNat*3+j))=some u:=hc0
 obtain rfl:=kRaw_open hK
 exact ⟨ad,e,hc 0 _ rfl,by rw [← add_field _ _ 1 (by omega)]; exact hc 1 _ rfl,by rw [← add_field _ _ 2 (by omega)]; exact hc 2 _ rfl⟩
theorem info63c:(Tryd.prog.info? 63).map (fun i=>(i.zero,i.size,i.bytes))=some (some (.int .u64 0),1,8):=by kernel_rfl
def isthmuslaw18_Code.wd (near:Bool) (x:SRaw):Option Int :=
 (isthmuslaw18_pick.f x.f0 256).bind fun o1=>(isthmuslaw18_pick.f x.f1 268435456).bind fun a1=>(isthmuslaw18_pick.f x.f2 268435456).bind fun b1 =>
 if near=true then (isthmuslaw18_pick.f x.f0 28).bind fun o2=>(isthmuslaw18_pick.f x.f1 12).bind fun a2=>(isthmuslaw18_pick.f x.f2 12).bind fun b2=>(isthmusref01_Word.f o2 a2 b2).bind fun t=>some t.1
 else (isthmusref01_Word.f o1 a1 b1).bind fun t=>some t.1
def isthmuslaw18_Code.ws (near:Bool):List SRaw→List Int→Option (List Int)
 | [],acc=>some acc
 | x :: t,acc=>(isthmuslaw18_Code.wd near x).bind fun y=>if (acc.length+1)*8≤140737488355328 then isthmuslaw18_Code.ws near t (acc++[y]) else none
def isthmuslaw18_Code.f (l:List SRaw) (near:Bool):Option (List Int):=isthmuslaw18_Code.ws near l []
def CI (w0:World) (R0 Bc:Nat) (s1 s2 s3:Value) (W:World) (v:Value) (acc:List Int):Prop :=
 W.heap[R0]? = some (.cells #[.slice none 0 0,.slice none 0 0,.slice none 0 0,.slice none 0 0] 26 (0,0))∧W.heap[Bc]? = some (.cells #[v,s1,s2,s3] 26 (0,0))∧W.ownsRow w0.heap.size 63 1 v acc.length (nums .u64 acc)∧Below w0.heap.size w0 W∧w0.heap.size≤R0∧w0.heap.size≤Bc∧R0≠Bc
theorem CI.below {w0 W W1:World} {R0 Bc:Nat} {s1 s2 s3 v:Value} {acc:List Int} (h:CI w0 R0 Bc s1 s2 s3 W v acc) (hb:Below W.heap.size W W1):CI w0 R0 Bc s1 s2 s3 W1 v acc:=by
 obtain ⟨h1,h2,h3,h4,h5⟩:=h
 exact ⟨blk_below h1 hb,blk_below h2 hb,own_move h3 (fun k hk=>hb.block k (own_lt h3 hk)),below_then h4 h4.size hb,h5⟩
theorem CI.form {w0 W:World} {R0 Bc:Nat} {s1 s2 s3 v:Value} {acc:List Int} (h:CI w0 R0 Bc s1 s2 s3 W v acc):(∃ A c,v=.slice A acc.length c∧True)∧True:=by
 obtain ⟨A,c,e,_⟩:=Kd.R_reads (Kd.R_of_own (h1:=fun _=>rfl) (ok:=fun _=>True) h.2.2.1 (fun _ _=>trivial))
 exact ⟨⟨A,c,e,trivial⟩,trivial⟩
theorem CI.push {w0 W W1:World} {R0 Bc:Nat} {s1 s2 s3 v v1:Value} {acc:List Int} {u:Int} (h:CI w0 R0 Bc s1 s2 s3 W v acc) (ho:W1.ownsRow w0.heap.size 63 1 v1 (acc.length+1) (nums .u64 acc++[.int .u64 u])) (hb:Below w0.heap.size w0 W1) (hg:W.grownBy W1 v.ownBlock) :
  CI w0 R0 Bc s1 s2 s3 (W1.setCell ⟨Bc,0,none⟩ v1) v1 (acc++[u])∧W1.heap[Bc]? = some (.cells #[v,s1,s2,s3] 26 (0,0)):=by
 obtain ⟨h1,h2,h3,h4,h5,h6,h7⟩:=h
 have gC:=blk_grown h2 hg (fun he=>own_ne h3 (by decide) h2 he.symm rfl)
 have gR:=blk_grown h1 hg (fun he=>own_ne h3 (by decide) h1 he.symm rfl)
 have ho':W1.ownsRow w0.heap.size 63 1 v1 (acc++[u]).length (nums .u64 (acc++[u])):=by
  have e1:(acc++[u]).length=acc.length+1:=by simp
  have e2:nums .u64 (acc++[u])=nums .u64 acc++[.int .u64 u]:=by simp [nums]
  rw [e1,e2]
  exact ho
 exact ⟨⟨(Below.heap_setCell W1 _ _ R0 h7).trans gR,blk_put gC 0 v1 rfl,own_move ho' (fun k hk=>Below.heap_setCell W1 _ _ k (own_ne ho' (by decide) gC hk)),below_set hb h6,h5,h6,h7⟩,gC⟩
set_option maxHeartbeats 8000000 in
set_option maxRecDepth 100000 in
theorem isthmuslaw18_Code.calls (A0:Option Addr) (c0:Nat) (l:List SRaw) (A1:Option Addr) (c1:Nat) (l1:List Int) (A2:Option Addr) (c2:Nat) (l2:List ByteArray) (A3:Option Addr) (c3:Nat) (l3:List Int) (near:Bool) (r:List Int) (w:World) (hr0:Kd.C kRaw w A0 l.length l) (hc0:l.length≤c0) (h:isthmuslaw18_Code.f l near=some r) :
  Calls Tryd.prog 14 #[.slice A0 l.length c0,.slice A1 l1.length c1,.slice A2 l2.length c2,.slice A3 l3.length c3,.bool near] w fun e w'=>∃ v0_:Value,e=.returned (.agg #[v0_,.slice A1 l1.length c1,.slice A2 l2.length c2,.slice A3 l3.length c3])∧Kd.R (Kd.int .u64) 63 w' w.heap.size (fun _=>True) v0_ r∧Below w.heap.size w w':=by
 have hlen:=hr0.2.1
 have HR0:=Aside0.mk hr0
 clear hr0
 have H:=Aside0.mk h
 clear h
 have z1:(w.alloc (.cells #[.slice none 0 0,.slice none 0 0,.slice none 0 0,.slice none 0 0] 26)).heap.size=w.heap.size+1:=by simp
 have HI:=Aside0.mk (show CI w w.heap.size (w.heap.size+1) (.slice A1 l1.length c1) (.slice A2 l2.length c2) (.slice A3 l3.length c3) ((w.alloc (.cells #[.slice none 0 0,.slice none 0 0,.slice none 0 0,.slice none 0 0] 26)).alloc (.cells #[.slice none 0 0,.slice A1 l1.length c1,.slice A2 l2.length c2,.slice A3 l3.length c3] 26)) (.slice none 0 0) [] by
  have g1:=heap_alloc_new w (.cells #[.slice none 0 0,.slice none 0 0,.slice none 0 0,.slice none 0 0] 26)
  have g2:=heap_alloc_new (w.alloc (.cells #[.slice none 0 0,.slice none 0 0,.slice none 0 0,.slice none 0 0] 26)) (.cells #[.slice none 0 0,.slice A1 l1.length c1,.slice A2 l2.length c2,.slice A3 l3.length c3] 26)
  rw [z1] at g2
  exact ⟨blk_below g1 (below_alloc (Below.refl _ _) _),g2,⟨rfl,.inl ⟨rfl,rfl⟩⟩,below_alloc (below_alloc (Below.refl _ _) _) _,by omega,by omega,by omega⟩)
 go_enter Tryd.func14,Tryd.ntmps14
 go_wp2_with fail
 go_loopw [12] (fun v w'=>∃ (j:Nat) (acc:List Int) (u:Value),v=.int .i64 j∧j≤l.length∧Aside0 (isthmuslaw18_Code.ws near (l.drop j) acc=some r)∧Aside0 (CI w w.heap.size (w.heap.size+1) (.slice A1 l1.length c1) (.slice A2 l2.length c2) (.slice A3 l3.length c3) w' u acc)) (fun v _=>l.length - (intOf v).toNat)
 case atStart=>exact ⟨0,[],_,rfl,Nat.zero_le _,H,HI⟩
 case round =>
  clear HI H
  obtain ⟨j,acc,u,rfl,hj,HN,HL⟩:=hrel
  by_cases hlt:j < l.length
  ·have hb:Below w.heap.size w wr:=HL.out.2.2.2.1
   obtain ⟨ad,ea,hx0,hx1,hx2⟩:=at_Raw (Kd.C_below HR0.out hb) (j:Int) (Int.natCast_nonneg j) (by omega)
   have hrd:rd_Raw l (j:Int)=l[j]:=by simp [rd_Raw,List.getD,hlt]
   have hn:=HN.out
   rw [show l.drop j=_ from List.drop_eq_getElem_cons hlt] at hn
   obtain ⟨w0_,hw,hn⟩:=Option.bind_eq_some_iff.mp hn
   rw [hrd] at hx0 hx1 hx2
   obtain ⟨y,hy⟩:∃ y,y=l[j]:=⟨_,rfl⟩
   rw [← hy] at hx0 hx1 hx2 hw
   simp only [Int.toNat_natCast] at hx0 hx1 hx2
   have hy0:=fun (n_:Nat)=>(show (wr.drewN n_).cell? _=some _ from hx0)
   have hy1:=fun (n_:Nat)=>(show (wr.drewN n_).cell? _=some _ from hx1)
   have hy2:=fun (n_:Nat)=>(show (wr.drewN n_).cell? _=some _ from hx2)
   unfold isthmuslaw18_Code.wd at hw
   obtain ⟨o1,pa,hw⟩:=Option.bind_eq_some_iff.mp hw
   obtain ⟨a1,pb,hw⟩:=Option.bind_eq_some_iff.mp hw
   obtain ⟨b1,pc,hw⟩:=Option.bind_eq_some_iff.mp hw
   have PA:=Aside0.mk pa
   have PB:=Aside0.mk pb
   have PC:=Aside0.mk pc
   clear pa pb pc hy hrd
   cases ea
   by_cases hfit:(acc.length+1)*8≤140737488355328
   case neg=>rw [if_neg hfit] at hn; cases hn
   rw [if_pos hfit] at hn
   have HF:=Aside0.mk hfit
   clear hfit
   have hc0:=(blk_cell HL.out.2.1 0).trans (rfl:_=some u)
   have hcd:=fun (n_:Nat)=>(show (wr.drewN n_).cell? _=some _ from hc0)
   cases near with
   | true =>
    rw [if_pos rfl] at hw
    obtain ⟨o2,pd,hw⟩:=Option.bind_eq_some_iff.mp hw
    obtain ⟨a2,pe,hw⟩:=Option.bind_eq_some_iff.mp hw
    obtain ⟨b2,pf,hw⟩:=Option.bind_eq_some_iff.mp hw
    obtain ⟨⟨y1,y2⟩,pw,hw⟩:=Option.bind_eq_some_iff.mp hw
    obtain rfl:=Option.some.inj hw
    have PD:=Aside0.mk pd
    have PE:=Aside0.mk pe
    have PF:=Aside0.mk pf
    have PW:=Aside0.mk pw
    have NN:=Aside0.mk hn
    clear pd pe pf pw hn hw HN
    go_wp2_with (first|(refine goesL_ (some 33) rfl rfl Tryd.func28 (by kernel_rfl) rfl #[.int .i64 y.f0,.int .i64 256] rfl (by (try simp only [List.map_toArray,List.map_cons,List.map_nil]); first|done|rfl) ?_; with_reducible refine (isthmuslaw18_pick.calls y.f0 256 o1 _ PA.out).mono ?_; rintro e wz ⟨rfl,⟨nd,rfl⟩⟩; refine ⟨_,rfl,?_⟩)|(refine goesL_ (some 39) rfl rfl Tryd.func28 (by kernel_rfl) rfl #[.int .i64 y.f1,.int .i64 268435456] rfl (by (try simp only [List.map_toArray,List.map_cons,List.map_nil]); first|done|rfl) ?_; with_reducible refine (isthmuslaw18_pick.calls y.f1 268435456 a1 _ PB.out).mono ?_; rintro e wz ⟨rfl,⟨nd,rfl⟩⟩; refine ⟨_,rfl,?_⟩)|(refine goesL_ (some 45) rfl rfl Tryd.func28 (by kernel_rfl) rfl #[.int .i64 y.f2,.int .i64 268435456] rfl (by (try simp only [List.map_toArray,List.map_cons,List.map_nil]); first|done|rfl) ?_; with_reducible refine (isthmuslaw18_pick.calls y.f2 268435456 b1 _ PC.out).mono ?_; rintro e wz ⟨rfl,⟨nd,rfl⟩⟩; refine ⟨_,rfl,?_⟩)|(refine goesL_ (some 52) rfl rfl Tryd.func28 (by kernel_rfl) rfl #[.int .i64 y.f0,.int .i64 28] rfl (by (try simp only [List.map_toArray,List.map_cons,List.map_nil]); first|done|rfl) ?_; with_reducible refine (isthmuslaw18_pick.calls y.f0 28 o2 _ PD.out).mono ?_; rintro e wz ⟨rfl,⟨nd,rfl⟩⟩; refine ⟨_,rfl,?_⟩)|(refine goesL_ (some 58) rfl rfl Tryd.func28 (by kernel_rfl) rfl #[.int .i64 y.f1,.int .i64 12] rfl (by (try simp only [List.map_toArray,List.map_cons,List.map_nil]); first|done|rfl) ?_; with_reducible refine (isthmuslaw18_pick.calls y.f1 12 a2 _ PE.out).mono ?_; rintro e wz ⟨rfl,⟨nd,rfl⟩⟩; refine ⟨_,rfl,?_⟩)|(refine goesL_ (some 64) rfl rfl Tryd.func28 (by kernel_rfl) rfl #[.int .i64 y.f2,.int .i64 12] rfl (by (try simp only [List.map_toArray,List.map_cons,List.map_nil]); first|done|rfl) ?_; with_reducible refine (isthmuslaw18_pick.calls y.f2 12 b2 _ PF.out).mono ?_; rintro e wz ⟨rfl,⟨nd,rfl⟩⟩; refine ⟨_,rfl,?_⟩)|(refine goesL_ (some 69) rfl rfl Tryd.func29 (by kernel_rfl) rfl #[.int .i64 o2,.int .i64 a2,.int .i64 b2] rfl (by (try simp only [List.map_toArray,List.map_cons,List.map_nil]); first|done|rfl) ?_; skip))
    with_reducible refine (isthmusref01_Word.calls o2 a2 b2 y1 y2 _ PW.out).mono ?_
    rintro e wz ⟨rfl,hd⟩
    have hbz:Below wr.heap.size wr wz:=by
     obtain ⟨nd,rfl⟩:=hd
     repeat (first|exact Below.refl _ _|apply pw_below_drewN)
    have HL2:=Aside0.mk (CI.below HL.out hbz)
    clear hd hbz
    have hcz:=(blk_cell HL2.out.2.1 0).trans (rfl:_=some u)
    refine ⟨_,rfl,?_⟩
    go_wp2_with (at_builtin; refine print_append_cells w.heap.size rfl (.tmp 73) (.tmp 75) 22 63 (.int .u64 0) 1 8 rfl Tryd.underlying22 info63c rfl (by omega) (by omega) u acc.length (nums .u64 acc) [.int .u64 y1] rfl rfl rfl (by intro z_ hz_; obtain rfl:=List.mem_singleton.mp hz_; rfl) HL2.out.2.2.1 HL2.out.2.2.2.1 HL2.out.2.2.2.1.size HF.out ?_; intro v1 w9 ho9 hb9 hg9 hat9; obtain ⟨g1,c9,rfl,_,_⟩:=ho9.form (by omega); obtain ⟨HP0,hbx⟩:=CI.push HL2.out ho9 hb9 hg9; have HP:=Aside0.mk HP0; clear HP0; have hcB:=(blk_cell hbx 0).trans (rfl:_=some u); have hfB:=blk_frozen hbx 0; clear hbx ho9 hb9 hg9 hat9)
    go_roundw
    case rel=>exact ⟨j+1,acc++[y1],_,(by first|rfl|simp),by omega,NN,HP⟩
    case measure=>simp [intOf]; try omega
   | false =>
    rw [if_neg (by decide)] at hw
    obtain ⟨⟨y1,y2⟩,pw,hw⟩:=Option.bind_eq_some_iff.mp hw
    obtain rfl:=Option.some.inj hw
    have PW:=Aside0.mk pw
    have NN:=Aside0.mk hn
    clear pw hn hw HN
    go_wp2_with (first|(refine goesL_ (some 33) rfl rfl Tryd.func28 (by kernel_rfl) rfl #[.int .i64 y.f0,.int .i64 256] rfl (by (try simp only [List.map_toArray,List.map_cons,List.map_nil]); first|done|rfl) ?_; with_reducible refine (isthmuslaw18_pick.calls y.f0 256 o1 _ PA.out).mono ?_; rintro e wz ⟨rfl,⟨nd,rfl⟩⟩; refine ⟨_,rfl,?_⟩)|(refine goesL_ (some 39) rfl rfl Tryd.func28 (by kernel_rfl) rfl #[.int .i64 y.f1,.int .i64 268435456] rfl (by (try simp only [List.map_toArray,List.map_cons,List.map_nil]); first|done|rfl) ?_; with_reducible refine (isthmuslaw18_pick.calls y.f1 268435456 a1 _ PB.out).mono ?_; rintro e wz ⟨rfl,⟨nd,rfl⟩⟩; refine ⟨_,rfl,?_⟩)|(refine goesL_ (some 45) rfl rfl Tryd.func28 (by kernel_rfl) rfl #[.int .i64 y.f2,.int .i64 268435456] rfl (by (try simp only [List.map_toArray,List.map_cons,List.map_nil]); first|done|rfl) ?_; with_reducible refine (isthmuslaw18_pick.calls y.f2 268435456 b1 _ PC.out).mono ?_; rintro e wz ⟨rfl,⟨nd,rfl⟩⟩; refine ⟨_,rfl,?_⟩)|(refine goesL_ (some 69) rfl rfl Tryd.func29 (by kernel_rfl) rfl #[.int .i64 o1,.int .i64 a1,.int .i64 b1] rfl (by (try simp only [List.map_toArray,List.map_cons,List.map_nil]); first|done|rfl) ?_; skip))
    with_reducible refine (isthmusref01_Word.calls o1 a1 b1 y1 y2 _ PW.out).mono ?_
    rintro e wz ⟨rfl,hd⟩
    have hbz:Below wr.heap.size wr wz:=by
     obtain ⟨nd,rfl⟩:=hd
     repeat (first|exact Below.refl _ _|apply pw_below_drewN)
    have HL2:=Aside0.mk (CI.below HL.out hbz)
    clear hd hbz
    have hcz:=(blk_cell HL2.out.2.1 0).trans (rfl:_=some u)
    refine ⟨_,rfl,?_⟩
    go_wp2_with (at_builtin; refine print_append_cells w.heap.size rfl (.tmp 73) (.tmp 75) 22 63 (.int .u64 0) 1 8 rfl Tryd.underlying22 info63c rfl (by omega) (by omega) u acc.length (nums .u64 acc) [.int .u64 y1] rfl rfl rfl (by intro z_ hz_; obtain rfl:=List.mem_singleton.mp hz_; rfl) HL2.out.2.2.1 HL2.out.2.2.2.1 HL2.out.2.2.2.1.size HF.out ?_; intro v1 w9 ho9 hb9 hg9 hat9; obtain ⟨g1,c9,rfl,_,_⟩:=ho9.form (by omega); obtain ⟨HP0,hbx⟩:=CI.push HL2.out ho9 hb9 hg9; have HP:=Aside0.mk HP0; clear HP0; have hcB:=(blk_cell hbx 0).trans (rfl:_=some u); have hfB:=blk_frozen hbx 0; clear hbx ho9 hb9 hg9 hat9)
    go_roundw
    case rel=>exact ⟨j+1,acc++[y1],_,(by first|rfl|simp),by omega,NN,HP⟩
    case measure=>simp [intOf]; try omega
  ·have hn:=HN.out
   rw [List.drop_eq_nil_of_le (by omega)] at hn
   obtain rfl:acc=r:=Option.some.inj hn
   clear hn HN
   obtain ⟨⟨Au,cu,rfl,_⟩,HK⟩:=CI.form HL.out
   obtain ⟨hR,hC,hO,hB,b1_,b2_,b3_⟩:=HL.out
   have hR0:=blk_cell hR 0
   have hR1:=blk_cell hR 1
   have hR2:=blk_cell hR 2
   have hR3:=blk_cell hR 3
   have hF0:=blk_frozen hR 0
   have hF1:=blk_frozen hR 1
   have hF2:=blk_frozen hR 2
   have hF3:=blk_frozen hR 3
   have hc0:=blk_cell hC 0
   have hc1:=blk_cell hC 1
   have hc2:=blk_cell hC 2
   have hc3:=blk_cell hC 3
   have HE:=Aside0.mk (And.intro hR (And.intro hC (And.intro hO (And.intro hB b1_))))
   clear hR hC hO hB b1_ b2_ b3_
   go_wp2_with fail
   obtain ⟨hR,hC,hO,hB,b1_⟩:=HE.out
   have far:∀ k,k≠w.heap.size→((((wr.setCell ⟨w.heap.size,0,none⟩ (.slice Au acc.length cu)).setCell ⟨w.heap.size,1,none⟩ (.slice A1 l1.length c1)).setCell ⟨w.heap.size,2,none⟩ (.slice A2 l2.length c2)).setCell ⟨w.heap.size,3,none⟩ (.slice A3 l3.length c3)).heap[k]? = wr.heap[k]? := fun k hk =>
    ((Below.heap_setCell _ _ _ k hk).trans (Below.heap_setCell _ _ _ k hk)).trans ((Below.heap_setCell _ _ _ k hk).trans (Below.heap_setCell _ _ _ k hk))
   refine bodyPost_ret (results_cell_row rfl _ _ w.heap.size 26 #[.slice Au acc.length cu,.slice A1 l1.length c1,.slice A2 l2.length c2,.slice A3 l3.length c3] (0,0) _ rfl (blk_put (blk_put (blk_put (blk_put hR 0 _ rfl) 1 _ rfl) 2 _ rfl) 3 _ rfl) Tryd.underlying26 rfl (by kernel_rfl)) rfl ?_
   exact ⟨_,rfl,Kd.R_of_own (h1:=fun _=>rfl) (own_move hO (fun k hk=>far k (own_ne hO (by decide) hR hk))) (fun _ _=>trivial),below_set (below_set (below_set (below_set hB b1_) b1_) b1_) b1_⟩
end Go.Proofs.YtcmdjpolgaejoaaDoor.C
