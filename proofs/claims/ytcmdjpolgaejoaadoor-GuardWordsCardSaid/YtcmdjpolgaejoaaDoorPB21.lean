/- The laws GuardLooks, GuardWords of the program hold, as their cards say: texts put together by a program, 22 of 38. -/
import Derived.Test.YtcmdjpolgaejoaaDoorPB1
import Derived.Test.YtcmdjpolgaejoaaDoorPB2
import Derived.Test.YtcmdjpolgaejoaaDoorPB12
import Derived.Test.YtcmdjpolgaejoaaDoorPB13
import Derived.Test.YtcmdjpolgaejoaaDoorPB20
import Derived.Laws.BytesArg
import Derived.WalkKit
import Derived.ProofKit
import Derived.OpenShut
import Derived.ShutString
import Derived.ChangeOld
import Derived.Below
import Derived.SizedLaws
import Derived.Deep.Strs
import Derived.Lib.SmallJoins
import Derived.Test.YtcmdjpolgaejoaaDoorRows
import Derived.WalkSpells
import Derived.WalkSmall
import Derived.Deep.WholeRow
import Derived.Deep.MidRow
import Derived.Laws.Shifts
import Derived.Laws.BitsAllLaws
import Derived.Laws.CopyOwn
import Derived.Laws.Tables
import Derived.MapKept
import Derived.ChangeMaps4
namespace Go.Proofs.YtcmdjpolgaejoaaDoor.Str
open Go.RowKit Go.Proofs.YtcmdjpolgaejoaaDoorW.PrintWords
theorem bs {α β:Type} (a:α) (f:α→Option β):(some a).bind f=f a:=by rw [Option.bind_some]
theorem wf_i64 {x:Int} (h:(Lit.int .i64 x).wf=true):-9223372036854775808≤x∧x≤9223372036854775807:=by
 simp only [Lit.wf,IntKind.min,IntKind.max,IntKind.signed,IntKind.bits,Bool.and_eq_true,decide_eq_true_eq,if_true] at h
 omega
theorem wf_u64 {x:Int} (h:(Lit.int .u64 x).wf=true):0≤x∧x≤18446744073709551615:=by
 simp [Lit.wf,IntKind.min,IntKind.max,IntKind.signed,IntKind.bits] at h
 omega
theorem toList_data (s:ByteArray):s.toList=s.data.toList:=by
 have h:∀ (l:List UInt8),(⟨l.toArray⟩:ByteArray).toList=l:=by
  intro l
  have hl:∀ (n i:Nat) (r:List UInt8),l.length - i=n→ByteArray.toList.loop (⟨l.toArray⟩:ByteArray) i r=r.reverse++l.drop i:=by
   intro n
   induction n with
   | zero =>
    intro i r h
    unfold ByteArray.toList.loop
    rw [if_neg (show ¬ i < (⟨l.toArray⟩:ByteArray).size by show ¬ i < l.length; omega)]
    rw [List.drop_eq_nil_of_le (by omega),List.append_nil]
   | succ n ih =>
    intro i r h
    unfold ByteArray.toList.loop
    have hlt:i < l.length:=by omega
    rw [if_pos (show i < (⟨l.toArray⟩:ByteArray).size from hlt),ih (i+1) _ (by omega)]
    have hg:(⟨l.toArray⟩:ByteArray).get! i=l[i]:=by
     show l.toArray[i]! = l[i]
     rw [getElem!_pos _ _ (by simpa using hlt)]
     simp
    rw [hg,List.reverse_cons,List.append_assoc,List.singleton_append,List.getElem_cons_drop]
  exact hl l.length 0 [] rfl
 have:=h s.data.toList
 simpa using this
theorem ext_bytes {s t:ByteArray} (h:bytesOf s=bytesOf t):s=t:=by
 have back:∀ l:List UInt8,(l.map fun b=>(b.toNat:Int)).map (fun n=>UInt8.ofNat n.toNat)=l:=by
  intro l
  rw [List.map_map]
  conv=>rhs; rw [← List.map_id l]
  apply List.map_congr_left
  intro x _
  simp
 have h2:s.data.toList=t.data.toList:=by
  unfold bytesOf at h
  rw [← back s.data.toList,h,back]
 have:s.data=t.data:=Array.toList_inj.1 h2
 cases s; cases t; simp_all
theorem toList_iff {s t:ByteArray}:s.toList=t.toList↔s=t:=by
 constructor
 ·intro h
  rw [toList_data,toList_data] at h
  have:s.data=t.data:=Array.toList_inj.1 h
  cases s; cases t; simp_all
 ·rintro rfl; rfl
theorem bytes_append (s t:ByteArray):bytesOf (s++t)=bytesOf s++bytesOf t:=by
 unfold bytesOf
 rw [show (s++t).data=s.data++t.data from ByteArray.data_append ..,Array.toList_append,List.map_append]
theorem bytes_extract (s:ByteArray) (i j:Nat):bytesOf (s.extract i j)=((bytesOf s).drop i).take (j - i):=by
 unfold bytesOf
 rw [show (s.extract i j).data=s.data.extract i j from ByteArray.data_extract ..,Array.toList_extract,List.extract_eq_take_drop,List.map_take,List.map_drop]
theorem bytes_nums {l:List Int} (h:∀ x∈l,0≤x∧x < 256):bytesOf (strOfNums l)=l:=by
 unfold bytesOf
 rw [strOfNums_data,List.map_map]
 conv=>rhs; rw [← List.map_id l]
 apply List.map_congr_left
 intro x hx
 obtain ⟨h0,h1⟩:=h x hx
 show ((UInt8.ofNat x.toNat).toNat:Int)=x
 rw [UInt8.toNat_ofNat_of_lt' (by show x.toNat < 256; omega)]
 omega
theorem bt_drop {s:ByteArray} {i:Nat} (h:i < s.size):(bytesOf s).drop i=bt s i :: (bytesOf s).drop (i+1):=by
 have hl:i < (bytesOf s).length:=by rw [bytesOf_length]; exact h
 rw [List.drop_eq_getElem_cons hl]
 congr 1
 have:=rd_bytesOf s (i:Int)
 rw [← this]
 unfold rd
 rw [show ((i:Int)).toNat=i from rfl]
 simp [List.getD,hl]
end Go.Proofs.YtcmdjpolgaejoaaDoor.Str
namespace Go.Proofs.YtcmdjpolgaejoaaDoor.Open
open Go.ChangeShapes Go.WideShapes Go.ChangeAt Go.RowKit Go.Proofs.YtcmdjpolgaejoaaDoorW.PrintWords Go.Proofs.YtcmdjpolgaejoaaDoor.C
open Go.ChangeMaps (open_string shut_string)
section
variable {H:Type} {enc:TypeId×Value→H} {P:Program} {w:World} {base:Nat} {spare:Nat→Bool} {held:Bool}
theorem choose_list {α:Type} (p:Nat→α→Prop):∀ n:Nat,(∀ i,i < n→∃ x,p i x)→∃ l:List α,l.length=n∧∀ (i:Nat) (x:α),l[i]? = some x→p i x
 | 0,_=>⟨[],rfl,fun i x hx=>by simp at hx⟩
 | n+1,h=>by
  obtain ⟨l,hl,hp⟩:=choose_list p n (fun i hi=>h i (by omega))
  obtain ⟨y,hy⟩:=h n (by omega)
  refine ⟨l++[y],by simp [hl],fun i x hx=>?_⟩
  rw [List.getElem?_append] at hx
  split at hx
  ·exact hp i x hx
  ·next hge =>
   have:i - l.length=0:=by
    rcases Nat.eq_zero_or_pos (i - l.length) with h0|h0
    ·exact h0
    ·rw [List.getElem?_eq_none (by simp; omega)] at hx; cases hx
   rw [this] at hx
   simp at hx
   subst hx
   have:i=n:=by omega
   rw [this]
   exact hy
theorem open_row {α:Type} (d:Kd α) (Q:α→Prop) {t e:TypeId} {fuel:Nat} {A:Option Addr} {len cap:Nat} {x:DataW H×List MemPlace} (ht:P.underlying t=some (.slice e)) (hc:P.cellsOf e=d.sz)
  (hE:∀ (n:Nat) (cs:List Value) (y:DataW H×List MemPlace),cs.length=d.sz→DataW.trod enc P w base spare held n e cs=some y→∃ p,d.K w p cs∧Q p)
  (h:DataW.trod enc P w base spare held fuel t [.slice A len cap]=some x) (hw:∀ m∈x.1.weights P t,m≤reachBytes) :
  ∃ l:List α,len=l.length∧l.length≤cap∧d.C w A l.length l∧(∀ p∈l,Q p)∧l.length*P.bytesOf e≤140737488351232:=by
 rcases DataW.trod_slice ht h with ⟨h0,_⟩|⟨a,len',cap',elems,rest,n,_,h0,rfl,hb,hl,hm,hlen,hel,_,_⟩
 ·simp at h0
  obtain ⟨rfl,rfl,rfl⟩:=h0
  exact ⟨[],rfl,Nat.le_refl _,Kd.C_nil _ _,by simp,by simp⟩
 ·simp at h0
  obtain ⟨rfl,rfl,rfl⟩:=h0
  obtain ⟨l,hll,hp⟩:=choose_list (α:=α) (fun i p=>Q p∧∃ c,c.length=d.sz∧d.K w p c∧∀ (i':Nat) (u:Value),c[i']? = some u→w.cell? (a.add (i*d.sz+i'))=some u) len (fun i hi=>by
   have hk:=hel i hi
   rw [List.getElem?_eq_getElem (by omega),Option.bind_eq_some_iff] at hk
   obtain ⟨cs',h1,h2⟩:=hk
   rw [hc] at h1
   obtain ⟨_,h3,h4⟩:=World.cells?_some h1
   obtain ⟨p,hk,hq⟩:=hE n cs' _ h3 h2
   refine ⟨p,hq,cs',h3,hk,fun i' u hu=>?_⟩
   have hlt:i' < d.sz:=by rw [← h3]; exact (List.getElem?_eq_some_iff.1 hu).1
   have:=h4 i' hlt
   rw [hu] at this
   rw [← this]
   congr 1
   unfold Addr.add
   by_cases z1:i*d.sz=0<;>by_cases z2:i'=0<;>simp [z1,z2,Nat.add_assoc])
  refine ⟨l,hll.symm,by omega,⟨rfl,by unfold maxLen at hm; omega,fun hpos=>⟨a,rfl,fun j p hj=>(hp j p hj).2⟩⟩,fun p hpm=>?_,?_⟩
  ·obtain ⟨i,hi⟩:=List.getElem?_of_mem hpm
   exact (hp i p hi).1
  ·have:=hw ((elems.map (·.1)).length+(rest.map (·.1)).length |> (·*P.bytesOf e)) (by simp [DataW.weights,ht])
   have h2:l.length≤(elems.map (·.1)).length+(rest.map (·.1)).length:=by simp; omega
   exact Nat.le_trans (Nat.mul_le_mul_right _ h2) this
end
theorem weight_of {H:Type} {P:Program} {ts:List TypeId} {ds:List (DataW H)} (h:(DataW.weightsEach P ts ds).all (·≤reachBytes)=true) {j:Nat} {t:TypeId} {d:DataW H} (ht:ts[j]? = some t) (hd:ds[j]? = some d):∀ m∈d.weights P t,m≤reachBytes:=fun m hm=>by
 have:=List.all_eq_true.1 h m (DataW.weights_mem_each ht hd m hm)
 simpa using this
section
variable {H:Type} {enc:TypeId×Value→H} {w:World} {base:Nat} {spare:Nat→Bool} {held:Bool} {A:Option Addr} {len cap:Nat} {d:DataW H} {ps:List MemPlace}
theorem u64s {t:TypeId} (ht:Tryd.prog.underlying t=some (.slice 63)) (h:DataW.Trod enc Tryd.prog w base spare held t (.slice A len cap) d ps) (hw:∀ m∈d.weights Tryd.prog t,m≤reachBytes) :
  ∃ l:List Int,len=l.length∧l.length≤cap∧Kd.C (Kd.int .u64) w A l.length l∧(∀ x∈l,0≤x∧x≤18446744073709551615)∧l.length*8≤140737488351232:=by
 obtain ⟨fuel,hf⟩:=h
 obtain ⟨l,h1,h2,h3,h4,h5⟩:=open_row (Kd.int .u64) (fun x=>(Lit.int .u64 x).wf=true) ht (by kernel_rfl) (fun n cs y _ hy=>by
  obtain ⟨m,rfl,_,hwf⟩:=DataW.trod_int Tryd.underlying63 hy
  exact ⟨m,rfl,hwf⟩) hf hw
 rw [show Tryd.prog.bytesOf 63=8 by kernel_rfl] at h5
 exact ⟨l,h1,h2,h3,fun x hx=>Str.wf_u64 (h4 x hx),h5⟩
theorem i64s {t:TypeId} (ht:Tryd.prog.underlying t=some (.slice 3)) (h:DataW.Trod enc Tryd.prog w base spare held t (.slice A len cap) d ps) (hw:∀ m∈d.weights Tryd.prog t,m≤reachBytes) :
  ∃ l:List Int,len=l.length∧l.length≤cap∧Kd.C (Kd.int .i64) w A l.length l∧(∀ x∈l,-9223372036854775808≤x∧x≤9223372036854775807)∧l.length*8≤140737488351232:=by
 obtain ⟨fuel,hf⟩:=h
 obtain ⟨l,h1,h2,h3,h4,h5⟩:=open_row (Kd.int .i64) (fun x=>(Lit.int .i64 x).wf=true) ht (by kernel_rfl) (fun n cs y _ hy=>by
  obtain ⟨m,rfl,_,hwf⟩:=DataW.trod_int Tryd.underlying3 hy
  exact ⟨m,rfl,hwf⟩) hf hw
 rw [show Tryd.prog.bytesOf 3=8 by kernel_rfl] at h5
 exact ⟨l,h1,h2,h3,fun x hx=>Str.wf_i64 (h4 x hx),h5⟩
theorem strs {t:TypeId} (ht:Tryd.prog.underlying t=some (.slice 9)) (h:DataW.Trod enc Tryd.prog w base spare held t (.slice A len cap) d ps) (hw:∀ m∈d.weights Tryd.prog t,m≤reachBytes) :
  ∃ l:List ByteArray,len=l.length∧l.length≤cap∧Kd.C Kd.string w A l.length l∧l.length*16≤140737488351232:=by
 obtain ⟨fuel,hf⟩:=h
 obtain ⟨l,h1,h2,h3,h4,h5⟩:=open_row Kd.string (fun _=>True) ht (by kernel_rfl) (fun n cs y _ hy=>by
  obtain ⟨s,rfl,_,_⟩:=DataW.trod_string Tryd.underlying9 hy
  exact ⟨s,rfl,trivial⟩) hf hw
 rw [show Tryd.prog.bytesOf 9=16 by kernel_rfl] at h5
 exact ⟨l,h1,h2,h3,h5⟩
theorem raws {t:TypeId} (ht:Tryd.prog.underlying t=some (.slice 54)) (h:DataW.Trod enc Tryd.prog w base spare held t (.slice A len cap) d ps) (hw:∀ m∈d.weights Tryd.prog t,m≤reachBytes) :
  ∃ l:List SRaw,len=l.length∧l.length≤cap∧Kd.C kRaw w A l.length l∧(∀ x∈l,(-9223372036854775808≤x.f0∧x.f0≤9223372036854775807)∧(-9223372036854775808≤x.f1∧x.f1≤9223372036854775807)∧(-9223372036854775808≤x.f2∧x.f2≤9223372036854775807))∧l.length*24≤140737488351232:=by
 obtain ⟨fuel,hf⟩:=h
 have hi:∀ n cs (y:DataW H×List MemPlace),DataW.trod enc Tryd.prog w base spare held n 3 cs=some y→∃ m:Int,cs=[.int .i64 m]∧(-9223372036854775808≤m∧m≤9223372036854775807):=fun n cs y hy=>by
  obtain ⟨m,rfl,_,hwf⟩:=DataW.trod_int Tryd.underlying3 hy
  exact ⟨m,rfl,Str.wf_i64 hwf⟩
 obtain ⟨l,h1,h2,h3,h4,h5⟩:=open_row kRaw (fun x:SRaw=>(-9223372036854775808≤x.f0∧x.f0≤9223372036854775807)∧(-9223372036854775808≤x.f1∧x.f1≤9223372036854775807)∧(-9223372036854775808≤x.f2∧x.f2≤9223372036854775807)) ht (by kernel_rfl) (fun n cs y hl hy=>by
  obtain ⟨y0,y1,y2,m,_,_,g0,g1,g2⟩:=Deep.trod_struct3 Tryd.underlying54 hy
  have c3:Tryd.prog.cellsOf 3=1:=by kernel_rfl
  simp only [c3] at g0 g1 g2
  match cs,hl with
  | [c0,c1,c2],_ =>
   obtain ⟨a0,e0,r0⟩:=hi _ _ _ g0
   obtain ⟨a1,e1,r1⟩:=hi _ _ _ g1
   obtain ⟨a2,e2,r2⟩:=hi _ _ _ g2
   simp at e0 e1 e2
   subst e0 e1 e2
   exact ⟨⟨a0,a1,a2⟩,kRaw_mk w ⟨a0,a1,a2⟩,r0,r1,r2⟩) hf hw
 rw [show Tryd.prog.bytesOf 54=24 by kernel_rfl] at h5
 exact ⟨l,h1,h2,h3,h4,h5⟩
end
set_option maxRecDepth 100000 in
theorem code {H:Type} {enc:TypeId×Value→H} {w:World} {base b0:Nat} {spare:Nat→Bool} {held:Bool} {r:Reach} {v:Value} {d:DataW H} {ps:List MemPlace} (hv:Value.okWide Tryd.prog w r b0 26 v) (h:DataW.Trod enc Tryd.prog w base spare held 26 v d ps) (hw:∀ m∈d.weights Tryd.prog 26,m≤reachBytes) :
  ∃ (A0:Option Addr) (c0:Nat) (l0:List Int) (A1:Option Addr) (c1:Nat) (l1:List Int) (A2:Option Addr) (c2:Nat) (l2:List ByteArray) (A3:Option Addr) (c3:Nat) (l3:List Int),
   v=.agg #[.slice A0 l0.length c0,.slice A1 l1.length c1,.slice A2 l2.length c2,.slice A3 l3.length c3] ∧
   (l0.length≤c0∧Kd.C (Kd.int .u64) w A0 l0.length l0∧(∀ x∈l0,0≤x∧x≤18446744073709551615)∧l0.length*8≤140737488351232) ∧
   (l1.length≤c1∧Kd.C (Kd.int .i64) w A1 l1.length l1∧(∀ x∈l1,-9223372036854775808≤x∧x≤9223372036854775807)∧l1.length*8≤140737488351232) ∧
   (l2.length≤c2∧Kd.C Kd.string w A2 l2.length l2∧l2.length*16≤140737488351232) ∧
   (l3.length≤c3∧Kd.C (Kd.int .i64) w A3 l3.length l3∧l3.length*8≤140737488351232):=by
 obtain ⟨v0,v1,v2,v3,y0,y1,y2,y3,n,rfl,rfl,rfl,h0,h1,h2,h3⟩:=Joins.open_agg4 Tryd.underlying26 (by kernel_rfl) (by kernel_rfl) hv h
 have ww:∀ (j:Nat) (t:TypeId) (y:DataW H),([22,23,24,23]:List TypeId)[j]? = some t→[y0.1,y1.1,y2.1,y3.1][j]? = some y→∀ m∈y.weights Tryd.prog t,m≤reachBytes:=fun j t y ht hy m hm=>hw m (by
  unfold DataW.weights
  rw [Tryd.underlying26]
  exact DataW.weights_mem_each (ts:=[22,23,24,23]) ht hy m hm)
 have sl:∀ (t e:TypeId) (v:Value) (y:DataW H×List MemPlace),Tryd.prog.underlying t=some (.slice e)→DataW.trod enc Tryd.prog w base spare held n t [v]=some y→∃ A len cap,v=.slice A len cap:=fun t e v y ht hy=>by
  rcases DataW.trod_slice ht hy with ⟨g,_⟩|⟨a,len,cap,_,_,_,_,g,_⟩
  ·simp at g; exact ⟨_,_,_,g⟩
  ·simp at g; exact ⟨_,_,_,g⟩
 obtain ⟨A0,n0,c0,rfl⟩:=sl 22 63 v0 y0 Tryd.underlying22 h0
 obtain ⟨A1,n1,c1,rfl⟩:=sl 23 3 v1 y1 Tryd.underlying23 h1
 obtain ⟨A2,n2,c2,rfl⟩:=sl 24 9 v2 y2 Tryd.underlying24 h2
 obtain ⟨A3,n3,c3,rfl⟩:=sl 23 3 v3 y3 Tryd.underlying23 h3
 have T:∀ (t:TypeId) (v:Value) (y:DataW H×List MemPlace),v.cells=#[v]→DataW.trod enc Tryd.prog w base spare held n t [v]=some y→DataW.Trod enc Tryd.prog w base spare held t v y.1 y.2:=fun t v y hc hy=>⟨n,by rw [hc]; exact hy⟩
 obtain ⟨l0,rfl,p0,q0,r0,s0⟩:=u64s Tryd.underlying22 (T 22 _ y0 rfl h0) (ww 0 22 _ rfl rfl)
 obtain ⟨l1,rfl,p1,q1,r1,s1⟩:=i64s Tryd.underlying23 (T 23 _ y1 rfl h1) (ww 1 23 _ rfl rfl)
 obtain ⟨l2,rfl,p2,q2,s2⟩:=strs Tryd.underlying24 (T 24 _ y2 rfl h2) (ww 2 24 _ rfl rfl)
 obtain ⟨l3,rfl,p3,q3,r3,s3⟩:=i64s Tryd.underlying23 (T 23 _ y3 rfl h3) (ww 3 23 _ rfl rfl)
 exact ⟨A0,c0,l0,A1,c1,l1,A2,c2,l2,A3,c3,l3,rfl,⟨p0,q0,r0,s0⟩,⟨p1,q1,r1,s1⟩,⟨p2,q2,s2⟩,⟨p3,q3,s3⟩⟩
end Go.Proofs.YtcmdjpolgaejoaaDoor.Open
namespace Go.Proofs.YtcmdjpolgaejoaaDoor.Gd
open Go.RowKit Go.Proofs.YtcmdjpolgaejoaaDoorW.PrintWords Go.Proofs.YtcmdjpolgaejoaaDoorW.PrintLast Go.Proofs.YtcmdjpolgaejoaaDoorW.PrintMore
set_option linter.unusedVariables false
set_option linter.unusedSimpArgs false
abbrev bad (e:Int):List PanicEntry:=[{ v:=.iface 74 (.agg #[.int .i64 e]),recovered:=false }]
def stc (f:Nat→Nat) (h r:Nat):Array Value:=((List.range 32).map (fun i=>(.int .u64 (f i:Nat):Value))++[Value.int .i64 (h:Nat),Value.int .i64 (r:Nat)]).toArray
theorem stc_size (f:Nat→Nat) (h r:Nat):(stc f h r).size=34:=by simp [stc]
theorem stc_word (f:Nat→Nat) (h r i:Nat) (hi:i < 32):(stc f h r)[i]? = some (.int .u64 (f i:Nat)):=by
 simp [stc,List.getElem?_append,hi]
theorem stc_h (f:Nat→Nat) (h r:Nat):(stc f h r)[32]? = some (.int .i64 (h:Nat)):=by simp [stc,List.getElem?_append]
theorem stc_r (f:Nat→Nat) (h r:Nat):(stc f h r)[33]? = some (.int .i64 (r:Nat)):=by simp [stc,List.getElem?_append]
theorem stc_ext (f f':Nat→Nat) (h h' r r':Nat) (hf:∀ i,i < 32→f i=f' i) (hh:h=h') (hr:r=r'):stc f h r=stc f' h' r':=by
 subst hh hr
 unfold stc
 congr 2
 exact List.map_congr_left fun i hi=>by rw [hf i (List.mem_range.1 hi)]
theorem stc_set_h (f:Nat→Nat) (h h' r:Nat):(stc f h r).setIfInBounds 32 (.int .i64 (h':Nat))=stc f h' r:=by
 simp [stc,List.set_append]
theorem stc_set_r (f:Nat→Nat) (h r r':Nat):(stc f h r).setIfInBounds 33 (.int .i64 (r':Nat))=stc f h r':=by
 simp [stc,List.set_append]
theorem stc_set_word (f:Nat→Nat) (h r i x:Nat) (hi:i < 32):(stc f h r).setIfInBounds i (.int .u64 (x:Nat))=stc (fun j=>if j=i then x else f j) h r:=by
 apply Array.ext_getElem?
 intro j
 rw [Array.getElem?_setIfInBounds]
 by_cases hj:i=j
 ·subst hj
  rw [if_pos rfl,stc_word _ _ _ _ hi,if_pos (by rw [stc_size]; omega)]
  simp
 ·rw [if_neg hj]
  by_cases h32:j < 32
  ·rw [stc_word _ _ _ _ h32,stc_word _ _ _ _ h32,if_neg (fun e=>hj e.symm)]
  ·by_cases e1:j=32
   ·subst e1; rw [stc_h,stc_h]
   ·by_cases e2:j=33
    ·subst e2; rw [stc_r,stc_r]
    ·rw [Array.getElem?_eq_none (by rw [stc_size]; omega),Array.getElem?_eq_none (by rw [stc_size]; omega)]
theorem stc_one (f:Nat→Nat) (h r:Nat):(stc f h r).all (·.oneCell')=true:=by
 rw [Array.all_eq_true_iff_forall_mem]
 intro v hv
 simp only [stc,List.mem_toArray,List.mem_append,List.mem_map,List.mem_cons,List.not_mem_nil,or_false] at hv
 rcases hv with ⟨i,_,rfl⟩|rfl|rfl<;>rfl
set_option maxHeartbeats 1000000 in
theorem must_yes (e:Int) (w:World):Calls Tryd.prog 53 #[.bool true,.int .i64 e] w fun r w'=>r=.returned (.tuple #[])∧w'=w:=by
 go_enter Tryd.func53,Tryd.ntmps53
 go_wp2
 go_end0
 exact ⟨rfl,rfl⟩
set_option maxHeartbeats 1000000 in
theorem must_no (e:Int) (w:World):Calls Tryd.prog 53 #[.bool false,.int .i64 e] w fun r w'=>r=.panicked (bad e)∧w'=w:=by
 go_enter Tryd.func53,Tryd.ntmps53
 go_wp2
 exact ⟨rfl,rfl,rfl⟩
attribute [local go_sem] stc_h stc_r
theorem top_word (x d:Nat) (hx:x < 18446744073709551616) (hd:d≤64):wrap64 (bits .and .u64 ((x:Int) / 2 ^ d) 3)=((x / 2 ^ d) &&& 3:Nat):=by
 have e:((x:Int) / 2 ^ d)=((x / 2 ^ d:Nat):Int):=by simp
 have h3:(x / 2 ^ d) &&& 3≤3:=Nat.and_le_right
 rw [e,show (3:Int)=((3:Nat):Int) from rfl,u64_and_nat _ _ (Nat.lt_of_le_of_lt (Nat.div_le_self _ _) hx) (by decide)]
 simp only [wrap64]
 omega
set_option maxHeartbeats 2000000 in
theorem top_zero (f:Nat→Nat) (r:Nat) (w:World):Calls Tryd.prog 54 #[.agg (stc f 0 r)] w fun e w'=>e=.returned (.int .i64 0)∧Below w.heap.size w w':=by
 have hb:=below_alloc (Below.refl w.heap.size w) (.cells (stc f 0 r) 68)
 go_enter Tryd.func54,Tryd.ntmps54
 go_wp2
 go_ret
 exact ⟨rfl,hb⟩
set_option maxHeartbeats 2000000 in
theorem top_some (f:Nat→Nat) (n r:Nat) (hn:n < 1024) (hf:f (n / 32) < 18446744073709551616) (w:World):Calls Tryd.prog 54 #[.agg (stc f (n+1) r)] w fun e w'=>e=.returned (.int .i64 ((f (n / 32) / 2 ^ (2*(n%32))) &&& 3:Nat))∧Below w.heap.size w w':=by
 have hb:=below_alloc (Below.refl w.heap.size w) (.cells (stc f (n+1) r) 68)
 have bx:=heap_alloc_new w (.cells (stc f (n+1) r) 68)
 have y32:=(blk_cell bx 32).trans (stc_h f (n+1) r)
 have yw:=(blk_cell bx (n / 32)).trans (stc_word f (n+1) r (n / 32) (by omega))
 go_enter Tryd.func54,Tryd.ntmps54
 go_wp2_with fail
 have HB:=Aside0.mk hb.drew
 clear hb bx
 obtain ⟨q,hq⟩:∃ q,q=n / 32:=⟨_,rfl⟩
 obtain ⟨s,hs⟩:∃ s,s=n%32:=⟨_,rfl⟩
 obtain ⟨d,hd⟩:∃ d,d=2*s:=⟨_,rfl⟩
 obtain ⟨x,hx⟩:∃ x,x=f (n / 32):=⟨_,rfl⟩
 rw [← hx,← hq] at yw
 rw [← hx] at hf
 have e1:wrap64 (n:Int)=n:=by simp only [wrap64]; omega
 have e2:(n:Int).tdiv 32=(q:Int):=by rw [Int.tdiv_eq_ediv_of_nonneg (by omega)]; omega
 have e3:wrap64 (q:Int)=q:=by simp only [wrap64]; omega
 have e4:((q:Int) < 32)=True:=eq_true (by omega)
 have e5:(n:Int).tmod 32=(s:Int):=by rw [Int.tmod_eq_emod_of_nonneg (by omega)]; omega
 have e6:(s:Int)*2=(d:Int):=by omega
 have hd64:d≤64:=by omega
 have e7:wrap64 (d:Int)=d:=by simp only [wrap64]; omega
 have HQ:=Aside0.mk (And.intro hq (And.intro hs (And.intro hd hx)))
 clear hq hs hd hx
 refine start_ (n:=16) (S:=fun w'=>w'.cell? ⟨w.heap.size,32,none⟩=some (.int .i64 ((n+1:Nat):Int))∧w'.cell? ⟨w.heap.size,q,none⟩=some (.int .u64 (x:Nat))) (ds:=[]) #[false,false,false,false,false,false,false,false,false,false,false,false,false,false,false,false] (by kernel_rfl) rfl rfl ⟨y32,yw⟩ (fun hHeld=>?_)
 refine pure_ (i:=0) (N:=some 6) (v:=?_) (a':=?_) (bl_ 16 1) rfl rfl (by kernel_rfl) (fun _ _ _ h=>h) (Or.inl ⟨by rfl,?_⟩) ?_ ?_
 rotate_left
 ·intro w'
  go_simp
  with_reducible rfl
 rotate_left
 ·simp only [Act.put,zA_,zB_,zC_,i64_w]
  rfl
 refine pure_ (i:=4) (N:=some 10) (v:=?_) (a':=?_) (bl_ 16 17) rfl rfl (by kernel_rfl) (fun _ _ _ h=>h) (Or.inl ⟨by rfl,?_⟩) ?_ ?_
 rotate_left
 ·intro w'
  go_simp
  with_reducible rfl
 rotate_left
 ·simp only [Act.put,zA_,zB_,zC_,i64_w]
  rfl
 refine pure_ (i:=7) (N:=some 13) (v:=?_) (a':=?_) (bl_ 16 145) rfl rfl (by kernel_rfl) (fun _ _ _ h=>h) (Or.inl ⟨by rfl,?_⟩) ?_ ?_
 rotate_left
 ·intro w'
  go_simp
  with_reducible rfl
 rotate_left
 ·simp only [Act.put,zA_,zB_,zC_,i64_w]
  rfl
 refine take_ (i:=1) (N:=some 7) (v:=?_) (a':=?_) (bl_ 16 147) rfl rfl (by kernel_rfl) (fun _ _ _ h=>h) (Or.inl ⟨by rfl,?_⟩) hHeld ?_ ?_
 rotate_left
 ·rintro w' ⟨s0,s1⟩
  go_simp
  with_reducible rfl
 rotate_left
 ·simp only [Act.put,zA_,zB_,zC_,i64_w]
  rfl
 refine pure_ (i:=2) (N:=some 8) (v:=?_) (a':=?_) (bl_ 16 151) rfl rfl (by kernel_rfl) (fun _ _ _ h=>h) (Or.inl ⟨by rfl,?_⟩) ?_ ?_
 rotate_left
 ·intro w'
  go_simp
  with_reducible rfl
 rotate_left
 ·simp only [Act.put,zA_,zB_,zC_,i64_w]
  rfl
 refine pure_ (i:=3) (N:=some 9) (v:=?_) (a':=?_) (bl_ 16 159) rfl rfl (by kernel_rfl) (fun _ _ _ h=>h) (Or.inl ⟨by rfl,?_⟩) ?_ ?_
 rotate_left
 ·intro w'
  go_simp
  with_reducible rfl
 rotate_left
 ·simp only [Act.put,zA_,zB_,zC_,i64_w]
  rfl
 refine pure_ (i:=5) (N:=some 11) (v:=?_) (a':=?_) (bl_ 16 191) rfl rfl (by kernel_rfl) (fun _ _ _ h=>h) (Or.inl ⟨by rfl,?_⟩) ?_ ?_
 rotate_left
 ·intro w'
  go_simp
  with_reducible rfl
 rotate_left
 ·simp only [Act.put,zA_,zB_,zC_,i64_w]
  rfl
 refine take_ (i:=6) (N:=some 12) (v:=?_) (a':=?_) (bl_ 16 255) rfl rfl (by kernel_rfl) (fun _ _ _ h=>h) (Or.inl ⟨by rfl,?_⟩) hHeld ?_ ?_
 rotate_left
 ·rintro w' ⟨s0,s1⟩
  go_simp
  with_reducible rfl
 rotate_left
 ·simp only [Act.put,zA_,zB_,zC_,i64_w]
  rfl
 refine take_ (i:=8) (N:=some 14) (v:=?_) (a':=?_) (bl_ 16 511) rfl rfl (by kernel_rfl) (fun _ _ _ h=>h) (Or.inl ⟨by rfl,?_⟩) hHeld ?_ ?_
 rotate_left
 ·rintro w' ⟨s0,s1⟩
  go_simp
  with_reducible rfl
 rotate_left
 ·simp only [Act.put,zA_,zB_,zC_,i64_w]
  rfl
 refine pure_ (i:=9) (N:=some 15) (v:=?_) (a':=?_) (bl_ 16 1023) rfl rfl (by kernel_rfl) (fun _ _ _ h=>h) (Or.inl ⟨by rfl,?_⟩) ?_ ?_
 rotate_left
 ·intro w'
  go_simp
  with_reducible rfl
 rotate_left
 ·simp only [Act.put,zA_,zB_,zC_,i64_w]
  rfl
 refine pure_ (i:=10) (N:=some 16) (v:=?_) (a':=?_) (bl_ 16 2047) rfl rfl (by kernel_rfl) (fun _ _ _ h=>h) (Or.inl ⟨by rfl,?_⟩) ?_ ?_
 rotate_left
 ·intro w'
  go_simp
  with_reducible rfl
 rotate_left
 ·simp only [Act.put,zA_,zB_,zC_,i64_w]
  rfl
 refine pure_ (i:=11) (N:=some 17) (v:=?_) (a':=?_) (bl_ 16 4095) rfl rfl (by kernel_rfl) (fun _ _ _ h=>h) (Or.inl ⟨by rfl,?_⟩) ?_ ?_
 rotate_left
 ·intro w'
  go_simp
  with_reducible rfl
 rotate_left
 ·simp only [Act.put,zA_,zB_,zC_,i64_w]
  rfl
 refine pure_ (i:=12) (N:=some 18) (v:=?_) (a':=?_) (bl_ 16 8191) rfl rfl (by kernel_rfl) (fun _ _ _ h=>h) (Or.inl ⟨by rfl,?_⟩) ?_ ?_
 rotate_left
 ·intro w'
  go_simp
  with_reducible rfl
 rotate_left
 ·simp only [Act.put,zA_,zB_,zC_,i64_w]
  rfl
 refine pure_ (i:=13) (N:=some 19) (v:=?_) (a':=?_) (bl_ 16 16383) rfl rfl (by kernel_rfl) (fun _ _ _ h=>h) (Or.inl ⟨by rfl,?_⟩) ?_ ?_
 rotate_left
 ·intro w'
  go_simp
  with_reducible rfl
 rotate_left
 ·simp only [Act.put,zA_,zB_,zC_,i64_w]
  rfl
 refine pure_ (i:=14) (N:=some 20) (v:=?_) (a':=?_) (bl_ 16 32767) rfl rfl (by kernel_rfl) (fun _ _ _ h=>h) (Or.inl ⟨by rfl,?_⟩) ?_ ?_
 rotate_left
 ·intro w'
  go_simp
  with_reducible rfl
 rotate_left
 ·simp only [Act.put,zA_,zB_,zC_,i64_w]
  rfl
 refine pure_ (i:=15) (N:=some 2) (v:=?_) (a':=?_) (bl_ 16 65535) rfl rfl (by kernel_rfl) (fun _ _ _ h=>h) (Or.inl ⟨by rfl,?_⟩) ?_ ?_
 rotate_left
 ·intro w'
  go_simp
  with_reducible rfl
 rotate_left
 ·simp only [Act.put,zA_,zB_,zC_,i64_w]
  rfl
 refine done_ (by kernel_rfl) ?_
 go_wp2_with fail
 go_ret
 obtain ⟨rfl,rfl,rfl,rfl⟩:=HQ.out
 exact ⟨congrArg (fun z=>Ending.returned (.int .i64 z)) (top_word _ _ hf hd64),HB.out⟩
attribute [local go_sem] stc_set_h stc_set_r
theorem pop_word (x d:Nat) (hx:x < 18446744073709551616) (hd:d≤62):bits .andNot .u64 (x:Int) (IntKind.u64.wrap (3*2 ^ d))=((x &&& (18446744073709551615 - 3*2 ^ d):Nat):Int):=by
 have h2:2 ^ d≤2 ^ 62:=Nat.pow_le_pow_right (by decide) hd
 have e:(3*2 ^ d:Int)=((3*2 ^ d:Nat):Int):=by simp
 have hs:3*2 ^ d < 18446744073709551616:=by omega
 rw [e,IntKind.wrap_u64,show (((3*2 ^ d:Nat):Int)%18446744073709551616)=((3*2 ^ d:Nat):Int) by omega,u64_andNot_nat _ _ hx hs]
theorem info68:(Tryd.prog.info? 68).map (·.size)=some 34:=by kernel_rfl
set_option maxHeartbeats 2000000 in
set_option maxRecDepth 10000 in
theorem pop_ (f:Nat→Nat) (n r:Nat) (hn:n < 1024) (hf:f (n / 32) < 18446744073709551616) (w:World) :
  Calls Tryd.prog 103 #[.agg (stc f (n+1) r)] w fun e w'=>e=.returned (.agg (stc (fun j=>if j=n / 32 then f j &&& (18446744073709551615 - 3*2 ^ (2*(n%32))) else f j) n r))∧Below w.heap.size w w':=by
 have hb:=below_alloc (below_alloc (Below.refl w.heap.size w) (.cells (stc f n r) 68)) (.cells z34_ 68)
 have bx:=blk_alloc (heap_alloc_new w (.cells (stc f n r) 68)) (.cells z34_ 68)
 have by_:=heap_alloc_new (w.alloc (.cells (stc f n r) 68)) (.cells z34_ 68)
 have y32:=(blk_cell bx 32).trans (stc_h f n r)
 have yw:=(blk_cell bx (n / 32)).trans (stc_word f n r (n / 32) (by omega))
 have HX:=Aside0.mk bx
 have HY:=Aside0.mk by_
 have HB:=Aside0.mk hb.drew
 clear hb bx by_
 go_enter Tryd.func103,Tryd.ntmps103
 go_wp2_with fail
 obtain ⟨q,hq⟩:∃ q,q=n / 32:=⟨_,rfl⟩
 obtain ⟨s,hs⟩:∃ s,s=n%32:=⟨_,rfl⟩
 obtain ⟨d,hd⟩:∃ d,d=2*s:=⟨_,rfl⟩
 obtain ⟨x,hx⟩:∃ x,x=f (n / 32):=⟨_,rfl⟩
 rw [← hx,← hq] at yw
 rw [← hx] at hf
 have e2:(n:Int).tdiv 32=(q:Int):=by rw [Int.tdiv_eq_ediv_of_nonneg (by omega)]; omega
 have e3:wrap64 (q:Int)=q:=by simp only [wrap64]; omega
 have e4:((q:Int) < 32)=True:=eq_true (by omega)
 have e5:(n:Int).tmod 32=(s:Int):=by rw [Int.tmod_eq_emod_of_nonneg (by omega)]; omega
 have e6:(s:Int)*2=(d:Int):=by omega
 have hd62:d≤62:=by omega
 have hq32:q < 32:=by omega
 have e7:wrap64 (d:Int)=d:=by simp only [wrap64]; omega
 have HQ:=Aside0.mk (And.intro hq (And.intro hs (And.intro hd hx)))
 clear hq hs hd hx
 refine start_ (n:=15) (S:=fun w'=>w'.cell? ⟨w.heap.size,32,none⟩=some (.int .i64 (n:Nat))∧w'.cell? ⟨w.heap.size,q,none⟩=some (.int .u64 (x:Nat))) (ds:=[14]) #[false,false,false,false,false,false,false,false,false,false,false,false,false,false,false] (by kernel_rfl) rfl rfl ⟨y32,yw⟩ (fun hHeld=>?_)
 refine pure_ (i:=0) (N:=some 7) (v:=?_) (a':=?_) (bl_ 15 1) rfl rfl (by kernel_rfl) (fun _ _ _ h=>h) (Or.inl ⟨by rfl,?_⟩) ?_ ?_
 rotate_left
 ·intro w'
  go_simp
  with_reducible rfl
 rotate_left
 ·simp only [Act.put,zA_,zB_,zC_,i64_w]
  rfl
 refine pure_ (i:=3) (N:=some 10) (v:=?_) (a':=?_) (bl_ 15 9) rfl rfl (by kernel_rfl) (fun _ _ _ h=>h) (Or.inl ⟨by rfl,?_⟩) ?_ ?_
 rotate_left
 ·intro w'
  go_simp
  with_reducible rfl
 rotate_left
 ·simp only [Act.put,zA_,zB_,zC_,i64_w]
  rfl
 refine pure_ (i:=6) (N:=some 13) (v:=?_) (a':=?_) (bl_ 15 73) rfl rfl (by kernel_rfl) (fun _ _ _ h=>h) (Or.inl ⟨by rfl,?_⟩) ?_ ?_
 rotate_left
 ·intro w'
  go_simp
  with_reducible rfl
 rotate_left
 ·simp only [Act.put,zA_,zB_,zC_,i64_w]
  rfl
 refine pure_ (i:=12) (N:=some 19) (v:=?_) (a':=?_) (bl_ 15 4169) rfl rfl (by kernel_rfl) (fun _ _ _ h=>h) (Or.inl ⟨by rfl,?_⟩) ?_ ?_
 rotate_left
 ·intro w'
  go_simp
  with_reducible rfl
 rotate_left
 ·simp only [Act.put,zA_,zB_,zC_,i64_w]
  rfl
 refine take_ (i:=1) (N:=some 8) (v:=?_) (a':=?_) (bl_ 15 4171) rfl rfl (by kernel_rfl) (fun _ _ _ h=>h) (Or.inl ⟨by rfl,?_⟩) hHeld ?_ ?_
 rotate_left
 ·rintro w' ⟨s0,s1⟩
  go_simp
  with_reducible rfl
 rotate_left
 ·simp only [Act.put,zA_,zB_,zC_,i64_w]
  rfl
 refine pure_ (i:=2) (N:=some 9) (v:=?_) (a':=?_) (bl_ 15 4175) rfl rfl (by kernel_rfl) (fun _ _ _ h=>h) (Or.inl ⟨by rfl,?_⟩) ?_ ?_
 rotate_left
 ·intro w'
  go_simp
  with_reducible rfl
 rotate_left
 ·simp only [Act.put,zA_,zB_,zC_,i64_w]
  rfl
 refine pure_ (i:=4) (N:=some 11) (v:=?_) (a':=?_) (bl_ 15 4191) rfl rfl (by kernel_rfl) (fun _ _ _ h=>h) (Or.inl ⟨by rfl,?_⟩) ?_ ?_
 rotate_left
 ·intro w'
  go_simp
  with_reducible rfl
 rotate_left
 ·simp only [Act.put,zA_,zB_,zC_,i64_w]
  rfl
 refine take_ (i:=5) (N:=some 12) (v:=?_) (a':=?_) (bl_ 15 4223) rfl rfl (by kernel_rfl) (fun _ _ _ h=>h) (Or.inl ⟨by rfl,?_⟩) hHeld ?_ ?_
 rotate_left
 ·rintro w' ⟨s0,s1⟩
  go_simp
  with_reducible rfl
 rotate_left
 ·simp only [Act.put,zA_,zB_,zC_,i64_w]
  rfl
 refine take_ (i:=7) (N:=some 14) (v:=?_) (a':=?_) (bl_ 15 4351) rfl rfl (by kernel_rfl) (fun _ _ _ h=>h) (Or.inl ⟨by rfl,?_⟩) hHeld ?_ ?_
 rotate_left
 ·rintro w' ⟨s0,s1⟩
  go_simp
  with_reducible rfl
 rotate_left
 ·simp only [Act.put,zA_,zB_,zC_,i64_w]
  rfl
 refine pure_ (i:=8) (N:=some 15) (v:=?_) (a':=?_) (bl_ 15 4607) rfl rfl (by kernel_rfl) (fun _ _ _ h=>h) (Or.inl ⟨by rfl,?_⟩) ?_ ?_
 rotate_left
 ·intro w'
  go_simp
  with_reducible rfl
 rotate_left
 ·simp only [Act.put,zA_,zB_,zC_,i64_w]
  rfl
 refine pure_ (i:=9) (N:=some 16) (v:=?_) (a':=?_) (bl_ 15 5119) rfl rfl (by kernel_rfl) (fun _ _ _ h=>h) (Or.inl ⟨by rfl,?_⟩) ?_ ?_
 rotate_left
 ·intro w'
  go_simp
  with_reducible rfl
 rotate_left
 ·simp only [Act.put,zA_,zB_,zC_,i64_w]
  rfl
 refine pure_ (i:=10) (N:=some 17) (v:=?_) (a':=?_) (bl_ 15 6143) rfl rfl (by kernel_rfl) (fun _ _ _ h=>h) (Or.inl ⟨by rfl,?_⟩) ?_ ?_
 rotate_left
 ·intro w'
  go_simp
  with_reducible rfl
 rotate_left
 ·simp only [Act.put,zA_,zB_,zC_,i64_w]
  rfl
 refine pure_ (i:=11) (N:=some 18) (v:=?_) (a':=?_) (bl_ 15 8191) rfl rfl (by kernel_rfl) (fun _ _ _ h=>h) (Or.inl ⟨by rfl,?_⟩) ?_ ?_
 rotate_left
 ·intro w'
  go_simp
  with_reducible rfl
 rotate_left
 ·simp only [Act.put,zA_,zB_,zC_,i64_w]
  rfl
 refine pure_ (i:=13) (N:=some 20) (v:=?_) (a':=?_) (bl_ 15 16383) rfl rfl (by kernel_rfl) (fun _ _ _ h=>h) (Or.inl ⟨by rfl,?_⟩) ?_ ?_
 rotate_left
 ·intro w'
  go_simp
  with_reducible rfl
 rotate_left
 ·simp only [Act.put,zA_,zB_,zC_,i64_w]
  rfl
 refine last_ (i:=14) (N:=none) (bl_ 15 32767) rfl rfl (by kernel_rfl) (by decide) (fun K hK=>?_)
 refine skip_ (w1:=((w.alloc (.cells (stc f n r) 68)).alloc (.cells z34_ 68)).drew.setCell ⟨w.heap.size,q,none⟩ (.int .u64 (bits .andNot .u64 (x:Int) (IntKind.u64.wrap (3*2 ^ d))))) (by rfl) rfl (by go_simp) ?_
 refine hK.out _ _ ?_
 clear hK K
 refine done_ (by kernel_rfl) ?_
 rw [pop_word x d hf hd62]
 have bx3:=blk_put (blk_drew HX.out) q (.int .u64 ((x &&& (18446744073709551615 - 3*2 ^ d):Nat):Int)) (stc_set_word f n r q _ hq32)
 have by3:=blk_far (p:=⟨w.heap.size,q,none⟩) (blk_drew HY.out) (by simp) (.int .u64 ((x &&& (18446744073709551615 - 3*2 ^ d):Nat):Int))
 have hb3:=below_set (j:=q) (v:=.int .u64 ((x &&& (18446744073709551615 - 3*2 ^ d):Nat):Int)) HB.out (Nat.le_refl _)
 have HX3:=Aside0.mk bx3
 have HY3:=Aside0.mk by3
 have HB3:=Aside0.mk hb3
 clear bx3 by3 hb3
 generalize World.setCell _ _ _=w3 at HX3 HY3 HB3 ⊢
 go_wp2_with (first
  | (refine wpList_load_row rfl 68 _ rfl w.heap.size rfl 68 _ (0,0) _ HX3.out Tryd.underlying68 rfl (by rw [stc_size]; exact info68) ?_)
  | (refine wpList_store_row rfl 68 _ _ rfl (w.heap.size+1) _ (by first|rfl|simp) rfl 68 _ (by simpa using HY3.out) (by rw [stc_size]; exact info68) (by rw [stc_size]; rfl) (stc_one _ _ _) ?_))
 have hy4:w3.heap[w.heap.size+1]? = _:=(by simpa using HY3.out)
 have hy5:=setRow_heap w3 (w.heap.size+1) _ (stc (fun j=>if j=q then x &&& (18446744073709551615 - 3*2 ^ d) else f j) n r) 68 (0,0) hy4
 refine bodyPost_ret (results_cell_row rfl _ _ (w.heap.size+1) 68 _ (0,0) _ rfl hy5 Tryd.underlying68 rfl (by rw [stc_size]; exact info68)) rfl ⟨?_,below_setRow HB3.out (by omega) _⟩
 obtain ⟨rfl,rfl,rfl,rfl⟩:=HQ.out
 congr 2
 refine stc_ext _ _ _ _ _ _ (fun i _=>?_) rfl rfl
 by_cases h:i=n / 32
 ·rw [if_pos h,if_pos h,h]
 ·rw [if_neg h,if_neg h]
theorem push_word (x k d:Nat) (hx:x < 18446744073709551616) (hk:k < 4) (hd:d≤62):bits .or .u64 (x:Int) (IntKind.u64.wrap ((k:Int)*2 ^ d))=((x ||| k*2 ^ d:Nat):Int):=by
 have h2:2 ^ d≤2 ^ 62:=Nat.pow_le_pow_right (by decide) hd
 have hs:k*2 ^ d < 18446744073709551616:=Nat.lt_of_le_of_lt (Nat.mul_le_mul (Nat.le_of_lt_succ hk) h2) (by decide)
 have e:((k:Int)*2 ^ d:Int)=((k*2 ^ d:Nat):Int):=by simp
 rw [e,IntKind.wrap_u64,show (((k*2 ^ d:Nat):Int)%18446744073709551616)=((k*2 ^ d:Nat):Int) by omega,u64_or_nat _ _ hx hs]
set_option maxHeartbeats 2000000 in
set_option maxRecDepth 10000 in
theorem push_ (f:Nat→Nat) (n r k:Nat) (hn:n < 1024) (hk:k < 4) (hf:f (n / 32) < 18446744073709551616) (w:World) :
  Calls Tryd.prog 89 #[.agg (stc f n r),.int .i64 (k:Nat)] w fun e w'=>e=.returned (.agg (stc (fun j=>if j=n / 32 then f j ||| k*2 ^ (2*(n%32)) else f j) (n+1) r))∧Below w.heap.size w w':=by
 have hb:=below_alloc (below_alloc (Below.refl w.heap.size w) (.cells (stc f n r) 68)) (.cells z34_ 68)
 have bx:=blk_alloc (heap_alloc_new w (.cells (stc f n r) 68)) (.cells z34_ 68)
 have by_:=heap_alloc_new (w.alloc (.cells (stc f n r) 68)) (.cells z34_ 68)
 have y32:=(blk_cell bx 32).trans (stc_h f n r)
 have yw:=(blk_cell bx (n / 32)).trans (stc_word f n r (n / 32) (by omega))
 have HX:=Aside0.mk bx
 have HY:=Aside0.mk by_
 have HB:=Aside0.mk hb.drew
 clear hb bx by_
 go_enter Tryd.func89,Tryd.ntmps89
 go_wp2_with fail
 obtain ⟨q,hq⟩:∃ q,q=n / 32:=⟨_,rfl⟩
 obtain ⟨s,hs⟩:∃ s,s=n%32:=⟨_,rfl⟩
 obtain ⟨d,hd⟩:∃ d,d=2*s:=⟨_,rfl⟩
 obtain ⟨x,hx⟩:∃ x,x=f (n / 32):=⟨_,rfl⟩
 rw [← hx,← hq] at yw
 rw [← hx] at hf
 have e2:(n:Int).tdiv 32=(q:Int):=by rw [Int.tdiv_eq_ediv_of_nonneg (by omega)]; omega
 have e3:wrap64 (q:Int)=q:=by simp only [wrap64]; omega
 have e4:((q:Int) < 32)=True:=eq_true (by omega)
 have e5:(n:Int).tmod 32=(s:Int):=by rw [Int.tmod_eq_emod_of_nonneg (by omega)]; omega
 have e6:(s:Int)*2=(d:Int):=by omega
 have hd62:d≤62:=by omega
 have hq32:q < 32:=by omega
 have e7:wrap64 (d:Int)=d:=by simp only [wrap64]; omega
 have HQ:=Aside0.mk (And.intro hq (And.intro hs (And.intro hd hx)))
 clear hq hs hd hx
 have e9:IntKind.u64.wrap (k:Int)=k:=by rw [IntKind.wrap_u64]; omega
 refine start_ (n:=17) (S:=fun w'=>w'.cell? ⟨w.heap.size,32,none⟩=some (.int .i64 (n:Nat))∧w'.cell? ⟨w.heap.size,q,none⟩=some (.int .u64 (x:Nat))) (ds:=[16]) #[false,false,false,false,false,false,false,false,false,false,false,false,false,false,false,false,false] (by kernel_rfl) rfl rfl ⟨y32,yw⟩ (fun hHeld=>?_)
 refine pure_ (i:=0) (N:=some 5) (v:=?_) (a':=?_) (bl_ 17 1) rfl rfl (by kernel_rfl) (fun _ _ _ h=>h) (Or.inl ⟨by rfl,?_⟩) ?_ ?_
 rotate_left
 ·intro w'
  go_simp
  with_reducible rfl
 rotate_left
 ·simp only [Act.put,zA_,zB_,zC_,i64_w]
  rfl
 refine pure_ (i:=3) (N:=some 8) (v:=?_) (a':=?_) (bl_ 17 9) rfl rfl (by kernel_rfl) (fun _ _ _ h=>h) (Or.inl ⟨by rfl,?_⟩) ?_ ?_
 rotate_left
 ·intro w'
  go_simp
  with_reducible rfl
 rotate_left
 ·simp only [Act.put,zA_,zB_,zC_,i64_w]
  rfl
 refine pure_ (i:=6) (N:=some 11) (v:=?_) (a':=?_) (bl_ 17 73) rfl rfl (by kernel_rfl) (fun _ _ _ h=>h) (Or.inl ⟨by rfl,?_⟩) ?_ ?_
 rotate_left
 ·intro w'
  go_simp
  with_reducible rfl
 rotate_left
 ·simp only [Act.put,zA_,zB_,zC_,i64_w]
  rfl
 refine pure_ (i:=7) (N:=some 12) (v:=?_) (a':=?_) (bl_ 17 201) rfl rfl (by kernel_rfl) (fun _ _ _ h=>h) (Or.inl ⟨by rfl,?_⟩) ?_ ?_
 rotate_left
 ·intro w'
  go_simp
  with_reducible rfl
 rotate_left
 ·simp only [Act.put,zA_,zB_,zC_,i64_w]
  rfl
 refine pure_ (i:=8) (N:=some 13) (v:=?_) (a':=?_) (bl_ 17 457) rfl rfl (by kernel_rfl) (fun _ _ _ h=>h) (Or.inl ⟨by rfl,?_⟩) ?_ ?_
 rotate_left
 ·intro w'
  go_simp
  with_reducible rfl
 rotate_left
 ·simp only [Act.put,zA_,zB_,zC_,i64_w]
  rfl
 refine pure_ (i:=14) (N:=some 19) (v:=?_) (a':=?_) (bl_ 17 16841) rfl rfl (by kernel_rfl) (fun _ _ _ h=>h) (Or.inl ⟨by rfl,?_⟩) ?_ ?_
 rotate_left
 ·intro w'
  go_simp
  with_reducible rfl
 rotate_left
 ·simp only [Act.put,zA_,zB_,zC_,i64_w]
  rfl
 refine take_ (i:=1) (N:=some 6) (v:=?_) (a':=?_) (bl_ 17 16843) rfl rfl (by kernel_rfl) (fun _ _ _ h=>h) (Or.inl ⟨by rfl,?_⟩) hHeld ?_ ?_
 rotate_left
 ·rintro w' ⟨s0,s1⟩
  go_simp
  with_reducible rfl
 rotate_left
 ·simp only [Act.put,zA_,zB_,zC_,i64_w]
  rfl
 refine pure_ (i:=2) (N:=some 7) (v:=?_) (a':=?_) (bl_ 17 16847) rfl rfl (by kernel_rfl) (fun _ _ _ h=>h) (Or.inl ⟨by rfl,?_⟩) ?_ ?_
 rotate_left
 ·intro w'
  go_simp
  with_reducible rfl
 rotate_left
 ·simp only [Act.put,zA_,zB_,zC_,i64_w]
  rfl
 refine pure_ (i:=4) (N:=some 9) (v:=?_) (a':=?_) (bl_ 17 16863) rfl rfl (by kernel_rfl) (fun _ _ _ h=>h) (Or.inl ⟨by rfl,?_⟩) ?_ ?_
 rotate_left
 ·intro w'
  go_simp
  with_reducible rfl
 rotate_left
 ·simp only [Act.put,zA_,zB_,zC_,i64_w]
  rfl
 refine take_ (i:=5) (N:=some 10) (v:=?_) (a':=?_) (bl_ 17 16895) rfl rfl (by kernel_rfl) (fun _ _ _ h=>h) (Or.inl ⟨by rfl,?_⟩) hHeld ?_ ?_
 rotate_left
 ·rintro w' ⟨s0,s1⟩
  go_simp
  with_reducible rfl
 rotate_left
 ·simp only [Act.put,zA_,zB_,zC_,i64_w]
  rfl
 refine take_ (i:=9) (N:=some 14) (v:=?_) (a':=?_) (bl_ 17 17407) rfl rfl (by kernel_rfl) (fun _ _ _ h=>h) (Or.inl ⟨by rfl,?_⟩) hHeld ?_ ?_
 rotate_left
 ·rintro w' ⟨s0,s1⟩
  go_simp
  with_reducible rfl
 rotate_left
 ·simp only [Act.put,zA_,zB_,zC_,i64_w]
  rfl
 refine pure_ (i:=10) (N:=some 15) (v:=?_) (a':=?_) (bl_ 17 18431) rfl rfl (by kernel_rfl) (fun _ _ _ h=>h) (Or.inl ⟨by rfl,?_⟩) ?_ ?_
 rotate_left
 ·intro w'
  go_simp
  with_reducible rfl
 rotate_left
 ·simp only [Act.put,zA_,zB_,zC_,i64_w]
  rfl
 refine pure_ (i:=11) (N:=some 16) (v:=?_) (a':=?_) (bl_ 17 20479) rfl rfl (by kernel_rfl) (fun _ _ _ h=>h) (Or.inl ⟨by rfl,?_⟩) ?_ ?_
 rotate_left
 ·intro w'
  go_simp
  with_reducible rfl
 rotate_left
 ·simp only [Act.put,zA_,zB_,zC_,i64_w]
  rfl
 refine pure_ (i:=12) (N:=some 17) (v:=?_) (a':=?_) (bl_ 17 24575) rfl rfl (by kernel_rfl) (fun _ _ _ h=>h) (Or.inl ⟨by rfl,?_⟩) ?_ ?_
 rotate_left
 ·intro w'
  go_simp
  with_reducible rfl
 rotate_left
 ·simp only [Act.put,zA_,zB_,zC_,i64_w]
  rfl
 refine pure_ (i:=13) (N:=some 18) (v:=?_) (a':=?_) (bl_ 17 32767) rfl rfl (by kernel_rfl) (fun _ _ _ h=>h) (Or.inl ⟨by rfl,?_⟩) ?_ ?_
 rotate_left
 ·intro w'
  go_simp
  with_reducible rfl
 rotate_left
 ·simp only [Act.put,zA_,zB_,zC_,i64_w]
  rfl
 refine pure_ (i:=15) (N:=some 20) (v:=?_) (a':=?_) (bl_ 17 65535) rfl rfl (by kernel_rfl) (fun _ _ _ h=>h) (Or.inl ⟨by rfl,?_⟩) ?_ ?_
 rotate_left
 ·intro w'
  go_simp
  with_reducible rfl
 rotate_left
 ·simp only [Act.put,zA_,zB_,zC_,i64_w]
  rfl
 refine last_ (i:=16) (N:=none) (bl_ 17 131071) rfl rfl (by kernel_rfl) (by decide) (fun K hK=>?_)
 refine skip_ (w1:=((w.alloc (.cells (stc f n r) 68)).alloc (.cells z34_ 68)).drew.setCell ⟨w.heap.size,q,none⟩ (.int .u64 (bits .or .u64 (x:Int) (IntKind.u64.wrap ((k:Int)*2 ^ d))))) (by rfl) rfl (by go_simp) ?_
 refine hK.out _ _ ?_
 clear hK K
 refine done_ (by kernel_rfl) ?_
 rw [push_word x k d hf hk hd62]
 have HX3:=Aside0.mk (blk_put (blk_drew HX.out) q (.int .u64 ((x ||| k*2 ^ d:Nat):Int)) (stc_set_word f n r q _ hq32))
 have HY3:=Aside0.mk (blk_far (p:=⟨w.heap.size,q,none⟩) (blk_drew HY.out) (by simp) (.int .u64 ((x ||| k*2 ^ d:Nat):Int)))
 have HB3:=Aside0.mk (below_set (j:=q) (v:=(.int .u64 ((x ||| k*2 ^ d:Nat):Int))) HB.out (Nat.le_refl _))
 generalize World.setCell _ _ _=w3 at HX3 HY3 HB3 ⊢
 have y32:=(blk_cell HX3.out 32).trans (stc_h _ _ _)
 have z32:=blk_frozen HX3.out 32
 have e8:wrap64 ((n:Int)+1)=(n:Int)+1:=by simp only [wrap64]; omega
 have HX4:Aside0 ((w3.setCell ⟨w.heap.size,32,none⟩ (.int .i64 ((n:Int)+1))).heap[w.heap.size]? = some (.cells (stc (fun j=>if j=q then x ||| k*2 ^ d else f j) (n+1) r) 68 (0,0))):=⟨blk_put HX3.out 32 _ (stc_set_h (fun j=>if j=q then x ||| k*2 ^ d else f j) n (n+1) r)⟩
 have HY4:Aside0 ((w3.setCell ⟨w.heap.size,32,none⟩ (.int .i64 ((n:Int)+1))).heap[w.heap.size+1]? = some (.cells z34_ 68 (0,0))):=⟨blk_far (by simpa using HY3.out) (by simp) _⟩
 have HB4:=Aside0.mk (below_set (j:=32) (v:=.int .i64 ((n:Int)+1)) HB3.out (Nat.le_refl _))
 clear e2 e3 e4 e5 e6 e7 e9 yw
 go_wp2_with (first
  | (refine wpList_load_row rfl 68 _ rfl w.heap.size rfl 68 _ (0,0) _ HX4.out Tryd.underlying68 rfl (by rw [stc_size]; exact info68) ?_)
  | (refine wpList_store_row rfl 68 _ _ rfl (w.heap.size+1) _ (by first|rfl|simp) rfl 68 _ (by simpa using HY4.out) (by rw [stc_size]; exact info68) (by rw [stc_size]; rfl) (stc_one _ _ _) ?_))
 have hy5:=setRow_heap _ (w.heap.size+1) _ (stc (fun j=>if j=q then x ||| k*2 ^ d else f j) (n+1) r) 68 (0,0) HY4.out
 refine bodyPost_ret (results_cell_row rfl _ _ (w.heap.size+1) 68 _ (0,0) _ rfl hy5 Tryd.underlying68 rfl (by rw [stc_size]; exact info68)) rfl ⟨?_,below_setRow HB4.out (by omega) _⟩
 obtain ⟨rfl,rfl,rfl,rfl⟩:=HQ.out
 congr 2
 refine stc_ext _ _ _ _ _ _ (fun i _=>?_) rfl rfl
 by_cases h:i=n / 32
 ·rw [if_pos h,if_pos h,h]
 ·rw [if_neg h,if_neg h]
end Go.Proofs.YtcmdjpolgaejoaaDoor.Gd
namespace Go.Proofs.YtcmdjpolgaejoaaDoor.Gd
open Go.RowKit Go.Proofs.YtcmdjpolgaejoaaDoorW.PrintWords Go.Proofs.YtcmdjpolgaejoaaDoorW.PrintLast Go.Proofs.YtcmdjpolgaejoaaDoorW.PrintMore
set_option linter.unusedVariables false
set_option linter.unusedSimpArgs false
attribute [local go_sem] stc_h stc_r stc_set_h stc_set_r
def topv (f:Nat→Nat) (h:Nat):Nat:=if h=0 then 0 else (f ((h - 1) / 32) / 2 ^ (2*((h - 1)%32))) &&& 3
def popf (f:Nat→Nat) (n:Nat):Nat→Nat:=fun j=>if j=n / 32 then f j &&& (18446744073709551615 - 3*2 ^ (2*(n%32))) else f j
def pushf (f:Nat→Nat) (n k:Nat):Nat→Nat:=fun j=>if j=n / 32 then f j ||| k*2 ^ (2*(n%32)) else f j
theorem top_ (f:Nat→Nat) (h r:Nat) (hn:h≤1024) (hf:∀ i,f i < 18446744073709551616) (w:World):Calls Tryd.prog 54 #[.agg (stc f h r)] w fun e w'=>e=.returned (.int .i64 (topv f h:Nat))∧Below w.heap.size w w':=by
 cases h with
 | zero=>exact top_zero f r w
 | succ n=>exact top_some f n r (by omega) (hf _) w
set_option maxHeartbeats 2000000 in
set_option maxRecDepth 10000 in
theorem needs_bad (f:Nat→Nat) (h r k:Nat) (hn:h≤1024) (hf:∀ i,f i < 18446744073709551616) (ht:topv f h≠k) (w:World) :
  Calls Tryd.prog 86 #[.agg (stc f h r),.int .i64 (k:Nat)] w fun e w'=>e=.panicked (bad 201)∧Below w.heap.size w w':=by
 have HX0:Aside0 (((w.alloc (.cells (stc f h r) 68)).alloc (.cells z34_ 68)).heap[w.heap.size]? = some (.cells (stc f h r) 68 (0,0))):=⟨blk_alloc (heap_alloc_new w _) _⟩
 have HY0:Aside0 (((w.alloc (.cells (stc f h r) 68)).alloc (.cells z34_ 68)).heap[w.heap.size+1]? = some (.cells z34_ 68 (0,0))):=⟨by
  have:=heap_alloc_new (w.alloc (.cells (stc f h r) 68)) (.cells z34_ 68)
  rwa [show (w.alloc (.cells (stc f h r) 68)).heap.size=w.heap.size+1 by simp] at this⟩
 have HB0:=Aside0.mk (below_alloc (below_alloc (Below.refl w.heap.size w) (.cells (stc f h r) 68)) (.cells z34_ 68))
 have ne:(((topv f h:Nat):Int) == ((k:Nat):Int))=false:=by simpa using fun e=>ht (by omega)
 go_enter Tryd.func86,Tryd.ntmps86
 go_wp2_with (first
  | (refine wpList_load_row rfl 68 _ rfl w.heap.size rfl 68 _ (0,0) _ (by first|exact HX0.out|exact HX1.out|exact HX2.out) Tryd.underlying68 rfl (by rw [stc_size]; exact info68) ?_)
  | (go_at_call 54; (refine (top_ f h r hn hf _).mono ?_); rintro e w1 ⟨rfl,hb1⟩)
  | (go_at_call 53; (refine (must_no 201 _).mono ?_); rintro e w2 ⟨rfl,rfl⟩))
 exact ⟨rfl,rfl,below_then HB0.out HB0.out.size hb1⟩
set_option maxHeartbeats 2000000 in
set_option maxRecDepth 10000 in
theorem needs_ok (f:Nat→Nat) (n r k:Nat) (hn:n < 1024) (hf:∀ i,f i < 18446744073709551616) (ht:topv f (n+1)=k) (w:World) :
  Calls Tryd.prog 86 #[.agg (stc f (n+1) r),.int .i64 (k:Nat)] w fun e w'=>e=.returned (.agg (stc (popf f n) n r))∧Below w.heap.size w w':=by
 obtain ⟨h,hh⟩:∃ h,h=n+1:=⟨_,rfl⟩
 rw [← hh] at ht ⊢
 have HH:=Aside0.mk hh
 clear hh
 have HX0:Aside0 (((w.alloc (.cells (stc f h r) 68)).alloc (.cells z34_ 68)).heap[w.heap.size]? = some (.cells (stc f h r) 68 (0,0))):=⟨blk_alloc (heap_alloc_new w _) _⟩
 have HY0:Aside0 (((w.alloc (.cells (stc f h r) 68)).alloc (.cells z34_ 68)).heap[w.heap.size+1]? = some (.cells z34_ 68 (0,0))):=⟨by
  have:=heap_alloc_new (w.alloc (.cells (stc f h r) 68)) (.cells z34_ 68)
  rwa [show (w.alloc (.cells (stc f h r) 68)).heap.size=w.heap.size+1 by simp] at this⟩
 have HB0:=Aside0.mk (below_alloc (below_alloc (Below.refl w.heap.size w) (.cells (stc f h r) 68)) (.cells z34_ 68))
 have ne:(((topv f h:Nat):Int) == ((k:Nat):Int))=true:=by rw [ht]; exact beq_self_eq_true _
 have hn1:h≤1024:=by have:=HH.out; omega
 go_enter Tryd.func86,Tryd.ntmps86
 go_wp2_with (first
  | (refine wpList_load_row rfl 68 _ rfl w.heap.size rfl 68 _ (0,0) _ (by first|exact HX0.out|exact HX1.out|exact HX2.out) Tryd.underlying68 rfl (by rw [stc_size]; exact info68) ?_)
  | (go_at_call 54; (refine (top_ f h r hn1 hf _).mono ?_); rintro e w1 ⟨rfl,hb1⟩; have HX1:=Aside0.mk (blk_below HX0.out hb1); have HY1:=Aside0.mk (blk_below HY0.out hb1); have HB1:=Aside0.mk (below_then HB0.out HB0.out.size hb1); clear hb1)
  | (go_at_call 53; (refine (must_yes 201 _).mono ?_); rintro e w2 ⟨rfl,rfl⟩)
  | (go_at_call 103; (refine (by rw [HH.out]; exact pop_ f n r hn (hf _) _:Calls Tryd.prog 103 #[.agg (stc f h r)] _ _).mono ?_; rintro e w3 ⟨rfl,hb3⟩; have HY2:=Aside0.mk (blk_below HY1.out hb3); have HB2:=Aside0.mk (below_then HB1.out HB1.out.size hb3); clear hb3))
  | (refine wpList_store_row rfl 68 _ _ rfl (w.heap.size+1) _ (by first|rfl|simp) rfl 68 _ HY2.out (by rw [stc_size]; exact info68) (by rw [stc_size]; rfl) (stc_one _ _ _) ?_))
 have hy5:=setRow_heap _ (w.heap.size+1) _ (stc (popf f n) n r) 68 (0,0) HY2.out
 exact bodyPost_ret (results_cell_row rfl _ _ (w.heap.size+1) 68 _ (0,0) _ rfl hy5 Tryd.underlying68 rfl (by rw [stc_size]; exact info68)) rfl ⟨rfl,below_setRow HB2.out (by omega) _⟩
set_option maxHeartbeats 2000000 in
set_option maxRecDepth 10000 in
theorem gets_bad (f:Nat→Nat) (h r k:Nat) (hn:1024≤h) (w:World) :
  Calls Tryd.prog 56 #[.agg (stc f h r),.int .i64 (k:Nat)] w fun e w'=>e=.panicked (bad 201)∧Below w.heap.size w w':=by
 have HX0:Aside0 (((w.alloc (.cells (stc f h r) 68)).alloc (.cells z34_ 68)).heap[w.heap.size]? = some (.cells (stc f h r) 68 (0,0))):=⟨blk_alloc (heap_alloc_new w _) _⟩
 have HY0:Aside0 (((w.alloc (.cells (stc f h r) 68)).alloc (.cells z34_ 68)).heap[w.heap.size+1]? = some (.cells z34_ 68 (0,0))):=⟨by
  have:=heap_alloc_new (w.alloc (.cells (stc f h r) 68)) (.cells z34_ 68)
  rwa [show (w.alloc (.cells (stc f h r) 68)).heap.size=w.heap.size+1 by simp] at this⟩
 have HB0:=Aside0.mk (below_alloc (below_alloc (Below.refl w.heap.size w) (.cells (stc f h r) 68)) (.cells z34_ 68))
 have ne:decide (((h:Nat):Int) < 1024)=false:=decide_eq_false (by omega)
 go_enter Tryd.func56,Tryd.ntmps56
 go_wp2_with (first
  | (refine wpList_load_row rfl 68 _ rfl w.heap.size rfl 68 _ (0,0) _ (by first|exact HX0.out|exact HX1.out|exact HX2.out) Tryd.underlying68 rfl (by rw [stc_size]; exact info68) ?_)
  | (go_at_call 53; (refine (must_no 201 _).mono ?_); rintro e w2 ⟨rfl,rfl⟩))
 exact ⟨rfl,rfl,HB0.out⟩
set_option maxHeartbeats 2000000 in
set_option maxRecDepth 10000 in
theorem gets_ok (f:Nat→Nat) (h r k:Nat) (hn:h < 1024) (hk:k < 4) (hf:∀ i,f i < 18446744073709551616) (w:World) :
  Calls Tryd.prog 56 #[.agg (stc f h r),.int .i64 (k:Nat)] w fun e w'=>e=.returned (.agg (stc (pushf f h k) (h+1) r))∧Below w.heap.size w w':=by
 have HX0:Aside0 (((w.alloc (.cells (stc f h r) 68)).alloc (.cells z34_ 68)).heap[w.heap.size]? = some (.cells (stc f h r) 68 (0,0))):=⟨blk_alloc (heap_alloc_new w _) _⟩
 have HY0:Aside0 (((w.alloc (.cells (stc f h r) 68)).alloc (.cells z34_ 68)).heap[w.heap.size+1]? = some (.cells z34_ 68 (0,0))):=⟨by
  have:=heap_alloc_new (w.alloc (.cells (stc f h r) 68)) (.cells z34_ 68)
  rwa [show (w.alloc (.cells (stc f h r) 68)).heap.size=w.heap.size+1 by simp] at this⟩
 have HB0:=Aside0.mk (below_alloc (below_alloc (Below.refl w.heap.size w) (.cells (stc f h r) 68)) (.cells z34_ 68))
 have ne:decide (((h:Nat):Int) < 1024)=true:=decide_eq_true (by omega)
 go_enter Tryd.func56,Tryd.ntmps56
 go_wp2_with (first
  | (refine wpList_load_row rfl 68 _ rfl w.heap.size rfl 68 _ (0,0) _ (by first|exact HX0.out|exact HX1.out|exact HX2.out) Tryd.underlying68 rfl (by rw [stc_size]; exact info68) ?_)
  | (go_at_call 53; (refine (must_yes 201 _).mono ?_); rintro e w2 ⟨rfl,rfl⟩)
  | (go_at_call 89; (refine (push_ f h r k hn hk (hf _) _).mono ?_; rintro e w3 ⟨rfl,hb3⟩; have HY2:=Aside0.mk (blk_below HY0.out hb3); have HB2:=Aside0.mk (below_then HB0.out HB0.out.size hb3); clear hb3))
  | (refine wpList_store_row rfl 68 _ _ rfl (w.heap.size+1) _ (by first|rfl|simp) rfl 68 _ HY2.out (by rw [stc_size]; exact info68) (by rw [stc_size]; rfl) (stc_one _ _ _) ?_))
 have hy5:=setRow_heap _ (w.heap.size+1) _ (stc (pushf f h k) (h+1) r) 68 (0,0) HY2.out
 exact bodyPost_ret (results_cell_row rfl _ _ (w.heap.size+1) 68 _ (0,0) _ rfl hy5 Tryd.underlying68 rfl (by rw [stc_size]; exact info68)) rfl ⟨rfl,below_setRow HB2.out (by omega) _⟩
theorem new2 (w:World) (a b:Obj):((w.alloc a).alloc b).heap[w.heap.size+1]? = some b:=by
 have:=heap_alloc_new (w.alloc a) b
 rwa [show (w.alloc a).heap.size=w.heap.size+1 by simp] at this
set_option maxHeartbeats 2000000 in
set_option maxRecDepth 10000 in
theorem opened_bad (f:Nat→Nat) (h r:Nat) (hn:4≤r) (w:World) :
  Calls Tryd.prog 88 #[.agg (stc f h r)] w fun e w'=>e=.panicked (bad 201)∧Below w.heap.size w w':=by
 have HX0:Aside0 (((w.alloc (.cells (stc f h r) 68)).alloc (.cells z34_ 68)).heap[w.heap.size]? = some (.cells (stc f h r) 68 (0,0))):=⟨blk_alloc (heap_alloc_new w _) _⟩
 have HY0:Aside0 (((w.alloc (.cells (stc f h r) 68)).alloc (.cells z34_ 68)).heap[w.heap.size+1]? = some (.cells z34_ 68 (0,0))):=⟨by
  have:=heap_alloc_new (w.alloc (.cells (stc f h r) 68)) (.cells z34_ 68)
  rwa [show (w.alloc (.cells (stc f h r) 68)).heap.size=w.heap.size+1 by simp] at this⟩
 have HB0:=Aside0.mk (below_alloc (below_alloc (Below.refl w.heap.size w) (.cells (stc f h r) 68)) (.cells z34_ 68))
 have ne:decide (((r:Nat):Int) < 4)=false:=decide_eq_false (by omega)
 go_enter Tryd.func88,Tryd.ntmps88
 go_wp2_with (first
  | (go_at_call 53; (refine (must_no 201 _).mono ?_); rintro e w2 ⟨rfl,rfl⟩))
 exact ⟨rfl,rfl,HB0.out⟩
set_option maxHeartbeats 2000000 in
set_option maxRecDepth 10000 in
theorem opened_ok (f:Nat→Nat) (h r:Nat) (hn:r < 4) (w:World) :
  Calls Tryd.prog 88 #[.agg (stc f h r)] w fun e w'=>e=.returned (.agg (stc f h (r+1)))∧Below w.heap.size w w':=by
 have ne:decide (((r:Nat):Int) < 4)=true:=decide_eq_true (by omega)
 have e8:wrap64 ((r:Int)+1)=(r:Int)+1:=by simp only [wrap64]; omega
 have e9:(stc f h r).setIfInBounds 33 (.int .i64 ((r:Int)+1))=stc f h (r+1):=stc_set_r f h r (r+1)
 go_enter Tryd.func88,Tryd.ntmps88
 go_wp2_with (first
  | (go_at_call 53; (refine (must_yes 201 _).mono ?_); rintro e w2 ⟨rfl,rfl⟩)
  | (refine wpList_load_row rfl 68 _ rfl w.heap.size rfl 68 _ (0,0) _ (blk_alloc (heap_alloc_new w _) _) Tryd.underlying68 rfl (by rw [stc_size]; exact info68) ?_)
  | (refine wpList_store_row rfl 68 _ _ rfl (w.heap.size+1) _ (by first|rfl|simp) rfl 68 _ (new2 w _ _) (by rw [stc_size]; exact info68) (by rw [stc_size]; rfl) (stc_one _ _ _) ?_))
 exact bodyPost_ret (results_cell_row rfl _ _ (w.heap.size+1) 68 _ (0,0) _ rfl (setRow_heap _ (w.heap.size+1) _ (stc f h (r+1)) 68 (0,0) (new2 w _ _)) Tryd.underlying68 rfl (by rw [stc_size]; exact info68)) rfl ⟨rfl,below_setRow (below_alloc (below_alloc (Below.refl _ _) _) _) (by omega) _⟩
end Go.Proofs.YtcmdjpolgaejoaaDoor.Gd
namespace Go.Proofs.YtcmdjpolgaejoaaDoor.Gd
set_option linter.unusedVariables false
set_option linter.unusedSimpArgs false
def wd:List Nat→Nat→Nat
 | []=>fun _=>0
 | k :: t=>pushf (wd t) t.length k
def bits2 (ks:List Nat) (j:Nat):Nat:=ks.reverse.getD j 0
theorem bits2_cons (k:Nat) (t:List Nat) (j:Nat):bits2 (k :: t) j=if j=t.length then k else bits2 t j:=by
 unfold bits2
 simp only [List.reverse_cons,List.getD_eq_getElem?_getD,List.getElem?_append,List.length_reverse]
 by_cases h:j < t.length
 ·simp [h,Nat.ne_of_lt h]
 ·by_cases e:j=t.length
  ·simp [e]
  ·have h1:¬ j < t.length:=h
   have h2:j - t.length≠0:=by omega
   have h3:t.length≤j:=by omega
   have h4:[k][j - t.length]? = none:=List.getElem?_eq_none (by simp; omega)
   simp [h,e,h3,h4]
theorem bits2_out (t:List Nat) (j:Nat) (h:t.length≤j):bits2 t j=0:=by
 unfold bits2
 simp [List.getD_eq_getElem?_getD,List.getElem?_eq_none,h]
theorem wd_test (ks:List Nat) (h:∀ k∈ks,k < 4) (i b:Nat):(wd ks i).testBit b=(decide (b < 64) && (bits2 ks (32*i+b / 2)).testBit (b%2)):=by
 induction ks with
 | nil=>simp [wd,bits2]
 | cons k t ih =>
  have ht:=ih (fun x hx=>h x (List.mem_cons_of_mem _ hx))
  have hk:k < 4:=h k List.mem_cons_self
  have hk2:∀ c,2≤c→k.testBit c=false:=fun c hc=>Nat.testBit_lt_two_pow (Nat.lt_of_lt_of_le hk (Nat.pow_le_pow_right (by decide) hc:2 ^ 2≤2 ^ c))
  unfold wd pushf
  rw [bits2_cons]
  by_cases e:i=t.length / 32
  ·simp only [if_pos e]
   rw [Nat.testBit_or,ht,Nat.testBit_mul_two_pow]
   by_cases e2:32*i+b / 2=t.length
   ·rw [if_pos e2,bits2_out _ _ (by omega)]
    have hb:b - 2*(t.length%32)=b%2:=by omega
    have hb2:2*(t.length%32)≤b:=by omega
    have hb3:b < 64:=by omega
    simp [hb,hb2,hb3]
   ·rw [if_neg e2]
    have:(decide (2*(t.length%32)≤b) && k.testBit (b - 2*(t.length%32)))=false:=by
     by_cases h1:2*(t.length%32)≤b
     ·rw [hk2 _ (by omega)]; simp
     ·simp [h1]
    simp only [ge_iff_le,this,Bool.or_false]
  ·simp only [if_neg e]
   rw [ht]
   by_cases e2:32*i+b / 2=t.length
   ·have hb:¬ b < 64:=by omega
    simp [hb]
   ·rw [if_neg e2]
theorem wd_lt (ks:List Nat) (h:∀ k∈ks,k < 4) (i:Nat):wd ks i < 18446744073709551616:=by
 refine Nat.lt_pow_two_of_testBit (n:=64) _ fun b hb=>?_
 rw [wd_test ks h]
 simp [Nat.not_lt.mpr hb]
theorem wd_pop (k:Nat) (t:List Nat) (hk:k < 4) (h:∀ k∈t,k < 4) (i:Nat):popf (wd (k :: t)) t.length i=wd t i:=by
 have hkt:∀ x∈k :: t,x < 4:=fun x hx=>by rcases List.mem_cons.1 hx with rfl|hx; exact hk; exact h x hx
 have h2:2 ^ (2*(t.length%32))≤2 ^ 62:=Nat.pow_le_pow_right (by decide) (by omega)
 have h3:3*2 ^ (2*(t.length%32)) < 2 ^ 64:=by omega
 unfold popf
 by_cases e:i=t.length / 32
 ·rw [if_pos e]
  apply Nat.eq_of_testBit_eq
  intro b
  rw [Nat.testBit_and,show 18446744073709551615 - 3*2 ^ (2*(t.length%32))=2 ^ 64 - (3*2 ^ (2*(t.length%32))+1) by omega,Nat.testBit_two_pow_sub_succ h3,wd_test _ hkt,wd_test _ h,bits2_cons,Nat.testBit_mul_two_pow]
  by_cases e2:32*i+b / 2=t.length
  ·rw [if_pos e2,bits2_out _ _ (by omega)]
   have hb:b - 2*(t.length%32)=b%2:=by omega
   have hb2:2*(t.length%32)≤b:=by omega
   have hb3:b < 64:=by omega
   have hb4:Nat.testBit 3 (b%2)=true:=by rcases Nat.mod_two_eq_zero_or_one b with e|e<;>rw [e]<;>rfl
   simp [hb,hb2,hb3,hb4]
  ·rw [if_neg e2]
   have:(decide (2*(t.length%32)≤b) && Nat.testBit 3 (b - 2*(t.length%32)))=false:=by
    by_cases h1:2*(t.length%32)≤b
    ·rw [Nat.testBit_lt_two_pow (Nat.lt_of_lt_of_le (by decide:3 < 2 ^ 2) (Nat.pow_le_pow_right (by decide) (by omega:2≤b - 2*(t.length%32))))]; simp
    ·simp [h1]
   simp only [ge_iff_le,this]
   cases decide (b < 64)<;>simp
 ·rw [if_neg e]
  show pushf (wd t) t.length k i=wd t i
  unfold pushf
  rw [if_neg e]
theorem wd_top (k:Nat) (t:List Nat) (hk:k < 4) (h:∀ k∈t,k < 4):topv (wd (k :: t)) (t.length+1)=k:=by
 have hkt:∀ x∈k :: t,x < 4:=fun x hx=>by rcases List.mem_cons.1 hx with rfl|hx; exact hk; exact h x hx
 unfold topv
 rw [if_neg (by omega),Nat.add_sub_cancel]
 apply Nat.eq_of_testBit_eq
 intro b
 rw [Nat.testBit_and,Nat.testBit_div_two_pow,wd_test _ hkt,bits2_cons]
 by_cases hb:b < 2
 ·have e1:32*(t.length / 32)+(b+2*(t.length%32)) / 2=t.length:=by omega
  have e2:(b+2*(t.length%32))%2=b:=by omega
  have e3:b+2*(t.length%32) < 64:=by omega
  have e4:Nat.testBit 3 b=true:=by rcases (by omega:b=0∨b=1) with e|e<;>rw [e]<;>rfl
  rw [if_pos e1,e2]
  simp [e3,e4]
 ·rw [Nat.testBit_lt_two_pow (Nat.lt_of_lt_of_le (by decide:3 < 2 ^ 2) (Nat.pow_le_pow_right (by decide) (by omega:2≤b))),Nat.testBit_lt_two_pow (Nat.lt_of_lt_of_le hk (Nat.pow_le_pow_right (by decide) (by omega:2≤b):2 ^ 2≤2 ^ b))]
  simp
theorem wd_inj:∀ (ks ls:List Nat),ks.length=ls.length→ks.length≤1024→(∀ k∈ks,k < 4)→(∀ k∈ls,k < 4)→(∀ i,i < 32→wd ks i=wd ls i)→ks=ls
 | [],[],_,_,_,_,_=>rfl
 | [],_ :: _,h,_,_,_,_=>by simp at h
 | _ :: _,[],h,_,_,_,_=>by simp at h
 | k :: t,l :: s,h,hn,hk,hl,he=>by
  have hlen:t.length=s.length:=by simpa using h
  have hn':t.length+1≤1024:=by simpa using hn
  have k4:=hk k List.mem_cons_self
  have l4:=hl l List.mem_cons_self
  have t4:=fun x hx=>hk x (List.mem_cons_of_mem k hx)
  have s4:=fun x hx=>hl x (List.mem_cons_of_mem l hx)
  have e1:k=l:=by
   have a:=wd_top k t k4 t4
   have b:=wd_top l s l4 s4
   unfold topv at a b
   rw [if_neg (by omega),Nat.add_sub_cancel] at a b
   rw [he _ (by omega)] at a
   rw [hlen] at a
   exact a.symm.trans b
  have e2:t=s:=wd_inj t s hlen (by omega) t4 s4 fun i hi=>by
   refine (wd_pop k t k4 t4 i).symm.trans (Eq.trans ?_ (wd_pop l s l4 s4 i))
   unfold popf
   rw [he i hi,hlen]
  rw [e1,e2]
end Go.Proofs.YtcmdjpolgaejoaaDoor.Gd
namespace Go.Proofs.YtcmdjpolgaejoaaDoor.Gd
open Go.RowKit Go.Proofs.YtcmdjpolgaejoaaDoorW.PrintWords Go.Proofs.YtcmdjpolgaejoaaDoorW.PrintLast Go.Proofs.YtcmdjpolgaejoaaDoorW.PrintMore
set_option linter.unusedVariables false
set_option linter.unusedSimpArgs false
abbrev St:=List Nat×Nat
abbrev stV (s:St):Value:=.agg (stc (wd s.1) s.1.length s.2)
def Fine (s:St):Prop:=(∀ k∈s.1,1≤k∧k < 4)∧s.1.length≤1024
theorem Fine.lt {s:St} (h:Fine s):∀ k∈s.1,k < 4:=fun k hk=>(h.1 k hk).2
def needs (k:Nat):St→Except Int St
 | ([],_)=>.error 201
 | (k' :: t,r)=>if k'=k then .ok (t,r) else .error 201
def gets (k:Nat) (s:St):Except Int St:=if s.1.length < 1024 then .ok (k :: s.1,s.2) else .error 201
def opened (s:St):Except Int St:=if s.2 < 4 then .ok (s.1,s.2+1) else .error 201
def ends:Except Int St→Ending
 | .ok s=>.returned (stV s)
 | .error e=>.panicked (bad e)
theorem needs_fine {k:Nat} {s t:St} (h:Fine s) (e:needs k s=.ok t):Fine t:=by
 obtain ⟨ks,r⟩:=s
 cases ks with
 | nil=>simp [needs] at e
 | cons a u =>
  unfold needs at e
  simp only at e
  split at e
  ·cases e
   exact ⟨fun x hx=>h.1 x (List.mem_cons_of_mem _ hx),Nat.le_of_succ_le h.2⟩
  ·cases e
theorem gets_fine {k:Nat} {s t:St} (h:Fine s) (hk:1≤k∧k < 4) (e:gets k s=.ok t):Fine t:=by
 unfold gets at e
 split at e
 ·cases e
  exact ⟨fun x hx=>by rcases List.mem_cons.1 hx with rfl|hx; exact hk; exact h.1 x hx,by simpa using by omega⟩
 ·cases e
theorem opened_fine {s t:St} (h:Fine s) (e:opened s=.ok t):Fine t:=by
 unfold opened at e
 split at e
 ·cases e; exact h
 ·cases e
theorem needs_calls (s:St) (k:Nat) (hs:Fine s) (hk:1≤k) (w:World):Calls Tryd.prog 86 #[stV s,.int .i64 (k:Nat)] w fun e w'=>e=ends (needs k s)∧Below w.heap.size w w':=by
 obtain ⟨ks,r⟩:=s
 cases ks with
 | nil=>exact needs_bad _ 0 r k (by omega) (wd_lt [] (by simp)) (by simp [topv]; omega) w
 | cons a t =>
  have ht:∀ x∈t,x < 4:=fun x hx=>hs.lt x (List.mem_cons_of_mem _ hx)
  have ha:a < 4:=hs.lt a List.mem_cons_self
  have hl:t.length < 1024:=hs.2
  have hw:=wd_lt (a :: t) hs.lt
  have htop:=wd_top a t ha ht
  by_cases e:a=k
  ·have h1:=needs_ok (wd (a :: t)) t.length r k hl hw (htop.trans e) w
   refine h1.mono fun x w' h=>⟨?_,h.2⟩
   rw [h.1]
   unfold needs
   simp only [if_pos e,ends,stV]
   congr 2
   exact stc_ext _ _ _ _ _ _ (fun i _=>wd_pop a t ha ht i) rfl rfl
  ·have h1:=needs_bad (wd (a :: t)) (t.length+1) r k hs.2 hw (by rw [htop]; exact e) w
   refine h1.mono fun x w' h=>⟨?_,h.2⟩
   rw [h.1]
   unfold needs
   simp only [if_neg e,ends]
theorem gets_calls (s:St) (k:Nat) (hs:Fine s) (hk:k < 4) (w:World):Calls Tryd.prog 56 #[stV s,.int .i64 (k:Nat)] w fun e w'=>e=ends (gets k s)∧Below w.heap.size w w':=by
 obtain ⟨ks,r⟩:=s
 unfold gets
 by_cases h:ks.length < 1024
 ·simp only [if_pos h]
  exact gets_ok (wd ks) ks.length r k h hk (wd_lt ks hs.lt) w
 ·simp only [if_neg h]
  exact gets_bad (wd ks) ks.length r k (Nat.le_of_not_lt h) w
theorem opened_calls (s:St) (w:World):Calls Tryd.prog 88 #[stV s] w fun e w'=>e=ends (opened s)∧Below w.heap.size w w':=by
 obtain ⟨ks,r⟩:=s
 unfold opened
 by_cases h:r < 4
 ·simp only [if_pos h]
  exact opened_ok (wd ks) ks.length r h w
 ·simp only [if_neg h]
  exact opened_bad (wd ks) ks.length r (Nat.le_of_not_lt h) w
end Go.Proofs.YtcmdjpolgaejoaaDoor.Gd
namespace Go.Proofs.YtcmdjpolgaejoaaDoor.Gd
open Go.RowKit Go.Proofs.YtcmdjpolgaejoaaDoorW.PrintWords Go.Proofs.YtcmdjpolgaejoaaDoorW.PrintLast Go.Proofs.YtcmdjpolgaejoaaDoorW.PrintMore
set_option linter.unusedVariables false
set_option linter.unusedSimpArgs false
theorem exc_go {f:Except Int St} {n:Nat} {args:Array Value} {w:World} (h:Calls Tryd.prog n args w fun e w'=>e=ends f∧Below w.heap.size w w') {Q:Ending→World→Prop}
  (h1:∀ e1 w1,Aside0 (f=.error e1)→Below w.heap.size w w1→Q (.panicked (bad e1)) w1)
  (h2:∀ t w1,Aside0 (f=.ok t)→Below w.heap.size w w1→Q (.returned (.agg (stc (wd t.1) t.1.length t.2))) w1):Calls Tryd.prog n args w Q:=by
 refine h.mono ?_
 rintro e w1 ⟨he,hb⟩
 cases hf:f with
 | error e1=>rw [hf] at he; subst he; exact h1 e1 w1 ⟨hf⟩ hb
 | ok t=>rw [hf] at he; subst he; exact h2 t w1 ⟨hf⟩ hb
theorem needs_go (s:St) (k:Nat) (hs:Fine s) (hk:1≤k) (w:World) {Q:Ending→World→Prop}
  (h1:∀ e1 w1,Aside0 (needs k s=.error e1)→Below w.heap.size w w1→Q (.panicked (bad e1)) w1)
  (h2:∀ t w1,Aside0 (needs k s=.ok t)→Fine t→Below w.heap.size w w1→Q (.returned (.agg (stc (wd t.1) t.1.length t.2))) w1):Calls Tryd.prog 86 #[stV s,.int .i64 (k:Nat)] w Q :=
 exc_go (needs_calls s k hs hk w) h1 fun t w1 h hb=>h2 t w1 h (needs_fine hs h.out) hb
theorem gets_go (s:St) (k:Nat) (hs:Fine s) (hk:1≤k∧k < 4) (w:World) {Q:Ending→World→Prop}
  (h1:∀ e1 w1,Aside0 (gets k s=.error e1)→Below w.heap.size w w1→Q (.panicked (bad e1)) w1)
  (h2:∀ t w1,Aside0 (gets k s=.ok t)→Fine t→Below w.heap.size w w1→Q (.returned (.agg (stc (wd t.1) t.1.length t.2))) w1):Calls Tryd.prog 56 #[stV s,.int .i64 (k:Nat)] w Q :=
 exc_go (gets_calls s k hs hk.2 w) h1 fun t w1 h hb=>h2 t w1 h (gets_fine hs hk h.out) hb
theorem opened_go (s:St) (hs:Fine s) (w:World) {Q:Ending→World→Prop}
  (h1:∀ e1 w1,Aside0 (opened s=.error e1)→Below w.heap.size w w1→Q (.panicked (bad e1)) w1)
  (h2:∀ t w1,Aside0 (opened s=.ok t)→Fine t→Below w.heap.size w w1→Q (.returned (.agg (stc (wd t.1) t.1.length t.2))) w1):Calls Tryd.prog 88 #[stV s] w Q :=
 exc_go (opened_calls s w) h1 fun t w1 h hb=>h2 t w1 h (opened_fine hs h.out) hb
structure Two (w0:World) (s t:Array Value) (w:World):Prop where
 x:w.heap[w0.heap.size]? = some (.cells s 68 (0,0))
 y:w.heap[w0.heap.size+1]? = some (.cells t 68 (0,0))
 b:Below w0.heap.size w0 w
theorem Two.new (w:World) (s t:Array Value):Two w s t ((w.alloc (.cells s 68)).alloc (.cells t 68)) :=
 ⟨blk_alloc (heap_alloc_new w _) _,new2 w _ _,below_alloc (below_alloc (Below.refl w.heap.size w) _) _⟩
theorem Two.call {w0 w w1:World} {s t:Array Value} (h:Two w0 s t w) (hb:Below w.heap.size w w1):Two w0 s t w1 :=
 ⟨blk_below h.x hb,blk_below h.y hb,below_then h.b h.b.size hb⟩
theorem Two.set0 {w0 w:World} {s t:Array Value} (h:Two w0 s t w) (s':Array Value):Two w0 s' t (w.setRow w0.heap.size s') :=
 ⟨setRow_heap _ _ s s' 68 (0,0) h.x,(setRow_other _ _ _ _ (by omega)).trans h.y,below_setRow h.b (Nat.le_refl _) _⟩
theorem Two.set1 {w0 w:World} {s t:Array Value} (h:Two w0 s t w) (t':Array Value):Two w0 s t' (w.setRow (w0.heap.size+1) t') :=
 ⟨(setRow_other _ _ _ _ (by omega)).trans h.x,setRow_heap _ _ t t' 68 (0,0) h.y,below_setRow h.b (by omega) _⟩
theorem Two.drew {w0 w:World} {s t:Array Value} (h:Two w0 s t w):Two w0 s t w.drew:=⟨h.x,h.y,h.b.drew⟩
section
variable {P:Program} {ops:Array Oper} {Q:Exit→Act→World→Prop}
theorem goesE_ {oi:Oper} {N:Option Tmp} {a:Act} {w:World} {K:Act→World→Prop} {f:FuncId} {fn:Func} {as_:Array Operand} {ts:Array TypeId} (hf:P.funcs[f]? = some fn) (hname:(fn.name == "runtime.NumGoroutine")=false) (hb:fn.body.isSome=true) (args:Array Value)
  (hw:Region.wanted oi (yielded ops a.tmps)=true) (hN:oi.dst=N) (hop:oi.op=.call { callee:=.value (.func f),args:=as_,argTypes:=ts }) (hargs:as_.map a.eval=args)
  (h:Calls P f args w fun e w'=>(∃ v,e=.returned v∧K (a.put N v) w')∨∃ c,e=.panicked c∧Q (.panic c) a w'):if Region.wanted oi (yielded ops a.tmps)=true then Oper.wp P oi a w K Q else K (a.put N undef) w:=by
 rw [if_pos hw]
 subst hN
 have he:=enters_ hf hname hb args w
 have hrun:(execOp a.eval oi).run P w=.ok (.enter f args) w:=by
  unfold execOp
  simp [hop,resolve,Deferred.ofValue,invoke,Act.eval,hargs,he]
 unfold Oper.wp
 rw [hrun,Oper.upon_enter]
 refine h.mono fun e w'' hh=>?_
 rcases hh with ⟨v,rfl,hk⟩|⟨c,rfl,hq⟩
 ·exact hk
 ·exact hq
theorem rowL_ {oi:Oper} {N:Option Tmp} {a:Act} {w:World} {K:Act→World→Prop} (ty:TypeId) (x:Operand) (hw:Region.wanted oi (yielded ops a.tmps)=true) (hN:oi.dst=N) (ho:oi.op=.load ty x)
  (g:Nat) (hx:a.eval x=.pointer (some ⟨g,0,none⟩)) (t:TypeId) (cs:Array Value) (fr:Nat×Nat) (d:TypeDesc) (hg:w.heap[g]? = some (.cells cs t fr))
  (hu:P.underlying ty=some d) (hd:(match d with|.struct _|.array _ _=>true|_=>false)=true) (hi:(P.info? ty).map (·.size)=some cs.size)
  (h:K (a.put N (.agg cs)) w):if Region.wanted oi (yielded ops a.tmps)=true then Oper.wp P oi a w K Q else K (a.put N undef) w:=by
 rw [if_pos hw]
 subst hN
 exact wp_load_row ty x ho g hx t cs fr d hg hu hd hi h
theorem rowS_ {oi:Oper} {a:Act} {w:World} {K:Act→World→Prop} (ty:TypeId) (x y:Operand) (hw:Region.wanted oi (yielded ops a.tmps)=true) (hN:oi.dst=none) (ho:oi.op=.store ty x y)
  (g:Nat) (cells:Array Value) (hx:a.eval x=.pointer (some ⟨g,0,none⟩)) (hy:a.eval y=.agg cells)
  (t:TypeId) (old:Array Value) (hg:w.heap[g]? = some (.cells old t (0,0))) (hi:(P.info? ty).map (·.size)=some cells.size)
  (hold:old.size=cells.size) (h1:cells.all (·.oneCell')=true) (h:K a (w.setRow g cells)):if Region.wanted oi (yielded ops a.tmps)=true then Oper.wp P oi a w K Q else K (a.put none undef) w:=by
 rw [if_pos hw]
 refine wp_store_row ty x y ho g cells hx hy t old hg hi hold h1 ?_
 rw [hN]
 exact h
end
end Go.Proofs.YtcmdjpolgaejoaaDoor.Gd
namespace Go.Proofs.YtcmdjpolgaejoaaDoor.Gd
open Go.RowKit Go.Proofs.YtcmdjpolgaejoaaDoorW.PrintWords Go.Proofs.YtcmdjpolgaejoaaDoorW.PrintLast Go.Proofs.YtcmdjpolgaejoaaDoorW.PrintMore
set_option linter.unusedVariables false
set_option linter.unusedSimpArgs false
def call (which:Nat) (s:St):Except Int St :=
 (needs 3 s).bind fun t=>(if which≤3 then needs 3 t else .ok t).bind fun u=>if which=1∨which=2 then gets 2 u else if which=10 then gets 3 u else gets 1 u
set_option maxHeartbeats 4000000 in
set_option maxRecDepth 10000 in
theorem call_calls (s:St) (which:Nat) (hs:Fine s) (w:World):Calls Tryd.prog 87 #[stV s,.int .i64 (which:Nat)] w fun e w'=>e=ends (call which s)∧Below w.heap.size w w':=by
 obtain ⟨z,HZ,H2⟩:∃ z:Array Value,Aside0 (z.size=34)∧Aside0 (Two w (stc (wd s.1) s.1.length s.2) z ((w.alloc (.cells (stc (wd s.1) s.1.length s.2) 68)).alloc (.cells z34_ 68))):=⟨_,⟨rfl⟩,⟨Two.new w _ _⟩⟩
 by_cases hc:which=1
 ·have he:ends (call which s)=ends (call which s):=rfl
  conv at he=>rhs; simp only [call,if_pos (show which≤3 by omega),if_pos (show which=1∨which=2 by omega)]
  have HE:=Aside0.mk he
  clear he
  have c3:decide (((which:Nat):Int)≤3)=true:=by simp; omega
  have c1:(((which:Nat):Int) == 1)=true:=by simp; omega
  have c2:(((which:Nat):Int) == 2)=false:=by simp; omega
  have c10:(((which:Nat):Int) == 10)=false:=by simp; omega
  clear hc
  go_enter Tryd.func87,Tryd.ntmps87
  go_wp2_with (first
   | (refine wpList_load_row rfl 68 _ rfl w.heap.size rfl 68 _ (0,0) _ H2.out.x Tryd.underlying68 rfl (by rw [stc_size]; exact info68) ?_)
   | (go_at_call 86; (refine needs_go _ 3 (by assumption) (by decide) _ (fun e1 w1 H1 hb=>?_) (fun t w1 H1 F1 hb=>?_)); (have H2:=Aside0.mk (H2.out.call hb); exact ⟨rfl,(by rw [HE.out,H1.out]; rfl),H2.out.b⟩); have H2:=Aside0.mk (H2.out.call hb); have h:=HE.out; simp only [H1.out,Except.bind] at h; have HE:=Aside0.mk h; clear h hb H1)
   | (go_at_call 56; (refine gets_go _ 2 (by assumption) (by decide) _ (fun e1 w1 H1 hb=>?_) (fun t w1 H1 F1 hb=>?_)); (have H2:=Aside0.mk (H2.out.call hb); exact ⟨rfl,(by rw [HE.out,H1.out]; rfl),H2.out.b⟩); have H2:=Aside0.mk (H2.out.call hb); have h:=HE.out; simp only [H1.out,Except.bind] at h; have HE:=Aside0.mk h; clear h hb H1)
   | (refine wpList_store_row rfl 68 _ _ rfl w.heap.size (stc (wd t.1) t.1.length t.2) (by first|rfl|simp) rfl 68 _ H2.out.x (by rw [stc_size]; exact info68) (by simp only [stc_size]) (stc_one _ _ _) ?_; have H2:=Aside0.mk (H2.out.set0 (stc (wd t.1) t.1.length t.2)))
   | (refine wpList_store_row rfl 68 _ _ rfl (w.heap.size+1) (stc (wd t.1) t.1.length t.2) (by first|rfl|simp) rfl 68 _ H2.out.y (by rw [stc_size]; exact info68) (by rw [stc_size]; exact HZ.out) (stc_one _ _ _) ?_; have H2:=Aside0.mk (H2.out.set1 (stc (wd t.1) t.1.length t.2))))
  have hY:=H2.out.y
  exact bodyPost_ret (results_cell_row rfl _ _ (w.heap.size+1) 68 _ (0,0) _ rfl hY Tryd.underlying68 rfl (by rw [stc_size]; exact info68)) rfl ⟨HE.out.symm,H2.out.b⟩
 by_cases hc:which=2
 ·have he:ends (call which s)=ends (call which s):=rfl
  conv at he=>rhs; simp only [call,if_pos (show which≤3 by omega),if_pos (show which=1∨which=2 by omega)]
  have HE:=Aside0.mk he
  clear he
  have c3:decide (((which:Nat):Int)≤3)=true:=by simp; omega
  have c1:(((which:Nat):Int) == 1)=false:=by simp; omega
  have c2:(((which:Nat):Int) == 2)=true:=by simp; omega
  have c10:(((which:Nat):Int) == 10)=false:=by simp; omega
  clear hc
  go_enter Tryd.func87,Tryd.ntmps87
  go_wp2_with (first
   | (refine wpList_load_row rfl 68 _ rfl w.heap.size rfl 68 _ (0,0) _ H2.out.x Tryd.underlying68 rfl (by rw [stc_size]; exact info68) ?_)
   | (go_at_call 86; (refine needs_go _ 3 (by assumption) (by decide) _ (fun e1 w1 H1 hb=>?_) (fun t w1 H1 F1 hb=>?_)); (have H2:=Aside0.mk (H2.out.call hb); exact ⟨rfl,(by rw [HE.out,H1.out]; rfl),H2.out.b⟩); have H2:=Aside0.mk (H2.out.call hb); have h:=HE.out; simp only [H1.out,Except.bind] at h; have HE:=Aside0.mk h; clear h hb H1)
   | (go_at_call 56; (refine gets_go _ 2 (by assumption) (by decide) _ (fun e1 w1 H1 hb=>?_) (fun t w1 H1 F1 hb=>?_)); (have H2:=Aside0.mk (H2.out.call hb); exact ⟨rfl,(by rw [HE.out,H1.out]; rfl),H2.out.b⟩); have H2:=Aside0.mk (H2.out.call hb); have h:=HE.out; simp only [H1.out,Except.bind] at h; have HE:=Aside0.mk h; clear h hb H1)
   | (refine wpList_store_row rfl 68 _ _ rfl w.heap.size (stc (wd t.1) t.1.length t.2) (by first|rfl|simp) rfl 68 _ H2.out.x (by rw [stc_size]; exact info68) (by simp only [stc_size]) (stc_one _ _ _) ?_; have H2:=Aside0.mk (H2.out.set0 (stc (wd t.1) t.1.length t.2)))
   | (refine wpList_store_row rfl 68 _ _ rfl (w.heap.size+1) (stc (wd t.1) t.1.length t.2) (by first|rfl|simp) rfl 68 _ H2.out.y (by rw [stc_size]; exact info68) (by rw [stc_size]; exact HZ.out) (stc_one _ _ _) ?_; have H2:=Aside0.mk (H2.out.set1 (stc (wd t.1) t.1.length t.2))))
  have hY:=H2.out.y
  exact bodyPost_ret (results_cell_row rfl _ _ (w.heap.size+1) 68 _ (0,0) _ rfl hY Tryd.underlying68 rfl (by rw [stc_size]; exact info68)) rfl ⟨HE.out.symm,H2.out.b⟩
 by_cases hc:which=10
 ·have he:ends (call which s)=ends (call which s):=rfl
  conv at he=>rhs; simp only [call,if_neg (show ¬ which≤3 by omega),if_neg (show ¬ (which=1∨which=2) by omega),if_pos (show which=10 by omega),Except.bind.eq_2]
  have HE:=Aside0.mk he
  clear he
  have c3:decide (((which:Nat):Int)≤3)=false:=by simp; omega
  have c1:(((which:Nat):Int) == 1)=false:=by simp; omega
  have c2:(((which:Nat):Int) == 2)=false:=by simp; omega
  have c10:(((which:Nat):Int) == 10)=true:=by simp; omega
  clear hc
  go_enter Tryd.func87,Tryd.ntmps87
  go_wp2_with (first
   | (refine wpList_load_row rfl 68 _ rfl w.heap.size rfl 68 _ (0,0) _ H2.out.x Tryd.underlying68 rfl (by rw [stc_size]; exact info68) ?_)
   | (go_at_call 86; (refine needs_go _ 3 (by assumption) (by decide) _ (fun e1 w1 H1 hb=>?_) (fun t w1 H1 F1 hb=>?_)); (have H2:=Aside0.mk (H2.out.call hb); exact ⟨rfl,(by rw [HE.out,H1.out]; rfl),H2.out.b⟩); have H2:=Aside0.mk (H2.out.call hb); have h:=HE.out; simp only [H1.out,Except.bind] at h; have HE:=Aside0.mk h; clear h hb H1)
   | (go_at_call 56; (refine gets_go _ 3 (by assumption) (by decide) _ (fun e1 w1 H1 hb=>?_) (fun t w1 H1 F1 hb=>?_)); (have H2:=Aside0.mk (H2.out.call hb); exact ⟨rfl,(by rw [HE.out,H1.out]; rfl),H2.out.b⟩); have H2:=Aside0.mk (H2.out.call hb); have h:=HE.out; simp only [H1.out,Except.bind] at h; have HE:=Aside0.mk h; clear h hb H1)
   | (refine wpList_store_row rfl 68 _ _ rfl w.heap.size (stc (wd t.1) t.1.length t.2) (by first|rfl|simp) rfl 68 _ H2.out.x (by rw [stc_size]; exact info68) (by simp only [stc_size]) (stc_one _ _ _) ?_; have H2:=Aside0.mk (H2.out.set0 (stc (wd t.1) t.1.length t.2)))
   | (refine wpList_store_row rfl 68 _ _ rfl (w.heap.size+1) (stc (wd t.1) t.1.length t.2) (by first|rfl|simp) rfl 68 _ H2.out.y (by rw [stc_size]; exact info68) (by rw [stc_size]; exact HZ.out) (stc_one _ _ _) ?_; have H2:=Aside0.mk (H2.out.set1 (stc (wd t.1) t.1.length t.2))))
  have hY:=H2.out.y
  exact bodyPost_ret (results_cell_row rfl _ _ (w.heap.size+1) 68 _ (0,0) _ rfl hY Tryd.underlying68 rfl (by rw [stc_size]; exact info68)) rfl ⟨HE.out.symm,H2.out.b⟩
 by_cases hc:which≤3
 ·have he:ends (call which s)=ends (call which s):=rfl
  conv at he=>rhs; simp only [call,if_pos (show which≤3 by omega),if_neg (show ¬ (which=1∨which=2) by omega),if_neg (show ¬ which=10 by omega)]
  have HE:=Aside0.mk he
  clear he
  have c3:decide (((which:Nat):Int)≤3)=true:=by simp; omega
  have c1:(((which:Nat):Int) == 1)=false:=by simp; omega
  have c2:(((which:Nat):Int) == 2)=false:=by simp; omega
  have c10:(((which:Nat):Int) == 10)=false:=by simp; omega
  clear hc
  go_enter Tryd.func87,Tryd.ntmps87
  go_wp2_with (first
   | (refine wpList_load_row rfl 68 _ rfl w.heap.size rfl 68 _ (0,0) _ H2.out.x Tryd.underlying68 rfl (by rw [stc_size]; exact info68) ?_)
   | (go_at_call 86; (refine needs_go _ 3 (by assumption) (by decide) _ (fun e1 w1 H1 hb=>?_) (fun t w1 H1 F1 hb=>?_)); (have H2:=Aside0.mk (H2.out.call hb); exact ⟨rfl,(by rw [HE.out,H1.out]; rfl),H2.out.b⟩); have H2:=Aside0.mk (H2.out.call hb); have h:=HE.out; simp only [H1.out,Except.bind] at h; have HE:=Aside0.mk h; clear h hb H1)
   | (go_at_call 56; (refine gets_go _ 1 (by assumption) (by decide) _ (fun e1 w1 H1 hb=>?_) (fun t w1 H1 F1 hb=>?_)); (have H2:=Aside0.mk (H2.out.call hb); exact ⟨rfl,(by rw [HE.out,H1.out]; rfl),H2.out.b⟩); have H2:=Aside0.mk (H2.out.call hb); have h:=HE.out; simp only [H1.out,Except.bind] at h; have HE:=Aside0.mk h; clear h hb H1)
   | (refine wpList_store_row rfl 68 _ _ rfl w.heap.size (stc (wd t.1) t.1.length t.2) (by first|rfl|simp) rfl 68 _ H2.out.x (by rw [stc_size]; exact info68) (by simp only [stc_size]) (stc_one _ _ _) ?_; have H2:=Aside0.mk (H2.out.set0 (stc (wd t.1) t.1.length t.2)))
   | (refine wpList_store_row rfl 68 _ _ rfl (w.heap.size+1) (stc (wd t.1) t.1.length t.2) (by first|rfl|simp) rfl 68 _ H2.out.y (by rw [stc_size]; exact info68) (by rw [stc_size]; exact HZ.out) (stc_one _ _ _) ?_; have H2:=Aside0.mk (H2.out.set1 (stc (wd t.1) t.1.length t.2))))
  have hY:=H2.out.y
  exact bodyPost_ret (results_cell_row rfl _ _ (w.heap.size+1) 68 _ (0,0) _ rfl hY Tryd.underlying68 rfl (by rw [stc_size]; exact info68)) rfl ⟨HE.out.symm,H2.out.b⟩
 by_cases hc:3 < which
 ·have he:ends (call which s)=ends (call which s):=rfl
  conv at he=>rhs; simp only [call,if_neg (show ¬ which≤3 by omega),if_neg (show ¬ (which=1∨which=2) by omega),if_neg (show ¬ which=10 by omega),Except.bind.eq_2]
  have HE:=Aside0.mk he
  clear he
  have c3:decide (((which:Nat):Int)≤3)=false:=by simp; omega
  have c1:(((which:Nat):Int) == 1)=false:=by simp; omega
  have c2:(((which:Nat):Int) == 2)=false:=by simp; omega
  have c10:(((which:Nat):Int) == 10)=false:=by simp; omega
  clear hc
  go_enter Tryd.func87,Tryd.ntmps87
  go_wp2_with (first
   | (refine wpList_load_row rfl 68 _ rfl w.heap.size rfl 68 _ (0,0) _ H2.out.x Tryd.underlying68 rfl (by rw [stc_size]; exact info68) ?_)
   | (go_at_call 86; (refine needs_go _ 3 (by assumption) (by decide) _ (fun e1 w1 H1 hb=>?_) (fun t w1 H1 F1 hb=>?_)); (have H2:=Aside0.mk (H2.out.call hb); exact ⟨rfl,(by rw [HE.out,H1.out]; rfl),H2.out.b⟩); have H2:=Aside0.mk (H2.out.call hb); have h:=HE.out; simp only [H1.out,Except.bind] at h; have HE:=Aside0.mk h; clear h hb H1)
   | (go_at_call 56; (refine gets_go _ 1 (by assumption) (by decide) _ (fun e1 w1 H1 hb=>?_) (fun t w1 H1 F1 hb=>?_)); (have H2:=Aside0.mk (H2.out.call hb); exact ⟨rfl,(by rw [HE.out,H1.out]; rfl),H2.out.b⟩); have H2:=Aside0.mk (H2.out.call hb); have h:=HE.out; simp only [H1.out,Except.bind] at h; have HE:=Aside0.mk h; clear h hb H1)
   | (refine wpList_store_row rfl 68 _ _ rfl w.heap.size (stc (wd t.1) t.1.length t.2) (by first|rfl|simp) rfl 68 _ H2.out.x (by rw [stc_size]; exact info68) (by simp only [stc_size]) (stc_one _ _ _) ?_; have H2:=Aside0.mk (H2.out.set0 (stc (wd t.1) t.1.length t.2)))
   | (refine wpList_store_row rfl 68 _ _ rfl (w.heap.size+1) (stc (wd t.1) t.1.length t.2) (by first|rfl|simp) rfl 68 _ H2.out.y (by rw [stc_size]; exact info68) (by rw [stc_size]; exact HZ.out) (stc_one _ _ _) ?_; have H2:=Aside0.mk (H2.out.set1 (stc (wd t.1) t.1.length t.2))))
  have hY:=H2.out.y
  exact bodyPost_ret (results_cell_row rfl _ _ (w.heap.size+1) 68 _ (0,0) _ rfl hY Tryd.underlying68 rfl (by rw [stc_size]; exact info68)) rfl ⟨HE.out.symm,H2.out.b⟩
 omega
end Go.Proofs.YtcmdjpolgaejoaaDoor.Gd
namespace Go.Proofs.YtcmdjpolgaejoaaDoor.Gd
set_option linter.unusedVariables false
def many:Nat→St→Except Int St
 | 0,s=>.ok s
 | n+1,s=>(needs 3 s).bind (many n)
def keeps (k:Nat) (s:St):Except Int St:=match s.1 with
 | []=>.error 201
 | k' :: _=>if k'=k then .ok s else .error 203
def behind (cell:Nat→Nat) (s:St) (a b:Nat):Nat→Except Int St
 | 1=>gets b s
 | 2=>gets 3 s
 | 3=>if a < s.2 then gets 3 s else .error 201
 | 4=>(needs 1 s).bind fun t=>gets 1 t
 | 5=>(needs 2 s).bind fun t=>gets 2 t
 | 6=>(needs 1 s).bind fun t=>(needs 1 t).bind fun u=>gets 1 u
 | 7=>(needs 1 s).bind fun t=>(needs 1 t).bind fun u=>gets 1 u
 | 8=>(needs 1 s).bind fun t=>(needs 1 t).bind fun u=>gets 1 u
 | 9=>(needs 1 s).bind fun t=>(needs 1 t).bind fun u=>gets 1 u
 | 10=>(needs 1 s).bind fun t=>(needs 1 t).bind fun u=>gets 1 u
 | 11=>(needs b s).bind fun t=>(needs b t).bind fun u=>gets 2 u
 | 12=>(needs 1 s).bind fun t=>(needs 1 t).bind fun u=>gets 2 u
 | 14=>needs 2 s
 | 15=>needs 2 s
 | 16=>call a s
 | 18=>keeps (cell a) s
 | 20=>opened s
 | 21=>opened s
 | 22=>(needs 3 s).bind fun t=>opened t
 | 23=>(many a s).bind fun t=>opened t
 | 24=>if 0 < s.2 then .ok s else .error 201
 | 25=>if 0 < s.2 then .ok (s.1,s.2 - 1) else .error 201
 | 26=>(needs 1 s).bind fun t=>(needs 2 t).bind fun u=>(needs 1 u).bind fun v=>(gets 1 v).bind fun x=>gets 2 x
 | 27=>needs 2 s
 | _=>.ok s
theorem bind_fine {f:Except Int St} {g:St→Except Int St} (hf:∀ t,f=.ok t→Fine t) (hg:∀ t,Fine t→∀ u,g t=.ok u→Fine u):∀ u,f.bind g=.ok u→Fine u:=by
 intro u h
 cases f with
 | error e=>cases h
 | ok t=>exact hg t (hf t rfl) u h
theorem many_fine:∀ (n:Nat) {s t:St},Fine s→many n s=.ok t→Fine t
 | 0,s,t,h,e=>by cases e; exact h
 | n+1,s,t,h,e=>bind_fine (fun t e=>needs_fine h e) (fun t h u e=>many_fine n h e) t e
theorem call_fine (which:Nat) {s t:St} (h:Fine s) (e:call which s=.ok t):Fine t:=by
 unfold call at e
 refine bind_fine (fun t e=>needs_fine h e) (fun t h=>bind_fine (fun u e=>?_) (fun u h v e=>?_)) t e
 ·split at e
  ·exact needs_fine h e
  ·cases e; exact h
 ·split at e
  ·exact gets_fine h (by omega) e
  ·split at e
   ·exact gets_fine h (by omega) e
   ·exact gets_fine h (by omega) e
theorem behind_fine (cell:Nat→Nat) {s t:St} (a b op:Nat) (h:Fine s) (hb:op=1∨op=11→1≤b∧b < 4) (e:behind cell s a b op=.ok t):Fine t:=by
 unfold behind at e
 split at e
 all_goals first
  | exact gets_fine h (by omega) e
  | exact needs_fine h e
  | exact opened_fine h e
  | exact call_fine _ h e
  | (cases e; exact h)
  | (split at e; exact gets_fine h (by omega) e; cases e)
  | (split at e; (cases e; exact h); cases e)
  | (refine bind_fine (fun t e=>needs_fine h e) (fun t h u e=>?_) t e; first|exact gets_fine h (by omega) e|exact opened_fine h e)
  | (refine bind_fine (fun t e=>needs_fine h e) (fun t h=>bind_fine (fun t e=>needs_fine h e) (fun t h u e=>?_)) t e; exact gets_fine h (by omega) e)
  | (refine bind_fine (fun t e=>many_fine _ h e) (fun t h u e=>?_) t e; exact opened_fine h e)
  | (refine bind_fine (fun t e=>needs_fine h e) (fun t h=>bind_fine (fun t e=>needs_fine h e) (fun t h=>bind_fine (fun t e=>needs_fine h e) (fun t h=>bind_fine (fun t e=>gets_fine h (by omega) e) (fun t h u e=>?_)))) t e; exact gets_fine h (by omega) e)
  | (unfold keeps at e; split at e; cases e; split at e; (cases e; exact h); cases e)
end Go.Proofs.YtcmdjpolgaejoaaDoor.Gd
namespace Go.Proofs.YtcmdjpolgaejoaaDoor.Gd
open Go.RowKit Go.Proofs.YtcmdjpolgaejoaaDoorW.PrintWords Go.Proofs.YtcmdjpolgaejoaaDoorW.PrintLast Go.Proofs.YtcmdjpolgaejoaaDoorW.PrintMore
set_option linter.unusedVariables false
set_option linter.unusedSimpArgs false
attribute [local go_sem] stc_h stc_r stc_set_h stc_set_r
theorem below_cell {w W:World} (h:Below w.heap.size w W) {a:Addr} {v:Value} (e:w.cell? a=some v):W.cell? a=some v:=(h.cell (block_lt_of_cell e)).trans e
theorem keeps_yes (s:St) (k:Nat) (hs:Fine s) (h:topv (wd s.1) s.1.length=k) (hp:0 < s.1.length):ends (keeps k s)=ends (.ok s):=by
 obtain ⟨ks,r⟩:=s
 cases ks with
 | nil=>exact absurd hp (by simp)
 | cons a t =>
  have:=wd_top a t (hs.lt a List.mem_cons_self) (fun x hx=>hs.lt x (List.mem_cons_of_mem _ hx))
  have e:a=k:=this.symm.trans h
  unfold keeps
  simp only [if_pos e]
theorem keeps_no (s:St) (k:Nat) (hs:Fine s) (h:topv (wd s.1) s.1.length≠k) (hp:0 < s.1.length):ends (keeps k s)=.panicked (bad 203):=by
 obtain ⟨ks,r⟩:=s
 cases ks with
 | nil=>exact absurd hp (by simp)
 | cons a t =>
  have:=wd_top a t (hs.lt a List.mem_cons_self) (fun x hx=>hs.lt x (List.mem_cons_of_mem _ hx))
  have e:a≠k:=fun e=>h (this.trans e)
  unfold keeps
  simp only [if_neg e,ends]
theorem wrap_succ (j:Nat) (h:j < 4611686018427387904):wrap64 ((j:Int)+1)=(j:Int)+1:=by
 simp only [wrap64]
 omega
def ms (a:Nat) (v:Value):Nat:=a - (intOf v).toNat
theorem ms_lt {j a:Nat} (h:j < a):ms a (.int .i64 ((j:Int)+1)) < ms a (.int .i64 (j:Int)):=by
 unfold ms intOf
 simp
 omega
theorem gets_1 (s:St) (hs:Fine s) (w:World) {Q:Ending→World→Prop} (h1:∀ e1 w1,Aside0 (gets 1 s=.error e1)→Below w.heap.size w w1→Q (.panicked (bad e1)) w1)
  (h2:∀ t w1,Aside0 (gets 1 s=.ok t)→Fine t→Below w.heap.size w w1→Q (.returned (.agg (stc (wd t.1) t.1.length t.2))) w1):Calls Tryd.prog 56 #[.agg (stc (wd s.1) s.1.length s.2),.int .i64 1] w Q:=gets_go s 1 hs (by decide) w h1 h2
theorem gets_2 (s:St) (hs:Fine s) (w:World) {Q:Ending→World→Prop} (h1:∀ e1 w1,Aside0 (gets 2 s=.error e1)→Below w.heap.size w w1→Q (.panicked (bad e1)) w1)
  (h2:∀ t w1,Aside0 (gets 2 s=.ok t)→Fine t→Below w.heap.size w w1→Q (.returned (.agg (stc (wd t.1) t.1.length t.2))) w1):Calls Tryd.prog 56 #[.agg (stc (wd s.1) s.1.length s.2),.int .i64 2] w Q:=gets_go s 2 hs (by decide) w h1 h2
theorem needs_1 (s:St) (hs:Fine s) (w:World) {Q:Ending→World→Prop} (h1:∀ e1 w1,Aside0 (needs 1 s=.error e1)→Below w.heap.size w w1→Q (.panicked (bad e1)) w1)
  (h2:∀ t w1,Aside0 (needs 1 s=.ok t)→Fine t→Below w.heap.size w w1→Q (.returned (.agg (stc (wd t.1) t.1.length t.2))) w1):Calls Tryd.prog 86 #[.agg (stc (wd s.1) s.1.length s.2),.int .i64 1] w Q:=needs_go s 1 hs (by decide) w h1 h2
theorem needs_2 (s:St) (hs:Fine s) (w:World) {Q:Ending→World→Prop} (h1:∀ e1 w1,Aside0 (needs 2 s=.error e1)→Below w.heap.size w w1→Q (.panicked (bad e1)) w1)
  (h2:∀ t w1,Aside0 (needs 2 s=.ok t)→Fine t→Below w.heap.size w w1→Q (.returned (.agg (stc (wd t.1) t.1.length t.2))) w1):Calls Tryd.prog 86 #[.agg (stc (wd s.1) s.1.length s.2),.int .i64 2] w Q:=needs_go s 2 hs (by decide) w h1 h2
set_option maxHeartbeats 4000000 in
set_option maxRecDepth 10000 in
theorem behind_1 (lg:Nat) (cell:Nat→Nat) (s:St) (a b:Nat) (hs:Fine s) (w:World) (hb:1≤b∧b < 4):Calls Tryd.prog 55 #[.pointer (some ⟨lg,0,none⟩),stV s,.int .i64 1,.int .i64 (a:Nat),.int .i64 (b:Nat)] w fun e w'=>e=ends (behind cell s a b 1)∧Below w.heap.size w w':=by
 obtain ⟨z,HZ,H2⟩:∃ z:Array Value,Aside0 (z.size=34)∧Aside0 (Two w (stc (wd s.1) s.1.length s.2) z ((w.alloc (.cells (stc (wd s.1) s.1.length s.2) 68)).alloc (.cells z34_ 68))):=⟨_,⟨rfl⟩,⟨Two.new w _ _⟩⟩
 have HE:Aside0 (ends (behind cell s a b 1)=ends (gets b s)):=⟨rfl⟩
 go_enter Tryd.func55,Tryd.ntmps55
 go_wp2_with (first
  | (refine wpList_load_row rfl 68 _ rfl w.heap.size rfl 68 _ (0,0) _ H2.out.x Tryd.underlying68 rfl (by rw [stc_size]; exact info68) ?_)
  | (go_at_call 56; (refine gets_go _ b (by assumption) (by first|decide|omega) _ (fun e1 w1 H1 hb=>?_) (fun t w1 H1 F1 hb=>?_)); (have H2:=Aside0.mk (H2.out.call hb); exact ⟨rfl,(by rw [HE.out,H1.out]; rfl),H2.out.b⟩); have H2:=Aside0.mk (H2.out.call hb); have h:=HE.out; simp only [H1.out,Except.bind] at h; have HE:=Aside0.mk h; clear h hb H1)
  | (refine wpList_store_row rfl 68 _ _ rfl (w.heap.size+1) (stc (wd t.1) t.1.length t.2) (by first|rfl|simp) rfl 68 _ H2.out.y (by rw [stc_size]; exact info68) (by rw [stc_size]; exact HZ.out) (stc_one _ _ _) ?_; have H2:=Aside0.mk (H2.out.set1 (stc (wd t.1) t.1.length t.2))))
 have hY:=H2.out.y
 exact bodyPost_ret (results_cell_row rfl _ _ (w.heap.size+1) 68 _ (0,0) _ rfl hY Tryd.underlying68 rfl (by rw [stc_size]; exact info68)) rfl ⟨HE.out.symm,H2.out.b⟩
set_option maxHeartbeats 4000000 in
set_option maxRecDepth 10000 in
theorem behind_2 (lg:Nat) (cell:Nat→Nat) (s:St) (a b:Nat) (hs:Fine s) (w:World):Calls Tryd.prog 55 #[.pointer (some ⟨lg,0,none⟩),stV s,.int .i64 2,.int .i64 (a:Nat),.int .i64 (b:Nat)] w fun e w'=>e=ends (behind cell s a b 2)∧Below w.heap.size w w':=by
 obtain ⟨z,HZ,H2⟩:∃ z:Array Value,Aside0 (z.size=34)∧Aside0 (Two w (stc (wd s.1) s.1.length s.2) z ((w.alloc (.cells (stc (wd s.1) s.1.length s.2) 68)).alloc (.cells z34_ 68))):=⟨_,⟨rfl⟩,⟨Two.new w _ _⟩⟩
 have HE:Aside0 (ends (behind cell s a b 2)=ends (gets 3 s)):=⟨rfl⟩
 go_enter Tryd.func55,Tryd.ntmps55
 go_wp2_with (first
  | (refine wpList_load_row rfl 68 _ rfl w.heap.size rfl 68 _ (0,0) _ H2.out.x Tryd.underlying68 rfl (by rw [stc_size]; exact info68) ?_)
  | (go_at_call 56; (refine gets_go _ 3 (by assumption) (by first|decide|omega) _ (fun e1 w1 H1 hb=>?_) (fun t w1 H1 F1 hb=>?_)); (have H2:=Aside0.mk (H2.out.call hb); exact ⟨rfl,(by rw [HE.out,H1.out]; rfl),H2.out.b⟩); have H2:=Aside0.mk (H2.out.call hb); have h:=HE.out; simp only [H1.out,Except.bind] at h; have HE:=Aside0.mk h; clear h hb H1)
  | (refine wpList_store_row rfl 68 _ _ rfl (w.heap.size+1) (stc (wd t.1) t.1.length t.2) (by first|rfl|simp) rfl 68 _ H2.out.y (by rw [stc_size]; exact info68) (by rw [stc_size]; exact HZ.out) (stc_one _ _ _) ?_; have H2:=Aside0.mk (H2.out.set1 (stc (wd t.1) t.1.length t.2))))
 have hY:=H2.out.y
 exact bodyPost_ret (results_cell_row rfl _ _ (w.heap.size+1) 68 _ (0,0) _ rfl hY Tryd.underlying68 rfl (by rw [stc_size]; exact info68)) rfl ⟨HE.out.symm,H2.out.b⟩
set_option maxHeartbeats 4000000 in
set_option maxRecDepth 10000 in
theorem behind_3y (lg:Nat) (cell:Nat→Nat) (s:St) (a b:Nat) (hs:Fine s) (w:World) (ha:a < s.2):Calls Tryd.prog 55 #[.pointer (some ⟨lg,0,none⟩),stV s,.int .i64 3,.int .i64 (a:Nat),.int .i64 (b:Nat)] w fun e w'=>e=ends (behind cell s a b 3)∧Below w.heap.size w w':=by
 obtain ⟨z,HZ,H2⟩:∃ z:Array Value,Aside0 (z.size=34)∧Aside0 (Two w (stc (wd s.1) s.1.length s.2) z ((w.alloc (.cells (stc (wd s.1) s.1.length s.2) 68)).alloc (.cells z34_ 68))):=⟨_,⟨rfl⟩,⟨Two.new w _ _⟩⟩
 have HE:Aside0 (ends (behind cell s a b 3)=ends (gets 3 s)):=⟨congrArg ends (if_pos ha)⟩
 have ne:decide (((a:Nat):Int) < ((s.2:Nat):Int))=true:=decide_eq_true (by omega)
 go_enter Tryd.func55,Tryd.ntmps55
 go_wp2_with (first
  | (refine wpList_load_row rfl 68 _ rfl w.heap.size rfl 68 _ (0,0) _ H2.out.x Tryd.underlying68 rfl (by rw [stc_size]; exact info68) ?_)
  | (go_at_call 53; (refine (must_yes 201 _).mono ?_); rintro e w2 ⟨rfl,rfl⟩)
  | (go_at_call 56; (refine gets_go _ 3 (by assumption) (by first|decide|omega) _ (fun e1 w1 H1 hb=>?_) (fun t w1 H1 F1 hb=>?_)); (have H2:=Aside0.mk (H2.out.call hb); exact ⟨rfl,(by rw [HE.out,H1.out]; rfl),H2.out.b⟩); have H2:=Aside0.mk (H2.out.call hb); have h:=HE.out; simp only [H1.out,Except.bind] at h; have HE:=Aside0.mk h; clear h hb H1)
  | (refine wpList_store_row rfl 68 _ _ rfl (w.heap.size+1) (stc (wd t.1) t.1.length t.2) (by first|rfl|simp) rfl 68 _ H2.out.y (by rw [stc_size]; exact info68) (by rw [stc_size]; exact HZ.out) (stc_one _ _ _) ?_; have H2:=Aside0.mk (H2.out.set1 (stc (wd t.1) t.1.length t.2))))
 have hY:=H2.out.y
 exact bodyPost_ret (results_cell_row rfl _ _ (w.heap.size+1) 68 _ (0,0) _ rfl hY Tryd.underlying68 rfl (by rw [stc_size]; exact info68)) rfl ⟨HE.out.symm,H2.out.b⟩
set_option maxHeartbeats 4000000 in
set_option maxRecDepth 10000 in
theorem behind_3n (lg:Nat) (cell:Nat→Nat) (s:St) (a b:Nat) (hs:Fine s) (w:World) (ha:¬ a < s.2):Calls Tryd.prog 55 #[.pointer (some ⟨lg,0,none⟩),stV s,.int .i64 3,.int .i64 (a:Nat),.int .i64 (b:Nat)] w fun e w'=>e=ends (behind cell s a b 3)∧Below w.heap.size w w':=by
 obtain ⟨z,HZ,H2⟩:∃ z:Array Value,Aside0 (z.size=34)∧Aside0 (Two w (stc (wd s.1) s.1.length s.2) z ((w.alloc (.cells (stc (wd s.1) s.1.length s.2) 68)).alloc (.cells z34_ 68))):=⟨_,⟨rfl⟩,⟨Two.new w _ _⟩⟩
 have ne:decide (((a:Nat):Int) < ((s.2:Nat):Int))=false:=decide_eq_false (by omega)
 have HE:Aside0 (ends (behind cell s a b 3)=.panicked (bad 201)):=⟨congrArg ends (if_neg ha)⟩
 go_enter Tryd.func55,Tryd.ntmps55
 go_wp2_with (first
  | (refine wpList_load_row rfl 68 _ rfl w.heap.size rfl 68 _ (0,0) _ H2.out.x Tryd.underlying68 rfl (by rw [stc_size]; exact info68) ?_)
  | (go_at_call 53; (refine (must_no 201 _).mono ?_); rintro e w2 ⟨rfl,rfl⟩))
 exact ⟨rfl,HE.out.symm,H2.out.b⟩
set_option maxHeartbeats 4000000 in
set_option maxRecDepth 10000 in
theorem behind_4 (lg:Nat) (cell:Nat→Nat) (s:St) (a b:Nat) (hs:Fine s) (w:World):Calls Tryd.prog 55 #[.pointer (some ⟨lg,0,none⟩),stV s,.int .i64 4,.int .i64 (a:Nat),.int .i64 (b:Nat)] w fun e w'=>e=ends (behind cell s a b 4)∧Below w.heap.size w w':=by
 obtain ⟨z,HZ,H2⟩:∃ z:Array Value,Aside0 (z.size=34)∧Aside0 (Two w (stc (wd s.1) s.1.length s.2) z ((w.alloc (.cells (stc (wd s.1) s.1.length s.2) 68)).alloc (.cells z34_ 68))):=⟨_,⟨rfl⟩,⟨Two.new w _ _⟩⟩
 have HE:Aside0 (ends (behind cell s a b 4)=ends ((needs 1 s).bind fun t=>gets 1 t)):=⟨rfl⟩
 go_enter Tryd.func55,Tryd.ntmps55
 go_wp2_with (first
  | (refine wpList_load_row rfl 68 _ rfl w.heap.size rfl 68 _ (0,0) _ H2.out.x Tryd.underlying68 rfl (by rw [stc_size]; exact info68) ?_)
  | (go_at_call 86; (refine needs_go _ 1 (by assumption) (by first|decide|omega) _ (fun e1 w1 H1 hb=>?_) (fun t w1 H1 F1 hb=>?_)); (have H2:=Aside0.mk (H2.out.call hb); exact ⟨rfl,(by rw [HE.out,H1.out]; rfl),H2.out.b⟩); have H2:=Aside0.mk (H2.out.call hb); have h:=HE.out; simp only [H1.out,Except.bind] at h; have HE:=Aside0.mk h; clear h hb H1)
  | (go_at_call 56; (refine gets_go _ 1 (by assumption) (by first|decide|omega) _ (fun e1 w1 H1 hb=>?_) (fun t w1 H1 F1 hb=>?_)); (have H2:=Aside0.mk (H2.out.call hb); exact ⟨rfl,(by rw [HE.out,H1.out]; rfl),H2.out.b⟩); have H2:=Aside0.mk (H2.out.call hb); have h:=HE.out; simp only [H1.out,Except.bind] at h; have HE:=Aside0.mk h; clear h hb H1)
  | (refine wpList_store_row rfl 68 _ _ rfl (w.heap.size+1) (stc (wd t.1) t.1.length t.2) (by first|rfl|simp) rfl 68 _ H2.out.y (by rw [stc_size]; exact info68) (by rw [stc_size]; exact HZ.out) (stc_one _ _ _) ?_; have H2:=Aside0.mk (H2.out.set1 (stc (wd t.1) t.1.length t.2))))
 have hY:=H2.out.y
 exact bodyPost_ret (results_cell_row rfl _ _ (w.heap.size+1) 68 _ (0,0) _ rfl hY Tryd.underlying68 rfl (by rw [stc_size]; exact info68)) rfl ⟨HE.out.symm,H2.out.b⟩
set_option maxHeartbeats 4000000 in
set_option maxRecDepth 10000 in
theorem behind_5 (lg:Nat) (cell:Nat→Nat) (s:St) (a b:Nat) (hs:Fine s) (w:World):Calls Tryd.prog 55 #[.pointer (some ⟨lg,0,none⟩),stV s,.int .i64 5,.int .i64 (a:Nat),.int .i64 (b:Nat)] w fun e w'=>e=ends (behind cell s a b 5)∧Below w.heap.size w w':=by
 obtain ⟨z,HZ,H2⟩:∃ z:Array Value,Aside0 (z.size=34)∧Aside0 (Two w (stc (wd s.1) s.1.length s.2) z ((w.alloc (.cells (stc (wd s.1) s.1.length s.2) 68)).alloc (.cells z34_ 68))):=⟨_,⟨rfl⟩,⟨Two.new w _ _⟩⟩
 have HE:Aside0 (ends (behind cell s a b 5)=ends ((needs 2 s).bind fun t=>gets 2 t)):=⟨rfl⟩
 go_enter Tryd.func55,Tryd.ntmps55
 go_wp2_with (first
  | (refine wpList_load_row rfl 68 _ rfl w.heap.size rfl 68 _ (0,0) _ H2.out.x Tryd.underlying68 rfl (by rw [stc_size]; exact info68) ?_)
  | (go_at_call 86; (refine needs_go _ 2 (by assumption) (by first|decide|omega) _ (fun e1 w1 H1 hb=>?_) (fun t w1 H1 F1 hb=>?_)); (have H2:=Aside0.mk (H2.out.call hb); exact ⟨rfl,(by rw [HE.out,H1.out]; rfl),H2.out.b⟩); have H2:=Aside0.mk (H2.out.call hb); have h:=HE.out; simp only [H1.out,Except.bind] at h; have HE:=Aside0.mk h; clear h hb H1)
  | (go_at_call 56; (refine gets_go _ 2 (by assumption) (by first|decide|omega) _ (fun e1 w1 H1 hb=>?_) (fun t w1 H1 F1 hb=>?_)); (have H2:=Aside0.mk (H2.out.call hb); exact ⟨rfl,(by rw [HE.out,H1.out]; rfl),H2.out.b⟩); have H2:=Aside0.mk (H2.out.call hb); have h:=HE.out; simp only [H1.out,Except.bind] at h; have HE:=Aside0.mk h; clear h hb H1)
  | (refine wpList_store_row rfl 68 _ _ rfl (w.heap.size+1) (stc (wd t.1) t.1.length t.2) (by first|rfl|simp) rfl 68 _ H2.out.y (by rw [stc_size]; exact info68) (by rw [stc_size]; exact HZ.out) (stc_one _ _ _) ?_; have H2:=Aside0.mk (H2.out.set1 (stc (wd t.1) t.1.length t.2))))
 have hY:=H2.out.y
 exact bodyPost_ret (results_cell_row rfl _ _ (w.heap.size+1) 68 _ (0,0) _ rfl hY Tryd.underlying68 rfl (by rw [stc_size]; exact info68)) rfl ⟨HE.out.symm,H2.out.b⟩
set_option maxHeartbeats 4000000 in
set_option maxRecDepth 10000 in
theorem behind_6 (lg:Nat) (cell:Nat→Nat) (s:St) (a b:Nat) (hs:Fine s) (w:World):Calls Tryd.prog 55 #[.pointer (some ⟨lg,0,none⟩),stV s,.int .i64 6,.int .i64 (a:Nat),.int .i64 (b:Nat)] w fun e w'=>e=ends (behind cell s a b 6)∧Below w.heap.size w w':=by
 obtain ⟨z,HZ,H2⟩:∃ z:Array Value,Aside0 (z.size=34)∧Aside0 (Two w (stc (wd s.1) s.1.length s.2) z ((w.alloc (.cells (stc (wd s.1) s.1.length s.2) 68)).alloc (.cells z34_ 68))):=⟨_,⟨rfl⟩,⟨Two.new w _ _⟩⟩
 have HE:Aside0 (ends (behind cell s a b 6)=ends ((needs 1 s).bind fun t=>(needs 1 t).bind fun u=>gets 1 u)):=⟨rfl⟩
 go_enter Tryd.func55,Tryd.ntmps55
 go_wp2_with (first
  | (refine wpList_load_row rfl 68 _ rfl w.heap.size rfl 68 _ (0,0) _ H2.out.x Tryd.underlying68 rfl (by rw [stc_size]; exact info68) ?_)
  | (go_at_call 86; (refine needs_go _ 1 (by assumption) (by first|decide|omega) _ (fun e1 w1 H1 hb=>?_) (fun t w1 H1 F1 hb=>?_)); (have H2:=Aside0.mk (H2.out.call hb); exact ⟨rfl,(by rw [HE.out,H1.out]; rfl),H2.out.b⟩); have H2:=Aside0.mk (H2.out.call hb); have h:=HE.out; simp only [H1.out,Except.bind] at h; have HE:=Aside0.mk h; clear h hb H1)
  | (go_at_call 56; (refine gets_go _ 1 (by assumption) (by first|decide|omega) _ (fun e1 w1 H1 hb=>?_) (fun t w1 H1 F1 hb=>?_)); (have H2:=Aside0.mk (H2.out.call hb); exact ⟨rfl,(by rw [HE.out,H1.out]; rfl),H2.out.b⟩); have H2:=Aside0.mk (H2.out.call hb); have h:=HE.out; simp only [H1.out,Except.bind] at h; have HE:=Aside0.mk h; clear h hb H1)
  | (refine wpList_store_row rfl 68 _ _ rfl (w.heap.size+1) (stc (wd t.1) t.1.length t.2) (by first|rfl|simp) rfl 68 _ H2.out.y (by rw [stc_size]; exact info68) (by rw [stc_size]; exact HZ.out) (stc_one _ _ _) ?_; have H2:=Aside0.mk (H2.out.set1 (stc (wd t.1) t.1.length t.2))))
 have hY:=H2.out.y
 exact bodyPost_ret (results_cell_row rfl _ _ (w.heap.size+1) 68 _ (0,0) _ rfl hY Tryd.underlying68 rfl (by rw [stc_size]; exact info68)) rfl ⟨HE.out.symm,H2.out.b⟩
set_option maxHeartbeats 4000000 in
set_option maxRecDepth 10000 in
theorem behind_7 (lg:Nat) (cell:Nat→Nat) (s:St) (a b:Nat) (hs:Fine s) (w:World):Calls Tryd.prog 55 #[.pointer (some ⟨lg,0,none⟩),stV s,.int .i64 7,.int .i64 (a:Nat),.int .i64 (b:Nat)] w fun e w'=>e=ends (behind cell s a b 7)∧Below w.heap.size w w':=by
 obtain ⟨z,HZ,H2⟩:∃ z:Array Value,Aside0 (z.size=34)∧Aside0 (Two w (stc (wd s.1) s.1.length s.2) z ((w.alloc (.cells (stc (wd s.1) s.1.length s.2) 68)).alloc (.cells z34_ 68))):=⟨_,⟨rfl⟩,⟨Two.new w _ _⟩⟩
 have HE:Aside0 (ends (behind cell s a b 7)=ends ((needs 1 s).bind fun t=>(needs 1 t).bind fun u=>gets 1 u)):=⟨rfl⟩
 go_enter Tryd.func55,Tryd.ntmps55
 go_wp2_with (first
  | (refine wpList_load_row rfl 68 _ rfl w.heap.size rfl 68 _ (0,0) _ H2.out.x Tryd.underlying68 rfl (by rw [stc_size]; exact info68) ?_)
  | (go_at_call 86; (refine needs_go _ 1 (by assumption) (by first|decide|omega) _ (fun e1 w1 H1 hb=>?_) (fun t w1 H1 F1 hb=>?_)); (have H2:=Aside0.mk (H2.out.call hb); exact ⟨rfl,(by rw [HE.out,H1.out]; rfl),H2.out.b⟩); have H2:=Aside0.mk (H2.out.call hb); have h:=HE.out; simp only [H1.out,Except.bind] at h; have HE:=Aside0.mk h; clear h hb H1)
  | (go_at_call 56; (refine gets_go _ 1 (by assumption) (by first|decide|omega) _ (fun e1 w1 H1 hb=>?_) (fun t w1 H1 F1 hb=>?_)); (have H2:=Aside0.mk (H2.out.call hb); exact ⟨rfl,(by rw [HE.out,H1.out]; rfl),H2.out.b⟩); have H2:=Aside0.mk (H2.out.call hb); have h:=HE.out; simp only [H1.out,Except.bind] at h; have HE:=Aside0.mk h; clear h hb H1)
  | (refine wpList_store_row rfl 68 _ _ rfl (w.heap.size+1) (stc (wd t.1) t.1.length t.2) (by first|rfl|simp) rfl 68 _ H2.out.y (by rw [stc_size]; exact info68) (by rw [stc_size]; exact HZ.out) (stc_one _ _ _) ?_; have H2:=Aside0.mk (H2.out.set1 (stc (wd t.1) t.1.length t.2))))
 have hY:=H2.out.y
 exact bodyPost_ret (results_cell_row rfl _ _ (w.heap.size+1) 68 _ (0,0) _ rfl hY Tryd.underlying68 rfl (by rw [stc_size]; exact info68)) rfl ⟨HE.out.symm,H2.out.b⟩
set_option maxHeartbeats 4000000 in
set_option maxRecDepth 10000 in
theorem behind_8 (lg:Nat) (cell:Nat→Nat) (s:St) (a b:Nat) (hs:Fine s) (w:World):Calls Tryd.prog 55 #[.pointer (some ⟨lg,0,none⟩),stV s,.int .i64 8,.int .i64 (a:Nat),.int .i64 (b:Nat)] w fun e w'=>e=ends (behind cell s a b 8)∧Below w.heap.size w w':=by
 obtain ⟨z,HZ,H2⟩:∃ z:Array Value,Aside0 (z.size=34)∧Aside0 (Two w (stc (wd s.1) s.1.length s.2) z ((w.alloc (.cells (stc (wd s.1) s.1.length s.2) 68)).alloc (.cells z34_ 68))):=⟨_,⟨rfl⟩,⟨Two.new w _ _⟩⟩
 have HE:Aside0 (ends (behind cell s a b 8)=ends ((needs 1 s).bind fun t=>(needs 1 t).bind fun u=>gets 1 u)):=⟨rfl⟩
 go_enter Tryd.func55,Tryd.ntmps55
 go_wp2_with (first
  | (refine wpList_load_row rfl 68 _ rfl w.heap.size rfl 68 _ (0,0) _ H2.out.x Tryd.underlying68 rfl (by rw [stc_size]; exact info68) ?_)
  | (go_at_call 86; (refine needs_go _ 1 (by assumption) (by first|decide|omega) _ (fun e1 w1 H1 hb=>?_) (fun t w1 H1 F1 hb=>?_)); (have H2:=Aside0.mk (H2.out.call hb); exact ⟨rfl,(by rw [HE.out,H1.out]; rfl),H2.out.b⟩); have H2:=Aside0.mk (H2.out.call hb); have h:=HE.out; simp only [H1.out,Except.bind] at h; have HE:=Aside0.mk h; clear h hb H1)
  | (go_at_call 56; (refine gets_go _ 1 (by assumption) (by first|decide|omega) _ (fun e1 w1 H1 hb=>?_) (fun t w1 H1 F1 hb=>?_)); (have H2:=Aside0.mk (H2.out.call hb); exact ⟨rfl,(by rw [HE.out,H1.out]; rfl),H2.out.b⟩); have H2:=Aside0.mk (H2.out.call hb); have h:=HE.out; simp only [H1.out,Except.bind] at h; have HE:=Aside0.mk h; clear h hb H1)
  | (refine wpList_store_row rfl 68 _ _ rfl (w.heap.size+1) (stc (wd t.1) t.1.length t.2) (by first|rfl|simp) rfl 68 _ H2.out.y (by rw [stc_size]; exact info68) (by rw [stc_size]; exact HZ.out) (stc_one _ _ _) ?_; have H2:=Aside0.mk (H2.out.set1 (stc (wd t.1) t.1.length t.2))))
 have hY:=H2.out.y
 exact bodyPost_ret (results_cell_row rfl _ _ (w.heap.size+1) 68 _ (0,0) _ rfl hY Tryd.underlying68 rfl (by rw [stc_size]; exact info68)) rfl ⟨HE.out.symm,H2.out.b⟩
set_option maxHeartbeats 4000000 in
set_option maxRecDepth 10000 in
theorem behind_9 (lg:Nat) (cell:Nat→Nat) (s:St) (a b:Nat) (hs:Fine s) (w:World):Calls Tryd.prog 55 #[.pointer (some ⟨lg,0,none⟩),stV s,.int .i64 9,.int .i64 (a:Nat),.int .i64 (b:Nat)] w fun e w'=>e=ends (behind cell s a b 9)∧Below w.heap.size w w':=by
 obtain ⟨z,HZ,H2⟩:∃ z:Array Value,Aside0 (z.size=34)∧Aside0 (Two w (stc (wd s.1) s.1.length s.2) z ((w.alloc (.cells (stc (wd s.1) s.1.length s.2) 68)).alloc (.cells z34_ 68))):=⟨_,⟨rfl⟩,⟨Two.new w _ _⟩⟩
 have HE:Aside0 (ends (behind cell s a b 9)=ends ((needs 1 s).bind fun t=>(needs 1 t).bind fun u=>gets 1 u)):=⟨rfl⟩
 go_enter Tryd.func55,Tryd.ntmps55
 go_wp2_with (first
  | (refine wpList_load_row rfl 68 _ rfl w.heap.size rfl 68 _ (0,0) _ H2.out.x Tryd.underlying68 rfl (by rw [stc_size]; exact info68) ?_)
  | (go_at_call 86; (refine needs_go _ 1 (by assumption) (by first|decide|omega) _ (fun e1 w1 H1 hb=>?_) (fun t w1 H1 F1 hb=>?_)); (have H2:=Aside0.mk (H2.out.call hb); exact ⟨rfl,(by rw [HE.out,H1.out]; rfl),H2.out.b⟩); have H2:=Aside0.mk (H2.out.call hb); have h:=HE.out; simp only [H1.out,Except.bind] at h; have HE:=Aside0.mk h; clear h hb H1)
  | (go_at_call 56; (refine gets_go _ 1 (by assumption) (by first|decide|omega) _ (fun e1 w1 H1 hb=>?_) (fun t w1 H1 F1 hb=>?_)); (have H2:=Aside0.mk (H2.out.call hb); exact ⟨rfl,(by rw [HE.out,H1.out]; rfl),H2.out.b⟩); have H2:=Aside0.mk (H2.out.call hb); have h:=HE.out; simp only [H1.out,Except.bind] at h; have HE:=Aside0.mk h; clear h hb H1)
  | (refine wpList_store_row rfl 68 _ _ rfl (w.heap.size+1) (stc (wd t.1) t.1.length t.2) (by first|rfl|simp) rfl 68 _ H2.out.y (by rw [stc_size]; exact info68) (by rw [stc_size]; exact HZ.out) (stc_one _ _ _) ?_; have H2:=Aside0.mk (H2.out.set1 (stc (wd t.1) t.1.length t.2))))
 have hY:=H2.out.y
 exact bodyPost_ret (results_cell_row rfl _ _ (w.heap.size+1) 68 _ (0,0) _ rfl hY Tryd.underlying68 rfl (by rw [stc_size]; exact info68)) rfl ⟨HE.out.symm,H2.out.b⟩
set_option maxHeartbeats 4000000 in
set_option maxRecDepth 10000 in
theorem behind_10 (lg:Nat) (cell:Nat→Nat) (s:St) (a b:Nat) (hs:Fine s) (w:World):Calls Tryd.prog 55 #[.pointer (some ⟨lg,0,none⟩),stV s,.int .i64 10,.int .i64 (a:Nat),.int .i64 (b:Nat)] w fun e w'=>e=ends (behind cell s a b 10)∧Below w.heap.size w w':=by
 obtain ⟨z,HZ,H2⟩:∃ z:Array Value,Aside0 (z.size=34)∧Aside0 (Two w (stc (wd s.1) s.1.length s.2) z ((w.alloc (.cells (stc (wd s.1) s.1.length s.2) 68)).alloc (.cells z34_ 68))):=⟨_,⟨rfl⟩,⟨Two.new w _ _⟩⟩
 have HE:Aside0 (ends (behind cell s a b 10)=ends ((needs 1 s).bind fun t=>(needs 1 t).bind fun u=>gets 1 u)):=⟨rfl⟩
 go_enter Tryd.func55,Tryd.ntmps55
 go_wp2_with (first
  | (refine wpList_load_row rfl 68 _ rfl w.heap.size rfl 68 _ (0,0) _ H2.out.x Tryd.underlying68 rfl (by rw [stc_size]; exact info68) ?_)
  | (go_at_call 86; (refine needs_go _ 1 (by assumption) (by first|decide|omega) _ (fun e1 w1 H1 hb=>?_) (fun t w1 H1 F1 hb=>?_)); (have H2:=Aside0.mk (H2.out.call hb); exact ⟨rfl,(by rw [HE.out,H1.out]; rfl),H2.out.b⟩); have H2:=Aside0.mk (H2.out.call hb); have h:=HE.out; simp only [H1.out,Except.bind] at h; have HE:=Aside0.mk h; clear h hb H1)
  | (go_at_call 56; (refine gets_go _ 1 (by assumption) (by first|decide|omega) _ (fun e1 w1 H1 hb=>?_) (fun t w1 H1 F1 hb=>?_)); (have H2:=Aside0.mk (H2.out.call hb); exact ⟨rfl,(by rw [HE.out,H1.out]; rfl),H2.out.b⟩); have H2:=Aside0.mk (H2.out.call hb); have h:=HE.out; simp only [H1.out,Except.bind] at h; have HE:=Aside0.mk h; clear h hb H1)
  | (refine wpList_store_row rfl 68 _ _ rfl (w.heap.size+1) (stc (wd t.1) t.1.length t.2) (by first|rfl|simp) rfl 68 _ H2.out.y (by rw [stc_size]; exact info68) (by rw [stc_size]; exact HZ.out) (stc_one _ _ _) ?_; have H2:=Aside0.mk (H2.out.set1 (stc (wd t.1) t.1.length t.2))))
 have hY:=H2.out.y
 exact bodyPost_ret (results_cell_row rfl _ _ (w.heap.size+1) 68 _ (0,0) _ rfl hY Tryd.underlying68 rfl (by rw [stc_size]; exact info68)) rfl ⟨HE.out.symm,H2.out.b⟩
set_option maxHeartbeats 4000000 in
set_option maxRecDepth 10000 in
theorem behind_11 (lg:Nat) (cell:Nat→Nat) (s:St) (a b:Nat) (hs:Fine s) (w:World) (hb:1≤b∧b < 4):Calls Tryd.prog 55 #[.pointer (some ⟨lg,0,none⟩),stV s,.int .i64 11,.int .i64 (a:Nat),.int .i64 (b:Nat)] w fun e w'=>e=ends (behind cell s a b 11)∧Below w.heap.size w w':=by
 obtain ⟨z,HZ,H2⟩:∃ z:Array Value,Aside0 (z.size=34)∧Aside0 (Two w (stc (wd s.1) s.1.length s.2) z ((w.alloc (.cells (stc (wd s.1) s.1.length s.2) 68)).alloc (.cells z34_ 68))):=⟨_,⟨rfl⟩,⟨Two.new w _ _⟩⟩
 have HE:Aside0 (ends (behind cell s a b 11)=ends ((needs b s).bind fun t=>(needs b t).bind fun u=>gets 2 u)):=⟨rfl⟩
 go_enter Tryd.func55,Tryd.ntmps55
 go_wp2_with (first
  | (refine wpList_load_row rfl 68 _ rfl w.heap.size rfl 68 _ (0,0) _ H2.out.x Tryd.underlying68 rfl (by rw [stc_size]; exact info68) ?_)
  | (go_at_call 86; (refine needs_go _ b (by assumption) (by first|decide|omega) _ (fun e1 w1 H1 hb=>?_) (fun t w1 H1 F1 hb=>?_)); (have H2:=Aside0.mk (H2.out.call hb); exact ⟨rfl,(by rw [HE.out,H1.out]; rfl),H2.out.b⟩); have H2:=Aside0.mk (H2.out.call hb); have h:=HE.out; simp only [H1.out,Except.bind] at h; have HE:=Aside0.mk h; clear h hb H1)
  | (go_at_call 56; (refine gets_go _ 2 (by assumption) (by first|decide|omega) _ (fun e1 w1 H1 hb=>?_) (fun t w1 H1 F1 hb=>?_)); (have H2:=Aside0.mk (H2.out.call hb); exact ⟨rfl,(by rw [HE.out,H1.out]; rfl),H2.out.b⟩); have H2:=Aside0.mk (H2.out.call hb); have h:=HE.out; simp only [H1.out,Except.bind] at h; have HE:=Aside0.mk h; clear h hb H1)
  | (refine wpList_store_row rfl 68 _ _ rfl (w.heap.size+1) (stc (wd t.1) t.1.length t.2) (by first|rfl|simp) rfl 68 _ H2.out.y (by rw [stc_size]; exact info68) (by rw [stc_size]; exact HZ.out) (stc_one _ _ _) ?_; have H2:=Aside0.mk (H2.out.set1 (stc (wd t.1) t.1.length t.2))))
 have hY:=H2.out.y
 exact bodyPost_ret (results_cell_row rfl _ _ (w.heap.size+1) 68 _ (0,0) _ rfl hY Tryd.underlying68 rfl (by rw [stc_size]; exact info68)) rfl ⟨HE.out.symm,H2.out.b⟩
set_option maxHeartbeats 4000000 in
set_option maxRecDepth 10000 in
theorem behind_12 (lg:Nat) (cell:Nat→Nat) (s:St) (a b:Nat) (hs:Fine s) (w:World):Calls Tryd.prog 55 #[.pointer (some ⟨lg,0,none⟩),stV s,.int .i64 12,.int .i64 (a:Nat),.int .i64 (b:Nat)] w fun e w'=>e=ends (behind cell s a b 12)∧Below w.heap.size w w':=by
 obtain ⟨z,HZ,H2⟩:∃ z:Array Value,Aside0 (z.size=34)∧Aside0 (Two w (stc (wd s.1) s.1.length s.2) z ((w.alloc (.cells (stc (wd s.1) s.1.length s.2) 68)).alloc (.cells z34_ 68))):=⟨_,⟨rfl⟩,⟨Two.new w _ _⟩⟩
 have HE:Aside0 (ends (behind cell s a b 12)=ends ((needs 1 s).bind fun t=>(needs 1 t).bind fun u=>gets 2 u)):=⟨rfl⟩
 go_enter Tryd.func55,Tryd.ntmps55
 go_wp2_with (first
  | (refine wpList_load_row rfl 68 _ rfl w.heap.size rfl 68 _ (0,0) _ H2.out.x Tryd.underlying68 rfl (by rw [stc_size]; exact info68) ?_)
  | (go_at_call 86; (refine needs_go _ 1 (by assumption) (by first|decide|omega) _ (fun e1 w1 H1 hb=>?_) (fun t w1 H1 F1 hb=>?_)); (have H2:=Aside0.mk (H2.out.call hb); exact ⟨rfl,(by rw [HE.out,H1.out]; rfl),H2.out.b⟩); have H2:=Aside0.mk (H2.out.call hb); have h:=HE.out; simp only [H1.out,Except.bind] at h; have HE:=Aside0.mk h; clear h hb H1)
  | (go_at_call 56; (refine gets_go _ 2 (by assumption) (by first|decide|omega) _ (fun e1 w1 H1 hb=>?_) (fun t w1 H1 F1 hb=>?_)); (have H2:=Aside0.mk (H2.out.call hb); exact ⟨rfl,(by rw [HE.out,H1.out]; rfl),H2.out.b⟩); have H2:=Aside0.mk (H2.out.call hb); have h:=HE.out; simp only [H1.out,Except.bind] at h; have HE:=Aside0.mk h; clear h hb H1)
  | (refine wpList_store_row rfl 68 _ _ rfl (w.heap.size+1) (stc (wd t.1) t.1.length t.2) (by first|rfl|simp) rfl 68 _ H2.out.y (by rw [stc_size]; exact info68) (by rw [stc_size]; exact HZ.out) (stc_one _ _ _) ?_; have H2:=Aside0.mk (H2.out.set1 (stc (wd t.1) t.1.length t.2))))
 have hY:=H2.out.y
 exact bodyPost_ret (results_cell_row rfl _ _ (w.heap.size+1) 68 _ (0,0) _ rfl hY Tryd.underlying68 rfl (by rw [stc_size]; exact info68)) rfl ⟨HE.out.symm,H2.out.b⟩
set_option maxHeartbeats 4000000 in
set_option maxRecDepth 10000 in
theorem behind_14 (lg:Nat) (cell:Nat→Nat) (s:St) (a b:Nat) (hs:Fine s) (w:World):Calls Tryd.prog 55 #[.pointer (some ⟨lg,0,none⟩),stV s,.int .i64 14,.int .i64 (a:Nat),.int .i64 (b:Nat)] w fun e w'=>e=ends (behind cell s a b 14)∧Below w.heap.size w w':=by
 obtain ⟨z,HZ,H2⟩:∃ z:Array Value,Aside0 (z.size=34)∧Aside0 (Two w (stc (wd s.1) s.1.length s.2) z ((w.alloc (.cells (stc (wd s.1) s.1.length s.2) 68)).alloc (.cells z34_ 68))):=⟨_,⟨rfl⟩,⟨Two.new w _ _⟩⟩
 have HE:Aside0 (ends (behind cell s a b 14)=ends (needs 2 s)):=⟨rfl⟩
 go_enter Tryd.func55,Tryd.ntmps55
 go_wp2_with (first
  | (refine wpList_load_row rfl 68 _ rfl w.heap.size rfl 68 _ (0,0) _ H2.out.x Tryd.underlying68 rfl (by rw [stc_size]; exact info68) ?_)
  | (go_at_call 86; (refine needs_go _ 2 (by assumption) (by first|decide|omega) _ (fun e1 w1 H1 hb=>?_) (fun t w1 H1 F1 hb=>?_)); (have H2:=Aside0.mk (H2.out.call hb); exact ⟨rfl,(by rw [HE.out,H1.out]; rfl),H2.out.b⟩); have H2:=Aside0.mk (H2.out.call hb); have h:=HE.out; simp only [H1.out,Except.bind] at h; have HE:=Aside0.mk h; clear h hb H1)
  | (refine wpList_store_row rfl 68 _ _ rfl (w.heap.size+1) (stc (wd t.1) t.1.length t.2) (by first|rfl|simp) rfl 68 _ H2.out.y (by rw [stc_size]; exact info68) (by rw [stc_size]; exact HZ.out) (stc_one _ _ _) ?_; have H2:=Aside0.mk (H2.out.set1 (stc (wd t.1) t.1.length t.2))))
 have hY:=H2.out.y
 exact bodyPost_ret (results_cell_row rfl _ _ (w.heap.size+1) 68 _ (0,0) _ rfl hY Tryd.underlying68 rfl (by rw [stc_size]; exact info68)) rfl ⟨HE.out.symm,H2.out.b⟩
set_option maxHeartbeats 4000000 in
set_option maxRecDepth 10000 in
theorem behind_15 (lg:Nat) (cell:Nat→Nat) (s:St) (a b:Nat) (hs:Fine s) (w:World):Calls Tryd.prog 55 #[.pointer (some ⟨lg,0,none⟩),stV s,.int .i64 15,.int .i64 (a:Nat),.int .i64 (b:Nat)] w fun e w'=>e=ends (behind cell s a b 15)∧Below w.heap.size w w':=by
 obtain ⟨z,HZ,H2⟩:∃ z:Array Value,Aside0 (z.size=34)∧Aside0 (Two w (stc (wd s.1) s.1.length s.2) z ((w.alloc (.cells (stc (wd s.1) s.1.length s.2) 68)).alloc (.cells z34_ 68))):=⟨_,⟨rfl⟩,⟨Two.new w _ _⟩⟩
 have HE:Aside0 (ends (behind cell s a b 15)=ends (needs 2 s)):=⟨rfl⟩
 go_enter Tryd.func55,Tryd.ntmps55
 go_wp2_with (first
  | (refine wpList_load_row rfl 68 _ rfl w.heap.size rfl 68 _ (0,0) _ H2.out.x Tryd.underlying68 rfl (by rw [stc_size]; exact info68) ?_)
  | (go_at_call 86; (refine needs_go _ 2 (by assumption) (by first|decide|omega) _ (fun e1 w1 H1 hb=>?_) (fun t w1 H1 F1 hb=>?_)); (have H2:=Aside0.mk (H2.out.call hb); exact ⟨rfl,(by rw [HE.out,H1.out]; rfl),H2.out.b⟩); have H2:=Aside0.mk (H2.out.call hb); have h:=HE.out; simp only [H1.out,Except.bind] at h; have HE:=Aside0.mk h; clear h hb H1)
  | (refine wpList_store_row rfl 68 _ _ rfl (w.heap.size+1) (stc (wd t.1) t.1.length t.2) (by first|rfl|simp) rfl 68 _ H2.out.y (by rw [stc_size]; exact info68) (by rw [stc_size]; exact HZ.out) (stc_one _ _ _) ?_; have H2:=Aside0.mk (H2.out.set1 (stc (wd t.1) t.1.length t.2))))
 have hY:=H2.out.y
 exact bodyPost_ret (results_cell_row rfl _ _ (w.heap.size+1) 68 _ (0,0) _ rfl hY Tryd.underlying68 rfl (by rw [stc_size]; exact info68)) rfl ⟨HE.out.symm,H2.out.b⟩
set_option maxHeartbeats 4000000 in
set_option maxRecDepth 10000 in
theorem behind_27 (lg:Nat) (cell:Nat→Nat) (s:St) (a b:Nat) (hs:Fine s) (w:World):Calls Tryd.prog 55 #[.pointer (some ⟨lg,0,none⟩),stV s,.int .i64 27,.int .i64 (a:Nat),.int .i64 (b:Nat)] w fun e w'=>e=ends (behind cell s a b 27)∧Below w.heap.size w w':=by
 obtain ⟨z,HZ,H2⟩:∃ z:Array Value,Aside0 (z.size=34)∧Aside0 (Two w (stc (wd s.1) s.1.length s.2) z ((w.alloc (.cells (stc (wd s.1) s.1.length s.2) 68)).alloc (.cells z34_ 68))):=⟨_,⟨rfl⟩,⟨Two.new w _ _⟩⟩
 have HE:Aside0 (ends (behind cell s a b 27)=ends (needs 2 s)):=⟨rfl⟩
 go_enter Tryd.func55,Tryd.ntmps55
 go_wp2_with (first
  | (refine wpList_load_row rfl 68 _ rfl w.heap.size rfl 68 _ (0,0) _ H2.out.x Tryd.underlying68 rfl (by rw [stc_size]; exact info68) ?_)
  | (go_at_call 86; (refine needs_go _ 2 (by assumption) (by first|decide|omega) _ (fun e1 w1 H1 hb=>?_) (fun t w1 H1 F1 hb=>?_)); (have H2:=Aside0.mk (H2.out.call hb); exact ⟨rfl,(by rw [HE.out,H1.out]; rfl),H2.out.b⟩); have H2:=Aside0.mk (H2.out.call hb); have h:=HE.out; simp only [H1.out,Except.bind] at h; have HE:=Aside0.mk h; clear h hb H1)
  | (refine wpList_store_row rfl 68 _ _ rfl (w.heap.size+1) (stc (wd t.1) t.1.length t.2) (by first|rfl|simp) rfl 68 _ H2.out.y (by rw [stc_size]; exact info68) (by rw [stc_size]; exact HZ.out) (stc_one _ _ _) ?_; have H2:=Aside0.mk (H2.out.set1 (stc (wd t.1) t.1.length t.2))))
 have hY:=H2.out.y
 exact bodyPost_ret (results_cell_row rfl _ _ (w.heap.size+1) 68 _ (0,0) _ rfl hY Tryd.underlying68 rfl (by rw [stc_size]; exact info68)) rfl ⟨HE.out.symm,H2.out.b⟩
set_option maxHeartbeats 4000000 in
set_option maxRecDepth 10000 in
theorem behind_16 (lg:Nat) (cell:Nat→Nat) (s:St) (a b:Nat) (hs:Fine s) (w:World):Calls Tryd.prog 55 #[.pointer (some ⟨lg,0,none⟩),stV s,.int .i64 16,.int .i64 (a:Nat),.int .i64 (b:Nat)] w fun e w'=>e=ends (behind cell s a b 16)∧Below w.heap.size w w':=by
 obtain ⟨z,HZ,H2⟩:∃ z:Array Value,Aside0 (z.size=34)∧Aside0 (Two w (stc (wd s.1) s.1.length s.2) z ((w.alloc (.cells (stc (wd s.1) s.1.length s.2) 68)).alloc (.cells z34_ 68))):=⟨_,⟨rfl⟩,⟨Two.new w _ _⟩⟩
 have HE:Aside0 (ends (behind cell s a b 16)=ends (call a s)):=⟨rfl⟩
 go_enter Tryd.func55,Tryd.ntmps55
 go_wp2_with (first
  | (refine wpList_load_row rfl 68 _ rfl w.heap.size rfl 68 _ (0,0) _ H2.out.x Tryd.underlying68 rfl (by rw [stc_size]; exact info68) ?_)
  | (go_at_call 87; (refine exc_go (call_calls _ a (by assumption) _) (fun e1 w1 H1 hb=>?_) (fun t w1 H1 hb=>?_)); (have H2:=Aside0.mk (H2.out.call hb); exact ⟨rfl,(by rw [HE.out,H1.out]; rfl),H2.out.b⟩); have H2:=Aside0.mk (H2.out.call hb); have h:=HE.out; simp only [H1.out] at h; have HE:=Aside0.mk h; clear h hb H1)
  | (refine wpList_store_row rfl 68 _ _ rfl (w.heap.size+1) (stc (wd t.1) t.1.length t.2) (by first|rfl|simp) rfl 68 _ H2.out.y (by rw [stc_size]; exact info68) (by rw [stc_size]; exact HZ.out) (stc_one _ _ _) ?_; have H2:=Aside0.mk (H2.out.set1 (stc (wd t.1) t.1.length t.2))))
 have hY:=H2.out.y
 exact bodyPost_ret (results_cell_row rfl _ _ (w.heap.size+1) 68 _ (0,0) _ rfl hY Tryd.underlying68 rfl (by rw [stc_size]; exact info68)) rfl ⟨HE.out.symm,H2.out.b⟩
set_option maxHeartbeats 4000000 in
set_option maxRecDepth 10000 in
theorem behind_20 (lg:Nat) (cell:Nat→Nat) (s:St) (a b:Nat) (hs:Fine s) (w:World):Calls Tryd.prog 55 #[.pointer (some ⟨lg,0,none⟩),stV s,.int .i64 20,.int .i64 (a:Nat),.int .i64 (b:Nat)] w fun e w'=>e=ends (behind cell s a b 20)∧Below w.heap.size w w':=by
 obtain ⟨z,HZ,H2⟩:∃ z:Array Value,Aside0 (z.size=34)∧Aside0 (Two w (stc (wd s.1) s.1.length s.2) z ((w.alloc (.cells (stc (wd s.1) s.1.length s.2) 68)).alloc (.cells z34_ 68))):=⟨_,⟨rfl⟩,⟨Two.new w _ _⟩⟩
 have HE:Aside0 (ends (behind cell s a b 20)=ends (opened s)):=⟨rfl⟩
 go_enter Tryd.func55,Tryd.ntmps55
 go_wp2_with (first
  | (refine wpList_load_row rfl 68 _ rfl w.heap.size rfl 68 _ (0,0) _ H2.out.x Tryd.underlying68 rfl (by rw [stc_size]; exact info68) ?_)
  | (go_at_call 88; (refine opened_go _ (by assumption) _ (fun e1 w1 H1 hb=>?_) (fun t w1 H1 F1 hb=>?_)); (have H2:=Aside0.mk (H2.out.call hb); exact ⟨rfl,(by rw [HE.out,H1.out]; rfl),H2.out.b⟩); have H2:=Aside0.mk (H2.out.call hb); have h:=HE.out; simp only [H1.out,Except.bind] at h; have HE:=Aside0.mk h; clear h hb H1)
  | (refine wpList_store_row rfl 68 _ _ rfl (w.heap.size+1) (stc (wd t.1) t.1.length t.2) (by first|rfl|simp) rfl 68 _ H2.out.y (by rw [stc_size]; exact info68) (by rw [stc_size]; exact HZ.out) (stc_one _ _ _) ?_; have H2:=Aside0.mk (H2.out.set1 (stc (wd t.1) t.1.length t.2))))
 have hY:=H2.out.y
 exact bodyPost_ret (results_cell_row rfl _ _ (w.heap.size+1) 68 _ (0,0) _ rfl hY Tryd.underlying68 rfl (by rw [stc_size]; exact info68)) rfl ⟨HE.out.symm,H2.out.b⟩
set_option maxHeartbeats 4000000 in
set_option maxRecDepth 10000 in
theorem behind_21 (lg:Nat) (cell:Nat→Nat) (s:St) (a b:Nat) (hs:Fine s) (w:World):Calls Tryd.prog 55 #[.pointer (some ⟨lg,0,none⟩),stV s,.int .i64 21,.int .i64 (a:Nat),.int .i64 (b:Nat)] w fun e w'=>e=ends (behind cell s a b 21)∧Below w.heap.size w w':=by
 obtain ⟨z,HZ,H2⟩:∃ z:Array Value,Aside0 (z.size=34)∧Aside0 (Two w (stc (wd s.1) s.1.length s.2) z ((w.alloc (.cells (stc (wd s.1) s.1.length s.2) 68)).alloc (.cells z34_ 68))):=⟨_,⟨rfl⟩,⟨Two.new w _ _⟩⟩
 have HE:Aside0 (ends (behind cell s a b 21)=ends (opened s)):=⟨rfl⟩
 go_enter Tryd.func55,Tryd.ntmps55
 go_wp2_with (first
  | (refine wpList_load_row rfl 68 _ rfl w.heap.size rfl 68 _ (0,0) _ H2.out.x Tryd.underlying68 rfl (by rw [stc_size]; exact info68) ?_)
  | (go_at_call 88; (refine opened_go _ (by assumption) _ (fun e1 w1 H1 hb=>?_) (fun t w1 H1 F1 hb=>?_)); (have H2:=Aside0.mk (H2.out.call hb); exact ⟨rfl,(by rw [HE.out,H1.out]; rfl),H2.out.b⟩); have H2:=Aside0.mk (H2.out.call hb); have h:=HE.out; simp only [H1.out,Except.bind] at h; have HE:=Aside0.mk h; clear h hb H1)
  | (refine wpList_store_row rfl 68 _ _ rfl (w.heap.size+1) (stc (wd t.1) t.1.length t.2) (by first|rfl|simp) rfl 68 _ H2.out.y (by rw [stc_size]; exact info68) (by rw [stc_size]; exact HZ.out) (stc_one _ _ _) ?_; have H2:=Aside0.mk (H2.out.set1 (stc (wd t.1) t.1.length t.2))))
 have hY:=H2.out.y
 exact bodyPost_ret (results_cell_row rfl _ _ (w.heap.size+1) 68 _ (0,0) _ rfl hY Tryd.underlying68 rfl (by rw [stc_size]; exact info68)) rfl ⟨HE.out.symm,H2.out.b⟩
set_option maxHeartbeats 4000000 in
set_option maxRecDepth 10000 in
theorem behind_22 (lg:Nat) (cell:Nat→Nat) (s:St) (a b:Nat) (hs:Fine s) (w:World):Calls Tryd.prog 55 #[.pointer (some ⟨lg,0,none⟩),stV s,.int .i64 22,.int .i64 (a:Nat),.int .i64 (b:Nat)] w fun e w'=>e=ends (behind cell s a b 22)∧Below w.heap.size w w':=by
 obtain ⟨z,HZ,H2⟩:∃ z:Array Value,Aside0 (z.size=34)∧Aside0 (Two w (stc (wd s.1) s.1.length s.2) z ((w.alloc (.cells (stc (wd s.1) s.1.length s.2) 68)).alloc (.cells z34_ 68))):=⟨_,⟨rfl⟩,⟨Two.new w _ _⟩⟩
 have HE:Aside0 (ends (behind cell s a b 22)=ends ((needs 3 s).bind fun t=>opened t)):=⟨rfl⟩
 go_enter Tryd.func55,Tryd.ntmps55
 go_wp2_with (first
  | (refine wpList_load_row rfl 68 _ rfl w.heap.size rfl 68 _ (0,0) _ H2.out.x Tryd.underlying68 rfl (by rw [stc_size]; exact info68) ?_)
  | (go_at_call 86; (refine needs_go _ 3 (by assumption) (by first|decide|omega) _ (fun e1 w1 H1 hb=>?_) (fun t w1 H1 F1 hb=>?_)); (have H2:=Aside0.mk (H2.out.call hb); exact ⟨rfl,(by rw [HE.out,H1.out]; rfl),H2.out.b⟩); have H2:=Aside0.mk (H2.out.call hb); have h:=HE.out; simp only [H1.out,Except.bind] at h; have HE:=Aside0.mk h; clear h hb H1)
  | (go_at_call 88; (refine opened_go _ (by assumption) _ (fun e1 w1 H1 hb=>?_) (fun t w1 H1 F1 hb=>?_)); (have H2:=Aside0.mk (H2.out.call hb); exact ⟨rfl,(by rw [HE.out,H1.out]; rfl),H2.out.b⟩); have H2:=Aside0.mk (H2.out.call hb); have h:=HE.out; simp only [H1.out,Except.bind] at h; have HE:=Aside0.mk h; clear h hb H1)
  | (refine wpList_store_row rfl 68 _ _ rfl (w.heap.size+1) (stc (wd t.1) t.1.length t.2) (by first|rfl|simp) rfl 68 _ H2.out.y (by rw [stc_size]; exact info68) (by rw [stc_size]; exact HZ.out) (stc_one _ _ _) ?_; have H2:=Aside0.mk (H2.out.set1 (stc (wd t.1) t.1.length t.2))))
 have hY:=H2.out.y
 exact bodyPost_ret (results_cell_row rfl _ _ (w.heap.size+1) 68 _ (0,0) _ rfl hY Tryd.underlying68 rfl (by rw [stc_size]; exact info68)) rfl ⟨HE.out.symm,H2.out.b⟩
set_option maxHeartbeats 4000000 in
set_option maxRecDepth 10000 in
theorem behind_26 (lg:Nat) (cell:Nat→Nat) (s:St) (a b:Nat) (hs:Fine s) (w:World):Calls Tryd.prog 55 #[.pointer (some ⟨lg,0,none⟩),stV s,.int .i64 26,.int .i64 (a:Nat),.int .i64 (b:Nat)] w fun e w'=>e=ends (behind cell s a b 26)∧Below w.heap.size w w':=by
 obtain ⟨z,HZ,H2⟩:∃ z:Array Value,Aside0 (z.size=34)∧Aside0 (Two w (stc (wd s.1) s.1.length s.2) z ((w.alloc (.cells (stc (wd s.1) s.1.length s.2) 68)).alloc (.cells z34_ 68))):=⟨_,⟨rfl⟩,⟨Two.new w _ _⟩⟩
 have HE:Aside0 (ends (behind cell s a b 26)=ends ((needs 1 s).bind fun t=>(needs 2 t).bind fun u=>(needs 1 u).bind fun v=>(gets 1 v).bind fun x=>gets 2 x)):=⟨rfl⟩
 go_enter Tryd.func55,Tryd.ntmps55
 go_wp2_with (first
  | (refine wpList_load_row rfl 68 _ rfl w.heap.size rfl 68 _ (0,0) _ H2.out.x Tryd.underlying68 rfl (by rw [stc_size]; exact info68) ?_)
  | (go_at_call 86; (with_reducible refine needs_1 _ (by assumption) _ (fun e1 w1 H1 hb=>?_) (fun t w1 H1 F1 hb=>?_)); (have H2:=Aside0.mk (H2.out.call hb); exact ⟨rfl,(by rw [HE.out,H1.out]; rfl),H2.out.b⟩); have H2:=Aside0.mk (H2.out.call hb); have h:=HE.out; simp only [H1.out,Except.bind] at h; have HE:=Aside0.mk h; clear h hb H1)
  | (go_at_call 86; (with_reducible refine needs_2 _ (by assumption) _ (fun e1 w1 H1 hb=>?_) (fun t w1 H1 F1 hb=>?_)); (have H2:=Aside0.mk (H2.out.call hb); exact ⟨rfl,(by rw [HE.out,H1.out]; rfl),H2.out.b⟩); have H2:=Aside0.mk (H2.out.call hb); have h:=HE.out; simp only [H1.out,Except.bind] at h; have HE:=Aside0.mk h; clear h hb H1)
  | (go_at_call 56; (with_reducible refine gets_1 _ (by assumption) _ (fun e1 w1 H1 hb=>?_) (fun t w1 H1 F1 hb=>?_)); (have H2:=Aside0.mk (H2.out.call hb); exact ⟨rfl,(by rw [HE.out,H1.out]; rfl),H2.out.b⟩); have H2:=Aside0.mk (H2.out.call hb); have h:=HE.out; simp only [H1.out,Except.bind] at h; have HE:=Aside0.mk h; clear h hb H1)
  | (go_at_call 56; (with_reducible refine gets_2 _ (by assumption) _ (fun e1 w1 H1 hb=>?_) (fun t w1 H1 F1 hb=>?_)); (have H2:=Aside0.mk (H2.out.call hb); exact ⟨rfl,(by rw [HE.out,H1.out]; rfl),H2.out.b⟩); have H2:=Aside0.mk (H2.out.call hb); have h:=HE.out; simp only [H1.out,Except.bind] at h; have HE:=Aside0.mk h; clear h hb H1)
  | (refine wpList_store_row rfl 68 _ _ rfl (w.heap.size+1) (stc (wd t.1) t.1.length t.2) (by first|rfl|simp) rfl 68 _ H2.out.y (by rw [stc_size]; exact info68) (by rw [stc_size]; exact HZ.out) (stc_one _ _ _) ?_; have H2:=Aside0.mk (H2.out.set1 (stc (wd t.1) t.1.length t.2))))
 have hY:=H2.out.y
 exact bodyPost_ret (results_cell_row rfl _ _ (w.heap.size+1) 68 _ (0,0) _ rfl hY Tryd.underlying68 rfl (by rw [stc_size]; exact info68)) rfl ⟨HE.out.symm,H2.out.b⟩
set_option maxHeartbeats 4000000 in
set_option maxRecDepth 10000 in
theorem behind_0 (lg:Nat) (cell:Nat→Nat) (s:St) (a b:Nat) (hs:Fine s) (w:World):Calls Tryd.prog 55 #[.pointer (some ⟨lg,0,none⟩),stV s,.int .i64 0,.int .i64 (a:Nat),.int .i64 (b:Nat)] w fun e w'=>e=ends (behind cell s a b 0)∧Below w.heap.size w w':=by
 obtain ⟨z,HZ,H2⟩:∃ z:Array Value,Aside0 (z.size=34)∧Aside0 (Two w (stc (wd s.1) s.1.length s.2) z ((w.alloc (.cells (stc (wd s.1) s.1.length s.2) 68)).alloc (.cells z34_ 68))):=⟨_,⟨rfl⟩,⟨Two.new w _ _⟩⟩
 have HE:Aside0 (ends (behind cell s a b 0)=ends (.ok s)):=⟨rfl⟩
 go_enter Tryd.func55,Tryd.ntmps55
 go_wp2_with (first
  | (refine wpList_load_row rfl 68 _ rfl w.heap.size rfl 68 _ (0,0) _ H2.out.x Tryd.underlying68 rfl (by rw [stc_size]; exact info68) ?_)
  | (refine wpList_store_row rfl 68 _ _ rfl (w.heap.size+1) (stc (wd s.1) s.1.length s.2) (by first|rfl|simp) rfl 68 _ H2.out.y (by rw [stc_size]; exact info68) (by rw [stc_size]; exact HZ.out) (stc_one _ _ _) ?_; have H2:=Aside0.mk (H2.out.set1 (stc (wd s.1) s.1.length s.2))))
 have hY:=H2.out.y
 exact bodyPost_ret (results_cell_row rfl _ _ (w.heap.size+1) 68 _ (0,0) _ rfl hY Tryd.underlying68 rfl (by rw [stc_size]; exact info68)) rfl ⟨HE.out.symm,H2.out.b⟩
set_option maxHeartbeats 4000000 in
set_option maxRecDepth 10000 in
theorem behind_13 (lg:Nat) (cell:Nat→Nat) (s:St) (a b:Nat) (hs:Fine s) (w:World):Calls Tryd.prog 55 #[.pointer (some ⟨lg,0,none⟩),stV s,.int .i64 13,.int .i64 (a:Nat),.int .i64 (b:Nat)] w fun e w'=>e=ends (behind cell s a b 13)∧Below w.heap.size w w':=by
 obtain ⟨z,HZ,H2⟩:∃ z:Array Value,Aside0 (z.size=34)∧Aside0 (Two w (stc (wd s.1) s.1.length s.2) z ((w.alloc (.cells (stc (wd s.1) s.1.length s.2) 68)).alloc (.cells z34_ 68))):=⟨_,⟨rfl⟩,⟨Two.new w _ _⟩⟩
 have HE:Aside0 (ends (behind cell s a b 13)=ends (.ok s)):=⟨rfl⟩
 go_enter Tryd.func55,Tryd.ntmps55
 go_wp2_with (first
  | (refine wpList_load_row rfl 68 _ rfl w.heap.size rfl 68 _ (0,0) _ H2.out.x Tryd.underlying68 rfl (by rw [stc_size]; exact info68) ?_)
  | (refine wpList_store_row rfl 68 _ _ rfl (w.heap.size+1) (stc (wd s.1) s.1.length s.2) (by first|rfl|simp) rfl 68 _ H2.out.y (by rw [stc_size]; exact info68) (by rw [stc_size]; exact HZ.out) (stc_one _ _ _) ?_; have H2:=Aside0.mk (H2.out.set1 (stc (wd s.1) s.1.length s.2))))
 have hY:=H2.out.y
 exact bodyPost_ret (results_cell_row rfl _ _ (w.heap.size+1) 68 _ (0,0) _ rfl hY Tryd.underlying68 rfl (by rw [stc_size]; exact info68)) rfl ⟨HE.out.symm,H2.out.b⟩
set_option maxHeartbeats 4000000 in
set_option maxRecDepth 10000 in
theorem behind_17 (lg:Nat) (cell:Nat→Nat) (s:St) (a b:Nat) (hs:Fine s) (w:World):Calls Tryd.prog 55 #[.pointer (some ⟨lg,0,none⟩),stV s,.int .i64 17,.int .i64 (a:Nat),.int .i64 (b:Nat)] w fun e w'=>e=ends (behind cell s a b 17)∧Below w.heap.size w w':=by
 obtain ⟨z,HZ,H2⟩:∃ z:Array Value,Aside0 (z.size=34)∧Aside0 (Two w (stc (wd s.1) s.1.length s.2) z ((w.alloc (.cells (stc (wd s.1) s.1.length s.2) 68)).alloc (.cells z34_ 68))):=⟨_,⟨rfl⟩,⟨Two.new w _ _⟩⟩
 have HE:Aside0 (ends (behind cell s a b 17)=ends (.ok s)):=⟨rfl⟩
 go_enter Tryd.func55,Tryd.ntmps55
 go_wp2_with (first
  | (refine wpList_load_row rfl 68 _ rfl w.heap.size rfl 68 _ (0,0) _ H2.out.x Tryd.underlying68 rfl (by rw [stc_size]; exact info68) ?_)
  | (refine wpList_store_row rfl 68 _ _ rfl (w.heap.size+1) (stc (wd s.1) s.1.length s.2) (by first|rfl|simp) rfl 68 _ H2.out.y (by rw [stc_size]; exact info68) (by rw [stc_size]; exact HZ.out) (stc_one _ _ _) ?_; have H2:=Aside0.mk (H2.out.set1 (stc (wd s.1) s.1.length s.2))))
 have hY:=H2.out.y
 exact bodyPost_ret (results_cell_row rfl _ _ (w.heap.size+1) 68 _ (0,0) _ rfl hY Tryd.underlying68 rfl (by rw [stc_size]; exact info68)) rfl ⟨HE.out.symm,H2.out.b⟩
set_option maxHeartbeats 4000000 in
set_option maxRecDepth 10000 in
theorem behind_19 (lg:Nat) (cell:Nat→Nat) (s:St) (a b:Nat) (hs:Fine s) (w:World):Calls Tryd.prog 55 #[.pointer (some ⟨lg,0,none⟩),stV s,.int .i64 19,.int .i64 (a:Nat),.int .i64 (b:Nat)] w fun e w'=>e=ends (behind cell s a b 19)∧Below w.heap.size w w':=by
 obtain ⟨z,HZ,H2⟩:∃ z:Array Value,Aside0 (z.size=34)∧Aside0 (Two w (stc (wd s.1) s.1.length s.2) z ((w.alloc (.cells (stc (wd s.1) s.1.length s.2) 68)).alloc (.cells z34_ 68))):=⟨_,⟨rfl⟩,⟨Two.new w _ _⟩⟩
 have HE:Aside0 (ends (behind cell s a b 19)=ends (.ok s)):=⟨rfl⟩
 go_enter Tryd.func55,Tryd.ntmps55
 go_wp2_with (first
  | (refine wpList_load_row rfl 68 _ rfl w.heap.size rfl 68 _ (0,0) _ H2.out.x Tryd.underlying68 rfl (by rw [stc_size]; exact info68) ?_)
  | (refine wpList_store_row rfl 68 _ _ rfl (w.heap.size+1) (stc (wd s.1) s.1.length s.2) (by first|rfl|simp) rfl 68 _ H2.out.y (by rw [stc_size]; exact info68) (by rw [stc_size]; exact HZ.out) (stc_one _ _ _) ?_; have H2:=Aside0.mk (H2.out.set1 (stc (wd s.1) s.1.length s.2))))
 have hY:=H2.out.y
 exact bodyPost_ret (results_cell_row rfl _ _ (w.heap.size+1) 68 _ (0,0) _ rfl hY Tryd.underlying68 rfl (by rw [stc_size]; exact info68)) rfl ⟨HE.out.symm,H2.out.b⟩
set_option maxHeartbeats 4000000 in
set_option maxRecDepth 10000 in
theorem behind_24y (lg:Nat) (cell:Nat→Nat) (s:St) (a b:Nat) (hs:Fine s) (w:World) (ha:0 < s.2):Calls Tryd.prog 55 #[.pointer (some ⟨lg,0,none⟩),stV s,.int .i64 24,.int .i64 (a:Nat),.int .i64 (b:Nat)] w fun e w'=>e=ends (behind cell s a b 24)∧Below w.heap.size w w':=by
 obtain ⟨z,HZ,H2⟩:∃ z:Array Value,Aside0 (z.size=34)∧Aside0 (Two w (stc (wd s.1) s.1.length s.2) z ((w.alloc (.cells (stc (wd s.1) s.1.length s.2) 68)).alloc (.cells z34_ 68))):=⟨_,⟨rfl⟩,⟨Two.new w _ _⟩⟩
 have ne:decide (((s.2:Nat):Int) > 0)=true:=decide_eq_true (by omega)
 have HE:Aside0 (ends (behind cell s a b 24)=ends (.ok s)):=⟨congrArg ends (if_pos ha)⟩
 go_enter Tryd.func55,Tryd.ntmps55
 go_wp2_with (first
  | (refine wpList_load_row rfl 68 _ rfl w.heap.size rfl 68 _ (0,0) _ H2.out.x Tryd.underlying68 rfl (by rw [stc_size]; exact info68) ?_)
  | (go_at_call 53; (refine (must_yes 201 _).mono ?_); rintro e w2 ⟨rfl,rfl⟩)
  | (refine wpList_store_row rfl 68 _ _ rfl (w.heap.size+1) (stc (wd s.1) s.1.length s.2) (by first|rfl|simp) rfl 68 _ H2.out.y (by rw [stc_size]; exact info68) (by rw [stc_size]; exact HZ.out) (stc_one _ _ _) ?_; have H2:=Aside0.mk (H2.out.set1 (stc (wd s.1) s.1.length s.2))))
 have hY:=H2.out.y
 exact bodyPost_ret (results_cell_row rfl _ _ (w.heap.size+1) 68 _ (0,0) _ rfl hY Tryd.underlying68 rfl (by rw [stc_size]; exact info68)) rfl ⟨HE.out.symm,H2.out.b⟩
set_option maxHeartbeats 4000000 in
set_option maxRecDepth 10000 in
theorem behind_24n (lg:Nat) (cell:Nat→Nat) (s:St) (a b:Nat) (hs:Fine s) (w:World) (ha:¬ 0 < s.2):Calls Tryd.prog 55 #[.pointer (some ⟨lg,0,none⟩),stV s,.int .i64 24,.int .i64 (a:Nat),.int .i64 (b:Nat)] w fun e w'=>e=ends (behind cell s a b 24)∧Below w.heap.size w w':=by
 obtain ⟨z,HZ,H2⟩:∃ z:Array Value,Aside0 (z.size=34)∧Aside0 (Two w (stc (wd s.1) s.1.length s.2) z ((w.alloc (.cells (stc (wd s.1) s.1.length s.2) 68)).alloc (.cells z34_ 68))):=⟨_,⟨rfl⟩,⟨Two.new w _ _⟩⟩
 have ne:decide (((s.2:Nat):Int) > 0)=false:=decide_eq_false (by omega)
 have HE:Aside0 (ends (behind cell s a b 24)=.panicked (bad 201)):=⟨congrArg ends (if_neg ha)⟩
 go_enter Tryd.func55,Tryd.ntmps55
 go_wp2_with (first
  | (refine wpList_load_row rfl 68 _ rfl w.heap.size rfl 68 _ (0,0) _ H2.out.x Tryd.underlying68 rfl (by rw [stc_size]; exact info68) ?_)
  | (go_at_call 53; (refine (must_no 201 _).mono ?_); rintro e w2 ⟨rfl,rfl⟩))
 exact ⟨rfl,HE.out.symm,H2.out.b⟩
set_option maxHeartbeats 4000000 in
set_option maxRecDepth 10000 in
theorem behind_25n (lg:Nat) (cell:Nat→Nat) (s:St) (a b:Nat) (hs:Fine s) (w:World) (ha:¬ 0 < s.2):Calls Tryd.prog 55 #[.pointer (some ⟨lg,0,none⟩),stV s,.int .i64 25,.int .i64 (a:Nat),.int .i64 (b:Nat)] w fun e w'=>e=ends (behind cell s a b 25)∧Below w.heap.size w w':=by
 obtain ⟨z,HZ,H2⟩:∃ z:Array Value,Aside0 (z.size=34)∧Aside0 (Two w (stc (wd s.1) s.1.length s.2) z ((w.alloc (.cells (stc (wd s.1) s.1.length s.2) 68)).alloc (.cells z34_ 68))):=⟨_,⟨rfl⟩,⟨Two.new w _ _⟩⟩
 have ne:decide (((s.2:Nat):Int) > 0)=false:=decide_eq_false (by omega)
 have HE:Aside0 (ends (behind cell s a b 25)=.panicked (bad 201)):=⟨congrArg ends (if_neg ha)⟩
 go_enter Tryd.func55,Tryd.ntmps55
 go_wp2_with (first
  | (refine wpList_load_row rfl 68 _ rfl w.heap.size rfl 68 _ (0,0) _ H2.out.x Tryd.underlying68 rfl (by rw [stc_size]; exact info68) ?_)
  | (go_at_call 53; (refine (must_no 201 _).mono ?_); rintro e w2 ⟨rfl,rfl⟩))
 exact ⟨rfl,HE.out.symm,H2.out.b⟩
set_option maxHeartbeats 4000000 in
set_option maxRecDepth 10000 in
theorem behind_25y (lg:Nat) (cell:Nat→Nat) (s:St) (a b:Nat) (hs:Fine s) (w:World) (ha:0 < s.2) (HR:Aside0 (s.2≤4)):Calls Tryd.prog 55 #[.pointer (some ⟨lg,0,none⟩),stV s,.int .i64 25,.int .i64 (a:Nat),.int .i64 (b:Nat)] w fun e w'=>e=ends (behind cell s a b 25)∧Below w.heap.size w w':=by
 obtain ⟨z,HZ,H2⟩:∃ z:Array Value,Aside0 (z.size=34)∧Aside0 (Two w (stc (wd s.1) s.1.length (s.2 - 1)) z ((w.alloc (.cells (stc (wd s.1) s.1.length (s.2 - 1)) 68)).alloc (.cells z34_ 68))):=⟨_,⟨rfl⟩,⟨Two.new w _ _⟩⟩
 have ne:decide (((s.2:Nat):Int) > 0)=true:=decide_eq_true (by omega)
 have e8:wrap64 ((s.2:Int) - 1)=(s.2:Int) - 1:=by simp only [wrap64]; have:=HR.out; omega
 have e9:(stc (wd s.1) s.1.length s.2).setIfInBounds 33 (.int .i64 ((s.2:Int) - 1))=stc (wd s.1) s.1.length (s.2 - 1):=by
  rw [show ((s.2:Int) - 1)=((s.2 - 1:Nat):Int) by omega]; exact stc_set_r _ _ _ _
 have HE:Aside0 (ends (behind cell s a b 25)=ends (.ok (s.1,s.2 - 1))):=⟨congrArg ends (if_pos ha)⟩
 go_enter Tryd.func55,Tryd.ntmps55
 go_wp2_with (first
  | (refine wpList_load_row rfl 68 _ rfl w.heap.size rfl 68 (stc (wd s.1) s.1.length (s.2 - 1)) (0,0) _ H2.out.x Tryd.underlying68 rfl (by rw [stc_size]; exact info68) ?_)
  | (go_at_call 53; (refine (must_yes 201 _).mono ?_); rintro e w2 ⟨rfl,rfl⟩)
  | (refine wpList_store_row rfl 68 _ _ rfl (w.heap.size+1) (stc (wd s.1) s.1.length (s.2 - 1)) (by first|rfl|simp) rfl 68 _ H2.out.y (by rw [stc_size]; exact info68) (by rw [stc_size]; exact HZ.out) (stc_one _ _ _) ?_; have H2:=Aside0.mk (H2.out.set1 (stc (wd s.1) s.1.length (s.2 - 1)))))
 have hY:=H2.out.y
 exact bodyPost_ret (results_cell_row rfl _ _ (w.heap.size+1) 68 _ (0,0) _ rfl hY Tryd.underlying68 rfl (by rw [stc_size]; exact info68)) rfl ⟨HE.out.symm,H2.out.b⟩
set_option maxHeartbeats 4000000 in
set_option maxRecDepth 10000 in
theorem behind_23 (lg:Nat) (cell:Nat→Nat) (s:St) (a b:Nat) (hs:Fine s) (w:World) (HA:Aside0 (a≤1024)):Calls Tryd.prog 55 #[.pointer (some ⟨lg,0,none⟩),stV s,.int .i64 23,.int .i64 (a:Nat),.int .i64 (b:Nat)] w fun e w'=>e=ends (behind cell s a b 23)∧Below w.heap.size w w':=by
 obtain ⟨z,HZ,H2⟩:∃ z:Array Value,Aside0 (z.size=34)∧Aside0 (Two w (stc (wd s.1) s.1.length s.2) z ((w.alloc (.cells (stc (wd s.1) s.1.length s.2) 68)).alloc (.cells z34_ 68))):=⟨_,⟨rfl⟩,⟨Two.new w _ _⟩⟩
 have HE:Aside0 (ends (behind cell s a b 23)=ends ((many a s).bind fun t=>opened t)):=⟨rfl⟩
 have HS:=Aside0.mk hs
 clear hs
 go_enter Tryd.func55,Tryd.ntmps55
 go_wp2
 go_loopw [106] (fun v106 w'=>∃ (j:Nat) (t:St),v106=.int .i64 j∧j≤a∧Aside0 (Fine t)∧Aside0 (Two w (stc (wd t.1) t.1.length t.2) z w')∧Aside0 (ends (behind cell s a b 23)=ends ((many (a - j) t).bind fun t=>opened t))) (fun v106 _=>ms a v106)
 case atStart=>exact ⟨0,s,rfl,Nat.zero_le _,HS,H2,HE⟩
 case round =>
  clear HE H2 HS
  obtain ⟨j,t,rfl,hj,HF,H2,HE⟩:=hrel
  by_cases hlt:j < a
  ·have c1:decide ((j:Int) < (a:Int))=true:=decide_eq_true (by omega)
   have e8:=wrap_succ j (by have:=HA.out; omega)
   have he:=HE.out
   rw [show a - j=(a - (j+1))+1 by omega] at he
   simp only [many] at he
   have HE:=Aside0.mk he
   have HL:=Aside0.mk hlt
   have HJ:=Aside0.mk hj
   clear he hj
   go_wp2_with (first
    | (refine wpList_load_row rfl 68 _ rfl w.heap.size rfl 68 _ (0,0) _ H2.out.x Tryd.underlying68 rfl (by rw [stc_size]; exact info68) ?_)
    | (go_at_call 86; (refine needs_go _ 3 (by exact HF.out) (by decide) _ (fun e1 w1 H1 hb=>?_) (fun t w1 H1 F1 hb=>?_)); (have H2:=Aside0.mk (H2.out.call hb); exact ⟨rfl,(by rw [HE.out,H1.out]; rfl),H2.out.b⟩); have H2:=Aside0.mk (H2.out.call hb); have h:=HE.out; simp only [H1.out,Except.bind] at h; have HE:=Aside0.mk h; clear h hb H1)
    | (refine wpList_store_row rfl 68 _ _ rfl w.heap.size (stc (wd t.1) t.1.length t.2) (by first|rfl|simp) rfl 68 _ H2.out.x (by rw [stc_size]; exact info68) (by simp only [stc_size]) (stc_one _ _ _) ?_; have H2:=Aside0.mk (H2.out.set0 (stc (wd t.1) t.1.length t.2))))
   go_roundw
   case rel=>exact ⟨j+1,t,(by first|rfl|(simp; have:=HA.out; have:=HL.out; simp only [wrap64]; omega)),HL.out,⟨by assumption⟩,H2,HE⟩
   case measure =>
    have hl:=HL.out
    have ha:=HA.out
    first|exact ms_lt hl|(rw [e8]; exact ms_lt hl)
  ·have c1:decide ((j:Int) < (a:Int))=false:=decide_eq_false (by omega)
   have he:=HE.out
   rw [show a - j=0 by omega] at he
   have HE:Aside0 (ends (behind cell s a b 23)=ends (opened t)):=⟨he⟩
   clear he
   go_wp2_with (first
    | (refine wpList_load_row rfl 68 _ rfl w.heap.size rfl 68 _ (0,0) _ H2.out.x Tryd.underlying68 rfl (by rw [stc_size]; exact info68) ?_)
    | (go_at_call 88; (refine opened_go _ (by exact HF.out) _ (fun e1 w1 H1 hb=>?_) (fun t w1 H1 F1 hb=>?_)); (have H2:=Aside0.mk (H2.out.call hb); exact ⟨rfl,(by rw [HE.out,H1.out]; rfl),H2.out.b⟩); have H2:=Aside0.mk (H2.out.call hb); have h:=HE.out; simp only [H1.out,Except.bind] at h; have HE:=Aside0.mk h; clear h hb H1)
    | (refine wpList_store_row rfl 68 _ _ rfl (w.heap.size+1) (stc (wd t.1) t.1.length t.2) (by first|rfl|simp) rfl 68 _ H2.out.y (by rw [stc_size]; exact info68) (by rw [stc_size]; exact HZ.out) (stc_one _ _ _) ?_; have H2:=Aside0.mk (H2.out.set1 (stc (wd t.1) t.1.length t.2))))
   have hY:=H2.out.y
   exact bodyPost_ret (results_cell_row rfl _ _ (w.heap.size+1) 68 _ (0,0) _ rfl hY Tryd.underlying68 rfl (by rw [stc_size]; exact info68)) rfl ⟨HE.out.symm,H2.out.b⟩
set_option maxHeartbeats 4000000 in
set_option maxRecDepth 10000 in
theorem behind_18n (lg:Nat) (cell:Nat→Nat) (s:St) (a b:Nat) (hs:Fine s) (w:World) (ha:¬ 0 < s.1.length):Calls Tryd.prog 55 #[.pointer (some ⟨lg,0,none⟩),stV s,.int .i64 18,.int .i64 (a:Nat),.int .i64 (b:Nat)] w fun e w'=>e=ends (behind cell s a b 18)∧Below w.heap.size w w':=by
 obtain ⟨z,HZ,H2⟩:∃ z:Array Value,Aside0 (z.size=34)∧Aside0 (Two w (stc (wd s.1) s.1.length s.2) z ((w.alloc (.cells (stc (wd s.1) s.1.length s.2) 68)).alloc (.cells z34_ 68))):=⟨_,⟨rfl⟩,⟨Two.new w _ _⟩⟩
 have ne:decide (((s.1.length:Nat):Int) > 0)=false:=decide_eq_false (by omega)
 have HE:Aside0 (ends (behind cell s a b 18)=.panicked (bad 201)):=⟨by
  obtain ⟨ks,r⟩:=s
  cases ks with
  | nil=>rfl
  | cons k t=>exact absurd (Nat.succ_pos _) ha⟩
 go_enter Tryd.func55,Tryd.ntmps55
 go_wp2_with (first
  | (refine wpList_load_row rfl 68 _ rfl w.heap.size rfl 68 _ (0,0) _ H2.out.x Tryd.underlying68 rfl (by rw [stc_size]; exact info68) ?_)
  | (go_at_call 53; (refine (must_no 201 _).mono ?_); rintro e w2 ⟨rfl,rfl⟩))
 exact ⟨rfl,HE.out.symm,H2.out.b⟩
set_option maxHeartbeats 4000000 in
set_option maxRecDepth 10000 in
theorem behind_18y (lg:Nat) (cell:Nat→Nat) (s:St) (a b:Nat) (hs:Fine s) (w:World) (l3:List Int) (A3:Option Addr) (c3:Nat) (ha:a < l3.length) (hlen:l3.length≤256) (hk:w.cell? ⟨lg,3,none⟩=some (.slice A3 l3.length c3)) (hr3:Kd.C (Kd.int .i64) w A3 l3.length l3) (hc:rd l3 (a:Int)=(cell a:Nat)) (hp:0 < s.1.length) (ht:topv (wd s.1) s.1.length=cell a):Calls Tryd.prog 55 #[.pointer (some ⟨lg,0,none⟩),stV s,.int .i64 18,.int .i64 (a:Nat),.int .i64 (b:Nat)] w fun e w'=>e=ends (behind cell s a b 18)∧Below w.heap.size w w':=by
 obtain ⟨z,HZ,H2⟩:∃ z:Array Value,Aside0 (z.size=34)∧Aside0 (Two w (stc (wd s.1) s.1.length s.2) z ((w.alloc (.cells (stc (wd s.1) s.1.length s.2) 68)).alloc (.cells z34_ 68))):=⟨_,⟨rfl⟩,⟨Two.new w _ _⟩⟩
 obtain ⟨ad,rfl,hx⟩:=Kd.at_int hr3 (a:Int) (Int.natCast_nonneg a) (by omega)
 rw [hc] at hx
 have hk3:((w.alloc (.cells (stc (wd s.1) s.1.length s.2) 68)).alloc (.cells z34_ 68)).cell? ⟨lg,3,none⟩=some (.slice (some ad) l3.length c3):=below_cell H2.out.b hk
 have hk4:((w.alloc (.cells (stc (wd s.1) s.1.length s.2) 68)).alloc (.cells z34_ 68)).cell? (ad.add a)=some (.int .i64 ((cell a:Nat):Int)):=below_cell H2.out.b hx
 have HN:Aside0 (s.1.length≤1024):=⟨hs.2⟩
 have HF:Aside0 (∀ i,wd s.1 i < 18446744073709551616):=⟨wd_lt s.1 hs.lt⟩
 clear hx hk hr3 hc
 have HE:Aside0 (ends (behind cell s a b 18)=ends (.ok s)):=⟨keeps_yes s (cell a) hs ht hp⟩
 have ne:(((topv (wd s.1) s.1.length:Nat):Int) == ((cell a:Nat):Int))=true:=by rw [ht]; exact beq_self_eq_true _
 go_enter Tryd.func55,Tryd.ntmps55
 go_wp2_with (first
  | (go_at_call 53; (refine (must_yes 201 _).mono ?_); rintro e w2 ⟨rfl,rfl⟩))
 refine start_ (n:=12) (S:=fun w'=>w'.cell? ⟨lg,3,none⟩=some (.slice (some ad) l3.length c3)∧w'.cell? (ad.add a)=some (.int .i64 ((cell a:Nat):Int))) (ds:=[]) #[false,false,false,false,false,false,false,false,false,false,false,false] (by kernel_rfl) rfl rfl ⟨hk3,hk4⟩ (fun hHeld=>?_)
 have H2:=Aside0.mk H2.out.drew
 generalize World.drew ((w.alloc (.cells (stc (wd s.1) s.1.length s.2) 68)).alloc (.cells z34_ 68))=w5 at H2 hHeld ⊢
 refine pure_ (i:=2) (N:=some 83) (v:=?_) (a':=?_) (bl_ 12 4) rfl rfl (by kernel_rfl) (fun _ _ _ h=>h) (Or.inl ⟨by rfl,?_⟩) ?_ ?_
 rotate_left
 ·intro w'
  go_simp
  with_reducible rfl
 rotate_left
 ·simp only [Act.put,zA_,zB_,zC_,i64_w]
  rfl
 refine pure_ (i:=3) (N:=some 84) (v:=?_) (a':=?_) (bl_ 12 12) rfl rfl (by kernel_rfl) (fun _ _ _ h=>h) (Or.inl ⟨by rfl,?_⟩) ?_ ?_
 rotate_left
 ·intro w'
  go_simp
  with_reducible rfl
 rotate_left
 ·simp only [Act.put,zA_,zB_,zC_,i64_w]
  rfl
 refine pure_ (i:=4) (N:=some 85) (v:=?_) (a':=?_) (bl_ 12 28) rfl rfl (by kernel_rfl) (fun _ _ _ h=>h) (Or.inl ⟨by rfl,?_⟩) ?_ ?_
 rotate_left
 ·intro w'
  go_simp
  with_reducible rfl
 rotate_left
 ·simp only [Act.put,zA_,zB_,zC_,i64_w]
  rfl
 refine pure_ (i:=5) (N:=some 86) (v:=?_) (a':=?_) (bl_ 12 60) rfl rfl (by kernel_rfl) (fun _ _ _ h=>h) (Or.inl ⟨by rfl,?_⟩) ?_ ?_
 rotate_left
 ·intro w'
  go_simp
  with_reducible rfl
 rotate_left
 ·simp only [Act.put,zA_,zB_,zC_,i64_w]
  rfl
 refine pure_ (i:=7) (N:=some 88) (v:=?_) (a':=?_) (bl_ 12 188) rfl rfl (by kernel_rfl) (fun _ _ _ h=>h) (Or.inl ⟨by rfl,?_⟩) ?_ ?_
 rotate_left
 ·intro w'
  go_simp
  with_reducible rfl
 rotate_left
 ·simp only [Act.put,zA_,zB_,zC_,i64_w]
  rfl
 refine take_ (i:=6) (N:=some 87) (v:=?_) (a':=?_) (bl_ 12 252) rfl rfl (by kernel_rfl) (fun _ _ _ h=>h) (Or.inl ⟨by rfl,?_⟩) hHeld ?_ ?_
 rotate_left
 ·rintro w' ⟨s0,s1⟩
  go_simp
  with_reducible rfl
 rotate_left
 ·simp only [Act.put,zA_,zB_,zC_,i64_w]
  rfl
 refine pure_ (i:=8) (N:=some 89) (v:=?_) (a':=?_) (bl_ 12 508) rfl rfl (by kernel_rfl) (fun _ _ _ h=>h) (Or.inl ⟨by rfl,?_⟩) ?_ ?_
 rotate_left
 ·intro w'
  go_simp
  with_reducible rfl
 rotate_left
 ·simp only [Act.put,zA_,zB_,zC_,i64_w]
  rfl
 refine take_ (i:=9) (N:=some 90) (v:=?_) (a':=?_) (bl_ 12 1020) rfl rfl (by kernel_rfl) (fun _ _ _ h=>h) (Or.inl ⟨by rfl,?_⟩) hHeld ?_ ?_
 rotate_left
 ·rintro w' ⟨s0,s1⟩
  go_simp
  with_reducible rfl
 rotate_left
 ·simp only [Act.put,zA_,zB_,zC_,i64_w]
  rfl
 refine one_ (i:=0) (N:=some 81) (bl_ 12 1021) rfl rfl (by kernel_rfl) (by decide) (fun K hK=>?_)
 refine rowL_ 68 (.tmp 6) (by rfl) rfl rfl w.heap.size rfl 68 (stc (wd s.1) s.1.length s.2) (0,0) _ H2.out.x Tryd.underlying68 rfl (by rw [stc_size]; exact info68) ?_
 refine hK.out _ _ ⟨hHeld.1,hHeld.2⟩ (fun hHeld=>?_)
 clear hK K
 refine norm_ (a':=?_) ?_ ?_
 rotate_left
 ·show Act.put _ (some 81) _=_
  simp only [Act.put,zA_,zB_,zC_,i64_w]
  rfl
 refine one_ (i:=1) (N:=some 82) (bl_ 12 1023) rfl rfl (by kernel_rfl) (by decide) (fun K hK=>?_)
 refine goes_ Tryd.func54 (by kernel_rfl) rfl #[.agg (stc (wd s.1) s.1.length s.2)] (by rfl) rfl rfl (by (try simp only [List.map_toArray,List.map_cons,List.map_nil]); first|done|rfl) ?_
 refine (top_ (wd s.1) s.1.length s.2 HN.out HF.out _).mono ?_
 rintro e w6 ⟨rfl,hb6⟩
 refine ⟨_,rfl,?_⟩
 have H2:=Aside0.mk (H2.out.call hb6)
 refine hK.out _ _ ⟨(below_cell hb6 hHeld.1),(below_cell hb6 hHeld.2)⟩ (fun hHeld=>?_)
 clear hK K
 refine norm_ (a':=?_) ?_ ?_
 rotate_left
 ·show Act.put _ (some 82) _=_
  simp only [Act.put,zA_,zB_,zC_,i64_w]
  rfl
 refine one_ (i:=10) (N:=some 91) (bl_ 12 2047) rfl rfl (by kernel_rfl) (by decide) (fun K hK=>?_)
 refine value_ (w1:=w6) (v:=.bool true) (by rfl) rfl (by go_simp; first|done|(rw [ne])|(simp [ne])) ?_
 refine hK.out _ _ ⟨hHeld.1,hHeld.2⟩ (fun hHeld=>?_)
 clear hK K
 refine norm_ (a':=?_) ?_ ?_
 rotate_left
 ·show Act.put _ (some 91) _=_
  simp only [Act.put,zA_,zB_,zC_,i64_w]
  rfl
 refine one_ (i:=11) (N:=some 92) (bl_ 12 4095) rfl rfl (by kernel_rfl) (by decide) (fun K hK=>?_)
 refine goesE_ Tryd.func53 (by kernel_rfl) rfl #[.bool true,.int .i64 203] (by rfl) rfl rfl (by (try simp only [List.map_toArray,List.map_cons,List.map_nil]); first|done|rfl) ?_
 refine (must_yes 203 _).mono ?_
 rintro e w7 ⟨rfl,rfl⟩
 refine Or.inl ⟨_,rfl,?_⟩
 refine hK.out _ _ ⟨hHeld.1,hHeld.2⟩ (fun hHeld=>?_)
 clear hK K
 refine norm_ (a':=?_) ?_ ?_
 rotate_left
 ·show Act.put _ (some 92) _=_
  simp only [Act.put,zA_,zB_,zC_,i64_w]
  rfl
 refine done_ (by kernel_rfl) ?_
 go_wp2_with (first
  | (refine wpList_load_row rfl 68 _ rfl w.heap.size rfl 68 _ (0,0) _ H2.out.x Tryd.underlying68 rfl (by rw [stc_size]; exact info68) ?_)
  | (refine wpList_store_row rfl 68 _ _ rfl (w.heap.size+1) (stc (wd s.1) s.1.length s.2) (by first|rfl|simp) rfl 68 _ H2.out.y (by rw [stc_size]; exact info68) (by rw [stc_size]; exact HZ.out) (stc_one _ _ _) ?_; have H2:=Aside0.mk (H2.out.set1 (stc (wd s.1) s.1.length s.2))))
 have hY:=H2.out.y
 exact bodyPost_ret (results_cell_row rfl _ _ (w.heap.size+1) 68 _ (0,0) _ rfl hY Tryd.underlying68 rfl (by rw [stc_size]; exact info68)) rfl ⟨HE.out.symm,H2.out.b⟩
set_option maxHeartbeats 4000000 in
set_option maxRecDepth 10000 in
theorem behind_18x (lg:Nat) (cell:Nat→Nat) (s:St) (a b:Nat) (hs:Fine s) (w:World) (l3:List Int) (A3:Option Addr) (c3:Nat) (ha:a < l3.length) (hlen:l3.length≤256) (hk:w.cell? ⟨lg,3,none⟩=some (.slice A3 l3.length c3)) (hr3:Kd.C (Kd.int .i64) w A3 l3.length l3) (hc:rd l3 (a:Int)=(cell a:Nat)) (hp:0 < s.1.length) (ht:topv (wd s.1) s.1.length≠cell a):Calls Tryd.prog 55 #[.pointer (some ⟨lg,0,none⟩),stV s,.int .i64 18,.int .i64 (a:Nat),.int .i64 (b:Nat)] w fun e w'=>e=ends (behind cell s a b 18)∧Below w.heap.size w w':=by
 obtain ⟨z,HZ,H2⟩:∃ z:Array Value,Aside0 (z.size=34)∧Aside0 (Two w (stc (wd s.1) s.1.length s.2) z ((w.alloc (.cells (stc (wd s.1) s.1.length s.2) 68)).alloc (.cells z34_ 68))):=⟨_,⟨rfl⟩,⟨Two.new w _ _⟩⟩
 obtain ⟨ad,rfl,hx⟩:=Kd.at_int hr3 (a:Int) (Int.natCast_nonneg a) (by omega)
 rw [hc] at hx
 have hk3:((w.alloc (.cells (stc (wd s.1) s.1.length s.2) 68)).alloc (.cells z34_ 68)).cell? ⟨lg,3,none⟩=some (.slice (some ad) l3.length c3):=below_cell H2.out.b hk
 have hk4:((w.alloc (.cells (stc (wd s.1) s.1.length s.2) 68)).alloc (.cells z34_ 68)).cell? (ad.add a)=some (.int .i64 ((cell a:Nat):Int)):=below_cell H2.out.b hx
 have HN:Aside0 (s.1.length≤1024):=⟨hs.2⟩
 have HF:Aside0 (∀ i,wd s.1 i < 18446744073709551616):=⟨wd_lt s.1 hs.lt⟩
 clear hx hk hr3 hc
 have HE:Aside0 (ends (behind cell s a b 18)=.panicked (bad 203)):=⟨keeps_no s (cell a) hs ht hp⟩
 have ne:(((topv (wd s.1) s.1.length:Nat):Int) == ((cell a:Nat):Int))=false:=by simpa using fun e=>ht (by omega)
 go_enter Tryd.func55,Tryd.ntmps55
 go_wp2_with (first
  | (go_at_call 53; (refine (must_yes 201 _).mono ?_); rintro e w2 ⟨rfl,rfl⟩))
 refine start_ (n:=12) (S:=fun w'=>w'.cell? ⟨lg,3,none⟩=some (.slice (some ad) l3.length c3)∧w'.cell? (ad.add a)=some (.int .i64 ((cell a:Nat):Int))) (ds:=[]) #[false,false,false,false,false,false,false,false,false,false,false,false] (by kernel_rfl) rfl rfl ⟨hk3,hk4⟩ (fun hHeld=>?_)
 have H2:=Aside0.mk H2.out.drew
 generalize World.drew ((w.alloc (.cells (stc (wd s.1) s.1.length s.2) 68)).alloc (.cells z34_ 68))=w5 at H2 hHeld ⊢
 refine pure_ (i:=2) (N:=some 83) (v:=?_) (a':=?_) (bl_ 12 4) rfl rfl (by kernel_rfl) (fun _ _ _ h=>h) (Or.inl ⟨by rfl,?_⟩) ?_ ?_
 rotate_left
 ·intro w'
  go_simp
  with_reducible rfl
 rotate_left
 ·simp only [Act.put,zA_,zB_,zC_,i64_w]
  rfl
 refine pure_ (i:=3) (N:=some 84) (v:=?_) (a':=?_) (bl_ 12 12) rfl rfl (by kernel_rfl) (fun _ _ _ h=>h) (Or.inl ⟨by rfl,?_⟩) ?_ ?_
 rotate_left
 ·intro w'
  go_simp
  with_reducible rfl
 rotate_left
 ·simp only [Act.put,zA_,zB_,zC_,i64_w]
  rfl
 refine pure_ (i:=4) (N:=some 85) (v:=?_) (a':=?_) (bl_ 12 28) rfl rfl (by kernel_rfl) (fun _ _ _ h=>h) (Or.inl ⟨by rfl,?_⟩) ?_ ?_
 rotate_left
 ·intro w'
  go_simp
  with_reducible rfl
 rotate_left
 ·simp only [Act.put,zA_,zB_,zC_,i64_w]
  rfl
 refine pure_ (i:=5) (N:=some 86) (v:=?_) (a':=?_) (bl_ 12 60) rfl rfl (by kernel_rfl) (fun _ _ _ h=>h) (Or.inl ⟨by rfl,?_⟩) ?_ ?_
 rotate_left
 ·intro w'
  go_simp
  with_reducible rfl
 rotate_left
 ·simp only [Act.put,zA_,zB_,zC_,i64_w]
  rfl
 refine pure_ (i:=7) (N:=some 88) (v:=?_) (a':=?_) (bl_ 12 188) rfl rfl (by kernel_rfl) (fun _ _ _ h=>h) (Or.inl ⟨by rfl,?_⟩) ?_ ?_
 rotate_left
 ·intro w'
  go_simp
  with_reducible rfl
 rotate_left
 ·simp only [Act.put,zA_,zB_,zC_,i64_w]
  rfl
 refine take_ (i:=6) (N:=some 87) (v:=?_) (a':=?_) (bl_ 12 252) rfl rfl (by kernel_rfl) (fun _ _ _ h=>h) (Or.inl ⟨by rfl,?_⟩) hHeld ?_ ?_
 rotate_left
 ·rintro w' ⟨s0,s1⟩
  go_simp
  with_reducible rfl
 rotate_left
 ·simp only [Act.put,zA_,zB_,zC_,i64_w]
  rfl
 refine pure_ (i:=8) (N:=some 89) (v:=?_) (a':=?_) (bl_ 12 508) rfl rfl (by kernel_rfl) (fun _ _ _ h=>h) (Or.inl ⟨by rfl,?_⟩) ?_ ?_
 rotate_left
 ·intro w'
  go_simp
  with_reducible rfl
 rotate_left
 ·simp only [Act.put,zA_,zB_,zC_,i64_w]
  rfl
 refine take_ (i:=9) (N:=some 90) (v:=?_) (a':=?_) (bl_ 12 1020) rfl rfl (by kernel_rfl) (fun _ _ _ h=>h) (Or.inl ⟨by rfl,?_⟩) hHeld ?_ ?_
 rotate_left
 ·rintro w' ⟨s0,s1⟩
  go_simp
  with_reducible rfl
 rotate_left
 ·simp only [Act.put,zA_,zB_,zC_,i64_w]
  rfl
 refine one_ (i:=0) (N:=some 81) (bl_ 12 1021) rfl rfl (by kernel_rfl) (by decide) (fun K hK=>?_)
 refine rowL_ 68 (.tmp 6) (by rfl) rfl rfl w.heap.size rfl 68 (stc (wd s.1) s.1.length s.2) (0,0) _ H2.out.x Tryd.underlying68 rfl (by rw [stc_size]; exact info68) ?_
 refine hK.out _ _ ⟨hHeld.1,hHeld.2⟩ (fun hHeld=>?_)
 clear hK K
 refine norm_ (a':=?_) ?_ ?_
 rotate_left
 ·show Act.put _ (some 81) _=_
  simp only [Act.put,zA_,zB_,zC_,i64_w]
  rfl
 refine one_ (i:=1) (N:=some 82) (bl_ 12 1023) rfl rfl (by kernel_rfl) (by decide) (fun K hK=>?_)
 refine goes_ Tryd.func54 (by kernel_rfl) rfl #[.agg (stc (wd s.1) s.1.length s.2)] (by rfl) rfl rfl (by (try simp only [List.map_toArray,List.map_cons,List.map_nil]); first|done|rfl) ?_
 refine (top_ (wd s.1) s.1.length s.2 HN.out HF.out _).mono ?_
 rintro e w6 ⟨rfl,hb6⟩
 refine ⟨_,rfl,?_⟩
 have H2:=Aside0.mk (H2.out.call hb6)
 refine hK.out _ _ ⟨(below_cell hb6 hHeld.1),(below_cell hb6 hHeld.2)⟩ (fun hHeld=>?_)
 clear hK K
 refine norm_ (a':=?_) ?_ ?_
 rotate_left
 ·show Act.put _ (some 82) _=_
  simp only [Act.put,zA_,zB_,zC_,i64_w]
  rfl
 refine one_ (i:=10) (N:=some 91) (bl_ 12 2047) rfl rfl (by kernel_rfl) (by decide) (fun K hK=>?_)
 refine value_ (w1:=w6) (v:=.bool false) (by rfl) rfl (by go_simp; first|done|(rw [ne])|(simp [ne])) ?_
 refine hK.out _ _ ⟨hHeld.1,hHeld.2⟩ (fun hHeld=>?_)
 clear hK K
 refine norm_ (a':=?_) ?_ ?_
 rotate_left
 ·show Act.put _ (some 91) _=_
  simp only [Act.put,zA_,zB_,zC_,i64_w]
  rfl
 refine one_ (i:=11) (N:=some 92) (bl_ 12 4095) rfl rfl (by kernel_rfl) (by decide) (fun K hK=>?_)
 refine goesE_ Tryd.func53 (by kernel_rfl) rfl #[.bool false,.int .i64 203] (by rfl) rfl rfl (by (try simp only [List.map_toArray,List.map_cons,List.map_nil]); first|done|rfl) ?_
 refine (must_no 203 _).mono ?_
 rintro e w7 ⟨rfl,rfl⟩
 refine Or.inr ⟨_,rfl,?_⟩
 exact ⟨rfl,HE.out.symm,H2.out.b⟩
structure Cells (lg:Nat) (cell:Nat→Nat) (l3:List Int) (A3:Option Addr) (c3:Nat) (w:World):Prop where
 at_:w.cell? ⟨lg,3,none⟩=some (.slice A3 l3.length c3)
 row:Kd.C (Kd.int .i64) w A3 l3.length l3
 len:l3.length≤256
 val:∀ a,a < l3.length→rd l3 (a:Int)=(cell a:Nat)
def OpsOk (n3 op a b:Nat):Prop:=op≤27∧(op=1∨op=11→1≤b∧b < 4)∧(op=17∨op=18→a < n3)∧(op=23→a≤1024)
theorem behind_calls (lg:Nat) (cell:Nat→Nat) (l3:List Int) (A3:Option Addr) (c3:Nat) (s:St) (op a b:Nat) (hs:Fine s) (hr:s.2≤4) (w:World) (hC:Cells lg cell l3 A3 c3 w) (ho:OpsOk l3.length op a b) :
  Calls Tryd.prog 55 #[.pointer (some ⟨lg,0,none⟩),stV s,.int .i64 (op:Nat),.int .i64 (a:Nat),.int .i64 (b:Nat)] w fun e w'=>e=ends (behind cell s a b op)∧Below w.heap.size w w':=by
 obtain ⟨h1,h2,h3,h4⟩:=ho
 match op,h1,h2,h3,h4 with
 | 0,_,_,_,_=>exact behind_0 lg cell s a b hs w
 | 1,_,h,_,_=>exact behind_1 lg cell s a b hs w (h (Or.inl rfl))
 | 2,_,_,_,_=>exact behind_2 lg cell s a b hs w
 | 3,_,_,_,_ =>
  by_cases ha:a < s.2
  ·refine (behind_3y lg cell s a b hs w ha).mono fun e w' h=>h
  ·refine (behind_3n lg cell s a b hs w ha).mono fun e w' h=>h
 | 4,_,_,_,_=>exact behind_4 lg cell s a b hs w
 | 5,_,_,_,_=>exact behind_5 lg cell s a b hs w
 | 6,_,_,_,_=>exact behind_6 lg cell s a b hs w
 | 7,_,_,_,_=>exact behind_7 lg cell s a b hs w
 | 8,_,_,_,_=>exact behind_8 lg cell s a b hs w
 | 9,_,_,_,_=>exact behind_9 lg cell s a b hs w
 | 10,_,_,_,_=>exact behind_10 lg cell s a b hs w
 | 12,_,_,_,_=>exact behind_12 lg cell s a b hs w
 | 13,_,_,_,_=>exact behind_13 lg cell s a b hs w
 | 14,_,_,_,_=>exact behind_14 lg cell s a b hs w
 | 15,_,_,_,_=>exact behind_15 lg cell s a b hs w
 | 16,_,_,_,_=>exact behind_16 lg cell s a b hs w
 | 17,_,_,_,_=>exact behind_17 lg cell s a b hs w
 | 19,_,_,_,_=>exact behind_19 lg cell s a b hs w
 | 20,_,_,_,_=>exact behind_20 lg cell s a b hs w
 | 21,_,_,_,_=>exact behind_21 lg cell s a b hs w
 | 22,_,_,_,_=>exact behind_22 lg cell s a b hs w
 | 26,_,_,_,_=>exact behind_26 lg cell s a b hs w
 | 27,_,_,_,_=>exact behind_27 lg cell s a b hs w
 | 11,_,h,_,_=>exact behind_11 lg cell s a b hs w (h (Or.inr rfl))
 | 18,_,_,h,_ =>
  by_cases hp:0 < s.1.length
  ·by_cases ht:topv (wd s.1) s.1.length=cell a
   ·exact behind_18y lg cell s a b hs w l3 A3 c3 (h (Or.inr rfl)) hC.len hC.at_ hC.row (hC.val a (h (Or.inr rfl))) hp ht
   ·exact behind_18x lg cell s a b hs w l3 A3 c3 (h (Or.inr rfl)) hC.len hC.at_ hC.row (hC.val a (h (Or.inr rfl))) hp ht
  ·exact behind_18n lg cell s a b hs w hp
 | 23,_,_,_,h=>exact behind_23 lg cell s a b hs w ⟨h rfl⟩
 | 24,_,_,_,_ =>
  by_cases ha:0 < s.2
  ·exact behind_24y lg cell s a b hs w ha
  ·exact behind_24n lg cell s a b hs w ha
 | 25,_,_,_,_ =>
  by_cases ha:0 < s.2
  ·exact behind_25y lg cell s a b hs w ha ⟨hr⟩
  ·exact behind_25n lg cell s a b hs w ha
 | n+28,h,_,_,_=>exact absurd h (by omega)
end Go.Proofs.YtcmdjpolgaejoaaDoor.Gd
namespace Go.Proofs.YtcmdjpolgaejoaaDoor.Gd
open Go.RowKit Go.Proofs.YtcmdjpolgaejoaaDoorW.PrintWords Go.Proofs.YtcmdjpolgaejoaaDoorW.PrintLast Go.Proofs.YtcmdjpolgaejoaaDoorW.PrintMore
set_option linter.unusedVariables false
set_option linter.unusedSimpArgs false
def look (a:Nat):List (Nat×St)→Option St
 | []=>none
 | (b,s) :: t=>if b=a then some s else look a t
structure Lk where
 tab:List (Nat×St)
 left:List Bool
 at_:Nat
 word:Nat
 stack:Nat
 rounds:Nat
 kind:Nat
def Lk.lim (L:Lk) (s:St):Lk:={ L with stack:=max L.stack s.1.length,rounds:=max L.rounds s.2 }
def Lk.put (L:Lk) (a:Nat) (s:St):Lk:={ L with tab:=L.tab++[(a,s)],left:=L.left.set a true,at_:=min L.at_ a }
def comes (n:Nat) (L:Lk) (a:Nat) (s:St):Except Int Lk :=
 if a < n then
  match look a L.tab with
  | some s'=>if s'=s then .ok (L.lim s) else .error 202
  | none=>.ok ((L.put a s).lim s)
 else .error 200
structure Cv where
 A0:Option Addr
 c0:Nat
 l0:List Int
 A1:Option Addr
 c1:Nat
 l1:List Int
 A2:Option Addr
 c2:Nat
 l2:List ByteArray
 A3:Option Addr
 c3:Nat
 l3:List Int
structure Cv.Reads (C:Cv) (w:World):Prop where
 r0:Kd.C (Kd.int .u64) w C.A0 C.l0.length C.l0
 h0:C.l0.length≤C.c0
 r1:Kd.C (Kd.int .i64) w C.A1 C.l1.length C.l1
 h1:C.l1.length≤C.c1
 r2:Kd.C Kd.string w C.A2 C.l2.length C.l2
 h2:C.l2.length≤C.c2
 r3:Kd.C (Kd.int .i64) w C.A3 C.l3.length C.l3
 h3:C.l3.length≤C.c3
def Cv.cells (C:Cv):List Value:=[.slice C.A0 C.l0.length C.c0,.slice C.A1 C.l1.length C.c1,.slice C.A2 C.l2.length C.c2,.slice C.A3 C.l3.length C.c3]
def lkc (C:Cv) (m lb:Nat) (L:Lk):Array Value :=
 #[.slice C.A0 C.l0.length C.c0,.slice C.A1 C.l1.length C.c1,.slice C.A2 C.l2.length C.c2,.slice C.A3 C.l3.length C.c3,.map (some m),.slice (some ⟨lb,0,none⟩) C.l0.length C.l0.length,
  .int .i64 (L.at_:Nat),.int .i64 (L.word:Nat),.int .i64 (L.stack:Nat),.int .i64 (L.rounds:Nat),.int .i64 (L.kind:Nat)]
def MapIs (es:Array MapEntry) (T:List (Nat×St)):Prop:=es.toList.map (fun e=>(e.key,e.val))=T.map fun p=>(Value.int .i64 (p.1:Nat),stV p.2)
structure Holds (w0:World) (C:Cv) (lg m lb:Nat) (L:Lk) (w:World):Prop where
 lk:w.heap[lg]? = some (.cells (lkc C m lb L) 72 (0,0))
 mp:∃ es clock,w.heap[m]? = some (.map es clock)∧MapIs es L.tab
 lf:w.heap[lb]? = some (.cells (L.left.map Value.bool).toArray 4 (0,0))
 ln:L.left.length=C.l0.length
 b:Below w0.heap.size w0 w
 h0:w0.heap.size≤lg
 h1:w0.heap.size≤m
 h2:w0.heap.size≤lb
structure Keep3 (lg m lb:Nat) (w w':World):Prop where
 os:w'.os=w.os
 tape:w'.tape=w.tape
 output:w'.output=w.output
 size:w.heap.size≤w'.heap.size
 block:∀ k,k < w.heap.size→k≠lg→k≠m→k≠lb→w'.heap[k]? = w.heap[k]?
theorem Keep3.refl (lg m lb:Nat) (w:World):Keep3 lg m lb w w:=⟨rfl,rfl,rfl,Nat.le_refl _,fun _ _ _ _ _=>rfl⟩
theorem Keep3.trans {lg m lb:Nat} {a b c:World} (h:Keep3 lg m lb a b) (k:Keep3 lg m lb b c):Keep3 lg m lb a c :=
 ⟨k.os.trans h.os,k.tape.trans h.tape,k.output.trans h.output,Nat.le_trans h.size k.size,fun i hi h1 h2 h3=>(k.block i (Nat.lt_of_lt_of_le hi h.size) h1 h2 h3).trans (h.block i hi h1 h2 h3)⟩
theorem Keep3.of_below {lg m lb:Nat} {w w':World} (h:Below w.heap.size w w'):Keep3 lg m lb w w':=⟨h.os,h.tape,h.output,h.size,fun k hk _ _ _=>h.block k hk⟩
theorem Keep3.below {lg m lb B:Nat} {w0 w w':World} (h:Keep3 lg m lb w w') (hb:Below B w0 w) (hB:B≤w.heap.size) (h1:B≤lg) (h2:B≤m) (h3:B≤lb):Below B w0 w' :=
 ⟨h.os.trans hb.os,h.tape.trans hb.tape,h.output.trans hb.output,Nat.le_trans hb.size h.size,fun k hk=>(h.block k (by omega) (by omega) (by omega) (by omega)).trans (hb.block k hk)⟩
theorem setCell_size (w:World) (a:Addr) (v:Value):(w.setCell a v).heap.size=w.heap.size:=by simp [World.setCell]
theorem Keep3.cell {lg m lb g i:Nat} {w:World} {v:Value} (hg:g=lg∨g=m∨g=lb):Keep3 lg m lb w (w.setCell ⟨g,i,none⟩ v) :=
 ⟨rfl,rfl,rfl,by rw [setCell_size]; exact Nat.le_refl _,fun k hk h1 h2 h3=>Below.heap_setCell w _ v k (by rcases hg with rfl|rfl|rfl<;>assumption)⟩
def setB (w:World) (b:Nat) (o:Obj):World:={ w with heap:=w.heap.setIfInBounds b o }
theorem Keep3.map {lg m lb:Nat} {w:World} {o:Obj}:Keep3 lg m lb w (setB w m o) :=
 ⟨rfl,rfl,rfl,by simp [setB],fun k hk h1 h2 h3=>by simp [setB,Array.getElem?_setIfInBounds,Ne.symm h2]⟩
theorem Holds.keep {w0:World} {C:Cv} {lg m lb:Nat} {L:Lk} {w w':World} (h:Holds w0 C lg m lb L w) (hb:Below w.heap.size w w'):Holds w0 C lg m lb L w' :=
 ⟨blk_below h.lk hb,let ⟨es,c,h1,h2⟩:=h.mp; ⟨es,c,blk_below h1 hb,h2⟩,blk_below h.lf hb,h.ln,below_then h.b h.b.size hb,h.h0,h.h1,h.h2⟩
theorem Holds.ne {w0:World} {C:Cv} {lg m lb:Nat} {L:Lk} {w:World} (h:Holds w0 C lg m lb L w):lg≠m∧lg≠lb∧m≠lb:=by
 obtain ⟨es,c,h1,-⟩:=h.mp
 refine ⟨?_,blk_ne h.lk h.lf (by decide),?_⟩<;>rintro rfl
 ·rw [h.lk] at h1; cases h1
 ·have:=h.lf; rw [h1] at this; cases this
theorem Holds.set {w0:World} {C:Cv} {lg m lb:Nat} {L L':Lk} {w:World} (h:Holds w0 C lg m lb L w) (i:Nat) (v:Value) (e:(lkc C m lb L).setIfInBounds i v=lkc C m lb L') (e1:L'.tab=L.tab) (e2:L'.left=L.left):Holds w0 C lg m lb L' (w.setCell ⟨lg,i,none⟩ v):=by
 obtain ⟨n1,n2,n3⟩:=h.ne
 refine ⟨blk_put h.lk i v e,?_,?_,e2 ▸ h.ln,Keep3.below (Keep3.cell (m:=m) (lb:=lb) (Or.inl rfl)) h.b h.b.size h.h0 h.h1 h.h2,h.h0,h.h1,h.h2⟩
 ·obtain ⟨es,c,h1,h2⟩:=h.mp
  exact ⟨es,c,(Below.heap_setCell w _ v m n1.symm).trans h1,e1 ▸ h2⟩
 ·rw [e2]; exact (Below.heap_setCell w _ v lb n2.symm).trans h.lf
theorem Holds.setLeft {w0:World} {C:Cv} {lg m lb:Nat} {L:Lk} {w:World} (h:Holds w0 C lg m lb L w) (i:Nat) (b:Bool):Holds w0 C lg m lb { L with left:=L.left.set i b } (w.setCell ⟨lb,i,none⟩ (.bool b)):=by
 obtain ⟨n1,n2,n3⟩:=h.ne
 refine ⟨(Below.heap_setCell w _ _ lg n2).trans h.lk,?_,blk_put h.lf i _ (by simp [List.map_set]),by simpa using h.ln,Keep3.below (Keep3.cell (lg:=lg) (m:=m) (Or.inr (Or.inr rfl))) h.b h.b.size h.h0 h.h1 h.h2,h.h0,h.h1,h.h2⟩
 obtain ⟨es,c,h1,h2⟩:=h.mp
 exact ⟨es,c,(Below.heap_setCell w _ _ m n3).trans h1,h2⟩
theorem key_of {es:Array MapEntry} {T:List (Nat×St)} (h:MapIs es T) (a:Nat):Instr.findNow (.int .i64) (.int .i64 (a:Nat)) es.toList 0=some (((look a T).map stV).map fun v=>((T.findIdx (·.1=a)),v)):=by
 have gen:∀ (l:List MapEntry) (T:List (Nat×St)) (i:Nat),l.map (fun e=>(e.key,e.val))=T.map (fun p=>(Value.int .i64 (p.1:Nat),stV p.2)) →
   Instr.findNow (.int .i64) (.int .i64 (a:Nat)) l i=some (((look a T).map stV).map fun v=>(i+(T.findIdx (·.1=a)),v)):=by
  intro l
  induction l with
  | nil=>intro T i h; cases T with
   | nil=>rfl
   | cons p t=>simp at h
  | cons e es ih=>intro T i h; cases T with
   | nil=>simp at h
   | cons p t =>
    simp only [List.map_cons,List.cons.injEq,Prod.mk.injEq] at h
    obtain ⟨⟨hk,hv⟩,ht⟩:=h
    obtain ⟨b,s⟩:=p
    unfold Instr.findNow look
    rw [hk]
    simp only [Instr.sameNow,if_pos]
    by_cases e1:b=a
    ·subst e1
     simp [hv,List.findIdx_cons]
    ·have:((a:Int) == (b:Int))=false:=by simpa using fun h=>e1 (by omega)
     simp only [this,if_neg e1]
     rw [ih t (i+1) ht]
     simp [List.findIdx_cons,e1]
     cases look a t<;>simp
     omega
 have:=gen es.toList T 0 h
 simpa using this
theorem stV_zero:(zeroValue 68).run Tryd.prog=fun w=>.ok (stV ([],0)) w:=by
 funext w
 exact (zero_of_info (t:=68) (n:=34) (v:=stV ([],0)) (by kernel_rfl)).1 w
theorem lookup_run {w:World} {m:Nat} {es:Array MapEntry} {clock:Nat} {T:List (Nat×St)} (hb:w.heap[m]? = some (.map es clock)) (h:MapIs es T) (a:Nat) :
  (Instr.lookup 69 (.map (some m)) (.int .i64 (a:Nat)) true).run Tryd.prog w=.ok (.tuple #[stV ((look a T).getD ([],0)),.bool (look a T).isSome]) w:=by
 have hk:(Instr.findKey 3 (.int .i64 (a:Nat)) es.toList).run Tryd.prog w=_:=MapKept.run_findKey (P:=Tryd.prog) (w:=w) Tryd.underlying3 (key_of h a)
 have hc:∀ em,(Instr.checkKey em 10000 3 (.int .i64 (a:Nat))).run Tryd.prog w=.ok () w:=fun em=>MapKept.run_checkKey (P:=Tryd.prog) Tryd.underlying3 (by simp [MapKept.IsKey]) em 9999
 have hz:=congrFun stV_zero w
 cases hl:look a T with
 | none =>
  rw [hl] at hk
  simp [Instr.lookup,run_underlying Tryd.underlying69,MapKept.run_getObj_map hb,hc,hk,hz,Result.andThen]
 | some s =>
  rw [hl] at hk
  simp [Instr.lookup,run_underlying Tryd.underlying69,MapKept.run_getObj_map hb,hc,hk,Result.andThen]
theorem lookup1_run {w:World} {m:Nat} {es:Array MapEntry} {clock:Nat} {T:List (Nat×St)} (hb:w.heap[m]? = some (.map es clock)) (h:MapIs es T) (a:Nat) :
  (Instr.lookup 69 (.map (some m)) (.int .i64 (a:Nat)) false).run Tryd.prog w=.ok (stV ((look a T).getD ([],0))) w:=by
 have hk:(Instr.findKey 3 (.int .i64 (a:Nat)) es.toList).run Tryd.prog w=_:=MapKept.run_findKey (P:=Tryd.prog) (w:=w) Tryd.underlying3 (key_of h a)
 have hc:∀ em,(Instr.checkKey em 10000 3 (.int .i64 (a:Nat))).run Tryd.prog w=.ok () w:=fun em=>MapKept.run_checkKey (P:=Tryd.prog) Tryd.underlying3 (by simp [MapKept.IsKey]) em 9999
 have hz:=congrFun stV_zero w
 cases hl:look a T with
 | none =>
  rw [hl] at hk
  simp [Instr.lookup,run_underlying Tryd.underlying69,MapKept.run_getObj_map hb,hc,hk,hz,Result.andThen]
 | some s =>
  rw [hl] at hk
  simp [Instr.lookup,run_underlying Tryd.underlying69,MapKept.run_getObj_map hb,hc,hk,Result.andThen]
theorem update_run {w:World} {m:Nat} {es:Array MapEntry} {clock:Nat} {T:List (Nat×St)} (hb:w.heap[m]? = some (.map es clock)) (h:MapIs es T) (a:Nat) (s:St) (hn:look a T=none) :
  (Instr.mapUpdate 69 (.map (some m)) (.int .i64 (a:Nat)) (stV s)).run Tryd.prog w=.ok () (setB w m (.map (es.push ⟨.int .i64 (a:Nat),stV s,clock⟩) (clock+1)))∧MapIs (es.push ⟨.int .i64 (a:Nat),stV s,clock⟩) (T++[(a,s)]):=by
 have hk:(Instr.findKey 3 (.int .i64 (a:Nat)) es.toList).run Tryd.prog w=_:=MapKept.run_findKey (P:=Tryd.prog) (w:=w) Tryd.underlying3 (key_of h a)
 have hc:∀ em,(Instr.checkKey em 10000 3 (.int .i64 (a:Nat))).run Tryd.prog w=.ok () w:=fun em=>MapKept.run_checkKey (P:=Tryd.prog) Tryd.underlying3 (by simp [MapKept.IsKey]) em 9999
 rw [hn] at hk
 refine ⟨?_,?_⟩
 ·simp [Instr.mapUpdate,run_underlying Tryd.underlying69,MapKept.run_getObj_map hb,hc,hk,MapKept.run_setObj_map _ hb,Result.andThen,setB]
 ·unfold MapIs at h ⊢
  simp [h]
theorem Holds.setMap {w0:World} {C:Cv} {lg m lb:Nat} {L:Lk} {w:World} (h:Holds w0 C lg m lb L w) {es:Array MapEntry} {clock:Nat} {T:List (Nat×St)} (hT:MapIs es T):Holds w0 C lg m lb { L with tab:=T } (setB w m (.map es clock)):=by
 obtain ⟨n1,n2,n3⟩:=h.ne
 obtain ⟨es',c',h1,-⟩:=h.mp
 have hm:m < w.heap.size:=(Array.getElem?_eq_some_iff.1 h1).1
 have far:∀ k,k≠m→(setB w m (.map es clock)).heap[k]? = w.heap[k]? := fun k hk=>by simp [setB,Array.getElem?_setIfInBounds,Ne.symm hk]
 exact ⟨(far lg n1).trans h.lk,⟨es,clock,by simp [setB,hm],hT⟩,(far lb n3.symm).trans h.lf,h.ln,Keep3.below (Keep3.map (lg:=lg) (lb:=lb)) h.b h.b.size h.h0 h.h1 h.h2,h.h0,h.h1,h.h2⟩
def w32 (f:Nat→Nat):Array Value:=((List.range 32).map fun i=>(.int .u64 (f i:Nat):Value)).toArray
def same (f g:Nat→Nat):Bool:=(List.range 32).all fun i=>f i == g i
theorem same_iff (f g:Nat→Nat):same f g=true↔∀ i,i < 32→f i=g i:=by simp [same]
theorem eq66 (w:World) (f g:Nat→Nat):(binOp .eql 66 (.agg (w32 f)) (.agg (w32 g))).run Tryd.prog w=.ok (.bool (same f g)) w:=by
 rw [run_eql_struct]
 have hsz:∀ w,(sizeOf 63).run Tryd.prog w=.ok 1 w:=fun w=>by
  have:(Tryd.prog.info? 63).map (·.size)=some 1:=by kernel_rfl
  cases hq:Tryd.prog.info? 63 with
  | none=>simp [hq] at this
  | some i=>simp [hq] at this; simp [sizeOf,typeInfo,hq,this]
 have:(Op.equalIn 10000 66 (.agg (w32 f)) (.agg (w32 g))).run Tryd.prog w=.ok (same f g) w:=by
  rw [show (10000:Nat)=9998+2 from rfl,Op.equalIn]
  simp only [Sem.run_bind,run_underlying Tryd.underlying66,Result.andThen_ok,hsz,Std.Legacy.Range.forIn_eq_forIn_range',Std.Legacy.Range.size,Nat.sub_zero,Nat.add_sub_cancel,Nat.div_one]
  unfold same
  rw [List.range_eq_range']
  have hl:∀ i∈List.range' 0 32 1,i < 32:=fun i hi=>by simpa using (List.mem_range'_1.1 hi).2
  generalize List.range' 0 32 1=l at hl ⊢
  induction l with
  | nil=>simp
  | cons i l ih =>
   have hi:i < 32:=hl i (by simp)
   have px:∀ f,(part 63 (w32 f) (i*1)).run Tryd.prog w=.ok (.int .u64 (f i:Nat)) w:=fun f=>by
    simp [part,isAgg,run_underlying Tryd.underlying63,w32,hi]
   have pe:(Op.equalIn (9998+1) 63 (.int .u64 (f i:Nat)) (.int .u64 (g i:Nat))).run Tryd.prog w=.ok (f i == g i) w:=by
    rw [run_equalIn_int w 9998 63 .u64 .u64 _ _ Tryd.underlying63]
    congr 1
    rw [Bool.eq_iff_iff]
    simp
    omega
   simp only [List.forIn_cons,Sem.run_bind,px,pe,Result.andThen_ok,List.all_cons]
   cases hb:(f i == g i)
   ·simp
   ·simp only [Bool.not_true,Bool.false_eq_true,if_false,Sem.run_pure,Result.andThen_ok,Bool.true_and]
    exact ih fun j hj=>hl j (by simp [hj])
 rw [this]
 rfl
theorem load66 (w:World) (g:Nat) (f:Nat→Nat) (h r:Nat) (hg:w.heap[g]? = some (.cells (stc f h r) 68 (0,0))):(loadVar 66 ⟨g,0,none⟩).run Tryd.prog w=.ok (.agg (w32 f)) w:=by
 have hl:(loadCells ⟨g,0,none⟩ (w32 f).toList.length).run Tryd.prog w=.ok (w32 f).toList.toArray w :=
  run_loadCells_list (P:=Tryd.prog) w ⟨g,0,none⟩ (w32 f).toList (fun j v hv=>by
   have hadd:(⟨g,0,none⟩:Addr).add j=⟨g,j,none⟩:=by unfold Addr.add; split<;>simp_all
   rw [hadd,cell_of_row w g j _ 68 _ hg]
   have hj:j < 32:=by
    have:=(List.getElem?_eq_some_iff.1 hv).1
    simpa [w32] using this
   rw [stc_word f h r j hj]
   simp [w32,hj] at hv
   rw [← hv])
 have hi:(Tryd.prog.info? 66).map (·.size)=some 32:=by kernel_rfl
 cases hq:Tryd.prog.info? 66 with
 | none=>simp [hq] at hi
 | some i =>
  have hs:i.size=32:=by simpa [hq] using hi
  have hagg:(isAgg 66).run Tryd.prog w=.ok true w:=by
   unfold isAgg
   rw [Sem.run_bind,run_underlying Tryd.underlying66 w]
   rfl
  have h32:(w32 f).toList.length=32:=by simp [w32]
  rw [h32] at hl
  simp only [Array.toArray_toList] at hl
  simp [loadVar,Sem.run_bind,hagg,sizeOf,typeInfo,hq,hs,hl]
end Go.Proofs.YtcmdjpolgaejoaaDoor.Gd
namespace Go.Proofs.YtcmdjpolgaejoaaDoor.Gd
open Go.RowKit Go.Proofs.YtcmdjpolgaejoaaDoorW.PrintWords Go.Proofs.YtcmdjpolgaejoaaDoorW.PrintLast Go.Proofs.YtcmdjpolgaejoaaDoorW.PrintMore
set_option linter.unusedVariables false
set_option linter.unusedSimpArgs false
attribute [local go_sem] stc_h stc_r max2_int min2_int max_two min_two
theorem wpList_load66 {ops:Array Oper} {rest:List Oper} {o:Oper} {a:Act} {w:World} {Q:Exit→Act→World→Prop} (hgd:o.guard=none) (x:Operand) (ho:o.op=.load 66 x)
  (g:Nat) (hx:a.eval x=.pointer (some ⟨g,0,none⟩)) (f:Nat→Nat) (n r:Nat) (hg:w.heap[g]? = some (.cells (stc f n r) 68 (0,0)))
  (h:wpList Tryd.prog ops Q rest (a.put o.dst (.agg (w32 f))) w):wpList Tryd.prog ops Q (o :: rest) a w :=
 wpList_plain hgd fun _ hK=>by
  unfold Oper.wp execOp
  simp only [ho,hx,Instr.loadAt,Instr.sureAddr,Sem.run_bind,Sem.run_pure,Result.andThen_ok,load66 w g f n r hg]
  exact hK _ _ h
theorem gated {P:Program} {ops:Array Oper} {rest:List Oper} {o:Oper} {a:Act} {Q:Exit→Act→World→Prop} {W:World} (hw:Region.wanted o (yielded ops a.tmps)=true) (h:wpList P ops Q ({ o with guard:=none } :: rest) a W):wpList P ops Q (o :: rest) a W:=by
 have h1:Region.wanted { o with guard:=none } (yielded ops a.tmps)=true:=rfl
 unfold wpList at h ⊢
 rw [if_pos h1] at h
 rw [if_pos hw]
 exact h
theorem max_if (a b:Nat):(if a < b then ((b:Nat):Int) else ((a:Nat):Int))=((max a b:Nat):Int):=by split<;>omega
structure Cm (w0:World) (C:Cv) (lg m lb:Nat) (w:World) (s:Array Value) (L:Lk) (w':World):Prop where
 h:Holds w0 C lg m lb L w'
 k:Keep3 lg m lb w w'
 x:w'.heap[w.heap.size]? = some (.cells s 68 (0,0))
 l1:lg < w.heap.size
 l2:m < w.heap.size
 l3:lb < w.heap.size
section
variable {w0:World} {C:Cv} {lg m lb:Nat} {w w':World} {s:Array Value} {L L':Lk}
theorem Cm.new (h:Holds w0 C lg m lb L w) (s:Array Value):Cm w0 C lg m lb w s L (w.alloc (.cells s 68)) :=
 have hb:=below_alloc (Below.refl w.heap.size w) (.cells s 68)
 ⟨h.keep hb,Keep3.of_below hb,heap_alloc_new w _,blk_lt h.lk,(let ⟨_,_,h1,_⟩:=h.mp; blk_lt h1),blk_lt h.lf⟩
theorem Cm.call {w'':World} (h:Cm w0 C lg m lb w s L w') (hb:Below w'.heap.size w' w''):Cm w0 C lg m lb w s L w'' :=
 ⟨h.h.keep hb,h.k.trans (Keep3.of_below hb),blk_below h.x hb,h.l1,h.l2,h.l3⟩
theorem Cm.drew (h:Cm w0 C lg m lb w s L w'):Cm w0 C lg m lb w s L w'.drew:=h.call (Below.refl _ _).drew
theorem Cm.set (h:Cm w0 C lg m lb w s L w') (i:Nat) (v:Value) (e:(lkc C m lb L).setIfInBounds i v=lkc C m lb L') (e1:L'.tab=L.tab) (e2:L'.left=L.left):Cm w0 C lg m lb w s L' (w'.setCell ⟨lg,i,none⟩ v) :=
 ⟨h.h.set i v e e1 e2,h.k.trans (Keep3.cell (Or.inl rfl)),(Below.heap_setCell w' _ v _ (Nat.ne_of_gt h.l1)).trans h.x,h.l1,h.l2,h.l3⟩
theorem Cm.setLeft (h:Cm w0 C lg m lb w s L w') (i:Nat) (b:Bool):Cm w0 C lg m lb w s { L with left:=L.left.set i b } (w'.setCell ⟨lb,i,none⟩ (.bool b)) :=
 ⟨h.h.setLeft i b,h.k.trans (Keep3.cell (Or.inr (Or.inr rfl))),(Below.heap_setCell w' _ _ _ (Nat.ne_of_gt h.l3)).trans h.x,h.l1,h.l2,h.l3⟩
theorem Cm.setMap (h:Cm w0 C lg m lb w s L w') {es:Array MapEntry} {clock:Nat} {T:List (Nat×St)} (hT:MapIs es T):Cm w0 C lg m lb w s { L with tab:=T } (setB w' m (.map es clock)) :=
 ⟨h.h.setMap hT,h.k.trans Keep3.map,by
  have:=h.l2
  simp only [setB,Array.getElem?_setIfInBounds]
  rw [if_neg (by omega)]
  exact h.x,h.l1,h.l2,h.l3⟩
theorem below_rowOwn {w:World} {g:Nat} {o:Obj} (cs:Array Value) (hg:w.heap.size≤g):Below w.heap.size w ((w.alloc o).setRow g cs):=below_setRow (below_alloc (Below.refl _ _) _) hg _
end
attribute [local irreducible] wpList
def cEnds (w0:World) (C:Cv) (lg m lb:Nat) (L:Lk) (w:World) (r:Except Int Lk) (e:Ending) (w':World):Prop :=
 Keep3 lg m lb w w'∧match r with
  | .ok L'=>e=.returned (.tuple #[])∧Holds w0 C lg m lb L' w'
  | .error x=>e=.panicked (bad x)∧Holds w0 C lg m lb L w'
set_option maxHeartbeats 8000000 in
set_option maxRecDepth 10000 in
theorem comes_200 (w0:World) (C:Cv) (lg m lb:Nat) (L:Lk) (s:St) (a:Nat) (hs:Fine s) (w:World) (H:Holds w0 C lg m lb L w) (ha:¬ a < C.l0.length) :
  Calls Tryd.prog 57 #[.pointer (some ⟨lg,0,none⟩),.int .i64 (a:Nat),stV s] w (cEnds w0 C lg m lb L w (.error 200)):=by
 have HC:=Aside0.mk (Cm.new H (stc (wd s.1) s.1.length s.2))
 clear H
 have ne:decide (((a:Nat):Int) < ((C.l0.length:Nat):Int))=false:=decide_eq_false (by omega)
 have y0:(w.alloc (.cells (stc (wd s.1) s.1.length s.2) 68)).cell? ⟨lg,0,none⟩=some (.slice C.A0 C.l0.length C.c0):=blk_cell HC.out.h.lk 0
 go_enter Tryd.func57,Tryd.ntmps57
 go_wp2_with (first
  | (go_at_call 53; (refine (must_no 200 _).mono ?_); rintro e w2 ⟨rfl,rfl⟩))
 exact ⟨rfl,HC.out.k,rfl,HC.out.h⟩
set_option maxHeartbeats 8000000 in
set_option maxRecDepth 10000 in
theorem comes_202a (w0:World) (C:Cv) (lg m lb:Nat) (L:Lk) (s:St) (a:Nat) (hs:Fine s) (w:World) (H:Holds w0 C lg m lb L w) (ha:a < C.l0.length) (t:St) (hl:look a L.tab=some t) (h1:same (wd t.1) (wd s.1)=false) :
  Calls Tryd.prog 57 #[.pointer (some ⟨lg,0,none⟩),.int .i64 (a:Nat),stV s] w (cEnds w0 C lg m lb L w (.error 202)):=by
 have HC:=Aside0.mk (Cm.new H (stc (wd s.1) s.1.length s.2))
 clear H
 have ne:decide (((a:Nat):Int) < ((C.l0.length:Nat):Int))=true:=decide_eq_true (by omega)
 have y0:(w.alloc (.cells (stc (wd s.1) s.1.length s.2) 68)).cell? ⟨lg,0,none⟩=some (.slice C.A0 C.l0.length C.c0):=blk_cell HC.out.h.lk 0
 have y4:(w.alloc (.cells (stc (wd s.1) s.1.length s.2) 68)).cell? ⟨lg,4,none⟩=some (.map (some m)):=blk_cell HC.out.h.lk 4
 obtain ⟨es,ck,hm,hT⟩:=HC.out.h.mp
 have ql:=lookup_run hm hT a
 rw [hl] at ql
 simp only [Option.getD,Option.isSome] at ql
 have HM:=Aside0.mk hm
 have HT:=Aside0.mk hT
 have HL:=Aside0.mk hl
 clear hm hT hl
 have HC3:Aside0 (Cm w0 C lg m lb w (stc (wd s.1) s.1.length s.2) L (World.setRow ((w.alloc (.cells (stc (wd s.1) s.1.length s.2) 68)).alloc (.cells z34_ 68)) (w.heap.size+1) (stc (wd t.1) t.1.length t.2))):=⟨HC.out.call (below_setRow (below_alloc (Below.refl _ _) _) (by simp) _)⟩
 have HW:Aside0 ((World.setRow ((w.alloc (.cells (stc (wd s.1) s.1.length s.2) 68)).alloc (.cells z34_ 68)) (w.heap.size+1) (stc (wd t.1) t.1.length t.2)).heap[w.heap.size+1]? = some (.cells (stc (wd t.1) t.1.length t.2) 68 (0,0))):=⟨setRow_heap _ _ _ _ 68 (0,0) (new2 w _ _)⟩
 have q66:=fun (w:World)=>eq66 w (wd t.1) (wd s.1)
 rw [h1] at q66
 go_enter Tryd.func57,Tryd.ntmps57
 go_wp2_with (first
  | (go_at_call 53; (refine (must_yes 200 _).mono ?_); rintro e w2 ⟨rfl,rfl⟩)
  | (refine wpList_store_row rfl 68 _ _ rfl (w.heap.size+1) (stc (wd t.1) t.1.length t.2) (by first|rfl|simp) rfl 68 _ (new2 w _ _) (by rw [stc_size]; exact info68) (by rw [stc_size]; first|done|rfl) (stc_one _ _ _) ?_; generalize World.setRow ((w.alloc (.cells (stc (wd s.1) s.1.length s.2) 68)).alloc (.cells z34_ 68)) (w.heap.size+1) (stc (wd t.1) t.1.length t.2)=w3 at HC3 HW ⊢; clear y0 y4; have HC:=HC3; clear HC3; have v32:w3.cell? ⟨w.heap.size+1,32,none⟩=some (.int .i64 (t.1.length:Nat)):=(blk_cell HW.out 32).trans (stc_h _ _ _); have v33:w3.cell? ⟨w.heap.size+1,33,none⟩=some (.int .i64 (t.2:Nat)):=(blk_cell HW.out 33).trans (stc_r _ _ _); have x32:w3.cell? ⟨w.heap.size,32,none⟩=some (.int .i64 (s.1.length:Nat)):=(blk_cell HC.out.x 32).trans (stc_h _ _ _); have x33:w3.cell? ⟨w.heap.size,33,none⟩=some (.int .i64 (s.2:Nat)):=(blk_cell HC.out.x 33).trans (stc_r _ _ _))
  | (refine gated (by rfl) ?_; refine wpList_load66 rfl _ rfl (w.heap.size+1) rfl _ _ _ HW.out ?_)
  | (refine gated (by rfl) ?_; refine wpList_load66 rfl _ rfl w.heap.size rfl _ _ _ HC.out.x ?_)
  | (go_at_call 53; (refine (must_no 202 _).mono ?_); rintro e w2 ⟨rfl,rfl⟩))
 exact ⟨rfl,HC.out.k,rfl,HC.out.h⟩
set_option maxHeartbeats 8000000 in
set_option maxRecDepth 10000 in
theorem comes_202b (w0:World) (C:Cv) (lg m lb:Nat) (L:Lk) (s:St) (a:Nat) (hs:Fine s) (w:World) (H:Holds w0 C lg m lb L w) (ha:a < C.l0.length) (t:St) (hl:look a L.tab=some t) (h1:same (wd t.1) (wd s.1)=true) (h2:t.1.length≠s.1.length) :
  Calls Tryd.prog 57 #[.pointer (some ⟨lg,0,none⟩),.int .i64 (a:Nat),stV s] w (cEnds w0 C lg m lb L w (.error 202)):=by
 have HC:=Aside0.mk (Cm.new H (stc (wd s.1) s.1.length s.2))
 clear H
 have ne:decide (((a:Nat):Int) < ((C.l0.length:Nat):Int))=true:=decide_eq_true (by omega)
 have y0:(w.alloc (.cells (stc (wd s.1) s.1.length s.2) 68)).cell? ⟨lg,0,none⟩=some (.slice C.A0 C.l0.length C.c0):=blk_cell HC.out.h.lk 0
 have y4:(w.alloc (.cells (stc (wd s.1) s.1.length s.2) 68)).cell? ⟨lg,4,none⟩=some (.map (some m)):=blk_cell HC.out.h.lk 4
 obtain ⟨es,ck,hm,hT⟩:=HC.out.h.mp
 have ql:=lookup_run hm hT a
 rw [hl] at ql
 simp only [Option.getD,Option.isSome] at ql
 have HM:=Aside0.mk hm
 have HT:=Aside0.mk hT
 have HL:=Aside0.mk hl
 clear hm hT hl
 have HC3:Aside0 (Cm w0 C lg m lb w (stc (wd s.1) s.1.length s.2) L (World.setRow ((w.alloc (.cells (stc (wd s.1) s.1.length s.2) 68)).alloc (.cells z34_ 68)) (w.heap.size+1) (stc (wd t.1) t.1.length t.2))):=⟨HC.out.call (below_setRow (below_alloc (Below.refl _ _) _) (by simp) _)⟩
 have HW:Aside0 ((World.setRow ((w.alloc (.cells (stc (wd s.1) s.1.length s.2) 68)).alloc (.cells z34_ 68)) (w.heap.size+1) (stc (wd t.1) t.1.length t.2)).heap[w.heap.size+1]? = some (.cells (stc (wd t.1) t.1.length t.2) 68 (0,0))):=⟨setRow_heap _ _ _ _ 68 (0,0) (new2 w _ _)⟩
 have q66:=fun (w:World)=>eq66 w (wd t.1) (wd s.1)
 rw [h1] at q66
 have n2:(((t.1.length:Nat):Int) == ((s.1.length:Nat):Int))=false:=by simpa using fun e=>h2 (by omega)
 go_enter Tryd.func57,Tryd.ntmps57
 go_wp2_with (first
  | (go_at_call 53; (refine (must_yes 200 _).mono ?_); rintro e w2 ⟨rfl,rfl⟩)
  | (refine wpList_store_row rfl 68 _ _ rfl (w.heap.size+1) (stc (wd t.1) t.1.length t.2) (by first|rfl|simp) rfl 68 _ (new2 w _ _) (by rw [stc_size]; exact info68) (by rw [stc_size]; first|done|rfl) (stc_one _ _ _) ?_; generalize World.setRow ((w.alloc (.cells (stc (wd s.1) s.1.length s.2) 68)).alloc (.cells z34_ 68)) (w.heap.size+1) (stc (wd t.1) t.1.length t.2)=w3 at HC3 HW ⊢; clear y0 y4; have HC:=HC3; clear HC3; have v32:w3.cell? ⟨w.heap.size+1,32,none⟩=some (.int .i64 (t.1.length:Nat)):=(blk_cell HW.out 32).trans (stc_h _ _ _); have v33:w3.cell? ⟨w.heap.size+1,33,none⟩=some (.int .i64 (t.2:Nat)):=(blk_cell HW.out 33).trans (stc_r _ _ _); have x32:w3.cell? ⟨w.heap.size,32,none⟩=some (.int .i64 (s.1.length:Nat)):=(blk_cell HC.out.x 32).trans (stc_h _ _ _); have x33:w3.cell? ⟨w.heap.size,33,none⟩=some (.int .i64 (s.2:Nat)):=(blk_cell HC.out.x 33).trans (stc_r _ _ _))
  | (refine gated (by rfl) ?_; refine wpList_load66 rfl _ rfl (w.heap.size+1) rfl _ _ _ HW.out ?_)
  | (refine gated (by rfl) ?_; refine wpList_load66 rfl _ rfl w.heap.size rfl _ _ _ HC.out.x ?_)
  | (go_at_call 53; (refine (must_no 202 _).mono ?_); rintro e w2 ⟨rfl,rfl⟩))
 exact ⟨rfl,HC.out.k,rfl,HC.out.h⟩
set_option maxHeartbeats 8000000 in
set_option maxRecDepth 10000 in
theorem comes_202c (w0:World) (C:Cv) (lg m lb:Nat) (L:Lk) (s:St) (a:Nat) (hs:Fine s) (w:World) (H:Holds w0 C lg m lb L w) (ha:a < C.l0.length) (t:St) (hl:look a L.tab=some t) (h1:same (wd t.1) (wd s.1)=true) (h2:t.1.length=s.1.length) (h3:t.2≠s.2) :
  Calls Tryd.prog 57 #[.pointer (some ⟨lg,0,none⟩),.int .i64 (a:Nat),stV s] w (cEnds w0 C lg m lb L w (.error 202)):=by
 have HC:=Aside0.mk (Cm.new H (stc (wd s.1) s.1.length s.2))
 clear H
 have ne:decide (((a:Nat):Int) < ((C.l0.length:Nat):Int))=true:=decide_eq_true (by omega)
 have y0:(w.alloc (.cells (stc (wd s.1) s.1.length s.2) 68)).cell? ⟨lg,0,none⟩=some (.slice C.A0 C.l0.length C.c0):=blk_cell HC.out.h.lk 0
 have y4:(w.alloc (.cells (stc (wd s.1) s.1.length s.2) 68)).cell? ⟨lg,4,none⟩=some (.map (some m)):=blk_cell HC.out.h.lk 4
 obtain ⟨es,ck,hm,hT⟩:=HC.out.h.mp
 have ql:=lookup_run hm hT a
 rw [hl] at ql
 simp only [Option.getD,Option.isSome] at ql
 have HM:=Aside0.mk hm
 have HT:=Aside0.mk hT
 have HL:=Aside0.mk hl
 clear hm hT hl
 have HC3:Aside0 (Cm w0 C lg m lb w (stc (wd s.1) s.1.length s.2) L (World.setRow ((w.alloc (.cells (stc (wd s.1) s.1.length s.2) 68)).alloc (.cells z34_ 68)) (w.heap.size+1) (stc (wd t.1) t.1.length t.2))):=⟨HC.out.call (below_setRow (below_alloc (Below.refl _ _) _) (by simp) _)⟩
 have HW:Aside0 ((World.setRow ((w.alloc (.cells (stc (wd s.1) s.1.length s.2) 68)).alloc (.cells z34_ 68)) (w.heap.size+1) (stc (wd t.1) t.1.length t.2)).heap[w.heap.size+1]? = some (.cells (stc (wd t.1) t.1.length t.2) 68 (0,0))):=⟨setRow_heap _ _ _ _ 68 (0,0) (new2 w _ _)⟩
 have q66:=fun (w:World)=>eq66 w (wd t.1) (wd s.1)
 rw [h1] at q66
 have n2:(((t.1.length:Nat):Int) == ((s.1.length:Nat):Int))=true:=by rw [h2]; exact beq_self_eq_true _
 have n3:(((t.2:Nat):Int) == ((s.2:Nat):Int))=false:=by simpa using fun e=>h3 (by omega)
 go_enter Tryd.func57,Tryd.ntmps57
 go_wp2_with (first
  | (go_at_call 53; (refine (must_yes 200 _).mono ?_); rintro e w2 ⟨rfl,rfl⟩)
  | (refine wpList_store_row rfl 68 _ _ rfl (w.heap.size+1) (stc (wd t.1) t.1.length t.2) (by first|rfl|simp) rfl 68 _ (new2 w _ _) (by rw [stc_size]; exact info68) (by rw [stc_size]; first|done|rfl) (stc_one _ _ _) ?_; generalize World.setRow ((w.alloc (.cells (stc (wd s.1) s.1.length s.2) 68)).alloc (.cells z34_ 68)) (w.heap.size+1) (stc (wd t.1) t.1.length t.2)=w3 at HC3 HW ⊢; clear y0 y4; have HC:=HC3; clear HC3; have v32:w3.cell? ⟨w.heap.size+1,32,none⟩=some (.int .i64 (t.1.length:Nat)):=(blk_cell HW.out 32).trans (stc_h _ _ _); have v33:w3.cell? ⟨w.heap.size+1,33,none⟩=some (.int .i64 (t.2:Nat)):=(blk_cell HW.out 33).trans (stc_r _ _ _); have x32:w3.cell? ⟨w.heap.size,32,none⟩=some (.int .i64 (s.1.length:Nat)):=(blk_cell HC.out.x 32).trans (stc_h _ _ _); have x33:w3.cell? ⟨w.heap.size,33,none⟩=some (.int .i64 (s.2:Nat)):=(blk_cell HC.out.x 33).trans (stc_r _ _ _))
  | (refine gated (by rfl) ?_; refine wpList_load66 rfl _ rfl (w.heap.size+1) rfl _ _ _ HW.out ?_)
  | (refine gated (by rfl) ?_; refine wpList_load66 rfl _ rfl w.heap.size rfl _ _ _ HC.out.x ?_)
  | (go_at_call 53; (refine (must_no 202 _).mono ?_); rintro e w2 ⟨rfl,rfl⟩))
 exact ⟨rfl,HC.out.k,rfl,HC.out.h⟩
set_option maxHeartbeats 8000000 in
set_option maxRecDepth 10000 in
theorem comes_old (w0:World) (C:Cv) (lg m lb:Nat) (L:Lk) (s:St) (a:Nat) (hs:Fine s) (w:World) (H:Holds w0 C lg m lb L w) (ha:a < C.l0.length) (hl:look a L.tab=some s) :
  Calls Tryd.prog 57 #[.pointer (some ⟨lg,0,none⟩),.int .i64 (a:Nat),stV s] w (cEnds w0 C lg m lb L w (.ok (L.lim s))):=by
 have HC:=Aside0.mk (Cm.new H (stc (wd s.1) s.1.length s.2))
 clear H
 have ne:decide (((a:Nat):Int) < ((C.l0.length:Nat):Int))=true:=decide_eq_true (by omega)
 have y0:(w.alloc (.cells (stc (wd s.1) s.1.length s.2) 68)).cell? ⟨lg,0,none⟩=some (.slice C.A0 C.l0.length C.c0):=blk_cell HC.out.h.lk 0
 have y4:(w.alloc (.cells (stc (wd s.1) s.1.length s.2) 68)).cell? ⟨lg,4,none⟩=some (.map (some m)):=blk_cell HC.out.h.lk 4
 obtain ⟨es,ck,hm,hT⟩:=HC.out.h.mp
 have ql:=lookup_run hm hT a
 rw [hl] at ql
 simp only [Option.getD,Option.isSome] at ql
 have HM:=Aside0.mk hm
 have HT:=Aside0.mk hT
 have HL:=Aside0.mk hl
 clear hm hT hl
 have HC3:Aside0 (Cm w0 C lg m lb w (stc (wd s.1) s.1.length s.2) L (World.setRow ((w.alloc (.cells (stc (wd s.1) s.1.length s.2) 68)).alloc (.cells z34_ 68)) (w.heap.size+1) (stc (wd s.1) s.1.length s.2))):=⟨HC.out.call (below_setRow (below_alloc (Below.refl _ _) _) (by simp) _)⟩
 have HW:Aside0 ((World.setRow ((w.alloc (.cells (stc (wd s.1) s.1.length s.2) 68)).alloc (.cells z34_ 68)) (w.heap.size+1) (stc (wd s.1) s.1.length s.2)).heap[w.heap.size+1]? = some (.cells (stc (wd s.1) s.1.length s.2) 68 (0,0))):=⟨setRow_heap _ _ _ _ 68 (0,0) (new2 w _ _)⟩
 have q66:=fun (w:World)=>eq66 w (wd s.1) (wd s.1)
 rw [(same_iff _ _).2 (fun _ _=>rfl)] at q66
 have n2:(((s.1.length:Nat):Int) == ((s.1.length:Nat):Int))=true:=beq_self_eq_true _
 have n3:(((s.2:Nat):Int) == ((s.2:Nat):Int))=true:=beq_self_eq_true _
 go_enter Tryd.func57,Tryd.ntmps57
 go_wp2_with (first
  | (go_at_call 53; (refine (must_yes 200 _).mono ?_); rintro e w2 ⟨rfl,rfl⟩)
  | (refine wpList_store_row rfl 68 _ _ rfl (w.heap.size+1) (stc (wd s.1) s.1.length s.2) (by first|rfl|simp) rfl 68 _ (new2 w _ _) (by rw [stc_size]; exact info68) (by rw [stc_size]; first|done|rfl) (stc_one _ _ _) ?_; generalize World.setRow ((w.alloc (.cells (stc (wd s.1) s.1.length s.2) 68)).alloc (.cells z34_ 68)) (w.heap.size+1) (stc (wd s.1) s.1.length s.2)=w3 at HC3 HW ⊢; clear y0 y4; have HC:=HC3; clear HC3; have v32:w3.cell? ⟨w.heap.size+1,32,none⟩=some (.int .i64 (s.1.length:Nat)):=(blk_cell HW.out 32).trans (stc_h _ _ _); have v33:w3.cell? ⟨w.heap.size+1,33,none⟩=some (.int .i64 (s.2:Nat)):=(blk_cell HW.out 33).trans (stc_r _ _ _); have x32:w3.cell? ⟨w.heap.size,32,none⟩=some (.int .i64 (s.1.length:Nat)):=(blk_cell HC.out.x 32).trans (stc_h _ _ _); have x33:w3.cell? ⟨w.heap.size,33,none⟩=some (.int .i64 (s.2:Nat)):=(blk_cell HC.out.x 33).trans (stc_r _ _ _))
  | (refine gated (by rfl) ?_; refine wpList_load66 rfl _ rfl (w.heap.size+1) rfl _ _ _ HW.out ?_)
  | (refine gated (by rfl) ?_; refine wpList_load66 rfl _ rfl w.heap.size rfl _ _ _ HC.out.x ?_)
  | (go_at_call 53; (refine (must_yes 202 _).mono ?_); rintro e w2 ⟨rfl,rfl⟩))
 refine start_ (n:=13) (S:=fun w'=>w'.cell? ⟨lg,8,none⟩=some (.int .i64 (L.stack:Nat))∧w'.cell? ⟨w.heap.size,32,none⟩=some (.int .i64 (s.1.length:Nat))) (ds:=[12]) #[false,false,false,false,false,false,false,false,false,false,false,false,false] (by kernel_rfl) rfl rfl ⟨(blk_cell HC.out.h.lk 8),((blk_cell HC.out.x 32).trans (stc_h _ _ _))⟩ (fun hHeld=>?_)
 have HC:=Aside0.mk HC.out.drew
 generalize World.drew w2=w2d at HC hHeld ⊢
 have fz:=blk_frozen HC.out.h.lk 8
 have yz:w2d.cell? ⟨lg,8,none⟩=some (.int .i64 (L.stack:Nat)):=blk_cell HC.out.h.lk 8
 refine pure_ (i:=0) (N:=some 73) (v:=?_) (a':=?_) (bl_ 13 1) rfl rfl (by kernel_rfl) (fun _ _ _ h=>h) (Or.inl ⟨by rfl,?_⟩) ?_ ?_
 rotate_left
 ·intro w'
  go_simp
  with_reducible rfl
 rotate_left
 ·simp only [Act.put,zA_,zB_,zC_,i64_w]
  rfl
 refine pure_ (i:=1) (N:=some 74) (v:=?_) (a':=?_) (bl_ 13 3) rfl rfl (by kernel_rfl) (fun _ _ _ h=>h) (Or.inl ⟨by rfl,?_⟩) ?_ ?_
 rotate_left
 ·intro w'
  go_simp
  with_reducible rfl
 rotate_left
 ·simp only [Act.put,zA_,zB_,zC_,i64_w]
  rfl
 refine pure_ (i:=2) (N:=some 75) (v:=?_) (a':=?_) (bl_ 13 7) rfl rfl (by kernel_rfl) (fun _ _ _ h=>h) (Or.inl ⟨by rfl,?_⟩) ?_ ?_
 rotate_left
 ·intro w'
  go_simp
  with_reducible rfl
 rotate_left
 ·simp only [Act.put,zA_,zB_,zC_,i64_w]
  rfl
 refine pure_ (i:=3) (N:=some 76) (v:=?_) (a':=?_) (bl_ 13 15) rfl rfl (by kernel_rfl) (fun _ _ _ h=>h) (Or.inl ⟨by rfl,?_⟩) ?_ ?_
 rotate_left
 ·intro w'
  go_simp
  with_reducible rfl
 rotate_left
 ·simp only [Act.put,zA_,zB_,zC_,i64_w]
  rfl
 refine pure_ (i:=4) (N:=some 77) (v:=?_) (a':=?_) (bl_ 13 31) rfl rfl (by kernel_rfl) (fun _ _ _ h=>h) (Or.inl ⟨by rfl,?_⟩) ?_ ?_
 rotate_left
 ·intro w'
  go_simp
  with_reducible rfl
 rotate_left
 ·simp only [Act.put,zA_,zB_,zC_,i64_w]
  rfl
 refine pure_ (i:=6) (N:=some 79) (v:=?_) (a':=?_) (bl_ 13 95) rfl rfl (by kernel_rfl) (fun _ _ _ h=>h) (Or.inl ⟨by rfl,?_⟩) ?_ ?_
 rotate_left
 ·intro w'
  go_simp
  with_reducible rfl
 rotate_left
 ·simp only [Act.put,zA_,zB_,zC_,i64_w]
  rfl
 refine take_ (i:=5) (N:=some 78) (v:=?_) (a':=?_) (bl_ 13 127) rfl rfl (by kernel_rfl) (fun _ _ _ h=>h) (Or.inl ⟨by rfl,?_⟩) hHeld ?_ ?_
 rotate_left
 ·rintro w' ⟨s0,s1⟩
  go_simp
  with_reducible rfl
 rotate_left
 ·simp only [Act.put,zA_,zB_,zC_,i64_w]
  rfl
 refine take_ (i:=7) (N:=some 80) (v:=?_) (a':=?_) (bl_ 13 255) rfl rfl (by kernel_rfl) (fun _ _ _ h=>h) (Or.inl ⟨by rfl,?_⟩) hHeld ?_ ?_
 rotate_left
 ·rintro w' ⟨s0,s1⟩
  go_simp
  with_reducible rfl
 rotate_left
 ·simp only [Act.put,zA_,zB_,zC_,i64_w]
  rfl
 refine pure_ (i:=8) (N:=some 81) (v:=?_) (a':=?_) (bl_ 13 511) rfl rfl (by kernel_rfl) (fun _ _ _ h=>h) (Or.inl ⟨by rfl,?_⟩) ?_ ?_
 rotate_left
 ·intro w'
  go_simp
  with_reducible rfl
 rotate_left
 ·simp only [Act.put,zA_,zB_,zC_,i64_w]
  rfl
 refine pure_ (i:=9) (N:=some 82) (v:=?_) (a':=?_) (bl_ 13 1023) rfl rfl (by kernel_rfl) (fun _ _ _ h=>h) (Or.inl ⟨by rfl,?_⟩) ?_ ?_
 rotate_left
 ·intro w'
  go_simp
  with_reducible rfl
 rotate_left
 ·simp only [Act.put,zA_,zB_,zC_,i64_w]
  rfl
 refine pure_ (i:=10) (N:=some 83) (v:=?_) (a':=?_) (bl_ 13 2047) rfl rfl (by kernel_rfl) (fun _ _ _ h=>h) (Or.inl ⟨by rfl,?_⟩) ?_ ?_
 rotate_left
 ·intro w'
  go_simp
  with_reducible rfl
 rotate_left
 ·simp only [Act.put,zA_,zB_,zC_,i64_w]
  rfl
 refine pure_ (i:=11) (N:=some 84) (v:=?_) (a':=?_) (bl_ 13 4095) rfl rfl (by kernel_rfl) (fun _ _ _ h=>h) (Or.inl ⟨by rfl,?_⟩) ?_ ?_
 rotate_left
 ·intro w'
  go_simp
  with_reducible rfl
 rotate_left
 ·simp only [Act.put,zA_,zB_,zC_,i64_w]
  rfl
 refine last_ (i:=12) (N:=none) (bl_ 13 8191) rfl rfl (by kernel_rfl) (by decide) (fun K hK=>?_)
 refine skip_ (w1:=w2d.setCell ⟨lg,8,none⟩ (.int .i64 (if L.stack < s.1.length then ((s.1.length:Nat):Int) else ((L.stack:Nat):Int)))) (by rfl) rfl (by go_simp) ?_
 refine hK.out _ _ ?_
 clear hK K
 refine done_ (by kernel_rfl) ?_
 have HC:=Aside0.mk (HC.out.set (L':={ L with stack:=max L.stack s.1.length }) 8 (.int .i64 (if L.stack < s.1.length then ((s.1.length:Nat):Int) else ((L.stack:Nat):Int))) (by rw [max_if]; rfl) rfl rfl)
 generalize w2d.setCell ⟨lg,8,none⟩ (.int .i64 (if L.stack < s.1.length then ((s.1.length:Nat):Int) else ((L.stack:Nat):Int)))=v4 at HC ⊢
 clear fz yz
 generalize (if L.stack < s.1.length then ((s.1.length:Nat):Int) else ((L.stack:Nat):Int))=q8
 obtain ⟨L2,hL2⟩:∃ L2:Lk,L2={ L with stack:=max L.stack s.1.length }:=⟨_,rfl⟩
 rw [← hL2] at HC
 have HL2:=Aside0.mk hL2
 clear hL2
 go_wp2_with fail
 refine start_ (n:=13) (S:=fun w'=>w'.cell? ⟨lg,9,none⟩=some (.int .i64 (L2.rounds:Nat))∧w'.cell? ⟨w.heap.size,33,none⟩=some (.int .i64 (s.2:Nat))) (ds:=[12]) #[false,false,false,false,false,false,false,false,false,false,false,false,false] (by kernel_rfl) rfl rfl ⟨(blk_cell HC.out.h.lk 9),((blk_cell HC.out.x 33).trans (stc_r _ _ _))⟩ (fun hHeld=>?_)
 have HC:=Aside0.mk HC.out.drew
 generalize World.drew v4=v4d at HC hHeld ⊢
 have fz:=blk_frozen HC.out.h.lk 9
 have yz:v4d.cell? ⟨lg,9,none⟩=some (.int .i64 (L2.rounds:Nat)):=blk_cell HC.out.h.lk 9
 refine pure_ (i:=0) (N:=some 85) (v:=?_) (a':=?_) (bl_ 13 1) rfl rfl (by kernel_rfl) (fun _ _ _ h=>h) (Or.inl ⟨by rfl,?_⟩) ?_ ?_
 rotate_left
 ·intro w'
  go_simp
  with_reducible rfl
 rotate_left
 ·simp only [Act.put,zA_,zB_,zC_,i64_w]
  rfl
 refine pure_ (i:=1) (N:=some 86) (v:=?_) (a':=?_) (bl_ 13 3) rfl rfl (by kernel_rfl) (fun _ _ _ h=>h) (Or.inl ⟨by rfl,?_⟩) ?_ ?_
 rotate_left
 ·intro w'
  go_simp
  with_reducible rfl
 rotate_left
 ·simp only [Act.put,zA_,zB_,zC_,i64_w]
  rfl
 refine pure_ (i:=2) (N:=some 87) (v:=?_) (a':=?_) (bl_ 13 7) rfl rfl (by kernel_rfl) (fun _ _ _ h=>h) (Or.inl ⟨by rfl,?_⟩) ?_ ?_
 rotate_left
 ·intro w'
  go_simp
  with_reducible rfl
 rotate_left
 ·simp only [Act.put,zA_,zB_,zC_,i64_w]
  rfl
 refine pure_ (i:=3) (N:=some 88) (v:=?_) (a':=?_) (bl_ 13 15) rfl rfl (by kernel_rfl) (fun _ _ _ h=>h) (Or.inl ⟨by rfl,?_⟩) ?_ ?_
 rotate_left
 ·intro w'
  go_simp
  with_reducible rfl
 rotate_left
 ·simp only [Act.put,zA_,zB_,zC_,i64_w]
  rfl
 refine pure_ (i:=4) (N:=some 89) (v:=?_) (a':=?_) (bl_ 13 31) rfl rfl (by kernel_rfl) (fun _ _ _ h=>h) (Or.inl ⟨by rfl,?_⟩) ?_ ?_
 rotate_left
 ·intro w'
  go_simp
  with_reducible rfl
 rotate_left
 ·simp only [Act.put,zA_,zB_,zC_,i64_w]
  rfl
 refine pure_ (i:=6) (N:=some 91) (v:=?_) (a':=?_) (bl_ 13 95) rfl rfl (by kernel_rfl) (fun _ _ _ h=>h) (Or.inl ⟨by rfl,?_⟩) ?_ ?_
 rotate_left
 ·intro w'
  go_simp
  with_reducible rfl
 rotate_left
 ·simp only [Act.put,zA_,zB_,zC_,i64_w]
  rfl
 refine take_ (i:=5) (N:=some 90) (v:=?_) (a':=?_) (bl_ 13 127) rfl rfl (by kernel_rfl) (fun _ _ _ h=>h) (Or.inl ⟨by rfl,?_⟩) hHeld ?_ ?_
 rotate_left
 ·rintro w' ⟨s0,s1⟩
  go_simp
  with_reducible rfl
 rotate_left
 ·simp only [Act.put,zA_,zB_,zC_,i64_w]
  rfl
 refine take_ (i:=7) (N:=some 92) (v:=?_) (a':=?_) (bl_ 13 255) rfl rfl (by kernel_rfl) (fun _ _ _ h=>h) (Or.inl ⟨by rfl,?_⟩) hHeld ?_ ?_
 rotate_left
 ·rintro w' ⟨s0,s1⟩
  go_simp
  with_reducible rfl
 rotate_left
 ·simp only [Act.put,zA_,zB_,zC_,i64_w]
  rfl
 refine pure_ (i:=8) (N:=some 93) (v:=?_) (a':=?_) (bl_ 13 511) rfl rfl (by kernel_rfl) (fun _ _ _ h=>h) (Or.inl ⟨by rfl,?_⟩) ?_ ?_
 rotate_left
 ·intro w'
  go_simp
  with_reducible rfl
 rotate_left
 ·simp only [Act.put,zA_,zB_,zC_,i64_w]
  rfl
 refine pure_ (i:=9) (N:=some 94) (v:=?_) (a':=?_) (bl_ 13 1023) rfl rfl (by kernel_rfl) (fun _ _ _ h=>h) (Or.inl ⟨by rfl,?_⟩) ?_ ?_
 rotate_left
 ·intro w'
  go_simp
  with_reducible rfl
 rotate_left
 ·simp only [Act.put,zA_,zB_,zC_,i64_w]
  rfl
 refine pure_ (i:=10) (N:=some 95) (v:=?_) (a':=?_) (bl_ 13 2047) rfl rfl (by kernel_rfl) (fun _ _ _ h=>h) (Or.inl ⟨by rfl,?_⟩) ?_ ?_
 rotate_left
 ·intro w'
  go_simp
  with_reducible rfl
 rotate_left
 ·simp only [Act.put,zA_,zB_,zC_,i64_w]
  rfl
 refine pure_ (i:=11) (N:=some 96) (v:=?_) (a':=?_) (bl_ 13 4095) rfl rfl (by kernel_rfl) (fun _ _ _ h=>h) (Or.inl ⟨by rfl,?_⟩) ?_ ?_
 rotate_left
 ·intro w'
  go_simp
  with_reducible rfl
 rotate_left
 ·simp only [Act.put,zA_,zB_,zC_,i64_w]
  rfl
 refine last_ (i:=12) (N:=none) (bl_ 13 8191) rfl rfl (by kernel_rfl) (by decide) (fun K hK=>?_)
 refine skip_ (w1:=v4d.setCell ⟨lg,9,none⟩ (.int .i64 (if L2.rounds < s.2 then ((s.2:Nat):Int) else ((L2.rounds:Nat):Int)))) (by rfl) rfl (by go_simp) ?_
 refine hK.out _ _ ?_
 clear hK K
 refine done_ (by kernel_rfl) ?_
 have HC:=Aside0.mk (HC.out.set (L':={ L2 with rounds:=max L2.rounds s.2 }) 9 (.int .i64 (if L2.rounds < s.2 then ((s.2:Nat):Int) else ((L2.rounds:Nat):Int))) (by rw [max_if]; rfl) rfl rfl)
 generalize v4d.setCell ⟨lg,9,none⟩ (.int .i64 (if L2.rounds < s.2 then ((s.2:Nat):Int) else ((L2.rounds:Nat):Int)))=v5 at HC ⊢
 clear fz yz
 generalize (if L2.rounds < s.2 then ((s.2:Nat):Int) else ((L2.rounds:Nat):Int))=q9
 rw [HL2.out] at HC
 go_wp2_with fail
 go_end0
 exact ⟨HC.out.k,rfl,HC.out.h⟩
set_option maxHeartbeats 8000000 in
set_option maxRecDepth 10000 in
theorem comes_new (w0:World) (C:Cv) (lg m lb:Nat) (L:Lk) (s:St) (a:Nat) (hs:Fine s) (w:World) (H:Holds w0 C lg m lb L w) (ha:a < C.l0.length) (hl:look a L.tab=none) :
  Calls Tryd.prog 57 #[.pointer (some ⟨lg,0,none⟩),.int .i64 (a:Nat),stV s] w (cEnds w0 C lg m lb L w (.ok ((L.put a s).lim s))):=by
 have HC:=Aside0.mk (Cm.new H (stc (wd s.1) s.1.length s.2))
 clear H
 have ne:decide (((a:Nat):Int) < ((C.l0.length:Nat):Int))=true:=decide_eq_true (by omega)
 have y0:(w.alloc (.cells (stc (wd s.1) s.1.length s.2) 68)).cell? ⟨lg,0,none⟩=some (.slice C.A0 C.l0.length C.c0):=blk_cell HC.out.h.lk 0
 have y4:(w.alloc (.cells (stc (wd s.1) s.1.length s.2) 68)).cell? ⟨lg,4,none⟩=some (.map (some m)):=blk_cell HC.out.h.lk 4
 obtain ⟨es,ck,hm,hT⟩:=HC.out.h.mp
 have ql:=lookup_run hm hT a
 rw [hl] at ql
 obtain ⟨t,ht⟩:∃ t:St,t=([],0):=⟨_,rfl⟩
 rw [← ht] at ql
 clear ht
 simp only [Option.getD,Option.isSome] at ql
 have HM:=Aside0.mk hm
 have HT:=Aside0.mk hT
 have HL:=Aside0.mk hl
 clear hm hT hl
 have HC3:Aside0 (Cm w0 C lg m lb w (stc (wd s.1) s.1.length s.2) L (World.setRow ((w.alloc (.cells (stc (wd s.1) s.1.length s.2) 68)).alloc (.cells z34_ 68)) (w.heap.size+1) (stc (wd t.1) t.1.length t.2))):=⟨HC.out.call (below_setRow (below_alloc (Below.refl _ _) _) (by simp) _)⟩
 have HW:Aside0 ((World.setRow ((w.alloc (.cells (stc (wd s.1) s.1.length s.2) 68)).alloc (.cells z34_ 68)) (w.heap.size+1) (stc (wd t.1) t.1.length t.2)).heap[w.heap.size+1]? = some (.cells (stc (wd t.1) t.1.length t.2) 68 (0,0))):=⟨setRow_heap _ _ _ _ 68 (0,0) (new2 w _ _)⟩
 go_enter Tryd.func57,Tryd.ntmps57
 go_wp2_with (first
  | (go_at_call 53; (refine (must_yes 200 _).mono ?_); rintro e w2 ⟨rfl,rfl⟩)
  | (refine wpList_store_row rfl 68 _ _ rfl (w.heap.size+1) (stc (wd t.1) t.1.length t.2) (by first|rfl|simp) rfl 68 _ (new2 w _ _) (by rw [stc_size]; exact info68) (by rw [stc_size]; first|done|rfl) (stc_one _ _ _) ?_; generalize World.setRow ((w.alloc (.cells (stc (wd s.1) s.1.length s.2) 68)).alloc (.cells z34_ 68)) (w.heap.size+1) (stc (wd t.1) t.1.length t.2)=w3 at HC3 HW ⊢; clear y0 y4; have HC:=HC3; clear HC3; have x32:w3.cell? ⟨w.heap.size,32,none⟩=some (.int .i64 (s.1.length:Nat)):=(blk_cell HC.out.x 32).trans (stc_h _ _ _); have x33:w3.cell? ⟨w.heap.size,33,none⟩=some (.int .i64 (s.2:Nat)):=(blk_cell HC.out.x 33).trans (stc_r _ _ _))
  | (go_at_call 53; (refine (must_yes 202 _).mono ?_); rintro e w2 ⟨rfl,rfl⟩))
 refine start_ (n:=7) (S:=fun w'=>w'.cell? ⟨lg,4,none⟩=some (.map (some m))) (ds:=[6]) #[false,false,false,false,false,false,false] (by kernel_rfl) rfl rfl ((blk_cell HC.out.h.lk 4)) (fun hHeld=>?_)
 have HC:=Aside0.mk HC.out.drew
 generalize World.drew w2=u0 at HC hHeld ⊢
 obtain ⟨es4,ck4,hm4,hT4⟩:=HC.out.h.mp
 obtain ⟨qu,hT5⟩:=update_run hm4 hT4 a s HL.out
 refine pure_ (i:=0) (N:=some 52) (v:=?_) (a':=?_) (bl_ 7 1) rfl rfl (by kernel_rfl) (fun _ _ _ h=>h) (Or.inl ⟨by rfl,?_⟩) ?_ ?_
 rotate_left
 ·intro w'
  go_simp
  with_reducible rfl
 rotate_left
 ·simp only [Act.put,zA_,zB_,zC_,i64_w]
  rfl
 refine pure_ (i:=1) (N:=some 53) (v:=?_) (a':=?_) (bl_ 7 3) rfl rfl (by kernel_rfl) (fun _ _ _ h=>h) (Or.inl ⟨by rfl,?_⟩) ?_ ?_
 rotate_left
 ·intro w'
  go_simp
  with_reducible rfl
 rotate_left
 ·simp only [Act.put,zA_,zB_,zC_,i64_w]
  rfl
 refine pure_ (i:=2) (N:=some 54) (v:=?_) (a':=?_) (bl_ 7 7) rfl rfl (by kernel_rfl) (fun _ _ _ h=>h) (Or.inl ⟨by rfl,?_⟩) ?_ ?_
 rotate_left
 ·intro w'
  go_simp
  with_reducible rfl
 rotate_left
 ·simp only [Act.put,zA_,zB_,zC_,i64_w]
  rfl
 refine pure_ (i:=4) (N:=some 56) (v:=?_) (a':=?_) (bl_ 7 23) rfl rfl (by kernel_rfl) (fun _ _ _ h=>h) (Or.inl ⟨by rfl,?_⟩) ?_ ?_
 rotate_left
 ·intro w'
  go_simp
  with_reducible rfl
 rotate_left
 ·simp only [Act.put,zA_,zB_,zC_,i64_w]
  rfl
 refine take_ (i:=3) (N:=some 55) (v:=?_) (a':=?_) (bl_ 7 31) rfl rfl (by kernel_rfl) (fun _ _ _ h=>h) (Or.inl ⟨by rfl,?_⟩) hHeld ?_ ?_
 rotate_left
 ·intro w' s0
  go_simp
  with_reducible rfl
 rotate_left
 ·simp only [Act.put,zA_,zB_,zC_,i64_w]
  rfl
 refine one_ (i:=5) (N:=some 57) (bl_ 7 63) rfl rfl (by kernel_rfl) (by decide) (fun K hK=>?_)
 refine rowL_ 68 (.tmp 5) (by rfl) rfl rfl w.heap.size rfl 68 (stc (wd s.1) s.1.length s.2) (0,0) _ HC.out.x Tryd.underlying68 rfl (by rw [stc_size]; exact info68) ?_
 refine hK.out _ _ (hHeld) (fun hHeld=>?_)
 clear hK K
 refine norm_ (a':=?_) ?_ ?_
 rotate_left
 ·show Act.put _ (some 57) _=_
  simp only [Act.put,zA_,zB_,zC_,i64_w]
  rfl
 refine last_ (i:=6) (N:=none) (bl_ 7 127) rfl rfl (by kernel_rfl) (by decide) (fun K hK=>?_)
 refine skip_ (w1:=setB u0 m (.map (es4.push ⟨.int .i64 (a:Nat),stV s,ck4⟩) (ck4+1))) (by rfl) rfl (by go_simp) ?_
 refine hK.out _ _ ?_
 clear hK K
 refine done_ (by kernel_rfl) ?_
 have HC:=Aside0.mk (HC.out.setMap (es:=es4.push ⟨.int .i64 (a:Nat),stV s,ck4⟩) (clock:=ck4+1) hT5)
 clear qu hT5 hT4 hm4
 generalize setB u0 m (.map (es4.push ⟨.int .i64 (a:Nat),stV s,ck4⟩) (ck4+1))=u1 at HC ⊢
 have n1:lg≠lb:=HC.out.h.ne.2.1
 have n2:lb≠lg:=n1.symm
 have y5:u1.cell? ⟨lg,5,none⟩=some (.slice (some ⟨lb,0,none⟩) C.l0.length C.l0.length):=blk_cell HC.out.h.lk 5
 have y6:u1.cell? ⟨lg,6,none⟩=some (.int .i64 (L.at_:Nat)):=blk_cell HC.out.h.lk 6
 have f6:=blk_frozen HC.out.h.lk 6
 have fa:=blk_frozen HC.out.h.lf a
 have hal:a < L.left.length:=by have:=HC.out.h.ln; simp only at this; omega
 have ya:u1.cell? ⟨lb,a,none⟩=some (.bool L.left[a]):=(blk_cell HC.out.h.lf a).trans (by simp [hal])
 have eM:(if a < L.at_ then ((a:Nat):Int) else ((L.at_:Nat):Int))=((min L.at_ a:Nat):Int):=by split<;>omega
 go_wp2_with fail
 have HC:=Aside0.mk ((HC.out.setLeft a true).set (L':=L.put a s) 6 (.int .i64 ((min L.at_ a:Nat):Int)) rfl rfl rfl)
 generalize (u1.setCell ⟨lb,a,none⟩ (.bool true)).setCell ⟨lg,6,none⟩ (.int .i64 ((min L.at_ a:Nat):Int))=u3 at HC ⊢
 clear y5 y6 f6 fa ya eM
 refine start_ (n:=13) (S:=fun w'=>w'.cell? ⟨lg,8,none⟩=some (.int .i64 ((L.put a s).stack:Nat))∧w'.cell? ⟨w.heap.size,32,none⟩=some (.int .i64 (s.1.length:Nat))) (ds:=[12]) #[false,false,false,false,false,false,false,false,false,false,false,false,false] (by kernel_rfl) rfl rfl ⟨(blk_cell HC.out.h.lk 8),((blk_cell HC.out.x 32).trans (stc_h _ _ _))⟩ (fun hHeld=>?_)
 have HC:=Aside0.mk HC.out.drew
 generalize World.drew u3=u3d at HC hHeld ⊢
 have fz:=blk_frozen HC.out.h.lk 8
 have yz:u3d.cell? ⟨lg,8,none⟩=some (.int .i64 ((L.put a s).stack:Nat)):=blk_cell HC.out.h.lk 8
 refine pure_ (i:=0) (N:=some 73) (v:=?_) (a':=?_) (bl_ 13 1) rfl rfl (by kernel_rfl) (fun _ _ _ h=>h) (Or.inl ⟨by rfl,?_⟩) ?_ ?_
 rotate_left
 ·intro w'
  go_simp
  with_reducible rfl
 rotate_left
 ·simp only [Act.put,zA_,zB_,zC_,i64_w]
  rfl
 refine pure_ (i:=1) (N:=some 74) (v:=?_) (a':=?_) (bl_ 13 3) rfl rfl (by kernel_rfl) (fun _ _ _ h=>h) (Or.inl ⟨by rfl,?_⟩) ?_ ?_
 rotate_left
 ·intro w'
  go_simp
  with_reducible rfl
 rotate_left
 ·simp only [Act.put,zA_,zB_,zC_,i64_w]
  rfl
 refine pure_ (i:=2) (N:=some 75) (v:=?_) (a':=?_) (bl_ 13 7) rfl rfl (by kernel_rfl) (fun _ _ _ h=>h) (Or.inl ⟨by rfl,?_⟩) ?_ ?_
 rotate_left
 ·intro w'
  go_simp
  with_reducible rfl
 rotate_left
 ·simp only [Act.put,zA_,zB_,zC_,i64_w]
  rfl
 refine pure_ (i:=3) (N:=some 76) (v:=?_) (a':=?_) (bl_ 13 15) rfl rfl (by kernel_rfl) (fun _ _ _ h=>h) (Or.inl ⟨by rfl,?_⟩) ?_ ?_
 rotate_left
 ·intro w'
  go_simp
  with_reducible rfl
 rotate_left
 ·simp only [Act.put,zA_,zB_,zC_,i64_w]
  rfl
 refine pure_ (i:=4) (N:=some 77) (v:=?_) (a':=?_) (bl_ 13 31) rfl rfl (by kernel_rfl) (fun _ _ _ h=>h) (Or.inl ⟨by rfl,?_⟩) ?_ ?_
 rotate_left
 ·intro w'
  go_simp
  with_reducible rfl
 rotate_left
 ·simp only [Act.put,zA_,zB_,zC_,i64_w]
  rfl
 refine pure_ (i:=6) (N:=some 79) (v:=?_) (a':=?_) (bl_ 13 95) rfl rfl (by kernel_rfl) (fun _ _ _ h=>h) (Or.inl ⟨by rfl,?_⟩) ?_ ?_
 rotate_left
 ·intro w'
  go_simp
  with_reducible rfl
 rotate_left
 ·simp only [Act.put,zA_,zB_,zC_,i64_w]
  rfl
 refine take_ (i:=5) (N:=some 78) (v:=?_) (a':=?_) (bl_ 13 127) rfl rfl (by kernel_rfl) (fun _ _ _ h=>h) (Or.inl ⟨by rfl,?_⟩) hHeld ?_ ?_
 rotate_left
 ·rintro w' ⟨s0,s1⟩
  go_simp
  with_reducible rfl
 rotate_left
 ·simp only [Act.put,zA_,zB_,zC_,i64_w]
  rfl
 refine take_ (i:=7) (N:=some 80) (v:=?_) (a':=?_) (bl_ 13 255) rfl rfl (by kernel_rfl) (fun _ _ _ h=>h) (Or.inl ⟨by rfl,?_⟩) hHeld ?_ ?_
 rotate_left
 ·rintro w' ⟨s0,s1⟩
  go_simp
  with_reducible rfl
 rotate_left
 ·simp only [Act.put,zA_,zB_,zC_,i64_w]
  rfl
 refine pure_ (i:=8) (N:=some 81) (v:=?_) (a':=?_) (bl_ 13 511) rfl rfl (by kernel_rfl) (fun _ _ _ h=>h) (Or.inl ⟨by rfl,?_⟩) ?_ ?_
 rotate_left
 ·intro w'
  go_simp
  with_reducible rfl
 rotate_left
 ·simp only [Act.put,zA_,zB_,zC_,i64_w]
  rfl
 refine pure_ (i:=9) (N:=some 82) (v:=?_) (a':=?_) (bl_ 13 1023) rfl rfl (by kernel_rfl) (fun _ _ _ h=>h) (Or.inl ⟨by rfl,?_⟩) ?_ ?_
 rotate_left
 ·intro w'
  go_simp
  with_reducible rfl
 rotate_left
 ·simp only [Act.put,zA_,zB_,zC_,i64_w]
  rfl
 refine pure_ (i:=10) (N:=some 83) (v:=?_) (a':=?_) (bl_ 13 2047) rfl rfl (by kernel_rfl) (fun _ _ _ h=>h) (Or.inl ⟨by rfl,?_⟩) ?_ ?_
 rotate_left
 ·intro w'
  go_simp
  with_reducible rfl
 rotate_left
 ·simp only [Act.put,zA_,zB_,zC_,i64_w]
  rfl
 refine pure_ (i:=11) (N:=some 84) (v:=?_) (a':=?_) (bl_ 13 4095) rfl rfl (by kernel_rfl) (fun _ _ _ h=>h) (Or.inl ⟨by rfl,?_⟩) ?_ ?_
 rotate_left
 ·intro w'
  go_simp
  with_reducible rfl
 rotate_left
 ·simp only [Act.put,zA_,zB_,zC_,i64_w]
  rfl
 refine last_ (i:=12) (N:=none) (bl_ 13 8191) rfl rfl (by kernel_rfl) (by decide) (fun K hK=>?_)
 refine skip_ (w1:=u3d.setCell ⟨lg,8,none⟩ (.int .i64 (if (L.put a s).stack < s.1.length then ((s.1.length:Nat):Int) else (((L.put a s).stack:Nat):Int)))) (by rfl) rfl (by go_simp) ?_
 refine hK.out _ _ ?_
 clear hK K
 refine done_ (by kernel_rfl) ?_
 have HC:=Aside0.mk (HC.out.set (L':={ (L.put a s) with stack:=max (L.put a s).stack s.1.length }) 8 (.int .i64 (if (L.put a s).stack < s.1.length then ((s.1.length:Nat):Int) else (((L.put a s).stack:Nat):Int))) (by rw [max_if]; rfl) rfl rfl)
 generalize u3d.setCell ⟨lg,8,none⟩ (.int .i64 (if (L.put a s).stack < s.1.length then ((s.1.length:Nat):Int) else (((L.put a s).stack:Nat):Int)))=v4 at HC ⊢
 clear fz yz
 generalize (if (L.put a s).stack < s.1.length then ((s.1.length:Nat):Int) else (((L.put a s).stack:Nat):Int))=q8
 obtain ⟨L2,hL2⟩:∃ L2:Lk,L2={ (L.put a s) with stack:=max (L.put a s).stack s.1.length }:=⟨_,rfl⟩
 rw [← hL2] at HC
 have HL2:=Aside0.mk hL2
 clear hL2
 go_wp2_with fail
 refine start_ (n:=13) (S:=fun w'=>w'.cell? ⟨lg,9,none⟩=some (.int .i64 (L2.rounds:Nat))∧w'.cell? ⟨w.heap.size,33,none⟩=some (.int .i64 (s.2:Nat))) (ds:=[12]) #[false,false,false,false,false,false,false,false,false,false,false,false,false] (by kernel_rfl) rfl rfl ⟨(blk_cell HC.out.h.lk 9),((blk_cell HC.out.x 33).trans (stc_r _ _ _))⟩ (fun hHeld=>?_)
 have HC:=Aside0.mk HC.out.drew
 generalize World.drew v4=v4d at HC hHeld ⊢
 have fz:=blk_frozen HC.out.h.lk 9
 have yz:v4d.cell? ⟨lg,9,none⟩=some (.int .i64 (L2.rounds:Nat)):=blk_cell HC.out.h.lk 9
 refine pure_ (i:=0) (N:=some 85) (v:=?_) (a':=?_) (bl_ 13 1) rfl rfl (by kernel_rfl) (fun _ _ _ h=>h) (Or.inl ⟨by rfl,?_⟩) ?_ ?_
 rotate_left
 ·intro w'
  go_simp
  with_reducible rfl
 rotate_left
 ·simp only [Act.put,zA_,zB_,zC_,i64_w]
  rfl
 refine pure_ (i:=1) (N:=some 86) (v:=?_) (a':=?_) (bl_ 13 3) rfl rfl (by kernel_rfl) (fun _ _ _ h=>h) (Or.inl ⟨by rfl,?_⟩) ?_ ?_
 rotate_left
 ·intro w'
  go_simp
  with_reducible rfl
 rotate_left
 ·simp only [Act.put,zA_,zB_,zC_,i64_w]
  rfl
 refine pure_ (i:=2) (N:=some 87) (v:=?_) (a':=?_) (bl_ 13 7) rfl rfl (by kernel_rfl) (fun _ _ _ h=>h) (Or.inl ⟨by rfl,?_⟩) ?_ ?_
 rotate_left
 ·intro w'
  go_simp
  with_reducible rfl
 rotate_left
 ·simp only [Act.put,zA_,zB_,zC_,i64_w]
  rfl
 refine pure_ (i:=3) (N:=some 88) (v:=?_) (a':=?_) (bl_ 13 15) rfl rfl (by kernel_rfl) (fun _ _ _ h=>h) (Or.inl ⟨by rfl,?_⟩) ?_ ?_
 rotate_left
 ·intro w'
  go_simp
  with_reducible rfl
 rotate_left
 ·simp only [Act.put,zA_,zB_,zC_,i64_w]
  rfl
 refine pure_ (i:=4) (N:=some 89) (v:=?_) (a':=?_) (bl_ 13 31) rfl rfl (by kernel_rfl) (fun _ _ _ h=>h) (Or.inl ⟨by rfl,?_⟩) ?_ ?_
 rotate_left
 ·intro w'
  go_simp
  with_reducible rfl
 rotate_left
 ·simp only [Act.put,zA_,zB_,zC_,i64_w]
  rfl
 refine pure_ (i:=6) (N:=some 91) (v:=?_) (a':=?_) (bl_ 13 95) rfl rfl (by kernel_rfl) (fun _ _ _ h=>h) (Or.inl ⟨by rfl,?_⟩) ?_ ?_
 rotate_left
 ·intro w'
  go_simp
  with_reducible rfl
 rotate_left
 ·simp only [Act.put,zA_,zB_,zC_,i64_w]
  rfl
 refine take_ (i:=5) (N:=some 90) (v:=?_) (a':=?_) (bl_ 13 127) rfl rfl (by kernel_rfl) (fun _ _ _ h=>h) (Or.inl ⟨by rfl,?_⟩) hHeld ?_ ?_
 rotate_left
 ·rintro w' ⟨s0,s1⟩
  go_simp
  with_reducible rfl
 rotate_left
 ·simp only [Act.put,zA_,zB_,zC_,i64_w]
  rfl
 refine take_ (i:=7) (N:=some 92) (v:=?_) (a':=?_) (bl_ 13 255) rfl rfl (by kernel_rfl) (fun _ _ _ h=>h) (Or.inl ⟨by rfl,?_⟩) hHeld ?_ ?_
 rotate_left
 ·rintro w' ⟨s0,s1⟩
  go_simp
  with_reducible rfl
 rotate_left
 ·simp only [Act.put,zA_,zB_,zC_,i64_w]
  rfl
 refine pure_ (i:=8) (N:=some 93) (v:=?_) (a':=?_) (bl_ 13 511) rfl rfl (by kernel_rfl) (fun _ _ _ h=>h) (Or.inl ⟨by rfl,?_⟩) ?_ ?_
 rotate_left
 ·intro w'
  go_simp
  with_reducible rfl
 rotate_left
 ·simp only [Act.put,zA_,zB_,zC_,i64_w]
  rfl
 refine pure_ (i:=9) (N:=some 94) (v:=?_) (a':=?_) (bl_ 13 1023) rfl rfl (by kernel_rfl) (fun _ _ _ h=>h) (Or.inl ⟨by rfl,?_⟩) ?_ ?_
 rotate_left
 ·intro w'
  go_simp
  with_reducible rfl
 rotate_left
 ·simp only [Act.put,zA_,zB_,zC_,i64_w]
  rfl
 refine pure_ (i:=10) (N:=some 95) (v:=?_) (a':=?_) (bl_ 13 2047) rfl rfl (by kernel_rfl) (fun _ _ _ h=>h) (Or.inl ⟨by rfl,?_⟩) ?_ ?_
 rotate_left
 ·intro w'
  go_simp
  with_reducible rfl
 rotate_left
 ·simp only [Act.put,zA_,zB_,zC_,i64_w]
  rfl
 refine pure_ (i:=11) (N:=some 96) (v:=?_) (a':=?_) (bl_ 13 4095) rfl rfl (by kernel_rfl) (fun _ _ _ h=>h) (Or.inl ⟨by rfl,?_⟩) ?_ ?_
 rotate_left
 ·intro w'
  go_simp
  with_reducible rfl
 rotate_left
 ·simp only [Act.put,zA_,zB_,zC_,i64_w]
  rfl
 refine last_ (i:=12) (N:=none) (bl_ 13 8191) rfl rfl (by kernel_rfl) (by decide) (fun K hK=>?_)
 refine skip_ (w1:=v4d.setCell ⟨lg,9,none⟩ (.int .i64 (if L2.rounds < s.2 then ((s.2:Nat):Int) else ((L2.rounds:Nat):Int)))) (by rfl) rfl (by go_simp) ?_
 refine hK.out _ _ ?_
 clear hK K
 refine done_ (by kernel_rfl) ?_
 have HC:=Aside0.mk (HC.out.set (L':={ L2 with rounds:=max L2.rounds s.2 }) 9 (.int .i64 (if L2.rounds < s.2 then ((s.2:Nat):Int) else ((L2.rounds:Nat):Int))) (by rw [max_if]; rfl) rfl rfl)
 generalize v4d.setCell ⟨lg,9,none⟩ (.int .i64 (if L2.rounds < s.2 then ((s.2:Nat):Int) else ((L2.rounds:Nat):Int)))=v5 at HC ⊢
 clear fz yz
 generalize (if L2.rounds < s.2 then ((s.2:Nat):Int) else ((L2.rounds:Nat):Int))=q9
 rw [HL2.out] at HC
 go_wp2_with fail
 go_end0
 exact ⟨HC.out.k,rfl,HC.out.h⟩
theorem comes_calls (w0:World) (C:Cv) (lg m lb:Nat) (L:Lk) (s:St) (a:Nat) (hs:Fine s) (hT:∀ b t,look b L.tab=some t→Fine t) (w:World) (H:Holds w0 C lg m lb L w) :
  Calls Tryd.prog 57 #[.pointer (some ⟨lg,0,none⟩),.int .i64 (a:Nat),stV s] w (cEnds w0 C lg m lb L w (comes C.l0.length L a s)):=by
 unfold comes
 by_cases ha:a < C.l0.length
 ·rw [if_pos ha]
  cases hl:look a L.tab with
  | none=>exact comes_new w0 C lg m lb L s a hs w H ha hl
  | some t =>
   simp only
   have ht:=hT a t hl
   by_cases e:t=s
   ·subst e
    rw [if_pos rfl]
    exact comes_old w0 C lg m lb L t a hs w H ha hl
   ·rw [if_neg e]
    cases h1:same (wd t.1) (wd s.1) with
    | false=>exact comes_202a w0 C lg m lb L s a hs w H ha t hl h1
    | true =>
     by_cases h2:t.1.length=s.1.length
     ·by_cases h3:t.2=s.2
      ·exfalso
       apply e
       have:=wd_inj t.1 s.1 h2 ht.2 ht.lt hs.lt ((same_iff _ _).1 h1)
       exact Prod.ext this h3
      ·exact comes_202c w0 C lg m lb L s a hs w H ha t hl h1 h2 h3
     ·exact comes_202b w0 C lg m lb L s a hs w H ha t hl h1 h2
 ·rw [if_neg ha]
  exact comes_200 w0 C lg m lb L s a hs w H ha
end Go.Proofs.YtcmdjpolgaejoaaDoor.Gd
