/- The laws GuardLooks, GuardWords of the program hold, as their cards say: texts put together by a program, 27 of 38. -/
import Derived.Test.YtcmdjpolgaejoaaDoorPB1
import Derived.Test.YtcmdjpolgaejoaaDoorPB12
import Derived.Test.YtcmdjpolgaejoaaDoorPB21
import Derived.Test.YtcmdjpolgaejoaaDoorPB22
import Derived.Test.YtcmdjpolgaejoaaDoorPB25
import Derived.Laws.BitsLemmas
import Derived.Defers
import Derived.Recover
import Derived.Laws.MakeOwn
namespace Go.Proofs.YtcmdjpolgaejoaaDoor.PackBits
open Go.RowKit Go.Proofs.YtcmdjpolgaejoaaDoorW.PrintWords Go.Proofs.YtcmdjpolgaejoaaDoorW.PrintMore
theorem p64:(2:Int) ^ 64=18446744073709551616:=by decide
theorem wrap_u64 (n:Int):IntKind.u64.wrap n=n%18446744073709551616:=by simp [IntKind.wrap,IntKind.bits,IntKind.signed]
theorem u64_id {n:Int} (h0:0≤n) (h:n < 18446744073709551616):IntKind.u64.wrap n=n:=by rw [wrap_u64]; omega
theorem w64_id {n:Int} (h0:-9223372036854775808≤n) (h:n < 9223372036854775808):wrap64 n=n:=by unfold wrap64; omega
theorem mask_u64 {x:Int} (i:Nat) (hi:i≤64) (h0:0≤x) (h:x < 18446744073709551616):bits .and .u64 x (2 ^ i - 1)=x%2 ^ i :=
 bits_mask .u64 64 (Nat.le_refl _) (fun n h0 h1=>by rw [wrap_u64]; have:=p64; omega) i hi x h0 (by have:=p64; omega)
end Go.Proofs.YtcmdjpolgaejoaaDoor.PackBits
namespace Go.Proofs.YtcmdjpolgaejoaaDoor.Gd
open Go.RowKit Go.Proofs.YtcmdjpolgaejoaaDoorW.PrintWords Go.Proofs.YtcmdjpolgaejoaaDoorW.PrintMore Go.Proofs.YtcmdjpolgaejoaaDoor.D Go.Proofs.YtcmdjpolgaejoaaDoor.Str
set_option linter.unusedVariables false
set_option linter.unusedSimpArgs false
def str (ks:List Nat):ByteArray:=strOfNums (ks.reverse.map fun k:Nat=>(k:Int))
theorem nums_bytes {ks:List Nat} (h:∀ k∈ks,k < 4):bytesOf (str ks)=ks.reverse.map fun k:Nat=>(k:Int):=bytes_nums fun x hx=>by
 obtain ⟨k,hk,rfl⟩:=List.mem_map.1 hx
 have:=h k (List.mem_reverse.1 hk)
 omega
theorem str_size (ks:List Nat):(str ks).size=ks.length:=by
 unfold str
 rw [strOfNums_size]
 simp
theorem str_nil:str []=⟨#[]⟩:=rfl
theorem str_app {p q:List Nat} (hp:∀ k∈p,k < 4) (hq:∀ k∈q,k < 4):str (p++q)=str q++str p:=by
 apply ext_bytes
 rw [bytes_append,nums_bytes (fun k hk=>by rcases List.mem_append.1 hk with h|h; exact hp k h; exact hq k h),nums_bytes hp,nums_bytes hq]
 simp
theorem str_inj {p q:List Nat} (hp:∀ k∈p,k < 4) (hq:∀ k∈q,k < 4) (h:str p=str q):p=q:=by
 have e:=congrArg bytesOf h
 rw [nums_bytes hp,nums_bytes hq] at e
 have:p.reverse=q.reverse:=(List.map_inj_right (fun a b h=>by have h':(a:Int)=(b:Int):=h; omega)).1 e
 simpa using this
theorem code_k {k:Nat} (h:k < 256):isthmusref20_code.f (k:Int)=some (str [k]):=by
 unfold isthmusref20_code.f str
 congr 2
 simp
 omega
theorem code1:isthmusref20_code.f 1=some (str [1]):=code_k (k:=1) (by decide)
theorem code2:isthmusref20_code.f 2=some (str [2]):=code_k (k:=2) (by decide)
theorem code3:isthmusref20_code.f 3=some (str [3]):=code_k (k:=3) (by decide)
theorem gives_f (a:Nat) {k:Nat} (hk:1≤k):isthmusref13_Gives.f k (a:Int)=some ((gives a:Nat):Int):=by
 obtain ⟨k,rfl⟩:∃ m,k=m+1:=⟨k - 1,by omega⟩
 unfold isthmusref13_Gives.f isthmusref13_Gives.j0 gives
 by_cases h1:a=1
 ·subst h1; simp
 ·by_cases h2:a=2
  ·subst h2; simp
  ·by_cases h10:a=10
   ·subst h10; simp
   ·have e1:¬ (a:Int)=1:=by omega
    have e2:¬ (a:Int)=2:=by omega
    have e10:¬ (a:Int)=10:=by omega
    simp [h1,h2,h10,e1,e2,e10]
theorem gives_lt (a:Nat):gives a < 4:=by unfold gives; split; decide; split<;>decide
theorem list_l0 (a:Nat) (s:ByteArray) (r:Int) (kn dn:Bool) (ha:a≤1024):∀ (d i k:Nat) (xs:List Int),i+d=a→d < k→xs.length+d≤4096→isthmusref20_rounds.l0 k a xs i s r kn dn=some (strOfNums (xs++List.replicate d 3),⟨#[]⟩,1,decide (r < 4)):=by
 intro d
 induction d with
 | zero =>
  intro i k xs hi hk hx
  obtain ⟨k,rfl⟩:∃ m,k=m+1:=⟨k - 1,by omega⟩
  rw [isthmusref20_rounds.l0,if_neg (by omega)]
  simp
 | succ d ih =>
  intro i k xs hi hk hx
  obtain ⟨k,rfl⟩:∃ m,k=m+1:=⟨k - 1,by omega⟩
  rw [isthmusref20_rounds.l0,if_pos (by omega),if_pos (by omega),show wrap64 ((i:Int)+1)=((i+1:Nat):Int) by rw [PackBits.w64_id (by omega) (by omega)]; omega,ih (i+1) k (xs++[3]) (by omega) (by omega) (by simp; omega)]
  rw [List.append_assoc]
  rfl
theorem app2 (p q:List Nat) (hp:∀ k∈p,k < 4) (hq:∀ k∈q,k < 4):str p++str q=str (q++p):=(str_app hq hp).symm
def wordS (cell:Nat→Nat) (r a b op:Nat):ByteArray×ByteArray×Int×Bool:=(str (rword cell r a b op).1,str (rword cell r a b op).2.1,(rword cell r a b op).2.2.1,(rword cell r a b op).2.2.2)
theorem rounds_f (cell:Nat→Nat) (s:ByteArray) (r a b op k:Nat) (kn dn:Bool) (ho:op=13∨op=17∨op=19∨(20≤op∧op≤25)) (h23:op=23→a≤1024) (hk:1100≤k) :
  isthmusref20_rounds.f k s (r:Int) kn dn (op:Int) (a:Int)=some (wordS cell r a b op):=by
 obtain ⟨k,rfl⟩:∃ m,k=m+1:=⟨k - 1,by omega⟩
 unfold isthmusref20_rounds.f
 rw [code3,bs]
 have hl:=fun h=>list_l0 a s r kn dn (h23 h) a 0 k [] (by omega) (by have:=h23 h; omega) (by have:=h23 h; simp; omega)
 have hrep:strOfNums ([]++List.replicate a 3)=str (List.replicate a 3):=by
  unfold str
  simp
 unfold wordS
 rcases ho with rfl|rfl|rfl|⟨h1,h2⟩
 ·simp [isthmusref20_rounds.j0,rword,str_nil]
 ·simp [isthmusref20_rounds.j0,rword,str_nil]
 ·simp [isthmusref20_rounds.j0,rword,str_nil]
 ·obtain rfl|rfl|rfl|rfl|rfl|rfl:op=20∨op=21∨op=22∨op=23∨op=24∨op=25:=by omega
  ·simp [isthmusref20_rounds.j0,rword,str_nil]; omega
  ·simp [isthmusref20_rounds.j0,rword,str_nil]; omega
  ·simp [isthmusref20_rounds.j0,rword,str_nil]; omega
  ·have h:=hl rfl
   rw [hrep] at h
   simp [isthmusref20_rounds.j0,rword,str_nil]
   rw [show (0:Int)=((0:Nat):Int) from rfl,h]
   simp [str_nil]
   omega
  ·simp [isthmusref20_rounds.j0,rword,str_nil]
  ·simp [isthmusref20_rounds.j0,rword,str_nil]
theorem sz2 (p q:List Nat) (h:p.length+q.length≤1000):(str p).size+(str q).size≤9223372036854775807:=by rw [str_size,str_size]; omega
theorem word_f (cell:Nat→Nat) (l0 l1:List Int) (l2:List ByteArray) (l3:List Int) (s:ByteArray) (kn dn:Bool) (r a b op k:Nat) (h0:op≠0) (hO:OpsOk l3.length op a b) (hc:op=18→rd l3 (a:Int)=(cell a:Nat)∧cell a < 4) (hk:1110≤k) :
  isthmusref20_Word.f k l0 l1 l2 l3 s (r:Int) kn dn (op:Int) (a:Int) (b:Int)=some (wordS cell r a b op):=by
 obtain ⟨k,rfl⟩:∃ m,k=m+2:=⟨k - 2,by omega⟩
 obtain ⟨h27,hb,hA,h23⟩:=hO
 have b4:∀ {x y:Nat},x < 4→y < 4→∀ k∈[x,y],k < 4:=fun {x y} hx hy k hk=>by simp at hk; rcases hk with rfl|rfl<;>assumption
 have b1:∀ {x:Nat},x < 4→∀ k∈[x],k < 4:=fun {x} hx k hk=>by simp at hk; rw [hk]; exact hx
 have e11:str [1]++str [1]=str [1,1]:=app2 [1] [1] (b1 (by decide)) (b1 (by decide))
 have e33:str [3]++str [3]=str [3,3]:=app2 [3] [3] (b1 (by decide)) (b1 (by decide))
 have e12:str [1]++str [2]=str [2,1]:=app2 [1] [2] (b1 (by decide)) (b1 (by decide))
 have e121:str [2,1]++str [1]=str [1,2,1]:=app2 [2,1] [1] (b4 (by decide) (by decide)) (b1 (by decide))
 have z11:=sz2 [1] [1] (by decide)
 have z33:=sz2 [3] [3] (by decide)
 have z12:=sz2 [1] [2] (by decide)
 have z121:=sz2 [2,1] [1] (by decide)
 have hrnd:=fun (ho:op=13∨op=17∨op=19∨(20≤op∧op≤25))=>rounds_f cell s r a b op k kn dn ho h23 (by omega)
 unfold isthmusref20_Word.f
 rw [code1,bs,code2,bs,code3,bs]
 have hj1:∀ (op:Nat),(op=13∨op=17∨op=19∨(20≤op∧op≤25))→isthmusref20_rounds.f k s (r:Int) kn dn (op:Int) (a:Int)=some (wordS cell r a b op)→isthmusref20_Word.j1 (k+1) (op:Int) (a:Int) (str [1]) (str [2]) (str [3]) (op:Int) (op == 15) l0 l1 l2 l3 s (r:Int) kn dn=some (wordS cell r a b op):=fun op ho h=>by
  rw [isthmusref20_Word.j1,h]
  have c15:¬ (op == 15)=true:=by simp; omega
  rw [if_neg c15,if_neg (by omega),if_neg (by omega),if_neg (by omega),if_neg (by omega)]
  rfl
 match op,h0,h27,hb,hA,h23,hc,hrnd with
 | 1,_,_,hb,_,_,_,_ =>
  have:=hb (Or.inl rfl)
  simp [wordS,rword,str_nil,code_k (show b < 256 by omega)]
 | 2,_,_,_,_,_,_,_=>simp [wordS,rword,str_nil]
 | 3,_,_,_,_,_,_,_=>simp [wordS,rword,str_nil]
 | 4,_,_,_,_,_,_,_=>simp [wordS,rword,str_nil]
 | 5,_,_,_,_,_,_,_=>simp [wordS,rword,str_nil]
 | 6,_,_,_,_,_,_,_=>simp [wordS,rword,isthmusref20_Word.j0,z11,e11]
 | 7,_,_,_,_,_,_,_=>simp [wordS,rword,isthmusref20_Word.j0,z11,e11]
 | 8,_,_,_,_,_,_,_=>simp [wordS,rword,isthmusref20_Word.j0,z11,e11]
 | 9,_,_,_,_,_,_,_=>simp [wordS,rword,isthmusref20_Word.j0,z11,e11]
 | 10,_,_,_,_,_,_,_=>simp [wordS,rword,isthmusref20_Word.j0,z11,e11]
 | 11,_,_,hb,_,_,_,_ =>
  have hb4:=hb (Or.inr rfl)
  have ebb:str [b]++str [b]=str [b,b]:=app2 [b] [b] (b1 hb4.2) (b1 hb4.2)
  have zbb:=sz2 [b] [b] (by simp)
  simp [wordS,rword,isthmusref20_Word.j0,code_k (show b < 256 by omega),zbb,ebb]
 | 12,_,_,_,_,_,_,_=>simp [wordS,rword,isthmusref20_Word.j0,z11,e11]
 | 14,_,_,_,_,_,_,_=>simp [wordS,rword,isthmusref20_Word.j0,isthmusref20_Word.j1,str_nil]
 | 15,_,_,_,_,_,_,_=>simp [wordS,rword,isthmusref20_Word.j0,isthmusref20_Word.j1,str_nil]
 | 16,_,_,_,_,_,_,_ =>
  have hg:=gives_f a (k:=k) (by omega)
  have hgc:=code_k (show gives a < 256 by have:=gives_lt a; omega)
  by_cases h3:a≤3
  ·have h3':(a:Int)≤3:=by omega
   simp [wordS,rword,isthmusref20_Word.j0,isthmusref20_Word.j1,h3,h3',z33,e33,hg,hgc]
  ·have h3':¬ (a:Int)≤3:=by omega
   simp [wordS,rword,isthmusref20_Word.j0,isthmusref20_Word.j1,h3,h3',hg,hgc]
 | 18,_,_,_,hA,_,hc,_ =>
  have ha:=hA (Or.inr rfl)
  obtain ⟨c1,c2⟩:=hc rfl
  have ha':(a:Int) < (l3.length:Int):=by omega
  simp [wordS,rword,isthmusref20_Word.j0,isthmusref20_Word.j1,ha',c1,code_k (show cell a < 256 by omega)]
 | 26,_,_,_,_,_,_,_ =>
  have z':(str [2,1]).size+(str [1]).size≤9223372036854775807:=z121
  simp [wordS,rword,isthmusref20_Word.j0,isthmusref20_Word.j1,z12,e12,z',e121]
 | 27,_,_,_,_,_,_,_=>simp [wordS,rword,isthmusref20_Word.j0,isthmusref20_Word.j1,str_nil]
 | 13,_,_,_,_,_,_,hr=>simpa [isthmusref20_Word.j0] using hj1 13 (by decide) (hr (by decide))
 | 17,_,_,_,_,_,_,hr=>simpa [isthmusref20_Word.j0] using hj1 17 (by decide) (hr (by decide))
 | 19,_,_,_,_,_,_,hr=>simpa [isthmusref20_Word.j0] using hj1 19 (by decide) (hr (by decide))
 | 20,_,_,_,_,_,_,hr=>simpa [isthmusref20_Word.j0] using hj1 20 (by decide) (hr (by decide))
 | 21,_,_,_,_,_,_,hr=>simpa [isthmusref20_Word.j0] using hj1 21 (by decide) (hr (by decide))
 | 22,_,_,_,_,_,_,hr=>simpa [isthmusref20_Word.j0] using hj1 22 (by decide) (hr (by decide))
 | 23,_,_,_,_,_,_,hr=>simpa [isthmusref20_Word.j0] using hj1 23 (by decide) (hr (by decide))
 | 24,_,_,_,_,_,_,hr=>simpa [isthmusref20_Word.j0] using hj1 24 (by decide) (hr (by decide))
 | 25,_,_,_,_,_,_,hr=>simpa [isthmusref20_Word.j0] using hj1 25 (by decide) (hr (by decide))
 | 0,h,_,_,_,_,_,_=>exact absurd rfl h
 | n+28,_,h,_,_,_,_,_=>omega
end Go.Proofs.YtcmdjpolgaejoaaDoor.Gd
namespace Go.Proofs.YtcmdjpolgaejoaaDoor.Gd
open Go.RowKit Go.Proofs.YtcmdjpolgaejoaaDoorW.PrintWords Go.Proofs.YtcmdjpolgaejoaaDoorW.PrintLast Go.Proofs.YtcmdjpolgaejoaaDoorW.PrintMore
set_option linter.unusedVariables false
set_option linter.unusedSimpArgs false
attribute [local irreducible] wpList
def lEnds (w0:World) (C:Cv) (lg m lb:Nat) (L:Lk) (w:World) (r:Except Int Lk) (e:Ending) (w':World):Prop :=
 Keep3 lg m lb w w'∧∃ L',Holds w0 C lg m lb L' w'∧L'.word=L.word∧((r=.ok L'∧e=.returned (.tuple #[]))∨∃ x,r=.error x∧e=.panicked (bad x))
theorem Cm.row {w0:World} {C:Cv} {lg m lb:Nat} {w w':World} {s:Array Value} {L:Lk} (h:Cm w0 C lg m lb w s L w') (s':Array Value):Cm w0 C lg m lb w s' L (w'.setRow w.heap.size s'):=by
 have hf:∀ k,k≠w.heap.size→(w'.setRow w.heap.size s').heap[k]? = w'.heap[k]? := fun k hk=>setRow_other _ _ _ _ hk
 have hB:Below w.heap.size w' (w'.setRow w.heap.size s'):=below_setRow (Below.refl _ _) (Nat.le_refl _) _
 obtain ⟨n1,n2,n3⟩:=h.h.ne
 have:=h.l1
 have:=h.l2
 have:=h.l3
 refine ⟨⟨(hf lg (by omega)).trans h.h.lk,?_,(hf lb (by omega)).trans h.h.lf,h.h.ln,?_,h.h.h0,h.h.h1,h.h.h2⟩,⟨hB.os.trans h.k.os,hB.tape.trans h.k.tape,hB.output.trans h.k.output,Nat.le_trans h.k.size hB.size,fun k hk h1 h2 h3=>(hf k (Nat.ne_of_lt hk)).trans (h.k.block k hk h1 h2 h3)⟩,setRow_heap _ _ s s' 68 (0,0) h.x,h.l1,h.l2,h.l3⟩
 ·obtain ⟨es,c,h1,h2⟩:=h.h.mp
  exact ⟨es,c,(hf m (by omega)).trans h1,h2⟩
 ·have h0:=h.h.h0
  exact h.h.b.trans (below_setRow (Below.refl _ _) (by omega) _)
theorem Cm.comes {w0:World} {C:Cv} {lg m lb:Nat} {w w' w'':World} {s:Array Value} {L L':Lk} (h:Cm w0 C lg m lb w s L w') (k:Keep3 lg m lb w' w'') (hh:Holds w0 C lg m lb L' w''):Cm w0 C lg m lb w s L' w'' :=
 ⟨hh,h.k.trans k,(k.block _ (blk_lt h.x) (Nat.ne_of_gt h.l1) (Nat.ne_of_gt h.l2) (Nat.ne_of_gt h.l3)).trans h.x,h.l1,h.l2,h.l3⟩
theorem comes_go {w0:World} {C:Cv} {lg m lb:Nat} {L:Lk} (s:St) (a:Nat) {i:Int} (hi:i=(a:Nat)) (hs:Fine s) (hT:TabOk L) (w:World) (H:Holds w0 C lg m lb L w) {Q:Ending→World→Prop}
  (h1:∀ x w1,Aside0 (comes C.l0.length L a s=.error x)→Keep3 lg m lb w w1→Holds w0 C lg m lb L w1→Q (.panicked (bad x)) w1)
  (h2:∀ L1 w1,Aside0 (comes C.l0.length L a s=.ok L1)→Keep3 lg m lb w w1→Holds w0 C lg m lb L1 w1→Q (.returned (.tuple #[])) w1) :
  Calls Tryd.prog 57 #[.pointer (some ⟨lg,0,none⟩),.int .i64 i,.agg (stc (wd s.1) s.1.length s.2)] w Q:=by
 subst hi
 refine (comes_calls w0 C lg m lb L s a hs (fun b t e=>(hT b t e).1) w H).mono ?_
 rintro e w1 ⟨hk,hr⟩
 cases hc:comes C.l0.length L a s with
 | error x=>rw [hc] at hr; obtain ⟨rfl,hh⟩:=hr; exact h1 x w1 ⟨hc⟩ hk hh
 | ok L1=>rw [hc] at hr; obtain ⟨rfl,hh⟩:=hr; exact h2 L1 w1 ⟨hc⟩ hk hh
def PartsAt (w0:World) (x:Int) (op A B:Nat):Prop:=∀ W,Below w0.heap.size w0 W→Calls Tryd.prog 52 #[.int .u64 x] W fun e w'=>e=.returned (.tuple #[.int .i64 (op:Nat),.int .i64 (A:Nat),.int .i64 (B:Nat)])∧Below W.heap.size W w'
structure Wd (L L':Lk):Prop where
 eq:L'.word=L.word
 ok:TabOk L'
theorem Cm.other {w0:World} {C:Cv} {lg m lb:Nat} {w w' w'':World} {s:Array Value} {L:Lk} (h:Cm w0 C lg m lb w s L w') (hb:Below (w.heap.size+1) w' w''):Cm w0 C lg m lb w s L w'':=by
 have h1:=h.l1
 have h2:=h.l2
 have h3:=h.l3
 have h0:=h.h.h0
 refine ⟨⟨(hb.block lg (by omega)).trans h.h.lk,?_,(hb.block lb (by omega)).trans h.h.lf,h.h.ln,h.h.b.trans (hb.mono (by omega)),h.h.h0,h.h.h1,h.h.h2⟩,⟨hb.os.trans h.k.os,hb.tape.trans h.k.tape,hb.output.trans h.k.output,Nat.le_trans h.k.size hb.size,fun k hk a b c=>(hb.block k (by omega)).trans (h.k.block k hk a b c)⟩,(hb.block _ (Nat.lt_succ_self _)).trans h.x,h1,h2,h3⟩
 obtain ⟨es,c,a,b⟩:=h.h.mp
 exact ⟨es,c,(hb.block m (by omega)).trans a,b⟩
theorem wrap_pred (j:Nat) (h:j≤4):wrap64 ((j:Int) - 1)=(j:Int) - 1:=by
 simp only [wrap64]
 omega
theorem behind24 {cell:Nat→Nat} {s t:St} {op A B:Nat} (hop:op=24) (e:behind cell s A B op=.ok t):0 < t.2:=by
 subst hop
 replace e:(if 0 < s.2 then Except.ok s else .error 201)=Except.ok (ε:=Int) t:=e
 split at e
 ·cases e; assumption
 ·cases e
theorem far24 {t:St} (h:Fine t∧t.2≤4):Fine (t.1,t.2 - 1)∧(t.1,t.2 - 1).2≤4:=⟨h.1,by have:=h.2; simp only; omega⟩
theorem stc24 (t:St) (h:0 < t.2):(stc (wd t.1) t.1.length t.2).setIfInBounds 33 (.int .i64 ((t.2:Int) - 1))=stc (wd t.1) t.1.length (t.2 - 1):=by
 rw [show ((t.2:Int) - 1)=((t.2 - 1:Nat):Int) by omega]
 exact stc_set_r _ _ _ _
theorem far_keep {w0:World} {C:Cv} {lg m lb:Nat} {w w' w'':World} {s f:Array Value} {L:Lk} {g:Nat} (h:Cm w0 C lg m lb w s L w') (hg:w.heap.size < g) (k:Keep3 lg m lb w' w'') (hf:w'.heap[g]? = some (.cells f 68 (0,0))):w''.heap[g]? = some (.cells f 68 (0,0)) :=
 have h1:=h.l1
 have h2:=h.l2
 have h3:=h.l3
 (k.block g (blk_lt hf) (by omega) (by omega) (by omega)).trans hf
section
variable (n:Nat) (cell:Nat→Nat) (L:Lk) (a op A B:Nat)
theorem looks_other (h0:op≠0) (h1:op≠13) (h2:op≠14) (h3:op≠15) (h4:op≠17) (h5:op≠24) :
  looks n cell L a op A B=(behind cell ((look a L.tab).getD ([],0)) A B op).bind fun t=>comes n L (a+1) t:=by
 unfold looks
 rw [if_neg h0]
 refine congrArg (Except.bind _) (funext fun t=>?_)
 have e1:farOf cell op A t=.ok t:=by unfold farOf; rw [if_neg h4,if_neg h5]
 have e2:∀ L1,jumpOf n L1 op A B t=.ok L1:=fun L1=>by unfold jumpOf; rw [if_neg (by omega),if_neg h4]
 have e3:nextOf n L a op t=comes n L (a+1) t:=by unfold nextOf; rw [if_neg h1]
 rw [e1]
 show (nextOf n L a op t).bind (fun L1=>jumpOf n L1 op A B t)=_
 rw [e3]
 cases hh:comes n L (a+1) t with
 | error x=>rfl
 | ok L1=>exact e2 L1
theorem looks_13:looks n cell L a 13 A B=(behind cell ((look a L.tab).getD ([],0)) A B 13).bind fun t=>comes n L A t:=rfl
theorem looks_14 (h:op=14∨op=15):looks n cell L a op A B=(behind cell ((look a L.tab).getD ([],0)) A B op).bind fun t=>(comes n L (a+1) t).bind fun L1=>comes n L1 A t:=by
 rcases h with rfl|rfl<;>rfl
theorem looks_24:looks n cell L a 24 A B=(behind cell ((look a L.tab).getD ([],0)) A B 24).bind fun t=>(comes n L (a+1) t).bind fun L1=>comes n L1 A (t.1,t.2 - 1):=rfl
theorem looks_17:looks n cell L a 17 A B=(behind cell ((look a L.tab).getD ([],0)) A B 17).bind fun t=>(gets (cell A) t).bind fun far=>(comes n L (a+1) t).bind fun L1=>comes n L1 B far:=rfl
end
structure CodeOk (C:Cv) (cell:Nat→Nat) (w0:World):Prop where
 reads:C.Reads w0
 len:C.l3.length≤256
 size:C.l0.length≤32768
 val:∀ a,a < C.l3.length→rd C.l3 (a:Int)=(cell a:Nat)
 kind:∀ a,a < C.l3.length→1≤cell a∧cell a < 4
set_option maxHeartbeats 8000000 in
set_option maxRecDepth 10000 in
theorem looks_o (w0:World) (C:Cv) (cell:Nat→Nat) (hC:CodeOk C cell w0) (lg m lb:Nat) (L:Lk) (hT:TabOk L) (a:Nat) (ha:a < C.l0.length) (op A B:Nat) (hP:PartsAt w0 (rd C.l0 (a:Int)) op A B) (hO:OpsOk C.l3.length op A B) (w:World) (H:Holds w0 C lg m lb L w) (h0:op≠0) (h1:op≠13) (h2:op≠14) (h3:op≠15) (h4:op≠17) (h5:op≠24) :
  Calls Tryd.prog 26 #[.pointer (some ⟨lg,0,none⟩),.int .i64 (a:Nat)] w (lEnds w0 C lg m lb L w (looks C.l0.length cell L a op A B)):=by
 have HC:=Aside0.mk (Cm.new H z34_)
 have y4:w.cell? ⟨lg,4,none⟩=some (.map (some m)):=blk_cell H.lk 4
 obtain ⟨es,ck,hm,hT0⟩:=H.mp
 have ql:=lookup1_run hm hT0 a
 obtain ⟨s,hs_⟩:∃ s:St,s=(look a L.tab).getD ([],0):=⟨_,rfl⟩
 rw [← hs_] at ql
 have hg:=got_ok hT a
 rw [← hs_] at hg
 have HG:=Aside0.mk hg
 have HS:=Aside0.mk hs_
 have HT:=Aside0.mk hT
 have HK:=Aside0.mk hC
 have HP:=Aside0.mk hP
 have HO:=Aside0.mk hO
 have HC:=Aside0.mk (HC.out.row (stc (wd s.1) s.1.length s.2))
 obtain ⟨ad,ea,hx⟩:=Kd.at_int (Kd.C_below hC.reads.r0 HC.out.h.b) (a:Int) (Int.natCast_nonneg a) (by omega)
 have y0:(World.setRow (w.alloc (.cells z34_ 68)) w.heap.size (stc (wd s.1) s.1.length s.2)).cell? ⟨lg,0,none⟩=some (.slice (some ad) C.l0.length C.c0):=by
  rw [← ea]; exact blk_cell HC.out.h.lk 0
 have hx':(World.setRow (w.alloc (.cells z34_ 68)) w.heap.size (stc (wd s.1) s.1.length s.2)).cell? (ad.add a)=some (.int .u64 (rd C.l0 (a:Int))):=hx
 obtain ⟨xw,hxw⟩:∃ xw:Int,xw=rd C.l0 (a:Int):=⟨_,rfl⟩
 rw [← hxw] at hx' HP
 clear hx hxw hm hT0 hs_ hg hT hC hP hO H
 have c0:(((op:Nat):Int) == 0)=false:=by simp; omega
 have c13:(((op:Nat):Int) == 13)=false:=by simp; omega
 have c14:(((op:Nat):Int) == 14)=false:=by simp; omega
 have c15:(((op:Nat):Int) == 15)=false:=by simp; omega
 have c17:(((op:Nat):Int) == 17)=false:=by simp; omega
 have c24:(((op:Nat):Int) == 24)=false:=by simp; omega
 have n13:(((op:Nat):Int) != 13)=true:=by simp; omega
 have e8:wrap64 ((a:Int)+1)=(a:Int)+1:=wrap_succ a (by have:=HK.out.size; omega)
 have HE:Aside0 (looks C.l0.length cell L a op A B=(behind cell s A B op).bind fun t=>comes C.l0.length L (a+1) t):=⟨by rw [HS.out]; exact looks_other _ cell L a op A B h0 h1 h2 h3 h4 h5⟩
 have HW:Aside0 (Wd L L):=⟨⟨rfl,HT.out⟩⟩
 clear h0 h1 h2 h3 h4 h5
 go_enter Tryd.func26,Tryd.ntmps26
 go_wp2_with (first
  | (refine wpList_store_row rfl 68 _ _ rfl w.heap.size (stc (wd s.1) s.1.length s.2) (by first|rfl|simp) rfl 68 _ (heap_alloc_new w _) (by rw [stc_size]; exact info68) (by rw [stc_size]; first|done|rfl) (stc_one _ _ _) ?_; generalize World.setRow (w.alloc (.cells z34_ 68)) w.heap.size (stc (wd s.1) s.1.length s.2)=u1 at HC y0 hx' ⊢; clear y4 ql)
  | (go_at_call 52; (refine (HP.out _ HC.out.h.b).mono ?_); rintro e w2 ⟨rfl,hb⟩; have HC:=Aside0.mk (HC.out.call hb); clear hb y0 hx')
  | (refine wpList_load_row rfl 68 _ rfl w.heap.size rfl 68 (stc (wd s.1) s.1.length s.2) (0,0) _ HC.out.x Tryd.underlying68 rfl (by rw [stc_size]; exact info68) ?_)
  | (go_at_call 55; (refine exc_go (behind_calls lg cell C.l3 C.A3 C.c3 s op A B HG.out.1 HG.out.2 _ ⟨blk_cell HC.out.h.lk 3,Kd.C_below HK.out.reads.r3 HC.out.h.b,HK.out.len,HK.out.val⟩ HO.out) (fun e1 w1 H1 hb=>?_) (fun t w1 H1 hb=>?_)); (have HC:=Aside0.mk (HC.out.call hb); exact ⟨rfl,HC.out.k,_,HC.out.h,HW.out.eq,Or.inr ⟨_,(by rw [HE.out,H1.out]; first|done|rfl),rfl⟩⟩); have HC:=Aside0.mk (HC.out.call hb); have h:=HE.out; simp only [H1.out,Except.bind] at h; have HE:=Aside0.mk h; have HF:=Aside0.mk (And.intro (behind_fine cell A B op HG.out.1 HO.out.2.1 H1.out) (behind_rounds cell A B op HG.out.2 H1.out)); clear h hb H1)
  | (refine wpList_store_row rfl 68 _ _ rfl w.heap.size (stc (wd t.1) t.1.length t.2) (by first|rfl|simp) rfl 68 _ HC.out.x (by rw [stc_size]; exact info68) (by simp only [stc_size]) (stc_one _ _ _) ?_; have HC:=Aside0.mk (HC.out.row (stc (wd t.1) t.1.length t.2)); generalize World.setRow w1 w.heap.size (stc (wd t.1) t.1.length t.2)=u5 at HC ⊢)
  | (refine wpList_load_row rfl 68 _ rfl w.heap.size rfl 68 (stc (wd t.1) t.1.length t.2) (0,0) _ HC.out.x Tryd.underlying68 rfl (by rw [stc_size]; exact info68) ?_)
  | (refine wpList_store_row rfl 68 _ _ rfl u5.heap.size (stc (wd t.1) t.1.length t.2) (by first|rfl|simp) rfl 68 _ (heap_alloc_new u5 _) (by rw [stc_size]; exact info68) (by rw [stc_size]; first|done|rfl) (stc_one _ _ _) ?_; have HCx:=HC; have HFB:Aside0 ((World.setRow (u5.alloc (.cells z34_ 68)) u5.heap.size (stc (wd t.1) t.1.length t.2)).heap[u5.heap.size]? = some (.cells (stc (wd t.1) t.1.length t.2) 68 (0,0))):=Aside0.mk (setRow_heap _ _ _ _ 68 (0,0) (heap_alloc_new u5 _)); have HC:Aside0 (Cm w0 C lg m lb w (stc (wd t.1) t.1.length t.2) L (World.setRow (u5.alloc (.cells z34_ 68)) u5.heap.size (stc (wd t.1) t.1.length t.2))):=Aside0.mk (HC.out.call (below_rowOwn _ (Nat.le_refl _))); have HL:Aside0 (w.heap.size < u5.heap.size):=Aside0.mk (blk_lt HCx.out.x); generalize World.setRow (u5.alloc (.cells z34_ 68)) u5.heap.size (stc (wd t.1) t.1.length t.2)=u6 at HC HFB ⊢)
  | (go_at_call 57; have hf0:=e8; clear hf0; (refine comes_go t (a+1) (by first|rfl|omega) HF.out.1 HW.out.ok _ HC.out.h (fun x w1 H1 hk hh=>?_) (fun L1 w1 H1 hk hh=>?_)); (have HC:=Aside0.mk (HC.out.comes hk hh); exact ⟨rfl,HC.out.k,_,HC.out.h,HW.out.eq,Or.inr ⟨_,(by rw [HE.out,H1.out]; first|done|rfl),rfl⟩⟩); have HFB:=Aside0.mk (far_keep HC.out HL.out hk HFB.out); have HC:=Aside0.mk (HC.out.comes hk hh); have h:=HE.out; simp only [H1.out,Except.bind] at h; have HE:=Aside0.mk h; have HW:Aside0 (Wd L L1):=Aside0.mk (Wd.mk ((comes_ok HW.out.ok HF.out H1.out).2.trans HW.out.eq) (comes_ok HW.out.ok HF.out H1.out).1); clear h hk hh H1 e8))
 go_end0
 exact ⟨HC.out.k,_,HC.out.h,HW.out.eq,Or.inl ⟨HE.out,rfl⟩⟩
set_option maxHeartbeats 8000000 in
set_option maxRecDepth 10000 in
theorem looks_j (w0:World) (C:Cv) (cell:Nat→Nat) (hC:CodeOk C cell w0) (lg m lb:Nat) (L:Lk) (hT:TabOk L) (a:Nat) (ha:a < C.l0.length) (op A B:Nat) (hP:PartsAt w0 (rd C.l0 (a:Int)) op A B) (hO:OpsOk C.l3.length op A B) (w:World) (H:Holds w0 C lg m lb L w) (hop:op=13) :
  Calls Tryd.prog 26 #[.pointer (some ⟨lg,0,none⟩),.int .i64 (a:Nat)] w (lEnds w0 C lg m lb L w (looks C.l0.length cell L a op A B)):=by
 have HC:=Aside0.mk (Cm.new H z34_)
 have y4:w.cell? ⟨lg,4,none⟩=some (.map (some m)):=blk_cell H.lk 4
 obtain ⟨es,ck,hm,hT0⟩:=H.mp
 have ql:=lookup1_run hm hT0 a
 obtain ⟨s,hs_⟩:∃ s:St,s=(look a L.tab).getD ([],0):=⟨_,rfl⟩
 rw [← hs_] at ql
 have hg:=got_ok hT a
 rw [← hs_] at hg
 have HG:=Aside0.mk hg
 have HS:=Aside0.mk hs_
 have HT:=Aside0.mk hT
 have HK:=Aside0.mk hC
 have HP:=Aside0.mk hP
 have HO:=Aside0.mk hO
 have HC:=Aside0.mk (HC.out.row (stc (wd s.1) s.1.length s.2))
 obtain ⟨ad,ea,hx⟩:=Kd.at_int (Kd.C_below hC.reads.r0 HC.out.h.b) (a:Int) (Int.natCast_nonneg a) (by omega)
 have y0:(World.setRow (w.alloc (.cells z34_ 68)) w.heap.size (stc (wd s.1) s.1.length s.2)).cell? ⟨lg,0,none⟩=some (.slice (some ad) C.l0.length C.c0):=by
  rw [← ea]; exact blk_cell HC.out.h.lk 0
 have hx':(World.setRow (w.alloc (.cells z34_ 68)) w.heap.size (stc (wd s.1) s.1.length s.2)).cell? (ad.add a)=some (.int .u64 (rd C.l0 (a:Int))):=hx
 obtain ⟨xw,hxw⟩:∃ xw:Int,xw=rd C.l0 (a:Int):=⟨_,rfl⟩
 rw [← hxw] at hx' HP
 clear hx hxw hm hT0 hs_ hg hT hC hP hO H
 have c0:(((op:Nat):Int) == 0)=false:=by simp; omega
 have c13:(((op:Nat):Int) == 13)=true:=by simp; omega
 have c17:(((op:Nat):Int) == 17)=false:=by simp; omega
 have c24:(((op:Nat):Int) == 24)=false:=by simp; omega
 have n13:(((op:Nat):Int) != 13)=false:=by simp; omega
 have HE:Aside0 (looks C.l0.length cell L a op A B=(behind cell s A B op).bind fun t=>comes C.l0.length L A t):=⟨by rw [HS.out]; exact by rw [hop]; exact looks_13 _ cell L a A B⟩
 have HW:Aside0 (Wd L L):=⟨⟨rfl,HT.out⟩⟩
 clear hop
 go_enter Tryd.func26,Tryd.ntmps26
 go_wp2_with (first
  | (refine wpList_store_row rfl 68 _ _ rfl w.heap.size (stc (wd s.1) s.1.length s.2) (by first|rfl|simp) rfl 68 _ (heap_alloc_new w _) (by rw [stc_size]; exact info68) (by rw [stc_size]; first|done|rfl) (stc_one _ _ _) ?_; generalize World.setRow (w.alloc (.cells z34_ 68)) w.heap.size (stc (wd s.1) s.1.length s.2)=u1 at HC y0 hx' ⊢; clear y4 ql)
  | (go_at_call 52; (refine (HP.out _ HC.out.h.b).mono ?_); rintro e w2 ⟨rfl,hb⟩; have HC:=Aside0.mk (HC.out.call hb); clear hb y0 hx')
  | (refine wpList_load_row rfl 68 _ rfl w.heap.size rfl 68 (stc (wd s.1) s.1.length s.2) (0,0) _ HC.out.x Tryd.underlying68 rfl (by rw [stc_size]; exact info68) ?_)
  | (go_at_call 55; (refine exc_go (behind_calls lg cell C.l3 C.A3 C.c3 s op A B HG.out.1 HG.out.2 _ ⟨blk_cell HC.out.h.lk 3,Kd.C_below HK.out.reads.r3 HC.out.h.b,HK.out.len,HK.out.val⟩ HO.out) (fun e1 w1 H1 hb=>?_) (fun t w1 H1 hb=>?_)); (have HC:=Aside0.mk (HC.out.call hb); exact ⟨rfl,HC.out.k,_,HC.out.h,HW.out.eq,Or.inr ⟨_,(by rw [HE.out,H1.out]; first|done|rfl),rfl⟩⟩); have HC:=Aside0.mk (HC.out.call hb); have h:=HE.out; simp only [H1.out,Except.bind] at h; have HE:=Aside0.mk h; have HF:=Aside0.mk (And.intro (behind_fine cell A B op HG.out.1 HO.out.2.1 H1.out) (behind_rounds cell A B op HG.out.2 H1.out)); clear h hb H1)
  | (refine wpList_store_row rfl 68 _ _ rfl w.heap.size (stc (wd t.1) t.1.length t.2) (by first|rfl|simp) rfl 68 _ HC.out.x (by rw [stc_size]; exact info68) (by simp only [stc_size]) (stc_one _ _ _) ?_; have HC:=Aside0.mk (HC.out.row (stc (wd t.1) t.1.length t.2)); generalize World.setRow w1 w.heap.size (stc (wd t.1) t.1.length t.2)=u5 at HC ⊢)
  | (refine wpList_load_row rfl 68 _ rfl w.heap.size rfl 68 (stc (wd t.1) t.1.length t.2) (0,0) _ HC.out.x Tryd.underlying68 rfl (by rw [stc_size]; exact info68) ?_)
  | (refine wpList_store_row rfl 68 _ _ rfl u5.heap.size (stc (wd t.1) t.1.length t.2) (by first|rfl|simp) rfl 68 _ (heap_alloc_new u5 _) (by rw [stc_size]; exact info68) (by rw [stc_size]; first|done|rfl) (stc_one _ _ _) ?_; have HCx:=HC; have HFB:Aside0 ((World.setRow (u5.alloc (.cells z34_ 68)) u5.heap.size (stc (wd t.1) t.1.length t.2)).heap[u5.heap.size]? = some (.cells (stc (wd t.1) t.1.length t.2) 68 (0,0))):=Aside0.mk (setRow_heap _ _ _ _ 68 (0,0) (heap_alloc_new u5 _)); have HC:Aside0 (Cm w0 C lg m lb w (stc (wd t.1) t.1.length t.2) L (World.setRow (u5.alloc (.cells z34_ 68)) u5.heap.size (stc (wd t.1) t.1.length t.2))):=Aside0.mk (HC.out.call (below_rowOwn _ (Nat.le_refl _))); have HL:Aside0 (w.heap.size < u5.heap.size):=Aside0.mk (blk_lt HCx.out.x); generalize World.setRow (u5.alloc (.cells z34_ 68)) u5.heap.size (stc (wd t.1) t.1.length t.2)=u6 at HC HFB ⊢)
  | (refine wpList_load_row rfl 68 _ rfl u5.heap.size rfl 68 (stc (wd t.1) t.1.length t.2) (0,0) _ HFB.out Tryd.underlying68 rfl (by rw [stc_size]; exact info68) ?_)
  | (go_at_call 57; (refine comes_go t A (by first|rfl|omega) HF.out.1 HW.out.ok _ HC.out.h (fun x w1 H1 hk hh=>?_) (fun L1 w1 H1 hk hh=>?_)); (have HC:=Aside0.mk (HC.out.comes hk hh); exact ⟨rfl,HC.out.k,_,HC.out.h,HW.out.eq,Or.inr ⟨_,(by rw [HE.out,H1.out]; first|done|rfl),rfl⟩⟩); have HFB:=Aside0.mk (far_keep HC.out HL.out hk HFB.out); have HC:=Aside0.mk (HC.out.comes hk hh); have h:=HE.out; simp only [H1.out,Except.bind] at h; have HE:=Aside0.mk h; have HW:Aside0 (Wd L L1):=Aside0.mk (Wd.mk ((comes_ok HW.out.ok HF.out H1.out).2.trans HW.out.eq) (comes_ok HW.out.ok HF.out H1.out).1); clear h hk hh H1))
 go_end0
 exact ⟨HC.out.k,_,HC.out.h,HW.out.eq,Or.inl ⟨HE.out,rfl⟩⟩
set_option maxHeartbeats 8000000 in
set_option maxRecDepth 10000 in
theorem looks_c14 (w0:World) (C:Cv) (cell:Nat→Nat) (hC:CodeOk C cell w0) (lg m lb:Nat) (L:Lk) (hT:TabOk L) (a:Nat) (ha:a < C.l0.length) (op A B:Nat) (hP:PartsAt w0 (rd C.l0 (a:Int)) op A B) (hO:OpsOk C.l3.length op A B) (w:World) (H:Holds w0 C lg m lb L w) (hop:op=14) :
  Calls Tryd.prog 26 #[.pointer (some ⟨lg,0,none⟩),.int .i64 (a:Nat)] w (lEnds w0 C lg m lb L w (looks C.l0.length cell L a op A B)):=by
 have HC:=Aside0.mk (Cm.new H z34_)
 have y4:w.cell? ⟨lg,4,none⟩=some (.map (some m)):=blk_cell H.lk 4
 obtain ⟨es,ck,hm,hT0⟩:=H.mp
 have ql:=lookup1_run hm hT0 a
 obtain ⟨s,hs_⟩:∃ s:St,s=(look a L.tab).getD ([],0):=⟨_,rfl⟩
 rw [← hs_] at ql
 have hg:=got_ok hT a
 rw [← hs_] at hg
 have HG:=Aside0.mk hg
 have HS:=Aside0.mk hs_
 have HT:=Aside0.mk hT
 have HK:=Aside0.mk hC
 have HP:=Aside0.mk hP
 have HO:=Aside0.mk hO
 have HC:=Aside0.mk (HC.out.row (stc (wd s.1) s.1.length s.2))
 obtain ⟨ad,ea,hx⟩:=Kd.at_int (Kd.C_below hC.reads.r0 HC.out.h.b) (a:Int) (Int.natCast_nonneg a) (by omega)
 have y0:(World.setRow (w.alloc (.cells z34_ 68)) w.heap.size (stc (wd s.1) s.1.length s.2)).cell? ⟨lg,0,none⟩=some (.slice (some ad) C.l0.length C.c0):=by
  rw [← ea]; exact blk_cell HC.out.h.lk 0
 have hx':(World.setRow (w.alloc (.cells z34_ 68)) w.heap.size (stc (wd s.1) s.1.length s.2)).cell? (ad.add a)=some (.int .u64 (rd C.l0 (a:Int))):=hx
 obtain ⟨xw,hxw⟩:∃ xw:Int,xw=rd C.l0 (a:Int):=⟨_,rfl⟩
 rw [← hxw] at hx' HP
 clear hx hxw hm hT0 hs_ hg hT hC hP hO H
 have c0:(((op:Nat):Int) == 0)=false:=by simp; omega
 have c13:(((op:Nat):Int) == 13)=false:=by simp; omega
 have c14:(((op:Nat):Int) == 14)=true:=by simp; omega
 have c15:(((op:Nat):Int) == 15)=false:=by simp; omega
 have c17:(((op:Nat):Int) == 17)=false:=by simp; omega
 have c24:(((op:Nat):Int) == 24)=false:=by simp; omega
 have n13:(((op:Nat):Int) != 13)=true:=by simp; omega
 have e8:wrap64 ((a:Int)+1)=(a:Int)+1:=wrap_succ a (by have:=HK.out.size; omega)
 have HE:Aside0 (looks C.l0.length cell L a op A B=(behind cell s A B op).bind fun t=>(comes C.l0.length L (a+1) t).bind fun L1=>comes C.l0.length L1 A t):=⟨by rw [HS.out]; exact looks_14 _ cell L a op A B (by omega)⟩
 have HW:Aside0 (Wd L L):=⟨⟨rfl,HT.out⟩⟩
 clear hop
 go_enter Tryd.func26,Tryd.ntmps26
 go_wp2_with (first
  | (refine wpList_store_row rfl 68 _ _ rfl w.heap.size (stc (wd s.1) s.1.length s.2) (by first|rfl|simp) rfl 68 _ (heap_alloc_new w _) (by rw [stc_size]; exact info68) (by rw [stc_size]; first|done|rfl) (stc_one _ _ _) ?_; generalize World.setRow (w.alloc (.cells z34_ 68)) w.heap.size (stc (wd s.1) s.1.length s.2)=u1 at HC y0 hx' ⊢; clear y4 ql)
  | (go_at_call 52; (refine (HP.out _ HC.out.h.b).mono ?_); rintro e w2 ⟨rfl,hb⟩; have HC:=Aside0.mk (HC.out.call hb); clear hb y0 hx')
  | (refine wpList_load_row rfl 68 _ rfl w.heap.size rfl 68 (stc (wd s.1) s.1.length s.2) (0,0) _ HC.out.x Tryd.underlying68 rfl (by rw [stc_size]; exact info68) ?_)
  | (go_at_call 55; (refine exc_go (behind_calls lg cell C.l3 C.A3 C.c3 s op A B HG.out.1 HG.out.2 _ ⟨blk_cell HC.out.h.lk 3,Kd.C_below HK.out.reads.r3 HC.out.h.b,HK.out.len,HK.out.val⟩ HO.out) (fun e1 w1 H1 hb=>?_) (fun t w1 H1 hb=>?_)); (have HC:=Aside0.mk (HC.out.call hb); exact ⟨rfl,HC.out.k,_,HC.out.h,HW.out.eq,Or.inr ⟨_,(by rw [HE.out,H1.out]; first|done|rfl),rfl⟩⟩); have HC:=Aside0.mk (HC.out.call hb); have h:=HE.out; simp only [H1.out,Except.bind] at h; have HE:=Aside0.mk h; have HF:=Aside0.mk (And.intro (behind_fine cell A B op HG.out.1 HO.out.2.1 H1.out) (behind_rounds cell A B op HG.out.2 H1.out)); clear h hb H1)
  | (refine wpList_store_row rfl 68 _ _ rfl w.heap.size (stc (wd t.1) t.1.length t.2) (by first|rfl|simp) rfl 68 _ HC.out.x (by rw [stc_size]; exact info68) (by simp only [stc_size]) (stc_one _ _ _) ?_; have HC:=Aside0.mk (HC.out.row (stc (wd t.1) t.1.length t.2)); generalize World.setRow w1 w.heap.size (stc (wd t.1) t.1.length t.2)=u5 at HC ⊢)
  | (refine wpList_load_row rfl 68 _ rfl w.heap.size rfl 68 (stc (wd t.1) t.1.length t.2) (0,0) _ HC.out.x Tryd.underlying68 rfl (by rw [stc_size]; exact info68) ?_)
  | (refine wpList_store_row rfl 68 _ _ rfl u5.heap.size (stc (wd t.1) t.1.length t.2) (by first|rfl|simp) rfl 68 _ (heap_alloc_new u5 _) (by rw [stc_size]; exact info68) (by rw [stc_size]; first|done|rfl) (stc_one _ _ _) ?_; have HCx:=HC; have HFB:Aside0 ((World.setRow (u5.alloc (.cells z34_ 68)) u5.heap.size (stc (wd t.1) t.1.length t.2)).heap[u5.heap.size]? = some (.cells (stc (wd t.1) t.1.length t.2) 68 (0,0))):=Aside0.mk (setRow_heap _ _ _ _ 68 (0,0) (heap_alloc_new u5 _)); have HC:Aside0 (Cm w0 C lg m lb w (stc (wd t.1) t.1.length t.2) L (World.setRow (u5.alloc (.cells z34_ 68)) u5.heap.size (stc (wd t.1) t.1.length t.2))):=Aside0.mk (HC.out.call (below_rowOwn _ (Nat.le_refl _))); have HL:Aside0 (w.heap.size < u5.heap.size):=Aside0.mk (blk_lt HCx.out.x); generalize World.setRow (u5.alloc (.cells z34_ 68)) u5.heap.size (stc (wd t.1) t.1.length t.2)=u6 at HC HFB ⊢)
  | (refine wpList_load_row rfl 68 _ rfl u5.heap.size rfl 68 (stc (wd t.1) t.1.length t.2) (0,0) _ HFB.out Tryd.underlying68 rfl (by rw [stc_size]; exact info68) ?_)
  | (go_at_call 57; have hf0:=e8; clear hf0; (refine comes_go t (a+1) (by first|rfl|omega) HF.out.1 HW.out.ok _ HC.out.h (fun x w1 H1 hk hh=>?_) (fun L1 w1 H1 hk hh=>?_)); (have HC:=Aside0.mk (HC.out.comes hk hh); exact ⟨rfl,HC.out.k,_,HC.out.h,HW.out.eq,Or.inr ⟨_,(by rw [HE.out,H1.out]; first|done|rfl),rfl⟩⟩); have HFB:=Aside0.mk (far_keep HC.out HL.out hk HFB.out); have HC:=Aside0.mk (HC.out.comes hk hh); have h:=HE.out; simp only [H1.out,Except.bind] at h; have HE:=Aside0.mk h; have HW:Aside0 (Wd L L1):=Aside0.mk (Wd.mk ((comes_ok HW.out.ok HF.out H1.out).2.trans HW.out.eq) (comes_ok HW.out.ok HF.out H1.out).1); clear h hk hh H1 e8)
  | (go_at_call 57; (refine comes_go t A (by first|rfl|omega) HF.out.1 HW.out.ok _ HC.out.h (fun x w1 H1 hk hh=>?_) (fun L1 w1 H1 hk hh=>?_)); (have HC:=Aside0.mk (HC.out.comes hk hh); exact ⟨rfl,HC.out.k,_,HC.out.h,HW.out.eq,Or.inr ⟨_,(by rw [HE.out,H1.out]; first|done|rfl),rfl⟩⟩); have HFB:=Aside0.mk (far_keep HC.out HL.out hk HFB.out); have HC:=Aside0.mk (HC.out.comes hk hh); have h:=HE.out; simp only [H1.out,Except.bind] at h; have HE:=Aside0.mk h; have HW:Aside0 (Wd L L1):=Aside0.mk (Wd.mk ((comes_ok HW.out.ok HF.out H1.out).2.trans HW.out.eq) (comes_ok HW.out.ok HF.out H1.out).1); clear h hk hh H1))
 go_end0
 exact ⟨HC.out.k,_,HC.out.h,HW.out.eq,Or.inl ⟨HE.out,rfl⟩⟩
set_option maxHeartbeats 8000000 in
set_option maxRecDepth 10000 in
theorem looks_c15 (w0:World) (C:Cv) (cell:Nat→Nat) (hC:CodeOk C cell w0) (lg m lb:Nat) (L:Lk) (hT:TabOk L) (a:Nat) (ha:a < C.l0.length) (op A B:Nat) (hP:PartsAt w0 (rd C.l0 (a:Int)) op A B) (hO:OpsOk C.l3.length op A B) (w:World) (H:Holds w0 C lg m lb L w) (hop:op=15) :
  Calls Tryd.prog 26 #[.pointer (some ⟨lg,0,none⟩),.int .i64 (a:Nat)] w (lEnds w0 C lg m lb L w (looks C.l0.length cell L a op A B)):=by
 have HC:=Aside0.mk (Cm.new H z34_)
 have y4:w.cell? ⟨lg,4,none⟩=some (.map (some m)):=blk_cell H.lk 4
 obtain ⟨es,ck,hm,hT0⟩:=H.mp
 have ql:=lookup1_run hm hT0 a
 obtain ⟨s,hs_⟩:∃ s:St,s=(look a L.tab).getD ([],0):=⟨_,rfl⟩
 rw [← hs_] at ql
 have hg:=got_ok hT a
 rw [← hs_] at hg
 have HG:=Aside0.mk hg
 have HS:=Aside0.mk hs_
 have HT:=Aside0.mk hT
 have HK:=Aside0.mk hC
 have HP:=Aside0.mk hP
 have HO:=Aside0.mk hO
 have HC:=Aside0.mk (HC.out.row (stc (wd s.1) s.1.length s.2))
 obtain ⟨ad,ea,hx⟩:=Kd.at_int (Kd.C_below hC.reads.r0 HC.out.h.b) (a:Int) (Int.natCast_nonneg a) (by omega)
 have y0:(World.setRow (w.alloc (.cells z34_ 68)) w.heap.size (stc (wd s.1) s.1.length s.2)).cell? ⟨lg,0,none⟩=some (.slice (some ad) C.l0.length C.c0):=by
  rw [← ea]; exact blk_cell HC.out.h.lk 0
 have hx':(World.setRow (w.alloc (.cells z34_ 68)) w.heap.size (stc (wd s.1) s.1.length s.2)).cell? (ad.add a)=some (.int .u64 (rd C.l0 (a:Int))):=hx
 obtain ⟨xw,hxw⟩:∃ xw:Int,xw=rd C.l0 (a:Int):=⟨_,rfl⟩
 rw [← hxw] at hx' HP
 clear hx hxw hm hT0 hs_ hg hT hC hP hO H
 have c0:(((op:Nat):Int) == 0)=false:=by simp; omega
 have c13:(((op:Nat):Int) == 13)=false:=by simp; omega
 have c14:(((op:Nat):Int) == 14)=false:=by simp; omega
 have c15:(((op:Nat):Int) == 15)=true:=by simp; omega
 have c17:(((op:Nat):Int) == 17)=false:=by simp; omega
 have c24:(((op:Nat):Int) == 24)=false:=by simp; omega
 have n13:(((op:Nat):Int) != 13)=true:=by simp; omega
 have e8:wrap64 ((a:Int)+1)=(a:Int)+1:=wrap_succ a (by have:=HK.out.size; omega)
 have HE:Aside0 (looks C.l0.length cell L a op A B=(behind cell s A B op).bind fun t=>(comes C.l0.length L (a+1) t).bind fun L1=>comes C.l0.length L1 A t):=⟨by rw [HS.out]; exact looks_14 _ cell L a op A B (by omega)⟩
 have HW:Aside0 (Wd L L):=⟨⟨rfl,HT.out⟩⟩
 clear hop
 go_enter Tryd.func26,Tryd.ntmps26
 go_wp2_with (first
  | (refine wpList_store_row rfl 68 _ _ rfl w.heap.size (stc (wd s.1) s.1.length s.2) (by first|rfl|simp) rfl 68 _ (heap_alloc_new w _) (by rw [stc_size]; exact info68) (by rw [stc_size]; first|done|rfl) (stc_one _ _ _) ?_; generalize World.setRow (w.alloc (.cells z34_ 68)) w.heap.size (stc (wd s.1) s.1.length s.2)=u1 at HC y0 hx' ⊢; clear y4 ql)
  | (go_at_call 52; (refine (HP.out _ HC.out.h.b).mono ?_); rintro e w2 ⟨rfl,hb⟩; have HC:=Aside0.mk (HC.out.call hb); clear hb y0 hx')
  | (refine wpList_load_row rfl 68 _ rfl w.heap.size rfl 68 (stc (wd s.1) s.1.length s.2) (0,0) _ HC.out.x Tryd.underlying68 rfl (by rw [stc_size]; exact info68) ?_)
  | (go_at_call 55; (refine exc_go (behind_calls lg cell C.l3 C.A3 C.c3 s op A B HG.out.1 HG.out.2 _ ⟨blk_cell HC.out.h.lk 3,Kd.C_below HK.out.reads.r3 HC.out.h.b,HK.out.len,HK.out.val⟩ HO.out) (fun e1 w1 H1 hb=>?_) (fun t w1 H1 hb=>?_)); (have HC:=Aside0.mk (HC.out.call hb); exact ⟨rfl,HC.out.k,_,HC.out.h,HW.out.eq,Or.inr ⟨_,(by rw [HE.out,H1.out]; first|done|rfl),rfl⟩⟩); have HC:=Aside0.mk (HC.out.call hb); have h:=HE.out; simp only [H1.out,Except.bind] at h; have HE:=Aside0.mk h; have HF:=Aside0.mk (And.intro (behind_fine cell A B op HG.out.1 HO.out.2.1 H1.out) (behind_rounds cell A B op HG.out.2 H1.out)); clear h hb H1)
  | (refine wpList_store_row rfl 68 _ _ rfl w.heap.size (stc (wd t.1) t.1.length t.2) (by first|rfl|simp) rfl 68 _ HC.out.x (by rw [stc_size]; exact info68) (by simp only [stc_size]) (stc_one _ _ _) ?_; have HC:=Aside0.mk (HC.out.row (stc (wd t.1) t.1.length t.2)); generalize World.setRow w1 w.heap.size (stc (wd t.1) t.1.length t.2)=u5 at HC ⊢)
  | (refine wpList_load_row rfl 68 _ rfl w.heap.size rfl 68 (stc (wd t.1) t.1.length t.2) (0,0) _ HC.out.x Tryd.underlying68 rfl (by rw [stc_size]; exact info68) ?_)
  | (refine wpList_store_row rfl 68 _ _ rfl u5.heap.size (stc (wd t.1) t.1.length t.2) (by first|rfl|simp) rfl 68 _ (heap_alloc_new u5 _) (by rw [stc_size]; exact info68) (by rw [stc_size]; first|done|rfl) (stc_one _ _ _) ?_; have HCx:=HC; have HFB:Aside0 ((World.setRow (u5.alloc (.cells z34_ 68)) u5.heap.size (stc (wd t.1) t.1.length t.2)).heap[u5.heap.size]? = some (.cells (stc (wd t.1) t.1.length t.2) 68 (0,0))):=Aside0.mk (setRow_heap _ _ _ _ 68 (0,0) (heap_alloc_new u5 _)); have HC:Aside0 (Cm w0 C lg m lb w (stc (wd t.1) t.1.length t.2) L (World.setRow (u5.alloc (.cells z34_ 68)) u5.heap.size (stc (wd t.1) t.1.length t.2))):=Aside0.mk (HC.out.call (below_rowOwn _ (Nat.le_refl _))); have HL:Aside0 (w.heap.size < u5.heap.size):=Aside0.mk (blk_lt HCx.out.x); generalize World.setRow (u5.alloc (.cells z34_ 68)) u5.heap.size (stc (wd t.1) t.1.length t.2)=u6 at HC HFB ⊢)
  | (refine wpList_load_row rfl 68 _ rfl u5.heap.size rfl 68 (stc (wd t.1) t.1.length t.2) (0,0) _ HFB.out Tryd.underlying68 rfl (by rw [stc_size]; exact info68) ?_)
  | (go_at_call 57; have hf0:=e8; clear hf0; (refine comes_go t (a+1) (by first|rfl|omega) HF.out.1 HW.out.ok _ HC.out.h (fun x w1 H1 hk hh=>?_) (fun L1 w1 H1 hk hh=>?_)); (have HC:=Aside0.mk (HC.out.comes hk hh); exact ⟨rfl,HC.out.k,_,HC.out.h,HW.out.eq,Or.inr ⟨_,(by rw [HE.out,H1.out]; first|done|rfl),rfl⟩⟩); have HFB:=Aside0.mk (far_keep HC.out HL.out hk HFB.out); have HC:=Aside0.mk (HC.out.comes hk hh); have h:=HE.out; simp only [H1.out,Except.bind] at h; have HE:=Aside0.mk h; have HW:Aside0 (Wd L L1):=Aside0.mk (Wd.mk ((comes_ok HW.out.ok HF.out H1.out).2.trans HW.out.eq) (comes_ok HW.out.ok HF.out H1.out).1); clear h hk hh H1 e8)
  | (go_at_call 57; (refine comes_go t A (by first|rfl|omega) HF.out.1 HW.out.ok _ HC.out.h (fun x w1 H1 hk hh=>?_) (fun L1 w1 H1 hk hh=>?_)); (have HC:=Aside0.mk (HC.out.comes hk hh); exact ⟨rfl,HC.out.k,_,HC.out.h,HW.out.eq,Or.inr ⟨_,(by rw [HE.out,H1.out]; first|done|rfl),rfl⟩⟩); have HFB:=Aside0.mk (far_keep HC.out HL.out hk HFB.out); have HC:=Aside0.mk (HC.out.comes hk hh); have h:=HE.out; simp only [H1.out,Except.bind] at h; have HE:=Aside0.mk h; have HW:Aside0 (Wd L L1):=Aside0.mk (Wd.mk ((comes_ok HW.out.ok HF.out H1.out).2.trans HW.out.eq) (comes_ok HW.out.ok HF.out H1.out).1); clear h hk hh H1))
 go_end0
 exact ⟨HC.out.k,_,HC.out.h,HW.out.eq,Or.inl ⟨HE.out,rfl⟩⟩
set_option maxHeartbeats 8000000 in
set_option maxRecDepth 10000 in
theorem looks_c24 (w0:World) (C:Cv) (cell:Nat→Nat) (hC:CodeOk C cell w0) (lg m lb:Nat) (L:Lk) (hT:TabOk L) (a:Nat) (ha:a < C.l0.length) (op A B:Nat) (hP:PartsAt w0 (rd C.l0 (a:Int)) op A B) (hO:OpsOk C.l3.length op A B) (w:World) (H:Holds w0 C lg m lb L w) (hop:op=24) :
  Calls Tryd.prog 26 #[.pointer (some ⟨lg,0,none⟩),.int .i64 (a:Nat)] w (lEnds w0 C lg m lb L w (looks C.l0.length cell L a op A B)):=by
 have HC:=Aside0.mk (Cm.new H z34_)
 have y4:w.cell? ⟨lg,4,none⟩=some (.map (some m)):=blk_cell H.lk 4
 obtain ⟨es,ck,hm,hT0⟩:=H.mp
 have ql:=lookup1_run hm hT0 a
 obtain ⟨s,hs_⟩:∃ s:St,s=(look a L.tab).getD ([],0):=⟨_,rfl⟩
 rw [← hs_] at ql
 have hg:=got_ok hT a
 rw [← hs_] at hg
 have HG:=Aside0.mk hg
 have HS:=Aside0.mk hs_
 have HT:=Aside0.mk hT
 have HK:=Aside0.mk hC
 have HP:=Aside0.mk hP
 have HO:=Aside0.mk hO
 have HC:=Aside0.mk (HC.out.row (stc (wd s.1) s.1.length s.2))
 obtain ⟨ad,ea,hx⟩:=Kd.at_int (Kd.C_below hC.reads.r0 HC.out.h.b) (a:Int) (Int.natCast_nonneg a) (by omega)
 have y0:(World.setRow (w.alloc (.cells z34_ 68)) w.heap.size (stc (wd s.1) s.1.length s.2)).cell? ⟨lg,0,none⟩=some (.slice (some ad) C.l0.length C.c0):=by
  rw [← ea]; exact blk_cell HC.out.h.lk 0
 have hx':(World.setRow (w.alloc (.cells z34_ 68)) w.heap.size (stc (wd s.1) s.1.length s.2)).cell? (ad.add a)=some (.int .u64 (rd C.l0 (a:Int))):=hx
 obtain ⟨xw,hxw⟩:∃ xw:Int,xw=rd C.l0 (a:Int):=⟨_,rfl⟩
 rw [← hxw] at hx' HP
 clear hx hxw hm hT0 hs_ hg hT hC hP hO H
 have c0:(((op:Nat):Int) == 0)=false:=by simp; omega
 have c13:(((op:Nat):Int) == 13)=false:=by simp; omega
 have c14:(((op:Nat):Int) == 14)=false:=by simp; omega
 have c15:(((op:Nat):Int) == 15)=false:=by simp; omega
 have c17:(((op:Nat):Int) == 17)=false:=by simp; omega
 have c24:(((op:Nat):Int) == 24)=true:=by simp; omega
 have n13:(((op:Nat):Int) != 13)=true:=by simp; omega
 have e8:wrap64 ((a:Int)+1)=(a:Int)+1:=wrap_succ a (by have:=HK.out.size; omega)
 have HE:Aside0 (looks C.l0.length cell L a op A B=(behind cell s A B op).bind fun t=>(comes C.l0.length L (a+1) t).bind fun L1=>comes C.l0.length L1 A (t.1,t.2 - 1)):=⟨by rw [HS.out]; exact by rw [hop]; exact looks_24 _ cell L a A B⟩
 have HW:Aside0 (Wd L L):=⟨⟨rfl,HT.out⟩⟩
 have HQ:=Aside0.mk hop
 clear hop
 go_enter Tryd.func26,Tryd.ntmps26
 go_wp2_with (first
  | (refine wpList_store_row rfl 68 _ _ rfl w.heap.size (stc (wd s.1) s.1.length s.2) (by first|rfl|simp) rfl 68 _ (heap_alloc_new w _) (by rw [stc_size]; exact info68) (by rw [stc_size]; first|done|rfl) (stc_one _ _ _) ?_; generalize World.setRow (w.alloc (.cells z34_ 68)) w.heap.size (stc (wd s.1) s.1.length s.2)=u1 at HC y0 hx' ⊢; clear y4 ql)
  | (go_at_call 52; (refine (HP.out _ HC.out.h.b).mono ?_); rintro e w2 ⟨rfl,hb⟩; have HC:=Aside0.mk (HC.out.call hb); clear hb y0 hx')
  | (refine wpList_load_row rfl 68 _ rfl w.heap.size rfl 68 (stc (wd s.1) s.1.length s.2) (0,0) _ HC.out.x Tryd.underlying68 rfl (by rw [stc_size]; exact info68) ?_)
  | (go_at_call 55; (refine exc_go (behind_calls lg cell C.l3 C.A3 C.c3 s op A B HG.out.1 HG.out.2 _ ⟨blk_cell HC.out.h.lk 3,Kd.C_below HK.out.reads.r3 HC.out.h.b,HK.out.len,HK.out.val⟩ HO.out) (fun e1 w1 H1 hb=>?_) (fun t w1 H1 hb=>?_)); (have HC:=Aside0.mk (HC.out.call hb); exact ⟨rfl,HC.out.k,_,HC.out.h,HW.out.eq,Or.inr ⟨_,(by rw [HE.out,H1.out]; first|done|rfl),rfl⟩⟩); have HC:=Aside0.mk (HC.out.call hb); have h:=HE.out; simp only [H1.out,Except.bind] at h; have HE:=Aside0.mk h; have HF:=Aside0.mk (And.intro (behind_fine cell A B op HG.out.1 HO.out.2.1 H1.out) (behind_rounds cell A B op HG.out.2 H1.out)); have HB1:=Aside0.mk (behind24 HQ.out H1.out); clear h hb H1)
  | (refine wpList_store_row rfl 68 _ _ rfl w.heap.size (stc (wd t.1) t.1.length t.2) (by first|rfl|simp) rfl 68 _ HC.out.x (by rw [stc_size]; exact info68) (by simp only [stc_size]) (stc_one _ _ _) ?_; have HC:=Aside0.mk (HC.out.row (stc (wd t.1) t.1.length t.2)); generalize World.setRow w1 w.heap.size (stc (wd t.1) t.1.length t.2)=u5 at HC ⊢)
  | (refine wpList_load_row rfl 68 _ rfl w.heap.size rfl 68 (stc (wd t.1) t.1.length t.2) (0,0) _ HC.out.x Tryd.underlying68 rfl (by rw [stc_size]; exact info68) ?_)
  | (refine wpList_store_row rfl 68 _ _ rfl u5.heap.size (stc (wd t.1) t.1.length t.2) (by first|rfl|simp) rfl 68 _ (heap_alloc_new u5 _) (by rw [stc_size]; exact info68) (by rw [stc_size]; first|done|rfl) (stc_one _ _ _) ?_; have HCx:=HC; have HFB:Aside0 ((World.setRow (u5.alloc (.cells z34_ 68)) u5.heap.size (stc (wd t.1) t.1.length t.2)).heap[u5.heap.size]? = some (.cells (stc (wd t.1) t.1.length t.2) 68 (0,0))):=Aside0.mk (setRow_heap _ _ _ _ 68 (0,0) (heap_alloc_new u5 _)); have HC:Aside0 (Cm w0 C lg m lb w (stc (wd t.1) t.1.length t.2) L (World.setRow (u5.alloc (.cells z34_ 68)) u5.heap.size (stc (wd t.1) t.1.length t.2))):=Aside0.mk (HC.out.call (below_rowOwn _ (Nat.le_refl _))); have HL:Aside0 (w.heap.size < u5.heap.size):=Aside0.mk (blk_lt HCx.out.x); generalize World.setRow (u5.alloc (.cells z34_ 68)) u5.heap.size (stc (wd t.1) t.1.length t.2)=u6 at HC HFB ⊢; have z33:u6.cell? ⟨u5.heap.size,33,none⟩=some (.int .i64 (t.2:Nat)):=(blk_cell HFB.out 33).trans (stc_r _ _ _); have f33:=blk_frozen HFB.out 33; have e9:=wrap_pred t.2 HF.out.2; have HC:=Aside0.mk (HC.out.other (w'':=u6.setCell ⟨u5.heap.size,33,none⟩ (.int .i64 ((t.2:Int) - 1))) ((Below.refl _ _).setCell HL.out _)); have HFB:=Aside0.mk (blk_put HFB.out 33 (.int .i64 ((t.2:Int) - 1)) (stc24 t HB1.out)))
  | (refine wpList_load_row rfl 68 _ rfl u5.heap.size rfl 68 (stc (wd t.1) t.1.length (t.2 - 1)) (0,0) _ HFB.out Tryd.underlying68 rfl (by rw [stc_size]; exact info68) ?_)
  | (go_at_call 57; have hf0:=e8; clear hf0; (refine comes_go t (a+1) (by first|rfl|omega) HF.out.1 HW.out.ok _ HC.out.h (fun x w1 H1 hk hh=>?_) (fun L1 w1 H1 hk hh=>?_)); (have HC:=Aside0.mk (HC.out.comes hk hh); exact ⟨rfl,HC.out.k,_,HC.out.h,HW.out.eq,Or.inr ⟨_,(by rw [HE.out,H1.out]; first|done|rfl),rfl⟩⟩); have HFB:=Aside0.mk (far_keep HC.out HL.out hk HFB.out); have HC:=Aside0.mk (HC.out.comes hk hh); have h:=HE.out; simp only [H1.out,Except.bind] at h; have HE:=Aside0.mk h; have HW:Aside0 (Wd L L1):=Aside0.mk (Wd.mk ((comes_ok HW.out.ok HF.out H1.out).2.trans HW.out.eq) (comes_ok HW.out.ok HF.out H1.out).1); clear h hk hh H1 e8 z33 f33 e9)
  | (go_at_call 57; (refine comes_go (t.1,t.2 - 1) A (by first|rfl|omega) (far24 HF.out).1 HW.out.ok _ HC.out.h (fun x w1 H1 hk hh=>?_) (fun L1 w1 H1 hk hh=>?_)); (have HC:=Aside0.mk (HC.out.comes hk hh); exact ⟨rfl,HC.out.k,_,HC.out.h,HW.out.eq,Or.inr ⟨_,(by rw [HE.out,H1.out]; first|done|rfl),rfl⟩⟩); have HFB:=Aside0.mk (far_keep HC.out HL.out hk HFB.out); have HC:=Aside0.mk (HC.out.comes hk hh); have h:=HE.out; simp only [H1.out,Except.bind] at h; have HE:=Aside0.mk h; have HW:Aside0 (Wd L L1):=Aside0.mk (Wd.mk ((comes_ok HW.out.ok (far24 HF.out) H1.out).2.trans HW.out.eq) (comes_ok HW.out.ok (far24 HF.out) H1.out).1); clear h hk hh H1))
 go_end0
 exact ⟨HC.out.k,_,HC.out.h,HW.out.eq,Or.inl ⟨HE.out,rfl⟩⟩
set_option maxHeartbeats 8000000 in
set_option maxRecDepth 10000 in
theorem looks_c17 (w0:World) (C:Cv) (cell:Nat→Nat) (hC:CodeOk C cell w0) (lg m lb:Nat) (L:Lk) (hT:TabOk L) (a:Nat) (ha:a < C.l0.length) (op A B:Nat) (hP:PartsAt w0 (rd C.l0 (a:Int)) op A B) (hO:OpsOk C.l3.length op A B) (w:World) (H:Holds w0 C lg m lb L w) (hop:op=17) :
  Calls Tryd.prog 26 #[.pointer (some ⟨lg,0,none⟩),.int .i64 (a:Nat)] w (lEnds w0 C lg m lb L w (looks C.l0.length cell L a op A B)):=by
 have HC:=Aside0.mk (Cm.new H z34_)
 have y4:w.cell? ⟨lg,4,none⟩=some (.map (some m)):=blk_cell H.lk 4
 obtain ⟨es,ck,hm,hT0⟩:=H.mp
 have ql:=lookup1_run hm hT0 a
 obtain ⟨s,hs_⟩:∃ s:St,s=(look a L.tab).getD ([],0):=⟨_,rfl⟩
 rw [← hs_] at ql
 have hg:=got_ok hT a
 rw [← hs_] at hg
 have HG:=Aside0.mk hg
 have HS:=Aside0.mk hs_
 have HT:=Aside0.mk hT
 have HK:=Aside0.mk hC
 have HP:=Aside0.mk hP
 have HO:=Aside0.mk hO
 have HC:=Aside0.mk (HC.out.row (stc (wd s.1) s.1.length s.2))
 obtain ⟨ad,ea,hx⟩:=Kd.at_int (Kd.C_below hC.reads.r0 HC.out.h.b) (a:Int) (Int.natCast_nonneg a) (by omega)
 have y0:(World.setRow (w.alloc (.cells z34_ 68)) w.heap.size (stc (wd s.1) s.1.length s.2)).cell? ⟨lg,0,none⟩=some (.slice (some ad) C.l0.length C.c0):=by
  rw [← ea]; exact blk_cell HC.out.h.lk 0
 have hx':(World.setRow (w.alloc (.cells z34_ 68)) w.heap.size (stc (wd s.1) s.1.length s.2)).cell? (ad.add a)=some (.int .u64 (rd C.l0 (a:Int))):=hx
 obtain ⟨xw,hxw⟩:∃ xw:Int,xw=rd C.l0 (a:Int):=⟨_,rfl⟩
 rw [← hxw] at hx' HP
 clear hx hxw hm hT0 hs_ hg hT hC hP hO H
 have HA:=Aside0.mk (HO.out.2.2.1 (Or.inl hop))
 have c0:(((op:Nat):Int) == 0)=false:=by simp; omega
 have c13:(((op:Nat):Int) == 13)=false:=by simp; omega
 have c14:(((op:Nat):Int) == 14)=false:=by simp; omega
 have c15:(((op:Nat):Int) == 15)=false:=by simp; omega
 have c17:(((op:Nat):Int) == 17)=true:=by simp; omega
 have c24:(((op:Nat):Int) == 24)=false:=by simp; omega
 have n13:(((op:Nat):Int) != 13)=true:=by simp; omega
 have e8:wrap64 ((a:Int)+1)=(a:Int)+1:=wrap_succ a (by have:=HK.out.size; omega)
 have HE:Aside0 (looks C.l0.length cell L a op A B=(behind cell s A B op).bind fun t=>(gets (cell A) t).bind fun far=>(comes C.l0.length L (a+1) t).bind fun L1=>comes C.l0.length L1 B far):=⟨by rw [HS.out]; exact by rw [hop]; exact looks_17 _ cell L a A B⟩
 have HW:Aside0 (Wd L L):=⟨⟨rfl,HT.out⟩⟩
 clear hop
 go_enter Tryd.func26,Tryd.ntmps26
 go_wp2_with (first
  | (refine wpList_store_row rfl 68 _ _ rfl w.heap.size (stc (wd s.1) s.1.length s.2) (by first|rfl|simp) rfl 68 _ (heap_alloc_new w _) (by rw [stc_size]; exact info68) (by rw [stc_size]; first|done|rfl) (stc_one _ _ _) ?_; generalize World.setRow (w.alloc (.cells z34_ 68)) w.heap.size (stc (wd s.1) s.1.length s.2)=u1 at HC y0 hx' ⊢; clear y4 ql)
  | (go_at_call 52; (refine (HP.out _ HC.out.h.b).mono ?_); rintro e w2 ⟨rfl,hb⟩; have HC:=Aside0.mk (HC.out.call hb); clear hb y0 hx')
  | (refine wpList_load_row rfl 68 _ rfl w.heap.size rfl 68 (stc (wd s.1) s.1.length s.2) (0,0) _ HC.out.x Tryd.underlying68 rfl (by rw [stc_size]; exact info68) ?_)
  | (go_at_call 55; (refine exc_go (behind_calls lg cell C.l3 C.A3 C.c3 s op A B HG.out.1 HG.out.2 _ ⟨blk_cell HC.out.h.lk 3,Kd.C_below HK.out.reads.r3 HC.out.h.b,HK.out.len,HK.out.val⟩ HO.out) (fun e1 w1 H1 hb=>?_) (fun t w1 H1 hb=>?_)); (have HC:=Aside0.mk (HC.out.call hb); exact ⟨rfl,HC.out.k,_,HC.out.h,HW.out.eq,Or.inr ⟨_,(by rw [HE.out,H1.out]; first|done|rfl),rfl⟩⟩); have HC:=Aside0.mk (HC.out.call hb); have h:=HE.out; simp only [H1.out,Except.bind] at h; have HE:=Aside0.mk h; have HF:=Aside0.mk (And.intro (behind_fine cell A B op HG.out.1 HO.out.2.1 H1.out) (behind_rounds cell A B op HG.out.2 H1.out)); clear h hb H1)
  | (refine wpList_store_row rfl 68 _ _ rfl w.heap.size (stc (wd t.1) t.1.length t.2) (by first|rfl|simp) rfl 68 _ HC.out.x (by rw [stc_size]; exact info68) (by simp only [stc_size]) (stc_one _ _ _) ?_; have HC:=Aside0.mk (HC.out.row (stc (wd t.1) t.1.length t.2)); generalize World.setRow w1 w.heap.size (stc (wd t.1) t.1.length t.2)=u5 at HC ⊢)
  | (refine wpList_load_row rfl 68 _ rfl w.heap.size rfl 68 (stc (wd t.1) t.1.length t.2) (0,0) _ HC.out.x Tryd.underlying68 rfl (by rw [stc_size]; exact info68) ?_)
  | (refine wpList_store_row rfl 68 _ _ rfl u5.heap.size (stc (wd t.1) t.1.length t.2) (by first|rfl|simp) rfl 68 _ (heap_alloc_new u5 _) (by rw [stc_size]; exact info68) (by rw [stc_size]; first|done|rfl) (stc_one _ _ _) ?_; have HCx:=HC; have HFB:Aside0 ((World.setRow (u5.alloc (.cells z34_ 68)) u5.heap.size (stc (wd t.1) t.1.length t.2)).heap[u5.heap.size]? = some (.cells (stc (wd t.1) t.1.length t.2) 68 (0,0))):=Aside0.mk (setRow_heap _ _ _ _ 68 (0,0) (heap_alloc_new u5 _)); have HC:Aside0 (Cm w0 C lg m lb w (stc (wd t.1) t.1.length t.2) L (World.setRow (u5.alloc (.cells z34_ 68)) u5.heap.size (stc (wd t.1) t.1.length t.2))):=Aside0.mk (HC.out.call (below_rowOwn _ (Nat.le_refl _))); have HL:Aside0 (w.heap.size < u5.heap.size):=Aside0.mk (blk_lt HCx.out.x); generalize World.setRow (u5.alloc (.cells z34_ 68)) u5.heap.size (stc (wd t.1) t.1.length t.2)=u6 at HC HFB ⊢))
 obtain ⟨ae,ee,hx3⟩:=Kd.at_int (Kd.C_below HK.out.reads.r3 HC.out.h.b) (A:Int) (Int.natCast_nonneg A) (by have:=HA.out; omega)
 rw [HK.out.val A HA.out] at hx3
 have hk3:u6.cell? ⟨lg,3,none⟩=some (.slice (some ae) C.l3.length C.c3):=by
  rw [← ee]; exact blk_cell HC.out.h.lk 3
 have hk4:u6.cell? (ae.add A)=some (.int .i64 ((cell A:Nat):Int)):=hx3
 have hlA:=HA.out
 clear hx3
 refine start_ (n:=11) (S:=fun w'=>w'.cell? ⟨lg,3,none⟩=some (.slice (some ae) C.l3.length C.c3)∧w'.cell? (ae.add A)=some (.int .i64 ((cell A:Nat):Int))) (ds:=[10]) #[false,false,false,false,false,false,false,false,false,false,false] (by kernel_rfl) rfl rfl ⟨hk3,hk4⟩ (fun hHeld=>?_)
 have HC:=Aside0.mk HC.out.drew
 have HFB:Aside0 (u6.drew.heap[u5.heap.size]? = some (.cells (stc (wd t.1) t.1.length t.2) 68 (0,0))):=⟨HFB.out⟩
 generalize World.drew u6=u7 at HC HFB hHeld ⊢
 refine pure_ (i:=1) (N:=some 73) (v:=?_) (a':=?_) (bl_ 11 2) rfl rfl (by kernel_rfl) (fun _ _ _ h=>h) (Or.inl ⟨by rfl,?_⟩) ?_ ?_
 rotate_left
 ·intro w'
  go_simp
  with_reducible rfl
 rotate_left
 ·simp only [Act.put,zA_,zB_,zC_,i64_w]
  rfl
 refine pure_ (i:=2) (N:=some 74) (v:=?_) (a':=?_) (bl_ 11 6) rfl rfl (by kernel_rfl) (fun _ _ _ h=>h) (Or.inl ⟨by rfl,?_⟩) ?_ ?_
 rotate_left
 ·intro w'
  go_simp
  with_reducible rfl
 rotate_left
 ·simp only [Act.put,zA_,zB_,zC_,i64_w]
  rfl
 refine pure_ (i:=3) (N:=some 75) (v:=?_) (a':=?_) (bl_ 11 14) rfl rfl (by kernel_rfl) (fun _ _ _ h=>h) (Or.inl ⟨by rfl,?_⟩) ?_ ?_
 rotate_left
 ·intro w'
  go_simp
  with_reducible rfl
 rotate_left
 ·simp only [Act.put,zA_,zB_,zC_,i64_w]
  rfl
 refine pure_ (i:=4) (N:=some 76) (v:=?_) (a':=?_) (bl_ 11 30) rfl rfl (by kernel_rfl) (fun _ _ _ h=>h) (Or.inl ⟨by rfl,?_⟩) ?_ ?_
 rotate_left
 ·intro w'
  go_simp
  with_reducible rfl
 rotate_left
 ·simp only [Act.put,zA_,zB_,zC_,i64_w]
  rfl
 refine pure_ (i:=6) (N:=some 78) (v:=?_) (a':=?_) (bl_ 11 94) rfl rfl (by kernel_rfl) (fun _ _ _ h=>h) (Or.inl ⟨by rfl,?_⟩) ?_ ?_
 rotate_left
 ·intro w'
  go_simp
  with_reducible rfl
 rotate_left
 ·simp only [Act.put,zA_,zB_,zC_,i64_w]
  rfl
 refine take_ (i:=5) (N:=some 77) (v:=?_) (a':=?_) (bl_ 11 126) rfl rfl (by kernel_rfl) (fun _ _ _ h=>h) (Or.inl ⟨by rfl,?_⟩) hHeld ?_ ?_
 rotate_left
 ·rintro w' ⟨s0,s1⟩
  go_simp
  with_reducible rfl
 rotate_left
 ·simp only [Act.put,zA_,zB_,zC_,i64_w]
  rfl
 refine pure_ (i:=7) (N:=some 79) (v:=?_) (a':=?_) (bl_ 11 254) rfl rfl (by kernel_rfl) (fun _ _ _ h=>h) (Or.inl ⟨by rfl,?_⟩) ?_ ?_
 rotate_left
 ·intro w'
  go_simp
  with_reducible rfl
 rotate_left
 ·simp only [Act.put,zA_,zB_,zC_,i64_w]
  rfl
 refine take_ (i:=8) (N:=some 80) (v:=?_) (a':=?_) (bl_ 11 510) rfl rfl (by kernel_rfl) (fun _ _ _ h=>h) (Or.inl ⟨by rfl,?_⟩) hHeld ?_ ?_
 rotate_left
 ·rintro w' ⟨s0,s1⟩
  go_simp
  with_reducible rfl
 rotate_left
 ·simp only [Act.put,zA_,zB_,zC_,i64_w]
  rfl
 refine one_ (i:=0) (N:=some 72) (bl_ 11 511) rfl rfl (by kernel_rfl) (by decide) (fun K hK=>?_)
 refine rowL_ 68 (.tmp 4) (by rfl) rfl rfl w.heap.size rfl 68 (stc (wd t.1) t.1.length t.2) (0,0) _ HC.out.x Tryd.underlying68 rfl (by rw [stc_size]; exact info68) ?_
 refine hK.out _ _ ⟨hHeld.1,hHeld.2⟩ (fun hHeld=>?_)
 clear hK K
 refine norm_ (a':=?_) ?_ ?_
 rotate_left
 ·show Act.put _ (some 72) _=_
  simp only [Act.put,zA_,zB_,zC_,i64_w]
  rfl
 refine one_ (i:=9) (N:=some 81) (bl_ 11 1023) rfl rfl (by kernel_rfl) (by decide) (fun K hK=>?_)
 refine goesE_ Tryd.func56 (by kernel_rfl) rfl #[.agg (stc (wd t.1) t.1.length t.2),.int .i64 ((cell A:Nat):Int)] (by rfl) rfl rfl (by (try simp only [List.map_toArray,List.map_cons,List.map_nil]); first|done|rfl) ?_
 refine exc_go (gets_calls t (cell A) HF.out.1 (HK.out.kind A HA.out).2 _) (fun e1 w1 H1 hb=>Or.inr ⟨_,rfl,?_⟩) (fun v w1 H1 hb=>Or.inl ⟨_,rfl,?_⟩)
 ·have HC:=Aside0.mk (HC.out.call hb)
  exact ⟨rfl,HC.out.k,_,HC.out.h,HW.out.eq,Or.inr ⟨_,(by rw [HE.out,H1.out]; first|done|rfl),rfl⟩⟩
 have HC:=Aside0.mk (HC.out.call hb)
 have HFB:=Aside0.mk (blk_below HFB.out hb)
 have h:=HE.out
 simp only [H1.out,Except.bind] at h
 have HE:=Aside0.mk h
 have HV:Aside0 (Fine v∧v.2≤4):=Aside0.mk ⟨gets_fine HF.out.1 (HK.out.kind A HA.out) H1.out,by rw [rounds_gets H1.out]; exact HF.out.2⟩
 clear h
 refine hK.out _ _ ⟨(below_cell hb hHeld.1),(below_cell hb hHeld.2)⟩ (fun hHeld=>?_)
 clear hK K
 refine norm_ (a':=?_) ?_ ?_
 rotate_left
 ·show Act.put _ (some 81) _=_
  simp only [Act.put,zA_,zB_,zC_,i64_w]
  rfl
 refine last_ (i:=10) (N:=none) (bl_ 11 2047) rfl rfl (by kernel_rfl) (by decide) (fun K hK=>?_)
 refine rowS_ 68 (.tmp 8) (.tmp 81) (by rfl) rfl rfl u5.heap.size (stc (wd v.1) v.1.length v.2) rfl rfl 68 (stc (wd t.1) t.1.length t.2) HFB.out (by rw [stc_size]; exact info68) (by simp only [stc_size]) (stc_one _ _ _) ?_
 refine hK.out _ _ ?_
 clear hK K
 refine done_ (by kernel_rfl) ?_
 have HC:=Aside0.mk (HC.out.other (below_setRow (Below.refl _ _) HL.out (stc (wd v.1) v.1.length v.2)))
 have HFB:=Aside0.mk (setRow_heap _ _ _ (stc (wd v.1) v.1.length v.2) 68 (0,0) HFB.out)
 generalize World.setRow w1 u5.heap.size (stc (wd v.1) v.1.length v.2)=u8 at HC HFB ⊢
 go_wp2_with (first
  | (refine wpList_load_row rfl 68 _ rfl w.heap.size rfl 68 (stc (wd t.1) t.1.length t.2) (0,0) _ HC.out.x Tryd.underlying68 rfl (by rw [stc_size]; exact info68) ?_)
  | (refine wpList_load_row rfl 68 _ rfl u5.heap.size rfl 68 (stc (wd v.1) v.1.length v.2) (0,0) _ HFB.out Tryd.underlying68 rfl (by rw [stc_size]; exact info68) ?_)
  | (go_at_call 57; have hf0:=e8; clear hf0; (refine comes_go t (a+1) (by first|rfl|omega) HF.out.1 HW.out.ok _ HC.out.h (fun x w1 H1 hk hh=>?_) (fun L1 w1 H1 hk hh=>?_)); (have HC:=Aside0.mk (HC.out.comes hk hh); exact ⟨rfl,HC.out.k,_,HC.out.h,HW.out.eq,Or.inr ⟨_,(by rw [HE.out,H1.out]; first|done|rfl),rfl⟩⟩); have HFB:=Aside0.mk (far_keep HC.out HL.out hk HFB.out); have HC:=Aside0.mk (HC.out.comes hk hh); have h:=HE.out; simp only [H1.out,Except.bind] at h; have HE:=Aside0.mk h; have HW:Aside0 (Wd L L1):=Aside0.mk (Wd.mk ((comes_ok HW.out.ok HF.out H1.out).2.trans HW.out.eq) (comes_ok HW.out.ok HF.out H1.out).1); clear h hk hh H1 e8)
  | (go_at_call 57; (refine comes_go v B (by first|rfl|omega) HV.out.1 HW.out.ok _ HC.out.h (fun x w1 H1 hk hh=>?_) (fun L1 w1 H1 hk hh=>?_)); (have HC:=Aside0.mk (HC.out.comes hk hh); exact ⟨rfl,HC.out.k,_,HC.out.h,HW.out.eq,Or.inr ⟨_,(by rw [HE.out,H1.out]; first|done|rfl),rfl⟩⟩); have HFB:=Aside0.mk (far_keep HC.out HL.out hk HFB.out); have HC:=Aside0.mk (HC.out.comes hk hh); have h:=HE.out; simp only [H1.out,Except.bind] at h; have HE:=Aside0.mk h; have HW:Aside0 (Wd L L1):=Aside0.mk (Wd.mk ((comes_ok HW.out.ok HV.out H1.out).2.trans HW.out.eq) (comes_ok HW.out.ok HV.out H1.out).1); clear h hk hh H1))
 go_end0
 exact ⟨HC.out.k,_,HC.out.h,HW.out.eq,Or.inl ⟨HE.out,rfl⟩⟩
set_option maxHeartbeats 8000000 in
set_option maxRecDepth 10000 in
theorem looks_h1 (w0:World) (C:Cv) (cell:Nat→Nat) (hC:CodeOk C cell w0) (lg m lb:Nat) (L:Lk) (hT:TabOk L) (a:Nat) (ha:a < C.l0.length) (op A B:Nat) (hP:PartsAt w0 (rd C.l0 (a:Int)) op A B) (hO:OpsOk C.l3.length op A B) (w:World) (H:Holds w0 C lg m lb L w) (hop:op=0) (h1:((look a L.tab).getD ([],0)).1.length≠1) :
  Calls Tryd.prog 26 #[.pointer (some ⟨lg,0,none⟩),.int .i64 (a:Nat)] w (lEnds w0 C lg m lb L w (looks C.l0.length cell L a op A B)):=by
 have HC:=Aside0.mk (Cm.new H z34_)
 have y4:w.cell? ⟨lg,4,none⟩=some (.map (some m)):=blk_cell H.lk 4
 obtain ⟨es,ck,hm,hT0⟩:=H.mp
 have ql:=lookup1_run hm hT0 a
 obtain ⟨s,hs_⟩:∃ s:St,s=(look a L.tab).getD ([],0):=⟨_,rfl⟩
 rw [← hs_] at ql
 have hg:=got_ok hT a
 rw [← hs_] at hg
 have HG:=Aside0.mk hg
 have HS:=Aside0.mk hs_
 have HT:=Aside0.mk hT
 have HK:=Aside0.mk hC
 have HP:=Aside0.mk hP
 have HO:=Aside0.mk hO
 have HC:=Aside0.mk (HC.out.row (stc (wd s.1) s.1.length s.2))
 obtain ⟨ad,ea,hx⟩:=Kd.at_int (Kd.C_below hC.reads.r0 HC.out.h.b) (a:Int) (Int.natCast_nonneg a) (by omega)
 have y0:(World.setRow (w.alloc (.cells z34_ 68)) w.heap.size (stc (wd s.1) s.1.length s.2)).cell? ⟨lg,0,none⟩=some (.slice (some ad) C.l0.length C.c0):=by
  rw [← ea]; exact blk_cell HC.out.h.lk 0
 have hx':(World.setRow (w.alloc (.cells z34_ 68)) w.heap.size (stc (wd s.1) s.1.length s.2)).cell? (ad.add a)=some (.int .u64 (rd C.l0 (a:Int))):=hx
 obtain ⟨xw,hxw⟩:∃ xw:Int,xw=rd C.l0 (a:Int):=⟨_,rfl⟩
 rw [← hxw] at hx' HP
 rw [← hs_] at h1
 clear hx hxw hm hT0 hs_ hg hT hC hP hO H
 have c0:(((op:Nat):Int) == 0)=true:=by simp; omega
 have n1:(((s.1.length:Nat):Int) == 1)=false:=by simp; omega
 have HE:Aside0 (looks C.l0.length cell L a op A B=.error 201):=⟨by rw [hop]; show haltOf L ((look a L.tab).getD ([],0))=_; rw [← HS.out]; unfold haltOf; rw [if_neg (by omega)]⟩
 clear hop
 go_enter Tryd.func26,Tryd.ntmps26
 go_wp2_with (first
  | go_skip
  | (refine wpList_store_row rfl 68 _ _ rfl w.heap.size (stc (wd s.1) s.1.length s.2) (by first|rfl|simp) rfl 68 _ (heap_alloc_new w _) (by rw [stc_size]; exact info68) (by rw [stc_size]; first|done|rfl) (stc_one _ _ _) ?_; generalize World.setRow (w.alloc (.cells z34_ 68)) w.heap.size (stc (wd s.1) s.1.length s.2)=u1 at HC y0 hx' ⊢; clear y4 ql)
  | (go_at_call 52; (refine (HP.out _ HC.out.h.b).mono ?_); rintro e w2 ⟨rfl,hb⟩; have HC:=Aside0.mk (HC.out.call hb); clear hb y0 hx'; have x32:w2.cell? ⟨w.heap.size,32,none⟩=some (.int .i64 (s.1.length:Nat)):=(blk_cell HC.out.x 32).trans (stc_h _ _ _); have x33:w2.cell? ⟨w.heap.size,33,none⟩=some (.int .i64 (s.2:Nat)):=(blk_cell HC.out.x 33).trans (stc_r _ _ _))
  | (go_at_call 53; (refine (must_no 201 _).mono ?_); rintro e w3 ⟨rfl,rfl⟩))
 exact ⟨rfl,HC.out.k,_,HC.out.h,rfl,Or.inr ⟨_,HE.out,rfl⟩⟩
set_option maxHeartbeats 8000000 in
set_option maxRecDepth 10000 in
theorem looks_h2 (w0:World) (C:Cv) (cell:Nat→Nat) (hC:CodeOk C cell w0) (lg m lb:Nat) (L:Lk) (hT:TabOk L) (a:Nat) (ha:a < C.l0.length) (op A B:Nat) (hP:PartsAt w0 (rd C.l0 (a:Int)) op A B) (hO:OpsOk C.l3.length op A B) (w:World) (H:Holds w0 C lg m lb L w) (hop:op=0) (h1:((look a L.tab).getD ([],0)).1.length=1) (h2:((look a L.tab).getD ([],0)).2≠0) :
  Calls Tryd.prog 26 #[.pointer (some ⟨lg,0,none⟩),.int .i64 (a:Nat)] w (lEnds w0 C lg m lb L w (looks C.l0.length cell L a op A B)):=by
 have HC:=Aside0.mk (Cm.new H z34_)
 have y4:w.cell? ⟨lg,4,none⟩=some (.map (some m)):=blk_cell H.lk 4
 obtain ⟨es,ck,hm,hT0⟩:=H.mp
 have ql:=lookup1_run hm hT0 a
 obtain ⟨s,hs_⟩:∃ s:St,s=(look a L.tab).getD ([],0):=⟨_,rfl⟩
 rw [← hs_] at ql
 have hg:=got_ok hT a
 rw [← hs_] at hg
 have HG:=Aside0.mk hg
 have HS:=Aside0.mk hs_
 have HT:=Aside0.mk hT
 have HK:=Aside0.mk hC
 have HP:=Aside0.mk hP
 have HO:=Aside0.mk hO
 have HC:=Aside0.mk (HC.out.row (stc (wd s.1) s.1.length s.2))
 obtain ⟨ad,ea,hx⟩:=Kd.at_int (Kd.C_below hC.reads.r0 HC.out.h.b) (a:Int) (Int.natCast_nonneg a) (by omega)
 have y0:(World.setRow (w.alloc (.cells z34_ 68)) w.heap.size (stc (wd s.1) s.1.length s.2)).cell? ⟨lg,0,none⟩=some (.slice (some ad) C.l0.length C.c0):=by
  rw [← ea]; exact blk_cell HC.out.h.lk 0
 have hx':(World.setRow (w.alloc (.cells z34_ 68)) w.heap.size (stc (wd s.1) s.1.length s.2)).cell? (ad.add a)=some (.int .u64 (rd C.l0 (a:Int))):=hx
 obtain ⟨xw,hxw⟩:∃ xw:Int,xw=rd C.l0 (a:Int):=⟨_,rfl⟩
 rw [← hxw] at hx' HP
 rw [← hs_] at h1 h2
 clear hx hxw hm hT0 hs_ hg hT hC hP hO H
 have c0:(((op:Nat):Int) == 0)=true:=by simp; omega
 have n1:(((s.1.length:Nat):Int) == 1)=true:=by rw [h1]; rfl
 have n2:(((s.2:Nat):Int) == 0)=false:=by simp; omega
 have HE:Aside0 (looks C.l0.length cell L a op A B=.error 201):=⟨by rw [hop]; show haltOf L ((look a L.tab).getD ([],0))=_; rw [← HS.out]; unfold haltOf; rw [if_neg (by omega)]⟩
 clear hop
 go_enter Tryd.func26,Tryd.ntmps26
 go_wp2_with (first
  | go_skip
  | (refine wpList_store_row rfl 68 _ _ rfl w.heap.size (stc (wd s.1) s.1.length s.2) (by first|rfl|simp) rfl 68 _ (heap_alloc_new w _) (by rw [stc_size]; exact info68) (by rw [stc_size]; first|done|rfl) (stc_one _ _ _) ?_; generalize World.setRow (w.alloc (.cells z34_ 68)) w.heap.size (stc (wd s.1) s.1.length s.2)=u1 at HC y0 hx' ⊢; clear y4 ql)
  | (go_at_call 52; (refine (HP.out _ HC.out.h.b).mono ?_); rintro e w2 ⟨rfl,hb⟩; have HC:=Aside0.mk (HC.out.call hb); clear hb y0 hx'; have x32:w2.cell? ⟨w.heap.size,32,none⟩=some (.int .i64 (s.1.length:Nat)):=(blk_cell HC.out.x 32).trans (stc_h _ _ _); have x33:w2.cell? ⟨w.heap.size,33,none⟩=some (.int .i64 (s.2:Nat)):=(blk_cell HC.out.x 33).trans (stc_r _ _ _))
  | (go_at_call 53; (refine (must_no 201 _).mono ?_); rintro e w3 ⟨rfl,rfl⟩))
 exact ⟨rfl,HC.out.k,_,HC.out.h,rfl,Or.inr ⟨_,HE.out,rfl⟩⟩
set_option maxHeartbeats 8000000 in
set_option maxRecDepth 10000 in
theorem looks_hz (w0:World) (C:Cv) (cell:Nat→Nat) (hC:CodeOk C cell w0) (lg m lb:Nat) (L:Lk) (hT:TabOk L) (a:Nat) (ha:a < C.l0.length) (op A B:Nat) (hP:PartsAt w0 (rd C.l0 (a:Int)) op A B) (hO:OpsOk C.l3.length op A B) (w:World) (H:Holds w0 C lg m lb L w) (hop:op=0) (h1:((look a L.tab).getD ([],0)).1.length=1) (h2:((look a L.tab).getD ([],0)).2=0) (h3:L.kind=0) :
  Calls Tryd.prog 26 #[.pointer (some ⟨lg,0,none⟩),.int .i64 (a:Nat)] w (lEnds w0 C lg m lb L w (looks C.l0.length cell L a op A B)):=by
 have HC:=Aside0.mk (Cm.new H z34_)
 have y4:w.cell? ⟨lg,4,none⟩=some (.map (some m)):=blk_cell H.lk 4
 obtain ⟨es,ck,hm,hT0⟩:=H.mp
 have ql:=lookup1_run hm hT0 a
 obtain ⟨s,hs_⟩:∃ s:St,s=(look a L.tab).getD ([],0):=⟨_,rfl⟩
 rw [← hs_] at ql
 have hg:=got_ok hT a
 rw [← hs_] at hg
 have HG:=Aside0.mk hg
 have HS:=Aside0.mk hs_
 have HT:=Aside0.mk hT
 have HK:=Aside0.mk hC
 have HP:=Aside0.mk hP
 have HO:=Aside0.mk hO
 have HC:=Aside0.mk (HC.out.row (stc (wd s.1) s.1.length s.2))
 obtain ⟨ad,ea,hx⟩:=Kd.at_int (Kd.C_below hC.reads.r0 HC.out.h.b) (a:Int) (Int.natCast_nonneg a) (by omega)
 have y0:(World.setRow (w.alloc (.cells z34_ 68)) w.heap.size (stc (wd s.1) s.1.length s.2)).cell? ⟨lg,0,none⟩=some (.slice (some ad) C.l0.length C.c0):=by
  rw [← ea]; exact blk_cell HC.out.h.lk 0
 have hx':(World.setRow (w.alloc (.cells z34_ 68)) w.heap.size (stc (wd s.1) s.1.length s.2)).cell? (ad.add a)=some (.int .u64 (rd C.l0 (a:Int))):=hx
 obtain ⟨xw,hxw⟩:∃ xw:Int,xw=rd C.l0 (a:Int):=⟨_,rfl⟩
 rw [← hxw] at hx' HP
 rw [← hs_] at h1 h2
 clear hx hxw hm hT0 hs_ hg hT hC hP hO H
 have c0:(((op:Nat):Int) == 0)=true:=by simp; omega
 have n1:(((s.1.length:Nat):Int) == 1)=true:=by rw [h1]; rfl
 have n2:(((s.2:Nat):Int) == 0)=true:=by rw [h2]; rfl
 have k0:(((L.kind:Nat):Int) == 0)=true:=by rw [h3]; rfl
 have HE:Aside0 (looks C.l0.length cell L a op A B=.ok { L with kind:=topv (wd s.1) s.1.length }):=⟨by rw [hop]; show haltOf L ((look a L.tab).getD ([],0))=_; rw [← HS.out]; unfold haltOf; rw [if_pos ⟨h1,h2⟩,if_pos (Or.inl h3)]⟩
 clear hop h1 h2 h3
 go_enter Tryd.func26,Tryd.ntmps26
 go_wp2_with (first
  | go_skip
  | (refine wpList_store_row rfl 68 _ _ rfl w.heap.size (stc (wd s.1) s.1.length s.2) (by first|rfl|simp) rfl 68 _ (heap_alloc_new w _) (by rw [stc_size]; exact info68) (by rw [stc_size]; first|done|rfl) (stc_one _ _ _) ?_; generalize World.setRow (w.alloc (.cells z34_ 68)) w.heap.size (stc (wd s.1) s.1.length s.2)=u1 at HC y0 hx' ⊢; clear y4 ql)
  | (go_at_call 52; (refine (HP.out _ HC.out.h.b).mono ?_); rintro e w2 ⟨rfl,hb⟩; have HC:=Aside0.mk (HC.out.call hb); clear hb y0 hx'; have x32:w2.cell? ⟨w.heap.size,32,none⟩=some (.int .i64 (s.1.length:Nat)):=(blk_cell HC.out.x 32).trans (stc_h _ _ _); have x33:w2.cell? ⟨w.heap.size,33,none⟩=some (.int .i64 (s.2:Nat)):=(blk_cell HC.out.x 33).trans (stc_r _ _ _))
  | (go_at_call 53; (refine (must_yes 201 _).mono ?_); rintro e w3 ⟨rfl,rfl⟩))
 refine start_ (n:=17) (S:=fun w'=>w'.cell? ⟨lg,10,none⟩=some (.int .i64 (L.kind:Nat))) (ds:=[]) #[false,false,false,false,false,false,false,false,false,false,false,false,false,false,false,false,false] (by kernel_rfl) rfl rfl ((blk_cell HC.out.h.lk 10)) (fun hHeld=>?_)
 have HC:=Aside0.mk HC.out.drew
 generalize World.drew w3=u5 at HC hHeld ⊢
 refine pure_ (i:=0) (N:=some 39) (v:=?_) (a':=?_) (bl_ 17 1) rfl rfl (by kernel_rfl) (fun _ _ _ h=>h) (Or.inl ⟨by rfl,?_⟩) ?_ ?_
 rotate_left
 ·intro w'
  go_simp
  with_reducible rfl
 rotate_left
 ·simp only [Act.put,zA_,zB_,zC_,i64_w]
  rfl
 refine pure_ (i:=1) (N:=some 40) (v:=?_) (a':=?_) (bl_ 17 3) rfl rfl (by kernel_rfl) (fun _ _ _ h=>h) (Or.inl ⟨by rfl,?_⟩) ?_ ?_
 rotate_left
 ·intro w'
  go_simp
  with_reducible rfl
 rotate_left
 ·simp only [Act.put,zA_,zB_,zC_,i64_w]
  rfl
 refine pure_ (i:=2) (N:=some 41) (v:=?_) (a':=?_) (bl_ 17 7) rfl rfl (by kernel_rfl) (fun _ _ _ h=>h) (Or.inl ⟨by rfl,?_⟩) ?_ ?_
 rotate_left
 ·intro w'
  go_simp
  with_reducible rfl
 rotate_left
 ·simp only [Act.put,zA_,zB_,zC_,i64_w]
  rfl
 refine pure_ (i:=3) (N:=some 42) (v:=?_) (a':=?_) (bl_ 17 15) rfl rfl (by kernel_rfl) (fun _ _ _ h=>h) (Or.inl ⟨by rfl,?_⟩) ?_ ?_
 rotate_left
 ·intro w'
  go_simp
  with_reducible rfl
 rotate_left
 ·simp only [Act.put,zA_,zB_,zC_,i64_w]
  rfl
 refine take_ (i:=4) (N:=some 43) (v:=?_) (a':=?_) (bl_ 17 31) rfl rfl (by kernel_rfl) (fun _ _ _ h=>h) (Or.inl ⟨by rfl,?_⟩) hHeld ?_ ?_
 rotate_left
 ·intro w' s0
  go_simp
  with_reducible rfl
 rotate_left
 ·simp only [Act.put,zA_,zB_,zC_,i64_w]
  rfl
 refine one_ (i:=5) (N:=some 44) (bl_ 17 63) rfl rfl (by kernel_rfl) (by decide) (fun K hK=>?_)
 refine value_ (w1:=u5) (v:=.bool true) (by rfl) rfl (by go_simp; first|done|(rw [k0])|(simp [k0])) ?_
 refine hK.out _ _ (hHeld) (fun hHeld=>?_)
 clear hK K
 refine norm_ (a':=?_) ?_ ?_
 rotate_left
 ·show Act.put _ (some 44) _=_
  simp only [Act.put,zA_,zB_,zC_,i64_w]
  rfl
 refine pure_ (i:=6) (N:=some 45) (v:=?_) (a':=?_) (bl_ 17 127) rfl rfl (by kernel_rfl) (fun _ _ _ h=>h) (Or.inl ⟨by rfl,?_⟩) ?_ ?_
 rotate_left
 ·intro w'
  go_simp
  with_reducible rfl
 rotate_left
 ·simp only [Act.put,zA_,zB_,zC_,i64_w]
  rfl
 refine pure_ (i:=7) (N:=some 46) (v:=undef) (a':=?_) (bl_ 17 255) rfl rfl (by kernel_rfl) (fun _ _ _ h=>h) (Or.inr ⟨by rfl,rfl⟩) ?_ ?_
 rotate_left
 ·simp only [Act.put,zA_,zB_,zC_,i64_w]
  rfl
 refine pure_ (i:=8) (N:=some 47) (v:=undef) (a':=?_) (bl_ 17 511) rfl rfl (by kernel_rfl) (fun _ _ _ h=>h) (Or.inr ⟨by rfl,rfl⟩) ?_ ?_
 rotate_left
 ·simp only [Act.put,zA_,zB_,zC_,i64_w]
  rfl
 refine pure_ (i:=9) (N:=some 48) (v:=undef) (a':=?_) (bl_ 17 1023) rfl rfl (by kernel_rfl) (fun _ _ _ h=>h) (Or.inr ⟨by rfl,rfl⟩) ?_ ?_
 rotate_left
 ·simp only [Act.put,zA_,zB_,zC_,i64_w]
  rfl
 refine pure_ (i:=10) (N:=some 49) (v:=undef) (a':=?_) (bl_ 17 2047) rfl rfl (by kernel_rfl) (fun _ _ _ h=>h) (Or.inr ⟨by rfl,rfl⟩) ?_ ?_
 rotate_left
 ·simp only [Act.put,zA_,zB_,zC_,i64_w]
  rfl
 refine pure_ (i:=11) (N:=some 50) (v:=undef) (a':=?_) (bl_ 17 4095) rfl rfl (by kernel_rfl) (fun _ _ _ h=>h) (Or.inr ⟨by rfl,rfl⟩) ?_ ?_
 rotate_left
 ·simp only [Act.put,zA_,zB_,zC_,i64_w]
  rfl
 refine pure_ (i:=12) (N:=some 51) (v:=undef) (a':=?_) (bl_ 17 8191) rfl rfl (by kernel_rfl) (fun _ _ _ h=>h) (Or.inr ⟨by rfl,rfl⟩) ?_ ?_
 rotate_left
 ·simp only [Act.put,zA_,zB_,zC_,i64_w]
  rfl
 refine pure_ (i:=13) (N:=some 52) (v:=undef) (a':=?_) (bl_ 17 16383) rfl rfl (by kernel_rfl) (fun _ _ _ h=>h) (Or.inr ⟨by rfl,rfl⟩) ?_ ?_
 rotate_left
 ·simp only [Act.put,zA_,zB_,zC_,i64_w]
  rfl
 refine pure_ (i:=14) (N:=some 53) (v:=undef) (a':=?_) (bl_ 17 32767) rfl rfl (by kernel_rfl) (fun _ _ _ h=>h) (Or.inr ⟨by rfl,rfl⟩) ?_ ?_
 rotate_left
 ·simp only [Act.put,zA_,zB_,zC_,i64_w]
  rfl
 refine pure_ (i:=15) (N:=some 54) (v:=?_) (a':=?_) (bl_ 17 65535) rfl rfl (by kernel_rfl) (fun _ _ _ h=>h) (Or.inl ⟨by rfl,?_⟩) ?_ ?_
 rotate_left
 ·intro w'
  go_simp
  with_reducible rfl
 rotate_left
 ·simp only [Act.put,zA_,zB_,zC_,i64_w]
  rfl
 refine one_ (i:=16) (N:=some 55) (bl_ 17 131071) rfl rfl (by kernel_rfl) (by decide) (fun K hK=>?_)
 refine goesE_ Tryd.func53 (by kernel_rfl) rfl #[.bool true,.int .i64 202] (by rfl) rfl rfl (by (try simp only [List.map_toArray,List.map_cons,List.map_nil]); first|done|rfl) ?_
 refine (must_yes 202 _).mono ?_
 rintro e w7 ⟨rfl,rfl⟩
 refine Or.inl ⟨_,rfl,?_⟩
 refine hK.out _ _ (hHeld) (fun hHeld=>?_)
 clear hK K
 refine norm_ (a':=?_) ?_ ?_
 rotate_left
 ·show Act.put _ (some 55) _=_
  simp only [Act.put,zA_,zB_,zC_,i64_w]
  rfl
 refine done_ (by kernel_rfl) ?_
 go_wp2_with (first
  | (refine wpList_load_row rfl 68 _ rfl w.heap.size rfl 68 (stc (wd s.1) s.1.length s.2) (0,0) _ HC.out.x Tryd.underlying68 rfl (by rw [stc_size]; exact info68) ?_)
  | (go_at_call 54; (refine (top_ (wd s.1) s.1.length s.2 HG.out.1.2 (wd_lt s.1 HG.out.1.lt) _).mono ?_); rintro e w8 ⟨rfl,hb8⟩; have HC:=Aside0.mk (HC.out.call hb8); have f10:=blk_frozen HC.out.h.lk 10; have y10:w8.cell? ⟨lg,10,none⟩=some (.int .i64 (L.kind:Nat)):=blk_cell HC.out.h.lk 10; clear hb8))
 have HC:=Aside0.mk (HC.out.set (L':={ L with kind:=topv (wd s.1) s.1.length }) 10 (.int .i64 ((topv (wd s.1) s.1.length:Nat):Int)) rfl rfl rfl)
 go_end0
 exact ⟨HC.out.k,_,HC.out.h,rfl,Or.inl ⟨HE.out,rfl⟩⟩
set_option maxHeartbeats 8000000 in
set_option maxRecDepth 10000 in
theorem looks_hk (w0:World) (C:Cv) (cell:Nat→Nat) (hC:CodeOk C cell w0) (lg m lb:Nat) (L:Lk) (hT:TabOk L) (a:Nat) (ha:a < C.l0.length) (op A B:Nat) (hP:PartsAt w0 (rd C.l0 (a:Int)) op A B) (hO:OpsOk C.l3.length op A B) (w:World) (H:Holds w0 C lg m lb L w) (hop:op=0) (h1:((look a L.tab).getD ([],0)).1.length=1) (h2:((look a L.tab).getD ([],0)).2=0) (h3:L.kind≠0) (h4:L.kind=topv (wd ((look a L.tab).getD ([],0)).1) ((look a L.tab).getD ([],0)).1.length) :
  Calls Tryd.prog 26 #[.pointer (some ⟨lg,0,none⟩),.int .i64 (a:Nat)] w (lEnds w0 C lg m lb L w (looks C.l0.length cell L a op A B)):=by
 have HC:=Aside0.mk (Cm.new H z34_)
 have y4:w.cell? ⟨lg,4,none⟩=some (.map (some m)):=blk_cell H.lk 4
 obtain ⟨es,ck,hm,hT0⟩:=H.mp
 have ql:=lookup1_run hm hT0 a
 obtain ⟨s,hs_⟩:∃ s:St,s=(look a L.tab).getD ([],0):=⟨_,rfl⟩
 rw [← hs_] at ql
 have hg:=got_ok hT a
 rw [← hs_] at hg
 have HG:=Aside0.mk hg
 have HS:=Aside0.mk hs_
 have HT:=Aside0.mk hT
 have HK:=Aside0.mk hC
 have HP:=Aside0.mk hP
 have HO:=Aside0.mk hO
 have HC:=Aside0.mk (HC.out.row (stc (wd s.1) s.1.length s.2))
 obtain ⟨ad,ea,hx⟩:=Kd.at_int (Kd.C_below hC.reads.r0 HC.out.h.b) (a:Int) (Int.natCast_nonneg a) (by omega)
 have y0:(World.setRow (w.alloc (.cells z34_ 68)) w.heap.size (stc (wd s.1) s.1.length s.2)).cell? ⟨lg,0,none⟩=some (.slice (some ad) C.l0.length C.c0):=by
  rw [← ea]; exact blk_cell HC.out.h.lk 0
 have hx':(World.setRow (w.alloc (.cells z34_ 68)) w.heap.size (stc (wd s.1) s.1.length s.2)).cell? (ad.add a)=some (.int .u64 (rd C.l0 (a:Int))):=hx
 obtain ⟨xw,hxw⟩:∃ xw:Int,xw=rd C.l0 (a:Int):=⟨_,rfl⟩
 rw [← hxw] at hx' HP
 rw [← hs_] at h1 h2 h4
 clear hx hxw hm hT0 hs_ hg hT hC hP hO H
 have c0:(((op:Nat):Int) == 0)=true:=by simp; omega
 have n1:(((s.1.length:Nat):Int) == 1)=true:=by rw [h1]; rfl
 have n2:(((s.2:Nat):Int) == 0)=true:=by rw [h2]; rfl
 have k0:(((L.kind:Nat):Int) == 0)=false:=by simp; omega
 have kt:(((L.kind:Nat):Int) == ((topv (wd s.1) s.1.length:Nat):Int))=true:=by rw [h4]; exact beq_self_eq_true _
 have HE:Aside0 (looks C.l0.length cell L a op A B=.ok { L with kind:=topv (wd s.1) s.1.length }):=⟨by rw [hop]; show haltOf L ((look a L.tab).getD ([],0))=_; rw [← HS.out]; unfold haltOf; rw [if_pos ⟨h1,h2⟩,if_pos (Or.inr h4)]⟩
 clear hop h1 h2 h3 h4
 go_enter Tryd.func26,Tryd.ntmps26
 go_wp2_with (first
  | go_skip
  | (refine wpList_store_row rfl 68 _ _ rfl w.heap.size (stc (wd s.1) s.1.length s.2) (by first|rfl|simp) rfl 68 _ (heap_alloc_new w _) (by rw [stc_size]; exact info68) (by rw [stc_size]; first|done|rfl) (stc_one _ _ _) ?_; generalize World.setRow (w.alloc (.cells z34_ 68)) w.heap.size (stc (wd s.1) s.1.length s.2)=u1 at HC y0 hx' ⊢; clear y4 ql)
  | (go_at_call 52; (refine (HP.out _ HC.out.h.b).mono ?_); rintro e w2 ⟨rfl,hb⟩; have HC:=Aside0.mk (HC.out.call hb); clear hb y0 hx'; have x32:w2.cell? ⟨w.heap.size,32,none⟩=some (.int .i64 (s.1.length:Nat)):=(blk_cell HC.out.x 32).trans (stc_h _ _ _); have x33:w2.cell? ⟨w.heap.size,33,none⟩=some (.int .i64 (s.2:Nat)):=(blk_cell HC.out.x 33).trans (stc_r _ _ _))
  | (go_at_call 53; (refine (must_yes 201 _).mono ?_); rintro e w3 ⟨rfl,rfl⟩))
 refine start_ (n:=17) (S:=fun w'=>w'.cell? ⟨lg,10,none⟩=some (.int .i64 (L.kind:Nat))) (ds:=[]) #[false,false,false,false,false,false,false,false,false,false,false,false,false,false,false,false,false] (by kernel_rfl) rfl rfl ((blk_cell HC.out.h.lk 10)) (fun hHeld=>?_)
 have HC:=Aside0.mk HC.out.drew
 generalize World.drew w3=u5 at HC hHeld ⊢
 refine pure_ (i:=0) (N:=some 39) (v:=?_) (a':=?_) (bl_ 17 1) rfl rfl (by kernel_rfl) (fun _ _ _ h=>h) (Or.inl ⟨by rfl,?_⟩) ?_ ?_
 rotate_left
 ·intro w'
  go_simp
  with_reducible rfl
 rotate_left
 ·simp only [Act.put,zA_,zB_,zC_,i64_w]
  rfl
 refine pure_ (i:=1) (N:=some 40) (v:=?_) (a':=?_) (bl_ 17 3) rfl rfl (by kernel_rfl) (fun _ _ _ h=>h) (Or.inl ⟨by rfl,?_⟩) ?_ ?_
 rotate_left
 ·intro w'
  go_simp
  with_reducible rfl
 rotate_left
 ·simp only [Act.put,zA_,zB_,zC_,i64_w]
  rfl
 refine pure_ (i:=2) (N:=some 41) (v:=?_) (a':=?_) (bl_ 17 7) rfl rfl (by kernel_rfl) (fun _ _ _ h=>h) (Or.inl ⟨by rfl,?_⟩) ?_ ?_
 rotate_left
 ·intro w'
  go_simp
  with_reducible rfl
 rotate_left
 ·simp only [Act.put,zA_,zB_,zC_,i64_w]
  rfl
 refine pure_ (i:=3) (N:=some 42) (v:=?_) (a':=?_) (bl_ 17 15) rfl rfl (by kernel_rfl) (fun _ _ _ h=>h) (Or.inl ⟨by rfl,?_⟩) ?_ ?_
 rotate_left
 ·intro w'
  go_simp
  with_reducible rfl
 rotate_left
 ·simp only [Act.put,zA_,zB_,zC_,i64_w]
  rfl
 refine take_ (i:=4) (N:=some 43) (v:=?_) (a':=?_) (bl_ 17 31) rfl rfl (by kernel_rfl) (fun _ _ _ h=>h) (Or.inl ⟨by rfl,?_⟩) hHeld ?_ ?_
 rotate_left
 ·intro w' s0
  go_simp
  with_reducible rfl
 rotate_left
 ·simp only [Act.put,zA_,zB_,zC_,i64_w]
  rfl
 refine one_ (i:=5) (N:=some 44) (bl_ 17 63) rfl rfl (by kernel_rfl) (by decide) (fun K hK=>?_)
 refine value_ (w1:=u5) (v:=.bool false) (by rfl) rfl (by go_simp; first|done|(rw [k0])|(simp [k0])) ?_
 refine hK.out _ _ (hHeld) (fun hHeld=>?_)
 clear hK K
 refine norm_ (a':=?_) ?_ ?_
 rotate_left
 ·show Act.put _ (some 44) _=_
  simp only [Act.put,zA_,zB_,zC_,i64_w]
  rfl
 refine pure_ (i:=6) (N:=some 45) (v:=?_) (a':=?_) (bl_ 17 127) rfl rfl (by kernel_rfl) (fun _ _ _ h=>h) (Or.inl ⟨by rfl,?_⟩) ?_ ?_
 rotate_left
 ·intro w'
  go_simp
  with_reducible rfl
 rotate_left
 ·simp only [Act.put,zA_,zB_,zC_,i64_w]
  rfl
 refine pure_ (i:=7) (N:=some 46) (v:=?_) (a':=?_) (bl_ 17 255) rfl rfl (by kernel_rfl) (fun _ _ _ h=>h) (Or.inl ⟨by rfl,?_⟩) ?_ ?_
 rotate_left
 ·intro w'
  go_simp
  with_reducible rfl
 rotate_left
 ·simp only [Act.put,zA_,zB_,zC_,i64_w]
  rfl
 refine pure_ (i:=8) (N:=some 47) (v:=?_) (a':=?_) (bl_ 17 511) rfl rfl (by kernel_rfl) (fun _ _ _ h=>h) (Or.inl ⟨by rfl,?_⟩) ?_ ?_
 rotate_left
 ·intro w'
  go_simp
  with_reducible rfl
 rotate_left
 ·simp only [Act.put,zA_,zB_,zC_,i64_w]
  rfl
 refine pure_ (i:=9) (N:=some 48) (v:=?_) (a':=?_) (bl_ 17 1023) rfl rfl (by kernel_rfl) (fun _ _ _ h=>h) (Or.inl ⟨by rfl,?_⟩) ?_ ?_
 rotate_left
 ·intro w'
  go_simp
  with_reducible rfl
 rotate_left
 ·simp only [Act.put,zA_,zB_,zC_,i64_w]
  rfl
 refine pure_ (i:=10) (N:=some 49) (v:=?_) (a':=?_) (bl_ 17 2047) rfl rfl (by kernel_rfl) (fun _ _ _ h=>h) (Or.inl ⟨by rfl,?_⟩) ?_ ?_
 rotate_left
 ·intro w'
  go_simp
  with_reducible rfl
 rotate_left
 ·simp only [Act.put,zA_,zB_,zC_,i64_w]
  rfl
 refine take_ (i:=11) (N:=some 50) (v:=?_) (a':=?_) (bl_ 17 4095) rfl rfl (by kernel_rfl) (fun _ _ _ h=>h) (Or.inl ⟨by rfl,?_⟩) hHeld ?_ ?_
 rotate_left
 ·intro w' s0
  go_simp
  with_reducible rfl
 rotate_left
 ·simp only [Act.put,zA_,zB_,zC_,i64_w]
  rfl
 refine one_ (i:=12) (N:=some 51) (bl_ 17 8191) rfl rfl (by kernel_rfl) (by decide) (fun K hK=>?_)
 refine rowL_ 68 (.tmp 4) (by rfl) rfl rfl w.heap.size rfl 68 (stc (wd s.1) s.1.length s.2) (0,0) _ HC.out.x Tryd.underlying68 rfl (by rw [stc_size]; exact info68) ?_
 refine hK.out _ _ (hHeld) (fun hHeld=>?_)
 clear hK K
 refine norm_ (a':=?_) ?_ ?_
 rotate_left
 ·show Act.put _ (some 51) _=_
  simp only [Act.put,zA_,zB_,zC_,i64_w]
  rfl
 refine one_ (i:=13) (N:=some 52) (bl_ 17 16383) rfl rfl (by kernel_rfl) (by decide) (fun K hK=>?_)
 refine goes_ Tryd.func54 (by kernel_rfl) rfl #[.agg (stc (wd s.1) s.1.length s.2)] (by rfl) rfl rfl (by (try simp only [List.map_toArray,List.map_cons,List.map_nil]); first|done|rfl) ?_
 refine (top_ (wd s.1) s.1.length s.2 HG.out.1.2 (wd_lt s.1 HG.out.1.lt) _).mono ?_
 rintro e w6 ⟨rfl,hb6⟩
 refine ⟨_,rfl,?_⟩
 have HC:=Aside0.mk (HC.out.call hb6)
 refine hK.out _ _ ((below_cell hb6 hHeld)) (fun hHeld=>?_)
 clear hK K
 refine norm_ (a':=?_) ?_ ?_
 rotate_left
 ·show Act.put _ (some 52) _=_
  simp only [Act.put,zA_,zB_,zC_,i64_w]
  rfl
 refine one_ (i:=14) (N:=some 53) (bl_ 17 32767) rfl rfl (by kernel_rfl) (by decide) (fun K hK=>?_)
 refine value_ (w1:=w6) (v:=.bool true) (by rfl) rfl (by go_simp; first|done|(rw [kt])|(simp [kt])) ?_
 refine hK.out _ _ (hHeld) (fun hHeld=>?_)
 clear hK K
 refine norm_ (a':=?_) ?_ ?_
 rotate_left
 ·show Act.put _ (some 53) _=_
  simp only [Act.put,zA_,zB_,zC_,i64_w]
  rfl
 refine pure_ (i:=15) (N:=some 54) (v:=?_) (a':=?_) (bl_ 17 65535) rfl rfl (by kernel_rfl) (fun _ _ _ h=>h) (Or.inl ⟨by rfl,?_⟩) ?_ ?_
 rotate_left
 ·intro w'
  go_simp
  with_reducible rfl
 rotate_left
 ·simp only [Act.put,zA_,zB_,zC_,i64_w]
  rfl
 refine one_ (i:=16) (N:=some 55) (bl_ 17 131071) rfl rfl (by kernel_rfl) (by decide) (fun K hK=>?_)
 refine goesE_ Tryd.func53 (by kernel_rfl) rfl #[.bool true,.int .i64 202] (by rfl) rfl rfl (by (try simp only [List.map_toArray,List.map_cons,List.map_nil]); first|done|rfl) ?_
 refine (must_yes 202 _).mono ?_
 rintro e w7 ⟨rfl,rfl⟩
 refine Or.inl ⟨_,rfl,?_⟩
 refine hK.out _ _ (hHeld) (fun hHeld=>?_)
 clear hK K
 refine norm_ (a':=?_) ?_ ?_
 rotate_left
 ·show Act.put _ (some 55) _=_
  simp only [Act.put,zA_,zB_,zC_,i64_w]
  rfl
 refine done_ (by kernel_rfl) ?_
 go_wp2_with (first
  | (refine wpList_load_row rfl 68 _ rfl w.heap.size rfl 68 (stc (wd s.1) s.1.length s.2) (0,0) _ HC.out.x Tryd.underlying68 rfl (by rw [stc_size]; exact info68) ?_)
  | (go_at_call 54; (refine (top_ (wd s.1) s.1.length s.2 HG.out.1.2 (wd_lt s.1 HG.out.1.lt) _).mono ?_); rintro e w8 ⟨rfl,hb8⟩; have HC:=Aside0.mk (HC.out.call hb8); have f10:=blk_frozen HC.out.h.lk 10; have y10:w8.cell? ⟨lg,10,none⟩=some (.int .i64 (L.kind:Nat)):=blk_cell HC.out.h.lk 10; clear hb8))
 have HC:=Aside0.mk (HC.out.set (L':={ L with kind:=topv (wd s.1) s.1.length }) 10 (.int .i64 ((topv (wd s.1) s.1.length:Nat):Int)) rfl rfl rfl)
 go_end0
 exact ⟨HC.out.k,_,HC.out.h,rfl,Or.inl ⟨HE.out,rfl⟩⟩
set_option maxHeartbeats 8000000 in
set_option maxRecDepth 10000 in
theorem looks_hx (w0:World) (C:Cv) (cell:Nat→Nat) (hC:CodeOk C cell w0) (lg m lb:Nat) (L:Lk) (hT:TabOk L) (a:Nat) (ha:a < C.l0.length) (op A B:Nat) (hP:PartsAt w0 (rd C.l0 (a:Int)) op A B) (hO:OpsOk C.l3.length op A B) (w:World) (H:Holds w0 C lg m lb L w) (hop:op=0) (h1:((look a L.tab).getD ([],0)).1.length=1) (h2:((look a L.tab).getD ([],0)).2=0) (h3:L.kind≠0) (h4:L.kind≠topv (wd ((look a L.tab).getD ([],0)).1) ((look a L.tab).getD ([],0)).1.length) :
  Calls Tryd.prog 26 #[.pointer (some ⟨lg,0,none⟩),.int .i64 (a:Nat)] w (lEnds w0 C lg m lb L w (looks C.l0.length cell L a op A B)):=by
 have HC:=Aside0.mk (Cm.new H z34_)
 have y4:w.cell? ⟨lg,4,none⟩=some (.map (some m)):=blk_cell H.lk 4
 obtain ⟨es,ck,hm,hT0⟩:=H.mp
 have ql:=lookup1_run hm hT0 a
 obtain ⟨s,hs_⟩:∃ s:St,s=(look a L.tab).getD ([],0):=⟨_,rfl⟩
 rw [← hs_] at ql
 have hg:=got_ok hT a
 rw [← hs_] at hg
 have HG:=Aside0.mk hg
 have HS:=Aside0.mk hs_
 have HT:=Aside0.mk hT
 have HK:=Aside0.mk hC
 have HP:=Aside0.mk hP
 have HO:=Aside0.mk hO
 have HC:=Aside0.mk (HC.out.row (stc (wd s.1) s.1.length s.2))
 obtain ⟨ad,ea,hx⟩:=Kd.at_int (Kd.C_below hC.reads.r0 HC.out.h.b) (a:Int) (Int.natCast_nonneg a) (by omega)
 have y0:(World.setRow (w.alloc (.cells z34_ 68)) w.heap.size (stc (wd s.1) s.1.length s.2)).cell? ⟨lg,0,none⟩=some (.slice (some ad) C.l0.length C.c0):=by
  rw [← ea]; exact blk_cell HC.out.h.lk 0
 have hx':(World.setRow (w.alloc (.cells z34_ 68)) w.heap.size (stc (wd s.1) s.1.length s.2)).cell? (ad.add a)=some (.int .u64 (rd C.l0 (a:Int))):=hx
 obtain ⟨xw,hxw⟩:∃ xw:Int,xw=rd C.l0 (a:Int):=⟨_,rfl⟩
 rw [← hxw] at hx' HP
 rw [← hs_] at h1 h2 h4
 clear hx hxw hm hT0 hs_ hg hT hC hP hO H
 have c0:(((op:Nat):Int) == 0)=true:=by simp; omega
 have n1:(((s.1.length:Nat):Int) == 1)=true:=by rw [h1]; rfl
 have n2:(((s.2:Nat):Int) == 0)=true:=by rw [h2]; rfl
 have k0:(((L.kind:Nat):Int) == 0)=false:=by simp; omega
 have kt:(((L.kind:Nat):Int) == ((topv (wd s.1) s.1.length:Nat):Int))=false:=by simpa using fun e=>h4 (by omega)
 have HE:Aside0 (looks C.l0.length cell L a op A B=.error 202):=⟨by rw [hop]; show haltOf L ((look a L.tab).getD ([],0))=_; rw [← HS.out]; unfold haltOf; rw [if_pos ⟨h1,h2⟩,if_neg (fun h=>h.elim h3 h4)]⟩
 clear hop h1 h2 h3 h4
 go_enter Tryd.func26,Tryd.ntmps26
 go_wp2_with (first
  | go_skip
  | (refine wpList_store_row rfl 68 _ _ rfl w.heap.size (stc (wd s.1) s.1.length s.2) (by first|rfl|simp) rfl 68 _ (heap_alloc_new w _) (by rw [stc_size]; exact info68) (by rw [stc_size]; first|done|rfl) (stc_one _ _ _) ?_; generalize World.setRow (w.alloc (.cells z34_ 68)) w.heap.size (stc (wd s.1) s.1.length s.2)=u1 at HC y0 hx' ⊢; clear y4 ql)
  | (go_at_call 52; (refine (HP.out _ HC.out.h.b).mono ?_); rintro e w2 ⟨rfl,hb⟩; have HC:=Aside0.mk (HC.out.call hb); clear hb y0 hx'; have x32:w2.cell? ⟨w.heap.size,32,none⟩=some (.int .i64 (s.1.length:Nat)):=(blk_cell HC.out.x 32).trans (stc_h _ _ _); have x33:w2.cell? ⟨w.heap.size,33,none⟩=some (.int .i64 (s.2:Nat)):=(blk_cell HC.out.x 33).trans (stc_r _ _ _))
  | (go_at_call 53; (refine (must_yes 201 _).mono ?_); rintro e w3 ⟨rfl,rfl⟩))
 refine start_ (n:=17) (S:=fun w'=>w'.cell? ⟨lg,10,none⟩=some (.int .i64 (L.kind:Nat))) (ds:=[]) #[false,false,false,false,false,false,false,false,false,false,false,false,false,false,false,false,false] (by kernel_rfl) rfl rfl ((blk_cell HC.out.h.lk 10)) (fun hHeld=>?_)
 have HC:=Aside0.mk HC.out.drew
 generalize World.drew w3=u5 at HC hHeld ⊢
 refine pure_ (i:=0) (N:=some 39) (v:=?_) (a':=?_) (bl_ 17 1) rfl rfl (by kernel_rfl) (fun _ _ _ h=>h) (Or.inl ⟨by rfl,?_⟩) ?_ ?_
 rotate_left
 ·intro w'
  go_simp
  with_reducible rfl
 rotate_left
 ·simp only [Act.put,zA_,zB_,zC_,i64_w]
  rfl
 refine pure_ (i:=1) (N:=some 40) (v:=?_) (a':=?_) (bl_ 17 3) rfl rfl (by kernel_rfl) (fun _ _ _ h=>h) (Or.inl ⟨by rfl,?_⟩) ?_ ?_
 rotate_left
 ·intro w'
  go_simp
  with_reducible rfl
 rotate_left
 ·simp only [Act.put,zA_,zB_,zC_,i64_w]
  rfl
 refine pure_ (i:=2) (N:=some 41) (v:=?_) (a':=?_) (bl_ 17 7) rfl rfl (by kernel_rfl) (fun _ _ _ h=>h) (Or.inl ⟨by rfl,?_⟩) ?_ ?_
 rotate_left
 ·intro w'
  go_simp
  with_reducible rfl
 rotate_left
 ·simp only [Act.put,zA_,zB_,zC_,i64_w]
  rfl
 refine pure_ (i:=3) (N:=some 42) (v:=?_) (a':=?_) (bl_ 17 15) rfl rfl (by kernel_rfl) (fun _ _ _ h=>h) (Or.inl ⟨by rfl,?_⟩) ?_ ?_
 rotate_left
 ·intro w'
  go_simp
  with_reducible rfl
 rotate_left
 ·simp only [Act.put,zA_,zB_,zC_,i64_w]
  rfl
 refine take_ (i:=4) (N:=some 43) (v:=?_) (a':=?_) (bl_ 17 31) rfl rfl (by kernel_rfl) (fun _ _ _ h=>h) (Or.inl ⟨by rfl,?_⟩) hHeld ?_ ?_
 rotate_left
 ·intro w' s0
  go_simp
  with_reducible rfl
 rotate_left
 ·simp only [Act.put,zA_,zB_,zC_,i64_w]
  rfl
 refine one_ (i:=5) (N:=some 44) (bl_ 17 63) rfl rfl (by kernel_rfl) (by decide) (fun K hK=>?_)
 refine value_ (w1:=u5) (v:=.bool false) (by rfl) rfl (by go_simp; first|done|(rw [k0])|(simp [k0])) ?_
 refine hK.out _ _ (hHeld) (fun hHeld=>?_)
 clear hK K
 refine norm_ (a':=?_) ?_ ?_
 rotate_left
 ·show Act.put _ (some 44) _=_
  simp only [Act.put,zA_,zB_,zC_,i64_w]
  rfl
 refine pure_ (i:=6) (N:=some 45) (v:=?_) (a':=?_) (bl_ 17 127) rfl rfl (by kernel_rfl) (fun _ _ _ h=>h) (Or.inl ⟨by rfl,?_⟩) ?_ ?_
 rotate_left
 ·intro w'
  go_simp
  with_reducible rfl
 rotate_left
 ·simp only [Act.put,zA_,zB_,zC_,i64_w]
  rfl
 refine pure_ (i:=7) (N:=some 46) (v:=?_) (a':=?_) (bl_ 17 255) rfl rfl (by kernel_rfl) (fun _ _ _ h=>h) (Or.inl ⟨by rfl,?_⟩) ?_ ?_
 rotate_left
 ·intro w'
  go_simp
  with_reducible rfl
 rotate_left
 ·simp only [Act.put,zA_,zB_,zC_,i64_w]
  rfl
 refine pure_ (i:=8) (N:=some 47) (v:=?_) (a':=?_) (bl_ 17 511) rfl rfl (by kernel_rfl) (fun _ _ _ h=>h) (Or.inl ⟨by rfl,?_⟩) ?_ ?_
 rotate_left
 ·intro w'
  go_simp
  with_reducible rfl
 rotate_left
 ·simp only [Act.put,zA_,zB_,zC_,i64_w]
  rfl
 refine pure_ (i:=9) (N:=some 48) (v:=?_) (a':=?_) (bl_ 17 1023) rfl rfl (by kernel_rfl) (fun _ _ _ h=>h) (Or.inl ⟨by rfl,?_⟩) ?_ ?_
 rotate_left
 ·intro w'
  go_simp
  with_reducible rfl
 rotate_left
 ·simp only [Act.put,zA_,zB_,zC_,i64_w]
  rfl
 refine pure_ (i:=10) (N:=some 49) (v:=?_) (a':=?_) (bl_ 17 2047) rfl rfl (by kernel_rfl) (fun _ _ _ h=>h) (Or.inl ⟨by rfl,?_⟩) ?_ ?_
 rotate_left
 ·intro w'
  go_simp
  with_reducible rfl
 rotate_left
 ·simp only [Act.put,zA_,zB_,zC_,i64_w]
  rfl
 refine take_ (i:=11) (N:=some 50) (v:=?_) (a':=?_) (bl_ 17 4095) rfl rfl (by kernel_rfl) (fun _ _ _ h=>h) (Or.inl ⟨by rfl,?_⟩) hHeld ?_ ?_
 rotate_left
 ·intro w' s0
  go_simp
  with_reducible rfl
 rotate_left
 ·simp only [Act.put,zA_,zB_,zC_,i64_w]
  rfl
 refine one_ (i:=12) (N:=some 51) (bl_ 17 8191) rfl rfl (by kernel_rfl) (by decide) (fun K hK=>?_)
 refine rowL_ 68 (.tmp 4) (by rfl) rfl rfl w.heap.size rfl 68 (stc (wd s.1) s.1.length s.2) (0,0) _ HC.out.x Tryd.underlying68 rfl (by rw [stc_size]; exact info68) ?_
 refine hK.out _ _ (hHeld) (fun hHeld=>?_)
 clear hK K
 refine norm_ (a':=?_) ?_ ?_
 rotate_left
 ·show Act.put _ (some 51) _=_
  simp only [Act.put,zA_,zB_,zC_,i64_w]
  rfl
 refine one_ (i:=13) (N:=some 52) (bl_ 17 16383) rfl rfl (by kernel_rfl) (by decide) (fun K hK=>?_)
 refine goes_ Tryd.func54 (by kernel_rfl) rfl #[.agg (stc (wd s.1) s.1.length s.2)] (by rfl) rfl rfl (by (try simp only [List.map_toArray,List.map_cons,List.map_nil]); first|done|rfl) ?_
 refine (top_ (wd s.1) s.1.length s.2 HG.out.1.2 (wd_lt s.1 HG.out.1.lt) _).mono ?_
 rintro e w6 ⟨rfl,hb6⟩
 refine ⟨_,rfl,?_⟩
 have HC:=Aside0.mk (HC.out.call hb6)
 refine hK.out _ _ ((below_cell hb6 hHeld)) (fun hHeld=>?_)
 clear hK K
 refine norm_ (a':=?_) ?_ ?_
 rotate_left
 ·show Act.put _ (some 52) _=_
  simp only [Act.put,zA_,zB_,zC_,i64_w]
  rfl
 refine one_ (i:=14) (N:=some 53) (bl_ 17 32767) rfl rfl (by kernel_rfl) (by decide) (fun K hK=>?_)
 refine value_ (w1:=w6) (v:=.bool false) (by rfl) rfl (by go_simp; first|done|(rw [kt])|(simp [kt])) ?_
 refine hK.out _ _ (hHeld) (fun hHeld=>?_)
 clear hK K
 refine norm_ (a':=?_) ?_ ?_
 rotate_left
 ·show Act.put _ (some 53) _=_
  simp only [Act.put,zA_,zB_,zC_,i64_w]
  rfl
 refine pure_ (i:=15) (N:=some 54) (v:=?_) (a':=?_) (bl_ 17 65535) rfl rfl (by kernel_rfl) (fun _ _ _ h=>h) (Or.inl ⟨by rfl,?_⟩) ?_ ?_
 rotate_left
 ·intro w'
  go_simp
  with_reducible rfl
 rotate_left
 ·simp only [Act.put,zA_,zB_,zC_,i64_w]
  rfl
 refine one_ (i:=16) (N:=some 55) (bl_ 17 131071) rfl rfl (by kernel_rfl) (by decide) (fun K hK=>?_)
 refine goesE_ Tryd.func53 (by kernel_rfl) rfl #[.bool false,.int .i64 202] (by rfl) rfl rfl (by (try simp only [List.map_toArray,List.map_cons,List.map_nil]); first|done|rfl) ?_
 refine (must_no 202 _).mono ?_
 rintro e w7 ⟨rfl,rfl⟩
 refine Or.inr ⟨_,rfl,?_⟩
 exact ⟨rfl,HC.out.k,_,HC.out.h,rfl,Or.inr ⟨_,HE.out,rfl⟩⟩
theorem looks_calls (w0:World) (C:Cv) (cell:Nat→Nat) (hC:CodeOk C cell w0) (lg m lb:Nat) (L:Lk) (hT:TabOk L) (a:Nat) (ha:a < C.l0.length) (op A B:Nat) (hP:PartsAt w0 (rd C.l0 (a:Int)) op A B) (hO:OpsOk C.l3.length op A B) (w:World) (H:Holds w0 C lg m lb L w) :
  Calls Tryd.prog 26 #[.pointer (some ⟨lg,0,none⟩),.int .i64 (a:Nat)] w (lEnds w0 C lg m lb L w (looks C.l0.length cell L a op A B)):=by
 by_cases h0:op=0
 ·by_cases h1:((look a L.tab).getD ([],0)).1.length=1
  ·by_cases h2:((look a L.tab).getD ([],0)).2=0
   ·by_cases h3:L.kind=0
    ·exact looks_hz w0 C cell hC lg m lb L hT a ha op A B hP hO w H h0 h1 h2 h3
    ·by_cases h4:L.kind=topv (wd ((look a L.tab).getD ([],0)).1) ((look a L.tab).getD ([],0)).1.length
     ·exact looks_hk w0 C cell hC lg m lb L hT a ha op A B hP hO w H h0 h1 h2 h3 h4
     ·exact looks_hx w0 C cell hC lg m lb L hT a ha op A B hP hO w H h0 h1 h2 h3 h4
   ·exact looks_h2 w0 C cell hC lg m lb L hT a ha op A B hP hO w H h0 h1 h2
  ·exact looks_h1 w0 C cell hC lg m lb L hT a ha op A B hP hO w H h0 h1
 by_cases h1:op=13
 ·exact looks_j w0 C cell hC lg m lb L hT a ha op A B hP hO w H h1
 by_cases h2:op=14
 ·exact looks_c14 w0 C cell hC lg m lb L hT a ha op A B hP hO w H h2
 by_cases h3:op=15
 ·exact looks_c15 w0 C cell hC lg m lb L hT a ha op A B hP hO w H h3
 by_cases h4:op=17
 ·exact looks_c17 w0 C cell hC lg m lb L hT a ha op A B hP hO w H h4
 by_cases h5:op=24
 ·exact looks_c24 w0 C cell hC lg m lb L hT a ha op A B hP hO w H h5
 exact looks_o w0 C cell hC lg m lb L hT a ha op A B hP hO w H h0 h1 h2 h3 h4 h5
end Go.Proofs.YtcmdjpolgaejoaaDoor.Gd
namespace Go.Proofs.YtcmdjpolgaejoaaDoor.Gd
open Go.RowKit Go.Proofs.YtcmdjpolgaejoaaDoorW.PrintWords Go.Proofs.YtcmdjpolgaejoaaDoorW.PrintLast Go.Proofs.YtcmdjpolgaejoaaDoorW.PrintMore
set_option linter.unusedVariables false
set_option linter.unusedSimpArgs false
attribute [local irreducible] wpList
theorem assert74 (v:Value) (W:World):(Instr.typeAssert (.iface 74 v) 20 74 true).run Tryd.prog W=.ok (.tuple #[v,.bool true]) W:=by kernel_rfl
theorem set_far {w:World} {g b i:Nat} {x:Value} (n:b≠g):(w.setCell ⟨g,i,none⟩ x).heap[b]? = w.heap[b]? := Below.heap_setCell w ⟨g,i,none⟩ x b n
theorem set3_far {w:World} {b1 b2:Nat} {o:Obj} (x y z:Value) (n:b2≠b1) (h:w.heap[b2]? = some o):(((w.setCell ⟨b1,0,none⟩ x).setCell ⟨b1,1,none⟩ y).setCell ⟨b1,2,none⟩ z).heap[b2]? = some o:=by
 rw [set_far n,set_far n,set_far n]
 exact h
theorem set3_cell {w:World} {b1 g i:Nat} {v:Value} (x y z:Value) (n:g≠b1) (h:w.cell? ⟨g,i,none⟩=some v):(((w.setCell ⟨b1,0,none⟩ x).setCell ⟨b1,1,none⟩ y).setCell ⟨b1,2,none⟩ z).cell? ⟨g,i,none⟩=some v:=by
 rw [World.cell?_of_block (w:=w) (a:=⟨g,i,none⟩) (by show (((w.setCell ⟨b1,0,none⟩ x).setCell ⟨b1,1,none⟩ y).setCell ⟨b1,2,none⟩ z).heap[g]? = w.heap[g]?; rw [set_far n,set_far n,set_far n])]
 exact h
theorem set3_below {B:Nat} {w0 w:World} {b1:Nat} (x y z:Value) (h:Below B w0 w) (hB:B≤b1):Below B w0 (((w.setCell ⟨b1,0,none⟩ x).setCell ⟨b1,1,none⟩ y).setCell ⟨b1,2,none⟩ z) :=
 Below.setCell (p:=⟨b1,2,none⟩) (Below.setCell (p:=⟨b1,1,none⟩) (Below.setCell (p:=⟨b1,0,none⟩) h hB x) hB y) hB z
set_option maxHeartbeats 4000000 in
set_option maxRecDepth 10000 in
theorem door_idle (bl b1 b2 b3:Nat) (w:World) :
  CallsD Tryd.prog 25 #[.pointer (some ⟨bl,0,none⟩),.pointer (some ⟨b1,0,none⟩),.pointer (some ⟨b2,0,none⟩),.pointer (some ⟨b3,0,none⟩)] .returning w fun e u' w'=>e=.returned (.tuple #[])∧u'=.returning∧w'=w:=by
 refine callsD_of_wpS Tryd.func25 rfl fun c₀ cs hu=>?_
 apply wpS_seq
 apply wpS_region
 simp [wpOpsS,go_sem,recoverD,hu,Tryd.ntmps25,Exit.thenS]
 have ht:(#[.pointer (some ⟨bl,0,none⟩),.pointer (some ⟨b1,0,none⟩),.pointer (some ⟨b2,0,none⟩),.pointer (some ⟨b3,0,none⟩)]++(Array.replicate 16 undef).setIfInBounds 3 (.nilIface):Array Value)=#[.pointer (some ⟨bl,0,none⟩),.pointer (some ⟨b1,0,none⟩),.pointer (some ⟨b2,0,none⟩),.pointer (some ⟨b3,0,none⟩),undef,undef,undef,.nilIface,undef,undef,undef,undef,undef,undef,undef,undef,undef,undef,undef,undef]:=rfl
 rw [ht]
 clear ht
 refine wpS_of_wp ?_
 go_wp2
 refine ⟨rfl,.returning,?_,_,results_none (fn:=Tryd.f25) rfl _ _ _,rfl,rfl,rfl⟩
 cases c₀
 simp_all
set_option maxHeartbeats 4000000 in
set_option maxRecDepth 10000 in
theorem door_caught (lg bl b1 b2 b3:Nat) (e x:Int) (v0 v1 v2 v3 v4:Value) (older:List PanicEntry) (w:World) (hl:w.cell? ⟨bl,0,none⟩=some (.pointer (some ⟨lg,0,none⟩))) (hx:w.cell? ⟨lg,7,none⟩=some (.int .i64 x))
  (k1:w.heap[b1]? = some (.cells #[v0,v1,v2] 29 (0,0))) (k2:w.heap[b2]? = some (.cells #[v3] 30 (0,0))) (k3:w.heap[b3]? = some (.cells #[v4] 3 (0,0))) (nb:bl≠b1) (nl:lg≠b1) (B:Nat) (hB:B≤w.heap.size) (hB1:B≤b1) (hB2:B≤b2) (hB3:B≤b3) :
  CallsD Tryd.prog 25 #[.pointer (some ⟨bl,0,none⟩),.pointer (some ⟨b1,0,none⟩),.pointer (some ⟨b2,0,none⟩),.pointer (some ⟨b3,0,none⟩)] (.panicking ({ v:=.iface 74 (.agg #[.int .i64 e]),recovered:=false } :: older)) w fun en u' w' =>
   en=.returned (.tuple #[])∧u'=.panicking ({ v:=.iface 74 (.agg #[.int .i64 e]),recovered:=true } :: older)∧w'.heap[b1]? = some (.cells #[.int .i64 0,.int .i64 0,.int .i64 0] 29 (0,0))∧w'.heap[b2]? = some (.cells #[.int .i64 e] 30 (0,0))∧w'.heap[b3]? = some (.cells #[.int .i64 x] 3 (0,0))∧Below B w w':=by
 have n12:b1≠b2:=blk_ne k1 k2 (by decide)
 have n13:b1≠b3:=blk_ne k1 k3 (by decide)
 have n23:b2≠b3:=blk_ne k2 k3 (by decide)
 have nw:w.heap.size≠b1:=Nat.ne_of_gt (blk_lt k1)
 have kb0:Below B w (w.alloc (.cells #[.int .i64 e] 74)):=(Below.refl B w).alloc hB _
 have bw:=below_alloc (Below.refl w.heap.size w) (.cells #[.int .i64 e] 74)
 have s0:(w.alloc (.cells #[.int .i64 e] 74)).cell? ⟨w.heap.size,0,none⟩=some (.int .i64 e):=blk_cell (heap_alloc_new w _) 0
 have s1:=below_cell bw hl
 have s2:=below_cell bw hx
 have k1:=blk_alloc k1 (.cells #[.int .i64 e] 74)
 have k2:=blk_alloc k2 (.cells #[.int .i64 e] 74)
 have k3:=blk_alloc k3 (.cells #[.int .i64 e] 74)
 have qa:=fun W=>assert74 (.agg #[.int .i64 e]) W
 refine callsD_of_wpS Tryd.func25 rfl fun c₀ cs hu=>?_
 apply wpS_seq
 apply wpS_region
 simp [wpOpsS,go_sem,recoverD,hu,Tryd.ntmps25,Exit.thenS]
 have ht:(#[.pointer (some ⟨bl,0,none⟩),.pointer (some ⟨b1,0,none⟩),.pointer (some ⟨b2,0,none⟩),.pointer (some ⟨b3,0,none⟩)]++(Array.replicate 16 undef).setIfInBounds 3 (.iface 74 (.agg #[.int .i64 e])):Array Value)=#[.pointer (some ⟨bl,0,none⟩),.pointer (some ⟨b1,0,none⟩),.pointer (some ⟨b2,0,none⟩),.pointer (some ⟨b3,0,none⟩),undef,undef,undef,.iface 74 (.agg #[.int .i64 e]),undef,undef,undef,undef,undef,undef,undef,undef,undef,undef,undef,undef]:=rfl
 rw [ht]
 clear ht
 refine wpS_of_wp ?_
 clear hl hx bw
 go_wp2
 refine start_ (n:=10) (S:=fun w'=>w'.cell? ⟨w.heap.size,0,none⟩=some (.int .i64 e)∧w'.cell? ⟨bl,0,none⟩=some (.pointer (some ⟨lg,0,none⟩))∧w'.cell? ⟨lg,7,none⟩=some (.int .i64 x)) (ds:=[8,9]) #[false,false,false,false,false,false,false,false,false,false] (by kernel_rfl) rfl rfl ⟨s0,s1,s2⟩ (fun hHeld=>?_)
 have kb:=kb0.drew
 have k1:(World.drew (w.alloc (.cells #[.int .i64 e] 74))).heap[b1]? = _:=k1
 have k2:(World.drew (w.alloc (.cells #[.int .i64 e] 74))).heap[b2]? = _:=k2
 have k3:(World.drew (w.alloc (.cells #[.int .i64 e] 74))).heap[b3]? = _:=k3
 generalize World.drew (w.alloc (.cells #[.int .i64 e] 74))=u0 at hHeld k1 k2 k3 kb ⊢
 refine pure_ (i:=0) (N:=some 13) (v:=?_) (a':=?_) (bl_ 10 1) rfl rfl (by kernel_rfl) (fun _ _ _ h=>h) (Or.inl ⟨by rfl,?_⟩) ?_ ?_
 rotate_left
 ·intro w'
  go_simp
  with_reducible rfl
 rotate_left
 ·simp only [Act.put,zA_,zB_,zC_,i64_w]
  rfl
 refine pure_ (i:=1) (N:=some 14) (v:=?_) (a':=?_) (bl_ 10 3) rfl rfl (by kernel_rfl) (fun _ _ _ h=>h) (Or.inl ⟨by rfl,?_⟩) ?_ ?_
 rotate_left
 ·intro w'
  go_simp
  with_reducible rfl
 rotate_left
 ·simp only [Act.put,zA_,zB_,zC_,i64_w]
  rfl
 refine take_ (i:=2) (N:=some 15) (v:=?_) (a':=?_) (bl_ 10 7) rfl rfl (by kernel_rfl) (fun _ _ _ h=>h) (Or.inl ⟨by rfl,?_⟩) hHeld ?_ ?_
 rotate_left
 ·rintro w' ⟨s0,s1,s2⟩
  go_simp
  with_reducible rfl
 rotate_left
 ·simp only [Act.put,zA_,zB_,zC_,i64_w]
  rfl
 refine take_ (i:=3) (N:=some 16) (v:=?_) (a':=?_) (bl_ 10 15) rfl rfl (by kernel_rfl) (fun _ _ _ h=>h) (Or.inl ⟨by rfl,?_⟩) hHeld ?_ ?_
 rotate_left
 ·rintro w' ⟨s0,s1,s2⟩
  go_simp
  with_reducible rfl
 rotate_left
 ·simp only [Act.put,zA_,zB_,zC_,i64_w]
  rfl
 refine pure_ (i:=4) (N:=some 17) (v:=?_) (a':=?_) (bl_ 10 31) rfl rfl (by kernel_rfl) (fun _ _ _ h=>h) (Or.inl ⟨by rfl,?_⟩) ?_ ?_
 rotate_left
 ·intro w'
  go_simp
  with_reducible rfl
 rotate_left
 ·simp only [Act.put,zA_,zB_,zC_,i64_w]
  rfl
 refine pure_ (i:=5) (N:=some 18) (v:=?_) (a':=?_) (bl_ 10 63) rfl rfl (by kernel_rfl) (fun _ _ _ h=>h) (Or.inl ⟨by rfl,?_⟩) ?_ ?_
 rotate_left
 ·intro w'
  go_simp
  with_reducible rfl
 rotate_left
 ·simp only [Act.put,zA_,zB_,zC_,i64_w]
  rfl
 refine take_ (i:=6) (N:=some 19) (v:=?_) (a':=?_) (bl_ 10 127) rfl rfl (by kernel_rfl) (fun _ _ _ h=>h) (Or.inl ⟨by rfl,?_⟩) hHeld ?_ ?_
 rotate_left
 ·rintro w' ⟨s0,s1,s2⟩
  go_simp
  with_reducible rfl
 rotate_left
 ·simp only [Act.put,zA_,zB_,zC_,i64_w]
  rfl
 refine one_ (i:=7) (N:=none) (bl_ 10 255) rfl rfl (by kernel_rfl) (by decide) (fun K hK=>?_)
 have f0:=blk_frozen k1 0
 have f1:=blk_frozen k1 1
 have f2:=blk_frozen k1 2
 have z0:u0.cell? ⟨b1,0,none⟩=some v0:=blk_cell k1 0
 have z1:u0.cell? ⟨b1,1,none⟩=some v1:=blk_cell k1 1
 have z2:u0.cell? ⟨b1,2,none⟩=some v2:=blk_cell k1 2
 refine skip_ (w1:=((u0.setCell ⟨b1,0,none⟩ (.int .i64 0)).setCell ⟨b1,1,none⟩ (.int .i64 0)).setCell ⟨b1,2,none⟩ (.int .i64 0)) (by rfl) rfl (by go_simp) ?_
 have k1:=blk_put (blk_put (blk_put k1 0 (.int .i64 0) rfl) 1 (.int .i64 0) rfl) 2 (.int .i64 0) rfl
 have k2:=set3_far (.int .i64 0) (.int .i64 0) (.int .i64 0) n12.symm k2
 have k3:=set3_far (.int .i64 0) (.int .i64 0) (.int .i64 0) n13.symm k3
 have kb:=set3_below (.int .i64 0) (.int .i64 0) (.int .i64 0) kb hB1
 clear f0 f1 f2 z0 z1 z2
 have hHeld:=And.intro (set3_cell (.int .i64 0) (.int .i64 0) (.int .i64 0) nw hHeld.1) (And.intro (set3_cell (.int .i64 0) (.int .i64 0) (.int .i64 0) nb hHeld.2.1) (set3_cell (.int .i64 0) (.int .i64 0) (.int .i64 0) nl hHeld.2.2))
 generalize ((u0.setCell ⟨b1,0,none⟩ (.int .i64 0)).setCell ⟨b1,1,none⟩ (.int .i64 0)).setCell ⟨b1,2,none⟩ (.int .i64 0)=u1 at k1 k2 k3 kb hHeld ⊢
 refine hK.out _ _ ⟨hHeld.1,hHeld.2.1,hHeld.2.2⟩ (fun hHeld=>?_)
 clear hK K
 refine last_ (i:=8) (N:=none) (bl_ 10 511) rfl rfl (by kernel_rfl) (by decide) (fun K hK=>?_)
 have f0:=blk_frozen k2 0
 have z0:u1.cell? ⟨b2,0,none⟩=some v3:=blk_cell k2 0
 refine skip_ (w1:=u1.setCell ⟨b2,0,none⟩ (.int .i64 e)) (by rfl) rfl (by go_simp) ?_
 have k1:=(Below.heap_setCell u1 ⟨b2,0,none⟩ (.int .i64 e) b1 n12).trans k1
 have k2:=blk_put k2 0 (.int .i64 e) rfl
 have k3:=(Below.heap_setCell u1 ⟨b2,0,none⟩ (.int .i64 e) b3 n23.symm).trans k3
 have kb:=Below.setCell (p:=⟨b2,0,none⟩) kb hB2 (.int .i64 e)
 clear f0 z0
 generalize u1.setCell ⟨b2,0,none⟩ (.int .i64 e)=u2 at k1 k2 k3 kb ⊢
 refine hK.out _ _ ?_
 clear hK K
 refine last_ (i:=9) (N:=none) (bl_ 10 1023) rfl rfl (by kernel_rfl) (by decide) (fun K hK=>?_)
 have f0:=blk_frozen k3 0
 have z0:u2.cell? ⟨b3,0,none⟩=some v4:=blk_cell k3 0
 refine skip_ (w1:=u2.setCell ⟨b3,0,none⟩ (.int .i64 x)) (by rfl) rfl (by go_simp) ?_
 have k1:=(Below.heap_setCell u2 ⟨b3,0,none⟩ (.int .i64 x) b1 n13).trans k1
 have k2:=(Below.heap_setCell u2 ⟨b3,0,none⟩ (.int .i64 x) b2 n23).trans k2
 have k3:=blk_put k3 0 (.int .i64 x) rfl
 have kb:=Below.setCell (p:=⟨b3,0,none⟩) kb hB3 (.int .i64 x)
 clear f0 z0
 generalize u2.setCell ⟨b3,0,none⟩ (.int .i64 x)=u3 at k1 k2 k3 kb ⊢
 refine hK.out _ _ ?_
 clear hK K
 refine done_ (by kernel_rfl) ?_
 go_wp2
 refine ⟨rfl,_,?_,_,results_none (fn:=Tryd.f25) rfl _ _ _,rfl,rfl,k1,k2,k3,kb⟩
 cases c₀
 simp_all
end Go.Proofs.YtcmdjpolgaejoaaDoor.Gd
namespace Go.Proofs.YtcmdjpolgaejoaaDoor.Gd
open Go.RowKit Go.Proofs.YtcmdjpolgaejoaaDoorW.PrintWords Go.Proofs.YtcmdjpolgaejoaaDoorW.PrintLast Go.Proofs.YtcmdjpolgaejoaaDoorW.PrintMore
set_option linter.unusedVariables false
set_option linter.unusedSimpArgs false
attribute [local irreducible] wpList
def RightAt (w0:World) (C:Cv) (b:Bool):Prop:=∀ W,Below w0.heap.size w0 W→Calls Tryd.prog 24 #[.agg #[.slice C.A0 C.l0.length C.c0,.slice C.A1 C.l1.length C.c1,.slice C.A2 C.l2.length C.c2,.slice C.A3 C.l3.length C.c3]] W fun e w'=>e=.returned (.bool b)∧Below W.heap.size W w'
def lim3 (a b c:Int):Value:=.agg #[.int .i64 a,.int .i64 b,.int .i64 c]
structure V4 (w:World) (cs c1 c2 c3:Array Value) (w':World):Prop where
 k0:w'.heap[w.heap.size]? = some (.cells cs 26 (0,0))
 k1:w'.heap[w.heap.size+1]? = some (.cells c1 29 (0,0))
 k2:w'.heap[w.heap.size+1+1]? = some (.cells c2 30 (0,0))
 k3:w'.heap[w.heap.size+1+1+1]? = some (.cells c3 3 (0,0))
 b:Below w.heap.size w w'
theorem V4.new (w:World) (cs c1 c2 c3:Array Value):V4 w cs c1 c2 c3 ((((w.alloc (.cells cs 26)).alloc (.cells c1 29)).alloc (.cells c2 30)).alloc (.cells c3 3)):=by
 have h1:=heap_alloc_new w (.cells cs 26)
 have h2:=heap_alloc_new (w.alloc (.cells cs 26)) (.cells c1 29)
 have h3:=heap_alloc_new ((w.alloc (.cells cs 26)).alloc (.cells c1 29)) (.cells c2 30)
 have h4:=heap_alloc_new (((w.alloc (.cells cs 26)).alloc (.cells c1 29)).alloc (.cells c2 30)) (.cells c3 3)
 have e1:(w.alloc (.cells cs 26)).heap.size=w.heap.size+1:=by simp
 have e2:((w.alloc (.cells cs 26)).alloc (.cells c1 29)).heap.size=w.heap.size+1+1:=by simp
 have e3:(((w.alloc (.cells cs 26)).alloc (.cells c1 29)).alloc (.cells c2 30)).heap.size=w.heap.size+1+1+1:=by simp
 rw [e1] at h2
 rw [e2] at h3
 rw [e3] at h4
 exact ⟨blk_alloc (blk_alloc (blk_alloc h1 _) _) _,blk_alloc (blk_alloc h2 _) _,blk_alloc h3 _,h4,below_alloc (below_alloc (below_alloc (below_alloc (Below.refl _ _) _) _) _) _⟩
theorem V4.call {w w1 w2:World} {cs c1 c2 c3:Array Value} (h:V4 w cs c1 c2 c3 w1) (hb:Below w1.heap.size w1 w2):V4 w cs c1 c2 c3 w2 :=
 ⟨blk_below h.k0 hb,blk_below h.k1 hb,blk_below h.k2 hb,blk_below h.k3 hb,below_then h.b h.b.size hb⟩
theorem V4.set {w w':World} {cs:Array Value} {v0 v1 v2 v3 v4:Value} (h:V4 w cs #[v0,v1,v2] #[v3] #[v4] w') (a b c d e:Value) :
  V4 w cs #[a,b,c] #[d] #[e] (((((w'.setCell ⟨w.heap.size+1,0,none⟩ a).setCell ⟨w.heap.size+1,1,none⟩ b).setCell ⟨w.heap.size+1,2,none⟩ c).setCell ⟨w.heap.size+1+1,0,none⟩ d).setCell ⟨w.heap.size+1+1+1,0,none⟩ e):=by
 refine ⟨?_,?_,?_,?_,?_⟩
 ·rw [set_far (by omega),set_far (by omega)]
  exact set3_far a b c (by omega) h.k0
 ·rw [set_far (by omega),set_far (by omega)]
  exact blk_put (blk_put (blk_put h.k1 0 a rfl) 1 b rfl) 2 c rfl
 ·rw [set_far (by omega)]
  exact blk_put (set3_far a b c (by omega) h.k2) 0 d rfl
 ·refine blk_put (cs:=#[v4]) ?_ 0 e rfl
  rw [set_far (by omega)]
  exact set3_far a b c (by omega) h.k3
 ·exact Below.setCell (p:=⟨w.heap.size+1+1+1,0,none⟩) (Below.setCell (p:=⟨w.heap.size+1+1,0,none⟩) (set3_below a b c h.b (by omega)) (by show _≤w.heap.size+1+1; omega) d) (by show _≤w.heap.size+1+1+1; omega) e
theorem V4.results {w w':World} {cs:Array Value} {a b c d e:Int} (h:V4 w cs #[.int .i64 a,.int .i64 b,.int .i64 c] #[.int .i64 d] #[.int .i64 e] w') (tmps:Array Value)
  (h2:tmps.getD 2 undef=.pointer (some ⟨w.heap.size+1,0,none⟩)) (h3:tmps.getD 3 undef=.pointer (some ⟨w.heap.size+1+1,0,none⟩)) (h4:tmps.getD 4 undef=.pointer (some ⟨w.heap.size+1+1+1,0,none⟩)) :
  (results Tryd.f12 tmps).run Tryd.prog w'=.ok (.tuple #[lim3 a b c,.int .i64 d,.int .i64 e]) w':=by
 have i29:(Tryd.prog.info? 29).map (·.size)=some 3:=by kernel_rfl
 have y1:=run_loadVar_row (P:=Tryd.prog) w' _ 29 29 _ (0,0) _ h.k1 Tryd.underlying29 rfl i29
 have y2:w'.cell? ⟨w.heap.size+1+1,0,none⟩=some (.int .i64 d):=blk_cell h.k2 0
 have y3:w'.cell? ⟨w.heap.size+1+1+1,0,none⟩=some (.int .i64 e):=blk_cell h.k3 0
 have p2:tmps[2]?.getD undef=.pointer (some ⟨w.heap.size+1,0,none⟩):=by simpa using h2
 have p3:tmps[3]?.getD undef=.pointer (some ⟨w.heap.size+1+1,0,none⟩):=by simpa using h3
 have p4:tmps[4]?.getD undef=.pointer (some ⟨w.heap.size+1+1+1,0,none⟩):=by simpa using h4
 simp [Go.results,Tryd.results12,p2,p3,p4,asAddr,y1,lim3]
 simp [loadVar,go_sem,y2,y3]
set_option maxHeartbeats 4000000 in
set_option maxRecDepth 10000 in
theorem verify_form (C:Cv) (w:World) (hR:RightAt w C false) :
  Calls Tryd.prog 12 #[.agg #[.slice C.A0 C.l0.length C.c0,.slice C.A1 C.l1.length C.c1,.slice C.A2 C.l2.length C.c2,.slice C.A3 C.l3.length C.c3]] w fun e w'=>e=.returned (.tuple #[lim3 0 0 0,.int .i64 180,.int .i64 0])∧Below w.heap.size w w':=by
 have hmf:∀ (fn:Fn) (first cap:Array Value) (w:World),(Instr.makeFunc fn first cap).run Tryd.prog w=.ok (.func fn first cap) w:=fun _ _ _ _=>rfl
 have HV:=Aside0.mk (V4.new w #[.slice C.A0 C.l0.length C.c0,.slice C.A1 C.l1.length C.c1,.slice C.A2 C.l2.length C.c2,.slice C.A3 C.l3.length C.c3] #[.int .i64 0,.int .i64 0,.int .i64 0] #[.int .i64 0] #[.int .i64 0])
 go_enter_defers Tryd.func12,Tryd.ntmps12
 go_wp2_with (go_at_call 24; (refine (hR _ (by repeat (first|exact Below.refl _ _|apply below_alloc))).mono ?_); rintro e w1 ⟨rfl,hb⟩; have HV:=Aside0.mk (HV.out.call hb); have y0:=blk_cell HV.out.k1 0; have y1:=blk_cell HV.out.k1 1; have y2:=blk_cell HV.out.k1 2; have y3:=blk_cell HV.out.k2 0; have y4:=blk_cell HV.out.k3 0; have f0:=blk_frozen HV.out.k1 0; have f1:=blk_frozen HV.out.k1 1; have f2:=blk_frozen HV.out.k1 2; have f3:=blk_frozen HV.out.k2 0; have f4:=blk_frozen HV.out.k3 0; clear hb)
 have HV:=Aside0.mk (HV.out.set (.int .i64 0) (.int .i64 0) (.int .i64 0) (.int .i64 180) (.int .i64 0))
 refine ⟨_,HV.out.results _ rfl rfl rfl,rfl,HV.out.b⟩
end Go.Proofs.YtcmdjpolgaejoaaDoor.Gd
namespace Go.Proofs.YtcmdjpolgaejoaaDoor.Gd
open Go.RowKit Go.Proofs.YtcmdjpolgaejoaaDoorW.PrintWords Go.Proofs.YtcmdjpolgaejoaaDoorW.PrintLast Go.Proofs.YtcmdjpolgaejoaaDoorW.PrintMore
set_option linter.unusedVariables false
set_option linter.unusedSimpArgs false
def falses (n:Nat):Array Value:=((List.replicate n false).map Value.bool).toArray
theorem info4:(Tryd.prog.info? 4).map (fun i=>(i.zero,i.size,i.bytes))=some (some (.bool false),1,1):=by kernel_rfl
theorem make70 (w:World) (n:Nat) (h:n≤32768):(Instr.makeSlice 70 (.int .i64 (n:Nat)) (.int .i64 (n:Nat))).run Tryd.prog w=.ok (.slice (some ⟨w.heap.size,0,none⟩) n n) (w.alloc (.cells (falses n) 4)):=by
 have hi:=info4
 cases hq:Tryd.prog.info? 4 with
 | none=>simp [hq] at hi
 | some i =>
  simp [hq] at hi
  obtain ⟨h1,h2,h3⟩:=hi
  have:=run_makeSlice (P:=Tryd.prog) w 70 4 i (.bool false) Tryd.underlying70 hq h1 .i64 .i64 (n:Nat) (n:Nat) (by omega) (Int.le_refl _) (by rw [h2]; simp; omega) (by rw [h3]; simp; omega) (by omega)
  rw [h2] at this
  simp only [Int.toNat_natCast,Nat.mul_one] at this
  rw [this]
  have e:madeCells (Value.bool false).cells n=falses n:=by
   simp [madeCells,falses,Value.cells]
   apply Array.ext
   ·simp
   ·intro k h1 h2
    simp [Nat.mod_one]
  rw [e]
theorem makeMap69 (w:World):(Instr.makeMap 69 none).run Tryd.prog w=.ok (.map (some w.heap.size)) (w.alloc (.map #[] 0)):=by
 simp [Instr.makeMap,newObj,Sem.run]
theorem setB_far {w:World} {m k:Nat} {o o':Obj} (n:k≠m) (h:w.heap[k]? = some o'):(setB w m o).heap[k]? = some o':=by
 simp [setB,Array.getElem?_setIfInBounds,Ne.symm n,h]
theorem setB_below {w0 w:World} {B m:Nat} {o:Obj} (h:Below B w0 w) (hm:B≤m):Below B w0 (setB w m o) :=
 ⟨h.os,h.tape,h.output,by simpa [setB] using h.size,fun k hk=>by
  have:k≠m:=by omega
  simp [setB,Array.getElem?_setIfInBounds,Ne.symm this]
  exact h.block k hk⟩
theorem map_ne {w:World} {m k:Nat} {es:Array MapEntry} {ck:Nat} {cs:Array Value} {t:TypeId} (h1:w.heap[m]? = some (.map es ck)) (h2:w.heap[k]? = some (.cells cs t (0,0))):k≠m:=by
 rintro rfl
 rw [h1] at h2
 cases h2
def L0 (n:Nat):Lk:={ tab:=[(0,([],0))],left:=List.replicate n false,at_:=0,word:=0,stack:=0,rounds:=0,kind:=0 }
def e0:Array MapEntry:=#[⟨.int .i64 ((0:Nat):Int),stV ([],0),0⟩]
theorem e0_is:MapIs e0 [(0,([],0))]:=rfl
theorem insert0 {w:World} {m:Nat} (h:w.heap[m]? = some (.map #[] 0)):(Instr.mapUpdate 69 (.map (some m)) (.int .i64 0) (stV ([],0))).run Tryd.prog w=.ok () (setB w m (.map e0 1)) :=
 (update_run (T:=[]) h rfl 0 ([],0) rfl).1
end Go.Proofs.YtcmdjpolgaejoaaDoor.Gd
namespace Go.Proofs.YtcmdjpolgaejoaaDoor.Gd
open Go.RowKit Go.Proofs.YtcmdjpolgaejoaaDoorW.PrintWords Go.Proofs.YtcmdjpolgaejoaaDoorW.PrintLast Go.Proofs.YtcmdjpolgaejoaaDoorW.PrintMore
set_option linter.unusedVariables false
set_option linter.unusedSimpArgs false
abbrev z3:Array Value:=#[.int .i64 0,.int .i64 0,.int .i64 0]
abbrev z1:Array Value:=#[.int .i64 0]
structure VS (C:Cv) (w:World) (m lb lg bl:Nat) (L:Lk) (w':World):Prop where
 v:V4 w C.cells.toArray z3 z1 z1 w'
 h:Holds w C lg m lb L w'
 p:w'.heap[bl]? = some (.cells #[.pointer (some ⟨lg,0,none⟩)] 64 (0,0))
 g:w.heap.size≤bl
section
variable {C:Cv} {w w' w'':World} {m lb lg bl:Nat} {L L':Lk}
theorem Holds.apart {w0:World} (h:Holds w0 C lg m lb L w') {k:Nat} {cs:Array Value} {t:TypeId} (hk:w'.heap[k]? = some (.cells cs t (0,0))) (h1:t≠72) (h2:t≠4):k≠lg∧k≠m∧k≠lb:=by
 obtain ⟨es,c,hm,-⟩:=h.mp
 exact ⟨blk_ne hk h.lk h1,map_ne hm hk,blk_ne hk h.lf h2⟩
theorem VS.keep (s:VS C w m lb lg bl L w') (k:Keep3 lg m lb w' w'') (h:Holds w C lg m lb L' w''):VS C w m lb lg bl L' w'':=by
 have far:∀ {g:Nat} {cs:Array Value} {t:TypeId},w'.heap[g]? = some (.cells cs t (0,0))→t≠72→t≠4→w''.heap[g]? = some (.cells cs t (0,0)):=fun {g cs t} hg h1 h2=>by
  obtain ⟨a,b,c⟩:=s.h.apart hg h1 h2
  exact (k.block g (blk_lt hg) a b c).trans hg
 exact ⟨⟨far s.v.k0 (by decide) (by decide),far s.v.k1 (by decide) (by decide),far s.v.k2 (by decide) (by decide),far s.v.k3 (by decide) (by decide),h.b⟩,h,far s.p (by decide) (by decide),s.g⟩
theorem VS.call (s:VS C w m lb lg bl L w') (hb:Below w'.heap.size w' w''):VS C w m lb lg bl L w'':=s.keep (Keep3.of_below hb) (s.h.keep hb)
theorem VS.drew (s:VS C w m lb lg bl L w'):VS C w m lb lg bl L w'.drew:=s.call (Below.refl _ _).drew
theorem VS.set (s:VS C w m lb lg bl L w') (i:Nat) (v:Value) (e:(lkc C m lb L).setIfInBounds i v=lkc C m lb L') (e1:L'.tab=L.tab) (e2:L'.left=L.left):VS C w m lb lg bl L' (w'.setCell ⟨lg,i,none⟩ v) :=
 s.keep (Keep3.cell (Or.inl rfl)) (s.h.set i v e e1 e2)
theorem VS.setLeft (s:VS C w m lb lg bl L w') (i:Nat) (b:Bool):VS C w m lb lg bl { L with left:=L.left.set i b } (w'.setCell ⟨lb,i,none⟩ (.bool b)) :=
 s.keep (Keep3.cell (Or.inr (Or.inr rfl))) (s.h.setLeft i b)
theorem VS.ptr (s:VS C w m lb lg bl L w'):w'.cell? ⟨bl,0,none⟩=some (.pointer (some ⟨lg,0,none⟩)):=blk_cell s.p 0
theorem VS.leftAt (s:VS C w m lb lg bl L w') (i:Nat) (hi:i < C.l0.length):w'.cell? ⟨lb,i,none⟩=some (.bool (L.left.getD i false)):=by
 rw [blk_cell s.h.lf i]
 have:i < L.left.length:=by rw [s.h.ln]; exact hi
 simp [this]
theorem VS.start (hV:V4 w C.cells.toArray z3 z1 z1 w') (hm:w'.heap[m]? = some (.map e0 1)) (hlb:w'.heap[lb]? = some (.cells (falses C.l0.length) 4 (0,0))) (hlg:w'.heap[lg]? = some (.cells (lkc C m lb (L0 C.l0.length)) 72 (0,0)))
  (hbl:w'.heap[bl]? = some (.cells #[.pointer none] 64 (0,0))) (gm:w.heap.size≤m) (glb:w.heap.size≤lb) (glg:w.heap.size≤lg) (gbl:w.heap.size≤bl) :
  VS C w m lb lg bl (L0 C.l0.length) (w'.setCell ⟨bl,0,none⟩ (.pointer (some ⟨lg,0,none⟩))):=by
 have hH:Holds w C lg m lb (L0 C.l0.length) w':=⟨hlg,⟨e0,1,hm,e0_is⟩,hlb,by simp [L0],hV.b,glg,gm,glb⟩
 obtain ⟨a,b,c⟩:=hH.apart hbl (by decide) (by decide)
 have n0:=blk_ne hV.k0 hbl (by decide)
 have n1:=blk_ne hV.k1 hbl (by decide)
 have n2:=blk_ne hV.k2 hbl (by decide)
 have n3:=blk_ne hV.k3 hbl (by decide)
 have hb:Below w.heap.size w (w'.setCell ⟨bl,0,none⟩ (.pointer (some ⟨lg,0,none⟩))):=Below.setCell (p:=⟨bl,0,none⟩) hV.b gbl _
 exact ⟨⟨(set_far n0).trans hV.k0,(set_far n1).trans hV.k1,(set_far n2).trans hV.k2,(set_far n3).trans hV.k3,hb⟩,
  ⟨(set_far a.symm).trans hlg,⟨e0,1,(set_far b.symm).trans hm,e0_is⟩,(set_far c.symm).trans hlb,by simp [L0],hb,glg,gm,glb⟩,blk_put hbl 0 _ rfl,gbl⟩
end
theorem least_of (p:Nat→Prop):∃ k,∀ f,p f→p k∧k≤f:=by
 by_cases h:∃ f,p f
 ·obtain ⟨f,hf⟩:=h
  induction f using Nat.strongRecOn with
  | _ f ih =>
   by_cases h2:∃ g,g < f∧p g
   ·obtain ⟨g,hg,hp⟩:=h2
    exact ih g hg hp
   ·exact ⟨f,fun g hp=>⟨hf,Nat.le_of_not_lt fun hlt=>h2 ⟨g,hlt,hp⟩⟩⟩
 ·exact ⟨0,fun f hf=>absurd ⟨f,hf⟩ h⟩
theorem exists_least (I:Nat→World→Prop):∃ μ:World→Nat,∀ w f,I f w→I (μ w) w∧μ w≤f:=by
 have h:∀ w,∃ k,∀ f,I f w→I k w∧k≤f:=fun w=>least_of fun f=>I f w
 exact ⟨fun w=>Classical.choose (h w),fun w f hf=>Classical.choose_spec (h w) f hf⟩
def outOf:Except (Int×Nat) Lk→Int×Int×Int×Int×Int
 | .error (x,a)=>(0,0,0,x,(a:Nat))
 | .ok L=>if L.kind=0 then (0,0,0,201,0) else ((L.stack:Nat),(L.rounds:Nat),(L.kind:Nat),0,0)
def outV (o:Int×Int×Int×Int×Int):Value:=.tuple #[lim3 o.1 o.2.1 o.2.2.1,.int .i64 o.2.2.2.1,.int .i64 o.2.2.2.2]
def Inv (C:Cv) (cell:Nat→Nat) (pt:Nat→Nat×Nat×Nat) (w:World) (m lb lg bl:Nat) (r:Except (Int×Nat) Lk) (f:Nat) (w':World):Prop :=
 ∃ L,VS C w m lb lg bl L w'∧TabOk L∧run C.l0.length cell pt f L=some r
end Go.Proofs.YtcmdjpolgaejoaaDoor.Gd
