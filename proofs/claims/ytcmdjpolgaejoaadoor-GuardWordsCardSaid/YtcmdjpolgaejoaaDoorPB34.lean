/- The laws GuardLooks, GuardWords of the program hold, as their cards say: texts put together by a program, 35 of 38. -/
import Derived.Test.YtcmdjpolgaejoaaDoorPB19
import Derived.Test.YtcmdjpolgaejoaaDoorPB20
import Derived.Test.YtcmdjpolgaejoaaDoorPB22
import Derived.Test.YtcmdjpolgaejoaaDoorPB26
import Derived.Test.YtcmdjpolgaejoaaDoorPB27
import Derived.Test.YtcmdjpolgaejoaaDoorPB32
import Derived.Test.YtcmdjpolgaejoaaDoorPB33
import Derived.Outline
namespace Go.Proofs.YtcmdjpolgaejoaaDoor.Code
open Go.RowKit Go.Proofs.YtcmdjpolgaejoaaDoorW.PrintWords Go.Proofs.YtcmdjpolgaejoaaDoorW.PrintMore Go.Proofs.YtcmdjpolgaejoaaDoor.C Go.Proofs.YtcmdjpolgaejoaaDoor.Pack Go.Proofs.YtcmdjpolgaejoaaDoor.Lex Go.Proofs.YtcmdjpolgaejoaaDoor.Str
def U64 (l:List Int):Prop:=∀ x∈l,0≤x∧x≤18446744073709551615
def rightS (ws cs:List Int) (ns:List ByteArray) (ks:List Int):Bool :=
 decide (1≤ws.length∧ws.length≤32768∧cs.length≤32768∧ns.length≤2000∧ks.length≤256) && (ns.all nameOK && (ks.all kdOK && ws.all (wOK cs ns ks)))
theorem right_f (ws cs:List Int) (ns:List ByteArray) (ks:List Int) (hw:U64 ws) {k:Nat} (hk:30≤k):code_Right.f k ws cs ns ks=some (rightS ws cs ns ks):=by
 unfold code_Right.f rightS
 by_cases c:1≤ws.length∧ws.length≤32768∧cs.length≤32768∧ns.length≤2000∧ks.length≤256
 ·rw [if_pos c]
  have e1:(ns.all fun s=>(lex_IsName.f k s).isSome)=true:=List.all_eq_true.2 fun s _=>by rw [isName_f s hk]; rfl
  have e2:(ws.all fun x=>(code_may.f k ws cs ns ks x).isSome)=true:=List.all_eq_true.2 fun x hx=>by rw [may_f ws cs ns ks (hw x hx).1 (hw x hx).2 (by omega)]; rfl
  rw [if_pos ⟨e1,e2⟩]
  have f1:ns.any (nmP k)=!ns.all nameOK:=by
   rw [List.not_all_eq_any_not]
   congr 1
   funext s
   unfold nmP
   rw [isName_f s hk]
   rfl
  have f2:ks.any kdP=!ks.all kdOK:=by
   rw [List.not_all_eq_any_not]
   congr 1
   funext s
   unfold kdP
   rw [kind_f]
   rfl
  have f3:ws.any (wdP k ws cs ns ks)=!ws.all (wOK cs ns ks):=by
   rw [List.not_all_eq_any_not,Bool.eq_iff_iff,List.any_eq_true,List.any_eq_true]
   constructor<;>rintro ⟨x,hx,hp⟩<;>refine ⟨x,hx,?_⟩<;>unfold wdP at*<;> rw [may_f ws cs ns ks (hw x hx).1 (hw x hx).2 (by omega)] at*<;> exact hp
  rw [f1,f2,f3]
  simp [c]
 ·rw [if_neg c]
  simp [c]
theorem rdi (l:List Int) (i:Nat) (h:i < l.length):rd l (i:Int)=l[i]:=by simp [rd,List.getD,h]
theorem rdo (l:List ByteArray) (i:Nat) (h:i < l.length):rdOf ByteArray.empty l (i:Int)=l[i]:=by simp [rdOf,List.getD,h]
theorem w1 {i:Nat} (h:i < 1000000):wrap64 ((i:Int)+1)=((i+1:Nat):Int):=by rw [w64_id (by omega) (by omega)]; omega
theorem ref_r2 (ws cs:List Int) (ns:List ByteArray) (ks:List Int) (hw:U64 ws) (hl:ws.length≤32768):∀ (d i k:Nat),i+d=ws.length→d+10≤k→isthmusref18_Right.l2 k (i:Int) ws cs ns ks=some ((ws.drop i).all (wOK cs ns ks)):=by
 intro d
 induction d with
 | zero =>
  intro i k hi hk
  obtain ⟨k,rfl⟩:∃ m,k=m+1:=⟨k - 1,by omega⟩
  rw [isthmusref18_Right.l2,if_neg (by omega),List.drop_eq_nil_of_le (by omega)]
  rfl
 | succ d ih =>
  intro i k hi hk
  obtain ⟨k,rfl⟩:∃ m,k=m+1:=⟨k - 1,by omega⟩
  have hlt:i < ws.length:=by omega
  rw [isthmusref18_Right.l2,if_pos (by omega),if_pos (Int.natCast_nonneg i),rdi ws i hlt,ref_word ws cs ns ks (hw _ (List.getElem_mem hlt)).1 (hw _ (List.getElem_mem hlt)).2 (by omega),bs,w1 (by omega),ih (i+1) k (by omega) (by omega),List.drop_eq_getElem_cons hlt,List.all_cons]
  cases wOK cs ns ks ws[i]<;>simp
theorem ref_r1 (ws cs:List Int) (ns:List ByteArray) (ks:List Int) (hw:U64 ws) (hl:ws.length≤32768) (hk4:ks.length≤256):∀ (d i k:Nat),i+d=ks.length→d+40000≤k→isthmusref18_Right.l1 k (i:Int) ws cs ns ks=some ((ks.drop i).all kdOK && ws.all (wOK cs ns ks)):=by
 intro d
 induction d with
 | zero =>
  intro i k hi hk
  obtain ⟨k,rfl⟩:∃ m,k=m+1:=⟨k - 1,by omega⟩
  rw [isthmusref18_Right.l1,if_neg (by omega),List.drop_eq_nil_of_le (by omega),show (0:Int)=((0:Nat):Int) from rfl,ref_r2 ws cs ns ks hw hl ws.length 0 k (by omega) (by omega)]
  rfl
 | succ d ih =>
  intro i k hi hk
  obtain ⟨k,rfl⟩:∃ m,k=m+1:=⟨k - 1,by omega⟩
  have hlt:i < ks.length:=by omega
  rw [isthmusref18_Right.l1,if_pos (by omega),if_pos (Int.natCast_nonneg i),rdi ks i hlt,ref_kind,bs,w1 (by omega),ih (i+1) k (by omega) (by omega),List.drop_eq_getElem_cons hlt,List.all_cons]
  cases kdOK ks[i]<;>simp
theorem ref_r0 (ws cs:List Int) (ns:List ByteArray) (ks:List Int) (hw:U64 ws) (hl:ws.length≤32768) (hk4:ks.length≤256) (hn:ns.length≤2000):∀ (d i k:Nat),i+d=ns.length→d+41000≤k→isthmusref18_Right.l0 k (i:Int) ws cs ns ks=some ((ns.drop i).all nameOK && (ks.all kdOK && ws.all (wOK cs ns ks))):=by
 intro d
 induction d with
 | zero =>
  intro i k hi hk
  obtain ⟨k,rfl⟩:∃ m,k=m+1:=⟨k - 1,by omega⟩
  rw [isthmusref18_Right.l0,if_neg (by omega),List.drop_eq_nil_of_le (by omega),show (0:Int)=((0:Nat):Int) from rfl,ref_r1 ws cs ns ks hw hl hk4 ks.length 0 k (by omega) (by omega)]
  rfl
 | succ d ih =>
  intro i k hi hk
  obtain ⟨k,rfl⟩:∃ m,k=m+1:=⟨k - 1,by omega⟩
  have hlt:i < ns.length:=by omega
  rw [isthmusref18_Right.l0,if_pos (by omega),if_pos (Int.natCast_nonneg i),rdo ns i hlt,ref_isName _ (by omega),bs,w1 (by omega),ih (i+1) k (by omega) (by omega),List.drop_eq_getElem_cons hlt,List.all_cons]
  cases nameOK ns[i]<;>simp
theorem ref_right (ws cs:List Int) (ns:List ByteArray) (ks:List Int) (hw:U64 ws) {k:Nat} (hk:45000≤k):isthmusref18_Right.f k ws cs ns ks=some (rightS ws cs ns ks):=by
 unfold isthmusref18_Right.f rightS
 obtain ⟨k,rfl⟩:∃ m,k=m+1:=⟨k - 1,by omega⟩
 simp only [isthmusref18_Right.j0,if_true]
 by_cases c1:(ws.length:Int) < 1
 ·rw [if_pos c1,decide_eq_false (show ¬ _ from fun h=>by omega),Bool.false_and]
 rw [if_neg c1]
 by_cases c2:(ws.length:Int) > 32768
 ·rw [if_pos c2,decide_eq_false (show ¬ _ from fun h=>by omega),Bool.false_and]
 rw [if_neg c2]
 by_cases c3:(cs.length:Int) > 32768
 ·rw [if_pos c3,decide_eq_false (show ¬ _ from fun h=>by omega),Bool.false_and]
 rw [if_neg c3]
 by_cases c4:(ns.length:Int) > 2000
 ·rw [if_pos c4,decide_eq_false (show ¬ _ from fun h=>by omega),Bool.false_and]
 rw [if_neg c4]
 by_cases c5:(ks.length:Int) > 256
 ·rw [if_pos (decide_eq_true c5),decide_eq_false (show ¬ _ from fun h=>by omega),Bool.false_and]
 rw [if_neg (by simpa using c5),decide_eq_true (show _ from ⟨by omega,by omega,by omega,by omega,by omega⟩),Bool.true_and,show (0:Int)=((0:Nat):Int) from rfl,ref_r0 ws cs ns ks hw (by omega) (by omega) (by omega) ns.length 0 k (by omega) (by omega)]
 rfl
end Go.Proofs.YtcmdjpolgaejoaaDoor.Code
namespace Go.Proofs.YtcmdjpolgaejoaaDoor.Gd
open Go.RowKit Go.Proofs.YtcmdjpolgaejoaaDoorW.PrintWords Go.Proofs.YtcmdjpolgaejoaaDoorW.PrintLast Go.Proofs.YtcmdjpolgaejoaaDoorW.PrintMore Go.Proofs.YtcmdjpolgaejoaaDoor.Code Go.Proofs.YtcmdjpolgaejoaaDoor.C
set_option linter.unusedVariables false
set_option linter.unusedSimpArgs false
def ptx (x:Int):Nat×Nat×Nat:=((x / 72057594037927936).toNat,(x / 268435456%268435456).toNat,(x%268435456).toNat)
def cellOf (ks:List Int) (a:Nat):Nat:=(rd ks (a:Int)).toNat
def pto (ws:List Int) (a:Nat):Nat×Nat×Nat:=ptx (rd ws (a:Int))
def start (n:Nat):Lk:={ L0 n with left:=(L0 n).left.set 0 true }
def verR (ws ks:List Int):Except (Int×Nat) Lk:=(run ws.length (cellOf ks) (pto ws) (mu ws.length (start ws.length)+1) (start ws.length)).getD (.error (0,0))
def verifyS (ws cs:List Int) (ns:List ByteArray) (ks:List Int):Int×Int×Int×Int×Int :=
 if rightS ws cs ns ks=true then outOf (verR ws ks) else (0,0,0,180,0)
theorem verR_run (ws ks:List Int):run ws.length (cellOf ks) (pto ws) (mu ws.length (start ws.length)+1) (start ws.length)=some (verR ws ks):=by
 have h:=run_some ws.length (cellOf ks) (pto ws) (mu ws.length (start ws.length)+1) (start ws.length) (Nat.lt_succ_self _)
 unfold verR
 cases e:run ws.length (cellOf ks) (pto ws) (mu ws.length (start ws.length)+1) (start ws.length) with
 | none=>rw [e] at h; cases h
 | some r=>rfl
theorem ite_or {c:Prop} [Decidable c] {a b:Bool} (h:(if c then a else b)=true):(c∧a=true)∨(¬ c∧b=true):=by
 by_cases e:c
 ·rw [if_pos e] at h; exact Or.inl ⟨e,h⟩
 ·rw [if_neg e] at h; exact Or.inr ⟨e,h⟩
theorem ops_of {cs:List Int} {n2:Int} {n3 op a b:Nat} (h:opOK cs n2 n3 op a b=true):OpsOk n3 op a b:=by
 unfold opOK at h
 unfold OpsOk
 repeat (rcases ite_or h with ⟨c,h⟩|⟨c,h⟩; · (simp only [kdOK,Bool.and_eq_true,Bool.or_eq_true,decide_eq_true_eq] at h; refine ⟨?_,?_,?_,?_⟩<;>omega))
 simp only [kdOK,Bool.and_eq_true,Bool.or_eq_true,decide_eq_true_eq] at h
 refine ⟨?_,?_,?_,?_⟩<;>omega
theorem right_parts {ws cs:List Int} {ns:List ByteArray} {ks:List Int} (h:rightS ws cs ns ks=true) :
  (1≤ws.length∧ws.length≤32768∧cs.length≤32768∧ns.length≤2000∧ks.length≤256)∧(∀ s∈ns,Lex.nameOK s=true)∧(∀ x∈ks,kdOK x=true)∧(∀ x∈ws,wOK cs ns ks x=true):=by
 unfold rightS at h
 simp only [Bool.and_eq_true,decide_eq_true_eq,List.all_eq_true] at h
 exact ⟨h.1,h.2.1,h.2.2.1,h.2.2.2⟩
theorem rd_mem {l:List Int} {a:Nat} (h:a < l.length):rd l (a:Int)∈l:=by
 rw [rdi l a h]
 exact List.getElem_mem h
theorem ptx_cast {x:Int} (h0:0≤x):((ptx x).1:Int)=x / 72057594037927936∧((ptx x).2.1:Int)=x / 268435456%268435456∧((ptx x).2.2:Int)=x%268435456:=by
 unfold ptx
 refine ⟨?_,?_,?_⟩<;>simp only<;>omega
theorem ops_at {ws cs:List Int} {ns:List ByteArray} {ks:List Int} (hw:U64 ws) (h:rightS ws cs ns ks=true) (a:Nat) (ha:a < ws.length):OpsOk ks.length (pto ws a).1 (pto ws a).2.1 (pto ws a).2.2:=by
 have hm:=rd_mem ha
 have h1:=(right_parts h).2.2.2 _ hm
 obtain ⟨e1,e2,e3⟩:=ptx_cast (hw _ hm).1
 unfold wOK at h1
 rw [← e1,← e2,← e3] at h1
 exact ops_of h1
theorem cell_at {ws cs:List Int} {ns:List ByteArray} {ks:List Int} (h:rightS ws cs ns ks=true) (a:Nat) (ha:a < ks.length):rd ks (a:Int)=(cellOf ks a:Nat)∧1≤cellOf ks a∧cellOf ks a < 4:=by
 have h1:=(right_parts h).2.2.1 _ (rd_mem ha)
 unfold kdOK at h1
 simp at h1
 unfold cellOf
 omega
theorem Cv.Reads.below {C:Cv} {w w':World} (h:C.Reads w) (hb:Below w.heap.size w w'):C.Reads w' :=
 ⟨Kd.C_below h.r0 hb,h.h0,Kd.C_below h.r1 hb,h.h1,Kd.C_below h.r2 hb,h.h2,Kd.C_below h.r3 hb,h.h3⟩
theorem right_at (C:Cv) (w:World) (hr:C.Reads w) (hw:U64 C.l0) (hG:Glob w):RightAt w C (rightS C.l0 C.l1 C.l2 C.l3):=fun W hb=>by
 have h:=hr.below hb
 exact code_Right.calls 30 C.A0 C.c0 C.l0 C.A1 C.c1 C.l1 C.A2 C.c2 C.l2 C.A3 C.c3 C.l3 _ W h.r0 h.h0 h.r1 h.h1 h.r2 h.h2 h.r3 h.h3 (Glob.below hG hb) (right_f _ _ _ _ hw (Nat.le_refl _))
end Go.Proofs.YtcmdjpolgaejoaaDoor.Gd
namespace Go.Proofs.YtcmdjpolgaejoaaDoor.Gd
open Go.RowKit Go.Proofs.YtcmdjpolgaejoaaDoorW.PrintWords Go.Proofs.YtcmdjpolgaejoaaDoorW.PrintLast Go.Proofs.YtcmdjpolgaejoaaDoorW.PrintMore Go.Proofs.YtcmdjpolgaejoaaDoor.Code
set_option linter.unusedVariables false
set_option linter.unusedSimpArgs false
def Lk.ext (m:Nat) (L:Lk):Lk:={ L with left:=L.left++List.replicate m false }
def Bad {α:Type} (f:Except Int α):Prop:=∀ e,f=.error e→e≠0
theorem Bad.bind {α β:Type} {f:Except Int α} {g:α→Except Int β} (hf:Bad f) (hg:∀ x,Bad (g x)):Bad (f.bind g):=by
 intro e h
 cases f with
 | error x=>cases h; exact hf _ rfl
 | ok t=>exact hg t e h
theorem Bad.ok {α:Type} {x:α}:Bad (Except.ok x:Except Int α):=fun e h=>by cases h
theorem Bad.err {α:Type} {e:Int} (h:e≠0):Bad (Except.error e:Except Int α):=fun x h2=>by cases h2; exact h
theorem Bad.ite {α:Type} {c:Prop} [Decidable c] {f g:Except Int α} (hf:Bad f) (hg:Bad g):Bad (if c then f else g):=by split<;>assumption
theorem bad_needs (k:Nat) (s:St):Bad (needs k s):=by
 obtain ⟨ks,r⟩:=s
 cases ks with
 | nil=>exact Bad.err (by decide)
 | cons a t=>exact Bad.ite Bad.ok (Bad.err (by decide))
theorem bad_gets (k:Nat) (s:St):Bad (gets k s):=Bad.ite Bad.ok (Bad.err (by decide))
theorem bad_opened (s:St):Bad (opened s):=Bad.ite Bad.ok (Bad.err (by decide))
theorem bad_many:∀ (n:Nat) (s:St),Bad (many n s)
 | 0,s=>Bad.ok
 | n+1,s=>Bad.bind (bad_needs 3 s) (bad_many n)
theorem bad_call (k:Nat) (s:St):Bad (call k s):=by
 unfold call
 exact Bad.bind (bad_needs 3 s) fun t=>Bad.bind (Bad.ite (bad_needs _ _) Bad.ok) fun u=>Bad.ite (bad_gets _ _) (Bad.ite (bad_gets _ _) (bad_gets _ _))
theorem bad_behind (cell:Nat→Nat) (s:St) (a b op:Nat):Bad (behind cell s a b op):=by
 unfold behind
 split<;>first
  | exact Bad.ok
  | exact bad_gets _ _
  | exact bad_needs _ _
  | exact bad_call _ _
  | exact bad_opened _
  | exact Bad.ite (bad_gets _ _) (Bad.err (by decide))
  | exact Bad.ite Bad.ok (Bad.err (by decide))
  | exact Bad.bind (bad_needs _ _) fun t=>bad_gets _ _
  | exact Bad.bind (bad_needs _ _) fun t=>bad_opened _
  | exact Bad.bind (bad_many _ _) fun t=>bad_opened _
  | exact Bad.bind (bad_needs _ _) fun t=>Bad.bind (bad_needs _ _) fun u=>bad_gets _ _
  | exact Bad.bind (bad_needs _ _) fun t=>Bad.bind (bad_needs _ _) fun u=>Bad.bind (bad_needs _ _) fun v=>Bad.bind (bad_gets _ _) fun x=>bad_gets _ _
  | (unfold keeps; split; exact Bad.err (by decide); exact Bad.ite Bad.ok (Bad.err (by decide)))
theorem bad_comes (n:Nat) (L:Lk) (a:Nat) (s:St):Bad (comes n L a s):=by
 unfold comes
 refine Bad.ite ?_ (Bad.err (by decide))
 split
 ·exact Bad.ite Bad.ok (Bad.err (by decide))
 ·exact Bad.ok
theorem bad_looks (n:Nat) (cell:Nat→Nat) (L:Lk) (a op A B:Nat):Bad (looks n cell L a op A B):=by
 unfold looks
 refine Bad.ite ?_ ?_
 ·unfold haltOf
  exact Bad.ite (Bad.ite Bad.ok (Bad.err (by decide))) (Bad.err (by decide))
 ·refine Bad.bind (bad_behind _ _ _ _ _) fun s=>Bad.bind ?_ fun far=>Bad.bind ?_ fun L1=>?_
  ·unfold farOf
   exact Bad.ite (bad_gets _ _) (Bad.ite Bad.ok Bad.ok)
  ·unfold nextOf
   exact Bad.ite Bad.ok (bad_comes _ _ _ _)
  ·unfold jumpOf
   exact Bad.ite (bad_comes _ _ _ _) (Bad.ite (bad_comes _ _ _ _) Bad.ok)
end Go.Proofs.YtcmdjpolgaejoaaDoor.Gd
namespace Go.Proofs.YtcmdjpolgaejoaaDoor.Gd
set_option linter.unusedVariables false
set_option linter.unusedSimpArgs false
structure Sim (n:Nat) (L:Lk) (R:Rk):Prop where
 len:R.l.length=n
 ll:L.left.length=n
 tab:∀ a,a < n→look a L.tab=if (R.l.getD a rz).known=true then some (R.l.getD a rz).s else none
 left:∀ a,a < n→L.left.getD a false=((R.l.getD a rz).known && !(R.l.getD a rz).done)
 st:R.stack=L.stack
 ro:R.rounds=L.rounds
 ki:R.kind=L.kind
 e0:R.e=0
def Out (n:Nat) (f:Except Int Lk) (R:Rk):Prop:=match f with
 | .ok L=>Sim n L R
 | .error e=>R.e=e
theorem getD_set {α:Type} (l:List α) (i j:Nat) (x d:α) (h:i < l.length):(l.set i x).getD j d=if j=i then x else l.getD j d:=by
 rw [List.getD_eq_getElem?_getD,List.getElem?_set]
 by_cases e:j=i
 ·subst e; simp [h]
 ·rw [if_neg (fun h=>e h.symm),if_neg e,← List.getD_eq_getElem?_getD]
theorem comes_sim {n:Nat} {L:Lk} {R:Rk} (h:Sim n L R) (a:Nat) {s:St} (hs:s.1.length≤1024):Out n (comes n L a s) (rcomes R a s):=by
 unfold comes rcomes
 rw [if_pos h.e0,h.len]
 by_cases ha:a < n
 ·rw [if_pos ha,if_pos ha,if_pos hs,h.tab a ha]
  by_cases hk:(R.l.getD a rz).known=true
  ·rw [if_pos hk,if_pos hk]
   simp only
   by_cases hq:(R.l.getD a rz).s=s
   ·rw [if_pos hq,if_pos hq]
    exact ⟨h.len,h.ll,h.tab,h.left,congrArg (max · _) h.st,congrArg (max · _) h.ro,h.ki,h.e0⟩
   ·rw [if_neg hq,if_neg hq]
    rfl
  ·rw [if_neg hk,if_neg hk]
   have hl:a < R.l.length:=by rw [h.len]; exact ha
   have hll:a < L.left.length:=by rw [h.ll]; exact ha
   have hlk:look a L.tab=none:=by rw [h.tab a ha,if_neg hk]
   refine ⟨?_,?_,fun b hb=>?_,fun b hb=>?_,congrArg (max · _) h.st,congrArg (max · _) h.ro,h.ki,h.e0⟩
   ·show (R.l.set a _).length=n
    rw [List.length_set,h.len]
   ·show (L.left.set a _).length=n
    rw [List.length_set,h.ll]
   ·show look b (L.tab++[(a,s)])=if ((R.l.set a ⟨s.1,s.2,true,false⟩).getD b rz).known=true then some ((R.l.set a ⟨s.1,s.2,true,false⟩).getD b rz).s else none
    rw [look_append,getD_set _ _ _ _ _ hl]
    by_cases e:b=a
    ·subst e
     rw [hlk]
     simp [RSt.s]
    ·rw [if_neg e,← h.tab b hb]
     cases look b L.tab with
     | some t=>rfl
     | none=>exact if_neg (fun h=>e h.symm)
   ·show (L.left.set a true).getD b false=(((R.l.set a ⟨s.1,s.2,true,false⟩).getD b rz).known && !((R.l.set a ⟨s.1,s.2,true,false⟩).getD b rz).done)
    rw [getD_set _ _ _ _ _ hll,getD_set _ _ _ _ _ hl]
    by_cases e:b=a
    ·rw [if_pos e,if_pos e]; rfl
    ·rw [if_neg e,if_neg e]; exact h.left b hb
 ·rw [if_neg ha,if_neg ha]
  rfl
theorem comes_bad {R:Rk} (h:R.e≠0) (a:Nat) (s:St):rcomes R a s=R:=if_neg h
theorem halt_sim {n:Nat} {L:Lk} {R:Rk} (h:Sim n L R) {s:St} (hs:Fine s):Out n (haltOf L s) (rhalts R s):=by
 unfold haltOf rhalts
 by_cases h1:s.1.length=1∧s.2=0
 ·rw [if_pos h1,if_pos h1]
  obtain ⟨ks,r⟩:=s
  obtain ⟨k,rfl⟩:∃ k,ks=[k]:=by
   match ks,h1.1 with
   | [k],_=>exact ⟨k,rfl⟩
  have hk:k < 4:=hs.lt k List.mem_cons_self
  have ht:topv (wd [k]) [k].length=k:=wd_top k [] hk (by simp)
  have hd:([k]:List Nat).headD 0=k:=rfl
  rw [ht,hd,h.ki]
  by_cases h2:L.kind=0∨L.kind=k
  ·rw [if_pos h2,if_pos h2]
   exact ⟨h.len,h.ll,h.tab,h.left,h.st,h.ro,rfl,h.e0⟩
  ·rw [if_neg h2,if_neg h2]
   rfl
 ·rw [if_neg h1,if_neg h1]
  rfl
theorem goes_sim {n:Nat} {cell:Nat→Nat} {L:Lk} {R:Rk} (h:Sim n L R) (a op A B:Nat) {t far:St} (ht:t.1.length≤1024) (hf:far.1.length≤1024) (h17:op=17→far=(cell A :: t.1,t.2)) (h24:op=24→far=(t.1,t.2 - 1)) (ho:op≠17→op≠24→far=t) :
  Out n ((nextOf n L a op t).bind fun L1=>jumpOf n L1 op A B far) (rgoes cell R a op A B t):=by
 unfold rgoes nextOf
 have hn:∀ L1 R1,Sim n L1 R1→Out n (jumpOf n L1 op A B far) (if op=13∨op=14∨op=15 then rcomes R1 A t else if op=17 then rcomes R1 B (cell A :: t.1,t.2) else if op=24 then rcomes R1 A (t.1,t.2 - 1) else R1):=fun L1 R1 h1=>by
  unfold jumpOf
  by_cases c1:op=13∨op=14∨op=15
  ·rw [if_pos c1,if_pos (by omega),ho (by omega) (by omega)]
   exact comes_sim h1 A ht
  ·rw [if_neg c1]
   by_cases c2:op=17
   ·rw [if_neg (by omega),if_pos c2,if_pos c2,← h17 c2]
    exact comes_sim h1 B hf
   ·rw [if_neg c2]
    by_cases c3:op=24
    ·rw [if_pos (show op=13∨op=14∨op=15∨op=24 from Or.inr (Or.inr (Or.inr c3))),if_neg c2,if_pos c3,← h24 c3]
     exact comes_sim h1 A hf
    ·rw [if_neg (show ¬ (op=13∨op=14∨op=15∨op=24) by omega),if_neg c2,if_neg c3]
     exact h1
 by_cases c:op=13
 ·have e1:(if op=13 then Except.ok L else comes n L (a+1) t)=.ok L:=if_pos c
  have e2:(if op=13 then R else rcomes R (a+1) t)=R:=if_pos c
  rw [e1]
  simp only [e2]
  exact hn L R h
 ·rw [if_neg c]
  simp only [if_neg c]
  have hc:=comes_sim h (a+1) ht
  cases e:comes n L (a+1) t with
  | error x =>
   rw [e] at hc
   have hx:x≠0:=bad_comes n L (a+1) t x e
   have he:(rcomes R (a+1) t).e=x:=hc
   have hne:(rcomes R (a+1) t).e≠0:=by rw [he]; exact hx
   simp only [comes_bad hne,ite_self]
   exact he
  | ok L1 =>
   rw [e] at hc
   exact hn L1 _ hc
theorem looks_sim {n:Nat} {cell:Nat→Nat} {L:Lk} {R:Rk} (h:Sim n L R) (hT:TabOk L) (a op A B:Nat) (ha:a < n) (hk:(R.l.getD a rz).known=true) (ho:op≤27) (hb:op=1∨op=11→1≤B∧B < 4) (hc:op=17→1≤cell A∧cell A < 4) :
  Out n (looks n cell L a op A B) (rlooks cell R a op A B):=by
 have hs:(look a L.tab).getD ([],0)=(R.l.getD a rz).s:=by rw [h.tab a ha,if_pos hk]; rfl
 have hg:=got_ok hT a
 unfold looks rlooks
 rw [hs] at hg ⊢
 generalize (R.l.getD a rz).s=s at hg ⊢
 by_cases c0:op=0
 ·rw [if_pos c0,if_pos c0]
  exact halt_sim h hg.1
 rw [if_neg c0,if_neg c0]
 by_cases c17:op=17
 ·subst c17
  have hbe:behind cell s A B 17=.ok s:=rfl
  rw [hbe,step17]
  show Out n ((farOf cell 17 A s).bind fun far=>(nextOf n L a 17 s).bind fun L1=>jumpOf n L1 17 A B far) _
  have hfar:farOf cell 17 A s=gets (cell A) s:=rfl
  rw [hfar]
  unfold gets
  by_cases hl:s.1.length < 1024
  ·rw [if_pos hl,if_pos (by omega)]
   exact goes_sim h a 17 A B hg.1.2 (by simp; omega) (fun _=>rfl) (fun h=>absurd h (by decide)) (fun h=>absurd rfl h)
  ·rw [if_neg hl,if_neg (by omega)]
   rfl
 ·rw [step_eq cell s A B op ho c17 hg.1.2]
  cases e:behind cell s A B op with
  | error x=>rfl
  | ok t =>
   have ht:=behind_fine cell A B op hg.1 hb e
   show Out n ((farOf cell op A t).bind fun far=>(nextOf n L a op t).bind fun L1=>jumpOf n L1 op A B far) _
   unfold farOf
   rw [if_neg c17]
   by_cases c24:op=24
   ·rw [if_pos c24]
    exact goes_sim h a op A B ht.2 ht.2 (fun h=>absurd h c17) (fun _=>rfl) (fun _ h=>absurd c24 h)
   ·rw [if_neg c24]
    exact goes_sim h a op A B ht.2 ht.2 (fun h=>absurd h c17) (fun h=>absurd h c24) (fun _ _=>rfl)
def RSt.todo (x:RSt):Bool:=x.known && !x.done
def Rk.mark (R:Rk) (a:Nat):Rk:={ R with l:=R.l.set a { R.l.getD a rz with done:=true } }
def rrun (n:Nat) (cell:Nat→Nat) (pt:Nat→Nat×Nat×Nat):Nat→Nat→Rk→Option (Except (Int×Nat) Rk)
 | 0,_,_=>none
 | f+1,a,R =>
  if a < n then
   if (R.l.getD a rz).todo=true then
    if (rlooks cell (R.mark a) a (pt a).1 (pt a).2.1 (pt a).2.2).e=0 then rrun n cell pt f 0 (rlooks cell (R.mark a) a (pt a).1 (pt a).2.1 (pt a).2.2)
    else some (.error ((rlooks cell (R.mark a) a (pt a).1 (pt a).2.1 (pt a).2.2).e,a))
   else rrun n cell pt f (a+1) R
  else some (.ok R)
theorem rskip {n:Nat} {cell:Nat→Nat} {pt:Nat→Nat×Nat×Nat} (R:Rk) (g:Nat):∀ (d a:Nat),a+d≤n→(∀ i,a≤i→i < a+d→(R.l.getD i rz).todo=false)→rrun n cell pt (g+d) a R=rrun n cell pt g (a+d) R
 | 0,a,_,_=>rfl
 | d+1,a,hn,h=>by
  show rrun n cell pt (g+d+1) a R=_
  conv=>lhs; unfold rrun
  rw [if_pos (by omega),if_neg (by rw [h a (Nat.le_refl _) (by omega)]; decide),rskip R g d (a+1) (by omega) (fun i h1 h2=>h i (by omega) (by omega))]
  rw [show a+1+d=a+(d+1) by omega]
def Idle (L:Lk):Prop:=∀ i,i < L.at_→L.left.getD i false=false
theorem getD_set_false (l:List Bool) (i j:Nat) (h:l.getD j false=false):(l.set i false).getD j false=false:=by
 by_cases hi:i < l.length
 ·rw [getD_set _ _ _ _ _ hi]
  split
  ·rfl
  ·exact h
 ·rw [List.set_eq_of_length_le (by omega)]
  exact h
theorem comes_idle {n:Nat} {L L':Lk} {a:Nat} {s:St} (hl:L.left.length=n) (h:Idle L) (e:comes n L a s=.ok L'):Idle L':=by
 unfold comes at e
 split at e
 ·rename_i ha
  split at e
  ·split at e
   ·cases e; exact h
   ·cases e
  ·cases e
   intro i hi
   have hi':i < min L.at_ a:=hi
   show (L.left.set a true).getD i false=false
   rw [getD_set _ _ _ _ _ (by omega),if_neg (by omega)]
   exact h i (by omega)
 ·cases e
theorem looks_idle {n:Nat} {cell:Nat→Nat} {L L':Lk} {a op A B:Nat} (hl:L.left.length=n) (h:Idle L) (e:looks n cell L a op A B=.ok L'):Idle L':=by
 unfold looks at e
 split at e
 ·unfold haltOf at e
  split at e
  ·split at e
   ·cases e; exact h
   ·cases e
  ·cases e
 ·generalize behind cell ((look a L.tab).getD ([],0)) A B op=b at e
  cases b with
  | error x=>cases e
  | ok t =>
   replace e:(farOf cell op A t).bind (fun far=>(nextOf n L a op t).bind fun L1=>jumpOf n L1 op A B far)=.ok L':=e
   cases e2:farOf cell op A t with
   | error x=>rw [e2] at e; cases e
   | ok far =>
    rw [e2] at e
    replace e:(nextOf n L a op t).bind (fun L1=>jumpOf n L1 op A B far)=.ok L':=e
    cases e3:nextOf n L a op t with
    | error x=>rw [e3] at e; cases e
    | ok L1 =>
     rw [e3] at e
     replace e:jumpOf n L1 op A B far=.ok L':=e
     have h1:Idle L1∧L1.left.length=n:=by
      unfold nextOf at e3
      split at e3
      ·cases e3; exact ⟨h,hl⟩
      ·exact ⟨comes_idle hl h e3,(comes_key e3).2.trans hl⟩
     unfold jumpOf at e
     split at e
     ·exact comes_idle h1.2 h1.1 e
     ·split at e
      ·exact comes_idle h1.2 h1.1 e
      ·cases e; exact h1.1
theorem take_sim {n:Nat} {L:Lk} {R:Rk} (h:Sim n L R) (ha:L.at_ < n):Sim n L.take (R.mark L.at_):=by
 have hl:L.at_ < R.l.length:=by rw [h.len]; exact ha
 have hll:L.at_ < L.left.length:=by rw [h.ll]; exact ha
 refine ⟨?_,?_,fun b hb=>?_,fun b hb=>?_,h.st,h.ro,h.ki,h.e0⟩
 ·show (R.l.set _ _).length=n
  rw [List.length_set,h.len]
 ·show (L.left.set _ _).length=n
  rw [List.length_set,h.ll]
 ·show look b L.tab=if ((R.l.set L.at_ { R.l.getD L.at_ rz with done:=true }).getD b rz).known=true then some ((R.l.set L.at_ { R.l.getD L.at_ rz with done:=true }).getD b rz).s else none
  rw [getD_set _ _ _ _ _ hl,h.tab b hb]
  by_cases e:b=L.at_
  ·subst e; rw [if_pos rfl]; rfl
  ·rw [if_neg e]
 ·show (L.left.set L.at_ false).getD b false=(((R.l.set L.at_ { R.l.getD L.at_ rz with done:=true }).getD b rz).known && !((R.l.set L.at_ { R.l.getD L.at_ rz with done:=true }).getD b rz).done)
  rw [getD_set _ _ _ _ _ hll,getD_set _ _ _ _ _ hl]
  by_cases e:b=L.at_
  ·rw [if_pos e,if_pos e]; simp
  ·rw [if_neg e,if_neg e]; exact h.left b hb
def Both (n:Nat):Except (Int×Nat) Lk→Except (Int×Nat) Rk→Prop
 | .error x,.error y=>x=y
 | .ok L,.ok R=>Sim n L R
 | _,_=>False
theorem run_sim {n:Nat} {cell:Nat→Nat} {pt:Nat→Nat×Nat×Nat} (hO:∀ a,a < n→(pt a).1≤27∧((pt a).1=1∨(pt a).1=11→1≤(pt a).2.2∧(pt a).2.2 < 4)∧((pt a).1=17→1≤cell (pt a).2.1∧cell (pt a).2.1 < 4)) :
  ∀ (f:Nat) (L:Lk) (R:Rk) (r) (a:Nat),run n cell pt f L=some r→Sim n L R→TabOk L→Idle L→(∀ i,i < a→(R.l.getD i rz).todo=false)→a≤n→∃ g r',rrun n cell pt g a R=some r'∧Both n r r'
 | 0,_,_,_,_,h,_,_,_,_,_=>by cases h
 | f+1,L,R,r,a,h,hS,hT,hI,ha,han=>by
  have hid:∀ i,i < n→i < L.at_→(R.l.getD i rz).todo=false:=fun i hi h1=>by
   have:=hI i h1
   rw [hS.left i hi] at this
   exact this
  unfold run at h
  by_cases h1:L.at_ < n
  ·rw [if_pos h1] at h
   by_cases h2:L.left.getD L.at_ false=true
   ·rw [if_pos h2] at h
    have htd:(R.l.getD L.at_ rz).todo=true:=by
     have:=hS.left L.at_ h1
     rw [h2] at this
     exact this.symm
    have hle:a≤L.at_:=by
     rcases Nat.lt_or_ge L.at_ a with hlt|hge
     ·rw [ha _ hlt] at htd; cases htd
     ·exact hge
    have hsk:∀ g,rrun n cell pt (g+(L.at_ - a)) a R=rrun n cell pt g L.at_ R:=fun g=>by
     have:=rskip (n:=n) (cell:=cell) (pt:=pt) R g (L.at_ - a) a (by omega) (fun i _ h2=>hid i (by omega) (by omega))
     rwa [show a+(L.at_ - a)=L.at_ by omega] at this
    have hkn:((R.mark L.at_).l.getD L.at_ rz).known=true:=by
     have hl:L.at_ < R.l.length:=by rw [hS.len]; exact h1
     show ((R.l.set L.at_ { R.l.getD L.at_ rz with done:=true }).getD L.at_ rz).known=true
     rw [getD_set _ _ _ _ _ hl,if_pos rfl]
     show (R.l.getD L.at_ rz).known=true
     unfold RSt.todo at htd
     simp only [Bool.and_eq_true] at htd
     exact htd.1
    have hTt:TabOk L.take:=hT
    have hlk:=looks_sim (cell:=cell) (take_sim hS h1) hTt L.at_ (pt L.at_).1 (pt L.at_).2.1 (pt L.at_).2.2 h1 hkn (hO _ h1).1 (hO _ h1).2.1 (hO _ h1).2.2
    have hIt:Idle L.take:=fun i hi=>getD_set_false _ _ _ (hI i hi)
    cases e:looks n cell L.take L.at_ (pt L.at_).1 (pt L.at_).2.1 (pt L.at_).2.2 with
    | error x =>
     rw [e] at h hlk
     have hr:r=.error (x,L.at_):=(Option.some.inj h).symm
     have hx:x≠0:=bad_looks _ _ _ _ _ _ _ x e
     have hre:(rlooks cell (R.mark L.at_) L.at_ (pt L.at_).1 (pt L.at_).2.1 (pt L.at_).2.2).e=x:=hlk
     refine ⟨1+(L.at_ - a),.error (x,L.at_),?_,by rw [hr]; rfl⟩
     rw [hsk 1]
     unfold rrun
     rw [if_pos h1,if_pos htd,if_neg (by rw [hre]; exact hx),hre]
    | ok L1 =>
     rw [e] at h hlk
     replace hlk:Sim n L1 _:=hlk
     obtain ⟨g,r',hg,hb⟩:=run_sim hO f L1 _ r 0 h hlk (looks_ok hTt (hO _ h1).2.1 (hO _ h1).2.2 e).1 (looks_idle (by simpa [Lk.take] using hS.ll) hIt e) (fun i hi=>absurd hi (Nat.not_lt_zero _)) (Nat.zero_le _)
     refine ⟨(g+1)+(L.at_ - a),r',?_,hb⟩
     rw [hsk (g+1)]
     unfold rrun
     rw [if_pos h1,if_pos htd,if_pos hlk.e0]
     exact hg
   ·rw [if_neg h2] at h
    have hS':Sim n L.skip R:=⟨hS.len,hS.ll,hS.tab,hS.left,hS.st,hS.ro,hS.ki,hS.e0⟩
    refine run_sim hO f L.skip R r a h hS' hT (fun i hi=>?_) ha han
    have hi':i < L.at_+1:=hi
    show L.left.getD i false=false
    rcases Nat.lt_or_ge i L.at_ with hlt|hge
    ·exact hI i hlt
    ·have:i=L.at_:=by omega
     subst this
     simpa using h2
  ·rw [if_neg h1] at h
   have hr:r=.ok L:=(Option.some.inj h).symm
   refine ⟨1+(n - a),.ok R,?_,by rw [hr]; exact hS⟩
   rw [rskip R 1 (n - a) a (by omega) (fun i _ h2=>hid i (by omega) (by omega)),show a+(n - a)=n by omega]
   unfold rrun
   rw [if_neg (Nat.lt_irrefl n)]
end Go.Proofs.YtcmdjpolgaejoaaDoor.Gd
namespace Go.Proofs.YtcmdjpolgaejoaaDoor.Gd
open Go.RowKit Go.Proofs.YtcmdjpolgaejoaaDoorW.PrintWords Go.Proofs.YtcmdjpolgaejoaaDoorW.PrintLast Go.Proofs.YtcmdjpolgaejoaaDoorW.PrintMore
set_option linter.unusedVariables false
set_option linter.unusedSimpArgs false
theorem set_same {l:List Value} {i:Nat} {v:Value} (h:l[i]? = some v):l.set i v=l:=by
 apply List.ext_getElem?
 intro j
 rw [List.getElem?_set]
 by_cases e:i=j
 ·subst e
  have hi:i < l.length:=by
   rw [List.getElem?_eq_some_iff] at h
   exact h.1
  rw [if_pos rfl,if_pos hi,h]
 ·rw [if_neg e]
abbrev st4 (x:RSt):List Value:=[.string (str x.ks),.int .i64 (x.r:Nat),.bool x.known,.bool x.done]
def stCells:List RSt→List Value
 | []=>[]
 | x :: t=>st4 x++stCells t
theorem stCells_length:∀ l:List RSt,(stCells l).length=4*l.length
 | []=>rfl
 | x :: t=>by simp [stCells,stCells_length t]; omega
theorem stCells_get:∀ (l:List RSt) (a i:Nat),i < 4→a < l.length→(stCells l)[a*4+i]? = (st4 (l.getD a rz))[i]?
 | [],a,i,_,h=>by simp at h
 | x :: t,0,i,hi,_=>by
  rw [stCells,Nat.zero_mul,Nat.zero_add,List.getElem?_append_left (by simpa using hi)]
  rfl
 | x :: t,a+1,i,hi,h=>by
  rw [stCells,show (a+1)*4+i=4+(a*4+i) by omega,List.getElem?_append_right (by simp)]
  have:=stCells_get t a i hi (by simpa using h)
  simpa using this
theorem stCells_set:∀ (l:List RSt) (a:Nat) (x:RSt),a < l.length→stCells (l.set a x)=((((stCells l).set (a*4) (.string (str x.ks))).set (a*4+1) (.int .i64 (x.r:Nat))).set (a*4+2) (.bool x.known)).set (a*4+3) (.bool x.done)
 | [],a,x,h=>by simp at h
 | y :: t,0,x,_=>by simp [stCells]
 | y :: t,a+1,x,h=>by
  have ih:=stCells_set t a x (by simpa using h)
  simp only [List.set_cons_succ,stCells,ih]
  rw [show (a+1)*4=a*4+4 by omega,show a*4+4+1=a*4+1+4 by omega,show a*4+4+2=a*4+2+4 by omega,show a*4+4+3=a*4+3+4 by omega]
  simp [List.set_append_right]
def rkc (C:Cv) (lb:Nat) (R:Rk):Array Value :=
 #[.slice C.A0 C.l0.length C.c0,.slice C.A1 C.l1.length C.c1,.slice C.A2 C.l2.length C.c2,.slice C.A3 C.l3.length C.c3,.slice (some ⟨lb,0,none⟩) C.l0.length C.l0.length,
  .int .i64 (R.stack:Nat),.int .i64 (R.rounds:Nat),.int .i64 (R.kind:Nat),.int .i64 R.e]
structure RH (w0:World) (C:Cv) (wg lb:Nat) (R:Rk) (w:World):Prop where
 wk:w.heap[wg]? = some (.cells (rkc C lb R) 58 (0,0))
 lf:w.heap[lb]? = some (.cells (stCells R.l).toArray 61 (0,0))
 ln:R.l.length=C.l0.length
 b:Below w0.heap.size w0 w
 h0:w0.heap.size≤wg
 h1:w0.heap.size≤lb
section
variable {w0:World} {C:Cv} {wg lb:Nat} {R R':Rk} {w w':World}
theorem RH.ne (h:RH w0 C wg lb R w):wg≠lb:=blk_ne h.wk h.lf (by decide)
theorem RH.keep (h:RH w0 C wg lb R w) (hb:Below w.heap.size w w'):RH w0 C wg lb R w':=⟨blk_below h.wk hb,blk_below h.lf hb,h.ln,below_then h.b h.b.size hb,h.h0,h.h1⟩
theorem RH.drew (h:RH w0 C wg lb R w):RH w0 C wg lb R w.drew:=h.keep (Below.refl _ _).drew
theorem RH.cell (h:RH w0 C wg lb R w) (i:Nat):w.cell? ⟨wg,i,none⟩=(rkc C lb R)[i]? := blk_cell h.wk i
theorem RH.st (h:RH w0 C wg lb R w) (a i:Nat) (hi:i < 4) (ha:a < R.l.length):w.cell? ⟨lb,a*4+i,none⟩=(st4 (R.l.getD a rz))[i]? := by
 rw [blk_cell h.lf]
 simp only [List.getElem?_toArray]
 exact stCells_get R.l a i hi ha
theorem RH.set (h:RH w0 C wg lb R w) (i:Nat) (v:Value) (e:(rkc C lb R).setIfInBounds i v=rkc C lb R') (e1:R'.l=R.l):RH w0 C wg lb R' (w.setCell ⟨wg,i,none⟩ v) :=
 ⟨blk_put h.wk i v e,by rw [e1]; exact (Below.heap_setCell w _ v lb h.ne.symm).trans h.lf,by rw [e1]; exact h.ln,Keep3.below (Keep3.cell (lg:=wg) (m:=lb) (lb:=lb) (Or.inl rfl)) h.b h.b.size h.h0 h.h1 h.h1,h.h0,h.h1⟩
theorem RH.put (h:RH w0 C wg lb R w) (a:Nat) (x:RSt) (ha:a < R.l.length):RH w0 C wg lb { R with l:=R.l.set a x } ((((w.setCell ⟨lb,a*4,none⟩ (.string (str x.ks))).setCell ⟨lb,a*4+1,none⟩ (.int .i64 (x.r:Nat))).setCell ⟨lb,a*4+2,none⟩ (.bool x.known)).setCell ⟨lb,a*4+3,none⟩ (.bool x.done)):=by
 have hn:=h.ne
 have l1:=blk_put (blk_put (blk_put (blk_put h.lf (a*4) (.string (str x.ks)) rfl) (a*4+1) (.int .i64 (x.r:Nat)) rfl) (a*4+2) (.bool x.known) rfl) (a*4+3) (.bool x.done) rfl
 refine ⟨?_,?_,by simpa using h.ln,?_,h.h0,h.h1⟩
 ·exact (set_far hn).trans ((set_far hn).trans ((set_far hn).trans ((set_far hn).trans h.wk)))
 ·rw [l1]
  congr 2
  rw [stCells_set _ _ _ ha]
  simp
 ·exact (((h.b.setCell (p:=⟨lb,_,none⟩) h.h1 _).setCell (p:=⟨lb,_,none⟩) h.h1 _).setCell (p:=⟨lb,_,none⟩) h.h1 _).setCell (p:=⟨lb,_,none⟩) h.h1 _
theorem RH.mark (h:RH w0 C wg lb R w) (a:Nat) (ha:a < R.l.length):RH w0 C wg lb (R.mark a) (w.setCell ⟨lb,a*4+3,none⟩ (.bool true)):=by
 have hn:=h.ne
 refine ⟨(set_far hn).trans h.wk,?_,by simpa [Rk.mark] using h.ln,h.b.setCell (p:=⟨lb,_,none⟩) h.h1 _,h.h0,h.h1⟩
 rw [blk_put h.lf (a*4+3) (.bool true) rfl]
 congr 2
 show _=(stCells (R.l.set a { R.l.getD a rz with done:=true })).toArray
 rw [stCells_set _ _ _ ha]
 have g:=fun i hi=>stCells_get R.l a i hi ha
 have e0:(stCells R.l).set (a*4) (.string (str (R.l.getD a rz).ks))=stCells R.l:=set_same ((g 0 (by decide)).trans rfl)
 have e1:(stCells R.l).set (a*4+1) (.int .i64 ((R.l.getD a rz).r:Nat))=stCells R.l:=set_same ((g 1 (by decide)).trans rfl)
 have e2:(stCells R.l).set (a*4+2) (.bool (R.l.getD a rz).known)=stCells R.l:=set_same ((g 2 (by decide)).trans rfl)
 simp only [e0,e1,e2]
 simp
end
end Go.Proofs.YtcmdjpolgaejoaaDoor.Gd
namespace Go.Proofs.YtcmdjpolgaejoaaDoor.Gd
open Go.RowKit Go.Proofs.YtcmdjpolgaejoaaDoorW.PrintWords Go.Proofs.YtcmdjpolgaejoaaDoorW.PrintLast Go.Proofs.YtcmdjpolgaejoaaDoorW.PrintMore
set_option linter.unusedVariables false
set_option linter.unusedSimpArgs false
attribute [local go_sem] max2_int min2_int max_two min_two
attribute [local irreducible] wpList
abbrev sCells (s:St):Array Value:=#[.string (str s.1),.int .i64 (s.2:Nat),.bool false,.bool false]
structure RC (w0:World) (C:Cv) (wg lb:Nat) (w:World) (sv:Array Value) (R:Rk) (w':World):Prop where
 h:RH w0 C wg lb R w'
 k:Keep3 wg lb lb w w'
 x:w'.heap[w.heap.size]? = some (.cells sv 61 (0,0))
 l1:wg < w.heap.size
 l2:lb < w.heap.size
section
variable {w0:World} {C:Cv} {wg lb:Nat} {w w' w'':World} {sv:Array Value} {R R':Rk}
theorem RC.new (h:RH w0 C wg lb R w) (sv:Array Value):RC w0 C wg lb w sv R (w.alloc (.cells sv 61)) :=
 have hb:=below_alloc (Below.refl w.heap.size w) (.cells sv 61)
 ⟨h.keep hb,Keep3.of_below hb,heap_alloc_new w _,blk_lt h.wk,blk_lt h.lf⟩
theorem RC.call (h:RC w0 C wg lb w sv R w') (hb:Below w'.heap.size w' w''):RC w0 C wg lb w sv R w'' :=
 ⟨h.h.keep hb,h.k.trans (Keep3.of_below hb),blk_below h.x hb,h.l1,h.l2⟩
theorem RC.drew (h:RC w0 C wg lb w sv R w'):RC w0 C wg lb w sv R w'.drew:=h.call (Below.refl _ _).drew
theorem RC.set (h:RC w0 C wg lb w sv R w') (i:Nat) (v:Value) (e:(rkc C lb R).setIfInBounds i v=rkc C lb R') (e1:R'.l=R.l):RC w0 C wg lb w sv R' (w'.setCell ⟨wg,i,none⟩ v) :=
 ⟨h.h.set i v e e1,h.k.trans (Keep3.cell (Or.inl rfl)),(Below.heap_setCell w' _ v _ (Nat.ne_of_gt h.l1)).trans h.x,h.l1,h.l2⟩
theorem RC.put (h:RC w0 C wg lb w sv R w') (a:Nat) (x:RSt) (ha:a < R.l.length):RC w0 C wg lb w sv { R with l:=R.l.set a x } ((((w'.setCell ⟨lb,a*4,none⟩ (.string (str x.ks))).setCell ⟨lb,a*4+1,none⟩ (.int .i64 (x.r:Nat))).setCell ⟨lb,a*4+2,none⟩ (.bool x.known)).setCell ⟨lb,a*4+3,none⟩ (.bool x.done)) :=
  ⟨h.h.put a x ha,(((h.k.trans (Keep3.cell (Or.inr (Or.inl rfl)))).trans (Keep3.cell (Or.inr (Or.inl rfl)))).trans (Keep3.cell (Or.inr (Or.inl rfl)))).trans (Keep3.cell (Or.inr (Or.inl rfl))),
   (set_far (Nat.ne_of_gt h.l2)).trans ((set_far (Nat.ne_of_gt h.l2)).trans ((set_far (Nat.ne_of_gt h.l2)).trans ((set_far (Nat.ne_of_gt h.l2)).trans h.x))),h.l1,h.l2⟩
end
def rEnds (w0:World) (C:Cv) (wg lb:Nat) (w:World) (R:Rk) (e:Ending) (w':World):Prop:=e=.returned (.tuple #[])∧Keep3 wg lb lb w w'∧RH w0 C wg lb R w'
theorem bne_str {p q:List Nat} (hp:∀ k∈p,k < 4) (hq:∀ k∈q,k < 4) (h:p≠q):((str p).toList != (str q).toList)=true:=by
 rw [bne_iff_ne]
 exact fun e=>h (str_inj hp hq (Str.toList_iff.1 e))
set_option maxHeartbeats 8000000 in
set_option maxRecDepth 10000 in
theorem rcomes_e (w0:World) (C:Cv) (wg lb:Nat) (R:Rk) (s:St) (a:Nat) (w:World) (H:RH w0 C wg lb R w) (he:R.e≠0) :
  Calls Tryd.prog 22 #[.pointer (some ⟨wg,0,none⟩),.int .i64 (a:Nat),.agg (sCells s)] w (rEnds w0 C wg lb w (R)):=by
 have HC:=Aside0.mk (RC.new H (sCells s))
 have hsz:(str s.1).size=s.1.length:=str_size s.1
 have q0:(R.e != 0)=true:=bne_iff_ne.mpr he
 have y8:(w.alloc (.cells (sCells s) 61)).cell? ⟨wg,8,none⟩=some (.int .i64 R.e):=HC.out.h.cell 8
 clear H he
 go_enter Tryd.func22,Tryd.ntmps22
 go_wp2_with fail
 go_end0
 exact ⟨rfl,HC.out.k,HC.out.h⟩
set_option maxHeartbeats 8000000 in
set_option maxRecDepth 10000 in
theorem rcomes_200 (w0:World) (C:Cv) (wg lb:Nat) (R:Rk) (s:St) (a:Nat) (w:World) (H:RH w0 C wg lb R w) (he:R.e=0) (ha:¬ a < C.l0.length) :
  Calls Tryd.prog 22 #[.pointer (some ⟨wg,0,none⟩),.int .i64 (a:Nat),.agg (sCells s)] w (rEnds w0 C wg lb w (R.bad 200)):=by
 have HC:=Aside0.mk (RC.new H (sCells s))
 have hsz:(str s.1).size=s.1.length:=str_size s.1
 have q0:(R.e != 0)=false:=by rw [he]; rfl
 have q1:decide (((C.l0.length:Nat):Int)≤((a:Nat):Int))=true:=decide_eq_true (by omega)
 have p1:C.l0.length≤a:=by omega
 have y4:(w.alloc (.cells (sCells s) 61)).cell? ⟨wg,4,none⟩=some (.slice (some ⟨lb,0,none⟩) C.l0.length C.l0.length):=HC.out.h.cell 4
 have y8:(w.alloc (.cells (sCells s) 61)).cell? ⟨wg,8,none⟩=some (.int .i64 R.e):=HC.out.h.cell 8
 have f8:=blk_frozen HC.out.h.wk 8
 clear H he ha
 go_enter Tryd.func22,Tryd.ntmps22
 go_wp2_with fail
 have HC:=Aside0.mk (HC.out.set (R':=R.bad 200) 8 (.int .i64 200) rfl rfl)
 go_end0
 exact ⟨rfl,HC.out.k,HC.out.h⟩
set_option maxHeartbeats 8000000 in
set_option maxRecDepth 10000 in
theorem rcomes_201 (w0:World) (C:Cv) (wg lb:Nat) (R:Rk) (s:St) (a:Nat) (w:World) (H:RH w0 C wg lb R w) (he:R.e=0) (ha:a < C.l0.length) (hl:¬ s.1.length≤1024) :
  Calls Tryd.prog 22 #[.pointer (some ⟨wg,0,none⟩),.int .i64 (a:Nat),.agg (sCells s)] w (rEnds w0 C wg lb w (R.bad 201)):=by
 have HC:=Aside0.mk (RC.new H (sCells s))
 have hsz:(str s.1).size=s.1.length:=str_size s.1
 have q0:(R.e != 0)=false:=by rw [he]; rfl
 have q1:decide (((C.l0.length:Nat):Int)≤((a:Nat):Int))=false:=decide_eq_false (by omega)
 have p1:¬ C.l0.length≤a:=by omega
 have q2:decide ((1024:Int) < ((str s.1).size:Int))=true:=decide_eq_true (by rw [hsz]; omega)
 have p2:1024 < (str s.1).size:=by rw [hsz]; omega
 have y4:(w.alloc (.cells (sCells s) 61)).cell? ⟨wg,4,none⟩=some (.slice (some ⟨lb,0,none⟩) C.l0.length C.l0.length):=HC.out.h.cell 4
 have y8:(w.alloc (.cells (sCells s) 61)).cell? ⟨wg,8,none⟩=some (.int .i64 R.e):=HC.out.h.cell 8
 have b0:(w.alloc (.cells (sCells s) 61)).cell? ⟨w.heap.size,0,none⟩=some (.string (str s.1)):=blk_cell HC.out.x 0
 have f8:=blk_frozen HC.out.h.wk 8
 clear H he ha hl
 go_enter Tryd.func22,Tryd.ntmps22
 go_wp2_with fail
 have HC:=Aside0.mk (HC.out.set (R':=R.bad 201) 8 (.int .i64 201) rfl rfl)
 go_end0
 exact ⟨rfl,HC.out.k,HC.out.h⟩
set_option maxHeartbeats 8000000 in
set_option maxRecDepth 10000 in
theorem rcomes_202a (w0:World) (C:Cv) (wg lb:Nat) (R:Rk) (s:St) (a:Nat) (w:World) (H:RH w0 C wg lb R w) (he:R.e=0) (ha:a < C.l0.length) (hl:s.1.length≤1024) (hk:(R.l.getD a rz).known=true) (hs:∀ k∈s.1,k < 4) (hs2:∀ k∈(R.l.getD a rz).ks,k < 4) (h1:(R.l.getD a rz).ks≠s.1) :
  Calls Tryd.prog 22 #[.pointer (some ⟨wg,0,none⟩),.int .i64 (a:Nat),.agg (sCells s)] w (rEnds w0 C wg lb w (R.bad 202)):=by
 have HC:=Aside0.mk (RC.new H (sCells s))
 have hsz:(str s.1).size=s.1.length:=str_size s.1
 have q0:(R.e != 0)=false:=by rw [he]; rfl
 have q1:decide (((C.l0.length:Nat):Int)≤((a:Nat):Int))=false:=decide_eq_false (by omega)
 have p1:¬ C.l0.length≤a:=by omega
 have q2:decide ((1024:Int) < ((str s.1).size:Int))=false:=decide_eq_false (by rw [hsz]; omega)
 have p2:¬ 1024 < (str s.1).size:=by rw [hsz]; omega
 obtain ⟨x,hx⟩:∃ x,x=R.l.getD a rz:=⟨_,rfl⟩
 rw [← hx] at hk hs2 h1
 have hal:a < R.l.length:=by rw [H.ln]; exact ha
 have y4:(w.alloc (.cells (sCells s) 61)).cell? ⟨wg,4,none⟩=some (.slice (some ⟨lb,0,none⟩) C.l0.length C.l0.length):=HC.out.h.cell 4
 have y8:(w.alloc (.cells (sCells s) 61)).cell? ⟨wg,8,none⟩=some (.int .i64 R.e):=HC.out.h.cell 8
 have b0:(w.alloc (.cells (sCells s) 61)).cell? ⟨w.heap.size,0,none⟩=some (.string (str s.1)):=blk_cell HC.out.x 0
 have x0:(w.alloc (.cells (sCells s) 61)).cell? ⟨lb,a*4,none⟩=some (.string (str x.ks)):=by
  have h:=HC.out.h.st a 0 (by decide) hal
  rw [← hx] at h
  exact h
 have x1:(w.alloc (.cells (sCells s) 61)).cell? ⟨lb,a*4+1,none⟩=some (.int .i64 (x.r:Nat)):=by
  have h:=HC.out.h.st a 1 (by decide) hal
  rw [← hx] at h
  exact h
 have x2:(w.alloc (.cells (sCells s) 61)).cell? ⟨lb,a*4+2,none⟩=some (.bool true):=by
  have h:=HC.out.h.st a 2 (by decide) hal
  rw [← hx] at h
  rw [show (st4 x)[2]? = some (.bool x.known) from rfl,hk] at h
  exact h
 have x3:(w.alloc (.cells (sCells s) 61)).cell? ⟨lb,a*4+3,none⟩=some (.bool x.done):=by
  have h:=HC.out.h.st a 3 (by decide) hal
  rw [← hx] at h
  exact h
 have hlt:=ha
 have HX:=Aside0.mk hx
 have HA:=Aside0.mk hal
 have HC2:=Aside0.mk (HC.out.call (below_alloc (Below.refl _ _) (.cells #[.string (str x.ks),.int .i64 (x.r:Nat),.bool true,.bool x.done] 61)))
 have zn:=heap_alloc_new (w.alloc (.cells (sCells s) 61)) (.cells #[.string (str x.ks),.int .i64 (x.r:Nat),.bool true,.bool x.done] 61)
 have zs:(w.alloc (.cells (sCells s) 61)).heap.size=w.heap.size+1:=by simp
 rw [zs] at zn
 have z0:=blk_cell zn 0
 have z1:=blk_cell zn 1
 have z2:=blk_cell zn 2
 have u4:((w.alloc (.cells (sCells s) 61)).alloc (.cells #[.string (str x.ks),.int .i64 (x.r:Nat),.bool true,.bool x.done] 61)).cell? ⟨wg,4,none⟩=some (.slice (some ⟨lb,0,none⟩) C.l0.length C.l0.length):=HC2.out.h.cell 4
 have u8:((w.alloc (.cells (sCells s) 61)).alloc (.cells #[.string (str x.ks),.int .i64 (x.r:Nat),.bool true,.bool x.done] 61)).cell? ⟨wg,8,none⟩=some (.int .i64 R.e):=HC2.out.h.cell 8
 have c0:((w.alloc (.cells (sCells s) 61)).alloc (.cells #[.string (str x.ks),.int .i64 (x.r:Nat),.bool true,.bool x.done] 61)).cell? ⟨w.heap.size,0,none⟩=some (.string (str s.1)):=blk_cell HC2.out.x 0
 have c1:((w.alloc (.cells (sCells s) 61)).alloc (.cells #[.string (str x.ks),.int .i64 (x.r:Nat),.bool true,.bool x.done] 61)).cell? ⟨w.heap.size,1,none⟩=some (.int .i64 (s.2:Nat)):=blk_cell HC2.out.x 1
 have f8:=blk_frozen HC2.out.h.wk 8
 clear H he ha hl hal hx zn zs
 have n1:=bne_str hs2 hs h1
 have n1':((str x.ks).toList == (str s.1).toList)=false:=by simpa using n1
 clear hs hs2 h1
 go_enter Tryd.func22,Tryd.ntmps22
 go_wp2_with fail
 have HC:=Aside0.mk (HC2.out.set (R':=R.bad 202) 8 (.int .i64 202) rfl rfl)
 go_end0
 exact ⟨rfl,HC.out.k,HC.out.h⟩
set_option maxHeartbeats 8000000 in
set_option maxRecDepth 10000 in
theorem rcomes_202b (w0:World) (C:Cv) (wg lb:Nat) (R:Rk) (s:St) (a:Nat) (w:World) (H:RH w0 C wg lb R w) (he:R.e=0) (ha:a < C.l0.length) (hl:s.1.length≤1024) (hk:(R.l.getD a rz).known=true) (h1:(R.l.getD a rz).ks=s.1) (h2:(R.l.getD a rz).r≠s.2) :
  Calls Tryd.prog 22 #[.pointer (some ⟨wg,0,none⟩),.int .i64 (a:Nat),.agg (sCells s)] w (rEnds w0 C wg lb w (R.bad 202)):=by
 have HC:=Aside0.mk (RC.new H (sCells s))
 have hsz:(str s.1).size=s.1.length:=str_size s.1
 have q0:(R.e != 0)=false:=by rw [he]; rfl
 have q1:decide (((C.l0.length:Nat):Int)≤((a:Nat):Int))=false:=decide_eq_false (by omega)
 have p1:¬ C.l0.length≤a:=by omega
 have q2:decide ((1024:Int) < ((str s.1).size:Int))=false:=decide_eq_false (by rw [hsz]; omega)
 have p2:¬ 1024 < (str s.1).size:=by rw [hsz]; omega
 obtain ⟨x,hx⟩:∃ x,x=R.l.getD a rz:=⟨_,rfl⟩
 rw [← hx] at hk h1 h2
 have hal:a < R.l.length:=by rw [H.ln]; exact ha
 have y4:(w.alloc (.cells (sCells s) 61)).cell? ⟨wg,4,none⟩=some (.slice (some ⟨lb,0,none⟩) C.l0.length C.l0.length):=HC.out.h.cell 4
 have y8:(w.alloc (.cells (sCells s) 61)).cell? ⟨wg,8,none⟩=some (.int .i64 R.e):=HC.out.h.cell 8
 have b0:(w.alloc (.cells (sCells s) 61)).cell? ⟨w.heap.size,0,none⟩=some (.string (str s.1)):=blk_cell HC.out.x 0
 have x0:(w.alloc (.cells (sCells s) 61)).cell? ⟨lb,a*4,none⟩=some (.string (str x.ks)):=by
  have h:=HC.out.h.st a 0 (by decide) hal
  rw [← hx] at h
  exact h
 have x1:(w.alloc (.cells (sCells s) 61)).cell? ⟨lb,a*4+1,none⟩=some (.int .i64 (x.r:Nat)):=by
  have h:=HC.out.h.st a 1 (by decide) hal
  rw [← hx] at h
  exact h
 have x2:(w.alloc (.cells (sCells s) 61)).cell? ⟨lb,a*4+2,none⟩=some (.bool true):=by
  have h:=HC.out.h.st a 2 (by decide) hal
  rw [← hx] at h
  rw [show (st4 x)[2]? = some (.bool x.known) from rfl,hk] at h
  exact h
 have x3:(w.alloc (.cells (sCells s) 61)).cell? ⟨lb,a*4+3,none⟩=some (.bool x.done):=by
  have h:=HC.out.h.st a 3 (by decide) hal
  rw [← hx] at h
  exact h
 have hlt:=ha
 have HX:=Aside0.mk hx
 have HA:=Aside0.mk hal
 have HC2:=Aside0.mk (HC.out.call (below_alloc (Below.refl _ _) (.cells #[.string (str x.ks),.int .i64 (x.r:Nat),.bool true,.bool x.done] 61)))
 have zn:=heap_alloc_new (w.alloc (.cells (sCells s) 61)) (.cells #[.string (str x.ks),.int .i64 (x.r:Nat),.bool true,.bool x.done] 61)
 have zs:(w.alloc (.cells (sCells s) 61)).heap.size=w.heap.size+1:=by simp
 rw [zs] at zn
 have z0:=blk_cell zn 0
 have z1:=blk_cell zn 1
 have z2:=blk_cell zn 2
 have u4:((w.alloc (.cells (sCells s) 61)).alloc (.cells #[.string (str x.ks),.int .i64 (x.r:Nat),.bool true,.bool x.done] 61)).cell? ⟨wg,4,none⟩=some (.slice (some ⟨lb,0,none⟩) C.l0.length C.l0.length):=HC2.out.h.cell 4
 have u8:((w.alloc (.cells (sCells s) 61)).alloc (.cells #[.string (str x.ks),.int .i64 (x.r:Nat),.bool true,.bool x.done] 61)).cell? ⟨wg,8,none⟩=some (.int .i64 R.e):=HC2.out.h.cell 8
 have c0:((w.alloc (.cells (sCells s) 61)).alloc (.cells #[.string (str x.ks),.int .i64 (x.r:Nat),.bool true,.bool x.done] 61)).cell? ⟨w.heap.size,0,none⟩=some (.string (str s.1)):=blk_cell HC2.out.x 0
 have c1:((w.alloc (.cells (sCells s) 61)).alloc (.cells #[.string (str x.ks),.int .i64 (x.r:Nat),.bool true,.bool x.done] 61)).cell? ⟨w.heap.size,1,none⟩=some (.int .i64 (s.2:Nat)):=blk_cell HC2.out.x 1
 have f8:=blk_frozen HC2.out.h.wk 8
 clear H he ha hl hal hx zn zs
 have n1:((str x.ks).toList != (str s.1).toList)=false:=by rw [h1]; simp
 have n1':((str x.ks).toList == (str s.1).toList)=true:=by rw [h1]; simp
 have n2:(((x.r:Nat):Int) != ((s.2:Nat):Int))=true:=by simp; omega
 have n2':(((x.r:Nat):Int) == ((s.2:Nat):Int))=false:=by simp; omega
 clear h1 h2
 go_enter Tryd.func22,Tryd.ntmps22
 go_wp2_with fail
 have HC:=Aside0.mk (HC2.out.set (R':=R.bad 202) 8 (.int .i64 202) rfl rfl)
 go_end0
 exact ⟨rfl,HC.out.k,HC.out.h⟩
set_option maxHeartbeats 8000000 in
set_option maxRecDepth 10000 in
theorem rcomes_old (w0:World) (C:Cv) (wg lb:Nat) (R:Rk) (s:St) (a:Nat) (w:World) (H:RH w0 C wg lb R w) (he:R.e=0) (ha:a < C.l0.length) (hl:s.1.length≤1024) (hk:(R.l.getD a rz).known=true) (h1:(R.l.getD a rz).ks=s.1) (h2:(R.l.getD a rz).r=s.2) :
  Calls Tryd.prog 22 #[.pointer (some ⟨wg,0,none⟩),.int .i64 (a:Nat),.agg (sCells s)] w (rEnds w0 C wg lb w (R.lim s)):=by
 have HC:=Aside0.mk (RC.new H (sCells s))
 have hsz:(str s.1).size=s.1.length:=str_size s.1
 have q0:(R.e != 0)=false:=by rw [he]; rfl
 have q1:decide (((C.l0.length:Nat):Int)≤((a:Nat):Int))=false:=decide_eq_false (by omega)
 have p1:¬ C.l0.length≤a:=by omega
 have q2:decide ((1024:Int) < ((str s.1).size:Int))=false:=decide_eq_false (by rw [hsz]; omega)
 have p2:¬ 1024 < (str s.1).size:=by rw [hsz]; omega
 obtain ⟨x,hx⟩:∃ x,x=R.l.getD a rz:=⟨_,rfl⟩
 rw [← hx] at hk h1 h2
 have hal:a < R.l.length:=by rw [H.ln]; exact ha
 have y4:(w.alloc (.cells (sCells s) 61)).cell? ⟨wg,4,none⟩=some (.slice (some ⟨lb,0,none⟩) C.l0.length C.l0.length):=HC.out.h.cell 4
 have y8:(w.alloc (.cells (sCells s) 61)).cell? ⟨wg,8,none⟩=some (.int .i64 R.e):=HC.out.h.cell 8
 have b0:(w.alloc (.cells (sCells s) 61)).cell? ⟨w.heap.size,0,none⟩=some (.string (str s.1)):=blk_cell HC.out.x 0
 have x0:(w.alloc (.cells (sCells s) 61)).cell? ⟨lb,a*4,none⟩=some (.string (str x.ks)):=by
  have h:=HC.out.h.st a 0 (by decide) hal
  rw [← hx] at h
  exact h
 have x1:(w.alloc (.cells (sCells s) 61)).cell? ⟨lb,a*4+1,none⟩=some (.int .i64 (x.r:Nat)):=by
  have h:=HC.out.h.st a 1 (by decide) hal
  rw [← hx] at h
  exact h
 have x2:(w.alloc (.cells (sCells s) 61)).cell? ⟨lb,a*4+2,none⟩=some (.bool true):=by
  have h:=HC.out.h.st a 2 (by decide) hal
  rw [← hx] at h
  rw [show (st4 x)[2]? = some (.bool x.known) from rfl,hk] at h
  exact h
 have x3:(w.alloc (.cells (sCells s) 61)).cell? ⟨lb,a*4+3,none⟩=some (.bool x.done):=by
  have h:=HC.out.h.st a 3 (by decide) hal
  rw [← hx] at h
  exact h
 have hlt:=ha
 have HX:=Aside0.mk hx
 have HA:=Aside0.mk hal
 have HC2:=Aside0.mk (HC.out.call (below_alloc (Below.refl _ _) (.cells #[.string (str x.ks),.int .i64 (x.r:Nat),.bool true,.bool x.done] 61)))
 have zn:=heap_alloc_new (w.alloc (.cells (sCells s) 61)) (.cells #[.string (str x.ks),.int .i64 (x.r:Nat),.bool true,.bool x.done] 61)
 have zs:(w.alloc (.cells (sCells s) 61)).heap.size=w.heap.size+1:=by simp
 rw [zs] at zn
 have z0:=blk_cell zn 0
 have z1:=blk_cell zn 1
 have z2:=blk_cell zn 2
 have u4:((w.alloc (.cells (sCells s) 61)).alloc (.cells #[.string (str x.ks),.int .i64 (x.r:Nat),.bool true,.bool x.done] 61)).cell? ⟨wg,4,none⟩=some (.slice (some ⟨lb,0,none⟩) C.l0.length C.l0.length):=HC2.out.h.cell 4
 have u8:((w.alloc (.cells (sCells s) 61)).alloc (.cells #[.string (str x.ks),.int .i64 (x.r:Nat),.bool true,.bool x.done] 61)).cell? ⟨wg,8,none⟩=some (.int .i64 R.e):=HC2.out.h.cell 8
 have c0:((w.alloc (.cells (sCells s) 61)).alloc (.cells #[.string (str x.ks),.int .i64 (x.r:Nat),.bool true,.bool x.done] 61)).cell? ⟨w.heap.size,0,none⟩=some (.string (str s.1)):=blk_cell HC2.out.x 0
 have c1:((w.alloc (.cells (sCells s) 61)).alloc (.cells #[.string (str x.ks),.int .i64 (x.r:Nat),.bool true,.bool x.done] 61)).cell? ⟨w.heap.size,1,none⟩=some (.int .i64 (s.2:Nat)):=blk_cell HC2.out.x 1
 have f8:=blk_frozen HC2.out.h.wk 8
 clear H he ha hl hal hx zn zs
 have n1:((str x.ks).toList != (str s.1).toList)=false:=by rw [h1]; simp
 have n1':((str x.ks).toList == (str s.1).toList)=true:=by rw [h1]; simp
 have n2:(((x.r:Nat):Int) != ((s.2:Nat):Int))=false:=by rw [h2]; simp
 have n2':(((x.r:Nat):Int) == ((s.2:Nat):Int))=true:=by rw [h2]; simp
 clear h1 h2
 have HS:=Aside0.mk hsz
 go_enter Tryd.func22,Tryd.ntmps22
 go_wp2_with fail
 clear hsz
 have HC:=HC2
 clear HC2
 clear y4 y8 b0 x0 x1 x2 x3 z0 z1 z2 u4 u8 c0 c1 f8
 refine start_ (n:=12) (S:=fun w'=>w'.cell? ⟨wg,5,none⟩=some (.int .i64 (R.stack:Nat))∧w'.cell? ⟨w.heap.size,0,none⟩=some (.string (str s.1))) (ds:=[11]) #[false,false,false,false,false,false,false,false,false,false,false,false] (by kernel_rfl) rfl rfl ⟨(HC.out.h.cell 5),(blk_cell HC.out.x 0)⟩ (fun hHeld=>?_)
 have HC:=Aside0.mk HC.out.drew
 generalize World.drew _=v1d at HC hHeld ⊢
 have fz:=blk_frozen HC.out.h.wk 5
 have yz:v1d.cell? ⟨wg,5,none⟩=some (.int .i64 (R.stack:Nat)):=HC.out.h.cell 5
 refine pure_ (i:=0) (N:=some 69) (v:=?_) (a':=?_) (bl_ 12 1) rfl rfl (by kernel_rfl) (fun _ _ _ h=>h) (Or.inl ⟨by rfl,?_⟩) ?_ ?_
 rotate_left
 ·intro w'
  go_simp
  with_reducible rfl
 rotate_left
 ·simp only [Act.put,zA_,zB_,zC_,i64_w]
  rfl
 refine pure_ (i:=1) (N:=some 70) (v:=?_) (a':=?_) (bl_ 12 3) rfl rfl (by kernel_rfl) (fun _ _ _ h=>h) (Or.inl ⟨by rfl,?_⟩) ?_ ?_
 rotate_left
 ·intro w'
  go_simp
  with_reducible rfl
 rotate_left
 ·simp only [Act.put,zA_,zB_,zC_,i64_w]
  rfl
 refine pure_ (i:=2) (N:=some 71) (v:=?_) (a':=?_) (bl_ 12 7) rfl rfl (by kernel_rfl) (fun _ _ _ h=>h) (Or.inl ⟨by rfl,?_⟩) ?_ ?_
 rotate_left
 ·intro w'
  go_simp
  with_reducible rfl
 rotate_left
 ·simp only [Act.put,zA_,zB_,zC_,i64_w]
  rfl
 refine pure_ (i:=3) (N:=some 72) (v:=?_) (a':=?_) (bl_ 12 15) rfl rfl (by kernel_rfl) (fun _ _ _ h=>h) (Or.inl ⟨by rfl,?_⟩) ?_ ?_
 rotate_left
 ·intro w'
  go_simp
  with_reducible rfl
 rotate_left
 ·simp only [Act.put,zA_,zB_,zC_,i64_w]
  rfl
 refine pure_ (i:=5) (N:=some 74) (v:=?_) (a':=?_) (bl_ 12 47) rfl rfl (by kernel_rfl) (fun _ _ _ h=>h) (Or.inl ⟨by rfl,?_⟩) ?_ ?_
 rotate_left
 ·intro w'
  go_simp
  with_reducible rfl
 rotate_left
 ·simp only [Act.put,zA_,zB_,zC_,i64_w]
  rfl
 refine take_ (i:=4) (N:=some 73) (v:=?_) (a':=?_) (bl_ 12 63) rfl rfl (by kernel_rfl) (fun _ _ _ h=>h) (Or.inl ⟨by rfl,?_⟩) hHeld ?_ ?_
 rotate_left
 ·rintro w' ⟨s0,s1⟩
  go_simp
  with_reducible rfl
 rotate_left
 ·simp only [Act.put,zA_,zB_,zC_,i64_w]
  rfl
 refine take_ (i:=6) (N:=some 75) (v:=?_) (a':=?_) (bl_ 12 127) rfl rfl (by kernel_rfl) (fun _ _ _ h=>h) (Or.inl ⟨by rfl,?_⟩) hHeld ?_ ?_
 rotate_left
 ·rintro w' ⟨s0,s1⟩
  go_simp
  with_reducible rfl
 rotate_left
 ·simp only [Act.put,zA_,zB_,zC_,i64_w]
  rfl
 refine pure_ (i:=7) (N:=some 76) (v:=?_) (a':=?_) (bl_ 12 255) rfl rfl (by kernel_rfl) (fun _ _ _ h=>h) (Or.inl ⟨by rfl,?_⟩) ?_ ?_
 rotate_left
 ·intro w'
  go_simp
  with_reducible rfl
 rotate_left
 ·simp only [Act.put,zA_,zB_,zC_,i64_w]
  rfl
 refine pure_ (i:=8) (N:=some 77) (v:=?_) (a':=?_) (bl_ 12 511) rfl rfl (by kernel_rfl) (fun _ _ _ h=>h) (Or.inl ⟨by rfl,?_⟩) ?_ ?_
 rotate_left
 ·intro w'
  go_simp
  with_reducible rfl
 rotate_left
 ·simp only [Act.put,zA_,zB_,zC_,i64_w]
  rfl
 refine pure_ (i:=9) (N:=some 78) (v:=?_) (a':=?_) (bl_ 12 1023) rfl rfl (by kernel_rfl) (fun _ _ _ h=>h) (Or.inl ⟨by rfl,?_⟩) ?_ ?_
 rotate_left
 ·intro w'
  go_simp
  with_reducible rfl
 rotate_left
 ·simp only [Act.put,zA_,zB_,zC_,i64_w]
  rfl
 refine pure_ (i:=10) (N:=some 79) (v:=?_) (a':=?_) (bl_ 12 2047) rfl rfl (by kernel_rfl) (fun _ _ _ h=>h) (Or.inl ⟨by rfl,?_⟩) ?_ ?_
 rotate_left
 ·intro w'
  go_simp
  with_reducible rfl
 rotate_left
 ·simp only [Act.put,zA_,zB_,zC_,i64_w]
  rfl
 refine last_ (i:=11) (N:=none) (bl_ 12 4095) rfl rfl (by kernel_rfl) (by decide) (fun K hK=>?_)
 refine skip_ (w1:=v1d.setCell ⟨wg,5,none⟩ (.int .i64 (if R.stack < (str s.1).size then (((str s.1).size:Nat):Int) else ((R.stack:Nat):Int)))) (by rfl) rfl (by go_simp) ?_
 refine hK.out _ _ ?_
 clear hK K
 refine done_ (by kernel_rfl) ?_
 have HC:=Aside0.mk (HC.out.set (R':={ R with stack:=max R.stack (str s.1).size }) 5 (.int .i64 (if R.stack < (str s.1).size then (((str s.1).size:Nat):Int) else ((R.stack:Nat):Int))) (by rw [max_if]; rfl) rfl)
 generalize v1d.setCell ⟨wg,5,none⟩ (.int .i64 (if R.stack < (str s.1).size then (((str s.1).size:Nat):Int) else ((R.stack:Nat):Int)))=v2 at HC ⊢
 clear fz yz hHeld
 generalize (if R.stack < (str s.1).size then (((str s.1).size:Nat):Int) else ((R.stack:Nat):Int))=q5
 obtain ⟨R2,hR2⟩:∃ R2:Rk,R2={ R with stack:=max R.stack (str s.1).size }:=⟨_,rfl⟩
 rw [← hR2] at HC
 have HR2:=Aside0.mk hR2
 clear hR2
 go_wp2_with fail
 refine start_ (n:=11) (S:=fun w'=>w'.cell? ⟨wg,6,none⟩=some (.int .i64 (R2.rounds:Nat))∧w'.cell? ⟨w.heap.size,1,none⟩=some (.int .i64 (s.2:Nat))) (ds:=[10]) #[false,false,false,false,false,false,false,false,false,false,false] (by kernel_rfl) rfl rfl ⟨(HC.out.h.cell 6),(blk_cell HC.out.x 1)⟩ (fun hHeld=>?_)
 have HC:=Aside0.mk HC.out.drew
 generalize World.drew _=v3d at HC hHeld ⊢
 have fz:=blk_frozen HC.out.h.wk 6
 have yz:v3d.cell? ⟨wg,6,none⟩=some (.int .i64 (R2.rounds:Nat)):=HC.out.h.cell 6
 refine pure_ (i:=0) (N:=some 80) (v:=?_) (a':=?_) (bl_ 11 1) rfl rfl (by kernel_rfl) (fun _ _ _ h=>h) (Or.inl ⟨by rfl,?_⟩) ?_ ?_
 rotate_left
 ·intro w'
  go_simp
  with_reducible rfl
 rotate_left
 ·simp only [Act.put,zA_,zB_,zC_,i64_w]
  rfl
 refine pure_ (i:=1) (N:=some 81) (v:=?_) (a':=?_) (bl_ 11 3) rfl rfl (by kernel_rfl) (fun _ _ _ h=>h) (Or.inl ⟨by rfl,?_⟩) ?_ ?_
 rotate_left
 ·intro w'
  go_simp
  with_reducible rfl
 rotate_left
 ·simp only [Act.put,zA_,zB_,zC_,i64_w]
  rfl
 refine pure_ (i:=2) (N:=some 82) (v:=?_) (a':=?_) (bl_ 11 7) rfl rfl (by kernel_rfl) (fun _ _ _ h=>h) (Or.inl ⟨by rfl,?_⟩) ?_ ?_
 rotate_left
 ·intro w'
  go_simp
  with_reducible rfl
 rotate_left
 ·simp only [Act.put,zA_,zB_,zC_,i64_w]
  rfl
 refine pure_ (i:=3) (N:=some 83) (v:=?_) (a':=?_) (bl_ 11 15) rfl rfl (by kernel_rfl) (fun _ _ _ h=>h) (Or.inl ⟨by rfl,?_⟩) ?_ ?_
 rotate_left
 ·intro w'
  go_simp
  with_reducible rfl
 rotate_left
 ·simp only [Act.put,zA_,zB_,zC_,i64_w]
  rfl
 refine pure_ (i:=5) (N:=some 85) (v:=?_) (a':=?_) (bl_ 11 47) rfl rfl (by kernel_rfl) (fun _ _ _ h=>h) (Or.inl ⟨by rfl,?_⟩) ?_ ?_
 rotate_left
 ·intro w'
  go_simp
  with_reducible rfl
 rotate_left
 ·simp only [Act.put,zA_,zB_,zC_,i64_w]
  rfl
 refine take_ (i:=4) (N:=some 84) (v:=?_) (a':=?_) (bl_ 11 63) rfl rfl (by kernel_rfl) (fun _ _ _ h=>h) (Or.inl ⟨by rfl,?_⟩) hHeld ?_ ?_
 rotate_left
 ·rintro w' ⟨s0,s1⟩
  go_simp
  with_reducible rfl
 rotate_left
 ·simp only [Act.put,zA_,zB_,zC_,i64_w]
  rfl
 refine take_ (i:=6) (N:=some 86) (v:=?_) (a':=?_) (bl_ 11 127) rfl rfl (by kernel_rfl) (fun _ _ _ h=>h) (Or.inl ⟨by rfl,?_⟩) hHeld ?_ ?_
 rotate_left
 ·rintro w' ⟨s0,s1⟩
  go_simp
  with_reducible rfl
 rotate_left
 ·simp only [Act.put,zA_,zB_,zC_,i64_w]
  rfl
 refine pure_ (i:=7) (N:=some 87) (v:=?_) (a':=?_) (bl_ 11 255) rfl rfl (by kernel_rfl) (fun _ _ _ h=>h) (Or.inl ⟨by rfl,?_⟩) ?_ ?_
 rotate_left
 ·intro w'
  go_simp
  with_reducible rfl
 rotate_left
 ·simp only [Act.put,zA_,zB_,zC_,i64_w]
  rfl
 refine pure_ (i:=8) (N:=some 88) (v:=?_) (a':=?_) (bl_ 11 511) rfl rfl (by kernel_rfl) (fun _ _ _ h=>h) (Or.inl ⟨by rfl,?_⟩) ?_ ?_
 rotate_left
 ·intro w'
  go_simp
  with_reducible rfl
 rotate_left
 ·simp only [Act.put,zA_,zB_,zC_,i64_w]
  rfl
 refine pure_ (i:=9) (N:=some 89) (v:=?_) (a':=?_) (bl_ 11 1023) rfl rfl (by kernel_rfl) (fun _ _ _ h=>h) (Or.inl ⟨by rfl,?_⟩) ?_ ?_
 rotate_left
 ·intro w'
  go_simp
  with_reducible rfl
 rotate_left
 ·simp only [Act.put,zA_,zB_,zC_,i64_w]
  rfl
 refine last_ (i:=10) (N:=none) (bl_ 11 2047) rfl rfl (by kernel_rfl) (by decide) (fun K hK=>?_)
 refine skip_ (w1:=v3d.setCell ⟨wg,6,none⟩ (.int .i64 (if R2.rounds < s.2 then ((s.2:Nat):Int) else ((R2.rounds:Nat):Int)))) (by rfl) rfl (by go_simp) ?_
 refine hK.out _ _ ?_
 clear hK K
 refine done_ (by kernel_rfl) ?_
 have HC:=Aside0.mk (HC.out.set (R':={ R2 with rounds:=max R2.rounds s.2 }) 6 (.int .i64 (if R2.rounds < s.2 then ((s.2:Nat):Int) else ((R2.rounds:Nat):Int))) (by rw [max_if]; rfl) rfl)
 generalize v3d.setCell ⟨wg,6,none⟩ (.int .i64 (if R2.rounds < s.2 then ((s.2:Nat):Int) else ((R2.rounds:Nat):Int)))=v4 at HC ⊢
 clear fz yz hHeld
 generalize (if R2.rounds < s.2 then ((s.2:Nat):Int) else ((R2.rounds:Nat):Int))=q6
 rw [HR2.out] at HC
 go_wp2_with fail
 have hsz:=HS.out
 rw [hsz] at HC
 go_end0
 exact ⟨rfl,HC.out.k,HC.out.h⟩
set_option maxHeartbeats 8000000 in
set_option maxRecDepth 10000 in
theorem rcomes_new (w0:World) (C:Cv) (wg lb:Nat) (R:Rk) (s:St) (a:Nat) (w:World) (H:RH w0 C wg lb R w) (he:R.e=0) (ha:a < C.l0.length) (hl:s.1.length≤1024) (hk:(R.l.getD a rz).known=false) :
  Calls Tryd.prog 22 #[.pointer (some ⟨wg,0,none⟩),.int .i64 (a:Nat),.agg (sCells s)] w (rEnds w0 C wg lb w ((R.put a s).lim s)):=by
 have HC:=Aside0.mk (RC.new H (sCells s))
 have hsz:(str s.1).size=s.1.length:=str_size s.1
 have q0:(R.e != 0)=false:=by rw [he]; rfl
 have q1:decide (((C.l0.length:Nat):Int)≤((a:Nat):Int))=false:=decide_eq_false (by omega)
 have p1:¬ C.l0.length≤a:=by omega
 have q2:decide ((1024:Int) < ((str s.1).size:Int))=false:=decide_eq_false (by rw [hsz]; omega)
 have p2:¬ 1024 < (str s.1).size:=by rw [hsz]; omega
 obtain ⟨x,hx⟩:∃ x,x=R.l.getD a rz:=⟨_,rfl⟩
 rw [← hx] at hk
 have hal:a < R.l.length:=by rw [H.ln]; exact ha
 have y4:(w.alloc (.cells (sCells s) 61)).cell? ⟨wg,4,none⟩=some (.slice (some ⟨lb,0,none⟩) C.l0.length C.l0.length):=HC.out.h.cell 4
 have y8:(w.alloc (.cells (sCells s) 61)).cell? ⟨wg,8,none⟩=some (.int .i64 R.e):=HC.out.h.cell 8
 have b0:(w.alloc (.cells (sCells s) 61)).cell? ⟨w.heap.size,0,none⟩=some (.string (str s.1)):=blk_cell HC.out.x 0
 have x0:(w.alloc (.cells (sCells s) 61)).cell? ⟨lb,a*4,none⟩=some (.string (str x.ks)):=by
  have h:=HC.out.h.st a 0 (by decide) hal
  rw [← hx] at h
  exact h
 have x1:(w.alloc (.cells (sCells s) 61)).cell? ⟨lb,a*4+1,none⟩=some (.int .i64 (x.r:Nat)):=by
  have h:=HC.out.h.st a 1 (by decide) hal
  rw [← hx] at h
  exact h
 have x2:(w.alloc (.cells (sCells s) 61)).cell? ⟨lb,a*4+2,none⟩=some (.bool false):=by
  have h:=HC.out.h.st a 2 (by decide) hal
  rw [← hx] at h
  rw [show (st4 x)[2]? = some (.bool x.known) from rfl,hk] at h
  exact h
 have x3:(w.alloc (.cells (sCells s) 61)).cell? ⟨lb,a*4+3,none⟩=some (.bool x.done):=by
  have h:=HC.out.h.st a 3 (by decide) hal
  rw [← hx] at h
  exact h
 have hlt:=ha
 have HX:=Aside0.mk hx
 have HA:=Aside0.mk hal
 have HC2:=Aside0.mk (HC.out.call (below_alloc (Below.refl _ _) (.cells #[.string (str x.ks),.int .i64 (x.r:Nat),.bool false,.bool x.done] 61)))
 have zn:=heap_alloc_new (w.alloc (.cells (sCells s) 61)) (.cells #[.string (str x.ks),.int .i64 (x.r:Nat),.bool false,.bool x.done] 61)
 have zs:(w.alloc (.cells (sCells s) 61)).heap.size=w.heap.size+1:=by simp
 rw [zs] at zn
 have z0:=blk_cell zn 0
 have z1:=blk_cell zn 1
 have z2:=blk_cell zn 2
 have u4:((w.alloc (.cells (sCells s) 61)).alloc (.cells #[.string (str x.ks),.int .i64 (x.r:Nat),.bool false,.bool x.done] 61)).cell? ⟨wg,4,none⟩=some (.slice (some ⟨lb,0,none⟩) C.l0.length C.l0.length):=HC2.out.h.cell 4
 have u8:((w.alloc (.cells (sCells s) 61)).alloc (.cells #[.string (str x.ks),.int .i64 (x.r:Nat),.bool false,.bool x.done] 61)).cell? ⟨wg,8,none⟩=some (.int .i64 R.e):=HC2.out.h.cell 8
 have c0:((w.alloc (.cells (sCells s) 61)).alloc (.cells #[.string (str x.ks),.int .i64 (x.r:Nat),.bool false,.bool x.done] 61)).cell? ⟨w.heap.size,0,none⟩=some (.string (str s.1)):=blk_cell HC2.out.x 0
 have c1:((w.alloc (.cells (sCells s) 61)).alloc (.cells #[.string (str x.ks),.int .i64 (x.r:Nat),.bool false,.bool x.done] 61)).cell? ⟨w.heap.size,1,none⟩=some (.int .i64 (s.2:Nat)):=blk_cell HC2.out.x 1
 have f8:=blk_frozen HC2.out.h.wk 8
 clear H he ha hl hal hx zn zs
 have HS:=Aside0.mk hsz
 go_enter Tryd.func22,Tryd.ntmps22
 go_wp2_with fail
 clear hsz
 have HC:=HC2
 clear HC2 y4 y8 b0 x0 x1 x2 x3 z0 z1 z2 u4 u8 c0 c1 f8
 refine start_ (n:=12) (S:=fun w'=>w'.cell? ⟨wg,4,none⟩=some (.slice (some ⟨lb,0,none⟩) C.l0.length C.l0.length)∧w'.cell? ⟨w.heap.size,0,none⟩=some (.string (str s.1))∧w'.cell? ⟨w.heap.size,1,none⟩=some (.int .i64 (s.2:Nat))) (ds:=[11]) #[false,false,false,false,false,false,false,false,false,false,false,false] (by kernel_rfl) rfl rfl ⟨(HC.out.h.cell 4),(blk_cell HC.out.x 0),(blk_cell HC.out.x 1)⟩ (fun hHeld=>?_)
 have HC:=Aside0.mk HC.out.drew
 generalize World.drew _=v0d at HC hHeld ⊢
 have g0:v0d.cell? ⟨lb,a*4,none⟩=_:=HC.out.h.st a 0 (by decide) HA.out
 have e0:v0d.frozen? ⟨lb,a*4,none⟩=false:=blk_frozen HC.out.h.lf _
 have g1:v0d.cell? ⟨lb,a*4+1,none⟩=_:=HC.out.h.st a 1 (by decide) HA.out
 have e1:v0d.frozen? ⟨lb,a*4+1,none⟩=false:=blk_frozen HC.out.h.lf _
 have g2:v0d.cell? ⟨lb,a*4+2,none⟩=_:=HC.out.h.st a 2 (by decide) HA.out
 have e2:v0d.frozen? ⟨lb,a*4+2,none⟩=false:=blk_frozen HC.out.h.lf _
 have g3:v0d.cell? ⟨lb,a*4+3,none⟩=_:=HC.out.h.st a 3 (by decide) HA.out
 have e3:v0d.frozen? ⟨lb,a*4+3,none⟩=false:=blk_frozen HC.out.h.lf _
 refine pure_ (i:=0) (N:=some 58) (v:=?_) (a':=?_) (bl_ 12 1) rfl rfl (by kernel_rfl) (fun _ _ _ h=>h) (Or.inl ⟨by rfl,?_⟩) ?_ ?_
 rotate_left
 ·intro w'
  go_simp
  with_reducible rfl
 rotate_left
 ·simp only [Act.put,zA_,zB_,zC_,i64_w]
  rfl
 refine pure_ (i:=1) (N:=some 59) (v:=?_) (a':=?_) (bl_ 12 3) rfl rfl (by kernel_rfl) (fun _ _ _ h=>h) (Or.inl ⟨by rfl,?_⟩) ?_ ?_
 rotate_left
 ·intro w'
  go_simp
  with_reducible rfl
 rotate_left
 ·simp only [Act.put,zA_,zB_,zC_,i64_w]
  rfl
 refine pure_ (i:=2) (N:=some 60) (v:=?_) (a':=?_) (bl_ 12 7) rfl rfl (by kernel_rfl) (fun _ _ _ h=>h) (Or.inl ⟨by rfl,?_⟩) ?_ ?_
 rotate_left
 ·intro w'
  go_simp
  with_reducible rfl
 rotate_left
 ·simp only [Act.put,zA_,zB_,zC_,i64_w]
  rfl
 refine pure_ (i:=4) (N:=some 62) (v:=?_) (a':=?_) (bl_ 12 23) rfl rfl (by kernel_rfl) (fun _ _ _ h=>h) (Or.inl ⟨by rfl,?_⟩) ?_ ?_
 rotate_left
 ·intro w'
  go_simp
  with_reducible rfl
 rotate_left
 ·simp only [Act.put,zA_,zB_,zC_,i64_w]
  rfl
 refine pure_ (i:=5) (N:=some 63) (v:=?_) (a':=?_) (bl_ 12 55) rfl rfl (by kernel_rfl) (fun _ _ _ h=>h) (Or.inl ⟨by rfl,?_⟩) ?_ ?_
 rotate_left
 ·intro w'
  go_simp
  with_reducible rfl
 rotate_left
 ·simp only [Act.put,zA_,zB_,zC_,i64_w]
  rfl
 refine pure_ (i:=7) (N:=some 65) (v:=?_) (a':=?_) (bl_ 12 183) rfl rfl (by kernel_rfl) (fun _ _ _ h=>h) (Or.inl ⟨by rfl,?_⟩) ?_ ?_
 rotate_left
 ·intro w'
  go_simp
  with_reducible rfl
 rotate_left
 ·simp only [Act.put,zA_,zB_,zC_,i64_w]
  rfl
 refine take_ (i:=3) (N:=some 61) (v:=?_) (a':=?_) (bl_ 12 191) rfl rfl (by kernel_rfl) (fun _ _ _ h=>h) (Or.inl ⟨by rfl,?_⟩) hHeld ?_ ?_
 rotate_left
 ·rintro w' ⟨s0,s1,s2⟩
  go_simp
  with_reducible rfl
 rotate_left
 ·simp only [Act.put,zA_,zB_,zC_,i64_w]
  rfl
 refine take_ (i:=6) (N:=some 64) (v:=?_) (a':=?_) (bl_ 12 255) rfl rfl (by kernel_rfl) (fun _ _ _ h=>h) (Or.inl ⟨by rfl,?_⟩) hHeld ?_ ?_
 rotate_left
 ·rintro w' ⟨s0,s1,s2⟩
  go_simp
  with_reducible rfl
 rotate_left
 ·simp only [Act.put,zA_,zB_,zC_,i64_w]
  rfl
 refine take_ (i:=8) (N:=some 66) (v:=?_) (a':=?_) (bl_ 12 511) rfl rfl (by kernel_rfl) (fun _ _ _ h=>h) (Or.inl ⟨by rfl,?_⟩) hHeld ?_ ?_
 rotate_left
 ·rintro w' ⟨s0,s1,s2⟩
  go_simp
  with_reducible rfl
 rotate_left
 ·simp only [Act.put,zA_,zB_,zC_,i64_w]
  rfl
 refine pure_ (i:=9) (N:=some 67) (v:=?_) (a':=?_) (bl_ 12 1023) rfl rfl (by kernel_rfl) (fun _ _ _ h=>h) (Or.inl ⟨by rfl,?_⟩) ?_ ?_
 rotate_left
 ·intro w'
  go_simp
  with_reducible rfl
 rotate_left
 ·simp only [Act.put,zA_,zB_,zC_,i64_w]
  rfl
 refine pure_ (i:=10) (N:=some 68) (v:=?_) (a':=?_) (bl_ 12 2047) rfl rfl (by kernel_rfl) (fun _ _ _ h=>h) (Or.inl ⟨by rfl,?_⟩) ?_ ?_
 rotate_left
 ·intro w'
  go_simp
  with_reducible rfl
 rotate_left
 ·simp only [Act.put,zA_,zB_,zC_,i64_w]
  rfl
 refine last_ (i:=11) (N:=none) (bl_ 12 4095) rfl rfl (by kernel_rfl) (by decide) (fun K hK=>?_)
 refine skip_ (w1:=((((v0d.setCell ⟨lb,a*4,none⟩ (.string (str s.1))).setCell ⟨lb,a*4+1,none⟩ (.int .i64 (s.2:Nat))).setCell ⟨lb,a*4+2,none⟩ (.bool true)).setCell ⟨lb,a*4+3,none⟩ (.bool false))) (by rfl) rfl (by go_simp) ?_
 refine hK.out _ _ ?_
 clear hK K
 refine done_ (by kernel_rfl) ?_
 have HC:=Aside0.mk (HC.out.put a ⟨s.1,s.2,true,false⟩ HA.out)
 generalize ((((v0d.setCell ⟨lb,a*4,none⟩ (.string (str s.1))).setCell ⟨lb,a*4+1,none⟩ (.int .i64 (s.2:Nat))).setCell ⟨lb,a*4+2,none⟩ (.bool true)).setCell ⟨lb,a*4+3,none⟩ (.bool false))=v1 at HC ⊢
 clear g0 g1 g2 g3 e0 e1 e2 e3 hHeld
 obtain ⟨R1,hR1⟩:∃ R1:Rk,R1=R.put a s:=⟨_,rfl⟩
 have HR1:=Aside0.mk hR1
 replace HC:Aside0 (RC w0 C wg lb w (sCells s) R1 v1):=by rw [hR1]; exact HC
 clear hR1
 go_wp2_with fail
 refine start_ (n:=12) (S:=fun w'=>w'.cell? ⟨wg,5,none⟩=some (.int .i64 (R1.stack:Nat))∧w'.cell? ⟨w.heap.size,0,none⟩=some (.string (str s.1))) (ds:=[11]) #[false,false,false,false,false,false,false,false,false,false,false,false] (by kernel_rfl) rfl rfl ⟨(HC.out.h.cell 5),(blk_cell HC.out.x 0)⟩ (fun hHeld=>?_)
 have HC:=Aside0.mk HC.out.drew
 generalize World.drew _=v1d at HC hHeld ⊢
 have fz:=blk_frozen HC.out.h.wk 5
 have yz:v1d.cell? ⟨wg,5,none⟩=some (.int .i64 (R1.stack:Nat)):=HC.out.h.cell 5
 refine pure_ (i:=0) (N:=some 69) (v:=?_) (a':=?_) (bl_ 12 1) rfl rfl (by kernel_rfl) (fun _ _ _ h=>h) (Or.inl ⟨by rfl,?_⟩) ?_ ?_
 rotate_left
 ·intro w'
  go_simp
  with_reducible rfl
 rotate_left
 ·simp only [Act.put,zA_,zB_,zC_,i64_w]
  rfl
 refine pure_ (i:=1) (N:=some 70) (v:=?_) (a':=?_) (bl_ 12 3) rfl rfl (by kernel_rfl) (fun _ _ _ h=>h) (Or.inl ⟨by rfl,?_⟩) ?_ ?_
 rotate_left
 ·intro w'
  go_simp
  with_reducible rfl
 rotate_left
 ·simp only [Act.put,zA_,zB_,zC_,i64_w]
  rfl
 refine pure_ (i:=2) (N:=some 71) (v:=?_) (a':=?_) (bl_ 12 7) rfl rfl (by kernel_rfl) (fun _ _ _ h=>h) (Or.inl ⟨by rfl,?_⟩) ?_ ?_
 rotate_left
 ·intro w'
  go_simp
  with_reducible rfl
 rotate_left
 ·simp only [Act.put,zA_,zB_,zC_,i64_w]
  rfl
 refine pure_ (i:=3) (N:=some 72) (v:=?_) (a':=?_) (bl_ 12 15) rfl rfl (by kernel_rfl) (fun _ _ _ h=>h) (Or.inl ⟨by rfl,?_⟩) ?_ ?_
 rotate_left
 ·intro w'
  go_simp
  with_reducible rfl
 rotate_left
 ·simp only [Act.put,zA_,zB_,zC_,i64_w]
  rfl
 refine pure_ (i:=5) (N:=some 74) (v:=?_) (a':=?_) (bl_ 12 47) rfl rfl (by kernel_rfl) (fun _ _ _ h=>h) (Or.inl ⟨by rfl,?_⟩) ?_ ?_
 rotate_left
 ·intro w'
  go_simp
  with_reducible rfl
 rotate_left
 ·simp only [Act.put,zA_,zB_,zC_,i64_w]
  rfl
 refine take_ (i:=4) (N:=some 73) (v:=?_) (a':=?_) (bl_ 12 63) rfl rfl (by kernel_rfl) (fun _ _ _ h=>h) (Or.inl ⟨by rfl,?_⟩) hHeld ?_ ?_
 rotate_left
 ·rintro w' ⟨s0,s1⟩
  go_simp
  with_reducible rfl
 rotate_left
 ·simp only [Act.put,zA_,zB_,zC_,i64_w]
  rfl
 refine take_ (i:=6) (N:=some 75) (v:=?_) (a':=?_) (bl_ 12 127) rfl rfl (by kernel_rfl) (fun _ _ _ h=>h) (Or.inl ⟨by rfl,?_⟩) hHeld ?_ ?_
 rotate_left
 ·rintro w' ⟨s0,s1⟩
  go_simp
  with_reducible rfl
 rotate_left
 ·simp only [Act.put,zA_,zB_,zC_,i64_w]
  rfl
 refine pure_ (i:=7) (N:=some 76) (v:=?_) (a':=?_) (bl_ 12 255) rfl rfl (by kernel_rfl) (fun _ _ _ h=>h) (Or.inl ⟨by rfl,?_⟩) ?_ ?_
 rotate_left
 ·intro w'
  go_simp
  with_reducible rfl
 rotate_left
 ·simp only [Act.put,zA_,zB_,zC_,i64_w]
  rfl
 refine pure_ (i:=8) (N:=some 77) (v:=?_) (a':=?_) (bl_ 12 511) rfl rfl (by kernel_rfl) (fun _ _ _ h=>h) (Or.inl ⟨by rfl,?_⟩) ?_ ?_
 rotate_left
 ·intro w'
  go_simp
  with_reducible rfl
 rotate_left
 ·simp only [Act.put,zA_,zB_,zC_,i64_w]
  rfl
 refine pure_ (i:=9) (N:=some 78) (v:=?_) (a':=?_) (bl_ 12 1023) rfl rfl (by kernel_rfl) (fun _ _ _ h=>h) (Or.inl ⟨by rfl,?_⟩) ?_ ?_
 rotate_left
 ·intro w'
  go_simp
  with_reducible rfl
 rotate_left
 ·simp only [Act.put,zA_,zB_,zC_,i64_w]
  rfl
 refine pure_ (i:=10) (N:=some 79) (v:=?_) (a':=?_) (bl_ 12 2047) rfl rfl (by kernel_rfl) (fun _ _ _ h=>h) (Or.inl ⟨by rfl,?_⟩) ?_ ?_
 rotate_left
 ·intro w'
  go_simp
  with_reducible rfl
 rotate_left
 ·simp only [Act.put,zA_,zB_,zC_,i64_w]
  rfl
 refine last_ (i:=11) (N:=none) (bl_ 12 4095) rfl rfl (by kernel_rfl) (by decide) (fun K hK=>?_)
 refine skip_ (w1:=v1d.setCell ⟨wg,5,none⟩ (.int .i64 (if R1.stack < (str s.1).size then (((str s.1).size:Nat):Int) else ((R1.stack:Nat):Int)))) (by rfl) rfl (by go_simp) ?_
 refine hK.out _ _ ?_
 clear hK K
 refine done_ (by kernel_rfl) ?_
 have HC:=Aside0.mk (HC.out.set (R':={ R1 with stack:=max R1.stack (str s.1).size }) 5 (.int .i64 (if R1.stack < (str s.1).size then (((str s.1).size:Nat):Int) else ((R1.stack:Nat):Int))) (by rw [max_if]; rfl) rfl)
 generalize v1d.setCell ⟨wg,5,none⟩ (.int .i64 (if R1.stack < (str s.1).size then (((str s.1).size:Nat):Int) else ((R1.stack:Nat):Int)))=v2 at HC ⊢
 clear fz yz hHeld
 generalize (if R1.stack < (str s.1).size then (((str s.1).size:Nat):Int) else ((R1.stack:Nat):Int))=q5
 obtain ⟨R2,hR2⟩:∃ R2:Rk,R2={ R1 with stack:=max R1.stack (str s.1).size }:=⟨_,rfl⟩
 rw [← hR2] at HC
 have HR2:=Aside0.mk hR2
 clear hR2
 go_wp2_with fail
 refine start_ (n:=11) (S:=fun w'=>w'.cell? ⟨wg,6,none⟩=some (.int .i64 (R2.rounds:Nat))∧w'.cell? ⟨w.heap.size,1,none⟩=some (.int .i64 (s.2:Nat))) (ds:=[10]) #[false,false,false,false,false,false,false,false,false,false,false] (by kernel_rfl) rfl rfl ⟨(HC.out.h.cell 6),(blk_cell HC.out.x 1)⟩ (fun hHeld=>?_)
 have HC:=Aside0.mk HC.out.drew
 generalize World.drew _=v3d at HC hHeld ⊢
 have fz:=blk_frozen HC.out.h.wk 6
 have yz:v3d.cell? ⟨wg,6,none⟩=some (.int .i64 (R2.rounds:Nat)):=HC.out.h.cell 6
 refine pure_ (i:=0) (N:=some 80) (v:=?_) (a':=?_) (bl_ 11 1) rfl rfl (by kernel_rfl) (fun _ _ _ h=>h) (Or.inl ⟨by rfl,?_⟩) ?_ ?_
 rotate_left
 ·intro w'
  go_simp
  with_reducible rfl
 rotate_left
 ·simp only [Act.put,zA_,zB_,zC_,i64_w]
  rfl
 refine pure_ (i:=1) (N:=some 81) (v:=?_) (a':=?_) (bl_ 11 3) rfl rfl (by kernel_rfl) (fun _ _ _ h=>h) (Or.inl ⟨by rfl,?_⟩) ?_ ?_
 rotate_left
 ·intro w'
  go_simp
  with_reducible rfl
 rotate_left
 ·simp only [Act.put,zA_,zB_,zC_,i64_w]
  rfl
 refine pure_ (i:=2) (N:=some 82) (v:=?_) (a':=?_) (bl_ 11 7) rfl rfl (by kernel_rfl) (fun _ _ _ h=>h) (Or.inl ⟨by rfl,?_⟩) ?_ ?_
 rotate_left
 ·intro w'
  go_simp
  with_reducible rfl
 rotate_left
 ·simp only [Act.put,zA_,zB_,zC_,i64_w]
  rfl
 refine pure_ (i:=3) (N:=some 83) (v:=?_) (a':=?_) (bl_ 11 15) rfl rfl (by kernel_rfl) (fun _ _ _ h=>h) (Or.inl ⟨by rfl,?_⟩) ?_ ?_
 rotate_left
 ·intro w'
  go_simp
  with_reducible rfl
 rotate_left
 ·simp only [Act.put,zA_,zB_,zC_,i64_w]
  rfl
 refine pure_ (i:=5) (N:=some 85) (v:=?_) (a':=?_) (bl_ 11 47) rfl rfl (by kernel_rfl) (fun _ _ _ h=>h) (Or.inl ⟨by rfl,?_⟩) ?_ ?_
 rotate_left
 ·intro w'
  go_simp
  with_reducible rfl
 rotate_left
 ·simp only [Act.put,zA_,zB_,zC_,i64_w]
  rfl
 refine take_ (i:=4) (N:=some 84) (v:=?_) (a':=?_) (bl_ 11 63) rfl rfl (by kernel_rfl) (fun _ _ _ h=>h) (Or.inl ⟨by rfl,?_⟩) hHeld ?_ ?_
 rotate_left
 ·rintro w' ⟨s0,s1⟩
  go_simp
  with_reducible rfl
 rotate_left
 ·simp only [Act.put,zA_,zB_,zC_,i64_w]
  rfl
 refine take_ (i:=6) (N:=some 86) (v:=?_) (a':=?_) (bl_ 11 127) rfl rfl (by kernel_rfl) (fun _ _ _ h=>h) (Or.inl ⟨by rfl,?_⟩) hHeld ?_ ?_
 rotate_left
 ·rintro w' ⟨s0,s1⟩
  go_simp
  with_reducible rfl
 rotate_left
 ·simp only [Act.put,zA_,zB_,zC_,i64_w]
  rfl
 refine pure_ (i:=7) (N:=some 87) (v:=?_) (a':=?_) (bl_ 11 255) rfl rfl (by kernel_rfl) (fun _ _ _ h=>h) (Or.inl ⟨by rfl,?_⟩) ?_ ?_
 rotate_left
 ·intro w'
  go_simp
  with_reducible rfl
 rotate_left
 ·simp only [Act.put,zA_,zB_,zC_,i64_w]
  rfl
 refine pure_ (i:=8) (N:=some 88) (v:=?_) (a':=?_) (bl_ 11 511) rfl rfl (by kernel_rfl) (fun _ _ _ h=>h) (Or.inl ⟨by rfl,?_⟩) ?_ ?_
 rotate_left
 ·intro w'
  go_simp
  with_reducible rfl
 rotate_left
 ·simp only [Act.put,zA_,zB_,zC_,i64_w]
  rfl
 refine pure_ (i:=9) (N:=some 89) (v:=?_) (a':=?_) (bl_ 11 1023) rfl rfl (by kernel_rfl) (fun _ _ _ h=>h) (Or.inl ⟨by rfl,?_⟩) ?_ ?_
 rotate_left
 ·intro w'
  go_simp
  with_reducible rfl
 rotate_left
 ·simp only [Act.put,zA_,zB_,zC_,i64_w]
  rfl
 refine last_ (i:=10) (N:=none) (bl_ 11 2047) rfl rfl (by kernel_rfl) (by decide) (fun K hK=>?_)
 refine skip_ (w1:=v3d.setCell ⟨wg,6,none⟩ (.int .i64 (if R2.rounds < s.2 then ((s.2:Nat):Int) else ((R2.rounds:Nat):Int)))) (by rfl) rfl (by go_simp) ?_
 refine hK.out _ _ ?_
 clear hK K
 refine done_ (by kernel_rfl) ?_
 have HC:=Aside0.mk (HC.out.set (R':={ R2 with rounds:=max R2.rounds s.2 }) 6 (.int .i64 (if R2.rounds < s.2 then ((s.2:Nat):Int) else ((R2.rounds:Nat):Int))) (by rw [max_if]; rfl) rfl)
 generalize v3d.setCell ⟨wg,6,none⟩ (.int .i64 (if R2.rounds < s.2 then ((s.2:Nat):Int) else ((R2.rounds:Nat):Int)))=v4 at HC ⊢
 clear fz yz hHeld
 generalize (if R2.rounds < s.2 then ((s.2:Nat):Int) else ((R2.rounds:Nat):Int))=q6
 rw [HR2.out] at HC
 go_wp2_with fail
 have hsz:=HS.out
 rw [hsz] at HC
 go_end0
 rw [HR1.out] at HC
 exact ⟨rfl,HC.out.k,HC.out.h⟩
theorem rcomes_calls (w0:World) (C:Cv) (wg lb:Nat) (R:Rk) (s:St) (a:Nat) (w:World) (H:RH w0 C wg lb R w) (hs:∀ k∈s.1,k < 4) (hR:a < C.l0.length→(R.l.getD a rz).known=true→∀ k∈(R.l.getD a rz).ks,k < 4) :
  Calls Tryd.prog 22 #[.pointer (some ⟨wg,0,none⟩),.int .i64 (a:Nat),.agg (sCells s)] w (rEnds w0 C wg lb w (rcomes R a s)):=by
 unfold rcomes
 rw [H.ln]
 by_cases he:R.e=0
 ·rw [if_pos he]
  by_cases ha:a < C.l0.length
  ·rw [if_pos ha]
   by_cases hl:s.1.length≤1024
   ·rw [if_pos hl]
    by_cases hk:(R.l.getD a rz).known=true
    ·rw [if_pos hk]
     by_cases hq:(R.l.getD a rz).s=s
     ·rw [if_pos hq]
      exact rcomes_old w0 C wg lb R s a w H he ha hl hk (congrArg Prod.fst hq) (congrArg Prod.snd hq)
     ·rw [if_neg hq]
      by_cases h1:(R.l.getD a rz).ks=s.1
      ·exact rcomes_202b w0 C wg lb R s a w H he ha hl hk h1 (fun h2=>hq (Prod.ext h1 h2))
      ·exact rcomes_202a w0 C wg lb R s a w H he ha hl hk hs (hR ha hk) h1
    ·rw [if_neg hk]
     exact rcomes_new w0 C wg lb R s a w H he ha hl (Bool.eq_false_iff.2 hk)
   ·rw [if_neg hl]
    exact rcomes_201 w0 C wg lb R s a w H he ha hl
  ·rw [if_neg ha]
   exact rcomes_200 w0 C wg lb R s a w H he ha
 ·rw [if_neg he]
  exact rcomes_e w0 C wg lb R s a w H he
end Go.Proofs.YtcmdjpolgaejoaaDoor.Gd
namespace Go.Proofs.YtcmdjpolgaejoaaDoor.Gd
open Go.RowKit Go.Proofs.YtcmdjpolgaejoaaDoorW.PrintWords Go.Proofs.YtcmdjpolgaejoaaDoorW.PrintLast Go.Proofs.YtcmdjpolgaejoaaDoorW.PrintMore
set_option linter.unusedVariables false
set_option linter.unusedSimpArgs false
attribute [local go_sem] max2_int min2_int max_two min_two
attribute [local irreducible] wpList
def ROk (R:Rk):Prop:=∀ a,(R.l.getD a rz).known=true→∀ k∈(R.l.getD a rz).ks,k < 4
theorem ROk.comes {R:Rk} (h:ROk R) (a:Nat) {s:St} (hs:∀ k∈s.1,k < 4):ROk (rcomes R a s):=by
 unfold rcomes
 split
 ·split
  ·split
   ·split
    ·split
     ·exact h
     ·exact h
    ·rename_i ha _ _
     intro b hb
     have e:((R.put a s).lim s).l=R.l.set a ⟨s.1,s.2,true,false⟩:=rfl
     rw [e,getD_set _ _ _ _ _ ha] at hb ⊢
     split
     ·exact hs
     ·rename_i hne
      rw [if_neg hne] at hb
      exact h b hb
   ·exact h
  ·exact h
 ·exact h
abbrev xCells (x:RSt):Array Value:=#[.string (str x.ks),.int .i64 (x.r:Nat),.bool x.known,.bool x.done]
set_option maxHeartbeats 8000000 in
set_option maxRecDepth 10000 in
theorem rhalts_1 (w0:World) (C:Cv) (wg lb:Nat) (R:Rk) (x:RSt) (w:World) (H:RH w0 C wg lb R w) (h1:x.ks.length≠1) :
  Calls Tryd.prog 40 #[.pointer (some ⟨wg,0,none⟩),.agg (xCells x)] w (rEnds w0 C wg lb w (R.bad 201)):=by
 have HC:=Aside0.mk (RC.new H (xCells x))
 have hsz:(str x.ks).size=x.ks.length:=str_size x.ks
 have b0:(w.alloc (.cells (xCells x) 61)).cell? ⟨w.heap.size,0,none⟩=some (.string (str x.ks)):=blk_cell HC.out.x 0
 have b1:(w.alloc (.cells (xCells x) 61)).cell? ⟨w.heap.size,1,none⟩=some (.int .i64 (x.r:Nat)):=blk_cell HC.out.x 1
 have y7:(w.alloc (.cells (xCells x) 61)).cell? ⟨wg,7,none⟩=some (.int .i64 (R.kind:Nat)):=HC.out.h.cell 7
 have y8:(w.alloc (.cells (xCells x) 61)).cell? ⟨wg,8,none⟩=some (.int .i64 R.e):=HC.out.h.cell 8
 have f7:=blk_frozen HC.out.h.wk 7
 have f8:=blk_frozen HC.out.h.wk 8
 clear H
 have n1:((x.ks.length:Int) != 1)=true:=by simp; omega
 have n1':((x.ks.length:Int) == 1)=false:=by simp; omega
 clear h1
 go_enter Tryd.func40,Tryd.ntmps40
 go_wp2_with fail
 have HC:=Aside0.mk (HC.out.set (R':=R.bad 201) 8 (.int .i64 201) rfl rfl)
 go_end0
 exact ⟨rfl,HC.out.k,HC.out.h⟩
set_option maxHeartbeats 8000000 in
set_option maxRecDepth 10000 in
theorem rhalts_2 (w0:World) (C:Cv) (wg lb:Nat) (R:Rk) (x:RSt) (w:World) (H:RH w0 C wg lb R w) (h1:x.ks.length=1) (h2:x.r≠0) :
  Calls Tryd.prog 40 #[.pointer (some ⟨wg,0,none⟩),.agg (xCells x)] w (rEnds w0 C wg lb w (R.bad 201)):=by
 have HC:=Aside0.mk (RC.new H (xCells x))
 have hsz:(str x.ks).size=x.ks.length:=str_size x.ks
 have b0:(w.alloc (.cells (xCells x) 61)).cell? ⟨w.heap.size,0,none⟩=some (.string (str x.ks)):=blk_cell HC.out.x 0
 have b1:(w.alloc (.cells (xCells x) 61)).cell? ⟨w.heap.size,1,none⟩=some (.int .i64 (x.r:Nat)):=blk_cell HC.out.x 1
 have y7:(w.alloc (.cells (xCells x) 61)).cell? ⟨wg,7,none⟩=some (.int .i64 (R.kind:Nat)):=HC.out.h.cell 7
 have y8:(w.alloc (.cells (xCells x) 61)).cell? ⟨wg,8,none⟩=some (.int .i64 R.e):=HC.out.h.cell 8
 have f7:=blk_frozen HC.out.h.wk 7
 have f8:=blk_frozen HC.out.h.wk 8
 clear H
 have n1:((x.ks.length:Int) != 1)=false:=by rw [h1]; rfl
 have n1':((x.ks.length:Int) == 1)=true:=by rw [h1]; rfl
 have n2:(((x.r:Nat):Int) != 0)=true:=by simp; omega
 have n2':(((x.r:Nat):Int) == 0)=false:=by simp; omega
 clear h1 h2
 go_enter Tryd.func40,Tryd.ntmps40
 go_wp2_with fail
 have HC:=Aside0.mk (HC.out.set (R':=R.bad 201) 8 (.int .i64 201) rfl rfl)
 go_end0
 exact ⟨rfl,HC.out.k,HC.out.h⟩
set_option maxHeartbeats 8000000 in
set_option maxRecDepth 10000 in
theorem rhalts_k (w0:World) (C:Cv) (wg lb:Nat) (R:Rk) (x:RSt) (w:World) (H:RH w0 C wg lb R w) (k:Nat) (hk:k < 4) (hx:x.ks=[k]) (h2:x.r=0) (h3:R.kind=0) :
  Calls Tryd.prog 40 #[.pointer (some ⟨wg,0,none⟩),.agg (xCells x)] w (rEnds w0 C wg lb w ({ R with kind:=k })):=by
 have HC:=Aside0.mk (RC.new H (xCells x))
 have hsz:(str x.ks).size=x.ks.length:=str_size x.ks
 have b0:(w.alloc (.cells (xCells x) 61)).cell? ⟨w.heap.size,0,none⟩=some (.string (str x.ks)):=blk_cell HC.out.x 0
 have b1:(w.alloc (.cells (xCells x) 61)).cell? ⟨w.heap.size,1,none⟩=some (.int .i64 (x.r:Nat)):=blk_cell HC.out.x 1
 have y7:(w.alloc (.cells (xCells x) 61)).cell? ⟨wg,7,none⟩=some (.int .i64 (R.kind:Nat)):=HC.out.h.cell 7
 have y8:(w.alloc (.cells (xCells x) 61)).cell? ⟨wg,8,none⟩=some (.int .i64 R.e):=HC.out.h.cell 8
 have f7:=blk_frozen HC.out.h.wk 7
 have f8:=blk_frozen HC.out.h.wk 8
 clear H
 have n1:((x.ks.length:Int) != 1)=false:=by rw [hx]; rfl
 have n1':((x.ks.length:Int) == 1)=true:=by rw [hx]; rfl
 have n2:(((x.r:Nat):Int) != 0)=false:=by rw [h2]; rfl
 have n2':(((x.r:Nat):Int) == 0)=true:=by rw [h2]; rfl
 have hd:=Str.bt_drop (s:=str x.ks) (i:=0) (by rw [hsz,hx]; exact Nat.zero_lt_one)
 rw [nums_bytes (by rw [hx]; simp; exact hk),hx] at hd
 have bk:bt (str x.ks) 0=(k:Int):=by
  have h:=(List.cons.inj hd).1
  rw [hx]
  exact h.symm
 have p1:0 < (str x.ks).size:=by rw [hsz,hx]; exact Nat.zero_lt_one
 unfold bt at bk
 rw [dif_pos (show Int.toNat 0 < (str x.ks).size from p1)] at bk
 have bw:wrap64 (((str x.ks)[0]'p1).toNat:Int)=(k:Int):=by
  have e:(((str x.ks)[0]'p1).toNat:Int)=(k:Int):=bk
  rw [e]
  unfold wrap64
  omega
 clear hx h2 hk hd bk
 have n3:(((R.kind:Nat):Int) != 0)=false:=by rw [h3]; rfl
 have n3':(((R.kind:Nat):Int) == 0)=true:=by rw [h3]; rfl
 clear h3
 go_enter Tryd.func40,Tryd.ntmps40
 go_wp2_with fail
 have HC:=Aside0.mk (HC.out.set (R':={ R with kind:=k }) 7 (.int .i64 (k:Nat)) rfl rfl)
 go_end0
 exact ⟨rfl,HC.out.k,HC.out.h⟩
set_option maxHeartbeats 8000000 in
set_option maxRecDepth 10000 in
theorem rhalts_l (w0:World) (C:Cv) (wg lb:Nat) (R:Rk) (x:RSt) (w:World) (H:RH w0 C wg lb R w) (k:Nat) (hk:k < 4) (hx:x.ks=[k]) (h2:x.r=0) (h3:R.kind≠0) (h4:R.kind=k) :
  Calls Tryd.prog 40 #[.pointer (some ⟨wg,0,none⟩),.agg (xCells x)] w (rEnds w0 C wg lb w ({ R with kind:=k })):=by
 have HC:=Aside0.mk (RC.new H (xCells x))
 have hsz:(str x.ks).size=x.ks.length:=str_size x.ks
 have b0:(w.alloc (.cells (xCells x) 61)).cell? ⟨w.heap.size,0,none⟩=some (.string (str x.ks)):=blk_cell HC.out.x 0
 have b1:(w.alloc (.cells (xCells x) 61)).cell? ⟨w.heap.size,1,none⟩=some (.int .i64 (x.r:Nat)):=blk_cell HC.out.x 1
 have y7:(w.alloc (.cells (xCells x) 61)).cell? ⟨wg,7,none⟩=some (.int .i64 (R.kind:Nat)):=HC.out.h.cell 7
 have y8:(w.alloc (.cells (xCells x) 61)).cell? ⟨wg,8,none⟩=some (.int .i64 R.e):=HC.out.h.cell 8
 have f7:=blk_frozen HC.out.h.wk 7
 have f8:=blk_frozen HC.out.h.wk 8
 clear H
 have n1:((x.ks.length:Int) != 1)=false:=by rw [hx]; rfl
 have n1':((x.ks.length:Int) == 1)=true:=by rw [hx]; rfl
 have n2:(((x.r:Nat):Int) != 0)=false:=by rw [h2]; rfl
 have n2':(((x.r:Nat):Int) == 0)=true:=by rw [h2]; rfl
 have hd:=Str.bt_drop (s:=str x.ks) (i:=0) (by rw [hsz,hx]; exact Nat.zero_lt_one)
 rw [nums_bytes (by rw [hx]; simp; exact hk),hx] at hd
 have bk:bt (str x.ks) 0=(k:Int):=by
  have h:=(List.cons.inj hd).1
  rw [hx]
  exact h.symm
 have p1:0 < (str x.ks).size:=by rw [hsz,hx]; exact Nat.zero_lt_one
 unfold bt at bk
 rw [dif_pos (show Int.toNat 0 < (str x.ks).size from p1)] at bk
 have bw:wrap64 (((str x.ks)[0]'p1).toNat:Int)=(k:Int):=by
  have e:(((str x.ks)[0]'p1).toNat:Int)=(k:Int):=bk
  rw [e]
  unfold wrap64
  omega
 clear hx h2 hk hd bk
 have n3:(((R.kind:Nat):Int) != 0)=true:=by simp; omega
 have n3':(((R.kind:Nat):Int) == 0)=false:=by simp; omega
 have n4:(((R.kind:Nat):Int) != ((k:Nat):Int))=false:=by rw [h4]; simp
 have n4':(((R.kind:Nat):Int) == ((k:Nat):Int))=true:=by rw [h4]; simp
 clear h3 h4
 go_enter Tryd.func40,Tryd.ntmps40
 go_wp2_with fail
 have HC:=Aside0.mk (HC.out.set (R':={ R with kind:=k }) 7 (.int .i64 (k:Nat)) rfl rfl)
 go_end0
 exact ⟨rfl,HC.out.k,HC.out.h⟩
set_option maxHeartbeats 8000000 in
set_option maxRecDepth 10000 in
theorem rhalts_x (w0:World) (C:Cv) (wg lb:Nat) (R:Rk) (x:RSt) (w:World) (H:RH w0 C wg lb R w) (k:Nat) (hk:k < 4) (hx:x.ks=[k]) (h2:x.r=0) (h3:R.kind≠0) (h4:R.kind≠k) :
  Calls Tryd.prog 40 #[.pointer (some ⟨wg,0,none⟩),.agg (xCells x)] w (rEnds w0 C wg lb w (R.bad 202)):=by
 have HC:=Aside0.mk (RC.new H (xCells x))
 have hsz:(str x.ks).size=x.ks.length:=str_size x.ks
 have b0:(w.alloc (.cells (xCells x) 61)).cell? ⟨w.heap.size,0,none⟩=some (.string (str x.ks)):=blk_cell HC.out.x 0
 have b1:(w.alloc (.cells (xCells x) 61)).cell? ⟨w.heap.size,1,none⟩=some (.int .i64 (x.r:Nat)):=blk_cell HC.out.x 1
 have y7:(w.alloc (.cells (xCells x) 61)).cell? ⟨wg,7,none⟩=some (.int .i64 (R.kind:Nat)):=HC.out.h.cell 7
 have y8:(w.alloc (.cells (xCells x) 61)).cell? ⟨wg,8,none⟩=some (.int .i64 R.e):=HC.out.h.cell 8
 have f7:=blk_frozen HC.out.h.wk 7
 have f8:=blk_frozen HC.out.h.wk 8
 clear H
 have n1:((x.ks.length:Int) != 1)=false:=by rw [hx]; rfl
 have n1':((x.ks.length:Int) == 1)=true:=by rw [hx]; rfl
 have n2:(((x.r:Nat):Int) != 0)=false:=by rw [h2]; rfl
 have n2':(((x.r:Nat):Int) == 0)=true:=by rw [h2]; rfl
 have hd:=Str.bt_drop (s:=str x.ks) (i:=0) (by rw [hsz,hx]; exact Nat.zero_lt_one)
 rw [nums_bytes (by rw [hx]; simp; exact hk),hx] at hd
 have bk:bt (str x.ks) 0=(k:Int):=by
  have h:=(List.cons.inj hd).1
  rw [hx]
  exact h.symm
 have p1:0 < (str x.ks).size:=by rw [hsz,hx]; exact Nat.zero_lt_one
 unfold bt at bk
 rw [dif_pos (show Int.toNat 0 < (str x.ks).size from p1)] at bk
 have bw:wrap64 (((str x.ks)[0]'p1).toNat:Int)=(k:Int):=by
  have e:(((str x.ks)[0]'p1).toNat:Int)=(k:Int):=bk
  rw [e]
  unfold wrap64
  omega
 clear hx h2 hk hd bk
 have n3:(((R.kind:Nat):Int) != 0)=true:=by simp; omega
 have n3':(((R.kind:Nat):Int) == 0)=false:=by simp; omega
 have n4:(((R.kind:Nat):Int) != ((k:Nat):Int))=true:=by simp; omega
 have n4':(((R.kind:Nat):Int) == ((k:Nat):Int))=false:=by simp; omega
 clear h3 h4
 go_enter Tryd.func40,Tryd.ntmps40
 go_wp2_with fail
 have HC:=Aside0.mk (HC.out.set (R':=R.bad 202) 8 (.int .i64 202) rfl rfl)
 go_end0
 exact ⟨rfl,HC.out.k,HC.out.h⟩
theorem rhalts_calls (w0:World) (C:Cv) (wg lb:Nat) (R:Rk) (x:RSt) (hx:∀ k∈x.ks,k < 4) (w:World) (H:RH w0 C wg lb R w) :
  Calls Tryd.prog 40 #[.pointer (some ⟨wg,0,none⟩),.agg (xCells x)] w (rEnds w0 C wg lb w (rhalts R x.s)):=by
 unfold rhalts
 by_cases h1:x.ks.length=1
 ·by_cases h2:x.r=0
  ·rw [if_pos (show x.s.1.length=1∧x.s.2=0 from ⟨h1,h2⟩)]
   obtain ⟨k,hk⟩:∃ k,x.ks=[k]:=by
    match x.ks,h1 with
    | [k],_=>exact ⟨k,rfl⟩
   have hd:x.s.1.headD 0=k:=by show x.ks.headD 0=k; rw [hk]; rfl
   have h4:k < 4:=hx k (by rw [hk]; exact List.mem_cons_self)
   rw [hd]
   by_cases h3:R.kind=0
   ·rw [if_pos (Or.inl h3)]
    exact rhalts_k w0 C wg lb R x w H k h4 hk h2 h3
   ·by_cases h5:R.kind=k
    ·rw [if_pos (Or.inr h5)]
     exact rhalts_l w0 C wg lb R x w H k h4 hk h2 h3 h5
    ·rw [if_neg (fun h=>h.elim h3 h5)]
     exact rhalts_x w0 C wg lb R x w H k h4 hk h2 h3 h5
  ·rw [if_neg (fun h=>h2 h.2)]
   exact rhalts_2 w0 C wg lb R x w H h1 h2
 ·rw [if_neg (fun h=>h1 h.1)]
  exact rhalts_1 w0 C wg lb R x w H h1
theorem RC.after {w0:World} {C:Cv} {wg lb:Nat} {w w' w'':World} {sv:Array Value} {R R':Rk} (h:RC w0 C wg lb w sv R w') (k:Keep3 wg lb lb w' w'') (hh:RH w0 C wg lb R' w''):RC w0 C wg lb w sv R' w'' :=
 ⟨hh,h.k.trans k,(k.block _ (blk_lt h.x) (Nat.ne_of_gt h.l1) (Nat.ne_of_gt h.l2) (Nat.ne_of_gt h.l2)).trans h.x,h.l1,h.l2⟩
set_option maxHeartbeats 8000000 in
set_option maxRecDepth 10000 in
theorem rgoes_13 (w0:World) (C:Cv) (cell:Nat→Nat) (hC:CodeOk C cell w0) (wg lb:Nat) (R:Rk) (hR:ROk R) (s:St) (hs:∀ k∈s.1,k < 4) (a op A B:Nat) (ha:a < C.l0.length) (w:World) (H:RH w0 C wg lb R w) (ho:op=13) :
  Calls Tryd.prog 42 #[.pointer (some ⟨wg,0,none⟩),.int .i64 (a:Nat),.int .i64 (op:Nat),.int .i64 (A:Nat),.int .i64 (B:Nat),.agg (sCells s)] w (rEnds w0 C wg lb w (rcomes R A s)):=by
 have HC:=Aside0.mk (RC.new H (sCells s))
 have HS:=Aside0.mk hs
 have HK:=Aside0.mk hR
 have HD:=Aside0.mk hC
 have hn:=hC.size
 have e8:wrap64 ((a:Int)+1)=(a:Int)+1:=by unfold wrap64; omega
 clear hn
 have b0:(w.alloc (.cells (sCells s) 61)).cell? ⟨w.heap.size,0,none⟩=some (.string (str s.1)):=blk_cell HC.out.x 0
 have b1:(w.alloc (.cells (sCells s) 61)).cell? ⟨w.heap.size,1,none⟩=some (.int .i64 (s.2:Nat)):=blk_cell HC.out.x 1
 have b2:(w.alloc (.cells (sCells s) 61)).cell? ⟨w.heap.size,2,none⟩=some (.bool false):=blk_cell HC.out.x 2
 have b3:(w.alloc (.cells (sCells s) 61)).cell? ⟨w.heap.size,3,none⟩=some (.bool false):=blk_cell HC.out.x 3
 clear H hs hR hC
 have n13:(((op:Nat):Int) == 13)=true:=by simp; omega
 have m13:(((op:Nat):Int) != 13)=false:=by simp; omega
 have n14:(((op:Nat):Int) == 14)=false:=by simp; omega
 have m14:(((op:Nat):Int) != 14)=true:=by simp; omega
 have n15:(((op:Nat):Int) == 15)=false:=by simp; omega
 have m15:(((op:Nat):Int) != 15)=true:=by simp; omega
 have n17:(((op:Nat):Int) == 17)=false:=by simp; omega
 have m17:(((op:Nat):Int) != 17)=true:=by simp; omega
 have n24:(((op:Nat):Int) == 24)=false:=by simp; omega
 have m24:(((op:Nat):Int) != 24)=true:=by simp; omega
 clear ho
 go_enter Tryd.func42,Tryd.ntmps42
 go_wp2_with (first
  | (go_at_call 22; (refine (rcomes_calls w0 C wg lb R s A _ HC.out.h HS.out (fun _ hk=>HK.out _ hk)).mono ?_); rintro e w2 ⟨rfl,hk,hh⟩; have HC:=Aside0.mk (HC.out.after hk hh); have b0:w2.cell? ⟨w.heap.size,0,none⟩=some (.string (str s.1)):=blk_cell HC.out.x 0; have b1:w2.cell? ⟨w.heap.size,1,none⟩=some (.int .i64 (s.2:Nat)):=blk_cell HC.out.x 1; have b2:w2.cell? ⟨w.heap.size,2,none⟩=some (.bool false):=blk_cell HC.out.x 2; have b3:w2.cell? ⟨w.heap.size,3,none⟩=some (.bool false):=blk_cell HC.out.x 3; clear hk hh))
 go_end0
 exact ⟨rfl,HC.out.k,HC.out.h⟩
set_option maxHeartbeats 8000000 in
set_option maxRecDepth 10000 in
theorem rgoes_14 (w0:World) (C:Cv) (cell:Nat→Nat) (hC:CodeOk C cell w0) (wg lb:Nat) (R:Rk) (hR:ROk R) (s:St) (hs:∀ k∈s.1,k < 4) (a op A B:Nat) (ha:a < C.l0.length) (w:World) (H:RH w0 C wg lb R w) (ho:op=14) :
  Calls Tryd.prog 42 #[.pointer (some ⟨wg,0,none⟩),.int .i64 (a:Nat),.int .i64 (op:Nat),.int .i64 (A:Nat),.int .i64 (B:Nat),.agg (sCells s)] w (rEnds w0 C wg lb w (rcomes (rcomes R (a+1) s) A s)):=by
 have HC:=Aside0.mk (RC.new H (sCells s))
 have HS:=Aside0.mk hs
 have HK:=Aside0.mk hR
 have HD:=Aside0.mk hC
 have hn:=hC.size
 have e8:wrap64 ((a:Int)+1)=(a:Int)+1:=by unfold wrap64; omega
 clear hn
 have b0:(w.alloc (.cells (sCells s) 61)).cell? ⟨w.heap.size,0,none⟩=some (.string (str s.1)):=blk_cell HC.out.x 0
 have b1:(w.alloc (.cells (sCells s) 61)).cell? ⟨w.heap.size,1,none⟩=some (.int .i64 (s.2:Nat)):=blk_cell HC.out.x 1
 have b2:(w.alloc (.cells (sCells s) 61)).cell? ⟨w.heap.size,2,none⟩=some (.bool false):=blk_cell HC.out.x 2
 have b3:(w.alloc (.cells (sCells s) 61)).cell? ⟨w.heap.size,3,none⟩=some (.bool false):=blk_cell HC.out.x 3
 clear H hs hR hC
 have q8:=Aside0.mk e8
 have n13:(((op:Nat):Int) == 13)=false:=by simp; omega
 have m13:(((op:Nat):Int) != 13)=true:=by simp; omega
 have n14:(((op:Nat):Int) == 14)=true:=by simp; omega
 have m14:(((op:Nat):Int) != 14)=false:=by simp; omega
 have n15:(((op:Nat):Int) == 15)=false:=by simp; omega
 have m15:(((op:Nat):Int) != 15)=true:=by simp; omega
 have n17:(((op:Nat):Int) == 17)=false:=by simp; omega
 have m17:(((op:Nat):Int) != 17)=true:=by simp; omega
 have n24:(((op:Nat):Int) == 24)=false:=by simp; omega
 have m24:(((op:Nat):Int) != 24)=true:=by simp; omega
 clear ho
 go_enter Tryd.func42,Tryd.ntmps42
 go_wp2_with (first
  | (go_at_call 22; have hf0:=q8; clear hf0 q8; (refine (rcomes_calls w0 C wg lb R s (a+1) _ HC.out.h HS.out (fun _ hk=>HK.out _ hk)).mono ?_); rintro e w3 ⟨rfl,hk,hh⟩; have HC:=Aside0.mk (HC.out.after hk hh); have b0:w3.cell? ⟨w.heap.size,0,none⟩=some (.string (str s.1)):=blk_cell HC.out.x 0; have b1:w3.cell? ⟨w.heap.size,1,none⟩=some (.int .i64 (s.2:Nat)):=blk_cell HC.out.x 1; have b2:w3.cell? ⟨w.heap.size,2,none⟩=some (.bool false):=blk_cell HC.out.x 2; have b3:w3.cell? ⟨w.heap.size,3,none⟩=some (.bool false):=blk_cell HC.out.x 3; clear hk hh)
  | (go_at_call 22; (refine (rcomes_calls w0 C wg lb (rcomes R (a+1) s) s A _ HC.out.h HS.out (fun _ hk=>(HK.out.comes (a+1) HS.out) _ hk)).mono ?_); rintro e w4 ⟨rfl,hk,hh⟩; have HC:=Aside0.mk (HC.out.after hk hh); have b0:w4.cell? ⟨w.heap.size,0,none⟩=some (.string (str s.1)):=blk_cell HC.out.x 0; have b1:w4.cell? ⟨w.heap.size,1,none⟩=some (.int .i64 (s.2:Nat)):=blk_cell HC.out.x 1; have b2:w4.cell? ⟨w.heap.size,2,none⟩=some (.bool false):=blk_cell HC.out.x 2; have b3:w4.cell? ⟨w.heap.size,3,none⟩=some (.bool false):=blk_cell HC.out.x 3; clear hk hh))
 go_end0
 exact ⟨rfl,HC.out.k,HC.out.h⟩
set_option maxHeartbeats 8000000 in
set_option maxRecDepth 10000 in
theorem rgoes_15 (w0:World) (C:Cv) (cell:Nat→Nat) (hC:CodeOk C cell w0) (wg lb:Nat) (R:Rk) (hR:ROk R) (s:St) (hs:∀ k∈s.1,k < 4) (a op A B:Nat) (ha:a < C.l0.length) (w:World) (H:RH w0 C wg lb R w) (ho:op=15) :
  Calls Tryd.prog 42 #[.pointer (some ⟨wg,0,none⟩),.int .i64 (a:Nat),.int .i64 (op:Nat),.int .i64 (A:Nat),.int .i64 (B:Nat),.agg (sCells s)] w (rEnds w0 C wg lb w (rcomes (rcomes R (a+1) s) A s)):=by
 have HC:=Aside0.mk (RC.new H (sCells s))
 have HS:=Aside0.mk hs
 have HK:=Aside0.mk hR
 have HD:=Aside0.mk hC
 have hn:=hC.size
 have e8:wrap64 ((a:Int)+1)=(a:Int)+1:=by unfold wrap64; omega
 clear hn
 have b0:(w.alloc (.cells (sCells s) 61)).cell? ⟨w.heap.size,0,none⟩=some (.string (str s.1)):=blk_cell HC.out.x 0
 have b1:(w.alloc (.cells (sCells s) 61)).cell? ⟨w.heap.size,1,none⟩=some (.int .i64 (s.2:Nat)):=blk_cell HC.out.x 1
 have b2:(w.alloc (.cells (sCells s) 61)).cell? ⟨w.heap.size,2,none⟩=some (.bool false):=blk_cell HC.out.x 2
 have b3:(w.alloc (.cells (sCells s) 61)).cell? ⟨w.heap.size,3,none⟩=some (.bool false):=blk_cell HC.out.x 3
 clear H hs hR hC
 have q8:=Aside0.mk e8
 have n13:(((op:Nat):Int) == 13)=false:=by simp; omega
 have m13:(((op:Nat):Int) != 13)=true:=by simp; omega
 have n14:(((op:Nat):Int) == 14)=false:=by simp; omega
 have m14:(((op:Nat):Int) != 14)=true:=by simp; omega
 have n15:(((op:Nat):Int) == 15)=true:=by simp; omega
 have m15:(((op:Nat):Int) != 15)=false:=by simp; omega
 have n17:(((op:Nat):Int) == 17)=false:=by simp; omega
 have m17:(((op:Nat):Int) != 17)=true:=by simp; omega
 have n24:(((op:Nat):Int) == 24)=false:=by simp; omega
 have m24:(((op:Nat):Int) != 24)=true:=by simp; omega
 clear ho
 go_enter Tryd.func42,Tryd.ntmps42
 go_wp2_with (first
  | (go_at_call 22; have hf0:=q8; clear hf0 q8; (refine (rcomes_calls w0 C wg lb R s (a+1) _ HC.out.h HS.out (fun _ hk=>HK.out _ hk)).mono ?_); rintro e w5 ⟨rfl,hk,hh⟩; have HC:=Aside0.mk (HC.out.after hk hh); have b0:w5.cell? ⟨w.heap.size,0,none⟩=some (.string (str s.1)):=blk_cell HC.out.x 0; have b1:w5.cell? ⟨w.heap.size,1,none⟩=some (.int .i64 (s.2:Nat)):=blk_cell HC.out.x 1; have b2:w5.cell? ⟨w.heap.size,2,none⟩=some (.bool false):=blk_cell HC.out.x 2; have b3:w5.cell? ⟨w.heap.size,3,none⟩=some (.bool false):=blk_cell HC.out.x 3; clear hk hh)
  | (go_at_call 22; (refine (rcomes_calls w0 C wg lb (rcomes R (a+1) s) s A _ HC.out.h HS.out (fun _ hk=>(HK.out.comes (a+1) HS.out) _ hk)).mono ?_); rintro e w6 ⟨rfl,hk,hh⟩; have HC:=Aside0.mk (HC.out.after hk hh); have b0:w6.cell? ⟨w.heap.size,0,none⟩=some (.string (str s.1)):=blk_cell HC.out.x 0; have b1:w6.cell? ⟨w.heap.size,1,none⟩=some (.int .i64 (s.2:Nat)):=blk_cell HC.out.x 1; have b2:w6.cell? ⟨w.heap.size,2,none⟩=some (.bool false):=blk_cell HC.out.x 2; have b3:w6.cell? ⟨w.heap.size,3,none⟩=some (.bool false):=blk_cell HC.out.x 3; clear hk hh))
 go_end0
 exact ⟨rfl,HC.out.k,HC.out.h⟩
set_option maxHeartbeats 8000000 in
set_option maxRecDepth 10000 in
theorem rgoes_o (w0:World) (C:Cv) (cell:Nat→Nat) (hC:CodeOk C cell w0) (wg lb:Nat) (R:Rk) (hR:ROk R) (s:St) (hs:∀ k∈s.1,k < 4) (a op A B:Nat) (ha:a < C.l0.length) (w:World) (H:RH w0 C wg lb R w) (h13:op≠13) (h14:op≠14) (h15:op≠15) (h17:op≠17) (h24:op≠24) :
  Calls Tryd.prog 42 #[.pointer (some ⟨wg,0,none⟩),.int .i64 (a:Nat),.int .i64 (op:Nat),.int .i64 (A:Nat),.int .i64 (B:Nat),.agg (sCells s)] w (rEnds w0 C wg lb w (rcomes R (a+1) s)):=by
 have HC:=Aside0.mk (RC.new H (sCells s))
 have HS:=Aside0.mk hs
 have HK:=Aside0.mk hR
 have HD:=Aside0.mk hC
 have hn:=hC.size
 have e8:wrap64 ((a:Int)+1)=(a:Int)+1:=by unfold wrap64; omega
 clear hn
 have b0:(w.alloc (.cells (sCells s) 61)).cell? ⟨w.heap.size,0,none⟩=some (.string (str s.1)):=blk_cell HC.out.x 0
 have b1:(w.alloc (.cells (sCells s) 61)).cell? ⟨w.heap.size,1,none⟩=some (.int .i64 (s.2:Nat)):=blk_cell HC.out.x 1
 have b2:(w.alloc (.cells (sCells s) 61)).cell? ⟨w.heap.size,2,none⟩=some (.bool false):=blk_cell HC.out.x 2
 have b3:(w.alloc (.cells (sCells s) 61)).cell? ⟨w.heap.size,3,none⟩=some (.bool false):=blk_cell HC.out.x 3
 clear H hs hR hC
 have n13:(((op:Nat):Int) == 13)=false:=by simp; omega
 have m13:(((op:Nat):Int) != 13)=true:=by simp; omega
 have n14:(((op:Nat):Int) == 14)=false:=by simp; omega
 have m14:(((op:Nat):Int) != 14)=true:=by simp; omega
 have n15:(((op:Nat):Int) == 15)=false:=by simp; omega
 have m15:(((op:Nat):Int) != 15)=true:=by simp; omega
 have n17:(((op:Nat):Int) == 17)=false:=by simp; omega
 have m17:(((op:Nat):Int) != 17)=true:=by simp; omega
 have n24:(((op:Nat):Int) == 24)=false:=by simp; omega
 have m24:(((op:Nat):Int) != 24)=true:=by simp; omega
 clear h13 h14 h15 h17 h24
 go_enter Tryd.func42,Tryd.ntmps42
 go_wp2_with (first
  | (go_at_call 22; (refine (rcomes_calls w0 C wg lb R s (a+1) _ HC.out.h HS.out (fun _ hk=>HK.out _ hk)).mono ?_); rintro e w7 ⟨rfl,hk,hh⟩; have HC:=Aside0.mk (HC.out.after hk hh); have b0:w7.cell? ⟨w.heap.size,0,none⟩=some (.string (str s.1)):=blk_cell HC.out.x 0; have b1:w7.cell? ⟨w.heap.size,1,none⟩=some (.int .i64 (s.2:Nat)):=blk_cell HC.out.x 1; have b2:w7.cell? ⟨w.heap.size,2,none⟩=some (.bool false):=blk_cell HC.out.x 2; have b3:w7.cell? ⟨w.heap.size,3,none⟩=some (.bool false):=blk_cell HC.out.x 3; clear hk hh))
 go_end0
 exact ⟨rfl,HC.out.k,HC.out.h⟩
set_option maxHeartbeats 8000000 in
set_option maxRecDepth 10000 in
theorem rgoes_24 (w0:World) (C:Cv) (cell:Nat→Nat) (hC:CodeOk C cell w0) (wg lb:Nat) (R:Rk) (hR:ROk R) (s:St) (hs:∀ k∈s.1,k < 4) (a op A B:Nat) (ha:a < C.l0.length) (w:World) (H:RH w0 C wg lb R w) (ho:op=24) (h2:0 < s.2) (h4:s.2≤4) :
  Calls Tryd.prog 42 #[.pointer (some ⟨wg,0,none⟩),.int .i64 (a:Nat),.int .i64 (op:Nat),.int .i64 (A:Nat),.int .i64 (B:Nat),.agg (sCells s)] w (rEnds w0 C wg lb w (rcomes (rcomes R (a+1) s) A (s.1,s.2 - 1))):=by
 have HC:=Aside0.mk (RC.new H (sCells s))
 have HS:=Aside0.mk hs
 have HK:=Aside0.mk hR
 have HD:=Aside0.mk hC
 have hn:=hC.size
 have e8:wrap64 ((a:Int)+1)=(a:Int)+1:=by unfold wrap64; omega
 clear hn
 have b0:(w.alloc (.cells (sCells s) 61)).cell? ⟨w.heap.size,0,none⟩=some (.string (str s.1)):=blk_cell HC.out.x 0
 have b1:(w.alloc (.cells (sCells s) 61)).cell? ⟨w.heap.size,1,none⟩=some (.int .i64 (s.2:Nat)):=blk_cell HC.out.x 1
 have b2:(w.alloc (.cells (sCells s) 61)).cell? ⟨w.heap.size,2,none⟩=some (.bool false):=blk_cell HC.out.x 2
 have b3:(w.alloc (.cells (sCells s) 61)).cell? ⟨w.heap.size,3,none⟩=some (.bool false):=blk_cell HC.out.x 3
 clear H hs hR hC
 have q8:=Aside0.mk e8
 have e9:wrap64 (((s.2:Nat):Int) - 1)=((s.2 - 1:Nat):Int):=by unfold wrap64; omega
 have n13:(((op:Nat):Int) == 13)=false:=by simp; omega
 have m13:(((op:Nat):Int) != 13)=true:=by simp; omega
 have n14:(((op:Nat):Int) == 14)=false:=by simp; omega
 have m14:(((op:Nat):Int) != 14)=true:=by simp; omega
 have n15:(((op:Nat):Int) == 15)=false:=by simp; omega
 have m15:(((op:Nat):Int) != 15)=true:=by simp; omega
 have n17:(((op:Nat):Int) == 17)=false:=by simp; omega
 have m17:(((op:Nat):Int) != 17)=true:=by simp; omega
 have n24:(((op:Nat):Int) == 24)=true:=by simp; omega
 have m24:(((op:Nat):Int) != 24)=false:=by simp; omega
 clear ho h2 h4
 go_enter Tryd.func42,Tryd.ntmps42
 go_wp2_with (first
  | (go_at_call 22; have hf0:=q8; clear hf0 q8; (refine (rcomes_calls w0 C wg lb R s (a+1) _ HC.out.h HS.out (fun _ hk=>HK.out _ hk)).mono ?_); rintro e w8 ⟨rfl,hk,hh⟩; have HC:=Aside0.mk (HC.out.after hk hh); have b0:w8.cell? ⟨w.heap.size,0,none⟩=some (.string (str s.1)):=blk_cell HC.out.x 0; have b1:w8.cell? ⟨w.heap.size,1,none⟩=some (.int .i64 (s.2:Nat)):=blk_cell HC.out.x 1; have b2:w8.cell? ⟨w.heap.size,2,none⟩=some (.bool false):=blk_cell HC.out.x 2; have b3:w8.cell? ⟨w.heap.size,3,none⟩=some (.bool false):=blk_cell HC.out.x 3; clear hk hh)
  | (go_at_call 22; (refine (rcomes_calls w0 C wg lb (rcomes R (a+1) s) (s.1,s.2 - 1) A _ HC.out.h HS.out (fun _ hk=>(HK.out.comes (a+1) HS.out) _ hk)).mono ?_); rintro e w9 ⟨rfl,hk,hh⟩; have HC:=Aside0.mk (HC.out.after hk hh); have b0:w9.cell? ⟨w.heap.size,0,none⟩=some (.string (str s.1)):=blk_cell HC.out.x 0; have b1:w9.cell? ⟨w.heap.size,1,none⟩=some (.int .i64 (s.2:Nat)):=blk_cell HC.out.x 1; have b2:w9.cell? ⟨w.heap.size,2,none⟩=some (.bool false):=blk_cell HC.out.x 2; have b3:w9.cell? ⟨w.heap.size,3,none⟩=some (.bool false):=blk_cell HC.out.x 3; clear hk hh))
 go_end0
 exact ⟨rfl,HC.out.k,HC.out.h⟩
set_option maxHeartbeats 8000000 in
set_option maxRecDepth 10000 in
theorem rgoes_17 (w0:World) (C:Cv) (cell:Nat→Nat) (hC:CodeOk C cell w0) (wg lb:Nat) (R:Rk) (hR:ROk R) (s:St) (hs:∀ k∈s.1,k < 4) (a op A B:Nat) (ha:a < C.l0.length) (w:World) (H:RH w0 C wg lb R w) (ho:op=17) (hA:A < C.l3.length) (hl:s.1.length+1≤1024) :
  Calls Tryd.prog 42 #[.pointer (some ⟨wg,0,none⟩),.int .i64 (a:Nat),.int .i64 (op:Nat),.int .i64 (A:Nat),.int .i64 (B:Nat),.agg (sCells s)] w (rEnds w0 C wg lb w (rcomes (rcomes R (a+1) s) B (cell A :: s.1,s.2))):=by
 have HC:=Aside0.mk (RC.new H (sCells s))
 have HS:=Aside0.mk hs
 have HK:=Aside0.mk hR
 have HD:=Aside0.mk hC
 have hn:=hC.size
 have e8:wrap64 ((a:Int)+1)=(a:Int)+1:=by unfold wrap64; omega
 clear hn
 have b0:(w.alloc (.cells (sCells s) 61)).cell? ⟨w.heap.size,0,none⟩=some (.string (str s.1)):=blk_cell HC.out.x 0
 have b1:(w.alloc (.cells (sCells s) 61)).cell? ⟨w.heap.size,1,none⟩=some (.int .i64 (s.2:Nat)):=blk_cell HC.out.x 1
 have b2:(w.alloc (.cells (sCells s) 61)).cell? ⟨w.heap.size,2,none⟩=some (.bool false):=blk_cell HC.out.x 2
 have b3:(w.alloc (.cells (sCells s) 61)).cell? ⟨w.heap.size,3,none⟩=some (.bool false):=blk_cell HC.out.x 3
 clear H hs hR hC
 have HA:=Aside0.mk hA
 have hc4:=(HD.out.kind A hA).2
 have HL4:=Aside0.mk (show cell A < 256 by omega)
 have HSC:=Aside0.mk (show ∀ k∈cell A :: s.1,k < 4 from fun k hk=>by rcases List.mem_cons.1 hk with rfl|h; exact hc4; exact HS.out k h)
 have HST:=Aside0.mk (show str s.1++str [cell A]=str (cell A :: s.1) from app2 s.1 [cell A] HS.out (fun k hk=>by simp at hk; rw [hk]; exact hc4))
 have zz:¬ 9223372036854775807 < (str s.1).size+(str [cell A]).size:=by rw [str_size,str_size]; simp; omega
 have hsz:=str_size s.1
 have n13:(((op:Nat):Int) == 13)=false:=by simp; omega
 have m13:(((op:Nat):Int) != 13)=true:=by simp; omega
 have n14:(((op:Nat):Int) == 14)=false:=by simp; omega
 have m14:(((op:Nat):Int) != 14)=true:=by simp; omega
 have n15:(((op:Nat):Int) == 15)=false:=by simp; omega
 have m15:(((op:Nat):Int) != 15)=true:=by simp; omega
 have n17:(((op:Nat):Int) == 17)=true:=by simp; omega
 have m17:(((op:Nat):Int) != 17)=false:=by simp; omega
 have n24:(((op:Nat):Int) == 24)=false:=by simp; omega
 have m24:(((op:Nat):Int) != 24)=true:=by simp; omega
 clear ho hA hl hc4 hsz
 go_enter Tryd.func42,Tryd.ntmps42
 go_wp2_with (first
  | (go_at_call 22; (refine (rcomes_calls w0 C wg lb R s (a+1) _ HC.out.h HS.out (fun _ hk=>HK.out _ hk)).mono ?_); rintro e w10 ⟨rfl,hk,hh⟩; have HC:=Aside0.mk (HC.out.after hk hh); have b0:w10.cell? ⟨w.heap.size,0,none⟩=some (.string (str s.1)):=blk_cell HC.out.x 0; have b1:w10.cell? ⟨w.heap.size,1,none⟩=some (.int .i64 (s.2:Nat)):=blk_cell HC.out.x 1; have b2:w10.cell? ⟨w.heap.size,2,none⟩=some (.bool false):=blk_cell HC.out.x 2; have b3:w10.cell? ⟨w.heap.size,3,none⟩=some (.bool false):=blk_cell HC.out.x 3; clear hk hh))
 clear b0 b1 b2 b3
 obtain ⟨ae,ee,hx3⟩:=Kd.at_int (Kd.C_below HD.out.reads.r3 HC.out.h.b) (A:Int) (Int.natCast_nonneg A) (by have:=HA.out; omega)
 rw [HD.out.val A HA.out] at hx3
 have hk3:w10.cell? ⟨wg,3,none⟩=some (.slice (some ae) C.l3.length C.c3):=by
  rw [← ee]; exact HC.out.h.cell 3
 have hk4:w10.cell? (ae.add A)=some (.int .i64 ((cell A:Nat):Int)):=hx3
 have hlA:=HA.out
 clear hx3
 refine start_ (n:=18) (S:=fun w'=>w'.cell? ⟨w.heap.size,0,none⟩=some (.string (str s.1))∧w'.cell? ⟨w.heap.size,1,none⟩=some (.int .i64 (s.2:Nat))∧w'.cell? ⟨wg,3,none⟩=some (.slice (some ae) C.l3.length C.c3)∧w'.cell? (ae.add A)=some (.int .i64 ((cell A:Nat):Int))) (ds:=[17]) #[false,false,false,false,false,false,false,false,false,false,false,false,false,false,false,false,false,false] (by kernel_rfl) rfl rfl ⟨(blk_cell HC.out.x 0),(blk_cell HC.out.x 1),hk3,hk4⟩ (fun hHeld=>?_)
 have HC:=Aside0.mk HC.out.drew
 generalize World.drew _=u5 at HC hHeld ⊢
 refine pure_ (i:=0) (N:=some 30) (v:=?_) (a':=?_) (bl_ 18 1) rfl rfl (by kernel_rfl) (fun _ _ _ h=>h) (Or.inl ⟨by rfl,?_⟩) ?_ ?_
 rotate_left
 ·intro w'
  go_simp
  with_reducible rfl
 rotate_left
 ·simp only [Act.put,zA_,zB_,zC_,i64_w]
  rfl
 refine pure_ (i:=1) (N:=some 31) (v:=?_) (a':=?_) (bl_ 18 3) rfl rfl (by kernel_rfl) (fun _ _ _ h=>h) (Or.inl ⟨by rfl,?_⟩) ?_ ?_
 rotate_left
 ·intro w'
  go_simp
  with_reducible rfl
 rotate_left
 ·simp only [Act.put,zA_,zB_,zC_,i64_w]
  rfl
 refine pure_ (i:=2) (N:=some 32) (v:=?_) (a':=?_) (bl_ 18 7) rfl rfl (by kernel_rfl) (fun _ _ _ h=>h) (Or.inl ⟨by rfl,?_⟩) ?_ ?_
 rotate_left
 ·intro w'
  go_simp
  with_reducible rfl
 rotate_left
 ·simp only [Act.put,zA_,zB_,zC_,i64_w]
  rfl
 refine pure_ (i:=4) (N:=some 34) (v:=?_) (a':=?_) (bl_ 18 23) rfl rfl (by kernel_rfl) (fun _ _ _ h=>h) (Or.inl ⟨by rfl,?_⟩) ?_ ?_
 rotate_left
 ·intro w'
  go_simp
  with_reducible rfl
 rotate_left
 ·simp only [Act.put,zA_,zB_,zC_,i64_w]
  rfl
 refine pure_ (i:=5) (N:=some 35) (v:=?_) (a':=?_) (bl_ 18 55) rfl rfl (by kernel_rfl) (fun _ _ _ h=>h) (Or.inl ⟨by rfl,?_⟩) ?_ ?_
 rotate_left
 ·intro w'
  go_simp
  with_reducible rfl
 rotate_left
 ·simp only [Act.put,zA_,zB_,zC_,i64_w]
  rfl
 refine pure_ (i:=6) (N:=some 36) (v:=?_) (a':=?_) (bl_ 18 119) rfl rfl (by kernel_rfl) (fun _ _ _ h=>h) (Or.inl ⟨by rfl,?_⟩) ?_ ?_
 rotate_left
 ·intro w'
  go_simp
  with_reducible rfl
 rotate_left
 ·simp only [Act.put,zA_,zB_,zC_,i64_w]
  rfl
 refine pure_ (i:=7) (N:=some 37) (v:=?_) (a':=?_) (bl_ 18 247) rfl rfl (by kernel_rfl) (fun _ _ _ h=>h) (Or.inl ⟨by rfl,?_⟩) ?_ ?_
 rotate_left
 ·intro w'
  go_simp
  with_reducible rfl
 rotate_left
 ·simp only [Act.put,zA_,zB_,zC_,i64_w]
  rfl
 refine pure_ (i:=9) (N:=some 39) (v:=?_) (a':=?_) (bl_ 18 759) rfl rfl (by kernel_rfl) (fun _ _ _ h=>h) (Or.inl ⟨by rfl,?_⟩) ?_ ?_
 rotate_left
 ·intro w'
  go_simp
  with_reducible rfl
 rotate_left
 ·simp only [Act.put,zA_,zB_,zC_,i64_w]
  rfl
 refine pure_ (i:=14) (N:=some 44) (v:=?_) (a':=?_) (bl_ 18 17143) rfl rfl (by kernel_rfl) (fun _ _ _ h=>h) (Or.inl ⟨by rfl,?_⟩) ?_ ?_
 rotate_left
 ·intro w'
  go_simp
  with_reducible rfl
 rotate_left
 ·simp only [Act.put,zA_,zB_,zC_,i64_w]
  rfl
 refine take_ (i:=3) (N:=some 33) (v:=?_) (a':=?_) (bl_ 18 17151) rfl rfl (by kernel_rfl) (fun _ _ _ h=>h) (Or.inl ⟨by rfl,?_⟩) hHeld ?_ ?_
 rotate_left
 ·rintro w' ⟨s0,s1,s2,s3⟩
  go_simp
  with_reducible rfl
 rotate_left
 ·simp only [Act.put,zA_,zB_,zC_,i64_w]
  rfl
 refine take_ (i:=8) (N:=some 38) (v:=?_) (a':=?_) (bl_ 18 17407) rfl rfl (by kernel_rfl) (fun _ _ _ h=>h) (Or.inl ⟨by rfl,?_⟩) hHeld ?_ ?_
 rotate_left
 ·rintro w' ⟨s0,s1,s2,s3⟩
  go_simp
  with_reducible rfl
 rotate_left
 ·simp only [Act.put,zA_,zB_,zC_,i64_w]
  rfl
 refine pure_ (i:=10) (N:=some 40) (v:=?_) (a':=?_) (bl_ 18 18431) rfl rfl (by kernel_rfl) (fun _ _ _ h=>h) (Or.inl ⟨by rfl,?_⟩) ?_ ?_
 rotate_left
 ·intro w'
  go_simp
  with_reducible rfl
 rotate_left
 ·simp only [Act.put,zA_,zB_,zC_,i64_w]
  rfl
 refine take_ (i:=11) (N:=some 41) (v:=?_) (a':=?_) (bl_ 18 20479) rfl rfl (by kernel_rfl) (fun _ _ _ h=>h) (Or.inl ⟨by rfl,?_⟩) hHeld ?_ ?_
 rotate_left
 ·rintro w' ⟨s0,s1,s2,s3⟩
  go_simp
  with_reducible rfl
 rotate_left
 ·simp only [Act.put,zA_,zB_,zC_,i64_w]
  rfl
 refine take_ (i:=15) (N:=some 45) (v:=?_) (a':=?_) (bl_ 18 53247) rfl rfl (by kernel_rfl) (fun _ _ _ h=>h) (Or.inl ⟨by rfl,?_⟩) hHeld ?_ ?_
 rotate_left
 ·rintro w' ⟨s0,s1,s2,s3⟩
  go_simp
  with_reducible rfl
 rotate_left
 ·simp only [Act.put,zA_,zB_,zC_,i64_w]
  rfl
 refine one_ (i:=12) (N:=some 42) (bl_ 18 57343) rfl rfl (by kernel_rfl) (by decide) (fun K hK=>?_)
 refine goes_ Tryd.func77 (by kernel_rfl) rfl #[.int .i64 ((cell A:Nat):Int)] (by rfl) rfl rfl (by (try simp only [List.map_toArray,List.map_cons,List.map_nil]); first|done|rfl) ?_
 refine (D.isthmusref20_code.calls ((cell A:Nat):Int) (str [cell A]) _ (code_k HL4.out)).mono ?_
 rintro e w6 ⟨rfl,hb6⟩
 refine ⟨_,rfl,?_⟩
 have hb6:Below u5.heap.size u5 w6:=by first|exact hb6|(obtain ⟨nd,rfl⟩:=hb6; exact pw_below_drewN (Below.refl _ _) nd)
 have HC:=Aside0.mk (HC.out.call hb6)
 refine hK.out _ _ ⟨(below_cell hb6 hHeld.1),(below_cell hb6 hHeld.2.1),(below_cell hb6 hHeld.2.2.1),(below_cell hb6 hHeld.2.2.2)⟩ (fun hHeld=>?_)
 clear hK K
 refine norm_ (a':=?_) ?_ ?_
 rotate_left
 ·show Act.put _ (some 42) _=_
  simp only [Act.put,zA_,zB_,zC_,i64_w]
  rfl
 refine pure_ (i:=13) (N:=some 43) (v:=?_) (a':=?_) (bl_ 18 65535) rfl rfl (by kernel_rfl) (fun _ _ _ h=>h) (Or.inl ⟨by rfl,?_⟩) ?_ ?_
 rotate_left
 ·intro w'
  go_simp
  with_reducible rfl
 rotate_left
 ·simp only [Act.put,zA_,zB_,zC_,i64_w]
  rfl
 refine pure_ (i:=16) (N:=some 46) (v:=?_) (a':=?_) (bl_ 18 131071) rfl rfl (by kernel_rfl) (fun _ _ _ h=>h) (Or.inl ⟨by rfl,?_⟩) ?_ ?_
 rotate_left
 ·intro w'
  go_simp
  with_reducible rfl
 rotate_left
 ·simp only [Act.put,zA_,zB_,zC_,i64_w]
  rfl
 refine last_ (i:=17) (N:=some 47) (bl_ 18 262143) rfl rfl (by kernel_rfl) (by decide) (fun K hK=>?_)
 refine goes_ Tryd.func22 (by kernel_rfl) rfl #[.pointer (some ⟨wg,0,none⟩),.int .i64 (B:Nat),.agg #[.string (str s.1++str [cell A]),.int .i64 (s.2:Nat),.bool false,.bool false]] (by rfl) rfl rfl (by (try simp only [List.map_toArray,List.map_cons,List.map_nil]); first|done|rfl) ?_
 rw [HST.out]
 refine (rcomes_calls w0 C wg lb (rcomes R (a+1) s) (cell A :: s.1,s.2) B _ HC.out.h HSC.out (fun _ hk=>(HK.out.comes (a+1) HS.out) _ hk)).mono ?_
 rintro e w7 ⟨rfl,hk,hh⟩
 refine ⟨_,rfl,?_⟩
 have HC:=Aside0.mk (HC.out.after hk hh)
 refine hK.out _ _ ?_
 clear hK K
 refine norm_ (a':=?_) ?_ ?_
 rotate_left
 ·show Act.put _ (some 47) _=_
  simp only [Act.put,zA_,zB_,zC_,i64_w]
  rfl
 refine done_ (by kernel_rfl) ?_
 go_wp2_with fail
 go_end0
 exact ⟨rfl,HC.out.k,HC.out.h⟩
theorem rgoes_calls (w0:World) (C:Cv) (cell:Nat→Nat) (hC:CodeOk C cell w0) (wg lb:Nat) (R:Rk) (hR:ROk R) (s:St) (hs:∀ k∈s.1,k < 4) (a op A B:Nat) (ha:a < C.l0.length) (w:World) (H:RH w0 C wg lb R w)
  (h17:op=17→A < C.l3.length∧s.1.length+1≤1024) (h24:op=24→0 < s.2∧s.2≤4) :
  Calls Tryd.prog 42 #[.pointer (some ⟨wg,0,none⟩),.int .i64 (a:Nat),.int .i64 (op:Nat),.int .i64 (A:Nat),.int .i64 (B:Nat),.agg (sCells s)] w (rEnds w0 C wg lb w (rgoes cell R a op A B s)):=by
 unfold rgoes
 by_cases c1:op=13
 ·subst c1; exact rgoes_13 w0 C cell hC wg lb R hR s hs a 13 A B ha w H rfl
 by_cases c2:op=14
 ·subst c2; exact rgoes_14 w0 C cell hC wg lb R hR s hs a 14 A B ha w H rfl
 by_cases c3:op=15
 ·subst c3; exact rgoes_15 w0 C cell hC wg lb R hR s hs a 15 A B ha w H rfl
 by_cases c4:op=17
 ·subst c4; exact rgoes_17 w0 C cell hC wg lb R hR s hs a 17 A B ha w H rfl (h17 rfl).1 (h17 rfl).2
 by_cases c5:op=24
 ·subst c5; exact rgoes_24 w0 C cell hC wg lb R hR s hs a 24 A B ha w H rfl (h24 rfl).1 (h24 rfl).2
 rw [if_neg c1,if_neg (by omega),if_neg c4,if_neg c5]
 exact rgoes_o w0 C cell hC wg lb R hR s hs a op A B ha w H c1 c2 c3 c4 c5
end Go.Proofs.YtcmdjpolgaejoaaDoor.Gd
namespace Go.Proofs.YtcmdjpolgaejoaaDoor.Gd
open Go.RowKit Go.Proofs.YtcmdjpolgaejoaaDoorW.PrintWords Go.Proofs.YtcmdjpolgaejoaaDoorW.PrintLast Go.Proofs.YtcmdjpolgaejoaaDoorW.PrintMore
set_option linter.unusedVariables false
set_option linter.unusedSimpArgs false
attribute [local go_sem] max2_int min2_int max_two min_two
attribute [local irreducible] wpList
def PartsR (w0:World) (x:Int) (op A B:Nat):Prop:=∀ W,Below w0.heap.size w0 W→Calls Tryd.prog 39 #[.int .u64 x] W fun e w'=>e=.returned (.tuple #[.int .i64 (op:Nat),.int .i64 (A:Nat),.int .i64 (B:Nat)])∧Below W.heap.size W w'
theorem str_take {ks:List Nat} (h:∀ k∈ks,k < 4) (j:Nat) (hj:j≤ks.length):(str ks).extract (ks.length - j) ks.length=str (ks.take j):=by
 apply Str.ext_bytes
 rw [Str.bytes_extract,nums_bytes h,nums_bytes (fun k hk=>h k (List.mem_of_mem_take hk)),← List.map_drop,← List.map_take]
 congr 1
 rw [List.take_of_length_le (by simp),List.reverse_take]
theorem str_drop {ks:List Nat} (h:∀ k∈ks,k < 4) (j:Nat) (hj:j≤ks.length):(str ks).extract 0 (ks.length - j)=str (ks.drop j):=by
 apply Str.ext_bytes
 rw [Str.bytes_extract,nums_bytes h,nums_bytes (fun k hk=>h k (List.mem_of_mem_drop hk)),List.drop_zero,← List.map_take,Nat.sub_zero]
 congr 1
 rw [List.reverse_drop]
set_option maxHeartbeats 8000000 in
set_option maxRecDepth 10000 in
theorem rlooks_h (w0:World) (C:Cv) (cell:Nat→Nat) (hC:CodeOk C cell w0) (wg lb:Nat) (R:Rk) (hR:ROk R) (a op A B:Nat) (ha:a < C.l0.length) (hP:PartsR w0 (rd C.l0 (a:Int)) op A B) (x:RSt) (hx:R.l.getD a rz=x) (hx4:∀ k∈x.ks,k < 4) (w:World) (H:RH w0 C wg lb R w) (ho:op=0) :
  Calls Tryd.prog 23 #[.pointer (some ⟨wg,0,none⟩),.int .i64 (a:Nat)] w (rEnds w0 C wg lb w (rhalts R x.s)):=by
 have HC:=Aside0.mk (RC.new H (xCells x))
 have HD:=Aside0.mk hC
 have HK:=Aside0.mk hR
 have HX:=Aside0.mk hx4
 have HPP:=Aside0.mk hP
 have hal:a < R.l.length:=by rw [H.ln]; exact ha
 have y4:w.cell? ⟨wg,4,none⟩=some (.slice (some ⟨lb,0,none⟩) C.l0.length C.l0.length):=H.cell 4
 have g0:w.cell? ⟨lb,a*4,none⟩=some (.string (str x.ks)):=by
  have h:=H.st a 0 (by decide) hal
  rw [hx] at h
  exact h
 have g1:w.cell? ⟨lb,a*4+1,none⟩=some (.int .i64 (x.r:Nat)):=by
  have h:=H.st a 1 (by decide) hal
  rw [hx] at h
  exact h
 have g2:w.cell? ⟨lb,a*4+2,none⟩=some (.bool x.known):=by
  have h:=H.st a 2 (by decide) hal
  rw [hx] at h
  exact h
 have g3:w.cell? ⟨lb,a*4+3,none⟩=some (.bool x.done):=by
  have h:=H.st a 3 (by decide) hal
  rw [hx] at h
  exact h
 obtain ⟨a0,e0,hw0⟩:=Kd.at_int (Kd.C_below hC.reads.r0 HC.out.h.b) (a:Int) (Int.natCast_nonneg a) (by omega)
 have ka:(w.alloc (.cells (xCells x) 61)).cell? ⟨wg,0,none⟩=some (.slice (some a0) C.l0.length C.c0):=by rw [← e0]; exact HC.out.h.cell 0
 have kb:(w.alloc (.cells (xCells x) 61)).cell? (a0.add a)=some (.int .u64 (rd C.l0 (a:Int))):=hw0
 have hlt:=ha
 have hsz:=str_size x.ks
 clear hC hR hx4 hP hal H hw0 hx e0
 have n0:(((op:Nat):Int) == 0)=true:=by rw [ho]; rfl
 clear ho
 go_enter Tryd.func23,Tryd.ntmps23
 go_wp2_with (first
  | (go_at_call 39; (refine (HPP.out _ HC.out.h.b).mono ?_); rintro e w2 ⟨rfl,hb⟩; have HC:=Aside0.mk (HC.out.call hb); have b0:w2.cell? ⟨w.heap.size,0,none⟩=some (.string (str x.ks)):=blk_cell HC.out.x 0; have b1:w2.cell? ⟨w.heap.size,1,none⟩=some (.int .i64 (x.r:Nat)):=blk_cell HC.out.x 1; have b2:w2.cell? ⟨w.heap.size,2,none⟩=some (.bool x.known):=blk_cell HC.out.x 2; have b3:w2.cell? ⟨w.heap.size,3,none⟩=some (.bool x.done):=blk_cell HC.out.x 3; clear hb)
  | (go_at_call 40; (refine (rhalts_calls w0 C wg lb R x HX.out _ HC.out.h).mono ?_); rintro e w3 ⟨rfl,hk,hh⟩; have HC:=Aside0.mk (HC.out.after hk hh); clear hk hh))
 go_end0
 exact ⟨rfl,HC.out.k,HC.out.h⟩
structure WordOk (W:List Nat×List Nat×Int×Bool) (r op:Nat):Prop where
 p4:∀ k∈W.1,k < 4
 q4:∀ k∈W.2.1,k < 4
 pl:W.1.length≤1024
 ql:W.2.1.length≤2
 r2:W.2.2.2=true→∃ r2:Nat,((r:Nat):Int)+W.2.2.1=(r2:Nat)∧r2≤8∧(op=24→0 < r2∧r2≤4)
theorem WordOk.mk0 {p q:List Nat} {ok:Bool} {r op:Nat} (h1:∀ k∈p,k < 4) (h2:∀ k∈q,k < 4) (h3:p.length≤1024) (h4:q.length≤2) (hr:r≤4) (h:op=24→ok=true→0 < r):WordOk (p,q,0,ok) r op :=
 ⟨h1,h2,h3,h4,fun ho=>⟨r,by simp,by omega,fun h24=>⟨h h24 ho,hr⟩⟩⟩
theorem WordOk.mk1 {p:List Nat} {ok:Bool} {r op:Nat} (h1:∀ k∈p,k < 4) (h3:p.length≤1024) (hr:r≤4) (h:op≠24):WordOk (p,[],1,ok) r op :=
 ⟨h1,by simp,h3,by simp,fun ho=>⟨r+1,by simp,by omega,fun h24=>absurd h24 h⟩⟩
theorem in1 {x:Nat} (hx:x < 4):∀ k∈[x],k < 4:=fun k hk=>by simp at hk; rw [hk]; exact hx
theorem in2 {x y:Nat} (hx:x < 4) (hy:y < 4):∀ k∈[x,y],k < 4:=fun k hk=>by simp at hk; rcases hk with rfl|rfl<;>assumption
theorem in0:∀ k∈([]:List Nat),k < 4:=fun k hk=>by simp at hk
theorem word_ok (cell:Nat→Nat) (r a b op n3:Nat) (hO:OpsOk n3 op a b) (hc:op=18→cell a < 4) (hr:r≤4):WordOk (rword cell r a b op) r op:=by
 obtain ⟨h27,hb,hA,h23⟩:=hO
 match op,h27,hb,h23,hc with
 | 0,_,_,_,_=>exact .mk0 in0 in0 (by decide) (by decide) hr (fun h=>absurd h (by decide))
 | 1,_,hb,_,_=>exact .mk0 in0 (in1 (hb (Or.inl rfl)).2) (by decide) (Nat.le_succ 1) hr (fun h=>absurd h (by decide))
 | 2,_,_,_,_=>exact .mk0 in0 (in1 (by decide)) (by decide) (by decide) hr (fun h=>absurd h (by decide))
 | 3,_,_,_,_=>exact .mk0 in0 (in1 (by decide)) (by decide) (by decide) hr (fun h=>absurd h (by decide))
 | 4,_,_,_,_=>exact .mk0 (in1 (by decide)) (in1 (by decide)) (by decide) (by decide) hr (fun h=>absurd h (by decide))
 | 5,_,_,_,_=>exact .mk0 (in1 (by decide)) (in1 (by decide)) (by decide) (by decide) hr (fun h=>absurd h (by decide))
 | 6,_,_,_,_=>exact .mk0 (in2 (by decide) (by decide)) (in1 (by decide)) (by decide) (by decide) hr (fun h=>absurd h (by decide))
 | 7,_,_,_,_=>exact .mk0 (in2 (by decide) (by decide)) (in1 (by decide)) (by decide) (by decide) hr (fun h=>absurd h (by decide))
 | 8,_,_,_,_=>exact .mk0 (in2 (by decide) (by decide)) (in1 (by decide)) (by decide) (by decide) hr (fun h=>absurd h (by decide))
 | 9,_,_,_,_=>exact .mk0 (in2 (by decide) (by decide)) (in1 (by decide)) (by decide) (by decide) hr (fun h=>absurd h (by decide))
 | 10,_,_,_,_=>exact .mk0 (in2 (by decide) (by decide)) (in1 (by decide)) (by decide) (by decide) hr (fun h=>absurd h (by decide))
 | 11,_,hb,_,_=>exact .mk0 (in2 (hb (Or.inr rfl)).2 (hb (Or.inr rfl)).2) (in1 (by decide)) (show 2≤1024 by decide) (by decide) hr (fun h=>absurd h (by decide))
 | 12,_,_,_,_=>exact .mk0 (in2 (by decide) (by decide)) (in1 (by decide)) (by decide) (by decide) hr (fun h=>absurd h (by decide))
 | 13,_,_,_,_=>exact .mk0 in0 in0 (by decide) (by decide) hr (fun h=>absurd h (by decide))
 | 14,_,_,_,_=>exact .mk0 (in1 (by decide)) in0 (by decide) (by decide) hr (fun h=>absurd h (by decide))
 | 15,_,_,_,_=>exact .mk0 (in1 (by decide)) in0 (by decide) (by decide) hr (fun h=>absurd h (by decide))
 | 16,_,_,_,_ =>
  refine .mk0 ?_ (in1 (gives_lt a)) ?_ (Nat.le_succ 1) hr (fun h=>absurd h (by decide))
  ·split
   ·exact in2 (by decide) (by decide)
   ·exact in1 (by decide)
  ·split<;>decide
 | 17,_,_,_,_=>exact .mk0 in0 in0 (by decide) (by decide) hr (fun h=>absurd h (by decide))
 | 18,_,_,_,hc=>exact .mk0 (in1 (hc rfl)) (in1 (hc rfl)) (show 1≤1024 by decide) (Nat.le_succ 1) hr (fun h=>absurd h (by decide))
 | 19,_,_,_,_=>exact .mk0 in0 in0 (by decide) (by decide) hr (fun h=>absurd h (by decide))
 | 20,_,_,_,_=>exact .mk1 in0 (by decide) hr (by decide)
 | 21,_,_,_,_=>exact .mk1 in0 (by decide) hr (by decide)
 | 22,_,_,_,_=>exact .mk1 (in1 (by decide)) (by decide) hr (by decide)
 | 23,_,_,h23,_=>exact .mk1 (fun k hk=>by rw [List.eq_of_mem_replicate hk]; decide) (by rw [List.length_replicate]; exact h23 rfl) hr (by decide)
 | 24,_,_,_,_=>exact .mk0 in0 in0 (by decide) (by decide) hr (fun _ h=>of_decide_eq_true h)
 | 25,_,_,_,_=>exact ⟨in0,in0,Nat.zero_le _,Nat.zero_le _,fun ho=>⟨r - 1,by have:0 < r:=of_decide_eq_true ho; show (r:Int)+-1=_; omega,by omega,fun h=>absurd h (by decide)⟩⟩
 | 26,_,_,_,_=>exact .mk0 (fun k hk=>by simp at hk; omega) (in2 (by decide) (by decide)) (by decide) (by decide) hr (fun h=>absurd h (by decide))
 | 27,_,_,_,_=>exact .mk0 (in1 (by decide)) in0 (by decide) (by decide) hr (fun h=>absurd h (by decide))
 | n+28,h,_,_,_=>omega
theorem rlooks_eq (cell:Nat→Nat) (R:Rk) (a op A B:Nat) (x:RSt) (hx:R.l.getD a rz=x) (h0:op≠0) (p q:List Nat) (m:Int) (ok:Bool) (hw:rword cell x.r A B op=(p,q,m,ok)) :
  rlooks cell R a op A B=if ok=true∧p.length≤x.ks.length then (if x.ks.take p.length=p then (if (q++x.ks.drop p.length).length+(if op=17 then 1 else 0)≤1024 then rgoes cell R a op A B (q++x.ks.drop p.length,(((x.r:Nat):Int)+m).toNat) else R.bad 201) else R.bad (if op=18 then 203 else 201)) else R.bad 201:=by
 unfold rlooks rstep
 rw [hx]
 have hw':rword cell x.s.2 A B op=(p,q,m,ok):=hw
 rw [if_neg h0,hw']
 by_cases h1:ok=true∧p.length≤x.ks.length
 ·have h1':ok=true∧p.length≤x.s.1.length:=h1
  simp only [if_pos h1,if_pos h1']
  by_cases h2:x.ks.take p.length=p
  ·have h2':x.s.1.take p.length=p:=h2
   simp only [if_pos h2,if_pos h2']
   by_cases h3:(q++x.ks.drop p.length).length+(if op=17 then 1 else 0)≤1024
   ·have h3':(q++x.s.1.drop p.length).length+(if op=17 then 1 else 0)≤1024:=h3
    rw [if_pos h3,if_pos h3']
    rfl
   ·have h3':¬ (q++x.s.1.drop p.length).length+(if op=17 then 1 else 0)≤1024:=h3
    rw [if_neg h3,if_neg h3']
  ·have h2':¬ x.s.1.take p.length=p:=h2
   simp only [if_neg h2,if_neg h2']
 ·have h1':¬ (ok=true∧p.length≤x.s.1.length):=h1
  simp only [if_neg h1,if_neg h1']
set_option maxHeartbeats 8000000 in
set_option maxRecDepth 10000 in
theorem rlooks_w (w0:World) (C:Cv) (cell:Nat→Nat) (hC:CodeOk C cell w0) (wg lb:Nat) (R:Rk) (hR:ROk R) (a op A B:Nat) (ha:a < C.l0.length) (hP:PartsR w0 (rd C.l0 (a:Int)) op A B) (x:RSt) (hx:R.l.getD a rz=x) (hx4:∀ k∈x.ks,k < 4) (w:World) (H:RH w0 C wg lb R w) (h0:op≠0) (hO:OpsOk C.l3.length op A B) (p q:List Nat) (m:Int) (ok:Bool) (hw:rword cell x.r A B op=(p,q,m,ok)) (hl:x.ks.length≤1024) (hr:x.r≤4) (pl:p.length≤1024) (ql:q.length≤2) (p4:∀ k∈p,k < 4) (q4:∀ k∈q,k < 4) (rr:ok=true→∃ r2:Nat,((x.r:Nat):Int)+m=(r2:Nat)∧r2≤8∧(op=24→0 < r2∧r2≤4)) :
  Calls Tryd.prog 23 #[.pointer (some ⟨wg,0,none⟩),.int .i64 (a:Nat)] w (rEnds w0 C wg lb w (rlooks cell R a op A B)):=by
 have HC:=Aside0.mk (RC.new H (xCells x))
 have HD:=Aside0.mk hC
 have HK:=Aside0.mk hR
 have HX:=Aside0.mk hx4
 have HPP:=Aside0.mk hP
 have hal:a < R.l.length:=by rw [H.ln]; exact ha
 have y4:w.cell? ⟨wg,4,none⟩=some (.slice (some ⟨lb,0,none⟩) C.l0.length C.l0.length):=H.cell 4
 have g0:w.cell? ⟨lb,a*4,none⟩=some (.string (str x.ks)):=by
  have h:=H.st a 0 (by decide) hal
  rw [hx] at h
  exact h
 have g1:w.cell? ⟨lb,a*4+1,none⟩=some (.int .i64 (x.r:Nat)):=by
  have h:=H.st a 1 (by decide) hal
  rw [hx] at h
  exact h
 have g2:w.cell? ⟨lb,a*4+2,none⟩=some (.bool x.known):=by
  have h:=H.st a 2 (by decide) hal
  rw [hx] at h
  exact h
 have g3:w.cell? ⟨lb,a*4+3,none⟩=some (.bool x.done):=by
  have h:=H.st a 3 (by decide) hal
  rw [hx] at h
  exact h
 obtain ⟨a0,e0,hw0⟩:=Kd.at_int (Kd.C_below hC.reads.r0 HC.out.h.b) (a:Int) (Int.natCast_nonneg a) (by omega)
 have ka:(w.alloc (.cells (xCells x) 61)).cell? ⟨wg,0,none⟩=some (.slice (some a0) C.l0.length C.c0):=by rw [← e0]; exact HC.out.h.cell 0
 have kb:(w.alloc (.cells (xCells x) 61)).cell? (a0.add a)=some (.int .u64 (rd C.l0 (a:Int))):=hw0
 have hlt:=ha
 have hsz:=str_size x.ks
 clear hC hR hx4 hP hal H hw0 e0
 have n0:(((op:Nat):Int) == 0)=false:=by simp; omega
 have HWF:=Aside0.mk (show D.isthmusref20_Word.f 1110 C.l0 C.l1 C.l2 C.l3 (str x.ks) (x.r:Nat) x.known x.done (op:Nat) (A:Nat) (B:Nat)=some (str p,str q,m,ok) by
  rw [word_f cell C.l0 C.l1 C.l2 C.l3 (str x.ks) x.known x.done x.r A B op 1110 h0 hO (fun h=>⟨HD.out.val A (hO.2.2.1 (Or.inr h)),(HD.out.kind A (hO.2.2.1 (Or.inr h))).2⟩) (Nat.le_refl _)]
  unfold wordS
  rw [hw])
 have hpz:=str_size p
 have hqz:=str_size q
 have HQ:=Aside0.mk (rlooks_eq cell R a op A B x hx h0 p q m ok hw)
 have HOO:=Aside0.mk hO
 have HH:=Aside0.mk (And.intro hl (And.intro pl (And.intro ql hr)))
 have HP4:=Aside0.mk p4
 have HQ4:=Aside0.mk q4
 have HRR:=Aside0.mk rr
 clear h0 hO hw hl pl ql p4 q4 rr hx hr
 go_enter Tryd.func23,Tryd.ntmps23
 go_wp2_with (first
  | (go_at_call 39; (refine (HPP.out _ HC.out.h.b).mono ?_); rintro e w2 ⟨rfl,hb⟩; have HC:=Aside0.mk (HC.out.call hb); have b0:w2.cell? ⟨w.heap.size,0,none⟩=some (.string (str x.ks)):=blk_cell HC.out.x 0; have b1:w2.cell? ⟨w.heap.size,1,none⟩=some (.int .i64 (x.r:Nat)):=blk_cell HC.out.x 1; have b2:w2.cell? ⟨w.heap.size,2,none⟩=some (.bool x.known):=blk_cell HC.out.x 2; have b3:w2.cell? ⟨w.heap.size,3,none⟩=some (.bool x.done):=blk_cell HC.out.x 3; clear hb))
 clear b0 b1 b2 b3 y4 g0 g1 g2 g3 ka kb
 refine start_ (n:=18) (S:=fun w'=>w'.cell? ⟨wg,0,none⟩=some (.slice C.A0 C.l0.length C.c0)∧w'.cell? ⟨wg,1,none⟩=some (.slice C.A1 C.l1.length C.c1)∧w'.cell? ⟨wg,2,none⟩=some (.slice C.A2 C.l2.length C.c2)∧w'.cell? ⟨wg,3,none⟩=some (.slice C.A3 C.l3.length C.c3)∧w'.cell? ⟨w.heap.size,0,none⟩=some (.string (str x.ks))∧w'.cell? ⟨w.heap.size,1,none⟩=some (.int .i64 (x.r:Nat))∧w'.cell? ⟨w.heap.size,2,none⟩=some (.bool x.known)∧w'.cell? ⟨w.heap.size,3,none⟩=some (.bool x.done)) (ds:=[]) #[false,false,false,false,false,false,false,false,false,false,false,false,false,false,false,false,false,false] (by kernel_rfl) rfl rfl ⟨(HC.out.h.cell 0),(HC.out.h.cell 1),(HC.out.h.cell 2),(HC.out.h.cell 3),(blk_cell HC.out.x 0),(blk_cell HC.out.x 1),(blk_cell HC.out.x 2),(blk_cell HC.out.x 3)⟩ (fun hHeld=>?_)
 have HC:=Aside0.mk HC.out.drew
 generalize World.drew _=u4 at HC hHeld ⊢
 refine pure_ (i:=0) (N:=some 41) (v:=?_) (a':=?_) (bl_ 18 1) rfl rfl (by kernel_rfl) (fun _ _ _ h=>h) (Or.inl ⟨by rfl,?_⟩) ?_ ?_
 rotate_left
 ·intro w'
  go_simp
  with_reducible rfl
 rotate_left
 ·simp only [Act.put,zA_,zB_,zC_,i64_w]
  rfl
 refine pure_ (i:=1) (N:=some 42) (v:=?_) (a':=?_) (bl_ 18 3) rfl rfl (by kernel_rfl) (fun _ _ _ h=>h) (Or.inl ⟨by rfl,?_⟩) ?_ ?_
 rotate_left
 ·intro w'
  go_simp
  with_reducible rfl
 rotate_left
 ·simp only [Act.put,zA_,zB_,zC_,i64_w]
  rfl
 refine pure_ (i:=2) (N:=some 43) (v:=?_) (a':=?_) (bl_ 18 7) rfl rfl (by kernel_rfl) (fun _ _ _ h=>h) (Or.inl ⟨by rfl,?_⟩) ?_ ?_
 rotate_left
 ·intro w'
  go_simp
  with_reducible rfl
 rotate_left
 ·simp only [Act.put,zA_,zB_,zC_,i64_w]
  rfl
 refine pure_ (i:=5) (N:=some 46) (v:=?_) (a':=?_) (bl_ 18 39) rfl rfl (by kernel_rfl) (fun _ _ _ h=>h) (Or.inl ⟨by rfl,?_⟩) ?_ ?_
 rotate_left
 ·intro w'
  go_simp
  with_reducible rfl
 rotate_left
 ·simp only [Act.put,zA_,zB_,zC_,i64_w]
  rfl
 refine pure_ (i:=6) (N:=some 47) (v:=?_) (a':=?_) (bl_ 18 103) rfl rfl (by kernel_rfl) (fun _ _ _ h=>h) (Or.inl ⟨by rfl,?_⟩) ?_ ?_
 rotate_left
 ·intro w'
  go_simp
  with_reducible rfl
 rotate_left
 ·simp only [Act.put,zA_,zB_,zC_,i64_w]
  rfl
 refine pure_ (i:=7) (N:=some 48) (v:=?_) (a':=?_) (bl_ 18 231) rfl rfl (by kernel_rfl) (fun _ _ _ h=>h) (Or.inl ⟨by rfl,?_⟩) ?_ ?_
 rotate_left
 ·intro w'
  go_simp
  with_reducible rfl
 rotate_left
 ·simp only [Act.put,zA_,zB_,zC_,i64_w]
  rfl
 refine take_ (i:=3) (N:=some 44) (v:=?_) (a':=?_) (bl_ 18 239) rfl rfl (by kernel_rfl) (fun _ _ _ h=>h) (Or.inl ⟨by rfl,?_⟩) hHeld ?_ ?_
 rotate_left
 ·rintro w' ⟨s0,s1,s2,s3,s4,s5,s6,s7⟩
  go_simp
  with_reducible rfl
 rotate_left
 ·simp only [Act.put,zA_,zB_,zC_,i64_w]
  rfl
 refine take_ (i:=4) (N:=some 45) (v:=?_) (a':=?_) (bl_ 18 255) rfl rfl (by kernel_rfl) (fun _ _ _ h=>h) (Or.inl ⟨by rfl,?_⟩) hHeld ?_ ?_
 rotate_left
 ·rintro w' ⟨s0,s1,s2,s3,s4,s5,s6,s7⟩
  go_simp
  with_reducible rfl
 rotate_left
 ·simp only [Act.put,zA_,zB_,zC_,i64_w]
  rfl
 refine one_ (i:=8) (N:=some 49) (bl_ 18 511) rfl rfl (by kernel_rfl) (by decide) (fun K hK=>?_)
 refine goes_ Tryd.func41 (by kernel_rfl) rfl #[.agg #[.slice C.A0 C.l0.length C.c0,.slice C.A1 C.l1.length C.c1,.slice C.A2 C.l2.length C.c2,.slice C.A3 C.l3.length C.c3],.agg #[.string (str x.ks),.int .i64 (x.r:Nat),.bool x.known,.bool x.done],.int .i64 (op:Nat),.int .i64 (A:Nat),.int .i64 (B:Nat)] (by rfl) rfl rfl (by (try simp only [List.map_toArray,List.map_cons,List.map_nil]); first|done|rfl) ?_
 refine (D.isthmusref20_Word.calls 1110 C.A0 C.c0 C.l0 C.A1 C.c1 C.l1 C.A2 C.c2 C.l2 C.A3 C.c3 C.l3 (str x.ks) (x.r:Nat) x.known x.done (op:Nat) (A:Nat) (B:Nat) (str p) (str q) m ok _ (Kd.C_below HD.out.reads.r0 HC.out.h.b) HD.out.reads.h0 (Kd.C_below HD.out.reads.r1 HC.out.h.b) HD.out.reads.h1 (Kd.C_below HD.out.reads.r2 HC.out.h.b) HD.out.reads.h2 (Kd.C_below HD.out.reads.r3 HC.out.h.b) HD.out.reads.h3 HWF.out).mono ?_
 rintro e w5 ⟨rfl,hb5⟩
 refine ⟨_,rfl,?_⟩
 have HC:=Aside0.mk (HC.out.call hb5)
 refine hK.out _ _ ⟨(below_cell hb5 (hHeld.1)),(below_cell hb5 (hHeld.2.1)),(below_cell hb5 (hHeld.2.2.1)),(below_cell hb5 (hHeld.2.2.2.1)),(below_cell hb5 (hHeld.2.2.2.2.1)),(below_cell hb5 (hHeld.2.2.2.2.2.1)),(below_cell hb5 (hHeld.2.2.2.2.2.2.1)),(below_cell hb5 (hHeld.2.2.2.2.2.2.2))⟩ (fun hHeld=>?_)
 clear hK K
 refine norm_ (a':=?_) ?_ ?_
 rotate_left
 ·show Act.put _ (some 49) _=_
  simp only [Act.put,zA_,zB_,zC_,i64_w]
  rfl
 refine pure_ (i:=9) (N:=some 40) (v:=?_) (a':=?_) (bl_ 18 1023) rfl rfl (by kernel_rfl) (fun _ _ _ h=>h) (Or.inl ⟨by rfl,?_⟩) ?_ ?_
 rotate_left
 ·intro w'
  go_simp
  with_reducible rfl
 rotate_left
 ·simp only [Act.put,zA_,zB_,zC_,i64_w]
  rfl
 refine pure_ (i:=10) (N:=some 50) (v:=?_) (a':=?_) (bl_ 18 2047) rfl rfl (by kernel_rfl) (fun _ _ _ h=>h) (Or.inl ⟨by rfl,?_⟩) ?_ ?_
 rotate_left
 ·intro w'
  go_simp
  with_reducible rfl
 rotate_left
 ·simp only [Act.put,zA_,zB_,zC_,i64_w]
  rfl
 refine pure_ (i:=11) (N:=some 51) (v:=?_) (a':=?_) (bl_ 18 4095) rfl rfl (by kernel_rfl) (fun _ _ _ h=>h) (Or.inl ⟨by rfl,?_⟩) ?_ ?_
 rotate_left
 ·intro w'
  go_simp
  with_reducible rfl
 rotate_left
 ·simp only [Act.put,zA_,zB_,zC_,i64_w]
  rfl
 refine pure_ (i:=12) (N:=some 52) (v:=?_) (a':=?_) (bl_ 18 8191) rfl rfl (by kernel_rfl) (fun _ _ _ h=>h) (Or.inl ⟨by rfl,?_⟩) ?_ ?_
 rotate_left
 ·intro w'
  go_simp
  with_reducible rfl
 rotate_left
 ·simp only [Act.put,zA_,zB_,zC_,i64_w]
  rfl
 refine pure_ (i:=13) (N:=some 53) (v:=?_) (a':=?_) (bl_ 18 16383) rfl rfl (by kernel_rfl) (fun _ _ _ h=>h) (Or.inl ⟨by rfl,?_⟩) ?_ ?_
 rotate_left
 ·intro w'
  go_simp
  with_reducible rfl
 rotate_left
 ·simp only [Act.put,zA_,zB_,zC_,i64_w]
  rfl
 refine pure_ (i:=14) (N:=some 8) (v:=?_) (a':=?_) (bl_ 18 32767) rfl rfl (by kernel_rfl) (fun _ _ _ h=>h) (Or.inl ⟨by rfl,?_⟩) ?_ ?_
 rotate_left
 ·intro w'
  go_simp
  with_reducible rfl
 rotate_left
 ·simp only [Act.put,zA_,zB_,zC_,i64_w]
  rfl
 refine pure_ (i:=15) (N:=some 9) (v:=?_) (a':=?_) (bl_ 18 65535) rfl rfl (by kernel_rfl) (fun _ _ _ h=>h) (Or.inl ⟨by rfl,?_⟩) ?_ ?_
 rotate_left
 ·intro w'
  go_simp
  with_reducible rfl
 rotate_left
 ·simp only [Act.put,zA_,zB_,zC_,i64_w]
  rfl
 refine pure_ (i:=16) (N:=some 10) (v:=?_) (a':=?_) (bl_ 18 131071) rfl rfl (by kernel_rfl) (fun _ _ _ h=>h) (Or.inl ⟨by rfl,?_⟩) ?_ ?_
 rotate_left
 ·intro w'
  go_simp
  with_reducible rfl
 rotate_left
 ·simp only [Act.put,zA_,zB_,zC_,i64_w]
  rfl
 refine pure_ (i:=17) (N:=some 11) (v:=?_) (a':=?_) (bl_ 18 262143) rfl rfl (by kernel_rfl) (fun _ _ _ h=>h) (Or.inl ⟨by rfl,?_⟩) ?_ ?_
 rotate_left
 ·intro w'
  go_simp
  with_reducible rfl
 rotate_left
 ·simp only [Act.put,zA_,zB_,zC_,i64_w]
  rfl
 refine done_ (by kernel_rfl) ?_
 have b0:w5.cell? ⟨w.heap.size,0,none⟩=some (.string (str x.ks)):=blk_cell HC.out.x 0
 have y8:w5.cell? ⟨wg,8,none⟩=some (.int .i64 R.e):=HC.out.h.cell 8
 have f8:=blk_frozen HC.out.h.wk 8
 clear hHeld
 cases ok with
 | false =>
  have e5:wrap64 (((x.ks.length:Nat):Int) - ((p.length:Nat):Int))=((x.ks.length:Nat):Int) - ((p.length:Nat):Int):=PackBits.w64_id (by have:=HH.out; omega) (by have:=HH.out; omega)
  have HE:=Aside0.mk ((show rlooks cell R a op A B=R.bad 201 from by rw [HQ.out]; rw [if_neg (by simp)]))
  go_wp2_with fail
  have HC:=Aside0.mk (HC.out.set (R':=R.bad 201) 8 (.int .i64 201) rfl rfl)
  go_end0
  exact ⟨rfl,HC.out.k,HE.out ▸ HC.out.h⟩
 | true =>
  by_cases hle:p.length≤x.ks.length
  case neg =>
   have e5:wrap64 (((x.ks.length:Nat):Int) - ((p.length:Nat):Int))=((x.ks.length:Nat):Int) - ((p.length:Nat):Int):=PackBits.w64_id (by have:=HH.out; omega) (by have:=HH.out; omega)
   have n5:decide (((x.ks.length:Nat):Int) - ((p.length:Nat):Int) < 0)=true:=decide_eq_true (by clear e5; omega)
   have n5':((x.ks.length:Nat):Int) - ((p.length:Nat):Int) < 0:=by clear e5; omega
   have HLE:=Aside0.mk hle
   clear hle
   have HE:=Aside0.mk ((show rlooks cell R a op A B=R.bad 201 from by rw [HQ.out]; rw [if_neg (fun h=>HLE.out h.2)]))
   go_wp2_with fail
   have HC:=Aside0.mk (HC.out.set (R':=R.bad 201) 8 (.int .i64 201) rfl rfl)
   go_end0
   exact ⟨rfl,HC.out.k,HE.out ▸ HC.out.h⟩
  have HLE:=Aside0.mk hle
  have HQ2:=Aside0.mk (HQ.out.trans (if_pos (show true=true∧p.length≤x.ks.length from ⟨rfl,hle⟩)))
  clear HQ
  have hl:=HH.out.1
  obtain ⟨j,hj⟩:∃ j,j=x.ks.length - p.length:=⟨_,rfl⟩
  have e5:wrap64 (((x.ks.length:Nat):Int) - ((p.length:Nat):Int))=((j:Nat):Int):=by rw [PackBits.w64_id (by omega) (by omega)]; omega
  have hcut:(str x.ks).extract j x.ks.length=str (x.ks.take p.length):=by rw [hj]; exact str_take HX.out p.length hle
  have hcut0:(str x.ks).extract 0 j=str (x.ks.drop p.length):=by rw [hj]; exact str_drop HX.out p.length hle
  have hjl:j≤x.ks.length:=by omega
  have n5:¬ ((j:Nat):Int) < 0:=by omega
  by_cases htk:x.ks.take p.length=p
  case neg =>
   have n6:=bne_str (fun k hk=>HX.out k (List.mem_of_mem_take hk)) HP4.out htk
   have n6':((str (x.ks.take p.length)).toList == (str p).toList)=false:=by simpa using n6
   have HTK:=Aside0.mk htk
   clear hle hl hj htk
   by_cases h18:op=18
   ·have n18:(((op:Nat):Int) == 18)=true:=by rw [h18]; rfl
    have HE:=Aside0.mk (show rlooks cell R a op A B=R.bad 203 from by rw [HQ2.out,if_neg HTK.out,if_pos h18])
    have HC9:=Aside0.mk (HC.out.set (R':=R.bad 201) 8 (.int .i64 201) rfl rfl)
    have y9:=HC9.out.h.cell 8
    have f9:=blk_frozen HC9.out.h.wk 8
    clear h18
    go_wp2_with fail
    have HC:=Aside0.mk (HC9.out.set (R':=R.bad 203) 8 (.int .i64 203) rfl rfl)
    go_end0
    exact ⟨rfl,HC.out.k,HE.out ▸ HC.out.h⟩
   ·have n18:(((op:Nat):Int) == 18)=false:=by simp; omega
    have H18:=Aside0.mk h18
    clear h18
    have HE:=Aside0.mk ((show rlooks cell R a op A B=R.bad 201 from by rw [HQ2.out]; rw [if_neg HTK.out,if_neg H18.out]))
    go_wp2_with fail
    have HC:=Aside0.mk (HC.out.set (R':=R.bad 201) 8 (.int .i64 201) rfl rfl)
    go_end0
    exact ⟨rfl,HC.out.k,HE.out ▸ HC.out.h⟩
  have hq4:=HQ4.out
  have hqz2:=HH.out.2.2.1
  obtain ⟨r2,hr2,hr4,h24⟩:=HRR.out rfl
  have hqr:q.length≤1024:=by omega
  obtain ⟨t1,ht1⟩:∃ t1,t1=q++x.ks.drop p.length:=⟨_,rfl⟩
  have hst:str (x.ks.drop p.length)++str q=str t1:=by rw [ht1]; exact app2 _ _ (fun k hk=>HX.out k (List.mem_of_mem_drop hk)) hq4
  have zz:¬ 9223372036854775807 < (str (x.ks.drop p.length)).size+q.length:=by clear e5; rw [str_size,List.length_drop]; omega
  have ht1z:(str t1).size=t1.length:=str_size t1
  have HT4:=Aside0.mk (show ∀ k∈t1,k < 4 by
   rw [ht1]
   intro k hk
   rcases List.mem_append.1 hk with h|h
   ·exact hq4 k h
   ·exact HX.out k (List.mem_of_mem_drop h))
  have hdl:(str (x.ks.drop p.length)).size=(x.ks.drop p.length).length:=str_size _
  have e6:wrap64 (((x.r:Nat):Int)+m)=((r2:Nat):Int):=by rw [hr2]; exact PackBits.w64_id (by clear e5; omega) (by clear e5; omega)
  have n6:((str (x.ks.take p.length)).toList != (str p).toList)=false:=by rw [htk]; simp
  have n6':((str (x.ks.take p.length)).toList == (str p).toList)=true:=by rw [htk]; simp
  have htl:t1.length=q.length+(x.ks.length - p.length):=by rw [ht1]; simp
  obtain ⟨t2,ht2⟩:∃ t2,t2=t1.length+1:=⟨_,rfl⟩
  have e7:wrap64 (((t1.length:Nat):Int)+1)=((t2:Nat):Int):=by rw [PackBits.w64_id (by clear e5 e6; omega) (by clear e5 e6; omega)]; clear e5 e6; omega
  have HTK:=Aside0.mk htk
  have HT1:=Aside0.mk ht1.symm
  have HTL:=Aside0.mk (show (q++x.ks.drop p.length).length=q.length+(x.ks.length - p.length) by rw [List.length_append,List.length_drop])
  have HTL1:=Aside0.mk htl
  have HT2:=Aside0.mk ht2
  have HRN:=Aside0.mk (show (((x.r:Nat):Int)+m).toNat=r2 by rw [hr2]; rfl)
  have H24:=Aside0.mk h24
  clear hle hl hj htk ht1 htl ht2 hr2 hr4 h24 hq4 hqz2 hqr hdl
  go_wp2_with fail
  clear b0 y8 f8
  refine start_ (n:=13) (S:=fun w'=>w'.cell? ⟨w.heap.size,0,none⟩=some (.string (str x.ks))∧w'.cell? ⟨w.heap.size,1,none⟩=some (.int .i64 (x.r:Nat))) (ds:=[12]) #[false,false,false,false,false,false,false,false,false,false,false,false,false] (by kernel_rfl) rfl rfl ⟨(blk_cell HC.out.x 0),(blk_cell HC.out.x 1)⟩ (fun hHeld=>?_)
  have HC:=Aside0.mk HC.out.drew
  generalize World.drew _=u6 at HC hHeld ⊢
  refine pure_ (i:=0) (N:=some 83) (v:=?_) (a':=?_) (bl_ 13 1) rfl rfl (by kernel_rfl) (fun _ _ _ h=>h) (Or.inl ⟨by rfl,?_⟩) ?_ ?_
  rotate_left
  ·intro w'
   go_simp
   with_reducible rfl
  rotate_left
  ·simp only [Act.put,zA_,zB_,zC_,i64_w]
   rfl
  refine pure_ (i:=2) (N:=some 85) (v:=?_) (a':=?_) (bl_ 13 5) rfl rfl (by kernel_rfl) (fun _ _ _ h=>h) (Or.inl ⟨by rfl,?_⟩) ?_ ?_
  rotate_left
  ·intro w'
   go_simp
   with_reducible rfl
  rotate_left
  ·simp only [Act.put,zA_,zB_,zC_,i64_w]
   rfl
  refine pure_ (i:=4) (N:=some 87) (v:=?_) (a':=?_) (bl_ 13 21) rfl rfl (by kernel_rfl) (fun _ _ _ h=>h) (Or.inl ⟨by rfl,?_⟩) ?_ ?_
  rotate_left
  ·intro w'
   go_simp
   with_reducible rfl
  rotate_left
  ·simp only [Act.put,zA_,zB_,zC_,i64_w]
   rfl
  refine pure_ (i:=6) (N:=some 89) (v:=?_) (a':=?_) (bl_ 13 85) rfl rfl (by kernel_rfl) (fun _ _ _ h=>h) (Or.inl ⟨by rfl,?_⟩) ?_ ?_
  rotate_left
  ·intro w'
   go_simp
   with_reducible rfl
  rotate_left
  ·simp only [Act.put,zA_,zB_,zC_,i64_w]
   rfl
  refine pure_ (i:=8) (N:=some 91) (v:=?_) (a':=?_) (bl_ 13 341) rfl rfl (by kernel_rfl) (fun _ _ _ h=>h) (Or.inl ⟨by rfl,?_⟩) ?_ ?_
  rotate_left
  ·intro w'
   go_simp
   with_reducible rfl
  rotate_left
  ·simp only [Act.put,zA_,zB_,zC_,i64_w]
   rfl
  refine take_ (i:=1) (N:=some 84) (v:=?_) (a':=?_) (bl_ 13 343) rfl rfl (by kernel_rfl) (fun _ _ _ h=>h) (Or.inl ⟨by rfl,?_⟩) hHeld ?_ ?_
  rotate_left
  ·rintro w' ⟨s0,s1⟩
   go_simp
   with_reducible rfl
  rotate_left
  ·simp only [Act.put,zA_,zB_,zC_,i64_w]
   rfl
  refine pure_ (i:=3) (N:=some 86) (v:=?_) (a':=?_) (bl_ 13 351) rfl rfl (by kernel_rfl) (fun _ _ _ h=>h) (Or.inl ⟨by rfl,?_⟩) ?_ ?_
  rotate_left
  ·intro w'
   go_simp
   with_reducible rfl
  rotate_left
  ·simp only [Act.put,zA_,zB_,zC_,i64_w]
   rfl
  refine pure_ (i:=5) (N:=some 88) (v:=?_) (a':=?_) (bl_ 13 383) rfl rfl (by kernel_rfl) (fun _ _ _ h=>h) (Or.inl ⟨by rfl,?_⟩) ?_ ?_
  rotate_left
  ·intro w'
   go_simp
   with_reducible rfl
  rotate_left
  ·simp only [Act.put,zA_,zB_,zC_,i64_w]
   rfl
  refine take_ (i:=7) (N:=some 90) (v:=?_) (a':=?_) (bl_ 13 511) rfl rfl (by kernel_rfl) (fun _ _ _ h=>h) (Or.inl ⟨by rfl,?_⟩) hHeld ?_ ?_
  rotate_left
  ·rintro w' ⟨s0,s1⟩
   go_simp
   with_reducible rfl
  rotate_left
  ·simp only [Act.put,zA_,zB_,zC_,i64_w]
   rfl
  refine pure_ (i:=9) (N:=some 92) (v:=?_) (a':=?_) (bl_ 13 1023) rfl rfl (by kernel_rfl) (fun _ _ _ h=>h) (Or.inl ⟨by rfl,?_⟩) ?_ ?_
  rotate_left
  ·intro w'
   go_simp
   with_reducible rfl
  rotate_left
  ·simp only [Act.put,zA_,zB_,zC_,i64_w]
   rfl
  refine pure_ (i:=10) (N:=some 93) (v:=?_) (a':=?_) (bl_ 13 2047) rfl rfl (by kernel_rfl) (fun _ _ _ h=>h) (Or.inl ⟨by rfl,?_⟩) ?_ ?_
  rotate_left
  ·intro w'
   go_simp
   with_reducible rfl
  rotate_left
  ·simp only [Act.put,zA_,zB_,zC_,i64_w]
   rfl
  refine one_ (i:=11) (N:=some 13) (bl_ 13 4095) rfl rfl (by kernel_rfl) (by decide) (fun K hK=>?_)
  refine value_ (w1:=(u6.alloc (.cells #[.string { data:=#[] },.int .i64 0,.bool false,.bool false] 61))) (v:=.pointer (some ⟨u6.heap.size,0,none⟩)) (by rfl) rfl (by go_simp) ?_
  have hg:=heap_alloc_new u6 (.cells #[.string { data:=#[] },.int .i64 0,.bool false,.bool false] 61)
  have gg0:(u6.alloc (.cells #[.string { data:=#[] },.int .i64 0,.bool false,.bool false] 61)).cell? ⟨u6.heap.size,0,none⟩=some (.string { data:=#[] }):=blk_cell hg 0
  have gg1:(u6.alloc (.cells #[.string { data:=#[] },.int .i64 0,.bool false,.bool false] 61)).cell? ⟨u6.heap.size,1,none⟩=some (.int .i64 0):=blk_cell hg 1
  have gg2:(u6.alloc (.cells #[.string { data:=#[] },.int .i64 0,.bool false,.bool false] 61)).cell? ⟨u6.heap.size,2,none⟩=some (.bool false):=blk_cell hg 2
  have gg3:(u6.alloc (.cells #[.string { data:=#[] },.int .i64 0,.bool false,.bool false] 61)).cell? ⟨u6.heap.size,3,none⟩=some (.bool false):=blk_cell hg 3
  have ee0:=blk_frozen hg 0
  have ee1:=blk_frozen hg 1
  have ee2:=blk_frozen hg 2
  have ee3:=blk_frozen hg 3
  have hK9:Below u6.heap.size u6 (u6.alloc (.cells #[.string { data:=#[] },.int .i64 0,.bool false,.bool false] 61)):=below_alloc (Below.refl _ _) _
  refine hK.out _ _ ⟨(pw_cell_below hK9 hHeld.1),(pw_cell_below hK9 hHeld.2)⟩ (fun hHeld=>?_)
  clear hK K
  refine norm_ (a':=?_) ?_ ?_
  rotate_left
  ·show Act.put _ (some 13) _=_
   simp only [Act.put,zA_,zB_,zC_,i64_w]
   rfl
  refine last_ (i:=12) (N:=none) (bl_ 13 8191) rfl rfl (by kernel_rfl) (by decide) (fun K hK=>?_)
  refine skip_ (w1:=(((((u6.alloc (.cells #[.string { data:=#[] },.int .i64 0,.bool false,.bool false] 61)).setCell ⟨u6.heap.size,0,none⟩ (.string (str t1))).setCell ⟨u6.heap.size,1,none⟩ (.int .i64 (r2:Nat))).setCell ⟨u6.heap.size,2,none⟩ (.bool false)).setCell ⟨u6.heap.size,3,none⟩ (.bool false))) (by rfl) rfl (by go_simp) ?_
  refine hK.out _ _ ?_
  clear hK K
  refine done_ (by kernel_rfl) ?_
  have hg4:=blk_put (blk_put (blk_put (blk_put hg 0 (.string (str t1)) rfl) 1 (.int .i64 (r2:Nat)) rfl) 2 (.bool false) rfl) 3 (.bool false) rfl
  have hbw:Below u6.heap.size u6 (((((u6.alloc (.cells #[.string { data:=#[] },.int .i64 0,.bool false,.bool false] 61)).setCell ⟨u6.heap.size,0,none⟩ (.string (str t1))).setCell ⟨u6.heap.size,1,none⟩ (.int .i64 (r2:Nat))).setCell ⟨u6.heap.size,2,none⟩ (.bool false)).setCell ⟨u6.heap.size,3,none⟩ (.bool false)):=((((hK9.setCell (p:=⟨u6.heap.size,0,none⟩) (Nat.le_refl _) _).setCell (p:=⟨u6.heap.size,1,none⟩) (Nat.le_refl _) _).setCell (p:=⟨u6.heap.size,2,none⟩) (Nat.le_refl _) _).setCell (p:=⟨u6.heap.size,3,none⟩) (Nat.le_refl _) _)
  have HC:=Aside0.mk (HC.out.call hbw)
  obtain ⟨nb,hnb⟩:∃ nb,nb=u6.heap.size:=⟨_,rfl⟩
  obtain ⟨w6,hw6⟩:∃ w6,w6=(((((u6.alloc (.cells #[.string { data:=#[] },.int .i64 0,.bool false,.bool false] 61)).setCell ⟨u6.heap.size,0,none⟩ (.string (str t1))).setCell ⟨u6.heap.size,1,none⟩ (.int .i64 (r2:Nat))).setCell ⟨u6.heap.size,2,none⟩ (.bool false)).setCell ⟨u6.heap.size,3,none⟩ (.bool false)):=⟨_,rfl⟩
  rw [← hw6] at HC hg4 ⊢
  rw [← hnb] at hg4 ⊢
  have c0:=blk_cell hg4 0
  have c1:=blk_cell hg4 1
  have c2:=blk_cell hg4 2
  have c3:=blk_cell hg4 3
  have y8:w6.cell? ⟨wg,8,none⟩=some (.int .i64 R.e):=HC.out.h.cell 8
  have f8:=blk_frozen HC.out.h.wk 8
  clear hHeld hg gg0 gg1 gg2 gg3 ee0 ee1 ee2 ee3 hK9 hg4 hbw hnb hw6
  by_cases h17:op=17
  ·have H17_:=Aside0.mk h17
   by_cases hlong:q.length+(x.ks.length - p.length)+1≤1024
   ·have HLO:=Aside0.mk hlong
    have htl:=HTL1.out
    have ht2:=HT2.out
    have n17:(((op:Nat):Int) == 17)=true:=by simp; omega
    have n7:decide ((1024:Int) < ((t2:Nat):Int))=false:=decide_eq_false (by clear e5 e6 e7; omega)
    have n7':¬ 1024 < t2:=by clear e5 e6 e7; omega
    have H17:=Aside0.mk (show op=17→A < C.l3.length∧(t1,r2).1.length+1≤1024 from fun h=>⟨HOO.out.2.2.1 (Or.inl h),by show t1.length+1≤1024; have:=HLO.out; have:=HTL1.out; have h17_:=H17_.out; clear e5 e6 e7; omega⟩)
    clear htl ht2 hlong h17
    have HE:=Aside0.mk (show rlooks cell R a op A B=rgoes cell R a op A B (t1,r2) from by rw [HQ2.out,if_pos HTK.out,if_pos (by rw [HTL.out,if_pos H17_.out]; have:=HLO.out; omega),HT1.out,HRN.out])
    go_wp2_with (first
     | (go_at_call 42; (refine (rgoes_calls w0 C cell HD.out wg lb R HK.out (t1,r2) HT4.out a op A B hlt _ HC.out.h H17.out H24.out).mono ?_); rintro e w8 ⟨rfl,hk,hh⟩; have HC:=Aside0.mk (HC.out.after hk hh); clear hk hh))
    go_end0
    exact ⟨rfl,HC.out.k,HE.out ▸ HC.out.h⟩
   ·have HLO:=Aside0.mk hlong
    have htl:=HTL1.out
    have ht2:=HT2.out
    have n17:(((op:Nat):Int) == 17)=true:=by simp; omega
    have n7:decide ((1024:Int) < ((t2:Nat):Int))=true:=decide_eq_true (by clear e5 e6 e7; omega)
    have n7':1024 < t2:=by clear e5 e6 e7; omega
    clear htl ht2 hlong h17
    have HE:=Aside0.mk ((show rlooks cell R a op A B=R.bad 201 from by rw [HQ2.out]; rw [if_pos HTK.out,if_neg (by rw [HTL.out,if_pos H17_.out]; have:=HLO.out; omega)]))
    go_wp2_with fail
    have HC:=Aside0.mk (HC.out.set (R':=R.bad 201) 8 (.int .i64 201) rfl rfl)
    go_end0
    exact ⟨rfl,HC.out.k,HE.out ▸ HC.out.h⟩
  ·have H17_:=Aside0.mk h17
   by_cases hlong:q.length+(x.ks.length - p.length)≤1024
   ·have HLO:=Aside0.mk hlong
    have htl:=HTL1.out
    have ht2:=HT2.out
    have n17:(((op:Nat):Int) == 17)=false:=by simp; omega
    have n7:decide ((1024:Int) < ((t1.length:Nat):Int))=false:=decide_eq_false (by clear e5 e6 e7; omega)
    have n7':¬ 1024 < t1.length:=by clear e5 e6 e7; omega
    have H17:=Aside0.mk (show op=17→A < C.l3.length∧(t1,r2).1.length+1≤1024 from fun h=>⟨HOO.out.2.2.1 (Or.inl h),by show t1.length+1≤1024; have:=HLO.out; have:=HTL1.out; have h17_:=H17_.out; clear e5 e6 e7; omega⟩)
    clear htl ht2 hlong h17
    have HE:=Aside0.mk (show rlooks cell R a op A B=rgoes cell R a op A B (t1,r2) from by rw [HQ2.out,if_pos HTK.out,if_pos (by rw [HTL.out,if_neg H17_.out]; have:=HLO.out; omega),HT1.out,HRN.out])
    go_wp2_with (first
     | (go_at_call 42; (refine (rgoes_calls w0 C cell HD.out wg lb R HK.out (t1,r2) HT4.out a op A B hlt _ HC.out.h H17.out H24.out).mono ?_); rintro e w8 ⟨rfl,hk,hh⟩; have HC:=Aside0.mk (HC.out.after hk hh); clear hk hh))
    go_end0
    exact ⟨rfl,HC.out.k,HE.out ▸ HC.out.h⟩
   ·have HLO:=Aside0.mk hlong
    have htl:=HTL1.out
    have ht2:=HT2.out
    have n17:(((op:Nat):Int) == 17)=false:=by simp; omega
    have n7:decide ((1024:Int) < ((t1.length:Nat):Int))=true:=decide_eq_true (by clear e5 e6 e7; omega)
    have n7':1024 < t1.length:=by clear e5 e6 e7; omega
    clear htl ht2 hlong h17
    have HE:=Aside0.mk ((show rlooks cell R a op A B=R.bad 201 from by rw [HQ2.out]; rw [if_pos HTK.out,if_neg (by rw [HTL.out,if_neg H17_.out]; have:=HLO.out; omega)]))
    go_wp2_with fail
    have HC:=Aside0.mk (HC.out.set (R':=R.bad 201) 8 (.int .i64 201) rfl rfl)
    go_end0
    exact ⟨rfl,HC.out.k,HE.out ▸ HC.out.h⟩
theorem rlooks_calls (w0:World) (C:Cv) (cell:Nat→Nat) (hC:CodeOk C cell w0) (wg lb:Nat) (R:Rk) (hR:ROk R) (a op A B:Nat) (ha:a < C.l0.length) (hP:PartsR w0 (rd C.l0 (a:Int)) op A B) (hO:OpsOk C.l3.length op A B) (hk:(R.l.getD a rz).known=true) (hl:(R.l.getD a rz).ks.length≤1024) (hr:(R.l.getD a rz).r≤4) (w:World) (H:RH w0 C wg lb R w) :
  Calls Tryd.prog 23 #[.pointer (some ⟨wg,0,none⟩),.int .i64 (a:Nat)] w (rEnds w0 C wg lb w (rlooks cell R a op A B)):=by
 obtain ⟨x,hx⟩:∃ x,R.l.getD a rz=x:=⟨_,rfl⟩
 have hx4:=hR a hk
 rw [hx] at hk hl hr hx4
 by_cases h0:op=0
 ·unfold rlooks
  rw [if_pos h0,hx]
  exact rlooks_h w0 C cell hC wg lb R hR a op A B ha hP x hx hx4 w H h0
 obtain ⟨⟨p,q,m,ok⟩,hw⟩:∃ v,rword cell x.r A B op=v:=⟨_,rfl⟩
 have W:=word_ok cell x.r A B op C.l3.length hO (fun h=>(hC.kind A (hO.2.2.1 (Or.inr h))).2) hr
 rw [hw] at W
 obtain ⟨p4,q4,pl,ql,r2⟩:=W
 exact rlooks_w w0 C cell hC wg lb R hR a op A B ha hP x hx hx4 w H h0 hO p q m ok hw hl hr pl ql p4 q4 r2
end Go.Proofs.YtcmdjpolgaejoaaDoor.Gd
namespace Go.Proofs.YtcmdjpolgaejoaaDoor.Gd
open Go.RowKit Go.Proofs.YtcmdjpolgaejoaaDoorW.PrintWords Go.Proofs.YtcmdjpolgaejoaaDoorW.PrintLast Go.Proofs.YtcmdjpolgaejoaaDoorW.PrintMore
set_option linter.unusedVariables false
set_option linter.unusedSimpArgs false
attribute [local irreducible] wpList
def RFine (R:Rk):Prop:=∀ a,(R.l.getD a rz).known=true→Fine (R.l.getD a rz).s∧(R.l.getD a rz).r≤4
theorem RFine.ok {R:Rk} (h:RFine R):ROk R:=fun a hk=>(h a hk).1.lt
theorem RFine.comes {R:Rk} (h:RFine R) (a:Nat) {s:St} (hs:(∀ k∈s.1,1≤k∧k < 4)∧s.2≤4):RFine (rcomes R a s):=by
 unfold rcomes
 split
 ·split
  ·split
   ·split
    ·split
     ·exact h
     ·exact h
    ·rename_i ha hl _
     intro b hb
     have e:((R.put a s).lim s).l=R.l.set a ⟨s.1,s.2,true,false⟩:=rfl
     rw [e,getD_set _ _ _ _ _ ha] at hb ⊢
     split
     ·exact ⟨⟨hs.1,hl⟩,hs.2⟩
     ·rename_i hne
      rw [if_neg hne] at hb
      exact h b hb
   ·exact h
  ·exact h
 ·exact h
theorem RFine.goes {R:Rk} {cell:Nat→Nat} (h:RFine R) (a op A B:Nat) {t:St} (ht:Fine t∧t.2≤4) (hc:op=17→1≤cell A∧cell A < 4):RFine (rgoes cell R a op A B t):=by
 have h1:RFine (if op=13 then R else rcomes R (a+1) t):=by
  split
  ·exact h
  ·exact h.comes _ ⟨ht.1.1,ht.2⟩
 show RFine (if op=13∨op=14∨op=15 then rcomes (if op=13 then R else rcomes R (a+1) t) A t else if op=17 then rcomes (if op=13 then R else rcomes R (a+1) t) B (cell A :: t.1,t.2) else if op=24 then rcomes (if op=13 then R else rcomes R (a+1) t) A (t.1,t.2 - 1) else (if op=13 then R else rcomes R (a+1) t))
 generalize (if op=13 then R else rcomes R (a+1) t)=R1 at h1 ⊢
 by_cases c1:op=13∨op=14∨op=15
 ·rw [if_pos c1]
  exact h1.comes _ ⟨ht.1.1,ht.2⟩
 ·rw [if_neg c1]
  by_cases c2:op=17
  ·rw [if_pos c2]
   exact h1.comes _ ⟨fun k hk=>by rcases List.mem_cons.1 hk with rfl|hk; exact hc c2; exact ht.1.1 k hk,ht.2⟩
  ·rw [if_neg c2]
   by_cases c3:op=24
   ·rw [if_pos c3]
    exact h1.comes _ ⟨ht.1.1,by show t.2 - 1≤4; omega⟩
   ·rw [if_neg c3]
    exact h1
theorem RFine.looks {R:Rk} {cell:Nat→Nat} (h:RFine R) (a op A B:Nat) (hk:(R.l.getD a rz).known=true) (ho:op≤27) (hb:op=1∨op=11→1≤B∧B < 4) (hc:op=17→1≤cell A∧cell A < 4):RFine (rlooks cell R a op A B):=by
 have hs:=h a hk
 unfold rlooks
 split
 ·unfold rhalts
  split
  ·split
   ·exact h
   ·exact h
  ·exact h
 ·split
  ·exact h
  ·rename_i t e
   refine h.goes a op A B ?_ hc
   by_cases c:op=17
   ·subst c
    rw [step17] at e
    split at e
    ·cases e; exact hs
    ·cases e
   ·rw [step_eq cell _ A B op ho c hs.1.2] at e
    exact ⟨behind_fine cell A B op hs.1 hb e,behind_rounds cell A B op hs.2 e⟩
theorem RFine.mark {R:Rk} (h:RFine R) (a:Nat):RFine (R.mark a):=by
 intro b hb
 have e:(R.mark a).l=R.l.set a { R.l.getD a rz with done:=true }:=rfl
 rw [e] at hb ⊢
 by_cases ha:a < R.l.length
 ·rw [getD_set _ _ _ _ _ ha] at hb ⊢
  by_cases c:b=a
  ·subst c
   rw [if_pos rfl] at hb ⊢
   exact h b hb
  ·rw [if_neg c] at hb ⊢
   exact h b hb
 ·rw [List.set_eq_of_length_le (by omega)] at hb ⊢
  exact h b hb
def R0 (n:Nat):Rk:=⟨List.replicate n rz,0,0,0,0⟩
theorem R0_fine (n:Nat):RFine (R0 n):=fun a h=>by
 have:(R0 n).l.getD a rz=rz:=by
  show (List.replicate n rz).getD a rz=rz
  rw [List.getD_eq_getElem?_getD,List.getElem?_replicate]
  split<;>rfl
 rw [this] at h
 cases h
def outR:Except (Int×Nat) Rk→Int×Int×Int×Int×Int
 | .error (x,a)=>(0,0,0,x,(a:Nat))
 | .ok R=>if R.kind=0 then (0,0,0,201,0) else ((R.stack:Nat),(R.rounds:Nat),(R.kind:Nat),0,0)
theorem out_both {n:Nat} {r:Except (Int×Nat) Lk} {r':Except (Int×Nat) Rk} (h:Both n r r'):outR r'=outOf r:=by
 match r,r',h with
 | .error x,.error y,h=>obtain rfl:x=y:=h; rfl
 | .ok L,.ok R,h =>
  have h':Sim n L R:=h
  show (if R.kind=0 then _ else _)=(if L.kind=0 then _ else _)
  rw [h'.st,h'.ro,h'.ki]
structure VR (C:Cv) (w:World) (wg lb:Nat) (R:Rk) (w':World):Prop where
 k0:w'.heap[w.heap.size]? = some (.cells C.cells.toArray 26 (0,0))
 k1:w'.heap[w.heap.size+1]? = some (.cells #[.int .i64 0,.int .i64 0,.int .i64 0] 29 (0,0))
 h:RH w C wg lb R w'
section
variable {C:Cv} {w w' w'':World} {wg lb:Nat} {R R':Rk}
theorem VR.keep (s:VR C w wg lb R w') (k:Keep3 wg lb lb w' w'') (h:RH w C wg lb R' w''):VR C w wg lb R' w'':=by
 have far:∀ {g:Nat} {cs:Array Value} {t:TypeId},w'.heap[g]? = some (.cells cs t (0,0))→t≠58→t≠61→w''.heap[g]? = some (.cells cs t (0,0)):=fun {g cs t} hg h1 h2 =>
  (k.block g (blk_lt hg) (blk_ne hg s.h.wk h1) (blk_ne hg s.h.lf h2) (blk_ne hg s.h.lf h2)).trans hg
 exact ⟨far s.k0 (by decide) (by decide),far s.k1 (by decide) (by decide),h⟩
theorem VR.call (s:VR C w wg lb R w') (hb:Below w'.heap.size w' w''):VR C w wg lb R w'':=s.keep (Keep3.of_below hb) (s.h.keep hb)
theorem VR.drew (s:VR C w wg lb R w'):VR C w wg lb R w'.drew:=s.call (Below.refl _ _).drew
theorem VR.mark (s:VR C w wg lb R w') (a:Nat) (ha:a < R.l.length):VR C w wg lb (R.mark a) (w'.setCell ⟨lb,a*4+3,none⟩ (.bool true)):=s.keep (Keep3.cell (Or.inr (Or.inl rfl))) (s.h.mark a ha)
end
theorem exists_least2 (I:Nat→Value→World→Prop):∃ μ:Value→World→Nat,∀ v w f,I f v w→I (μ v w) v w∧μ v w≤f:=by
 have h:∀ v w,∃ k,∀ f,I f v w→I k v w∧k≤f:=fun v w=>least_of fun f=>I f v w
 exact ⟨fun v w=>Classical.choose (h v w),fun v w f hf=>Classical.choose_spec (h v w) f hf⟩
def RInv (C:Cv) (cell:Nat→Nat) (pt:Nat→Nat×Nat×Nat) (w:World) (wg lb:Nat) (r:Except (Int×Nat) Rk) (f:Nat) (v:Value) (w':World):Prop :=
 ∃ (a:Nat) (R:Rk),v=.int .i64 (a:Nat)∧a≤C.l0.length∧VR C w wg lb R w'∧RFine R∧R.e=0∧rrun C.l0.length cell pt f a R=some r
theorem res10 {w':World} {g:Nat} {a b c d e:Int} (k1:w'.heap[g]? = some (.cells #[.int .i64 a,.int .i64 b,.int .i64 c] 29 (0,0))) {tmps:Array Value}
  (h2:tmps.getD 2 undef=.pointer (some ⟨g,0,none⟩)) (h3:tmps.getD 3 undef=.int .i64 d) (h4:tmps.getD 4 undef=.int .i64 e) :
  (results Tryd.f10 tmps).run Tryd.prog w'=.ok (.tuple #[lim3 a b c,.int .i64 d,.int .i64 e]) w':=by
 have i29:(Tryd.prog.info? 29).map (·.size)=some 3:=by kernel_rfl
 have y1:=run_loadVar_row (P:=Tryd.prog) w' _ 29 29 _ (0,0) _ k1 Tryd.underlying29 rfl i29
 have p2:tmps[2]?.getD undef=.pointer (some ⟨g,0,none⟩):=by simpa using h2
 have p3:tmps[3]?.getD undef=.int .i64 d:=by simpa using h3
 have p4:tmps[4]?.getD undef=.int .i64 e:=by simpa using h4
 simp [Go.results,Tryd.results10,p2,p3,p4,asAddr,y1,lim3]
theorem far3 {w':World} {wg b:Nat} {i j k l:Nat} {x y z v:Value} (h:wg≠b) (e:w'.cell? ⟨wg,l,none⟩=some v):(((w'.setCell ⟨b,i,none⟩ x).setCell ⟨b,j,none⟩ y).setCell ⟨b,k,none⟩ z).cell? ⟨wg,l,none⟩=some v:=by
 have hh:(((w'.setCell ⟨b,i,none⟩ x).setCell ⟨b,j,none⟩ y).setCell ⟨b,k,none⟩ z).heap[wg]? = w'.heap[wg]? := (set_far h).trans ((set_far h).trans (set_far h))
 rw [← e]
 simp only [World.cell?,hh]
theorem info61:(Tryd.prog.info? 61).map (fun i=>(i.zero,i.size,i.bytes))=some (some (.agg #[.string ⟨#[]⟩,.int .i64 0,.bool false,.bool false]),4,32):=by kernel_rfl
def zeros61 (n:Nat):Array Value:=(stCells (List.replicate n rz)).toArray
theorem stCells_rep:∀ (n k:Nat),k < 4*n→(stCells (List.replicate n rz))[k]? = (st4 rz)[k%4]?
 | 0,k,h=>by omega
 | n+1,k,h=>by
  rw [List.replicate_succ,stCells]
  by_cases hk:k < 4
  ·rw [List.getElem?_append_left (by simpa using hk),Nat.mod_eq_of_lt hk]
  ·rw [List.getElem?_append_right (by simp; omega)]
   have:=stCells_rep n (k - 4) (by omega)
   simp only [st4,List.length_cons,List.length_nil] at this ⊢
   rw [this]
   congr 1
   omega
theorem make56 (w:World) (n:Nat) (h:n≤32768):(Instr.makeSlice 56 (.int .i64 (n:Nat)) (.int .i64 (n:Nat))).run Tryd.prog w=.ok (.slice (some ⟨w.heap.size,0,none⟩) n n) (w.alloc (.cells (zeros61 n) 61)):=by
 have hi:=info61
 cases hq:Tryd.prog.info? 61 with
 | none=>simp [hq] at hi
 | some i =>
  simp [hq] at hi
  obtain ⟨h1,h2,h3⟩:=hi
  have:=run_makeSlice (P:=Tryd.prog) w 56 61 i (.agg #[.string ⟨#[]⟩,.int .i64 0,.bool false,.bool false]) Tryd.underlying56 hq h1 .i64 .i64 (n:Nat) (n:Nat) (by omega) (Int.le_refl _) (by rw [h2]; simp; omega) (by rw [h3]; simp; omega) (by omega)
  rw [h2] at this
  simp only [Int.toNat_natCast] at this
  rw [this]
  have e:madeCells (Value.agg #[.string ⟨#[]⟩,.int .i64 0,.bool false,.bool false]).cells (n*4)=zeros61 n:=by
   apply Array.ext
   ·simp [madeCells,zeros61,stCells_length]; omega
   ·intro k h1 h2
    have hk:k < n*4:=by simpa [madeCells] using h1
    have hg:=stCells_rep n k (by omega)
    have h2':k < (stCells (List.replicate n rz)).length:=by rw [stCells_length]; simp; omega
    rw [List.getElem?_eq_getElem h2'] at hg
    have hz:(zeros61 n)[k]'h2=(stCells (List.replicate n rz))[k]:=by simp [zeros61]
    rw [hz]
    have h4:k%4 < 4:=Nat.mod_lt _ (by decide)
    simp only [madeCells]
    obtain h|h|h|h:k%4=0∨k%4=1∨k%4=2∨k%4=3:=by omega
    all_goals (rw [h] at hg; simp [Value.cells,h]; exact (Option.some.inj hg).symm)
  rw [e]
def RightR (w0:World) (C:Cv) (b:Bool):Prop:=∀ W,Below w0.heap.size w0 W→Calls Tryd.prog 21 #[.agg #[.slice C.A0 C.l0.length C.c0,.slice C.A1 C.l1.length C.c1,.slice C.A2 C.l2.length C.c2,.slice C.A3 C.l3.length C.c3]] W fun e w'=>e=.returned (.bool b)∧Below W.heap.size W w'
set_option maxHeartbeats 8000000 in
set_option maxRecDepth 10000 in
theorem rverify_form (C:Cv) (w:World) (hR:RightR w C false):Calls Tryd.prog 10 #[.agg #[.slice C.A0 C.l0.length C.c0,.slice C.A1 C.l1.length C.c1,.slice C.A2 C.l2.length C.c2,.slice C.A3 C.l3.length C.c3]] w fun e w'=>e=.returned (outV ((0,0,0,180,0)))∧Below w.heap.size w w':=by
 have zs:(w.alloc (.cells #[.slice C.A0 C.l0.length C.c0,.slice C.A1 C.l1.length C.c1,.slice C.A2 C.l2.length C.c2,.slice C.A3 C.l3.length C.c3] 26)).heap.size=w.heap.size+1:=by simp
 have k0:=blk_alloc (heap_alloc_new w (.cells #[.slice C.A0 C.l0.length C.c0,.slice C.A1 C.l1.length C.c1,.slice C.A2 C.l2.length C.c2,.slice C.A3 C.l3.length C.c3] 26)) (.cells #[.int .i64 0,.int .i64 0,.int .i64 0] 29)
 have k1:=heap_alloc_new (w.alloc (.cells #[.slice C.A0 C.l0.length C.c0,.slice C.A1 C.l1.length C.c1,.slice C.A2 C.l2.length C.c2,.slice C.A3 C.l3.length C.c3] 26)) (.cells #[.int .i64 0,.int .i64 0,.int .i64 0] 29)
 rw [zs] at k1
 have hbz:=below_alloc (below_alloc (Below.refl w.heap.size w) (.cells #[.slice C.A0 C.l0.length C.c0,.slice C.A1 C.l1.length C.c1,.slice C.A2 C.l2.length C.c2,.slice C.A3 C.l3.length C.c3] 26)) (.cells #[.int .i64 0,.int .i64 0,.int .i64 0] 29)
 have K0:=Aside0.mk k0
 have K1:=Aside0.mk k1
 have HB:=Aside0.mk hbz
 have HR:=Aside0.mk hR
 have y0:((w.alloc (.cells #[.slice C.A0 C.l0.length C.c0,.slice C.A1 C.l1.length C.c1,.slice C.A2 C.l2.length C.c2,.slice C.A3 C.l3.length C.c3] 26)).alloc (.cells #[.int .i64 0,.int .i64 0,.int .i64 0] 29)).cell? ⟨w.heap.size,0,none⟩=some (.slice C.A0 C.l0.length C.c0):=blk_cell k0 0
 have y1:((w.alloc (.cells #[.slice C.A0 C.l0.length C.c0,.slice C.A1 C.l1.length C.c1,.slice C.A2 C.l2.length C.c2,.slice C.A3 C.l3.length C.c3] 26)).alloc (.cells #[.int .i64 0,.int .i64 0,.int .i64 0] 29)).cell? ⟨w.heap.size,1,none⟩=some (.slice C.A1 C.l1.length C.c1):=blk_cell k0 1
 have y2:((w.alloc (.cells #[.slice C.A0 C.l0.length C.c0,.slice C.A1 C.l1.length C.c1,.slice C.A2 C.l2.length C.c2,.slice C.A3 C.l3.length C.c3] 26)).alloc (.cells #[.int .i64 0,.int .i64 0,.int .i64 0] 29)).cell? ⟨w.heap.size,2,none⟩=some (.slice C.A2 C.l2.length C.c2):=blk_cell k0 2
 have y3:((w.alloc (.cells #[.slice C.A0 C.l0.length C.c0,.slice C.A1 C.l1.length C.c1,.slice C.A2 C.l2.length C.c2,.slice C.A3 C.l3.length C.c3] 26)).alloc (.cells #[.int .i64 0,.int .i64 0,.int .i64 0] 29)).cell? ⟨w.heap.size,3,none⟩=some (.slice C.A3 C.l3.length C.c3):=blk_cell k0 3
 clear hR zs k0 k1 hbz
 go_enter Tryd.func10,Tryd.ntmps10
 go_wp2_with (first
  | (go_at_call 21; (refine (HR.out _ HB.out).mono ?_); rintro e w1 ⟨rfl,hb⟩; have K0:=Aside0.mk (blk_below K0.out hb); have K1:=Aside0.mk (blk_below K1.out hb); have HB:=Aside0.mk (below_then HB.out HB.out.size hb); have y0:w1.cell? ⟨w.heap.size,0,none⟩=some (.slice C.A0 C.l0.length C.c0):=blk_cell K0.out 0; have y1:w1.cell? ⟨w.heap.size,1,none⟩=some (.slice C.A1 C.l1.length C.c1):=blk_cell K0.out 1; have y2:w1.cell? ⟨w.heap.size,2,none⟩=some (.slice C.A2 C.l2.length C.c2):=blk_cell K0.out 2; have y3:w1.cell? ⟨w.heap.size,3,none⟩=some (.slice C.A3 C.l3.length C.c3):=blk_cell K0.out 3; have u0:=blk_cell K1.out 0; have f0:=blk_frozen K1.out 0; have u1:=blk_cell K1.out 1; have f1:=blk_frozen K1.out 1; have u2:=blk_cell K1.out 2; have f2:=blk_frozen K1.out 2; clear hb))
 have hk1:=blk_put (blk_put (blk_put K1.out 0 (.int .i64 0) rfl) 1 (.int .i64 0) rfl) 2 (.int .i64 0) rfl
 have HB3:=((HB.out.setCell (p:=⟨w.heap.size+1,0,none⟩) (Nat.le_succ _) (.int .i64 0)).setCell (p:=⟨w.heap.size+1,1,none⟩) (Nat.le_succ _) (.int .i64 0)).setCell (p:=⟨w.heap.size+1,2,none⟩) (Nat.le_succ _) (.int .i64 0)
 exact bodyPost_ret (res10 hk1 rfl rfl rfl) rfl ⟨rfl,HB3⟩
set_option maxHeartbeats 8000000 in
set_option maxRecDepth 10000 in
theorem rverify_calls (C:Cv) (cell:Nat→Nat) (pt:Nat→Nat×Nat×Nat) (w:World) (hC:CodeOk C cell w) (hn1:1≤C.l0.length) (hP:∀ a,a < C.l0.length→PartsR w (rd C.l0 (a:Int)) (pt a).1 (pt a).2.1 (pt a).2.2) (hO:∀ a,a < C.l0.length→OpsOk C.l3.length (pt a).1 (pt a).2.1 (pt a).2.2) (hR:RightR w C true)
  (r:Except (Int×Nat) Rk) (f:Nat) (hr:rrun C.l0.length cell pt f 0 (rcomes (R0 C.l0.length) 0 ([],0))=some r) :
  Calls Tryd.prog 10 #[.agg #[.slice C.A0 C.l0.length C.c0,.slice C.A1 C.l1.length C.c1,.slice C.A2 C.l2.length C.c2,.slice C.A3 C.l3.length C.c3]] w fun e w'=>e=.returned (outV (outR r))∧Below w.heap.size w w':=by
 have hn:=hC.size
 have HCC:=Aside0.mk hC
 have HPP:=Aside0.mk hP
 have HOO:=Aside0.mk hO
 have HRR:=Aside0.mk hr
 have HN1:=Aside0.mk hn1
 clear hC hP hO hr hn1
 have zs:(w.alloc (.cells #[.slice C.A0 C.l0.length C.c0,.slice C.A1 C.l1.length C.c1,.slice C.A2 C.l2.length C.c2,.slice C.A3 C.l3.length C.c3] 26)).heap.size=w.heap.size+1:=by simp
 have k0:=blk_alloc (heap_alloc_new w (.cells #[.slice C.A0 C.l0.length C.c0,.slice C.A1 C.l1.length C.c1,.slice C.A2 C.l2.length C.c2,.slice C.A3 C.l3.length C.c3] 26)) (.cells #[.int .i64 0,.int .i64 0,.int .i64 0] 29)
 have k1:=heap_alloc_new (w.alloc (.cells #[.slice C.A0 C.l0.length C.c0,.slice C.A1 C.l1.length C.c1,.slice C.A2 C.l2.length C.c2,.slice C.A3 C.l3.length C.c3] 26)) (.cells #[.int .i64 0,.int .i64 0,.int .i64 0] 29)
 rw [zs] at k1
 have hbz:=below_alloc (below_alloc (Below.refl w.heap.size w) (.cells #[.slice C.A0 C.l0.length C.c0,.slice C.A1 C.l1.length C.c1,.slice C.A2 C.l2.length C.c2,.slice C.A3 C.l3.length C.c3] 26)) (.cells #[.int .i64 0,.int .i64 0,.int .i64 0] 29)
 have K0:=Aside0.mk k0
 have K1:=Aside0.mk k1
 have HB:=Aside0.mk hbz
 have HR:=Aside0.mk hR
 have y0:((w.alloc (.cells #[.slice C.A0 C.l0.length C.c0,.slice C.A1 C.l1.length C.c1,.slice C.A2 C.l2.length C.c2,.slice C.A3 C.l3.length C.c3] 26)).alloc (.cells #[.int .i64 0,.int .i64 0,.int .i64 0] 29)).cell? ⟨w.heap.size,0,none⟩=some (.slice C.A0 C.l0.length C.c0):=blk_cell k0 0
 have y1:((w.alloc (.cells #[.slice C.A0 C.l0.length C.c0,.slice C.A1 C.l1.length C.c1,.slice C.A2 C.l2.length C.c2,.slice C.A3 C.l3.length C.c3] 26)).alloc (.cells #[.int .i64 0,.int .i64 0,.int .i64 0] 29)).cell? ⟨w.heap.size,1,none⟩=some (.slice C.A1 C.l1.length C.c1):=blk_cell k0 1
 have y2:((w.alloc (.cells #[.slice C.A0 C.l0.length C.c0,.slice C.A1 C.l1.length C.c1,.slice C.A2 C.l2.length C.c2,.slice C.A3 C.l3.length C.c3] 26)).alloc (.cells #[.int .i64 0,.int .i64 0,.int .i64 0] 29)).cell? ⟨w.heap.size,2,none⟩=some (.slice C.A2 C.l2.length C.c2):=blk_cell k0 2
 have y3:((w.alloc (.cells #[.slice C.A0 C.l0.length C.c0,.slice C.A1 C.l1.length C.c1,.slice C.A2 C.l2.length C.c2,.slice C.A3 C.l3.length C.c3] 26)).alloc (.cells #[.int .i64 0,.int .i64 0,.int .i64 0] 29)).cell? ⟨w.heap.size,3,none⟩=some (.slice C.A3 C.l3.length C.c3):=blk_cell k0 3
 clear hR zs k0 k1 hbz
 go_enter Tryd.func10,Tryd.ntmps10
 go_wp2_with (first
  | (go_at_call 21; (refine (HR.out _ HB.out).mono ?_); rintro e w1 ⟨rfl,hb⟩; have K0:=Aside0.mk (blk_below K0.out hb); have K1:=Aside0.mk (blk_below K1.out hb); have HB:=Aside0.mk (below_then HB.out HB.out.size hb); have y0:w1.cell? ⟨w.heap.size,0,none⟩=some (.slice C.A0 C.l0.length C.c0):=blk_cell K0.out 0; have y1:w1.cell? ⟨w.heap.size,1,none⟩=some (.slice C.A1 C.l1.length C.c1):=blk_cell K0.out 1; have y2:w1.cell? ⟨w.heap.size,2,none⟩=some (.slice C.A2 C.l2.length C.c2):=blk_cell K0.out 2; have y3:w1.cell? ⟨w.heap.size,3,none⟩=some (.slice C.A3 C.l3.length C.c3):=blk_cell K0.out 3; have u0:=blk_cell K1.out 0; have f0:=blk_frozen K1.out 0; have u1:=blk_cell K1.out 1; have f1:=blk_frozen K1.out 1; have u2:=blk_cell K1.out 2; have f2:=blk_frozen K1.out 2; clear hb))
 clear u0 u1 u2 f0 f1 f2
 refine start_ (n:=8) (S:=fun w'=>w'.cell? ⟨w.heap.size,0,none⟩=some (.slice C.A0 C.l0.length C.c0)∧w'.cell? ⟨w.heap.size,1,none⟩=some (.slice C.A1 C.l1.length C.c1)∧w'.cell? ⟨w.heap.size,2,none⟩=some (.slice C.A2 C.l2.length C.c2)∧w'.cell? ⟨w.heap.size,3,none⟩=some (.slice C.A3 C.l3.length C.c3)) (ds:=[]) #[false,false,false,false,false,false,false,false] (by kernel_rfl) rfl rfl ⟨y0,y1,y2,y3⟩ (fun hHeld=>?_)
 have K0:Aside0 (w1.drew.heap[w.heap.size]? = _):=⟨K0.out⟩
 have K1:Aside0 (w1.drew.heap[w.heap.size+1]? = _):=⟨K1.out⟩
 have HB:=Aside0.mk HB.out.drew
 generalize World.drew w1=u4 at K0 K1 HB hHeld ⊢
 refine pure_ (i:=1) (N:=some 14) (v:=?_) (a':=?_) (bl_ 8 2) rfl rfl (by kernel_rfl) (fun _ _ _ h=>h) (Or.inl ⟨by rfl,?_⟩) ?_ ?_
 rotate_left
 ·intro w'
  go_simp
  with_reducible rfl
 rotate_left
 ·simp only [Act.put,zA_,zB_,zC_,i64_w]
  rfl
 refine take_ (i:=0) (N:=some 13) (v:=?_) (a':=?_) (bl_ 8 3) rfl rfl (by kernel_rfl) (fun _ _ _ h=>h) (Or.inl ⟨by rfl,?_⟩) hHeld ?_ ?_
 rotate_left
 ·rintro w' ⟨s0,s1,s2,s3⟩
  go_simp
  with_reducible rfl
 rotate_left
 ·simp only [Act.put,zA_,zB_,zC_,i64_w]
  rfl
 refine take_ (i:=2) (N:=some 15) (v:=?_) (a':=?_) (bl_ 8 7) rfl rfl (by kernel_rfl) (fun _ _ _ h=>h) (Or.inl ⟨by rfl,?_⟩) hHeld ?_ ?_
 rotate_left
 ·rintro w' ⟨s0,s1,s2,s3⟩
  go_simp
  with_reducible rfl
 rotate_left
 ·simp only [Act.put,zA_,zB_,zC_,i64_w]
  rfl
 refine pure_ (i:=3) (N:=some 16) (v:=?_) (a':=?_) (bl_ 8 15) rfl rfl (by kernel_rfl) (fun _ _ _ h=>h) (Or.inl ⟨by rfl,?_⟩) ?_ ?_
 rotate_left
 ·intro w'
  go_simp
  with_reducible rfl
 rotate_left
 ·simp only [Act.put,zA_,zB_,zC_,i64_w]
  rfl
 refine one_ (i:=4) (N:=some 17) (bl_ 8 31) rfl rfl (by kernel_rfl) (by decide) (fun K hK=>?_)
 refine value_ (w1:=(u4.alloc (.cells (zeros61 C.l0.length) 61))) (v:=.slice (some ⟨u4.heap.size,0,none⟩) C.l0.length C.l0.length) (by rfl) rfl (by have hmk:=make56 u4 C.l0.length hn; go_simp; first|done|(simp only [hmk]; done)|(simp [hmk]; done)) ?_
 have hM:Below u4.heap.size u4 (u4.alloc (.cells (zeros61 C.l0.length) 61)):=below_alloc (Below.refl _ _) _
 refine hK.out _ _ ⟨(pw_cell_below hM hHeld.1),(pw_cell_below hM hHeld.2.1),(pw_cell_below hM hHeld.2.2.1),(pw_cell_below hM hHeld.2.2.2)⟩ (fun hHeld=>?_)
 clear hK K
 refine norm_ (a':=?_) ?_ ?_
 rotate_left
 ·show Act.put _ (some 17) _=_
  simp only [Act.put,zA_,zB_,zC_,i64_w]
  rfl
 refine pure_ (i:=5) (N:=some 18) (v:=?_) (a':=?_) (bl_ 8 63) rfl rfl (by kernel_rfl) (fun _ _ _ h=>h) (Or.inl ⟨by rfl,?_⟩) ?_ ?_
 rotate_left
 ·intro w'
  go_simp
  with_reducible rfl
 rotate_left
 ·simp only [Act.put,zA_,zB_,zC_,i64_w]
  rfl
 refine one_ (i:=6) (N:=some 19) (bl_ 8 127) rfl rfl (by kernel_rfl) (by decide) (fun K hK=>?_)
 refine value_ (w1:=((u4.alloc (.cells (zeros61 C.l0.length) 61)).alloc (.cells #[.slice C.A0 C.l0.length C.c0,.slice C.A1 C.l1.length C.c1,.slice C.A2 C.l2.length C.c2,.slice C.A3 C.l3.length C.c3,.slice (some ⟨u4.heap.size,0,none⟩) C.l0.length C.l0.length,.int .i64 0,.int .i64 0,.int .i64 0,.int .i64 0] 58))) (v:=.pointer (some ⟨u4.heap.size+1,0,none⟩)) (by rfl) rfl (by go_simp) ?_
 have hN:Below (u4.alloc (.cells (zeros61 C.l0.length) 61)).heap.size (u4.alloc (.cells (zeros61 C.l0.length) 61)) ((u4.alloc (.cells (zeros61 C.l0.length) 61)).alloc (.cells #[.slice C.A0 C.l0.length C.c0,.slice C.A1 C.l1.length C.c1,.slice C.A2 C.l2.length C.c2,.slice C.A3 C.l3.length C.c3,.slice (some ⟨u4.heap.size,0,none⟩) C.l0.length C.l0.length,.int .i64 0,.int .i64 0,.int .i64 0,.int .i64 0] 58)):=below_alloc (Below.refl _ _) _
 refine hK.out _ _ ⟨(pw_cell_below hN (hHeld.1)),(pw_cell_below hN (hHeld.2.1)),(pw_cell_below hN (hHeld.2.2.1)),(pw_cell_below hN (hHeld.2.2.2))⟩ (fun hHeld=>?_)
 clear hK K
 refine norm_ (a':=?_) ?_ ?_
 rotate_left
 ·show Act.put _ (some 19) _=_
  simp only [Act.put,zA_,zB_,zC_,i64_w]
  rfl
 refine pure_ (i:=7) (N:=some 6) (v:=?_) (a':=?_) (bl_ 8 255) rfl rfl (by kernel_rfl) (fun _ _ _ h=>h) (Or.inl ⟨by rfl,?_⟩) ?_ ?_
 rotate_left
 ·intro w'
  go_simp
  with_reducible rfl
 rotate_left
 ·simp only [Act.put,zA_,zB_,zC_,i64_w]
  rfl
 refine done_ (by kernel_rfl) ?_
 have zs:(u4.alloc (.cells (zeros61 C.l0.length) 61)).heap.size=u4.heap.size+1:=by simp
 have kw:=heap_alloc_new (u4.alloc (.cells (zeros61 C.l0.length) 61)) (.cells #[.slice C.A0 C.l0.length C.c0,.slice C.A1 C.l1.length C.c1,.slice C.A2 C.l2.length C.c2,.slice C.A3 C.l3.length C.c3,.slice (some ⟨u4.heap.size,0,none⟩) C.l0.length C.l0.length,.int .i64 0,.int .i64 0,.int .i64 0,.int .i64 0] 58)
 rw [zs] at kw
 have kl:=blk_alloc (heap_alloc_new u4 (.cells (zeros61 C.l0.length) 61)) (.cells #[.slice C.A0 C.l0.length C.c0,.slice C.A1 C.l1.length C.c1,.slice C.A2 C.l2.length C.c2,.slice C.A3 C.l3.length C.c3,.slice (some ⟨u4.heap.size,0,none⟩) C.l0.length C.l0.length,.int .i64 0,.int .i64 0,.int .i64 0,.int .i64 0] 58)
 have hbw:=below_alloc (below_alloc HB.out (.cells (zeros61 C.l0.length) 61)) (.cells #[.slice C.A0 C.l0.length C.c0,.slice C.A1 C.l1.length C.c1,.slice C.A2 C.l2.length C.c2,.slice C.A3 C.l3.length C.c3,.slice (some ⟨u4.heap.size,0,none⟩) C.l0.length C.l0.length,.int .i64 0,.int .i64 0,.int .i64 0,.int .i64 0] 58)
 have hs4:=HB.out.size
 have VR0:=Aside0.mk (show VR C w (u4.heap.size+1) u4.heap.size (R0 C.l0.length) ((u4.alloc (.cells (zeros61 C.l0.length) 61)).alloc (.cells #[.slice C.A0 C.l0.length C.c0,.slice C.A1 C.l1.length C.c1,.slice C.A2 C.l2.length C.c2,.slice C.A3 C.l3.length C.c3,.slice (some ⟨u4.heap.size,0,none⟩) C.l0.length C.l0.length,.int .i64 0,.int .i64 0,.int .i64 0,.int .i64 0] 58)) from ⟨blk_alloc (blk_alloc K0.out _) _,blk_alloc (blk_alloc K1.out _) _,⟨kw,kl,by show (List.replicate _ _).length=_; rw [List.length_replicate],hbw,by omega,hs4⟩⟩)
 obtain ⟨wg,hwg⟩:∃ wg,wg=u4.heap.size+1:=⟨_,rfl⟩
 obtain ⟨lb,hlb⟩:∃ lb,lb=u4.heap.size:=⟨_,rfl⟩
 obtain ⟨w3,hw3⟩:∃ w3,w3=((u4.alloc (.cells (zeros61 C.l0.length) 61)).alloc (.cells #[.slice C.A0 C.l0.length C.c0,.slice C.A1 C.l1.length C.c1,.slice C.A2 C.l2.length C.c2,.slice C.A3 C.l3.length C.c3,.slice (some ⟨u4.heap.size,0,none⟩) C.l0.length C.l0.length,.int .i64 0,.int .i64 0,.int .i64 0,.int .i64 0] 58)):=⟨_,rfl⟩
 rw [← hw3] at VR0 ⊢
 rw [← hwg,← hlb] at VR0
 rw [← hwg]
 clear hHeld hM hN zs kw kl hbw hs4 hwg hlb hw3 K0 K1 HB
 clear y0 y1 y2 y3
 go_wp2_with (first
  | (go_at_call 22; (refine (rcomes_calls w C wg lb (R0 C.l0.length) ([],0) 0 _ VR0.out.h (by simp) (fun _ hk=>(R0_fine _).ok _ hk)).mono ?_); rintro e w4 ⟨rfl,hk,hh⟩; have HS:=Aside0.mk (VR0.out.keep hk hh); clear hk hh VR0))
 have he0:(rcomes (R0 C.l0.length) 0 ([],0)).e=0:=by
  have hp:0 < (R0 C.l0.length).l.length:=by show 0 < (List.replicate _ _).length; rw [List.length_replicate]; exact HN1.out
  have hz:(R0 C.l0.length).l.getD 0 rz=rz:=by
   show (List.replicate _ rz).getD 0 rz=rz
   rw [List.getD_eq_getElem?_getD,List.getElem?_replicate]
   split<;>rfl
  unfold rcomes
  rw [if_pos (show (R0 C.l0.length).e=0 from rfl),if_pos hp,if_pos (show (([],0):St).1.length≤1024 from Nat.zero_le _),hz]
  rfl
 have HF0:=Aside0.mk ((R0_fine C.l0.length).comes 0 (s:=([],0)) ⟨by simp,by simp⟩)
 have HE0:=Aside0.mk he0
 clear he0
 obtain ⟨μ,hμ⟩:=exists_least2 (RInv C cell pt w wg lb r)
 have HM:=Aside0.mk hμ
 clear hμ
 go_loopw [7] (fun v7 w'=>∃ f,RInv C cell pt w wg lb r f v7 w') (fun v7 w'=>μ v7 w')
 case atStart=>exact ⟨f,0,_,rfl,Nat.zero_le _,HS.out,HF0.out,HE0.out,HRR.out⟩
 case round =>
  clear HS HF0 HE0 HRR
  obtain ⟨f0,hf0⟩:=hrel
  obtain ⟨⟨a,R,rfl,han,hS,hF,hE,hrun⟩,-⟩:=HM.out _ _ _ hf0
  have HS:=Aside0.mk hS
  have HF:=Aside0.mk hF
  have HE:=Aside0.mk hE
  have HRN:=Aside0.mk hrun
  clear hS hF hE hrun hf0
  have v4:wr.cell? ⟨wg,4,none⟩=some (.slice (some ⟨lb,0,none⟩) C.l0.length C.l0.length):=HS.out.h.cell 4
  have HWG:=Aside0.mk (blk_ne HS.out.h.wk HS.out.k1 (by decide):wg≠w.heap.size+1)
  obtain ⟨k,hk,hN⟩:∃ k,μ (.int .i64 (a:Nat)) wr=k+1∧rrun C.l0.length cell pt (k+1) a R=some r:=by
   have h:=HRN.out
   cases hq:μ (.int .i64 (a:Nat)) wr with
   | zero=>rw [hq] at h; cases h
   | succ k=>exact ⟨k,rfl,by rw [hq] at h; exact h⟩
  have HKK:=Aside0.mk hk
  clear hk HRN
  unfold rrun at hN
  by_cases hlt:a < C.l0.length
  ·rw [if_pos hlt] at hN
   have hal:a < R.l.length:=by rw [HS.out.h.ln]; exact hlt
   have HAL:=Aside0.mk hal
   have HLT:=Aside0.mk hlt
   have e8:wrap64 ((a:Int)+1)=(a:Int)+1:=by unfold wrap64; omega
   have kv:=HS.out.h.st a 2 (by decide) hal
   have dv:=HS.out.h.st a 3 (by decide) hal
   by_cases htd:(R.l.getD a rz).todo=true
   ·rw [if_pos htd] at hN
    unfold RSt.todo at htd
    simp only [Bool.and_eq_true,Bool.not_eq_true'] at htd
    replace kv:wr.cell? ⟨lb,a*4+2,none⟩=some (.bool true):=kv.trans (congrArg (fun b=>some (Value.bool b)) htd.1)
    replace dv:wr.cell? ⟨lb,a*4+3,none⟩=some (.bool false):=dv.trans (congrArg (fun b=>some (Value.bool b)) htd.2)
    have fd:=blk_frozen HS.out.h.lf (a*4+3)
    have hkm:((R.mark a).l.getD a rz).known=true:=by
     show ((R.l.set a { R.l.getD a rz with done:=true }).getD a rz).known=true
     rw [getD_set _ _ _ _ _ hal,if_pos rfl]
     exact htd.1
    have HKN:=Aside0.mk hkm
    have HKL:=Aside0.mk ((HF.out.mark a) a hkm).1.2
    have HKR:=Aside0.mk ((HF.out.mark a) a hkm).2
    have HS:=Aside0.mk (HS.out.mark a hal)
    have v4':=HS.out.h.cell 4
    obtain ⟨R',hR'⟩:∃ R',rlooks cell (R.mark a) a (pt a).1 (pt a).2.1 (pt a).2.2=R':=⟨_,rfl⟩
    have hoc:=(HOO.out a hlt)
    have HF':=Aside0.mk (show RFine R' by rw [← hR']; exact (HF.out.mark a).looks a (pt a).1 (pt a).2.1 (pt a).2.2 hkm hoc.1 hoc.2.1 (fun h=>HCC.out.kind _ (hoc.2.2.1 (Or.inl h))))
    rw [hR'] at hN
    have HRL:=Aside0.mk hR'
    clear hR' hkm hoc htd hal
    by_cases hRe:R'.e=0
    ·rw [if_pos hRe] at hN
     have HN:=Aside0.mk hN
     have HRE:=Aside0.mk hRe
     have q0:(R'.e != 0)=false:=by rw [hRe]; rfl
     clear hN hRe
     go_wp2_with (first
      | (go_at_call 23; (refine (rlooks_calls w C cell HCC.out wg lb (R.mark a) (HF.out.mark a).ok a (pt a).1 (pt a).2.1 (pt a).2.2 HLT.out (HPP.out a HLT.out) (HOO.out a HLT.out) HKN.out HKL.out HKR.out _ HS.out.h).mono ?_); rintro e w6 ⟨rfl,hk,hh⟩; have HS:=Aside0.mk (show VR C w wg lb R' w6 by rw [← HRL.out] at *; exact HS.out.keep hk hh); have v8:w6.cell? ⟨wg,8,none⟩=some (.int .i64 R'.e):=HS.out.h.cell 8; clear hk hh))
     go_roundw
     case rel=>exact ⟨k,0,R',rfl,Nat.zero_le _,HS.out,HF'.out,HRE.out,HN.out⟩
     case measure =>
      have:=(HM.out _ _ k ⟨0,R',rfl,Nat.zero_le _,HS.out,HF'.out,HRE.out,HN.out⟩).2
      have h2:=HKK.out
      exact Nat.lt_of_le_of_lt this (by rw [h2]; exact Nat.lt_succ_self k)
    ·rw [if_neg hRe] at hN
     have q0:(R'.e != 0)=true:=bne_iff_ne.mpr hRe
     obtain rfl:=Option.some.inj hN
     clear hN hRe
     go_wp2_with (first
      | (go_at_call 23; (refine (rlooks_calls w C cell HCC.out wg lb (R.mark a) (HF.out.mark a).ok a (pt a).1 (pt a).2.1 (pt a).2.2 HLT.out (HPP.out a HLT.out) (HOO.out a HLT.out) HKN.out HKL.out HKR.out _ HS.out.h).mono ?_); rintro e w6 ⟨rfl,hk,hh⟩; have HS:=Aside0.mk (show VR C w wg lb R' w6 by rw [← HRL.out] at *; exact HS.out.keep hk hh); have v8:w6.cell? ⟨wg,8,none⟩=some (.int .i64 R'.e):=HS.out.h.cell 8; clear hk hh))
     refine start_ (n:=9) (S:=fun w'=>w'.cell? ⟨wg,8,none⟩=some (.int .i64 R'.e)) (ds:=[]) #[false,false,false,false,false,false,false,false,false] (by kernel_rfl) rfl rfl ((HS.out.h.cell 8)) (fun hHeld=>?_)
     have HS:=Aside0.mk HS.out.drew
     generalize World.drew _=u7 at HS hHeld ⊢
     have u0_:=blk_cell HS.out.k1 0
     have f0_:=blk_frozen HS.out.k1 0
     have u1_:=blk_cell HS.out.k1 1
     have f1_:=blk_frozen HS.out.k1 1
     have u2_:=blk_cell HS.out.k1 2
     have f2_:=blk_frozen HS.out.k1 2
     refine pure_ (i:=0) (N:=some 66) (v:=?_) (a':=?_) (bl_ 9 1) rfl rfl (by kernel_rfl) (fun _ _ _ h=>h) (Or.inl ⟨by rfl,?_⟩) ?_ ?_
     rotate_left
     ·intro w'
      go_simp
      with_reducible rfl
     rotate_left
     ·simp only [Act.put,zA_,zB_,zC_,i64_w]
      rfl
     refine pure_ (i:=1) (N:=some 67) (v:=?_) (a':=?_) (bl_ 9 3) rfl rfl (by kernel_rfl) (fun _ _ _ h=>h) (Or.inl ⟨by rfl,?_⟩) ?_ ?_
     rotate_left
     ·intro w'
      go_simp
      with_reducible rfl
     rotate_left
     ·simp only [Act.put,zA_,zB_,zC_,i64_w]
      rfl
     refine pure_ (i:=2) (N:=some 68) (v:=?_) (a':=?_) (bl_ 9 7) rfl rfl (by kernel_rfl) (fun _ _ _ h=>h) (Or.inl ⟨by rfl,?_⟩) ?_ ?_
     rotate_left
     ·intro w'
      go_simp
      with_reducible rfl
     rotate_left
     ·simp only [Act.put,zA_,zB_,zC_,i64_w]
      rfl
     refine pure_ (i:=3) (N:=some 69) (v:=?_) (a':=?_) (bl_ 9 15) rfl rfl (by kernel_rfl) (fun _ _ _ h=>h) (Or.inl ⟨by rfl,?_⟩) ?_ ?_
     rotate_left
     ·intro w'
      go_simp
      with_reducible rfl
     rotate_left
     ·simp only [Act.put,zA_,zB_,zC_,i64_w]
      rfl
     refine pure_ (i:=5) (N:=some 71) (v:=?_) (a':=?_) (bl_ 9 47) rfl rfl (by kernel_rfl) (fun _ _ _ h=>h) (Or.inl ⟨by rfl,?_⟩) ?_ ?_
     rotate_left
     ·intro w'
      go_simp
      with_reducible rfl
     rotate_left
     ·simp only [Act.put,zA_,zB_,zC_,i64_w]
      rfl
     refine take_ (i:=4) (N:=some 70) (v:=?_) (a':=?_) (bl_ 9 63) rfl rfl (by kernel_rfl) (fun _ _ _ h=>h) (Or.inl ⟨by rfl,?_⟩) hHeld ?_ ?_
     rotate_left
     ·intro w' s0
      go_simp
      with_reducible rfl
     rotate_left
     ·simp only [Act.put,zA_,zB_,zC_,i64_w]
      rfl
     refine one_ (i:=6) (N:=none) (bl_ 9 127) rfl rfl (by kernel_rfl) (by decide) (fun K hK=>?_)
     refine skip_ (w1:=((u7.setCell ⟨w.heap.size+1,0,none⟩ (.int .i64 0)).setCell ⟨w.heap.size+1,1,none⟩ (.int .i64 0)).setCell ⟨w.heap.size+1,2,none⟩ (.int .i64 0)) (by rfl) rfl (by go_simp) ?_
     refine hK.out _ _ ((far3 HWG.out hHeld)) (fun hHeld=>?_)
     clear hK K
     refine pure_ (i:=7) (N:=some 3) (v:=?_) (a':=?_) (bl_ 9 255) rfl rfl (by kernel_rfl) (fun _ _ _ h=>h) (Or.inl ⟨by rfl,?_⟩) ?_ ?_
     rotate_left
     ·intro w'
      go_simp
      with_reducible rfl
     rotate_left
     ·simp only [Act.put,zA_,zB_,zC_,i64_w]
      rfl
     refine pure_ (i:=8) (N:=some 4) (v:=?_) (a':=?_) (bl_ 9 511) rfl rfl (by kernel_rfl) (fun _ _ _ h=>h) (Or.inl ⟨by rfl,?_⟩) ?_ ?_
     rotate_left
     ·intro w'
      go_simp
      with_reducible rfl
     rotate_left
     ·simp only [Act.put,zA_,zB_,zC_,i64_w]
      rfl
     refine done_ (by kernel_rfl) ?_
     go_wp2_with fail
     have hk1:=blk_put (blk_put (blk_put HS.out.k1 0 (.int .i64 0) rfl) 1 (.int .i64 0) rfl) 2 (.int .i64 0) rfl
     have HB3:=((HS.out.h.b.setCell (p:=⟨w.heap.size+1,0,none⟩) (Nat.le_succ _) (.int .i64 0)).setCell (p:=⟨w.heap.size+1,1,none⟩) (Nat.le_succ _) (.int .i64 0)).setCell (p:=⟨w.heap.size+1,2,none⟩) (Nat.le_succ _) (.int .i64 0)
     exact bodyPost_ret (res10 hk1 rfl rfl rfl) rfl ⟨rfl,HB3⟩
   ·rw [if_neg htd] at hN
    have HN:=Aside0.mk hN
    clear hN hal
    by_cases hkn:(R.l.getD a rz).known=true
    ·have hdn:(R.l.getD a rz).done=true:=by
      unfold RSt.todo at htd
      rw [hkn] at htd
      simpa using htd
     replace kv:wr.cell? ⟨lb,a*4+2,none⟩=some (.bool true):=kv.trans (congrArg (fun b=>some (Value.bool b)) hkn)
     replace dv:wr.cell? ⟨lb,a*4+3,none⟩=some (.bool true):=dv.trans (congrArg (fun b=>some (Value.bool b)) hdn)
     clear hkn hdn htd
     go_wp2_with fail
     go_roundw
     case rel=>exact ⟨k,a+1,R,rfl,HLT.out,HS.out,HF.out,HE.out,HN.out⟩
     case measure =>
      have:=(HM.out _ _ k ⟨a+1,R,rfl,HLT.out,HS.out,HF.out,HE.out,HN.out⟩).2
      have h2:=HKK.out
      exact Nat.lt_of_le_of_lt this (by rw [h2]; exact Nat.lt_succ_self k)
    ·have hkf:(R.l.getD a rz).known=false:=Bool.eq_false_iff.2 hkn
     replace kv:wr.cell? ⟨lb,a*4+2,none⟩=some (.bool false):=kv.trans (congrArg (fun b=>some (Value.bool b)) hkf)
     clear hkn hkf htd dv
     go_wp2_with fail
     go_roundw
     case rel=>exact ⟨k,a+1,R,rfl,HLT.out,HS.out,HF.out,HE.out,HN.out⟩
     case measure =>
      have:=(HM.out _ _ k ⟨a+1,R,rfl,HLT.out,HS.out,HF.out,HE.out,HN.out⟩).2
      have h2:=HKK.out
      exact Nat.lt_of_le_of_lt this (by rw [h2]; exact Nat.lt_succ_self k)
  ·rw [if_neg hlt] at hN
   have hlt':C.l0.length≤a:=by omega
   obtain rfl:=Option.some.inj hN
   clear hN
   have v7:wr.cell? ⟨wg,7,none⟩=some (.int .i64 (R.kind:Nat)):=HS.out.h.cell 7
   by_cases hkd:R.kind=0
   ·have q0:(((R.kind:Nat):Int) == 0)=true:=by rw [hkd]; rfl
    have ho:outR (.ok R)=(0,0,0,201,0):=if_pos hkd
    have g0:=blk_cell HS.out.k1 0
    have g1:=blk_cell HS.out.k1 1
    have g2:=blk_cell HS.out.k1 2
    have j0:=blk_frozen HS.out.k1 0
    have j1:=blk_frozen HS.out.k1 1
    have j2:=blk_frozen HS.out.k1 2
    clear hkd
    go_wp2_with fail
    have hk1:=blk_put (blk_put (blk_put HS.out.k1 0 (.int .i64 0) rfl) 1 (.int .i64 0) rfl) 2 (.int .i64 0) rfl
    have HB3:=((HS.out.h.b.setCell (p:=⟨w.heap.size+1,0,none⟩) (Nat.le_succ _) (.int .i64 0)).setCell (p:=⟨w.heap.size+1,1,none⟩) (Nat.le_succ _) (.int .i64 0)).setCell (p:=⟨w.heap.size+1,2,none⟩) (Nat.le_succ _) (.int .i64 0)
    exact bodyPost_ret (res10 hk1 rfl rfl rfl) rfl ⟨by rw [ho]; rfl,HB3⟩
   ·have q0:(((R.kind:Nat):Int) == 0)=false:=by simp; omega
    have ho:outR (.ok R)=(((R.stack:Nat):Int),((R.rounds:Nat):Int),((R.kind:Nat):Int),0,0):=if_neg hkd
    clear hkd
    go_wp2_with fail
    refine start_ (n:=16) (S:=fun w'=>w'.cell? ⟨wg,5,none⟩=some (.int .i64 (R.stack:Nat))∧w'.cell? ⟨wg,6,none⟩=some (.int .i64 (R.rounds:Nat))∧w'.cell? ⟨wg,7,none⟩=some (.int .i64 (R.kind:Nat))) (ds:=[13]) #[false,false,false,false,false,false,false,false,false,false,false,false,false,false,false,false] (by kernel_rfl) rfl rfl ⟨(HS.out.h.cell 5),(HS.out.h.cell 6),(HS.out.h.cell 7)⟩ (fun hHeld=>?_)
    have HS:=Aside0.mk HS.out.drew
    generalize World.drew _=u7 at HS hHeld ⊢
    have u0_:=blk_cell HS.out.k1 0
    have f0_:=blk_frozen HS.out.k1 0
    have u1_:=blk_cell HS.out.k1 1
    have f1_:=blk_frozen HS.out.k1 1
    have u2_:=blk_cell HS.out.k1 2
    have f2_:=blk_frozen HS.out.k1 2
    refine pure_ (i:=0) (N:=some 78) (v:=?_) (a':=?_) (bl_ 16 1) rfl rfl (by kernel_rfl) (fun _ _ _ h=>h) (Or.inl ⟨by rfl,?_⟩) ?_ ?_
    rotate_left
    ·intro w'
     go_simp
     with_reducible rfl
    rotate_left
    ·simp only [Act.put,zA_,zB_,zC_,i64_w]
     rfl
    refine pure_ (i:=1) (N:=some 79) (v:=?_) (a':=?_) (bl_ 16 3) rfl rfl (by kernel_rfl) (fun _ _ _ h=>h) (Or.inl ⟨by rfl,?_⟩) ?_ ?_
    rotate_left
    ·intro w'
     go_simp
     with_reducible rfl
    rotate_left
    ·simp only [Act.put,zA_,zB_,zC_,i64_w]
     rfl
    refine pure_ (i:=2) (N:=some 80) (v:=?_) (a':=?_) (bl_ 16 7) rfl rfl (by kernel_rfl) (fun _ _ _ h=>h) (Or.inl ⟨by rfl,?_⟩) ?_ ?_
    rotate_left
    ·intro w'
     go_simp
     with_reducible rfl
    rotate_left
    ·simp only [Act.put,zA_,zB_,zC_,i64_w]
     rfl
    refine pure_ (i:=4) (N:=some 82) (v:=?_) (a':=?_) (bl_ 16 23) rfl rfl (by kernel_rfl) (fun _ _ _ h=>h) (Or.inl ⟨by rfl,?_⟩) ?_ ?_
    rotate_left
    ·intro w'
     go_simp
     with_reducible rfl
    rotate_left
    ·simp only [Act.put,zA_,zB_,zC_,i64_w]
     rfl
    refine pure_ (i:=5) (N:=some 83) (v:=?_) (a':=?_) (bl_ 16 55) rfl rfl (by kernel_rfl) (fun _ _ _ h=>h) (Or.inl ⟨by rfl,?_⟩) ?_ ?_
    rotate_left
    ·intro w'
     go_simp
     with_reducible rfl
    rotate_left
    ·simp only [Act.put,zA_,zB_,zC_,i64_w]
     rfl
    refine pure_ (i:=6) (N:=some 84) (v:=?_) (a':=?_) (bl_ 16 119) rfl rfl (by kernel_rfl) (fun _ _ _ h=>h) (Or.inl ⟨by rfl,?_⟩) ?_ ?_
    rotate_left
    ·intro w'
     go_simp
     with_reducible rfl
    rotate_left
    ·simp only [Act.put,zA_,zB_,zC_,i64_w]
     rfl
    refine pure_ (i:=8) (N:=some 86) (v:=?_) (a':=?_) (bl_ 16 375) rfl rfl (by kernel_rfl) (fun _ _ _ h=>h) (Or.inl ⟨by rfl,?_⟩) ?_ ?_
    rotate_left
    ·intro w'
     go_simp
     with_reducible rfl
    rotate_left
    ·simp only [Act.put,zA_,zB_,zC_,i64_w]
     rfl
    refine pure_ (i:=9) (N:=some 87) (v:=?_) (a':=?_) (bl_ 16 887) rfl rfl (by kernel_rfl) (fun _ _ _ h=>h) (Or.inl ⟨by rfl,?_⟩) ?_ ?_
    rotate_left
    ·intro w'
     go_simp
     with_reducible rfl
    rotate_left
    ·simp only [Act.put,zA_,zB_,zC_,i64_w]
     rfl
    refine pure_ (i:=10) (N:=some 88) (v:=?_) (a':=?_) (bl_ 16 1911) rfl rfl (by kernel_rfl) (fun _ _ _ h=>h) (Or.inl ⟨by rfl,?_⟩) ?_ ?_
    rotate_left
    ·intro w'
     go_simp
     with_reducible rfl
    rotate_left
    ·simp only [Act.put,zA_,zB_,zC_,i64_w]
     rfl
    refine take_ (i:=3) (N:=some 81) (v:=?_) (a':=?_) (bl_ 16 1919) rfl rfl (by kernel_rfl) (fun _ _ _ h=>h) (Or.inl ⟨by rfl,?_⟩) hHeld ?_ ?_
    rotate_left
    ·rintro w' ⟨s0,s1,s2⟩
     go_simp
     with_reducible rfl
    rotate_left
    ·simp only [Act.put,zA_,zB_,zC_,i64_w]
     rfl
    refine take_ (i:=7) (N:=some 85) (v:=?_) (a':=?_) (bl_ 16 2047) rfl rfl (by kernel_rfl) (fun _ _ _ h=>h) (Or.inl ⟨by rfl,?_⟩) hHeld ?_ ?_
    rotate_left
    ·rintro w' ⟨s0,s1,s2⟩
     go_simp
     with_reducible rfl
    rotate_left
    ·simp only [Act.put,zA_,zB_,zC_,i64_w]
     rfl
    refine take_ (i:=11) (N:=some 89) (v:=?_) (a':=?_) (bl_ 16 4095) rfl rfl (by kernel_rfl) (fun _ _ _ h=>h) (Or.inl ⟨by rfl,?_⟩) hHeld ?_ ?_
    rotate_left
    ·rintro w' ⟨s0,s1,s2⟩
     go_simp
     with_reducible rfl
    rotate_left
    ·simp only [Act.put,zA_,zB_,zC_,i64_w]
     rfl
    refine pure_ (i:=12) (N:=some 90) (v:=?_) (a':=?_) (bl_ 16 8191) rfl rfl (by kernel_rfl) (fun _ _ _ h=>h) (Or.inl ⟨by rfl,?_⟩) ?_ ?_
    rotate_left
    ·intro w'
     go_simp
     with_reducible rfl
    rotate_left
    ·simp only [Act.put,zA_,zB_,zC_,i64_w]
     rfl
    refine last_ (i:=13) (N:=none) (bl_ 16 16383) rfl rfl (by kernel_rfl) (by decide) (fun K hK=>?_)
    refine skip_ (w1:=((u7.setCell ⟨w.heap.size+1,0,none⟩ (.int .i64 (R.stack:Nat))).setCell ⟨w.heap.size+1,1,none⟩ (.int .i64 (R.rounds:Nat))).setCell ⟨w.heap.size+1,2,none⟩ (.int .i64 (R.kind:Nat))) (by rfl) rfl (by go_simp) ?_
    refine hK.out _ _ ?_
    clear hK K
    refine pure_ (i:=14) (N:=some 3) (v:=?_) (a':=?_) (bl_ 16 32767) rfl rfl (by kernel_rfl) (fun _ _ _ h=>h) (Or.inl ⟨by rfl,?_⟩) ?_ ?_
    rotate_left
    ·intro w'
     go_simp
     with_reducible rfl
    rotate_left
    ·simp only [Act.put,zA_,zB_,zC_,i64_w]
     rfl
    refine pure_ (i:=15) (N:=some 4) (v:=?_) (a':=?_) (bl_ 16 65535) rfl rfl (by kernel_rfl) (fun _ _ _ h=>h) (Or.inl ⟨by rfl,?_⟩) ?_ ?_
    rotate_left
    ·intro w'
     go_simp
     with_reducible rfl
    rotate_left
    ·simp only [Act.put,zA_,zB_,zC_,i64_w]
     rfl
    refine done_ (by kernel_rfl) ?_
    go_wp2_with fail
    have hk1:=blk_put (blk_put (blk_put HS.out.k1 0 (.int .i64 (R.stack:Nat)) rfl) 1 (.int .i64 (R.rounds:Nat)) rfl) 2 (.int .i64 (R.kind:Nat)) rfl
    have HB3:=((HS.out.h.b.setCell (p:=⟨w.heap.size+1,0,none⟩) (Nat.le_succ _) (.int .i64 (R.stack:Nat))).setCell (p:=⟨w.heap.size+1,1,none⟩) (Nat.le_succ _) (.int .i64 (R.rounds:Nat))).setCell (p:=⟨w.heap.size+1,2,none⟩) (Nat.le_succ _) (.int .i64 (R.kind:Nat))
    exact bodyPost_ret (res10 hk1 rfl rfl rfl) rfl ⟨by rw [ho]; rfl,HB3⟩
end Go.Proofs.YtcmdjpolgaejoaaDoor.Gd
namespace Go.Proofs.YtcmdjpolgaejoaaDoor.Gd
open Go.RowKit Go.Proofs.YtcmdjpolgaejoaaDoorW.PrintWords Go.Proofs.YtcmdjpolgaejoaaDoorW.PrintLast Go.Proofs.YtcmdjpolgaejoaaDoorW.PrintMore Go.Proofs.YtcmdjpolgaejoaaDoor.Code Go.Proofs.YtcmdjpolgaejoaaDoor.C Go.Proofs.YtcmdjpolgaejoaaDoor.Pack
set_option linter.unusedVariables false
set_option linter.unusedSimpArgs false
theorem parts_at {w:World} (hG:Glob w) {x:Int} (h0:0≤x) (h1:x≤18446744073709551615):PartsAt w x (ptx x).1 (ptx x).2.1 (ptx x).2.2:=fun W hb=>by
 obtain ⟨e1,e2,e3⟩:=ptx_cast h0
 rw [e1,e2,e3]
 exact pack_Parts.calls x _ _ _ W (hG.below hb) (parts_f h0 h1)
theorem code_ok {C:Cv} {w:World} (hr:C.Reads w) (h:rightS C.l0 C.l1 C.l2 C.l3=true):CodeOk C (cellOf C.l3) w :=
 ⟨hr,(right_parts h).1.2.2.2.2,(right_parts h).1.2.1,fun a ha=>(cell_at h a ha).1,fun a ha=>(cell_at h a ha).2⟩
theorem verify_all (C:Cv) (w:World) (hr:C.Reads w) (hU:U64 C.l0) (hG:Glob w) :
  Calls Tryd.prog 12 #[.agg #[.slice C.A0 C.l0.length C.c0,.slice C.A1 C.l1.length C.c1,.slice C.A2 C.l2.length C.c2,.slice C.A3 C.l3.length C.c3]] w fun e w'=>e=.returned (outV (verifyS C.l0 C.l1 C.l2 C.l3))∧Below w.heap.size w w':=by
 have hR:=right_at C w hr hU hG
 unfold verifyS
 by_cases h:rightS C.l0 C.l1 C.l2 C.l3=true
 ·rw [if_pos h]
  rw [h] at hR
  exact verify_calls C (cellOf C.l3) (pto C.l0) w (code_ok hr h) (right_parts h).1.1 (fun a ha=>parts_at hG (hU _ (rd_mem ha)).1 (hU _ (rd_mem ha)).2) (fun a ha=>ops_at hU h a ha) hR _ _ (verR_run C.l0 C.l3)
 ·rw [if_neg h]
  rw [Bool.eq_false_iff.2 h] at hR
  exact verify_form C w hR
theorem verify_at (A0:Option Addr) (c0:Nat) (l0:List Int) (A1:Option Addr) (c1:Nat) (l1:List Int) (A2:Option Addr) (c2:Nat) (l2:List ByteArray) (A3:Option Addr) (c3:Nat) (l3:List Int) (s r k e a:Int) (w:World)
  (hr0:Kd.C (Kd.int .u64) w A0 l0.length l0) (hc0:l0.length≤c0) (hr1:Kd.C (Kd.int .i64) w A1 l1.length l1) (hc1:l1.length≤c1) (hr2:Kd.C Kd.string w A2 l2.length l2) (hc2:l2.length≤c2) (hr3:Kd.C (Kd.int .i64) w A3 l3.length l3) (hc3:l3.length≤c3)
  (hU:U64 l0) (hG:Glob w) (hv:verifyS l0 l1 l2 l3=(s,r,k,e,a)) :
  Calls Tryd.prog 12 #[.agg #[.slice A0 l0.length c0,.slice A1 l1.length c1,.slice A2 l2.length c2,.slice A3 l3.length c3]] w fun x w'=>x=.returned (.tuple #[.agg #[.int .i64 s,.int .i64 r,.int .i64 k],.int .i64 e,.int .i64 a])∧Below w.heap.size w w':=by
 have h:=verify_all ⟨A0,c0,l0,A1,c1,l1,A2,c2,l2,A3,c3,l3⟩ w ⟨hr0,hc0,hr1,hc1,hr2,hc2,hr3,hc3⟩ hU hG
 simp only at h
 rw [hv] at h
 exact h
def awRaws:List SRaw:=[⟨1,0,1⟩,⟨1,1,1⟩,⟨6,0,0⟩,⟨0,0,0⟩]
def awWs:List Int:=[72057594037927937,72057594306363393,432345564227567616,0]
def awRaws2:List SRaw:=[⟨6,0,0⟩,⟨0,0,0⟩]
def awWs2:List Int:=[432345564227567616,0]
theorem aw1:verifyS awWs [1,2] [] []=(2,0,1,0,0):=by decide +kernel
theorem aw2:verifyS awWs2 [] [] []=(0,0,0,201,0):=by decide +kernel
theorem awc1:isthmuslaw18_Code.f awRaws true=some awWs:=by decide +kernel
theorem awc2:isthmuslaw18_Code.f awRaws2 true=some awWs2:=by decide +kernel
theorem awu1:U64 awWs:=by unfold U64 awWs; intro x hx; simp at hx; omega
theorem awu2:U64 awWs2:=by unfold U64 awWs2; intro x hx; simp at hx; omega
end Go.Proofs.YtcmdjpolgaejoaaDoor.Gd
namespace Go.Proofs.YtcmdjpolgaejoaaDoor.Gd
open Go.RowKit Go.Proofs.YtcmdjpolgaejoaaDoorW.PrintWords Go.Proofs.YtcmdjpolgaejoaaDoorW.PrintLast Go.Proofs.YtcmdjpolgaejoaaDoorW.PrintMore Go.Proofs.YtcmdjpolgaejoaaDoor.Code Go.Proofs.YtcmdjpolgaejoaaDoor.C Go.Proofs.YtcmdjpolgaejoaaDoor.Pack
set_option linter.unusedVariables false
set_option linter.unusedSimpArgs false
theorem start_sim (n:Nat) (hn:1≤n):Sim n (start n) (rcomes (R0 n) 0 ([],0)):=by
 have h0:Sim n { tab:=[],left:=List.replicate n false,at_:=0,word:=0,stack:=0,rounds:=0,kind:=0 } (R0 n):=by
  have hz:∀ a,(R0 n).l.getD a rz=rz:=fun a=>by
   show (List.replicate n rz).getD a rz=rz
   rw [List.getD_eq_getElem?_getD,List.getElem?_replicate]
   split<;>rfl
  refine ⟨?_,?_,fun a ha=>?_,fun a ha=>?_,rfl,rfl,rfl,rfl⟩
  ·show (List.replicate n rz).length=n
   rw [List.length_replicate]
  ·show (List.replicate n false).length=n
   rw [List.length_replicate]
  ·rw [hz]; rfl
  ·rw [hz]
   show (List.replicate n false).getD a false=_
   rw [List.getD_eq_getElem?_getD,List.getElem?_replicate]
   split<;>rfl
 have h:=comes_sim h0 0 (s:=([],0)) (Nat.zero_le _)
 have e:comes n { tab:=[],left:=List.replicate n false,at_:=0,word:=0,stack:=0,rounds:=0,kind:=0 } 0 ([],0)=.ok (start n):=by
  unfold comes
  rw [if_pos (by omega)]
  rfl
 rw [e] at h
 exact h
theorem start_tab (n:Nat):TabOk (start n):=fun b t e=>by
 have e':(if 0=b then some (([],0):St) else none)=some t:=e
 split at e'
 ·cases e'; exact ⟨⟨by simp,by simp⟩,by simp⟩
 ·cases e'
theorem start_idle (n:Nat):Idle (start n):=fun i hi=>absurd hi (Nat.not_lt_zero _)
theorem parts_r {w:World} {x:Int} (h0:0≤x) (h1:x≤18446744073709551615):PartsR w x (ptx x).1 (ptx x).2.1 (ptx x).2.2:=fun W hb=>by
 obtain ⟨e1,e2,e3⟩:=ptx_cast h0
 rw [e1,e2,e3]
 refine (isthmusref01_Parts.calls x _ _ _ W (ref_parts h0 h1)).mono fun e w' h=>⟨h.1,?_⟩
 obtain ⟨nd,rfl⟩:=h.2
 exact pw_below_drewN (Below.refl _ _) _
theorem right_r (C:Cv) (w:World) (hr:C.Reads w) (hw:U64 C.l0):RightR w C (rightS C.l0 C.l1 C.l2 C.l3):=fun W hb=>by
 have h:=hr.below hb
 exact isthmusref18_Right.calls 45000 C.A0 C.c0 C.l0 C.A1 C.c1 C.l1 C.A2 C.c2 C.l2 C.A3 C.c3 C.l3 _ W h.r0 h.h0 h.r1 h.h1 h.r2 h.h2 h.r3 h.h3 (ref_right _ _ _ _ hw (Nat.le_refl _))
theorem rverify_all (C:Cv) (w:World) (hr:C.Reads w) (hU:U64 C.l0) :
  Calls Tryd.prog 10 #[.agg #[.slice C.A0 C.l0.length C.c0,.slice C.A1 C.l1.length C.c1,.slice C.A2 C.l2.length C.c2,.slice C.A3 C.l3.length C.c3]] w fun e w'=>e=.returned (outV (verifyS C.l0 C.l1 C.l2 C.l3))∧Below w.heap.size w w':=by
 have hR:=right_r C w hr hU
 unfold verifyS
 by_cases h:rightS C.l0 C.l1 C.l2 C.l3=true
 ·rw [if_pos h]
  rw [h] at hR
  have hn:=(right_parts h).1.1
  obtain ⟨g,r',hg,hb⟩:=run_sim (cell:=cellOf C.l3) (pt:=pto C.l0) (fun a ha=>by
   have o:=ops_at hU h a ha
   exact ⟨o.1,o.2.1,fun h17=>(cell_at h _ (o.2.2.1 (Or.inl h17))).2⟩) _ _ _ _ 0 (verR_run C.l0 C.l3) (start_sim _ hn) (start_tab _) (start_idle _) (fun i hi=>absurd hi (Nat.not_lt_zero _)) (Nat.zero_le _)
  rw [← out_both hb]
  exact rverify_calls C (cellOf C.l3) (pto C.l0) w (code_ok hr h) hn (fun a ha=>parts_r (hU _ (rd_mem ha)).1 (hU _ (rd_mem ha)).2) (fun a ha=>ops_at hU h a ha) hR r' g hg
 ·rw [if_neg h]
  rw [Bool.eq_false_iff.2 h] at hR
  exact rverify_form C w hR
theorem rverify_at (A0:Option Addr) (c0:Nat) (l0:List Int) (A1:Option Addr) (c1:Nat) (l1:List Int) (A2:Option Addr) (c2:Nat) (l2:List ByteArray) (A3:Option Addr) (c3:Nat) (l3:List Int) (s r k e a:Int) (w:World)
  (hr0:Kd.C (Kd.int .u64) w A0 l0.length l0) (hc0:l0.length≤c0) (hr1:Kd.C (Kd.int .i64) w A1 l1.length l1) (hc1:l1.length≤c1) (hr2:Kd.C Kd.string w A2 l2.length l2) (hc2:l2.length≤c2) (hr3:Kd.C (Kd.int .i64) w A3 l3.length l3) (hc3:l3.length≤c3)
  (hU:U64 l0) (hv:verifyS l0 l1 l2 l3=(s,r,k,e,a)) :
  Calls Tryd.prog 10 #[.agg #[.slice A0 l0.length c0,.slice A1 l1.length c1,.slice A2 l2.length c2,.slice A3 l3.length c3]] w fun x w'=>x=.returned (.tuple #[.agg #[.int .i64 s,.int .i64 r,.int .i64 k],.int .i64 e,.int .i64 a])∧Below w.heap.size w w':=by
 have h:=rverify_all ⟨A0,c0,l0,A1,c1,l1,A2,c2,l2,A3,c3,l3⟩ w ⟨hr0,hc0,hr1,hc1,hr2,hc2,hr3,hc3⟩ hU
 simp only at h
 rw [hv] at h
 exact h
end Go.Proofs.YtcmdjpolgaejoaaDoor.Gd
namespace Go.Proofs.YtcmdjpolgaejoaaDoor.C
open Go.RowKit Go.Proofs.YtcmdjpolgaejoaaDoorW.PrintWords Go.Proofs.YtcmdjpolgaejoaaDoorW.PrintLast Go.Proofs.YtcmdjpolgaejoaaDoorW.PrintMore
set_option linter.unusedVariables false
set_option linter.unusedSimpArgs false
def msr (n:Nat) (v:Value):Nat:=n - (intOf v).toNat
theorem msr_lt {n j:Nat} {x:Int} (e:x=(j:Int)+1) (h:j+1≤n):msr n (.int .i64 x) < msr n (.int .i64 (j:Nat)):=by
 unfold msr intOf
 simp only
 omega
theorem wrap_n1 (j:Nat) (h:j < 9223372036854775807):wrap64 ((j:Int)+1)=(j:Int)+1:=by unfold wrap64; omega
set_option maxHeartbeats 8000000 in
set_option maxRecDepth 100000 in
theorem same_calls (l0 l1:List Int) (l2:List ByteArray) (l3:List Int) (A0 B0:Option Addr) (c0 d0:Nat) (A1 B1:Option Addr) (c1 d1:Nat) (A2 B2:Option Addr) (c2 d2:Nat) (A3 B3:Option Addr) (c3 d3:Nat) (w:World) (ha0:Kd.C (Kd.int .u64) w A0 l0.length l0) (hb0:Kd.C (Kd.int .u64) w B0 l0.length l0) (ha1:Kd.C (Kd.int .i64) w A1 l1.length l1) (hb1:Kd.C (Kd.int .i64) w B1 l1.length l1) (ha2:Kd.C Kd.string w A2 l2.length l2) (hb2:Kd.C Kd.string w B2 l2.length l2) (ha3:Kd.C (Kd.int .i64) w A3 l3.length l3) (hb3:Kd.C (Kd.int .i64) w B3 l3.length l3) :
  Calls Tryd.prog 27 #[.agg #[.slice A0 l0.length c0,.slice A1 l1.length c1,.slice A2 l2.length c2,.slice A3 l3.length c3],.agg #[.slice B0 l0.length d0,.slice B1 l1.length d1,.slice B2 l2.length d2,.slice B3 l3.length d3]] w fun e w'=>e=.returned (.bool true)∧Below w.heap.size w w':=by
 have HA0:=Aside0.mk ha0
 have HB0:=Aside0.mk hb0
 have HA1:=Aside0.mk ha1
 have HB1:=Aside0.mk hb1
 have HA2:=Aside0.mk ha2
 have HB2:=Aside0.mk hb2
 have HA3:=Aside0.mk ha3
 have HB3:=Aside0.mk hb3
 have hB0:=Aside0.mk (below_alloc (below_alloc (Below.refl w.heap.size w) (.cells #[.slice A0 l0.length c0,.slice A1 l1.length c1,.slice A2 l2.length c2,.slice A3 l3.length c3] 26)) (.cells #[.slice B0 l0.length d0,.slice B1 l1.length d1,.slice B2 l2.length d2,.slice B3 l3.length d3] 26))
 have BX:=Aside0.mk (blk_alloc (heap_alloc_new w (.cells #[.slice A0 l0.length c0,.slice A1 l1.length c1,.slice A2 l2.length c2,.slice A3 l3.length c3] 26)) (.cells #[.slice B0 l0.length d0,.slice B1 l1.length d1,.slice B2 l2.length d2,.slice B3 l3.length d3] 26))
 have zs:(w.alloc (.cells #[.slice A0 l0.length c0,.slice A1 l1.length c1,.slice A2 l2.length c2,.slice A3 l3.length c3] 26)).heap.size=w.heap.size+1:=by simp
 have bz:=heap_alloc_new (w.alloc (.cells #[.slice A0 l0.length c0,.slice A1 l1.length c1,.slice A2 l2.length c2,.slice A3 l3.length c3] 26)) (.cells #[.slice B0 l0.length d0,.slice B1 l1.length d1,.slice B2 l2.length d2,.slice B3 l3.length d3] 26)
 rw [zs] at bz
 have BZ:=Aside0.mk bz
 have HW:=Aside0.mk (Below.refl ((w.alloc (.cells #[.slice A0 l0.length c0,.slice A1 l1.length c1,.slice A2 l2.length c2,.slice A3 l3.length c3] 26)).alloc (.cells #[.slice B0 l0.length d0,.slice B1 l1.length d1,.slice B2 l2.length d2,.slice B3 l3.length d3] 26)).heap.size ((w.alloc (.cells #[.slice A0 l0.length c0,.slice A1 l1.length c1,.slice A2 l2.length c2,.slice A3 l3.length c3] 26)).alloc (.cells #[.slice B0 l0.length d0,.slice B1 l1.length d1,.slice B2 l2.length d2,.slice B3 l3.length d3] 26)))
 have y0:=blk_cell BX.out 0
 have z0:=blk_cell bz 0
 have y1:=blk_cell BX.out 1
 have z1:=blk_cell bz 1
 have y2:=blk_cell BX.out 2
 have z2:=blk_cell bz 2
 have y3:=blk_cell BX.out 3
 have z3:=blk_cell bz 3
 clear zs bz ha0 ha1 ha2 ha3 hb0 hb1 hb2 hb3
 go_enter Tryd.func27,Tryd.ntmps27
 go_wp2_with fail
 go_loopw [5] (fun v w'=>∃ j:Nat,v=.int .i64 (j:Nat)∧j≤l0.length∧Aside0 (Below ((w.alloc (.cells #[.slice A0 l0.length c0,.slice A1 l1.length c1,.slice A2 l2.length c2,.slice A3 l3.length c3] 26)).alloc (.cells #[.slice B0 l0.length d0,.slice B1 l1.length d1,.slice B2 l2.length d2,.slice B3 l3.length d3] 26)).heap.size ((w.alloc (.cells #[.slice A0 l0.length c0,.slice A1 l1.length c1,.slice A2 l2.length c2,.slice A3 l3.length c3] 26)).alloc (.cells #[.slice B0 l0.length d0,.slice B1 l1.length d1,.slice B2 l2.length d2,.slice B3 l3.length d3] 26)) w')) (fun v _=>msr l0.length v)
 case atStart=>exact ⟨0,rfl,Nat.zero_le _,HW⟩
 case round =>
  clear y0 y1 y2 y3 z0 z1 z2 z3 HW
  obtain ⟨j,rfl,hj,HW⟩:=hrel
  have bx:=blk_below BX.out HW.out
  have bz:=blk_below BZ.out HW.out
  have y0:=blk_cell bx 0
  have z0:=blk_cell bz 0
  have y1:=blk_cell bx 1
  have z1:=blk_cell bz 1
  have y2:=blk_cell bx 2
  have z2:=blk_cell bz 2
  have y3:=blk_cell bx 3
  have z3:=blk_cell bz 3
  clear bx bz
  by_cases hlt:j < l0.length
  ·have hm:=HA0.out.2.1
   obtain ⟨ad,ea,hx⟩:=Kd.at_int (Kd.C_below (Kd.C_below HA0.out hB0.out) HW.out) (j:Int) (Int.natCast_nonneg j) (by omega)
   obtain ⟨bd,eb,hz⟩:=Kd.at_int (Kd.C_below (Kd.C_below HB0.out hB0.out) HW.out) (j:Int) (Int.natCast_nonneg j) (by omega)
   replace y0:wr.cell? ⟨w.heap.size,0,none⟩=some (.slice (some ad) l0.length c0):=by rw [← ea]; exact y0
   replace z0:wr.cell? ⟨w.heap.size+1,0,none⟩=some (.slice (some bd) l0.length d0):=by rw [← eb]; exact z0
   replace hx:wr.cell? (ad.add j)=_:=hx
   replace hz:wr.cell? (bd.add j)=_:=hz
   have ej:wrap64 ((j:Int)+1)=(j:Int)+1:=wrap_n1 j (by omega)
   clear ea eb hm
   have hlt1:j+1≤l0.length:=hlt
   go_wp2_with fail
   go_quiet (fail)
   go_wp2_with fail
   go_roundw
   case rel=>exact ⟨j+1,(congrArg (Value.int .i64) ej),by clear ej; omega,⟨pw_below_drewN HW.out _⟩⟩
   case measure=>exact msr_lt ej hlt1
  ·go_wp2_with fail
   go_loopw [6] (fun v w'=>∃ j:Nat,v=.int .i64 (j:Nat)∧j≤l1.length∧Aside0 (Below ((w.alloc (.cells #[.slice A0 l0.length c0,.slice A1 l1.length c1,.slice A2 l2.length c2,.slice A3 l3.length c3] 26)).alloc (.cells #[.slice B0 l0.length d0,.slice B1 l1.length d1,.slice B2 l2.length d2,.slice B3 l3.length d3] 26)).heap.size ((w.alloc (.cells #[.slice A0 l0.length c0,.slice A1 l1.length c1,.slice A2 l2.length c2,.slice A3 l3.length c3] 26)).alloc (.cells #[.slice B0 l0.length d0,.slice B1 l1.length d1,.slice B2 l2.length d2,.slice B3 l3.length d3] 26)) w')) (fun v _=>msr l1.length v)
   case atStart=>exact ⟨0,rfl,Nat.zero_le _,HW⟩
   case round =>
    clear y0 y1 y2 y3 z0 z1 z2 z3 HW
    obtain ⟨j,rfl,hj,HW⟩:=hrel
    have bx:=blk_below BX.out HW.out
    have bz:=blk_below BZ.out HW.out
    have y0:=blk_cell bx 0
    have z0:=blk_cell bz 0
    have y1:=blk_cell bx 1
    have z1:=blk_cell bz 1
    have y2:=blk_cell bx 2
    have z2:=blk_cell bz 2
    have y3:=blk_cell bx 3
    have z3:=blk_cell bz 3
    clear bx bz
    by_cases hlt:j < l1.length
    ·have hm:=HA1.out.2.1
     obtain ⟨ad,ea,hx⟩:=Kd.at_int (Kd.C_below (Kd.C_below HA1.out hB0.out) HW.out) (j:Int) (Int.natCast_nonneg j) (by omega)
     obtain ⟨bd,eb,hz⟩:=Kd.at_int (Kd.C_below (Kd.C_below HB1.out hB0.out) HW.out) (j:Int) (Int.natCast_nonneg j) (by omega)
     replace y1:wr.cell? ⟨w.heap.size,1,none⟩=some (.slice (some ad) l1.length c1):=by rw [← ea]; exact y1
     replace z1:wr.cell? ⟨w.heap.size+1,1,none⟩=some (.slice (some bd) l1.length d1):=by rw [← eb]; exact z1
     replace hx:wr.cell? (ad.add j)=_:=hx
     replace hz:wr.cell? (bd.add j)=_:=hz
     have ej:wrap64 ((j:Int)+1)=(j:Int)+1:=wrap_n1 j (by omega)
     clear ea eb hm
     have hlt1:j+1≤l1.length:=hlt
     go_wp2_with fail
     go_quiet (fail)
     go_wp2_with fail
     go_roundw
     case rel=>exact ⟨j+1,(congrArg (Value.int .i64) ej),by clear ej; omega,⟨pw_below_drewN HW.out _⟩⟩
     case measure=>exact msr_lt ej hlt1
    ·go_wp2_with fail
     go_loopw [7] (fun v w'=>∃ j:Nat,v=.int .i64 (j:Nat)∧j≤l2.length∧Aside0 (Below ((w.alloc (.cells #[.slice A0 l0.length c0,.slice A1 l1.length c1,.slice A2 l2.length c2,.slice A3 l3.length c3] 26)).alloc (.cells #[.slice B0 l0.length d0,.slice B1 l1.length d1,.slice B2 l2.length d2,.slice B3 l3.length d3] 26)).heap.size ((w.alloc (.cells #[.slice A0 l0.length c0,.slice A1 l1.length c1,.slice A2 l2.length c2,.slice A3 l3.length c3] 26)).alloc (.cells #[.slice B0 l0.length d0,.slice B1 l1.length d1,.slice B2 l2.length d2,.slice B3 l3.length d3] 26)) w')) (fun v _=>msr l2.length v)
     case atStart=>exact ⟨0,rfl,Nat.zero_le _,HW⟩
     case round =>
      clear y0 y1 y2 y3 z0 z1 z2 z3 HW
      obtain ⟨j,rfl,hj,HW⟩:=hrel
      have bx:=blk_below BX.out HW.out
      have bz:=blk_below BZ.out HW.out
      have y0:=blk_cell bx 0
      have z0:=blk_cell bz 0
      have y1:=blk_cell bx 1
      have z1:=blk_cell bz 1
      have y2:=blk_cell bx 2
      have z2:=blk_cell bz 2
      have y3:=blk_cell bx 3
      have z3:=blk_cell bz 3
      clear bx bz
      by_cases hlt:j < l2.length
      ·have hm:=HA2.out.2.1
       obtain ⟨ad,ea,hx⟩:=Kd.at_string (Kd.C_below (Kd.C_below HA2.out hB0.out) HW.out) (j:Int) (Int.natCast_nonneg j) (by omega)
       obtain ⟨bd,eb,hz⟩:=Kd.at_string (Kd.C_below (Kd.C_below HB2.out hB0.out) HW.out) (j:Int) (Int.natCast_nonneg j) (by omega)
       replace y2:wr.cell? ⟨w.heap.size,2,none⟩=some (.slice (some ad) l2.length c2):=by rw [← ea]; exact y2
       replace z2:wr.cell? ⟨w.heap.size+1,2,none⟩=some (.slice (some bd) l2.length d2):=by rw [← eb]; exact z2
       replace hx:wr.cell? (ad.add j)=_:=hx
       replace hz:wr.cell? (bd.add j)=_:=hz
       have ej:wrap64 ((j:Int)+1)=(j:Int)+1:=wrap_n1 j (by omega)
       clear ea eb hm
       have hlt1:j+1≤l2.length:=hlt
       go_wp2_with fail
       go_quiet (fail)
       go_wp2_with fail
       go_roundw
       case rel=>exact ⟨j+1,(congrArg (Value.int .i64) ej),by clear ej; omega,⟨pw_below_drewN HW.out _⟩⟩
       case measure=>exact msr_lt ej hlt1
      ·go_wp2_with fail
       go_loopw [8] (fun v w'=>∃ j:Nat,v=.int .i64 (j:Nat)∧j≤l3.length∧Aside0 (Below ((w.alloc (.cells #[.slice A0 l0.length c0,.slice A1 l1.length c1,.slice A2 l2.length c2,.slice A3 l3.length c3] 26)).alloc (.cells #[.slice B0 l0.length d0,.slice B1 l1.length d1,.slice B2 l2.length d2,.slice B3 l3.length d3] 26)).heap.size ((w.alloc (.cells #[.slice A0 l0.length c0,.slice A1 l1.length c1,.slice A2 l2.length c2,.slice A3 l3.length c3] 26)).alloc (.cells #[.slice B0 l0.length d0,.slice B1 l1.length d1,.slice B2 l2.length d2,.slice B3 l3.length d3] 26)) w')) (fun v _=>msr l3.length v)
       case atStart=>exact ⟨0,rfl,Nat.zero_le _,HW⟩
       case round =>
        clear y0 y1 y2 y3 z0 z1 z2 z3 HW
        obtain ⟨j,rfl,hj,HW⟩:=hrel
        have bx:=blk_below BX.out HW.out
        have bz:=blk_below BZ.out HW.out
        have y0:=blk_cell bx 0
        have z0:=blk_cell bz 0
        have y1:=blk_cell bx 1
        have z1:=blk_cell bz 1
        have y2:=blk_cell bx 2
        have z2:=blk_cell bz 2
        have y3:=blk_cell bx 3
        have z3:=blk_cell bz 3
        clear bx bz
        by_cases hlt:j < l3.length
        ·have hm:=HA3.out.2.1
         obtain ⟨ad,ea,hx⟩:=Kd.at_int (Kd.C_below (Kd.C_below HA3.out hB0.out) HW.out) (j:Int) (Int.natCast_nonneg j) (by omega)
         obtain ⟨bd,eb,hz⟩:=Kd.at_int (Kd.C_below (Kd.C_below HB3.out hB0.out) HW.out) (j:Int) (Int.natCast_nonneg j) (by omega)
         replace y3:wr.cell? ⟨w.heap.size,3,none⟩=some (.slice (some ad) l3.length c3):=by rw [← ea]; exact y3
         replace z3:wr.cell? ⟨w.heap.size+1,3,none⟩=some (.slice (some bd) l3.length d3):=by rw [← eb]; exact z3
         replace hx:wr.cell? (ad.add j)=_:=hx
         replace hz:wr.cell? (bd.add j)=_:=hz
         have ej:wrap64 ((j:Int)+1)=(j:Int)+1:=wrap_n1 j (by omega)
         clear ea eb hm
         have hlt1:j+1≤l3.length:=hlt
         go_wp2_with fail
         go_quiet (fail)
         go_wp2_with fail
         go_roundw
         case rel=>exact ⟨j+1,(congrArg (Value.int .i64) ej),by clear ej; omega,⟨pw_below_drewN HW.out _⟩⟩
         case measure=>exact msr_lt ej hlt1
        ·go_wp2_with fail
         go_ret
         exact ⟨rfl,below_then hB0.out hB0.out.size HW.out⟩
end Go.Proofs.YtcmdjpolgaejoaaDoor.C
namespace Go.Proofs.YtcmdjpolgaejoaaDoor.C
open Go.RowKit Go.Proofs.YtcmdjpolgaejoaaDoorW.PrintWords Go.Proofs.YtcmdjpolgaejoaaDoorW.PrintLast Go.Proofs.YtcmdjpolgaejoaaDoorW.PrintMore
attribute [local go_sem] max2_int min2_int max_two min_two max_three min_three max_four min_four
set_option linter.unusedVariables false
set_option linter.unusedSimpArgs false
theorem info63_:(Tryd.prog.info? 63).map (fun i=>(i.zero,i.size,i.bytes))=some (some (.int .u64 0),1,8):=by kernel_rfl
theorem info3_:(Tryd.prog.info? 3).map (fun i=>(i.zero,i.size,i.bytes))=some (some (.int .i64 0),1,8):=by kernel_rfl
theorem info9_:(Tryd.prog.info? 9).map (fun i=>(i.zero,i.size,i.bytes))=some (some (.string ByteArray.empty),1,16):=by kernel_rfl
theorem cut2 {P:Program} (t e:TypeId) {i:TypeInfo} (ht:P.underlying t=some (.slice e)) (hi:P.info? e=some i) (A:Option Addr) (n c m:Nat) (h:m≤c) :
  ∀ W:World,(Instr.slice t (.slice A n c) none (some (.int .i64 (m:Int))) none).run P W=.ok (.slice A m c) W:=by
 have hel:P.elem t=e:=by simp [Program.elem,ht]
 have hu:P.underlying t=some (.slice (P.elem t)):=by rw [hel]; exact ht
 have ha:(A.map fun x=>x.add 0)=A:=by cases A<;>simp [Addr.add]
 intro W
 simp [Instr.slice,run_underlying hu,Instr.sliceBounds,run_sliceBound,sliced,hel,sizeOf,typeInfo,hi,Result.andThen,ha,h]
theorem lent_row {α:Type} (enc:α→Value) (h1:∀ x,(enc x).oneCell'=true) {e base:Nat} {w:World} {v:Value} {l:List α} {x:α} (ho:w.ownsRow base e 1 v (l.length+1) (encs enc l++[enc x])) :
  ∃ g c,v=.slice (some ⟨g,0,none⟩) (l.length+1) c∧base≤g∧l.length+1≤c∧(Kd.scalar enc h1).C w (some ⟨g,0,none⟩) (l++[x]).length (l++[x]):=by
 obtain ⟨g,c,rfl,_,_⟩:=ho.form (by omega)
 have e1:(l++[x]).length=l.length+1:=by simp
 have e2:encs enc (l++[x])=encs enc l++[enc x]:=by simp [encs]
 have ho':w.ownsRow base e 1 (.slice (some ⟨g,0,none⟩) (l.length+1) c) (l++[x]).length (encs enc (l++[x])):=by rw [e1,e2]; exact ho
 obtain ⟨A,c',ev,hl,hC⟩:=Kd.R_reads (Kd.R_of_own (h1:=h1) (ok:=fun _=>True) ho' (fun _ _=>trivial))
 injection ev with ea en ec
 subst ea ec
 exact ⟨g,c,rfl,own_base ho g rfl,by omega,hC⟩
theorem keep_set4 (W:World) (g:Nat) (v0 v1 v2 v3:Value):KeepBut W ((((W.setCell ⟨g,0,none⟩ v0).setCell ⟨g,1,none⟩ v1).setCell ⟨g,2,none⟩ v2).setCell ⟨g,3,none⟩ v3) g none :=
 ⟨by simp [World.setCell],fun k _ hk _=>((Below.heap_setCell _ _ _ k hk).trans (Below.heap_setCell _ _ _ k hk)).trans ((Below.heap_setCell _ _ _ k hk).trans (Below.heap_setCell _ _ _ k hk))⟩
theorem C_init {α:Type} {d:Kd α} {w:World} {A:Option Addr} {l:List α} {x:α} (h:d.C w A (l++[x]).length (l++[x])):d.C w A l.length l:=by
 have:=Kd.C_take (m:=l.length) h (by simp)
 rwa [List.take_left' rfl] at this
theorem C_last {α:Type} {enc:α→Value} {h1:∀ x,(enc x).oneCell'=true} {w:World} {A:Option Addr} {l:List α} {x:α} (h:(Kd.scalar enc h1).C w A (l++[x]).length (l++[x])):∃ ad,A=some ad∧w.cell? (ad.add l.length)=some (enc x):=by
 obtain ⟨ad,e,hc⟩:=(Kd.reads_of_C (d:=x) h).2.2 (by simp)
 refine ⟨ad,e,?_⟩
 have:=hc l.length (by simp)
 simpa [List.getD] using this
set_option maxHeartbeats 8000000 in
set_option maxRecDepth 100000 in
theorem isthmuslaw18_Lent.calls (A0_0:Option Addr) (c0_0:Nat) (l0_0:List Int) (A0_1:Option Addr) (c0_1:Nat) (l0_1:List Int) (A0_2:Option Addr) (c0_2:Nat) (l0_2:List ByteArray) (A0_3:Option Addr) (c0_3:Nat) (l0_3:List Int) (w:World) (hr0_0:Kd.C (Kd.int .u64) w A0_0 l0_0.length l0_0) (hc0_0:l0_0.length≤c0_0) (hr0_1:Kd.C (Kd.int .i64) w A0_1 l0_1.length l0_1) (hc0_1:l0_1.length≤c0_1) (hr0_2:Kd.C Kd.string w A0_2 l0_2.length l0_2) (hc0_2:l0_2.length≤c0_2) (hr0_3:Kd.C (Kd.int .i64) w A0_3 l0_3.length l0_3) (hc0_3:l0_3.length≤c0_3) (hz:l0_0.length*8≤140737488351232∧l0_1.length*8≤140737488351232∧l0_2.length*16≤140737488351232∧l0_3.length*8≤140737488351232) :
  Calls Tryd.prog 11 #[.agg #[.slice A0_0 l0_0.length c0_0,.slice A0_1 l0_1.length c0_1,.slice A0_2 l0_2.length c0_2,.slice A0_3 l0_3.length c0_3]] w fun e w'=>∃ g0 d0 g1 d1 g2 d2 g3 d3,e=.returned (.agg #[.slice (some ⟨g0,0,none⟩) l0_0.length d0,.slice (some ⟨g1,0,none⟩) l0_1.length d1,.slice (some ⟨g2,0,none⟩) l0_2.length d2,.slice (some ⟨g3,0,none⟩) l0_3.length d3])∧l0_0.length+1≤d0∧Kd.C (Kd.int .u64) w' (some ⟨g0,0,none⟩) (l0_0++[7]).length (l0_0++[7])∧l0_1.length+1≤d1∧Kd.C (Kd.int .i64) w' (some ⟨g1,0,none⟩) (l0_1++[(-7)]).length (l0_1++[(-7)])∧l0_2.length+1≤d2∧Kd.C Kd.string w' (some ⟨g2,0,none⟩) (l0_2++[(⟨#[98,101,104,105,110,100]⟩:ByteArray)]).length (l0_2++[(⟨#[98,101,104,105,110,100]⟩:ByteArray)])∧l0_3.length+1≤d3∧Kd.C (Kd.int .i64) w' (some ⟨g3,0,none⟩) (l0_3++[(-7)]).length (l0_3++[(-7)])∧Below w.heap.size w w':=by
 have HR0:=Aside0.mk hr0_0
 clear hr0_0
 have hz0:=Aside0.mk hz.1
 have HR1:=Aside0.mk hr0_1
 clear hr0_1
 have hz1:=Aside0.mk hz.2.1
 have HR2:=Aside0.mk hr0_2
 clear hr0_2
 have hz2:=Aside0.mk hz.2.2.1
 have HR3:=Aside0.mk hr0_3
 clear hr0_3
 have hz3:=Aside0.mk hz.2.2.2
 clear hz
 have hB0:Aside0 (Below w.heap.size w ((w.alloc (.cells #[.slice A0_0 l0_0.length c0_0,.slice A0_1 l0_1.length c0_1,.slice A0_2 l0_2.length c0_2,.slice A0_3 l0_3.length c0_3] 26)).alloc (.cells #[.slice none 0 0,.slice none 0 0,.slice none 0 0,.slice none 0 0] 26))):=⟨below_alloc (below_alloc (Below.refl _ _) _) _⟩
 have HBX:Aside0 (((w.alloc (.cells #[.slice A0_0 l0_0.length c0_0,.slice A0_1 l0_1.length c0_1,.slice A0_2 l0_2.length c0_2,.slice A0_3 l0_3.length c0_3] 26)).alloc (.cells #[.slice none 0 0,.slice none 0 0,.slice none 0 0,.slice none 0 0] 26)).heap[w.heap.size]? = some (.cells #[.slice A0_0 l0_0.length c0_0,.slice A0_1 l0_1.length c0_1,.slice A0_2 l0_2.length c0_2,.slice A0_3 l0_3.length c0_3] 26 (0,0))):=⟨blk_below (heap_alloc_new w _) (below_alloc (Below.refl _ _) _)⟩
 have HRES:Aside0 (((w.alloc (.cells #[.slice A0_0 l0_0.length c0_0,.slice A0_1 l0_1.length c0_1,.slice A0_2 l0_2.length c0_2,.slice A0_3 l0_3.length c0_3] 26)).alloc (.cells #[.slice none 0 0,.slice none 0 0,.slice none 0 0,.slice none 0 0] 26)).heap[w.heap.size+1]? = some (.cells #[.slice none 0 0,.slice none 0 0,.slice none 0 0,.slice none 0 0] 26 (0,0))):=⟨by
  have:=heap_alloc_new (w.alloc (.cells #[.slice A0_0 l0_0.length c0_0,.slice A0_1 l0_1.length c0_1,.slice A0_2 l0_2.length c0_2,.slice A0_3 l0_3.length c0_3] 26)) (.cells #[.slice none 0 0,.slice none 0 0,.slice none 0 0,.slice none 0 0] 26)
  rwa [show (w.alloc (.cells #[.slice A0_0 l0_0.length c0_0,.slice A0_1 l0_1.length c0_1,.slice A0_2 l0_2.length c0_2,.slice A0_3 l0_3.length c0_3] 26)).heap.size=w.heap.size+1 by simp] at this⟩
 have y0:=blk_cell HBX.out 0
 go_enter Tryd.func11,Tryd.ntmps11
 go_wp2_with (first
  | ((with_reducible refine gate_dst (N:=10) rfl ?_); at_builtin; refine Kd.R_append_row (Value.int .u64) (0:Int) (w0:=((w.alloc (.cells #[.slice A0_0 l0_0.length c0_0,.slice A0_1 l0_1.length c0_1,.slice A0_2 l0_2.length c0_2,.slice A0_3 l0_3.length c0_3] 26)).alloc (.cells #[.slice none 0 0,.slice none 0 0,.slice none 0 0,.slice none 0 0] 26))) ((w.alloc (.cells #[.slice A0_0 l0_0.length c0_0,.slice A0_1 l0_1.length c0_1,.slice A0_2 l0_2.length c0_2,.slice A0_3 l0_3.length c0_3] 26)).alloc (.cells #[.slice none 0 0,.slice none 0 0,.slice none 0 0,.slice none 0 0] 26)).heap.size rfl (.tmp 7) (.tmp 9) 22 63 (.int .u64 0) 8 rfl Tryd.underlying22 info63_ rfl (by decide) (.slice none 0 0) [] l0_0 A0_0 l0_0.length c0_0 (fun _=>True) rfl rfl (fun _ _=>trivial) (Kd.R_nil _ _ _ _ _) (Kd.C_below HR0.out hB0.out) (Below.refl _ _) (Nat.le_refl _) (by have:=hz0.out; simp only [List.length_nil]; omega) ?_; intro va0 wa0 hR_ hb_ hg_ hat_; have hO0:=Aside0.mk (Kd.own_of_R hR_); have hb0:=Aside0.mk hb_; clear hR_ hb_ hg_ hat_)
  | ((with_reducible refine gate_dst (N:=12) rfl ?_); at_builtin; refine print_append_cells ((w.alloc (.cells #[.slice A0_0 l0_0.length c0_0,.slice A0_1 l0_1.length c0_1,.slice A0_2 l0_2.length c0_2,.slice A0_3 l0_3.length c0_3] 26)).alloc (.cells #[.slice none 0 0,.slice none 0 0,.slice none 0 0,.slice none 0 0] 26)).heap.size rfl (.tmp 10) (.tmp 11) 22 63 (.int .u64 0) 1 8 rfl Tryd.underlying22 info63_ rfl (by omega) (by omega) va0 l0_0.length (nums .u64 l0_0) [Value.int .u64 7] rfl rfl rfl (by intro z_ hz_; obtain rfl:=List.mem_singleton.mp hz_; rfl) (by exact hO0.out) hb0.out hb0.out.size (by have:=hz0.out; omega) ?_; intro vb0 w1 ho_ hb_ hg_ hat_; obtain ⟨g0,d0,rfl,hbs_,hl_,hC_⟩:=lent_row (Value.int .u64) (fun _=>rfl) (x:=7) ho_; have hl0:=hl_; have hn0:g0≠w.heap.size+1:=(by have:=blk_lt HRES.out; omega); have hD0:=Aside0.mk hC_; have hB1:=Aside0.mk (below_then hB0.out hB0.out.size hb_); have HBX:=Aside0.mk (blk_below HBX.out hb_); have HRES:=Aside0.mk (blk_below HRES.out hb_); have y1:=blk_cell HBX.out 1; clear ho_ hb_ hg_ hat_ hl_ hC_)
  | ((with_reducible refine gate_dst (N:=16) rfl ?_); at_builtin; refine Kd.R_append_row (Value.int .i64) (0:Int) (w0:=w1) w1.heap.size rfl (.tmp 13) (.tmp 15) 23 3 (.int .i64 0) 8 rfl Tryd.underlying23 info3_ rfl (by decide) (.slice none 0 0) [] l0_1 A0_1 l0_1.length c0_1 (fun _=>True) rfl rfl (fun _ _=>trivial) (Kd.R_nil _ _ _ _ _) (Kd.C_below HR1.out hB1.out) (Below.refl _ _) (Nat.le_refl _) (by have:=hz1.out; simp only [List.length_nil]; omega) ?_; intro va1 wa1 hR_ hb_ hg_ hat_; have hO1:=Aside0.mk (Kd.own_of_R hR_); have hb1:=Aside0.mk hb_; clear hR_ hb_ hg_ hat_)
  | ((with_reducible refine gate_dst (N:=18) rfl ?_); at_builtin; refine print_append_cells w1.heap.size rfl (.tmp 16) (.tmp 17) 23 3 (.int .i64 0) 1 8 rfl Tryd.underlying23 info3_ rfl (by omega) (by omega) va1 l0_1.length (nums .i64 l0_1) [Value.int .i64 (-7)] rfl rfl rfl (by intro z_ hz_; obtain rfl:=List.mem_singleton.mp hz_; rfl) (by exact hO1.out) hb1.out hb1.out.size (by have:=hz1.out; omega) ?_; intro vb1 w2 ho_ hb_ hg_ hat_; obtain ⟨g1,d1,rfl,hbs_,hl_,hC_⟩:=lent_row (Value.int .i64) (fun _=>rfl) (x:=(-7)) ho_; have hl1:=hl_; have hn1:g1≠w.heap.size+1:=(by have:=blk_lt HRES.out; omega); have hD1:=Aside0.mk hC_; have hB2:=Aside0.mk (below_then hB1.out hB1.out.size hb_); have hD0:=Aside0.mk (Kd.C_below hD0.out hb_); have HBX:=Aside0.mk (blk_below HBX.out hb_); have HRES:=Aside0.mk (blk_below HRES.out hb_); have y2:=blk_cell HBX.out 2; clear ho_ hb_ hg_ hat_ hl_ hC_)
  | ((with_reducible refine gate_dst (N:=22) rfl ?_); at_builtin; refine Kd.R_append_row (Value.string) ByteArray.empty (w0:=w2) w2.heap.size rfl (.tmp 19) (.tmp 21) 24 9 (.string ByteArray.empty) 16 rfl Tryd.underlying24 info9_ rfl (by decide) (.slice none 0 0) [] l0_2 A0_2 l0_2.length c0_2 (fun _=>True) rfl rfl (fun _ _=>trivial) (Kd.R_nil _ _ _ _ _) (Kd.C_below HR2.out hB2.out) (Below.refl _ _) (Nat.le_refl _) (by have:=hz2.out; simp only [List.length_nil]; omega) ?_; intro va2 wa2 hR_ hb_ hg_ hat_; have hO2:=Aside0.mk (Kd.own_of_R hR_); have hb2:=Aside0.mk hb_; clear hR_ hb_ hg_ hat_)
  | ((with_reducible refine gate_dst (N:=24) rfl ?_); at_builtin; refine print_append_cells w2.heap.size rfl (.tmp 22) (.tmp 23) 24 9 (.string ByteArray.empty) 1 16 rfl Tryd.underlying24 info9_ rfl (by omega) (by omega) va2 l0_2.length (encs Value.string l0_2) [Value.string (⟨#[98,101,104,105,110,100]⟩:ByteArray)] rfl rfl rfl (by intro z_ hz_; obtain rfl:=List.mem_singleton.mp hz_; rfl) (by exact hO2.out) hb2.out hb2.out.size (by have:=hz2.out; omega) ?_; intro vb2 w3 ho_ hb_ hg_ hat_; obtain ⟨g2,d2,rfl,hbs_,hl_,hC_⟩:=lent_row (Value.string) (fun _=>rfl) (x:=(⟨#[98,101,104,105,110,100]⟩:ByteArray)) ho_; have hl2:=hl_; have hn2:g2≠w.heap.size+1:=(by have:=blk_lt HRES.out; omega); have hD2:=Aside0.mk hC_; have hB3:=Aside0.mk (below_then hB2.out hB2.out.size hb_); have hD0:=Aside0.mk (Kd.C_below hD0.out hb_); have hD1:=Aside0.mk (Kd.C_below hD1.out hb_); have HBX:=Aside0.mk (blk_below HBX.out hb_); have HRES:=Aside0.mk (blk_below HRES.out hb_); have y3:=blk_cell HBX.out 3; clear ho_ hb_ hg_ hat_ hl_ hC_)
  | ((with_reducible refine gate_dst (N:=28) rfl ?_); at_builtin; refine Kd.R_append_row (Value.int .i64) (0:Int) (w0:=w3) w3.heap.size rfl (.tmp 25) (.tmp 27) 23 3 (.int .i64 0) 8 rfl Tryd.underlying23 info3_ rfl (by decide) (.slice none 0 0) [] l0_3 A0_3 l0_3.length c0_3 (fun _=>True) rfl rfl (fun _ _=>trivial) (Kd.R_nil _ _ _ _ _) (Kd.C_below HR3.out hB3.out) (Below.refl _ _) (Nat.le_refl _) (by have:=hz3.out; simp only [List.length_nil]; omega) ?_; intro va3 wa3 hR_ hb_ hg_ hat_; have hO3:=Aside0.mk (Kd.own_of_R hR_); have hb3:=Aside0.mk hb_; clear hR_ hb_ hg_ hat_)
  | ((with_reducible refine gate_dst (N:=30) rfl ?_); at_builtin; refine print_append_cells w3.heap.size rfl (.tmp 28) (.tmp 29) 23 3 (.int .i64 0) 1 8 rfl Tryd.underlying23 info3_ rfl (by omega) (by omega) va3 l0_3.length (nums .i64 l0_3) [Value.int .i64 (-7)] rfl rfl rfl (by intro z_ hz_; obtain rfl:=List.mem_singleton.mp hz_; rfl) (by exact hO3.out) hb3.out hb3.out.size (by have:=hz3.out; omega) ?_; intro vb3 w4 ho_ hb_ hg_ hat_; obtain ⟨g3,d3,rfl,hbs_,hl_,hC_⟩:=lent_row (Value.int .i64) (fun _=>rfl) (x:=(-7)) ho_; have hl3:=hl_; have hn3:g3≠w.heap.size+1:=(by have:=blk_lt HRES.out; omega); have hD3:=Aside0.mk hC_; have hB4:=Aside0.mk (below_then hB3.out hB3.out.size hb_); have hD0:=Aside0.mk (Kd.C_below hD0.out hb_); have hD1:=Aside0.mk (Kd.C_below hD1.out hb_); have hD2:=Aside0.mk (Kd.C_below hD2.out hb_); have HBX:=Aside0.mk (blk_below HBX.out hb_); have HRES:=Aside0.mk (blk_below HRES.out hb_); have y0:=blk_cell HBX.out 0; clear ho_ hb_ hg_ hat_ hl_ hC_))
 have hk0:=cut2 22 63 Tryd.underlying22 (info_parts info63_).choose_spec.1 (some ⟨g0,0,none⟩) (l0_0.length+1) d0 l0_0.length (by omega)
 have hk1:=cut2 23 3 Tryd.underlying23 (info_parts info3_).choose_spec.1 (some ⟨g1,0,none⟩) (l0_1.length+1) d1 l0_1.length (by omega)
 have hk2:=cut2 24 9 Tryd.underlying24 (info_parts info9_).choose_spec.1 (some ⟨g2,0,none⟩) (l0_2.length+1) d2 l0_2.length (by omega)
 have hk3:=cut2 23 3 Tryd.underlying23 (info_parts info3_).choose_spec.1 (some ⟨g3,0,none⟩) (l0_3.length+1) d3 l0_3.length (by omega)
 refine start_ (n:=22) (S:=fun w'=>w'.cell? ⟨w.heap.size,0,none⟩=some (.slice A0_0 l0_0.length c0_0)∧w'.cell? ⟨w.heap.size,1,none⟩=some (.slice A0_1 l0_1.length c0_1)∧w'.cell? ⟨w.heap.size,2,none⟩=some (.slice A0_2 l0_2.length c0_2)∧w'.cell? ⟨w.heap.size,3,none⟩=some (.slice A0_3 l0_3.length c0_3)) (ds:=[21]) #[false,false,false,false,false,false,false,false,false,false,false,false,false,false,false,false,false,false,false,false,false,false] (by kernel_rfl) rfl rfl ⟨(blk_cell HBX.out 0),(blk_cell HBX.out 1),(blk_cell HBX.out 2),(blk_cell HBX.out 3)⟩ (fun hHeld=>?_)
 have hB5:=hB4.out.drew
 have hD0_:=Kd.C_drew hD0.out
 have hD1_:=Kd.C_drew hD1.out
 have hD2_:=Kd.C_drew hD2.out
 have hD3_:=Kd.C_drew hD3.out
 have hRS:w4.drew.heap[w.heap.size+1]? = _:=HRES.out
 generalize w4.drew=w5 at hHeld hB5 hD0_ hD1_ hD2_ hD3_ hRS ⊢
 have r0:w5.cell? ⟨w.heap.size+1,0,none⟩=some (.slice none 0 0):=blk_cell hRS 0
 have f0:=blk_frozen hRS 0
 have r1:w5.cell? ⟨w.heap.size+1,1,none⟩=some (.slice none 0 0):=blk_cell hRS 1
 have f1:=blk_frozen hRS 1
 have r2:w5.cell? ⟨w.heap.size+1,2,none⟩=some (.slice none 0 0):=blk_cell hRS 2
 have f2:=blk_frozen hRS 2
 have r3:w5.cell? ⟨w.heap.size+1,3,none⟩=some (.slice none 0 0):=blk_cell hRS 3
 have f3:=blk_frozen hRS 3
 refine pure_ (i:=0) (N:=some 31) (v:=?_) (a':=?_) (bl_ 22 1) rfl rfl (by kernel_rfl) (fun _ _ _ h=>h) (Or.inl ⟨by rfl,?_⟩) ?_ ?_
 rotate_left
 ·intro w'
  go_simp
  with_reducible rfl
 rotate_left
 ·simp only [Act.put,zA_,zB_,zC_,i64_w]
  rfl
 refine pure_ (i:=1) (N:=some 32) (v:=?_) (a':=?_) (bl_ 22 3) rfl rfl (by kernel_rfl) (fun _ _ _ h=>h) (Or.inl ⟨by rfl,?_⟩) ?_ ?_
 rotate_left
 ·intro w'
  go_simp
  with_reducible rfl
 rotate_left
 ·simp only [Act.put,zA_,zB_,zC_,i64_w]
  rfl
 refine pure_ (i:=5) (N:=some 36) (v:=?_) (a':=?_) (bl_ 22 35) rfl rfl (by kernel_rfl) (fun _ _ _ h=>h) (Or.inl ⟨by rfl,?_⟩) ?_ ?_
 rotate_left
 ·intro w'
  go_simp
  with_reducible rfl
 rotate_left
 ·simp only [Act.put,zA_,zB_,zC_,i64_w]
  rfl
 refine pure_ (i:=6) (N:=some 37) (v:=?_) (a':=?_) (bl_ 22 99) rfl rfl (by kernel_rfl) (fun _ _ _ h=>h) (Or.inl ⟨by rfl,?_⟩) ?_ ?_
 rotate_left
 ·intro w'
  go_simp
  with_reducible rfl
 rotate_left
 ·simp only [Act.put,zA_,zB_,zC_,i64_w]
  rfl
 refine pure_ (i:=10) (N:=some 41) (v:=?_) (a':=?_) (bl_ 22 1123) rfl rfl (by kernel_rfl) (fun _ _ _ h=>h) (Or.inl ⟨by rfl,?_⟩) ?_ ?_
 rotate_left
 ·intro w'
  go_simp
  with_reducible rfl
 rotate_left
 ·simp only [Act.put,zA_,zB_,zC_,i64_w]
  rfl
 refine pure_ (i:=11) (N:=some 42) (v:=?_) (a':=?_) (bl_ 22 3171) rfl rfl (by kernel_rfl) (fun _ _ _ h=>h) (Or.inl ⟨by rfl,?_⟩) ?_ ?_
 rotate_left
 ·intro w'
  go_simp
  with_reducible rfl
 rotate_left
 ·simp only [Act.put,zA_,zB_,zC_,i64_w]
  rfl
 refine pure_ (i:=15) (N:=some 46) (v:=?_) (a':=?_) (bl_ 22 35939) rfl rfl (by kernel_rfl) (fun _ _ _ h=>h) (Or.inl ⟨by rfl,?_⟩) ?_ ?_
 rotate_left
 ·intro w'
  go_simp
  with_reducible rfl
 rotate_left
 ·simp only [Act.put,zA_,zB_,zC_,i64_w]
  rfl
 refine pure_ (i:=16) (N:=some 47) (v:=?_) (a':=?_) (bl_ 22 101475) rfl rfl (by kernel_rfl) (fun _ _ _ h=>h) (Or.inl ⟨by rfl,?_⟩) ?_ ?_
 rotate_left
 ·intro w'
  go_simp
  with_reducible rfl
 rotate_left
 ·simp only [Act.put,zA_,zB_,zC_,i64_w]
  rfl
 refine take_ (i:=2) (N:=some 33) (v:=?_) (a':=?_) (bl_ 22 101479) rfl rfl (by kernel_rfl) (fun _ _ _ h=>h) (Or.inl ⟨by rfl,?_⟩) hHeld ?_ ?_
 rotate_left
 ·rintro w' ⟨s0,s1,s2,s3⟩
  go_simp
  with_reducible rfl
 rotate_left
 ·simp only [Act.put,zA_,zB_,zC_,i64_w]
  rfl
 refine pure_ (i:=3) (N:=some 34) (v:=?_) (a':=?_) (bl_ 22 101487) rfl rfl (by kernel_rfl) (fun _ _ _ h=>h) (Or.inl ⟨by rfl,?_⟩) ?_ ?_
 rotate_left
 ·intro w'
  go_simp
  with_reducible rfl
 rotate_left
 ·simp only [Act.put,zA_,zB_,zC_,i64_w]
  rfl
 refine pure_ (i:=4) (N:=some 35) (v:=?_) (a':=?_) (bl_ 22 101503) rfl rfl (by kernel_rfl) (fun _ _ _ h=>h) (Or.inl ⟨by rfl,?_⟩) ?_ ?_
 rotate_left
 ·intro w'
  go_simp
  with_reducible rfl
 rotate_left
 ·simp only [Act.put,zA_,zB_,zC_,i64_w]
  rfl
 refine take_ (i:=7) (N:=some 38) (v:=?_) (a':=?_) (bl_ 22 101631) rfl rfl (by kernel_rfl) (fun _ _ _ h=>h) (Or.inl ⟨by rfl,?_⟩) hHeld ?_ ?_
 rotate_left
 ·rintro w' ⟨s0,s1,s2,s3⟩
  go_simp
  with_reducible rfl
 rotate_left
 ·simp only [Act.put,zA_,zB_,zC_,i64_w]
  rfl
 refine pure_ (i:=8) (N:=some 39) (v:=?_) (a':=?_) (bl_ 22 101887) rfl rfl (by kernel_rfl) (fun _ _ _ h=>h) (Or.inl ⟨by rfl,?_⟩) ?_ ?_
 rotate_left
 ·intro w'
  go_simp
  with_reducible rfl
 rotate_left
 ·simp only [Act.put,zA_,zB_,zC_,i64_w]
  rfl
 refine pure_ (i:=9) (N:=some 40) (v:=?_) (a':=?_) (bl_ 22 102399) rfl rfl (by kernel_rfl) (fun _ _ _ h=>h) (Or.inl ⟨by rfl,?_⟩) ?_ ?_
 rotate_left
 ·intro w'
  go_simp
  with_reducible rfl
 rotate_left
 ·simp only [Act.put,zA_,zB_,zC_,i64_w]
  rfl
 refine take_ (i:=12) (N:=some 43) (v:=?_) (a':=?_) (bl_ 22 106495) rfl rfl (by kernel_rfl) (fun _ _ _ h=>h) (Or.inl ⟨by rfl,?_⟩) hHeld ?_ ?_
 rotate_left
 ·rintro w' ⟨s0,s1,s2,s3⟩
  go_simp
  with_reducible rfl
 rotate_left
 ·simp only [Act.put,zA_,zB_,zC_,i64_w]
  rfl
 refine pure_ (i:=13) (N:=some 44) (v:=?_) (a':=?_) (bl_ 22 114687) rfl rfl (by kernel_rfl) (fun _ _ _ h=>h) (Or.inl ⟨by rfl,?_⟩) ?_ ?_
 rotate_left
 ·intro w'
  go_simp
  with_reducible rfl
 rotate_left
 ·simp only [Act.put,zA_,zB_,zC_,i64_w]
  rfl
 refine pure_ (i:=14) (N:=some 45) (v:=?_) (a':=?_) (bl_ 22 131071) rfl rfl (by kernel_rfl) (fun _ _ _ h=>h) (Or.inl ⟨by rfl,?_⟩) ?_ ?_
 rotate_left
 ·intro w'
  go_simp
  with_reducible rfl
 rotate_left
 ·simp only [Act.put,zA_,zB_,zC_,i64_w]
  rfl
 refine take_ (i:=17) (N:=some 48) (v:=?_) (a':=?_) (bl_ 22 262143) rfl rfl (by kernel_rfl) (fun _ _ _ h=>h) (Or.inl ⟨by rfl,?_⟩) hHeld ?_ ?_
 rotate_left
 ·rintro w' ⟨s0,s1,s2,s3⟩
  go_simp
  with_reducible rfl
 rotate_left
 ·simp only [Act.put,zA_,zB_,zC_,i64_w]
  rfl
 refine pure_ (i:=18) (N:=some 49) (v:=?_) (a':=?_) (bl_ 22 524287) rfl rfl (by kernel_rfl) (fun _ _ _ h=>h) (Or.inl ⟨by rfl,?_⟩) ?_ ?_
 rotate_left
 ·intro w'
  go_simp
  with_reducible rfl
 rotate_left
 ·simp only [Act.put,zA_,zB_,zC_,i64_w]
  rfl
 refine pure_ (i:=19) (N:=some 50) (v:=?_) (a':=?_) (bl_ 22 1048575) rfl rfl (by kernel_rfl) (fun _ _ _ h=>h) (Or.inl ⟨by rfl,?_⟩) ?_ ?_
 rotate_left
 ·intro w'
  go_simp
  with_reducible rfl
 rotate_left
 ·simp only [Act.put,zA_,zB_,zC_,i64_w]
  rfl
 refine pure_ (i:=20) (N:=some 51) (v:=?_) (a':=?_) (bl_ 22 2097151) rfl rfl (by kernel_rfl) (fun _ _ _ h=>h) (Or.inl ⟨by rfl,?_⟩) ?_ ?_
 rotate_left
 ·intro w'
  go_simp
  with_reducible rfl
 rotate_left
 ·simp only [Act.put,zA_,zB_,zC_,i64_w]
  rfl
 refine last_ (i:=21) (N:=none) (bl_ 22 4194303) rfl rfl (by kernel_rfl) (by decide) (fun K hK=>?_)
 refine skip_ (w1:=((((w5.setCell ⟨w.heap.size+1,0,none⟩ (.slice (some ⟨g0,0,none⟩) l0_0.length d0)).setCell ⟨w.heap.size+1,1,none⟩ (.slice (some ⟨g1,0,none⟩) l0_1.length d1)).setCell ⟨w.heap.size+1,2,none⟩ (.slice (some ⟨g2,0,none⟩) l0_2.length d2)).setCell ⟨w.heap.size+1,3,none⟩ (.slice (some ⟨g3,0,none⟩) l0_3.length d3))) (by rfl) rfl (by go_simp) ?_
 refine hK.out _ _ ?_
 clear hK K
 refine done_ (by kernel_rfl) ?_
 go_wp2_with fail
 have hK:=keep_set4 w5 (w.heap.size+1) (.slice (some ⟨g0,0,none⟩) l0_0.length d0) (.slice (some ⟨g1,0,none⟩) l0_1.length d1) (.slice (some ⟨g2,0,none⟩) l0_2.length d2) (.slice (some ⟨g3,0,none⟩) l0_3.length d3)
 refine bodyPost_ret (results_cell_row rfl _ _ (w.heap.size+1) 26 #[.slice (some ⟨g0,0,none⟩) l0_0.length d0,.slice (some ⟨g1,0,none⟩) l0_1.length d1,.slice (some ⟨g2,0,none⟩) l0_2.length d2,.slice (some ⟨g3,0,none⟩) l0_3.length d3] (0,0) _ rfl (blk_put (blk_put (blk_put (blk_put hRS 0 _ rfl) 1 _ rfl) 2 _ rfl) 3 _ rfl) Tryd.underlying26 rfl (by kernel_rfl)) rfl ?_
 exact ⟨g0,d0,g1,d1,g2,d2,g3,d3,rfl,hl0,Kd.C_keep (0:Int) hD0_ hK (fun ad e _=>by injection e with e; subst e; exact hn0),hl1,Kd.C_keep (0:Int) hD1_ hK (fun ad e _=>by injection e with e; subst e; exact hn1),hl2,Kd.C_keep ByteArray.empty hD2_ hK (fun ad e _=>by injection e with e; subst e; exact hn2),hl3,Kd.C_keep (0:Int) hD3_ hK (fun ad e _=>by injection e with e; subst e; exact hn3),below_set (below_set (below_set (below_set hB5 (Nat.le_succ _)) (Nat.le_succ _)) (Nat.le_succ _)) (Nat.le_succ _)⟩
set_option maxHeartbeats 8000000 in
set_option maxRecDepth 100000 in
theorem isthmuslaw18_Kept.calls (A0_0:Option Addr) (c0_0:Nat) (l0_0:List Int) (A0_1:Option Addr) (c0_1:Nat) (l0_1:List Int) (A0_2:Option Addr) (c0_2:Nat) (l0_2:List ByteArray) (A0_3:Option Addr) (c0_3:Nat) (l0_3:List Int) (A1_0:Option Addr) (c1_0:Nat) (A1_1:Option Addr) (c1_1:Nat) (A1_2:Option Addr) (c1_2:Nat) (A1_3:Option Addr) (c1_3:Nat) (w:World) (hr0_0:Kd.C (Kd.int .u64) w A0_0 (l0_0++[7]).length (l0_0++[7])) (hc0_0:l0_0.length+1≤c0_0) (hr0_1:Kd.C (Kd.int .i64) w A0_1 (l0_1++[(-7)]).length (l0_1++[(-7)])) (hc0_1:l0_1.length+1≤c0_1) (hr0_2:Kd.C Kd.string w A0_2 (l0_2++[(⟨#[98,101,104,105,110,100]⟩:ByteArray)]).length (l0_2++[(⟨#[98,101,104,105,110,100]⟩:ByteArray)])) (hc0_2:l0_2.length+1≤c0_2) (hr0_3:Kd.C (Kd.int .i64) w A0_3 (l0_3++[(-7)]).length (l0_3++[(-7)])) (hc0_3:l0_3.length+1≤c0_3) (hr1_0:Kd.C (Kd.int .u64) w A1_0 l0_0.length l0_0) (hc1_0:l0_0.length≤c1_0) (hr1_1:Kd.C (Kd.int .i64) w A1_1 l0_1.length l0_1) (hc1_1:l0_1.length≤c1_1) (hr1_2:Kd.C Kd.string w A1_2 l0_2.length l0_2) (hc1_2:l0_2.length≤c1_2) (hr1_3:Kd.C (Kd.int .i64) w A1_3 l0_3.length l0_3) (hc1_3:l0_3.length≤c1_3) :
  Calls Tryd.prog 13 #[.agg #[.slice A0_0 l0_0.length c0_0,.slice A0_1 l0_1.length c0_1,.slice A0_2 l0_2.length c0_2,.slice A0_3 l0_3.length c0_3],.agg #[.slice A1_0 l0_0.length c1_0,.slice A1_1 l0_1.length c1_1,.slice A1_2 l0_2.length c1_2,.slice A1_3 l0_3.length c1_3]] w fun e w'=>e=.returned (.bool true)∧Below w.heap.size w w':=by
 obtain ⟨ad0,rfl,hx0⟩:=C_last hr0_0
 obtain ⟨ad1,rfl,hx1⟩:=C_last hr0_1
 obtain ⟨ad2,rfl,hx2⟩:=C_last hr0_2
 obtain ⟨ad3,rfl,hx3⟩:=C_last hr0_3
 have hB:=below_alloc (below_alloc (Below.refl w.heap.size w) (.cells #[.slice (some ad0) l0_0.length c0_0,.slice (some ad1) l0_1.length c0_1,.slice (some ad2) l0_2.length c0_2,.slice (some ad3) l0_3.length c0_3] 26)) (.cells #[.slice A1_0 l0_0.length c1_0,.slice A1_1 l0_1.length c1_1,.slice A1_2 l0_2.length c1_2,.slice A1_3 l0_3.length c1_3] 26)
 have bx:((w.alloc (.cells #[.slice (some ad0) l0_0.length c0_0,.slice (some ad1) l0_1.length c0_1,.slice (some ad2) l0_2.length c0_2,.slice (some ad3) l0_3.length c0_3] 26)).alloc (.cells #[.slice A1_0 l0_0.length c1_0,.slice A1_1 l0_1.length c1_1,.slice A1_2 l0_2.length c1_2,.slice A1_3 l0_3.length c1_3] 26)).heap[w.heap.size]? = some (.cells #[.slice (some ad0) l0_0.length c0_0,.slice (some ad1) l0_1.length c0_1,.slice (some ad2) l0_2.length c0_2,.slice (some ad3) l0_3.length c0_3] 26 (0,0)):=blk_below (heap_alloc_new w _) (below_alloc (Below.refl _ _) _)
 have by_:((w.alloc (.cells #[.slice (some ad0) l0_0.length c0_0,.slice (some ad1) l0_1.length c0_1,.slice (some ad2) l0_2.length c0_2,.slice (some ad3) l0_3.length c0_3] 26)).alloc (.cells #[.slice A1_0 l0_0.length c1_0,.slice A1_1 l0_1.length c1_1,.slice A1_2 l0_2.length c1_2,.slice A1_3 l0_3.length c1_3] 26)).heap[w.heap.size+1]? = some (.cells #[.slice A1_0 l0_0.length c1_0,.slice A1_1 l0_1.length c1_1,.slice A1_2 l0_2.length c1_2,.slice A1_3 l0_3.length c1_3] 26 (0,0)):=by
  have:=heap_alloc_new (w.alloc (.cells #[.slice (some ad0) l0_0.length c0_0,.slice (some ad1) l0_1.length c0_1,.slice (some ad2) l0_2.length c0_2,.slice (some ad3) l0_3.length c0_3] 26)) (.cells #[.slice A1_0 l0_0.length c1_0,.slice A1_1 l0_1.length c1_1,.slice A1_2 l0_2.length c1_2,.slice A1_3 l0_3.length c1_3] 26)
  rwa [show (w.alloc (.cells #[.slice (some ad0) l0_0.length c0_0,.slice (some ad1) l0_1.length c0_1,.slice (some ad2) l0_2.length c0_2,.slice (some ad3) l0_3.length c0_3] 26)).heap.size=w.heap.size+1 by simp] at this
 have hX0:=Aside0.mk (pw_cell_below hB hx0)
 have hR0:=Aside0.mk (Kd.C_below (C_init hr0_0) hB)
 have hS0:=Aside0.mk (Kd.C_below hr1_0 hB)
 have hm0:l0_0.length+1≤9223372036854775807:=by have:=hr0_0.2.1; simpa using this
 have hk0:=cut2 22 63 Tryd.underlying22 (info_parts info63_).choose_spec.1 (some ad0) l0_0.length c0_0 (l0_0.length+1) hc0_0
 clear hx0 hr0_0 hr1_0
 have hX1:=Aside0.mk (pw_cell_below hB hx1)
 have hR1:=Aside0.mk (Kd.C_below (C_init hr0_1) hB)
 have hS1:=Aside0.mk (Kd.C_below hr1_1 hB)
 have hm1:l0_1.length+1≤9223372036854775807:=by have:=hr0_1.2.1; simpa using this
 have hk1:=cut2 23 3 Tryd.underlying23 (info_parts info3_).choose_spec.1 (some ad1) l0_1.length c0_1 (l0_1.length+1) hc0_1
 clear hx1 hr0_1 hr1_1
 have hX2:=Aside0.mk (pw_cell_below hB hx2)
 have hR2:=Aside0.mk (Kd.C_below (C_init hr0_2) hB)
 have hS2:=Aside0.mk (Kd.C_below hr1_2 hB)
 have hm2:l0_2.length+1≤9223372036854775807:=by have:=hr0_2.2.1; simpa using this
 have hk2:=cut2 24 9 Tryd.underlying24 (info_parts info9_).choose_spec.1 (some ad2) l0_2.length c0_2 (l0_2.length+1) hc0_2
 clear hx2 hr0_2 hr1_2
 have hX3:=Aside0.mk (pw_cell_below hB hx3)
 have hR3:=Aside0.mk (Kd.C_below (C_init hr0_3) hB)
 have hS3:=Aside0.mk (Kd.C_below hr1_3 hB)
 have hm3:l0_3.length+1≤9223372036854775807:=by have:=hr0_3.2.1; simpa using this
 have hk3:=cut2 23 3 Tryd.underlying23 (info_parts info3_).choose_spec.1 (some ad3) l0_3.length c0_3 (l0_3.length+1) hc0_3
 clear hx3 hr0_3 hr1_3
 have y0:=blk_cell bx 0
 have z0:=blk_cell by_ 0
 have y1:=blk_cell bx 1
 have z1:=blk_cell by_ 1
 have y2:=blk_cell bx 2
 have z2:=blk_cell by_ 2
 have y3:=blk_cell bx 3
 have z3:=blk_cell by_ 3
 have BX:=Aside0.mk bx
 have BY:=Aside0.mk by_
 clear bx by_
 go_enter Tryd.func13,Tryd.ntmps13
 go_wp2_with (go_at_call 27; (refine (same_calls l0_0 l0_1 l0_2 l0_3 _ _ _ _ _ _ _ _ _ _ _ _ _ _ _ _ _ hR0.out hS0.out hR1.out hS1.out hR2.out hS2.out hR3.out hS3.out).mono ?_); rintro e w1 ⟨rfl,hb⟩; have x0:=pw_cell_below hb hX0.out; have x1:=pw_cell_below hb hX1.out; have x2:=pw_cell_below hb hX2.out; have x3:=pw_cell_below hb hX3.out; have bx:=blk_below BX.out hb; have y0:=blk_cell bx 0; have y1:=blk_cell bx 1; have y2:=blk_cell bx 2; have y3:=blk_cell bx 3; have hB1:=below_step hB hb)
 go_quiet (fail)
 go_wp2_with fail
 go_ret
 exact ⟨rfl,pw_below_drewN hB1 nq⟩
end Go.Proofs.YtcmdjpolgaejoaaDoor.C
