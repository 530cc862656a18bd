/- The laws GuardLooks, GuardWords of the program hold, as their cards say: texts put together by a program, 33 of 38. -/
import Derived.Test.YtcmdjpolgaejoaaDoorPB18
import Derived.Test.YtcmdjpolgaejoaaDoorPB30
import Derived.Test.YtcmdjpolgaejoaaDoorPB31
namespace Go.Proofs.YtcmdjpolgaejoaaDoor.Code
open Go.RowKit Go.Proofs.YtcmdjpolgaejoaaDoorW.PrintWords Go.Proofs.YtcmdjpolgaejoaaDoorW.PrintMore Go.Proofs.YtcmdjpolgaejoaaDoor.C Go.Proofs.YtcmdjpolgaejoaaDoor.Pack Go.Proofs.YtcmdjpolgaejoaaDoor.Lex Go.Proofs.YtcmdjpolgaejoaaDoor.Str
theorem place_f (a n:Int):code_place.f a n=some (decide (0≤a∧a < n)):=by
 unfold code_place.f
 by_cases h:0≤a
 ·rw [if_pos h]; congr 1; simp [h]
 ·rw [if_neg h]; congr 1; simp [h]
theorem within_f (a n:Int):isthmusref18_within.f a n=some (decide (0≤a∧a < n)):=by
 unfold isthmusref18_within.f
 by_cases h:0≤a
 ·rw [if_pos h]; congr 1; simp [h]
 ·rw [if_neg h]; congr 1; simp [h]
def kdOK (x:Int):Bool:=decide (1≤x∧x≤3)
theorem kind_f (x:Int):code_kind.f x=some (kdOK x):=by
 unfold code_kind.f kdOK
 by_cases h:1≤x
 ·rw [if_pos h]; congr 1; simp [h]
 ·rw [if_neg h]; congr 1; simp [h]
theorem ref_kind (x:Int):isthmusref18_kind.f x=some (kdOK x):=by
 unfold isthmusref18_kind.f kdOK
 by_cases h:1≤x
 ·rw [if_pos h]; congr 1; simp [h]
 ·rw [if_neg h]; congr 1; simp [h]
def opOK (cs:List Int) (n2 n3:Int) (op a b:Int):Bool :=
 if op=1 then decide (0≤a∧a < (cs.length:Int)) && (decide (b=1) || (decide (b=2) && decide (0≤rd cs a∧rd cs a < 2)))
 else if op=2 then decide (0≤a∧a < (cs.length:Int)) && (decide (0≤rd cs a) && decide (b=0))
 else if op=3 then decide (a≤3) && decide (b=0)
 else if op=11 then decide (a=0) && kdOK b
 else if op=12 then decide (a=0) && decide (b≤1)
 else if op=13 then decide (b=0) else if op=14 then decide (b=0) else if op=15 then decide (b=0) else if op=24 then decide (b=0)
 else if op=16 then decide (1≤a∧a≤10) && decide (b=0)
 else if op=17 then decide (0≤a∧a < n3)
 else if op=18 then decide (0≤a∧a < n3) && decide (b=0) else if op=19 then decide (0≤a∧a < n3) && decide (b=0)
 else if op=21 then decide (0≤a∧a < n2) && decide (b=0)
 else if op=23 then decide (a≤1024) && decide (b=0)
 else if op=26 then decide (a≤1) && decide (b=0)
 else decide (op≤27) && (decide (a=0) && decide (b=0))
def wOK (cs:List Int) (ns:List ByteArray) (ks:List Int) (x:Int):Bool:=opOK cs ns.length ks.length (x / 72057594037927936) (x / 268435456%268435456) (x%268435456)
theorem may_f (ws cs:List Int) (ns:List ByteArray) (ks:List Int) {x:Int} (h0:0≤x) (h1:x≤18446744073709551615) {k:Nat} (hk:3≤k):code_may.f k ws cs ns ks x=some (wOK cs ns ks x):=by
 unfold code_may.f wOK
 rw [parts_f h0 h1,bs]
 have ha0:0≤x / 268435456%268435456:=by omega
 have hb0:0≤x%268435456:=by omega
 have hop:0≤x / 72057594037927936:=by omega
 generalize x / 72057594037927936=op at *
 generalize x / 268435456%268435456=a at *
 generalize x%268435456=b at *
 clear h0 h1
 obtain ⟨k,rfl⟩:∃ m,k=m+2:=⟨k - 2,by omega⟩
 simp only [place_f,kind_f,Option.bind_some]
 unfold opOK
 by_cases c1:op=1
 ·subst c1
  simp only [if_true]
  by_cases d:0≤a∧a < (cs.length:Int)
  ·simp only [d,decide_true,if_true,and_self,Bool.true_and]
   by_cases e1:b=1
   ·subst e1; simp
   ·by_cases e2:b=2
    ·subst e2; simp
    ·simp [e1,e2]
  ·simp [d]
 rw [if_neg c1,if_neg c1]
 by_cases c11:op=11
 ·subst c11
  by_cases d:a=0<;>simp [d]
 rw [if_neg c11]
 by_cases c12:op=12
 ·subst c12
  by_cases d:a=0<;>simp [d]
 rw [if_neg c12]
 by_cases c17:op=17
 ·subst c17
  simp
 rw [if_neg c17]
 by_cases hb:b=0
 case neg =>
  rw [if_neg hb]
  simp [hb,c11,c12,c17]
 rw [if_pos hb]
 subst hb
 by_cases c2:op=2
 ·subst c2
  by_cases d:0≤a∧a < (cs.length:Int)
  ·simp [d]
  ·simp [d]
 rw [if_neg c2,if_neg c2]
 by_cases c3:op=3
 ·subst c3
  simp only [if_true]
  congr 1
  simp
  omega
 rw [if_neg c3,if_neg c3,if_neg c11,if_neg c12]
 by_cases c13:op=13
 ·subst c13; simp [code_may.j0]
 by_cases c14:op=14
 ·subst c14; simp [code_may.j0]
 by_cases c15:op=15
 ·subst c15; simp [code_may.j0]
 rw [if_neg c13,if_neg c14,if_neg c15,if_neg c13,if_neg c14,if_neg c15]
 simp only [code_may.j0,code_may.j1,place_f,Option.bind_some,beq_iff_eq]
 by_cases c24:op=24
 ·subst c24; simp
 rw [if_neg c24,if_neg c24]
 by_cases c16:op=16
 ·subst c16
  by_cases d:1≤a<;>simp [d]
 rw [if_neg c16,if_neg c16,if_neg c17]
 by_cases c18:op=18
 ·subst c18; simp
 rw [if_neg c18,if_neg c18]
 by_cases c19:op=19
 ·subst c19; simp
 rw [if_neg c19,if_neg c19]
 by_cases c21:op=21
 ·subst c21; simp
 rw [if_neg c21,if_neg c21]
 by_cases c23:op=23
 ·subst c23; simp
 rw [if_neg c23,if_neg c23]
 by_cases c26:op=26
 ·subst c26; simp
 rw [if_neg c26,if_neg c26]
 by_cases d:a=0<;>simp [d]
theorem ref_word (ws cs:List Int) (ns:List ByteArray) (ks:List Int) {x:Int} (h0:0≤x) (h1:x≤18446744073709551615) {k:Nat} (hk:3≤k):isthmusref18_word.f k ws cs ns ks x=some (wOK cs ns ks x):=by
 unfold isthmusref18_word.f wOK
 rw [ref_parts h0 h1,bs]
 have ha0:0≤x / 268435456%268435456:=by omega
 have hb0:0≤x%268435456:=by omega
 have hop:0≤x / 72057594037927936:=by omega
 generalize x / 72057594037927936=op at *
 generalize x / 268435456%268435456=a at *
 generalize x%268435456=b at *
 clear h0 h1
 obtain ⟨k,rfl⟩:∃ m,k=m+2:=⟨k - 2,by omega⟩
 simp only [within_f,ref_kind,Option.bind_some]
 unfold opOK
 by_cases c1:op=1
 ·subst c1
  simp only [if_true]
  by_cases d:0≤a∧a < (cs.length:Int)
  ·simp only [d,decide_true,if_true,and_self,Bool.true_and]
   by_cases e1:b=1
   ·subst e1; simp
   ·by_cases e2:b=2
    ·subst e2; simp
    ·simp [e1,e2]
  ·simp [d]
 rw [if_neg c1,if_neg c1]
 by_cases c2:op=2
 ·subst c2
  by_cases d:0≤a∧a < (cs.length:Int)
  ·by_cases e:0≤rd cs a<;>simp [d,e]<;>rfl
  ·simp [d]
 rw [if_neg c2,if_neg c2]
 by_cases c3:op=3
 ·subst c3
  by_cases d:a≤3<;>simp [d]<;>rfl
 rw [if_neg c3,if_neg c3]
 by_cases c11:op=11
 ·subst c11
  by_cases d:a=0<;>simp [d]
 rw [if_neg c11,if_neg c11]
 by_cases c12:op=12
 ·subst c12
  by_cases d:a=0<;>simp [d]
 rw [if_neg c12,if_neg c12]
 by_cases c13:op=13
 ·subst c13; simp [isthmusref18_word.j0]<;>rfl
 by_cases c14:op=14
 ·subst c14; simp [isthmusref18_word.j0]<;>rfl
 by_cases c15:op=15
 ·subst c15; simp [isthmusref18_word.j0]<;>rfl
 rw [if_neg c13,if_neg c14,if_neg c15,if_neg c13,if_neg c14,if_neg c15]
 simp only [isthmusref18_word.j0,isthmusref18_word.j1,within_f,Option.bind_some,beq_iff_eq]
 have hbb:(b == 0)=decide (b=0):=rfl
 rw [hbb]
 by_cases c24:op=24
 ·subst c24; simp
 rw [if_neg c24,if_neg c24]
 by_cases c16:op=16
 ·subst c16
  by_cases d:1≤a<;>by_cases e:a≤10<;>simp [d,e]
 rw [if_neg c16,if_neg c16]
 by_cases c17:op=17
 ·subst c17; simp
 rw [if_neg c17,if_neg c17]
 by_cases c18:op=18
 ·subst c18
  by_cases d:0≤a∧a < (ks.length:Int)<;>simp [d]
 rw [if_neg c18,if_neg c18]
 by_cases c19:op=19
 ·subst c19
  by_cases d:0≤a∧a < (ks.length:Int)<;>simp [d]
 rw [if_neg c19,if_neg c19]
 by_cases c21:op=21
 ·subst c21
  by_cases d:0≤a∧a < (ns.length:Int)<;>simp [d]
 rw [if_neg c21,if_neg c21]
 by_cases c23:op=23
 ·subst c23
  by_cases d:a≤1024<;>simp [d]
 rw [if_neg c23,if_neg c23]
 by_cases c26:op=26
 ·subst c26
  by_cases d:a≤1<;>simp [d]
 rw [if_neg c26,if_neg c26]
 by_cases d:a=0<;>by_cases e:op≤27
 ·simp [d,e,show op < 28 by omega]
 ·simp [d,e,show ¬ op < 28 by omega]
 ·simp [d,e,show op < 28 by omega]
 ·simp [d,e,show ¬ op < 28 by omega]
end Go.Proofs.YtcmdjpolgaejoaaDoor.Code
