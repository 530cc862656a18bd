/- The laws GuardLooks, GuardWords of the program hold, as their cards say: texts put together by a program, 31 of 38. -/
import Derived.Test.YtcmdjpolgaejoaaDoorPB1
import Derived.Test.YtcmdjpolgaejoaaDoorPB16
import Derived.Test.YtcmdjpolgaejoaaDoorPB17
import Derived.Test.YtcmdjpolgaejoaaDoorPB20
import Derived.Test.YtcmdjpolgaejoaaDoorPB21
import Derived.Test.YtcmdjpolgaejoaaDoorPB26
import Derived.Test.YtcmdjpolgaejoaaDoorPB28
import Derived.Test.YtcmdjpolgaejoaaDoorPB29
namespace Go.Proofs.YtcmdjpolgaejoaaDoor.Pack
open Go.RowKit Go.Proofs.YtcmdjpolgaejoaaDoorW.PrintWords Go.Proofs.YtcmdjpolgaejoaaDoorW.PrintMore Go.Proofs.YtcmdjpolgaejoaaDoor.C Go.Proofs.YtcmdjpolgaejoaaDoor.PackBits Go.Proofs.YtcmdjpolgaejoaaDoor.Str
def fits (a b c:Int):Prop:=0≤a∧a≤255∧0≤b∧b≤268435455∧0≤c∧c≤268435455
instance (a b c:Int):Decidable (fits a b c):=inferInstanceAs (Decidable (_∧_))
def laid (a b c:Int):Int:=a*72057594037927936+b*268435456+c
theorem ref_word (a b c:Int):isthmusref01_Word.f a b c=if fits a b c then some (laid a b c,0) else some (0,12):=by
 unfold isthmusref01_Word.f
 by_cases h:fits a b c
 ·rw [if_pos h]
  obtain ⟨h1,h2,h3,h4,h5,h6⟩:=h
  rw [if_neg (by omega),if_neg (by omega),if_neg (by omega),if_neg (by omega),if_neg (by omega),if_neg (by omega)]
  simp only [wrap_u64]
  unfold laid
  congr 2
  omega
 ·rw [if_neg h]
  unfold fits at h
  by_cases h1:a < 0
  ·rw [if_pos h1]
  ·rw [if_neg h1]
   by_cases h2:a > 255
   ·rw [if_pos h2]
   ·rw [if_neg h2]
    by_cases h3:b < 0
    ·rw [if_pos h3]
    ·rw [if_neg h3]
     by_cases h4:b ≥ 268435456
     ·rw [if_pos h4]
     ·rw [if_neg h4]
      by_cases h5:c < 0
      ·rw [if_pos h5]
      ·rw [if_neg h5,if_pos (by omega)]
theorem part_f {w:Int} (h0:0≤w) (h:w≤18446744073709551615) (a b:Nat) (ha:a+b≤64) (hb:b≤56) (hb0:0 < b):pack_part.f w a b=some (w / 2 ^ a%2 ^ b):=by
 unfold pack_part.f
 rw [if_pos (by omega),if_pos (by omega)]
 unfold shr shl
 have ea:min (a:Int).toNat IntKind.u64.bits=a:=Nat.min_eq_left (show a≤64 by omega)
 have eb:min (b:Int).toNat IntKind.u64.bits=b:=Nat.min_eq_left (show b≤64 by omega)
 have hp:(0:Int) < 2 ^ a:=Int.pow_pos (by decide)
 have hq:(0:Int) < 2 ^ b:=Int.pow_pos (by decide)
 have hb56:(2:Int) ^ b≤72057594037927936:=by
  have h2:(2:Nat) ^ b≤2 ^ 56:=Nat.pow_le_pow_right (by decide) hb
  have h3:((2 ^ b:Nat):Int)≤((2 ^ 56:Nat):Int):=Int.ofNat_le.2 h2
  rw [Int.natCast_pow] at h3
  exact h3
 have hd0:0≤w / 2 ^ a:=Int.ediv_nonneg h0 (by omega)
 have hd1:w / 2 ^ a≤w:=Int.ediv_le_self _ h0
 have hm0:=Int.emod_nonneg (w / 2 ^ a) (show (2:Int) ^ b≠0 by omega)
 have hm1:=Int.emod_lt_of_pos (w / 2 ^ a) hq
 rw [ea,eb,Int.one_mul,u64_id (n:=(2:Int) ^ b) (by omega) (by omega),u64_id (n:=(2:Int) ^ b - 1) (by omega) (by omega),mask_u64 b (by omega) hd0 (by omega),w64_id (by omega) (by omega)]
theorem parts_f {w:Int} (h0:0≤w) (h:w≤18446744073709551615):pack_Parts.f w=some (w / 72057594037927936,w / 268435456%268435456,w%268435456):=by
 unfold pack_Parts.f
 have e1:=part_f h0 h 56 8 (by omega) (by omega) (by omega)
 have e2:=part_f h0 h 28 28 (by omega) (by omega) (by omega)
 have e3:=part_f h0 h 0 28 (by omega) (by omega) (by omega)
 rw [show (((56:Nat):Int))=56 from rfl,show (((8:Nat):Int))=8 from rfl] at e1
 rw [show (((28:Nat):Int))=28 from rfl] at e2
 rw [show (((0:Nat):Int))=0 from rfl,show (((28:Nat):Int))=28 from rfl] at e3
 rw [e1,e2,e3]
 simp only [Option.bind_some]
 congr 2
 ·show w / 72057594037927936%256=_
  omega
 ·congr 1
  show w / 1%268435456=_
  omega
theorem ref_parts {w:Int} (h0:0≤w) (h:w≤18446744073709551615):isthmusref01_Parts.f w=some (w / 72057594037927936,w / 268435456%268435456,w%268435456):=by
 unfold isthmusref01_Parts.f
 rw [Int.tdiv_eq_ediv_of_nonneg h0,u64_id (n:=w / 268435456) (by omega) (by omega),Int.tdiv_eq_ediv_of_nonneg (by omega),Int.tmod_eq_emod_of_nonneg (by omega),Int.tmod_eq_emod_of_nonneg h0,
  u64_id (n:=w / 268435456 / 268435456) (by omega) (by omega),w64_id (n:=w / 268435456 / 268435456) (by omega) (by omega),w64_id (n:=w / 268435456%268435456) (by omega) (by omega),w64_id (n:=w%268435456) (by omega) (by omega)]
 congr 2
 omega
end Go.Proofs.YtcmdjpolgaejoaaDoor.Pack
namespace Go.Proofs.YtcmdjpolgaejoaaDoor.Lex
open Go.RowKit Go.Proofs.YtcmdjpolgaejoaaDoorW.PrintWords Go.Proofs.YtcmdjpolgaejoaaDoorW.PrintMore Go.Proofs.YtcmdjpolgaejoaaDoor.C Go.Proofs.YtcmdjpolgaejoaaDoor.Str
theorem w64_id {n:Int} (h0:-9223372036854775808≤n) (h:n < 9223372036854775808):wrap64 n=n:=by unfold wrap64; omega
theorem wrap_u64 (n:Int):IntKind.u64.wrap n=n%18446744073709551616:=by simp [IntKind.wrap,IntKind.bits,IntKind.signed]
theorem u64_id {n:Int} (h0:0≤n) (h:n < 18446744073709551616):IntKind.u64.wrap n=n:=by rw [wrap_u64]; omega
instance decBA:DecidableEq ByteArray:=fun a b=>if h:a.data=b.data then isTrue (by cases a; cases b; simp_all) else isFalse (fun e=>h (by rw [e]))
def wordsL:List ByteArray:=[(⟨#[97,108,108]⟩:ByteArray),(⟨#[97,110,100]⟩:ByteArray),(⟨#[97,114,111,117,110,100]⟩:ByteArray),(⟨#[98,108,111,99,107]⟩:ByteArray),(⟨#[98,111,116,116,108,101,110,101,99,107]⟩:ByteArray),(⟨#[99,111,110,110,101,99,116,101,100]⟩:ByteArray),(⟨#[99,111,117,110,116]⟩:ByteArray),(⟨#[100,101,103,114,101,101]⟩:ByteArray),(⟨#[101,108,115,101]⟩:ByteArray),(⟨#[102,97,108,115,101]⟩:ByteArray),(⟨#[105,102]⟩:ByteArray),(⟨#[105,110]⟩:ByteArray),(⟨#[108,101,97,115,116]⟩:ByteArray),(⟨#[109,97,120]⟩:ByteArray),(⟨#[109,105,110]⟩:ByteArray),(⟨#[109,111,115,116]⟩:ByteArray),(⟨#[110,111,116]⟩:ByteArray),(⟨#[111,114]⟩:ByteArray),(⟨#[114,101,112]⟩:ByteArray),(⟨#[115,105,122,101]⟩:ByteArray),(⟨#[115,111,109,101]⟩:ByteArray),(⟨#[115,117,109]⟩:ByteArray),(⟨#[116,104,101,110]⟩:ByteArray),(⟨#[116,111,116,97,108]⟩:ByteArray),(⟨#[116,114,117,101]⟩:ByteArray),(⟨#[118,97,108,117,101]⟩:ByteArray),(⟨#[118,101,114,116,105,99,101,115]⟩:ByteArray)]
theorem wordsL_len:wordsL.length=27:=rfl
theorem isNaN_f (s:ByteArray):cmp_isNaN_string.f s=some false:=by unfold cmp_isNaN_string.f; simp
theorem isNaN_g (s:ByteArray):slices_isNaN_string.f s=some false:=by unfold slices_isNaN_string.f; simp
theorem less_f (a b:ByteArray):cmp_Less_string.f a b=some (Op.bytesLess a.toList b.toList):=by
 unfold cmp_Less_string.f
 rw [isNaN_f]
 rfl
theorem bs_l0 (l:List ByteArray) (x:ByteArray) (n:Nat) (hn:l.length=n) (hl:n≤1000):∀ (d i j k:Nat),i≤j→j≤n→j - i≤d→d < k →
  ∃ (p:Int) (b:Bool),slices_BinarySearch_string_string.l0 k l x (n:Int) (i:Int) (j:Int)=some (p,b)∧(b=true→x∈l):=by
 intro d
 induction d with
 | zero =>
  intro i j k hij hj hd hk
  obtain ⟨k,rfl⟩:∃ m,k=m+1:=⟨k - 1,by omega⟩
  simp only [slices_BinarySearch_string_string.l0]
  rw [if_neg (by omega)]
  by_cases h1:(i:Int) < (n:Int)
  ·rw [if_pos h1,if_pos (by omega),if_pos (by omega)]
   by_cases h2:(rdOf ByteArray.empty l (i:Int)).toList=x.toList
   ·rw [if_pos h2]
    refine ⟨_,_,rfl,fun _=>?_⟩
    rw [toList_iff] at h2
    rw [← h2]
    unfold rdOf
    rw [show ((i:Int)).toNat=i from rfl]
    have hi:i < l.length:=by omega
    simp [List.getD,hi]
   ·rw [if_neg h2,isNaN_g]
    exact ⟨_,false,rfl,fun h=>by cases h⟩
  ·rw [if_neg h1]
   exact ⟨_,false,rfl,fun h=>by cases h⟩
 | succ d ih =>
  intro i j k hij hj hd hk
  by_cases hlt:i < j
  ·obtain ⟨k,rfl⟩:∃ m,k=m+1:=⟨k - 1,by omega⟩
   simp only [slices_BinarySearch_string_string.l0]
   have e1:wrap64 ((IntKind.u64.wrap (wrap64 ((i:Int)+(j:Int)))) / 2)=(((i+j) / 2:Nat):Int):=by
    rw [w64_id (n:=(i:Int)+(j:Int)) (by omega) (by omega),u64_id (by omega) (by omega),w64_id (by omega) (by omega)]; omega
   rw [if_pos (by omega),e1,if_pos (by omega),if_pos (by omega),less_f]
   simp only [Option.bind_some]
   by_cases hb:Op.bytesLess (rdOf ByteArray.empty l (((i+j) / 2:Nat):Int)).toList x.toList=true
   ·rw [if_pos hb,show wrap64 ((((i+j) / 2:Nat):Int)+1)=(((i+j) / 2+1:Nat):Int) from (w64_id (by omega) (by omega)).trans (by omega)]
    exact ih ((i+j) / 2+1) j k (by omega) (by omega) (by omega) (by omega)
   ·rw [if_neg hb]
    exact ih i ((i+j) / 2) k (by omega) (by omega) (by omega) (by omega)
  ·exact ih i j k hij hj (by omega) (by omega)
theorem word_yes:∀ x∈wordsL,lex_isWord.f 30 x=some true:=by
 intro x hx
 simp only [wordsL,List.mem_cons,List.not_mem_nil,or_false] at hx
 rcases hx with rfl|rfl|rfl|rfl|rfl|rfl|rfl|rfl|rfl|rfl|rfl|rfl|rfl|rfl|rfl|rfl|rfl|rfl|rfl|rfl|rfl|rfl|rfl|rfl|rfl|rfl|rfl
 all_goals decide +kernel
def isW (s:ByteArray):Bool:=wordsL.any fun x=>decide (x=s)
theorem isW_iff (s:ByteArray):isW s=true↔s∈wordsL:=by
 unfold isW
 rw [List.any_eq_true]
 constructor
 ·rintro ⟨x,hx,h⟩
  rw [← of_decide_eq_true h]; exact hx
 ·intro h
  exact ⟨s,h,decide_eq_true rfl⟩
theorem isWord_f (s:ByteArray) {k:Nat} (hk:30≤k):lex_isWord.f k s=some (isW s):=by
 by_cases h:s∈wordsL
 ·rw [at_rounds (lex_isWord.mono s) hk (word_yes s h),(isW_iff s).2 h]
 ·obtain ⟨p,b,hp,hb⟩:=bs_l0 wordsL s 27 wordsL_len (by omega) 27 0 27 k (by omega) (by omega) (by omega) (by omega)
  have e:lex_isWord.f k s=some b:=by
   unfold lex_isWord.f slices_BinarySearch_string_string.f
   show (slices_BinarySearch_string_string.l0 k wordsL s (27:Int) 0 (27:Int)).bind (fun bt113=>some bt113.2)=some b
   have hp':slices_BinarySearch_string_string.l0 k wordsL s (27:Int) 0 (27:Int)=some (p,b):=hp
   rw [hp',bs]
  have hw:isW s=false:=by
   cases hv:isW s with
   | false=>rfl
   | true=>exact absurd ((isW_iff s).1 hv) h
  rw [e,hw]
  cases b with
  | false=>rfl
  | true=>exact absurd (hb rfl) h
theorem refWord_l0 (x:ByteArray) (l:List ByteArray) (hl:l.length≤1000):∀ (d i k:Nat),i+d=l.length→d < k→isthmusref11_Word.l0 k x l (i:Int)=some ((l.drop i).any fun y=>decide (y=x)):=by
 intro d
 induction d with
 | zero =>
  intro i k hi hk
  obtain ⟨k,rfl⟩:∃ m,k=m+1:=⟨k - 1,by omega⟩
  simp only [isthmusref11_Word.l0]
  rw [if_neg (by omega),List.drop_eq_nil_of_le (by omega)]
  simp
 | succ d ih =>
  intro i k hi hk
  obtain ⟨k,rfl⟩:∃ m,k=m+1:=⟨k - 1,by omega⟩
  simp only [isthmusref11_Word.l0]
  have hlt:i < l.length:=by omega
  have er:rdOf ByteArray.empty l (i:Int)=l[i]:=by
   unfold rdOf
   rw [show ((i:Int)).toNat=i from rfl]
   simp [List.getD,hlt]
  rw [if_pos (by omega),if_pos (by omega),er,List.drop_eq_getElem_cons hlt]
  by_cases h:l[i].toList=x.toList
  ·rw [if_pos h]
   rw [toList_iff] at h
   simp [List.any_cons,h]
  ·rw [if_neg h,show wrap64 ((i:Int)+1)=((i+1:Nat):Int) from (w64_id (by omega) (by omega)).trans (by omega),ih (i+1) k (by omega) (by omega)]
   rw [toList_iff] at h
   rw [List.any_cons,decide_eq_false h,Bool.false_or]
theorem ref_word (s:ByteArray) {k:Nat} (hk:30≤k):isthmusref11_Word.f k s=some (isW s):=by
 unfold isthmusref11_Word.f
 exact refWord_l0 s wordsL (by rw [wordsL_len]; omega) 27 0 k (by rw [wordsL_len]) (by omega)
end Go.Proofs.YtcmdjpolgaejoaaDoor.Lex
namespace Go.Proofs.YtcmdjpolgaejoaaDoor.Lex
open Go.RowKit Go.Proofs.YtcmdjpolgaejoaaDoorW.PrintWords Go.Proofs.YtcmdjpolgaejoaaDoorW.PrintMore Go.Proofs.YtcmdjpolgaejoaaDoor.C Go.Proofs.YtcmdjpolgaejoaaDoor.Str
def dg (c:Int):Bool:=decide (48≤c∧c≤57)
def sm (c:Int):Bool:=decide (97≤c∧c≤122)
def gr (c:Int):Bool:=decide (65≤c∧c≤90)
def wd (c:Int):Bool:=dg c || sm c || gr c || decide (c=95)
def blk (c:Int):Bool:=decide (c=32∨c=9∨c=10∨c=13)
theorem small_f (c:Int):isthmusref11_small.f c=some (sm c):=by
 unfold isthmusref11_small.f sm
 by_cases h:c ≥ 97
 ·rw [if_pos h]; simp [show 97≤c from h]
 ·rw [if_neg h]; simp; omega
theorem digit_f (c:Int):isthmusref11_digit.f c=some (dg c):=by
 unfold isthmusref11_digit.f dg
 by_cases h:c ≥ 48
 ·rw [if_pos h]; simp [show 48≤c from h]
 ·rw [if_neg h]; simp; omega
theorem nmB_iff (i:Nat) (c:Int):nmB i c↔(sm c=true∨(i≠0∧(dg c=true∨c=95))):=by
 unfold nmB
 rw [clsv_three,clsv_two,clsv_five]
 simp [sm,dg]
def nameOK (s:ByteArray):Bool:=nmAll s && decide (1≤s.size∧s.size≤12) && !isW s
theorem isName_f (s:ByteArray) {k:Nat} (hk:30≤k):lex_IsName.f k s=some (nameOK s):=by
 unfold lex_IsName.f nameOK
 rw [isWord_f s hk]
 by_cases h1:nmAll s=true
 ·rw [if_pos h1,h1]
  by_cases h2:(s.size:Int) ≥ 1
  ·rw [if_pos h2]
   by_cases h3:(s.size:Int)≤12
   ·rw [if_pos h3,bs,decide_eq_true (by omega)]; simp
   ·rw [if_neg h3,decide_eq_false (by omega)]; simp
  ·rw [if_neg h2,decide_eq_false (by omega)]; simp
 ·rw [if_neg h1]
  simp only [Bool.not_eq_true] at h1
  rw [h1]; simp
theorem refName_l0 (s:ByteArray) (hs:s.size≤12):∀ (d i k:Nat),i+d=s.size→d+30 < k →
  isthmusref11_IsName.l0 k s (i:Int)=some (decide (∀ j,j < s.size→i≤j→(sm (bt s j)=true∨dg (bt s j)=true∨bt s j=95)) && !isW s):=by
 intro d
 induction d with
 | zero =>
  intro i k hi hk
  obtain ⟨k,rfl⟩:∃ m,k=m+1:=⟨k - 1,by omega⟩
  simp only [isthmusref11_IsName.l0]
  rw [if_neg (by omega),ref_word s (by omega),bs,decide_eq_true (fun j h2 h1=>by omega)]
  simp
 | succ d ih =>
  intro i k hi hk
  obtain ⟨k,rfl⟩:∃ m,k=m+1:=⟨k - 1,by omega⟩
  simp only [isthmusref11_IsName.l0]
  have hw:wrap64 ((i:Int)+1)=((i+1:Nat):Int):=(w64_id (by omega) (by omega)).trans (by omega)
  rw [if_pos (by omega),if_pos (by omega),small_f,bs,digit_f,bs,hw,ih (i+1) k (by omega) (by omega)]
  have key:(sm (bt s i)=true∨dg (bt s i)=true∨bt s i=95)→decide (∀ j,j < s.size→i+1≤j→(sm (bt s j)=true∨dg (bt s j)=true∨bt s j=95))=decide (∀ j,j < s.size→i≤j→(sm (bt s j)=true∨dg (bt s j)=true∨bt s j=95)):=by
   intro h
   rw [decide_eq_decide]
   constructor
   ·intro ha j h2 h1
    by_cases e:j=i
    ·subst e; exact h
    ·exact ha j h2 (by omega)
   ·intro ha j h2 h1
    exact ha j h2 (by omega)
  by_cases h1:sm (bt s i)=true
  ·rw [if_pos h1,key (.inl h1)]
  ·rw [if_neg h1]
   by_cases h2:dg (bt s i)=true
   ·rw [if_pos h2,key (.inr (.inl h2))]
   ·rw [if_neg h2]
    by_cases h3:bt s i=95
    ·rw [if_pos h3,key (.inr (.inr h3))]
    ·rw [if_neg h3,decide_eq_false (fun ha=>by rcases ha i (by omega) (by omega) with h|h|h; exact h1 h; exact h2 h; exact h3 h)]
     simp
theorem ref_isName (s:ByteArray) {k:Nat} (hk:50≤k):isthmusref11_IsName.f k s=some (nameOK s):=by
 unfold isthmusref11_IsName.f nameOK
 obtain ⟨k,rfl⟩:∃ m,k=m+1:=⟨k - 1,by omega⟩
 by_cases h1:(s.size:Int) < 1
 ·rw [if_pos h1,decide_eq_false (by omega)]
  simp [isthmusref11_IsName.j0]
 ·rw [if_neg h1]
  by_cases h2:(s.size:Int) > 12
  ·rw [if_pos h2,decide_eq_false (by omega)]
   simp [isthmusref11_IsName.j0]
  ·rw [if_neg h2,if_pos (by omega),small_f,bs,decide_eq_true (by omega)]
   simp only [isthmusref11_IsName.j0]
   by_cases h3:sm (bt s 0)=true
   ·have e0:=refName_l0 s (by omega) s.size 0 k (by omega) (by omega)
    rw [if_neg (by simp [h3])]
    have e1:isthmusref11_IsName.l0 k s 0=_:=e0
    rw [e1]
    have:nmAll s=decide (∀ j,j < s.size→0≤j→(sm (bt s j)=true∨dg (bt s j)=true∨bt s j=95)):=by
     unfold nmAll
     rw [decide_eq_decide]
     constructor
     ·intro ha j hj _
      rcases (nmB_iff j _).1 (ha j hj) with h|⟨_,h|h⟩
      ·exact .inl h
      ·exact .inr (.inl h)
      ·exact .inr (.inr h)
     ·intro ha j hj
      rw [nmB_iff]
      by_cases e:j=0
      ·subst e; exact .inl h3
      ·rcases ha j hj (by omega) with h|h
       ·exact .inl h
       ·exact .inr ⟨e,h⟩
    rw [this]; simp
   ·rw [if_pos (by simpa using h3)]
    have:nmAll s=false:=by
     unfold nmAll
     rw [decide_eq_false_iff_not]
     intro ha
     rcases (nmB_iff 0 _).1 (ha 0 (by omega)) with h|⟨h,_⟩
     ·exact h3 h
     ·exact h rfl
    rw [this]; simp
end Go.Proofs.YtcmdjpolgaejoaaDoor.Lex
