/- The laws GuardLooks, GuardWords of the program hold, as their cards say: texts put together by a program, 23 of 38. -/
import Derived.Test.YtcmdjpolgaejoaaDoorPB21
namespace Go.Proofs.YtcmdjpolgaejoaaDoor.Gd
open Go.RowKit Go.Proofs.YtcmdjpolgaejoaaDoorW.PrintWords Go.Proofs.YtcmdjpolgaejoaaDoorW.PrintLast Go.Proofs.YtcmdjpolgaejoaaDoorW.PrintMore
set_option linter.unusedVariables false
set_option linter.unusedSimpArgs false
def farOf (cell:Nat→Nat) (op A:Nat) (s:St):Except Int St:=if op=17 then gets (cell A) s else if op=24 then .ok (s.1,s.2 - 1) else .ok s
def nextOf (n:Nat) (L:Lk) (a op:Nat) (s:St):Except Int Lk:=if op=13 then .ok L else comes n L (a+1) s
def jumpOf (n:Nat) (L:Lk) (op A B:Nat) (far:St):Except Int Lk:=if op=13∨op=14∨op=15∨op=24 then comes n L A far else if op=17 then comes n L B far else .ok L
def haltOf (L:Lk) (s:St):Except Int Lk :=
 if s.1.length=1∧s.2=0 then (if L.kind=0∨L.kind=topv (wd s.1) s.1.length then .ok { L with kind:=topv (wd s.1) s.1.length } else .error 202) else .error 201
def looks (n:Nat) (cell:Nat→Nat) (L:Lk) (a op A B:Nat):Except Int Lk :=
 if op=0 then haltOf L ((look a L.tab).getD ([],0))
 else (behind cell ((look a L.tab).getD ([],0)) A B op).bind fun s=>(farOf cell op A s).bind fun far=>(nextOf n L a op s).bind fun L1=>jumpOf n L1 op A B far
def TabOk (L:Lk):Prop:=∀ b t,look b L.tab=some t→Fine t∧t.2≤4
theorem rounds_needs {k:Nat} {s t:St} (e:needs k s=.ok t):t.2=s.2:=by
 obtain ⟨ks,r⟩:=s
 cases ks with
 | nil=>simp [needs] at e
 | cons a u =>
  unfold needs at e
  simp only at e
  split at e
  ·cases e; rfl
  ·cases e
theorem rounds_gets {k:Nat} {s t:St} (e:gets k s=.ok t):t.2=s.2:=by
 unfold gets at e
 split at e
 ·cases e; rfl
 ·cases e
theorem rounds_opened {s t:St} (e:opened s=.ok t):t.2≤4:=by
 unfold opened at e
 split at e
 ·cases e; simp only; omega
 ·cases e
theorem bind_r {f:Except Int St} {g:St→Except Int St} (hf:∀ t,f=.ok t→t.2≤4) (hg:∀ t,t.2≤4→∀ u,g t=.ok u→u.2≤4):∀ u,f.bind g=.ok u→u.2≤4:=by
 intro u h
 cases f with
 | error e=>cases h
 | ok t=>exact hg t (hf t rfl) u h
theorem rounds_many:∀ (n:Nat) {s t:St},s.2≤4→many n s=.ok t→t.2≤4
 | 0,s,t,h,e=>by cases e; exact h
 | n+1,s,t,h,e=>bind_r (fun t e=>by rw [rounds_needs e]; exact h) (fun t h u e=>rounds_many n h e) t e
theorem rounds_call (which:Nat) {s t:St} (h:s.2≤4) (e:call which s=.ok t):t.2≤4:=by
 unfold call at e
 refine bind_r (fun t e=>by rw [rounds_needs e]; exact h) (fun t h=>bind_r (fun u e=>?_) (fun u h v e=>?_)) t e
 ·split at e
  ·rw [rounds_needs e]; exact h
  ·cases e; exact h
 ·split at e
  ·rw [rounds_gets e]; exact h
  ·split at e
   ·rw [rounds_gets e]; exact h
   ·rw [rounds_gets e]; exact h
theorem behind_rounds (cell:Nat→Nat) {s t:St} (a b op:Nat) (h:s.2≤4) (e:behind cell s a b op=.ok t):t.2≤4:=by
 unfold behind at e
 split at e
 all_goals first
  | (rw [rounds_gets e]; exact h)
  | (rw [rounds_needs e]; exact h)
  | exact rounds_opened e
  | exact rounds_call _ h e
  | (cases e; exact h)
  | (split at e; (rw [rounds_gets e]; exact h); cases e)
  | (split at e; (cases e; exact h); cases e)
  | (split at e; (cases e; simp only; omega); cases e)
  | (refine bind_r (fun t e=>by rw [rounds_needs e]; exact h) (fun t h u e=>?_) t e; first|(rw [rounds_gets e]; exact h)|exact rounds_opened e)
  | (refine bind_r (fun t e=>by rw [rounds_needs e]; exact h) (fun t h=>bind_r (fun t e=>by rw [rounds_needs e]; exact h) (fun t h u e=>?_)) t e; (rw [rounds_gets e]; exact h))
  | (refine bind_r (fun t e=>rounds_many _ h e) (fun t h u e=>?_) t e; exact rounds_opened e)
  | (refine bind_r (fun t e=>by rw [rounds_needs e]; exact h) (fun t h=>bind_r (fun t e=>by rw [rounds_needs e]; exact h) (fun t h=>bind_r (fun t e=>by rw [rounds_needs e]; exact h) (fun t h=>bind_r (fun t e=>by rw [rounds_gets e]; exact h) (fun t h u e=>?_)))) t e; (rw [rounds_gets e]; exact h))
  | (unfold keeps at e; split at e; cases e; split at e; (cases e; exact h); cases e)
theorem look_append (a b:Nat) (s:St):∀ T:List (Nat×St),look a (T++[(b,s)])=match look a T with|some t=>some t|none=>if b=a then some s else none
 | []=>by simp [look]
 | (c,t) :: T=>by
  simp only [List.cons_append,look]
  by_cases e:c=a
  ·simp [e]
  ·simp only [if_neg e]
   exact look_append a b s T
theorem TabOk.lim {L:Lk} (h:TabOk L) (s:St):TabOk (L.lim s):=h
theorem TabOk.put {L:Lk} (h:TabOk L) (a:Nat) {s:St} (hs:Fine s∧s.2≤4):TabOk (L.put a s):=by
 intro b t e
 have e':look b (L.tab++[(a,s)])=some t:=e
 rw [look_append] at e'
 split at e'
 ·cases e'; rename_i u hu; exact h b _ hu
 ·split at e'
  ·cases e'; exact hs
  ·cases e'
theorem comes_ok {n:Nat} {L L':Lk} {a:Nat} {s:St} (h:TabOk L) (hs:Fine s∧s.2≤4) (e:comes n L a s=.ok L'):TabOk L'∧L'.word=L.word:=by
 unfold comes at e
 split at e
 ·split at e
  ·split at e
   ·cases e; exact ⟨h.lim s,rfl⟩
   ·cases e
  ·cases e; exact ⟨(h.put a hs).lim s,rfl⟩
 ·cases e
theorem far_fine {cell:Nat→Nat} {op A:Nat} {s t:St} (hs:Fine s∧s.2≤4) (hc:op=17→1≤cell A∧cell A < 4) (e:farOf cell op A s=.ok t):Fine t∧t.2≤4:=by
 unfold farOf at e
 split at e
 ·rename_i h
  exact ⟨gets_fine hs.1 (hc h) e,by rw [rounds_gets e]; exact hs.2⟩
 ·split at e
  ·cases e; exact ⟨hs.1,by simp only; omega⟩
  ·cases e; exact hs
theorem got_ok {L:Lk} (h:TabOk L) (a:Nat):Fine ((look a L.tab).getD ([],0))∧((look a L.tab).getD ([],0)).2≤4:=by
 cases e:look a L.tab with
 | none=>exact ⟨⟨by simp,by simp⟩,by simp⟩
 | some t=>exact h a t e
theorem looks_ok {n:Nat} {cell:Nat→Nat} {L L':Lk} {a op A B:Nat} (h:TabOk L) (hb:op=1∨op=11→1≤B∧B < 4) (hc:op=17→1≤cell A∧cell A < 4) (e:looks n cell L a op A B=.ok L'):TabOk L'∧L'.word=L.word:=by
 unfold looks at e
 split at e
 ·unfold haltOf at e
  split at e
  ·split at e
   ·cases e; exact ⟨h,rfl⟩
   ·cases e
  ·cases e
 ·have hg:=got_ok h a
  generalize (look a L.tab).getD ([],0)=s at e hg
  cases e1:behind cell s A B op with
  | error x=>rw [e1] at e; cases e
  | ok t =>
   rw [e1] at e
   have ht:Fine t∧t.2≤4:=⟨behind_fine cell A B op hg.1 hb e1,behind_rounds cell A B op hg.2 e1⟩
   replace e:(farOf cell op A t).bind (fun far=>(nextOf n L a op t).bind fun L1=>jumpOf n L1 op A B far)=.ok L':=e
   cases e2:farOf cell op A t with
   | error x=>rw [e2] at e; cases e
   | ok far =>
    rw [e2] at e
    have hf:=far_fine ht hc e2
    replace e:(nextOf n L a op t).bind (fun L1=>jumpOf n L1 op A B far)=.ok L':=e
    cases e3:nextOf n L a op t with
    | error x=>rw [e3] at e; cases e
    | ok L1 =>
     rw [e3] at e
     replace e:jumpOf n L1 op A B far=.ok L':=e
     have h1:TabOk L1∧L1.word=L.word:=by
      unfold nextOf at e3
      split at e3
      ·cases e3; exact ⟨h,rfl⟩
      ·exact comes_ok h ht e3
     unfold jumpOf at e
     split at e
     ·exact ⟨(comes_ok h1.1 hf e).1,(comes_ok h1.1 hf e).2.trans h1.2⟩
     ·split at e
      ·exact ⟨(comes_ok h1.1 hf e).1,(comes_ok h1.1 hf e).2.trans h1.2⟩
      ·cases e; exact h1
end Go.Proofs.YtcmdjpolgaejoaaDoor.Gd
namespace Go.Proofs.YtcmdjpolgaejoaaDoor.Gd
set_option linter.unusedVariables false
set_option linter.unusedSimpArgs false
def Lk.take (L:Lk):Lk:={ L with word:=L.at_,left:=L.left.set L.at_ false }
def Lk.skip (L:Lk):Lk:={ L with word:=L.at_,at_:=L.at_+1 }
def run (n:Nat) (cell:Nat→Nat) (pt:Nat→Nat×Nat×Nat):Nat→Lk→Option (Except (Int×Nat) Lk)
 | 0,_=>none
 | f+1,L =>
  if L.at_ < n then
   if L.left.getD L.at_ false=true then
    match looks n cell L.take L.at_ (pt L.at_).1 (pt L.at_).2.1 (pt L.at_).2.2 with
    | .error e=>some (.error (e,L.at_))
    | .ok L'=>run n cell pt f L'
   else run n cell pt f L.skip
  else some (.ok L)
def unk (n:Nat) (T:List (Nat×St)):Nat:=((List.range n).filter fun i=>(look i T).isNone).length
def key (n:Nat) (L:Lk):Nat:=2*unk n L.tab+L.left.count true
def mu (n:Nat) (L:Lk):Nat:=key n L*(n+1)+(n - L.at_)
theorem count_set_true (l:List Bool):∀ (i:Nat),(l.set i true).count true≤l.count true+1:=by
 induction l with
 | nil=>intro i; simp
 | cons b t ih =>
  intro i
  cases i with
  | zero=>cases b<;>simp
  | succ i=>have:=ih i; cases b<;>simp<;>omega
theorem count_set_false (l:List Bool):∀ (i:Nat),l.getD i false=true→(l.set i false).count true+1=l.count true:=by
 induction l with
 | nil=>intro i h; simp at h
 | cons b t ih =>
  intro i h
  cases i with
  | zero=>simp at h; subst h; simp
  | succ i=>have:=ih i (by simpa using h); cases b<;>simp<;>omega
theorem filter_lt (p q:Nat→Bool) (l:List Nat) (h:∀ x,q x=true→p x=true) (a:Nat) (ha:a∈l) (hp:p a=true) (hq:q a=false):(l.filter q).length < (l.filter p).length:=by
 induction l with
 | nil=>simp at ha
 | cons x t ih =>
  have hle:(t.filter q).length≤(t.filter p).length:=by
   rw [← List.countP_eq_length_filter,← List.countP_eq_length_filter]
   exact List.countP_mono_left fun y _ hy=>h y hy
  rcases List.mem_cons.1 ha with rfl|ha
  ·simp [hp,hq]
   omega
  ·have:=ih ha
   by_cases hx:q x=true
   ·simp [hx,h x hx]
    exact this
   ·by_cases hpx:p x=true
    ·simp [hx,hpx]
     omega
    ·simp [hx,hpx]
     exact this
theorem unk_put (n:Nat) (T:List (Nat×St)) (a:Nat) (s:St) (ha:a < n) (hl:look a T=none):unk n (T++[(a,s)])+1≤unk n T:=by
 refine filter_lt _ _ _ (fun x hx=>?_) a (List.mem_range.2 ha) (by simp [hl]) (by simp [look_append,hl])
 simp only [look_append] at hx
 cases e:look x T with
 | none=>rfl
 | some t=>simp [e] at hx
theorem comes_key {n:Nat} {L L':Lk} {a:Nat} {s:St} (e:comes n L a s=.ok L'):key n L'≤key n L∧L'.left.length=L.left.length:=by
 unfold comes at e
 split at e
 ·rename_i ha
  split at e
  ·split at e
   ·cases e; exact ⟨Nat.le_refl _,rfl⟩
   ·cases e
  ·rename_i hl
   cases e
   refine ⟨?_,by simp [Lk.lim,Lk.put]⟩
   have h1:=unk_put n L.tab a s ha hl
   have h2:=count_set_true L.left a
   show 2*unk n (L.tab++[(a,s)])+(L.left.set a true).count true≤2*unk n L.tab+L.left.count true
   omega
 ·cases e
theorem looks_key {n:Nat} {cell:Nat→Nat} {L L':Lk} {a op A B:Nat} (e:looks n cell L a op A B=.ok L'):key n L'≤key n L∧L'.left.length=L.left.length:=by
 unfold looks at e
 split at e
 ·unfold haltOf at e
  split at e
  ·split at e
   ·cases e; exact ⟨Nat.le_refl _,rfl⟩
   ·cases e
  ·cases e
 ·generalize behind cell ((look a L.tab).getD ([],0)) A B op=b at e
  cases b with
  | error x=>cases e
  | ok t =>
   replace e:(farOf cell op A t).bind (fun far=>(nextOf n L a op t).bind fun L1=>jumpOf n L1 op A B far)=.ok L':=e
   cases e2:farOf cell op A t with
   | error x=>rw [e2] at e; cases e
   | ok far =>
    rw [e2] at e
    replace e:(nextOf n L a op t).bind (fun L1=>jumpOf n L1 op A B far)=.ok L':=e
    cases e3:nextOf n L a op t with
    | error x=>rw [e3] at e; cases e
    | ok L1 =>
     rw [e3] at e
     replace e:jumpOf n L1 op A B far=.ok L':=e
     have h1:key n L1≤key n L∧L1.left.length=L.left.length:=by
      unfold nextOf at e3
      split at e3
      ·cases e3; exact ⟨Nat.le_refl _,rfl⟩
      ·exact comes_key e3
     unfold jumpOf at e
     split at e
     ·exact ⟨Nat.le_trans (comes_key e).1 h1.1,(comes_key e).2.trans h1.2⟩
     ·split at e
      ·exact ⟨Nat.le_trans (comes_key e).1 h1.1,(comes_key e).2.trans h1.2⟩
      ·cases e; exact h1
theorem take_key {n:Nat} {L:Lk} (h:L.left.getD L.at_ false=true):key n L.take+1=key n L:=by
 have:=count_set_false L.left L.at_ h
 show 2*unk n L.tab+(L.left.set L.at_ false).count true+1=2*unk n L.tab+L.left.count true
 omega
theorem mu_looks {n:Nat} {cell:Nat→Nat} {L L':Lk} {op A B:Nat} (h:L.left.getD L.at_ false=true) (e:looks n cell L.take L.at_ op A B=.ok L'):mu n L' < mu n L:=by
 have h1:=(looks_key e).1
 have h2:=take_key (n:=n) h
 unfold mu
 have h3:key n L'+1≤key n L:=by omega
 have h4:=Nat.mul_le_mul_right (n+1) h3
 rw [Nat.add_mul,Nat.one_mul] at h4
 omega
theorem mu_skip {n:Nat} {L:Lk} (h:L.at_ < n):mu n L.skip < mu n L:=by
 show key n L*(n+1)+(n - (L.at_+1)) < key n L*(n+1)+(n - L.at_)
 omega
theorem run_some (n:Nat) (cell:Nat→Nat) (pt:Nat→Nat×Nat×Nat):∀ (f:Nat) (L:Lk),mu n L < f→(run n cell pt f L).isSome=true
 | 0,_,h=>absurd h (Nat.not_lt_zero _)
 | f+1,L,h=>by
  unfold run
  by_cases h1:L.at_ < n
  ·rw [if_pos h1]
   by_cases h2:L.left.getD L.at_ false=true
   ·rw [if_pos h2]
    split
    ·rfl
    ·rename_i L' e
     have:=mu_looks h2 e
     exact run_some n cell pt f L' (by omega)
   ·rw [if_neg h2]
    have:=mu_skip h1
    exact run_some n cell pt f L.skip (by omega)
  ·rw [if_neg h1]
   rfl
end Go.Proofs.YtcmdjpolgaejoaaDoor.Gd
namespace Go.Proofs.YtcmdjpolgaejoaaDoor.Gd
set_option linter.unusedVariables false
set_option linter.unusedSimpArgs false
structure RSt where
 ks:List Nat
 r:Nat
 known:Bool
 done:Bool
def RSt.s (x:RSt):St:=(x.ks,x.r)
def rz:RSt:=⟨[],0,false,false⟩
structure Rk where
 l:List RSt
 stack:Nat
 rounds:Nat
 kind:Nat
 e:Int
def Rk.bad (R:Rk) (e:Int):Rk:={ R with e:=e }
def Rk.lim (R:Rk) (s:St):Rk:={ R with stack:=max R.stack s.1.length,rounds:=max R.rounds s.2 }
def Rk.put (R:Rk) (a:Nat) (s:St):Rk:={ R with l:=R.l.set a ⟨s.1,s.2,true,false⟩ }
def rcomes (R:Rk) (a:Nat) (s:St):Rk :=
 if R.e=0 then
  if a < R.l.length then
   if s.1.length≤1024 then
    if (R.l.getD a rz).known=true then (if (R.l.getD a rz).s=s then R.lim s else R.bad 202)
    else (R.put a s).lim s
   else R.bad 201
  else R.bad 200
 else R
def rhalts (R:Rk) (s:St):Rk :=
 if s.1.length=1∧s.2=0 then (if R.kind=0∨R.kind=s.1.headD 0 then { R with kind:=s.1.headD 0 } else R.bad 202) else R.bad 201
def gives (a:Nat):Nat:=if a=1∨a=2 then 2 else if a=10 then 3 else 1
def rword (cell:Nat→Nat) (r:Nat) (a b:Nat):Nat→List Nat×List Nat×Int×Bool
 | 1=>([],[b],0,true)
 | 2=>([],[3],0,true)
 | 3=>([],[3],0,decide (a < r))
 | 4=>([1],[1],0,true)
 | 5=>([2],[2],0,true)
 | 6=>([1,1],[1],0,true)
 | 7=>([1,1],[1],0,true)
 | 8=>([1,1],[1],0,true)
 | 9=>([1,1],[1],0,true)
 | 10=>([1,1],[1],0,true)
 | 11=>([b,b],[2],0,true)
 | 12=>([1,1],[2],0,true)
 | 14=>([2],[],0,true)
 | 15=>([2],[],0,true)
 | 16=>(if a≤3 then [3,3] else [3],[gives a],0,true)
 | 18=>([cell a],[cell a],0,true)
 | 20=>([],[],1,decide (r < 4))
 | 21=>([],[],1,decide (r < 4))
 | 22=>([3],[],1,decide (r < 4))
 | 23=>(List.replicate a 3,[],1,decide (r < 4))
 | 24=>([],[],0,decide (0 < r))
 | 25=>([],[],-1,decide (0 < r))
 | 26=>([1,2,1],[2,1],0,true)
 | 27=>([2],[],0,true)
 | _=>([],[],0,true)
def rstep (cell:Nat→Nat) (s:St) (a b op:Nat):Except Int St :=
  if (rword cell s.2 a b op).2.2.2=true∧(rword cell s.2 a b op).1.length≤s.1.length then
    if s.1.take (rword cell s.2 a b op).1.length=(rword cell s.2 a b op).1 then
      (let t:St:=((rword cell s.2 a b op).2.1++s.1.drop (rword cell s.2 a b op).1.length,((s.2:Int)+(rword cell s.2 a b op).2.2.1).toNat)
       if t.1.length+(if op=17 then 1 else 0)≤1024 then .ok t else .error 201)
    else .error (if op=18 then 203 else 201)
  else .error 201
def rgoes (cell:Nat→Nat) (R:Rk) (at_ op A B:Nat) (s:St):Rk :=
 let R1:=if op=13 then R else rcomes R (at_+1) s
 if op=13∨op=14∨op=15 then rcomes R1 A s
 else if op=17 then rcomes R1 B (cell A :: s.1,s.2)
 else if op=24 then rcomes R1 A (s.1,s.2 - 1)
 else R1
def rlooks (cell:Nat→Nat) (R:Rk) (at_ op A B:Nat):Rk :=
 if op=0 then rhalts R (R.l.getD at_ rz).s
 else match rstep cell (R.l.getD at_ rz).s A B op with
  | .error e=>R.bad e
  | .ok s=>rgoes cell R at_ op A B s
def needsAll:List Nat→St→Except Int St
 | [],s=>.ok s
 | k :: p,s=>(needs k s).bind (needsAll p)
theorem needsAll_eq:∀ (p ks:List Nat) (r:Nat),needsAll p (ks,r)=if p.length≤ks.length∧ks.take p.length=p then .ok (ks.drop p.length,r) else .error 201
 | [],ks,r=>by simp [needsAll]
 | k :: p,[],r=>by simp [needsAll,needs,Except.bind]
 | k :: p,x :: t,r=>by
  unfold needsAll
  by_cases h:x=k
  ·subst h
   simp only [needs,if_true,Except.bind]
   rw [needsAll_eq p t r]
   simp
  ·simp [needs,h,Except.bind]
theorem many_all:∀ (a:Nat) (s:St),many a s=needsAll (List.replicate a 3) s
 | 0,s=>rfl
 | a+1,s=>by
  rw [List.replicate_succ]
  unfold many needsAll
  congr 1
  funext t
  exact many_all a t
theorem all_rounds (p:List Nat) (s t:St) (h:needsAll p s=.ok t):t.2=s.2∧t.1.length+p.length=s.1.length:=by
 obtain ⟨ks,r⟩:=s
 rw [needsAll_eq] at h
 split at h
 ·rename_i hc
  cases h
  exact ⟨rfl,by simp; omega⟩
 ·cases h
theorem all_err (p:List Nat) (s:St) (e:Int) (h:needsAll p s=.error e):e=201:=by
 obtain ⟨ks,r⟩:=s
 rw [needsAll_eq] at h
 split at h
 ·cases h
 ·cases h; rfl
theorem rstep_all (cell:Nat→Nat) (s:St) (a b op:Nat) (p q:List Nat) (m:Int) (hw:rword cell s.2 a b op=(p,q,m,true)) (h17:op≠17) (h18:op≠18) :
  rstep cell s a b op=(needsAll p s).bind fun t=>if q.length+t.1.length≤1024 then .ok (q++t.1,((t.2:Int)+m).toNat) else .error 201:=by
 obtain ⟨ks,r⟩:=s
 unfold rstep
 rw [hw]
 simp only [if_neg h17,if_neg h18,true_and,Nat.add_zero,List.length_append]
 by_cases h1:p.length≤ks.length
 ·by_cases h2:ks.take p.length=p
  ·have e:needsAll p (ks,r)=.ok (ks.drop p.length,r):=by rw [needsAll_eq,if_pos ⟨h1,h2⟩]
   rw [if_pos h1,if_pos h2,e]
   rfl
  ·have e:needsAll p (ks,r)=.error 201:=by rw [needsAll_eq,if_neg (fun h=>h2 h.2)]
   rw [if_pos h1,if_neg h2,e]
   rfl
 ·have e:needsAll p (ks,r)=.error 201:=by rw [needsAll_eq,if_neg (fun h=>h1 h.1)]
  rw [if_neg h1,e]
  rfl
theorem rstep_no (cell:Nat→Nat) (s:St) (a b op:Nat) (h:(rword cell s.2 a b op).2.2.2=false):rstep cell s a b op=.error 201:=by
 unfold rstep
 rw [if_neg (by rw [h]; simp)]
theorem bindOk {α β γ:Type} (f:Except Int α) (g:α→Except Int β) (h:β→Except Int γ):(f.bind g).bind h=f.bind fun x=>(g x).bind h:=by cases f<;>rfl
theorem bind_congr {α β:Type} (f:Except Int α) (g h:α→Except Int β) (e:∀ x,f=.ok x→g x=h x):f.bind g=f.bind h:=by
 cases f with
 | error x=>rfl
 | ok x=>exact e x rfl
theorem bind_err201 {α:Type} (p:List Nat) (s:St) (g:St→Except Int α) (h:∀ t,needsAll p s=.ok t→g t=.error 201):(needsAll p s).bind g=.error 201:=by
 cases e:needsAll p s with
 | error x=>rw [all_err p s x e]; rfl
 | ok t=>exact h t e
theorem gets_eq (k:Nat) (t:St):gets k t=if [k].length+t.1.length≤1024 then .ok ([k]++t.1,((t.2:Int)+0).toNat) else .error 201:=by
 unfold gets
 by_cases h:t.1.length < 1024
 ·rw [if_pos h,if_pos (by simp; omega)]
  simp
 ·rw [if_neg h,if_neg (by simp; omega)]
theorem a1 (k:Nat) (s:St):needs k s=needsAll [k] s:=by
 show _=(needs k s).bind _
 cases needs k s<;>rfl
theorem a1g (k:Nat) (s:St) (g:St→Except Int St):(needs k s).bind g=(needsAll [k] s).bind g:=by rw [a1]
theorem a2g (k j:Nat) (s:St) (g:St→Except Int St):((needs k s).bind fun t=>(needs j t).bind g)=(needsAll [k,j] s).bind g:=by
 show _=((needs k s).bind (needsAll [j])).bind g
 rw [bindOk]
 congr 1
 funext t
 rw [a1]
theorem a3g (k j i:Nat) (s:St) (g:St→Except Int St):((needs k s).bind fun t=>(needs j t).bind fun u=>(needs i u).bind g)=(needsAll [k,j,i] s).bind g:=by
 show _=((needs k s).bind (needsAll [j,i])).bind g
 rw [bindOk]
 congr 1
 funext t
 exact a2g j i t g
theorem pops_push (cell:Nat→Nat) (s:St) (a b op k:Nat) (p:List Nat) (hw:rword cell s.2 a b op=(p,[k],0,true)) (h17:op≠17) (h18:op≠18) (f:Except Int St) (hf:f=(needsAll p s).bind fun t=>gets k t):rstep cell s a b op=f:=by
 rw [rstep_all cell s a b op p [k] 0 hw h17 h18,hf]
 exact bind_congr _ _ _ fun t _=>(gets_eq k t).symm
theorem pops_none (cell:Nat→Nat) (s:St) (a b op:Nat) (p:List Nat) (m:Int) (hl:s.1.length≤1024) (hw:rword cell s.2 a b op=(p,[],m,true)) (h17:op≠17) (h18:op≠18) (f:Except Int St) (hf:f=(needsAll p s).bind fun t=>.ok (t.1,((t.2:Int)+m).toNat)):rstep cell s a b op=f:=by
 rw [rstep_all cell s a b op p [] m hw h17 h18,hf]
 exact bind_congr _ _ _ fun t ht=>by
  have:=(all_rounds p s t ht).2
  rw [if_pos (by simp; omega)]
  rfl
theorem opens (s:St) (p:List Nat) (h:s.2 < 4):((needsAll p s).bind fun t=>opened t)=(needsAll p s).bind fun t=>.ok (t.1,((t.2:Int)+1).toNat):=bind_congr _ _ _ fun t ht=>by
 have:=(all_rounds p s t ht).1
 unfold opened
 rw [if_pos (by omega)]
 rfl
theorem opens_no (s:St) (p:List Nat) (h:¬ s.2 < 4):((needsAll p s).bind fun t=>opened t)=.error 201:=bind_err201 _ _ _ fun t ht=>by
 have:=(all_rounds p s t ht).1
 unfold opened
 rw [if_neg (by omega)]
theorem call_eq (a:Nat) (s:St):call a s=(needsAll (if a≤3 then [3,3] else [3]) s).bind fun t=>gets (gives a) t:=by
 have hg:∀ u:St,(if a=1∨a=2 then gets 2 u else if a=10 then gets 3 u else gets 1 u)=gets (gives a) u:=fun u=>by
  unfold gives
  split
  ·rfl
  ·split<;>rfl
 unfold call
 simp only [hg]
 by_cases h:a≤3
 ·simp only [if_pos h]
  exact a2g 3 3 s fun u=>gets (gives a) u
 ·simp only [if_neg h]
  exact a1g 3 s fun u=>gets (gives a) u
theorem step_eq (cell:Nat→Nat) (s:St) (a b op:Nat) (ho:op≤27) (h17:op≠17) (hl:s.1.length≤1024):rstep cell s a b op=behind cell s a b op:=by
 have hz:∀ x:St,x=(x.1,((x.2:Int)+0).toNat):=fun x=>by simp
 have he:∀ p,((needsAll p s).bind fun t=>.ok (t.1,((t.2:Int)+0).toNat))=needsAll p s:=fun p=>by
  cases needsAll p s with
  | error e=>rfl
  | ok t=>exact congrArg Except.ok (hz t).symm
 match op,ho,h17 with
 | 0,_,h=>exact pops_none cell s a b 0 [] 0 hl rfl h (by decide) _ (he []).symm
 | 1,_,h=>exact pops_push cell s a b 1 b [] rfl h (by decide) _ rfl
 | 2,_,h=>exact pops_push cell s a b 2 3 [] rfl h (by decide) _ rfl
 | 3,_,h =>
  by_cases hr:a < s.2
  ·refine pops_push cell s a b 3 3 [] (by simp [rword,hr]) h (by decide) _ ?_
   exact if_pos hr
  ·rw [rstep_no cell s a b 3 (by simp [rword,hr])]
   exact (if_neg hr).symm
 | 4,_,h=>exact pops_push cell s a b 4 1 [1] rfl h (by decide) _ (a1g 1 s _)
 | 5,_,h=>exact pops_push cell s a b 5 2 [2] rfl h (by decide) _ (a1g 2 s _)
 | 6,_,h=>exact pops_push cell s a b 6 1 [1,1] rfl h (by decide) _ (a2g 1 1 s _)
 | 7,_,h=>exact pops_push cell s a b 7 1 [1,1] rfl h (by decide) _ (a2g 1 1 s _)
 | 8,_,h=>exact pops_push cell s a b 8 1 [1,1] rfl h (by decide) _ (a2g 1 1 s _)
 | 9,_,h=>exact pops_push cell s a b 9 1 [1,1] rfl h (by decide) _ (a2g 1 1 s _)
 | 10,_,h=>exact pops_push cell s a b 10 1 [1,1] rfl h (by decide) _ (a2g 1 1 s _)
 | 11,_,h=>exact pops_push cell s a b 11 2 [b,b] rfl h (by decide) _ (a2g b b s _)
 | 12,_,h=>exact pops_push cell s a b 12 2 [1,1] rfl h (by decide) _ (a2g 1 1 s _)
 | 13,_,h=>exact pops_none cell s a b 13 [] 0 hl rfl h (by decide) _ (he []).symm
 | 14,_,h=>exact pops_none cell s a b 14 [2] 0 hl rfl h (by decide) _ ((a1 2 s).trans (he [2]).symm)
 | 15,_,h=>exact pops_none cell s a b 15 [2] 0 hl rfl h (by decide) _ ((a1 2 s).trans (he [2]).symm)
 | 16,_,h=>exact pops_push cell s a b 16 (gives a) _ rfl h (by decide) _ (call_eq a s)
 | 17,_,h=>exact absurd rfl h
 | n+28,h,_=>exact absurd h (by omega)
 | 18,_,h =>
  obtain ⟨ks,r⟩:=s
  rcases ks with _|⟨x,t⟩
  ·rfl
  ·have hl':t.length+1≤1024:=hl
   show rstep cell (x :: t,r) a b 18=if x=cell a then .ok (x :: t,r) else .error 203
   unfold rstep rword
   by_cases hx:x=cell a
   ·subst hx
    simp [hl']
   ·simp [hx]
 | 19,_,h=>exact pops_none cell s a b 19 [] 0 hl rfl h (by decide) _ (he []).symm
 | 20,_,h =>
  by_cases hr:s.2 < 4
  ·exact pops_none cell s a b 20 [] 1 hl (by simp [rword,hr]) h (by decide) _ (opens s [] hr)
  ·rw [rstep_no cell s a b 20 (by simp [rword,hr])]
   exact (opens_no s [] hr).symm
 | 21,_,h =>
  by_cases hr:s.2 < 4
  ·exact pops_none cell s a b 21 [] 1 hl (by simp [rword,hr]) h (by decide) _ (opens s [] hr)
  ·rw [rstep_no cell s a b 21 (by simp [rword,hr])]
   exact (opens_no s [] hr).symm
 | 22,_,h =>
  by_cases hr:s.2 < 4
  ·exact pops_none cell s a b 22 [3] 1 hl (by simp [rword,hr]) h (by decide) _ ((a1g 3 s _).trans (opens s [3] hr))
  ·rw [rstep_no cell s a b 22 (by simp [rword,hr])]
   exact ((a1g 3 s _).trans (opens_no s [3] hr)).symm
 | 23,_,h =>
  have hm:behind cell s a b 23=(needsAll (List.replicate a 3) s).bind fun t=>opened t:=by
   show (many a s).bind _=_
   rw [many_all]
  by_cases hr:s.2 < 4
  ·exact pops_none cell s a b 23 (List.replicate a 3) 1 hl (by simp [rword,hr]) h (by decide) _ (hm.trans (opens s _ hr))
  ·rw [rstep_no cell s a b 23 (by simp [rword,hr])]
   exact (hm.trans (opens_no s _ hr)).symm
 | 24,_,h =>
  by_cases hr:0 < s.2
  ·refine pops_none cell s a b 24 [] 0 hl (by simp [rword,hr]) h (by decide) _ (Eq.trans ?_ (he []).symm)
   exact if_pos hr
  ·rw [rstep_no cell s a b 24 (by simp [rword,hr])]
   exact (if_neg hr).symm
 | 25,_,h =>
  by_cases hr:0 < s.2
  ·refine pops_none cell s a b 25 [] (-1) hl (by simp [rword,hr]) h (by decide) _ ?_
   show (if 0 < s.2 then _ else _)=Except.ok _
   rw [if_pos hr]
   congr 2
   omega
  ·rw [rstep_no cell s a b 25 (by simp [rword,hr])]
   exact (if_neg hr).symm
 | 26,_,h =>
  rw [rstep_all cell s a b 26 [1,2,1] [2,1] 0 rfl h (by decide)]
  refine Eq.trans ?_ (a3g 1 2 1 s fun v=>(gets 1 v).bind fun x=>gets 2 x).symm
  refine bind_congr _ _ _ fun t _=>?_
  unfold gets
  by_cases h1:t.1.length < 1024
  ·rw [if_pos h1]
   show _=if (1 :: t.1).length < 1024 then _ else _
   by_cases h2:t.1.length+1 < 1024
   ·rw [if_pos (by simp; omega),if_pos (by simpa using h2)]
    simp
   ·rw [if_neg (by simp; omega),if_neg (by simpa using h2)]
  ·rw [if_neg h1,if_neg (by simp; omega)]
   rfl
 | 27,_,h=>exact pops_none cell s a b 27 [2] 0 hl rfl h (by decide) _ ((a1 2 s).trans (he [2]).symm)
theorem step17 (cell:Nat→Nat) (s:St) (a b:Nat):rstep cell s a b 17=if s.1.length+1≤1024 then .ok s else .error 201:=by
 unfold rstep rword
 simp
end Go.Proofs.YtcmdjpolgaejoaaDoor.Gd
