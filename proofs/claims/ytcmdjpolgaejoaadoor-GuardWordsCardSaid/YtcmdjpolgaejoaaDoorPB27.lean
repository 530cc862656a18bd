/- The laws GuardLooks, GuardWords of the program hold, as their cards say: texts put together by a program, 28 of 38. -/
import Derived.Test.YtcmdjpolgaejoaaDoorPB26
namespace Go.Proofs.YtcmdjpolgaejoaaDoor.Gd
open Go.RowKit Go.Proofs.YtcmdjpolgaejoaaDoorW.PrintWords Go.Proofs.YtcmdjpolgaejoaaDoorW.PrintLast Go.Proofs.YtcmdjpolgaejoaaDoorW.PrintMore
set_option linter.unusedVariables false
set_option linter.unusedSimpArgs false
attribute [local irreducible] wpList
theorem V4.drew {w w':World} {cs c1 c2 c3:Array Value} (h:V4 w cs c1 c2 c3 w'):V4 w cs c1 c2 c3 w'.drew:=⟨h.k0,h.k1,h.k2,h.k3,h.b.drew⟩
theorem V4.setB {w w':World} {cs c1 c2 c3:Array Value} {m:Nat} {es:Array MapEntry} {ck:Nat} {o:Obj} (h:V4 w cs c1 c2 c3 w') (hm:w'.heap[m]? = some (.map es ck)) (g:w.heap.size≤m):V4 w cs c1 c2 c3 (setB w' m o) :=
 ⟨setB_far (map_ne hm h.k0) h.k0,setB_far (map_ne hm h.k1) h.k1,setB_far (map_ne hm h.k2) h.k2,setB_far (map_ne hm h.k3) h.k3,setB_below h.b g⟩
theorem setB_at {w:World} {m:Nat} {o:Obj} (h:w.heap[m]? = some o) (o':Obj):(setB w m o').heap[m]? = some o':=by
 have:=(Array.getElem?_eq_some_iff.1 h).1
 simp [setB,this]
set_option maxRecDepth 10000 in
theorem zero34:stV ([],0)=.agg z34_:=rfl
theorem insert0z {w:World} {m:Nat} (h:w.heap[m]? = some (.map #[] 0)):(Instr.mapUpdate 69 (.map (some m)) (.int .i64 0) (.agg z34_)).run Tryd.prog w=.ok () (setB w m (.map e0 1)):=by
 rw [← zero34]
 exact insert0 h
theorem res12 (a:Act) (N:Tmp) (v:Value) (h2:N≠2) (h3:N≠3) (h4:N≠4):results Tryd.f12 (a.put (some N) v).tmps=results Tryd.f12 a.tmps:=by
 have e:∀ k,k≠N→(a.tmps.setIfInBounds N v)[k]? = a.tmps[k]? := fun k hk=>by
  rw [Array.getElem?_setIfInBounds,if_neg (Ne.symm hk)]
 simp [Go.results,Tryd.results12,Act.put,e 2 (Ne.symm h2),e 3 (Ne.symm h3),e 4 (Ne.symm h4)]
theorem leaves12 {R:Ending→World→Prop} {t t':Array Value} (h:results Tryd.f12 t=results Tryd.f12 t'):∀ (ds:List Deferred) (u:FrameMode) (w:World),Leaves Tryd.prog Tryd.f12 t R ds u w→Leaves Tryd.prog Tryd.f12 t' R ds u w
 | [],.returning,w,⟨v,h1,h2⟩=>⟨v,h ▸ h1,h2⟩
 | [],.panicking c,w,h1=>h1
 | [],.run,w,h1=>h1
 | d :: ds,u,w,⟨h1,fv,cap,f,args,h2,h3,h4⟩=>⟨h1,fv,cap,f,args,h2,h3,h4.mono fun e u' w' hh=>by
   cases e with
   | returned v=>exact leaves12 h ds _ _ hh
   | panicked c=>exact leaves12 h ds _ _ hh
   | outgrown=>exact hh⟩
theorem res_cells {w':World} {g1 g2 g3:Nat} {a b c d e:Int} (k1:w'.heap[g1]? = some (.cells #[.int .i64 a,.int .i64 b,.int .i64 c] 29 (0,0))) (k2:w'.heap[g2]? = some (.cells #[.int .i64 d] 30 (0,0))) (k3:w'.heap[g3]? = some (.cells #[.int .i64 e] 3 (0,0))) (tmps:Array Value)
  (h2:tmps.getD 2 undef=.pointer (some ⟨g1,0,none⟩)) (h3:tmps.getD 3 undef=.pointer (some ⟨g2,0,none⟩)) (h4:tmps.getD 4 undef=.pointer (some ⟨g3,0,none⟩)) :
  (results Tryd.f12 tmps).run Tryd.prog w'=.ok (.tuple #[lim3 a b c,.int .i64 d,.int .i64 e]) w':=by
 have i29:(Tryd.prog.info? 29).map (·.size)=some 3:=by kernel_rfl
 have y1:=run_loadVar_row (P:=Tryd.prog) w' _ 29 29 _ (0,0) _ k1 Tryd.underlying29 rfl i29
 have y2:w'.cell? ⟨g2,0,none⟩=some (.int .i64 d):=blk_cell k2 0
 have y3:w'.cell? ⟨g3,0,none⟩=some (.int .i64 e):=blk_cell k3 0
 have p2:tmps[2]?.getD undef=.pointer (some ⟨g1,0,none⟩):=by simpa using h2
 have p3:tmps[3]?.getD undef=.pointer (some ⟨g2,0,none⟩):=by simpa using h3
 have p4:tmps[4]?.getD undef=.pointer (some ⟨g3,0,none⟩):=by simpa using h4
 simp [Go.results,Tryd.results12,p2,p3,p4,asAddr,y1,lim3]
 simp [loadVar,go_sem,y2,y3]
theorem pq {R:Ending→World→Prop} {a:Act} {N:Tmp} {v:Value} {c:List PanicEntry} {w:World} (h2:N≠2) (h3:N≠3) (h4:N≠4) (h:bodyPostD Tryd.prog Tryd.f12 R (.panic c) (a.put (some N) v) w):bodyPostD Tryd.prog Tryd.f12 R (.panic c) a w :=
 leaves12 (res12 a N v h2 h3 h4) _ _ _ h
set_option maxHeartbeats 8000000 in
set_option maxRecDepth 10000 in
theorem verify_calls (C:Cv) (cell:Nat→Nat) (pt:Nat→Nat×Nat×Nat) (w:World) (hC:CodeOk C cell w) (hn1:1≤C.l0.length) (hP:∀ a,a < C.l0.length→PartsAt w (rd C.l0 (a:Int)) (pt a).1 (pt a).2.1 (pt a).2.2) (hO:∀ a,a < C.l0.length→OpsOk C.l3.length (pt a).1 (pt a).2.1 (pt a).2.2) (hR:RightAt w C true)
  (r:Except (Int×Nat) Lk) (f:Nat) (hr:run C.l0.length cell pt f { L0 C.l0.length with left:=(L0 C.l0.length).left.set 0 true }=some r) :
  Calls Tryd.prog 12 #[.agg #[.slice C.A0 C.l0.length C.c0,.slice C.A1 C.l1.length C.c1,.slice C.A2 C.l2.length C.c2,.slice C.A3 C.l3.length C.c3]] w fun e w'=>e=.returned (outV (outOf r))∧Below w.heap.size w w':=by
 have hn:=hC.size
 have HC:=Aside0.mk hC
 have HPP:=Aside0.mk hP
 have HOO:=Aside0.mk hO
 have HRR:=Aside0.mk hr
 clear hC hP hO hr
 have hmf:∀ (fn:Fn) (first cap:Array Value) (w:World),(Instr.makeFunc fn first cap).run Tryd.prog w=.ok (.func fn first cap) w:=fun _ _ _ _=>rfl
 have HV:=Aside0.mk (V4.new w #[.slice C.A0 C.l0.length C.c0,.slice C.A1 C.l1.length C.c1,.slice C.A2 C.l2.length C.c2,.slice C.A3 C.l3.length C.c3] #[.int .i64 0,.int .i64 0,.int .i64 0] #[.int .i64 0] #[.int .i64 0])
 go_enter_defers Tryd.func12,Tryd.ntmps12
 go_wp2_with (go_at_call 24; (refine (hR _ (by repeat (first|exact Below.refl _ _|apply below_alloc))).mono ?_); rintro e w1 ⟨rfl,hb⟩; have HV:=Aside0.mk (HV.out.call hb); clear hb)
 refine start_ (n:=13) (S:=fun w'=>w'.cell? ⟨w.heap.size,0,none⟩=some (.slice C.A0 C.l0.length C.c0)∧w'.cell? ⟨w.heap.size,1,none⟩=some (.slice C.A1 C.l1.length C.c1)∧w'.cell? ⟨w.heap.size,2,none⟩=some (.slice C.A2 C.l2.length C.c2)∧w'.cell? ⟨w.heap.size,3,none⟩=some (.slice C.A3 C.l3.length C.c3)) (ds:=[12]) #[false,false,false,false,false,false,false,false,false,false,false,false,false] (by kernel_rfl) rfl rfl ⟨(blk_cell HV.out.k0 0),(blk_cell HV.out.k0 1),(blk_cell HV.out.k0 2),(blk_cell HV.out.k0 3)⟩ (fun hHeld=>?_)
 have hV:V4 w #[.slice C.A0 C.l0.length C.c0,.slice C.A1 C.l1.length C.c1,.slice C.A2 C.l2.length C.c2,.slice C.A3 C.l3.length C.c3] #[.int .i64 0,.int .i64 0,.int .i64 0] #[.int .i64 0] #[.int .i64 0] (World.drew w1):=HV.out.drew
 generalize World.drew w1=v0 at hV hHeld ⊢
 refine pure_ (i:=2) (N:=some 12) (v:=?_) (a':=?_) (bl_ 13 4) rfl rfl (by kernel_rfl) (fun _ _ _ h=>pq (by decide) (by decide) (by decide) h) (Or.inl ⟨by rfl,?_⟩) ?_ ?_
 rotate_left
 ·intro w'
  go_simp
  with_reducible rfl
 rotate_left
 ·simp only [Act.put,zA_,zB_,zC_,i64_w]
  rfl
 refine pure_ (i:=5) (N:=some 14) (v:=?_) (a':=?_) (bl_ 13 36) rfl rfl (by kernel_rfl) (fun _ _ _ h=>pq (by decide) (by decide) (by decide) h) (Or.inl ⟨by rfl,?_⟩) ?_ ?_
 rotate_left
 ·intro w'
  go_simp
  with_reducible rfl
 rotate_left
 ·simp only [Act.put,zA_,zB_,zC_,i64_w]
  rfl
 refine take_ (i:=0) (N:=some 10) (v:=?_) (a':=?_) (bl_ 13 37) rfl rfl (by kernel_rfl) (fun _ _ _ h=>pq (by decide) (by decide) (by decide) h) (Or.inl ⟨by rfl,?_⟩) hHeld ?_ ?_
 rotate_left
 ·rintro w' ⟨s0,s1,s2,s3⟩
  go_simp
  with_reducible rfl
 rotate_left
 ·simp only [Act.put,zA_,zB_,zC_,i64_w]
  rfl
 refine take_ (i:=6) (N:=some 15) (v:=?_) (a':=?_) (bl_ 13 101) rfl rfl (by kernel_rfl) (fun _ _ _ h=>pq (by decide) (by decide) (by decide) h) (Or.inl ⟨by rfl,?_⟩) hHeld ?_ ?_
 rotate_left
 ·rintro w' ⟨s0,s1,s2,s3⟩
  go_simp
  with_reducible rfl
 rotate_left
 ·simp only [Act.put,zA_,zB_,zC_,i64_w]
  rfl
 refine pure_ (i:=7) (N:=some 16) (v:=?_) (a':=?_) (bl_ 13 229) rfl rfl (by kernel_rfl) (fun _ _ _ h=>pq (by decide) (by decide) (by decide) h) (Or.inl ⟨by rfl,?_⟩) ?_ ?_
 rotate_left
 ·intro w'
  go_simp
  with_reducible rfl
 rotate_left
 ·simp only [Act.put,zA_,zB_,zC_,i64_w]
  rfl
 refine join_ (σ:=Nat×Nat×Nat×Nat) 1 (bl_ 13 4095) (fun s_=>[(11,.map (some s_.1)),(13,.map (some s_.1)),(17,.slice (some ⟨s_.2.1,0,none⟩) C.l0.length C.l0.length),(18,.agg #[.slice C.A0 C.l0.length C.c0,.slice C.A1 C.l1.length C.c1,.slice C.A2 C.l2.length C.c2,.slice C.A3 C.l3.length C.c3,.map (some (s_.1)),.slice (some ⟨s_.2.1,0,none⟩) C.l0.length C.l0.length,.int .i64 0,.int .i64 0,.int .i64 0,.int .i64 0,.int .i64 0]),(19,.pointer (some ⟨s_.2.2.1,0,none⟩)),(5,.pointer (some ⟨s_.2.2.2,0,none⟩))]) (fun s_ w'=>V4 w #[.slice C.A0 C.l0.length C.c0,.slice C.A1 C.l1.length C.c1,.slice C.A2 C.l2.length C.c2,.slice C.A3 C.l3.length C.c3] #[.int .i64 0,.int .i64 0,.int .i64 0] #[.int .i64 0] #[.int .i64 0] w'∧w'.heap[s_.1]? = some (.map e0 1)∧w'.heap[s_.2.1]? = some (.cells (falses C.l0.length) 4 (0,0))∧w'.heap[s_.2.2.1]? = some (.cells #[.slice C.A0 C.l0.length C.c0,.slice C.A1 C.l1.length C.c1,.slice C.A2 C.l2.length C.c2,.slice C.A3 C.l3.length C.c3,.map (some (s_.1)),.slice (some ⟨s_.2.1,0,none⟩) C.l0.length C.l0.length,.int .i64 0,.int .i64 0,.int .i64 0,.int .i64 0,.int .i64 0] 72 (0,0))∧w'.heap[s_.2.2.2]? = some (.cells #[.pointer none] 64 (0,0))∧w.heap.size≤s_.1∧w.heap.size≤s_.2.1∧w.heap.size≤s_.2.2.1∧w.heap.size≤s_.2.2.2) ?_ ?_
 rotate_left
 ·intro hCont
  refine three_ (i:=1) (j:=8) (k:=11) (Ni:=some 11) (Nj:=some 17) (Nk:=some 5) (bl_ 13 231) (bl_ 13 485) (bl_ 13 2277) rfl rfl rfl rfl rfl rfl (by kernel_rfl) (by decide) (by decide) (by decide) (fun K hK=>?_) (fun K hK=>?_) (fun K hK=>?_)
  ·skip
   have qi:=makeMap69 v0
   refine value_ (w1:=(v0.alloc (.map #[] 0))) (v:=.map (some v0.heap.size)) (by rfl) rfl (by go_simp) ?_
   clear qi
   have g1:w.heap.size≤v0.heap.size:=hV.b.size
   have h1:=heap_alloc_new v0 (.map #[] 0)
   have hV:=hV.call (below_alloc (Below.refl _ _) (.map #[] 0))
   generalize (v0.alloc (.map #[] 0))=v1 at hV h1 ⊢
   refine hK.out _ _ ⟨(blk_cell hV.k0 0),(blk_cell hV.k0 1),(blk_cell hV.k0 2),(blk_cell hV.k0 3)⟩ (fun hHeld=>?_)
   clear hK K
   refine norm_ (a':=?_) ?_ ?_
   rotate_left
   ·show Act.put _ (some 11) _=_
    simp only [Act.put,zA_,zB_,zC_,i64_w]
    rfl
   refine three_ (i:=3) (j:=8) (k:=11) (Ni:=none) (Nj:=some 17) (Nk:=some 5) (bl_ 13 239) (bl_ 13 487) (bl_ 13 2279) rfl rfl rfl rfl rfl rfl (by kernel_rfl) (by decide) (by decide) (by decide) (fun K hK=>?_) (fun K hK=>?_) (fun K hK=>?_)
   ·skip
    have qi:=insert0z h1
    refine skip_ (w1:=(setB v1 v0.heap.size (.map e0 1))) (by rfl) rfl (by go_simp) ?_
    clear qi
    have hV:=hV.setB (o:=.map e0 1) h1 g1
    have h1:=setB_at h1 (.map e0 1)
    generalize (setB v1 v0.heap.size (.map e0 1))=v2 at hV h1 ⊢
    refine hK.out _ _ ⟨(blk_cell hV.k0 0),(blk_cell hV.k0 1),(blk_cell hV.k0 2),(blk_cell hV.k0 3)⟩ (fun hHeld=>?_)
    clear hK K
    refine pure_ (i:=4) (N:=some 13) (v:=?_) (a':=?_) (bl_ 13 255) rfl rfl (by kernel_rfl) (fun _ _ _ h=>pq (by decide) (by decide) (by decide) h) (Or.inl ⟨by rfl,?_⟩) ?_ ?_
    rotate_left
    ·intro w'
     go_simp
     with_reducible rfl
    rotate_left
    ·simp only [Act.put,zA_,zB_,zC_,i64_w]
     rfl
    refine two_ (i:=8) (j:=11) (Ni:=some 17) (Nj:=some 5) (bl_ 13 511) (bl_ 13 2303) rfl rfl rfl rfl (by kernel_rfl) (by decide) (by decide) (fun K hK=>?_) (fun K hK=>?_)
    ·skip
     have qi:=make70 v2 C.l0.length hn
     refine value_ (w1:=(v2.alloc (.cells (falses C.l0.length) 4))) (v:=.slice (some ⟨v2.heap.size,0,none⟩) C.l0.length C.l0.length) (by rfl) rfl (by go_simp) ?_
     clear qi
     have g8:w.heap.size≤v2.heap.size:=hV.b.size
     have h1:=blk_alloc h1 (.cells (falses C.l0.length) 4)
     have h8:=heap_alloc_new v2 (.cells (falses C.l0.length) 4)
     have hV:=hV.call (below_alloc (Below.refl _ _) (.cells (falses C.l0.length) 4))
     generalize (v2.alloc (.cells (falses C.l0.length) 4))=v3 at hV h1 h8 ⊢
     refine hK.out _ _ ⟨(blk_cell hV.k0 0),(blk_cell hV.k0 1),(blk_cell hV.k0 2),(blk_cell hV.k0 3)⟩ (fun hHeld=>?_)
     clear hK K
     refine norm_ (a':=?_) ?_ ?_
     rotate_left
     ·show Act.put _ (some 17) _=_
      simp only [Act.put,zA_,zB_,zC_,i64_w]
      rfl
     refine pure_ (i:=9) (N:=some 18) (v:=?_) (a':=?_) (bl_ 13 1023) rfl rfl (by kernel_rfl) (fun _ _ _ h=>pq (by decide) (by decide) (by decide) h) (Or.inl ⟨by rfl,?_⟩) ?_ ?_
     rotate_left
     ·intro w'
      go_simp
      with_reducible rfl
     rotate_left
     ·simp only [Act.put,zA_,zB_,zC_,i64_w]
      rfl
     refine two_ (i:=10) (j:=11) (Ni:=some 19) (Nj:=some 5) (bl_ 13 2047) (bl_ 13 3071) rfl rfl rfl rfl (by kernel_rfl) (by decide) (by decide) (fun K hK=>?_) (fun K hK=>?_)
     ·skip
      refine value_ (w1:=(v3.alloc (.cells #[.slice C.A0 C.l0.length C.c0,.slice C.A1 C.l1.length C.c1,.slice C.A2 C.l2.length C.c2,.slice C.A3 C.l3.length C.c3,.map (some (v0.heap.size)),.slice (some ⟨v2.heap.size,0,none⟩) C.l0.length C.l0.length,.int .i64 0,.int .i64 0,.int .i64 0,.int .i64 0,.int .i64 0] 72))) (v:=.pointer (some ⟨v3.heap.size,0,none⟩)) (by rfl) rfl (by go_simp) ?_
      have g10:w.heap.size≤v3.heap.size:=hV.b.size
      have h1:=blk_alloc h1 (.cells #[.slice C.A0 C.l0.length C.c0,.slice C.A1 C.l1.length C.c1,.slice C.A2 C.l2.length C.c2,.slice C.A3 C.l3.length C.c3,.map (some (v0.heap.size)),.slice (some ⟨v2.heap.size,0,none⟩) C.l0.length C.l0.length,.int .i64 0,.int .i64 0,.int .i64 0,.int .i64 0,.int .i64 0] 72)
      have h8:=blk_alloc h8 (.cells #[.slice C.A0 C.l0.length C.c0,.slice C.A1 C.l1.length C.c1,.slice C.A2 C.l2.length C.c2,.slice C.A3 C.l3.length C.c3,.map (some (v0.heap.size)),.slice (some ⟨v2.heap.size,0,none⟩) C.l0.length C.l0.length,.int .i64 0,.int .i64 0,.int .i64 0,.int .i64 0,.int .i64 0] 72)
      have h10:=heap_alloc_new v3 (.cells #[.slice C.A0 C.l0.length C.c0,.slice C.A1 C.l1.length C.c1,.slice C.A2 C.l2.length C.c2,.slice C.A3 C.l3.length C.c3,.map (some (v0.heap.size)),.slice (some ⟨v2.heap.size,0,none⟩) C.l0.length C.l0.length,.int .i64 0,.int .i64 0,.int .i64 0,.int .i64 0,.int .i64 0] 72)
      have hV:=hV.call (below_alloc (Below.refl _ _) (.cells #[.slice C.A0 C.l0.length C.c0,.slice C.A1 C.l1.length C.c1,.slice C.A2 C.l2.length C.c2,.slice C.A3 C.l3.length C.c3,.map (some (v0.heap.size)),.slice (some ⟨v2.heap.size,0,none⟩) C.l0.length C.l0.length,.int .i64 0,.int .i64 0,.int .i64 0,.int .i64 0,.int .i64 0] 72))
      generalize (v3.alloc (.cells #[.slice C.A0 C.l0.length C.c0,.slice C.A1 C.l1.length C.c1,.slice C.A2 C.l2.length C.c2,.slice C.A3 C.l3.length C.c3,.map (some (v0.heap.size)),.slice (some ⟨v2.heap.size,0,none⟩) C.l0.length C.l0.length,.int .i64 0,.int .i64 0,.int .i64 0,.int .i64 0,.int .i64 0] 72))=v4 at hV h1 h8 h10 ⊢
      refine hK.out _ _ ⟨(blk_cell hV.k0 0),(blk_cell hV.k0 1),(blk_cell hV.k0 2),(blk_cell hV.k0 3)⟩ (fun hHeld=>?_)
      clear hK K
      refine norm_ (a':=?_) ?_ ?_
      rotate_left
      ·show Act.put _ (some 19) _=_
       simp only [Act.put,zA_,zB_,zC_,i64_w]
       rfl
      refine one_ (i:=11) (N:=some 5) (bl_ 13 4095) rfl rfl (by kernel_rfl) (by decide) (fun K hK=>?_)
      refine value_ (w1:=(v4.alloc (.cells #[.pointer none] 64))) (v:=.pointer (some ⟨v4.heap.size,0,none⟩)) (by rfl) rfl (by go_simp) ?_
      have g11:w.heap.size≤v4.heap.size:=hV.b.size
      have h1:=blk_alloc h1 (.cells #[.pointer none] 64)
      have h8:=blk_alloc h8 (.cells #[.pointer none] 64)
      have h10:=blk_alloc h10 (.cells #[.pointer none] 64)
      have h11:=heap_alloc_new v4 (.cells #[.pointer none] 64)
      have hV:=hV.call (below_alloc (Below.refl _ _) (.cells #[.pointer none] 64))
      generalize (v4.alloc (.cells #[.pointer none] 64))=v5 at hV h1 h8 h10 h11 ⊢
      refine hK.out _ _ ⟨(blk_cell hV.k0 0),(blk_cell hV.k0 1),(blk_cell hV.k0 2),(blk_cell hV.k0 3)⟩ (fun hHeld=>?_)
      clear hK K
      refine norm_ (a':=?_) ?_ ?_
      rotate_left
      ·show Act.put _ (some 5) _=_
       simp only [Act.put,zA_,zB_,zC_,i64_w]
       rfl
      exact norm_ (by simp only [putAll,Act.put,List.setIfInBounds_toArray,List.set_cons_zero,List.set_cons_succ]) (hCont (v0.heap.size,v2.heap.size,v3.heap.size,v4.heap.size) _ ⟨hV,h1,h8,h10,h11,g1,g8,g10,g11⟩)
     ·skip
      refine value_ (w1:=(v3.alloc (.cells #[.pointer none] 64))) (v:=.pointer (some ⟨v3.heap.size,0,none⟩)) (by rfl) rfl (by go_simp) ?_
      have g11:w.heap.size≤v3.heap.size:=hV.b.size
      have h1:=blk_alloc h1 (.cells #[.pointer none] 64)
      have h8:=blk_alloc h8 (.cells #[.pointer none] 64)
      have h11:=heap_alloc_new v3 (.cells #[.pointer none] 64)
      have hV:=hV.call (below_alloc (Below.refl _ _) (.cells #[.pointer none] 64))
      generalize (v3.alloc (.cells #[.pointer none] 64))=v4 at hV h1 h8 h11 ⊢
      refine hK.out _ _ ⟨(blk_cell hV.k0 0),(blk_cell hV.k0 1),(blk_cell hV.k0 2),(blk_cell hV.k0 3)⟩ (fun hHeld=>?_)
      clear hK K
      refine norm_ (a':=?_) ?_ ?_
      rotate_left
      ·show Act.put _ (some 5) _=_
       simp only [Act.put,zA_,zB_,zC_,i64_w]
       rfl
      refine one_ (i:=10) (N:=some 19) (bl_ 13 4095) rfl rfl (by kernel_rfl) (by decide) (fun K hK=>?_)
      refine value_ (w1:=(v4.alloc (.cells #[.slice C.A0 C.l0.length C.c0,.slice C.A1 C.l1.length C.c1,.slice C.A2 C.l2.length C.c2,.slice C.A3 C.l3.length C.c3,.map (some (v0.heap.size)),.slice (some ⟨v2.heap.size,0,none⟩) C.l0.length C.l0.length,.int .i64 0,.int .i64 0,.int .i64 0,.int .i64 0,.int .i64 0] 72))) (v:=.pointer (some ⟨v4.heap.size,0,none⟩)) (by rfl) rfl (by go_simp) ?_
      have g10:w.heap.size≤v4.heap.size:=hV.b.size
      have h1:=blk_alloc h1 (.cells #[.slice C.A0 C.l0.length C.c0,.slice C.A1 C.l1.length C.c1,.slice C.A2 C.l2.length C.c2,.slice C.A3 C.l3.length C.c3,.map (some (v0.heap.size)),.slice (some ⟨v2.heap.size,0,none⟩) C.l0.length C.l0.length,.int .i64 0,.int .i64 0,.int .i64 0,.int .i64 0,.int .i64 0] 72)
      have h8:=blk_alloc h8 (.cells #[.slice C.A0 C.l0.length C.c0,.slice C.A1 C.l1.length C.c1,.slice C.A2 C.l2.length C.c2,.slice C.A3 C.l3.length C.c3,.map (some (v0.heap.size)),.slice (some ⟨v2.heap.size,0,none⟩) C.l0.length C.l0.length,.int .i64 0,.int .i64 0,.int .i64 0,.int .i64 0,.int .i64 0] 72)
      have h11:=blk_alloc h11 (.cells #[.slice C.A0 C.l0.length C.c0,.slice C.A1 C.l1.length C.c1,.slice C.A2 C.l2.length C.c2,.slice C.A3 C.l3.length C.c3,.map (some (v0.heap.size)),.slice (some ⟨v2.heap.size,0,none⟩) C.l0.length C.l0.length,.int .i64 0,.int .i64 0,.int .i64 0,.int .i64 0,.int .i64 0] 72)
      have h10:=heap_alloc_new v4 (.cells #[.slice C.A0 C.l0.length C.c0,.slice C.A1 C.l1.length C.c1,.slice C.A2 C.l2.length C.c2,.slice C.A3 C.l3.length C.c3,.map (some (v0.heap.size)),.slice (some ⟨v2.heap.size,0,none⟩) C.l0.length C.l0.length,.int .i64 0,.int .i64 0,.int .i64 0,.int .i64 0,.int .i64 0] 72)
      have hV:=hV.call (below_alloc (Below.refl _ _) (.cells #[.slice C.A0 C.l0.length C.c0,.slice C.A1 C.l1.length C.c1,.slice C.A2 C.l2.length C.c2,.slice C.A3 C.l3.length C.c3,.map (some (v0.heap.size)),.slice (some ⟨v2.heap.size,0,none⟩) C.l0.length C.l0.length,.int .i64 0,.int .i64 0,.int .i64 0,.int .i64 0,.int .i64 0] 72))
      generalize (v4.alloc (.cells #[.slice C.A0 C.l0.length C.c0,.slice C.A1 C.l1.length C.c1,.slice C.A2 C.l2.length C.c2,.slice C.A3 C.l3.length C.c3,.map (some (v0.heap.size)),.slice (some ⟨v2.heap.size,0,none⟩) C.l0.length C.l0.length,.int .i64 0,.int .i64 0,.int .i64 0,.int .i64 0,.int .i64 0] 72))=v5 at hV h1 h8 h10 h11 ⊢
      refine hK.out _ _ ⟨(blk_cell hV.k0 0),(blk_cell hV.k0 1),(blk_cell hV.k0 2),(blk_cell hV.k0 3)⟩ (fun hHeld=>?_)
      clear hK K
      refine norm_ (a':=?_) ?_ ?_
      rotate_left
      ·show Act.put _ (some 19) _=_
       simp only [Act.put,zA_,zB_,zC_,i64_w]
       rfl
      exact norm_ (by simp only [putAll,Act.put,List.setIfInBounds_toArray,List.set_cons_zero,List.set_cons_succ]) (hCont (v0.heap.size,v2.heap.size,v4.heap.size,v3.heap.size) _ ⟨hV,h1,h8,h10,h11,g1,g8,g10,g11⟩)
    ·skip
     refine value_ (w1:=(v2.alloc (.cells #[.pointer none] 64))) (v:=.pointer (some ⟨v2.heap.size,0,none⟩)) (by rfl) rfl (by go_simp) ?_
     have g11:w.heap.size≤v2.heap.size:=hV.b.size
     have h1:=blk_alloc h1 (.cells #[.pointer none] 64)
     have h11:=heap_alloc_new v2 (.cells #[.pointer none] 64)
     have hV:=hV.call (below_alloc (Below.refl _ _) (.cells #[.pointer none] 64))
     generalize (v2.alloc (.cells #[.pointer none] 64))=v3 at hV h1 h11 ⊢
     refine hK.out _ _ ⟨(blk_cell hV.k0 0),(blk_cell hV.k0 1),(blk_cell hV.k0 2),(blk_cell hV.k0 3)⟩ (fun hHeld=>?_)
     clear hK K
     refine norm_ (a':=?_) ?_ ?_
     rotate_left
     ·show Act.put _ (some 5) _=_
      simp only [Act.put,zA_,zB_,zC_,i64_w]
      rfl
     refine one_ (i:=8) (N:=some 17) (bl_ 13 2559) rfl rfl (by kernel_rfl) (by decide) (fun K hK=>?_)
     have qi:=make70 v3 C.l0.length hn
     refine value_ (w1:=(v3.alloc (.cells (falses C.l0.length) 4))) (v:=.slice (some ⟨v3.heap.size,0,none⟩) C.l0.length C.l0.length) (by rfl) rfl (by go_simp) ?_
     clear qi
     have g8:w.heap.size≤v3.heap.size:=hV.b.size
     have h1:=blk_alloc h1 (.cells (falses C.l0.length) 4)
     have h11:=blk_alloc h11 (.cells (falses C.l0.length) 4)
     have h8:=heap_alloc_new v3 (.cells (falses C.l0.length) 4)
     have hV:=hV.call (below_alloc (Below.refl _ _) (.cells (falses C.l0.length) 4))
     generalize (v3.alloc (.cells (falses C.l0.length) 4))=v4 at hV h1 h8 h11 ⊢
     refine hK.out _ _ ⟨(blk_cell hV.k0 0),(blk_cell hV.k0 1),(blk_cell hV.k0 2),(blk_cell hV.k0 3)⟩ (fun hHeld=>?_)
     clear hK K
     refine norm_ (a':=?_) ?_ ?_
     rotate_left
     ·show Act.put _ (some 17) _=_
      simp only [Act.put,zA_,zB_,zC_,i64_w]
      rfl
     refine pure_ (i:=9) (N:=some 18) (v:=?_) (a':=?_) (bl_ 13 3071) rfl rfl (by kernel_rfl) (fun _ _ _ h=>pq (by decide) (by decide) (by decide) h) (Or.inl ⟨by rfl,?_⟩) ?_ ?_
     rotate_left
     ·intro w'
      go_simp
      with_reducible rfl
     rotate_left
     ·simp only [Act.put,zA_,zB_,zC_,i64_w]
      rfl
     refine one_ (i:=10) (N:=some 19) (bl_ 13 4095) rfl rfl (by kernel_rfl) (by decide) (fun K hK=>?_)
     refine value_ (w1:=(v4.alloc (.cells #[.slice C.A0 C.l0.length C.c0,.slice C.A1 C.l1.length C.c1,.slice C.A2 C.l2.length C.c2,.slice C.A3 C.l3.length C.c3,.map (some (v0.heap.size)),.slice (some ⟨v3.heap.size,0,none⟩) C.l0.length C.l0.length,.int .i64 0,.int .i64 0,.int .i64 0,.int .i64 0,.int .i64 0] 72))) (v:=.pointer (some ⟨v4.heap.size,0,none⟩)) (by rfl) rfl (by go_simp) ?_
     have g10:w.heap.size≤v4.heap.size:=hV.b.size
     have h1:=blk_alloc h1 (.cells #[.slice C.A0 C.l0.length C.c0,.slice C.A1 C.l1.length C.c1,.slice C.A2 C.l2.length C.c2,.slice C.A3 C.l3.length C.c3,.map (some (v0.heap.size)),.slice (some ⟨v3.heap.size,0,none⟩) C.l0.length C.l0.length,.int .i64 0,.int .i64 0,.int .i64 0,.int .i64 0,.int .i64 0] 72)
     have h8:=blk_alloc h8 (.cells #[.slice C.A0 C.l0.length C.c0,.slice C.A1 C.l1.length C.c1,.slice C.A2 C.l2.length C.c2,.slice C.A3 C.l3.length C.c3,.map (some (v0.heap.size)),.slice (some ⟨v3.heap.size,0,none⟩) C.l0.length C.l0.length,.int .i64 0,.int .i64 0,.int .i64 0,.int .i64 0,.int .i64 0] 72)
     have h11:=blk_alloc h11 (.cells #[.slice C.A0 C.l0.length C.c0,.slice C.A1 C.l1.length C.c1,.slice C.A2 C.l2.length C.c2,.slice C.A3 C.l3.length C.c3,.map (some (v0.heap.size)),.slice (some ⟨v3.heap.size,0,none⟩) C.l0.length C.l0.length,.int .i64 0,.int .i64 0,.int .i64 0,.int .i64 0,.int .i64 0] 72)
     have h10:=heap_alloc_new v4 (.cells #[.slice C.A0 C.l0.length C.c0,.slice C.A1 C.l1.length C.c1,.slice C.A2 C.l2.length C.c2,.slice C.A3 C.l3.length C.c3,.map (some (v0.heap.size)),.slice (some ⟨v3.heap.size,0,none⟩) C.l0.length C.l0.length,.int .i64 0,.int .i64 0,.int .i64 0,.int .i64 0,.int .i64 0] 72)
     have hV:=hV.call (below_alloc (Below.refl _ _) (.cells #[.slice C.A0 C.l0.length C.c0,.slice C.A1 C.l1.length C.c1,.slice C.A2 C.l2.length C.c2,.slice C.A3 C.l3.length C.c3,.map (some (v0.heap.size)),.slice (some ⟨v3.heap.size,0,none⟩) C.l0.length C.l0.length,.int .i64 0,.int .i64 0,.int .i64 0,.int .i64 0,.int .i64 0] 72))
     generalize (v4.alloc (.cells #[.slice C.A0 C.l0.length C.c0,.slice C.A1 C.l1.length C.c1,.slice C.A2 C.l2.length C.c2,.slice C.A3 C.l3.length C.c3,.map (some (v0.heap.size)),.slice (some ⟨v3.heap.size,0,none⟩) C.l0.length C.l0.length,.int .i64 0,.int .i64 0,.int .i64 0,.int .i64 0,.int .i64 0] 72))=v5 at hV h1 h8 h10 h11 ⊢
     refine hK.out _ _ ⟨(blk_cell hV.k0 0),(blk_cell hV.k0 1),(blk_cell hV.k0 2),(blk_cell hV.k0 3)⟩ (fun hHeld=>?_)
     clear hK K
     refine norm_ (a':=?_) ?_ ?_
     rotate_left
     ·show Act.put _ (some 19) _=_
      simp only [Act.put,zA_,zB_,zC_,i64_w]
      rfl
     exact norm_ (by simp only [putAll,Act.put,List.setIfInBounds_toArray,List.set_cons_zero,List.set_cons_succ]) (hCont (v0.heap.size,v3.heap.size,v4.heap.size,v2.heap.size) _ ⟨hV,h1,h8,h10,h11,g1,g8,g10,g11⟩)
   ·skip
    have qi:=make70 v1 C.l0.length hn
    refine value_ (w1:=(v1.alloc (.cells (falses C.l0.length) 4))) (v:=.slice (some ⟨v1.heap.size,0,none⟩) C.l0.length C.l0.length) (by rfl) rfl (by go_simp) ?_
    clear qi
    have g8:w.heap.size≤v1.heap.size:=hV.b.size
    have h1:=blk_alloc h1 (.cells (falses C.l0.length) 4)
    have h8:=heap_alloc_new v1 (.cells (falses C.l0.length) 4)
    have hV:=hV.call (below_alloc (Below.refl _ _) (.cells (falses C.l0.length) 4))
    generalize (v1.alloc (.cells (falses C.l0.length) 4))=v2 at hV h1 h8 ⊢
    refine hK.out _ _ ⟨(blk_cell hV.k0 0),(blk_cell hV.k0 1),(blk_cell hV.k0 2),(blk_cell hV.k0 3)⟩ (fun hHeld=>?_)
    clear hK K
    refine norm_ (a':=?_) ?_ ?_
    rotate_left
    ·show Act.put _ (some 17) _=_
     simp only [Act.put,zA_,zB_,zC_,i64_w]
     rfl
    refine two_ (i:=3) (j:=11) (Ni:=none) (Nj:=some 5) (bl_ 13 495) (bl_ 13 2535) rfl rfl rfl rfl (by kernel_rfl) (by decide) (by decide) (fun K hK=>?_) (fun K hK=>?_)
    ·skip
     have qi:=insert0z h1
     refine skip_ (w1:=(setB v2 v0.heap.size (.map e0 1))) (by rfl) rfl (by go_simp) ?_
     clear qi
     have h8:=setB_far (o:=.map e0 1) (map_ne h1 h8) h8
     have hV:=hV.setB (o:=.map e0 1) h1 g1
     have h1:=setB_at h1 (.map e0 1)
     generalize (setB v2 v0.heap.size (.map e0 1))=v3 at hV h1 h8 ⊢
     refine hK.out _ _ ⟨(blk_cell hV.k0 0),(blk_cell hV.k0 1),(blk_cell hV.k0 2),(blk_cell hV.k0 3)⟩ (fun hHeld=>?_)
     clear hK K
     refine pure_ (i:=4) (N:=some 13) (v:=?_) (a':=?_) (bl_ 13 511) rfl rfl (by kernel_rfl) (fun _ _ _ h=>pq (by decide) (by decide) (by decide) h) (Or.inl ⟨by rfl,?_⟩) ?_ ?_
     rotate_left
     ·intro w'
      go_simp
      with_reducible rfl
     rotate_left
     ·simp only [Act.put,zA_,zB_,zC_,i64_w]
      rfl
     refine pure_ (i:=9) (N:=some 18) (v:=?_) (a':=?_) (bl_ 13 1023) rfl rfl (by kernel_rfl) (fun _ _ _ h=>pq (by decide) (by decide) (by decide) h) (Or.inl ⟨by rfl,?_⟩) ?_ ?_
     rotate_left
     ·intro w'
      go_simp
      with_reducible rfl
     rotate_left
     ·simp only [Act.put,zA_,zB_,zC_,i64_w]
      rfl
     refine two_ (i:=10) (j:=11) (Ni:=some 19) (Nj:=some 5) (bl_ 13 2047) (bl_ 13 3071) rfl rfl rfl rfl (by kernel_rfl) (by decide) (by decide) (fun K hK=>?_) (fun K hK=>?_)
     ·skip
      refine value_ (w1:=(v3.alloc (.cells #[.slice C.A0 C.l0.length C.c0,.slice C.A1 C.l1.length C.c1,.slice C.A2 C.l2.length C.c2,.slice C.A3 C.l3.length C.c3,.map (some (v0.heap.size)),.slice (some ⟨v1.heap.size,0,none⟩) C.l0.length C.l0.length,.int .i64 0,.int .i64 0,.int .i64 0,.int .i64 0,.int .i64 0] 72))) (v:=.pointer (some ⟨v3.heap.size,0,none⟩)) (by rfl) rfl (by go_simp) ?_
      have g10:w.heap.size≤v3.heap.size:=hV.b.size
      have h1:=blk_alloc h1 (.cells #[.slice C.A0 C.l0.length C.c0,.slice C.A1 C.l1.length C.c1,.slice C.A2 C.l2.length C.c2,.slice C.A3 C.l3.length C.c3,.map (some (v0.heap.size)),.slice (some ⟨v1.heap.size,0,none⟩) C.l0.length C.l0.length,.int .i64 0,.int .i64 0,.int .i64 0,.int .i64 0,.int .i64 0] 72)
      have h8:=blk_alloc h8 (.cells #[.slice C.A0 C.l0.length C.c0,.slice C.A1 C.l1.length C.c1,.slice C.A2 C.l2.length C.c2,.slice C.A3 C.l3.length C.c3,.map (some (v0.heap.size)),.slice (some ⟨v1.heap.size,0,none⟩) C.l0.length C.l0.length,.int .i64 0,.int .i64 0,.int .i64 0,.int .i64 0,.int .i64 0] 72)
      have h10:=heap_alloc_new v3 (.cells #[.slice C.A0 C.l0.length C.c0,.slice C.A1 C.l1.length C.c1,.slice C.A2 C.l2.length C.c2,.slice C.A3 C.l3.length C.c3,.map (some (v0.heap.size)),.slice (some ⟨v1.heap.size,0,none⟩) C.l0.length C.l0.length,.int .i64 0,.int .i64 0,.int .i64 0,.int .i64 0,.int .i64 0] 72)
      have hV:=hV.call (below_alloc (Below.refl _ _) (.cells #[.slice C.A0 C.l0.length C.c0,.slice C.A1 C.l1.length C.c1,.slice C.A2 C.l2.length C.c2,.slice C.A3 C.l3.length C.c3,.map (some (v0.heap.size)),.slice (some ⟨v1.heap.size,0,none⟩) C.l0.length C.l0.length,.int .i64 0,.int .i64 0,.int .i64 0,.int .i64 0,.int .i64 0] 72))
      generalize (v3.alloc (.cells #[.slice C.A0 C.l0.length C.c0,.slice C.A1 C.l1.length C.c1,.slice C.A2 C.l2.length C.c2,.slice C.A3 C.l3.length C.c3,.map (some (v0.heap.size)),.slice (some ⟨v1.heap.size,0,none⟩) C.l0.length C.l0.length,.int .i64 0,.int .i64 0,.int .i64 0,.int .i64 0,.int .i64 0] 72))=v4 at hV h1 h8 h10 ⊢
      refine hK.out _ _ ⟨(blk_cell hV.k0 0),(blk_cell hV.k0 1),(blk_cell hV.k0 2),(blk_cell hV.k0 3)⟩ (fun hHeld=>?_)
      clear hK K
      refine norm_ (a':=?_) ?_ ?_
      rotate_left
      ·show Act.put _ (some 19) _=_
       simp only [Act.put,zA_,zB_,zC_,i64_w]
       rfl
      refine one_ (i:=11) (N:=some 5) (bl_ 13 4095) rfl rfl (by kernel_rfl) (by decide) (fun K hK=>?_)
      refine value_ (w1:=(v4.alloc (.cells #[.pointer none] 64))) (v:=.pointer (some ⟨v4.heap.size,0,none⟩)) (by rfl) rfl (by go_simp) ?_
      have g11:w.heap.size≤v4.heap.size:=hV.b.size
      have h1:=blk_alloc h1 (.cells #[.pointer none] 64)
      have h8:=blk_alloc h8 (.cells #[.pointer none] 64)
      have h10:=blk_alloc h10 (.cells #[.pointer none] 64)
      have h11:=heap_alloc_new v4 (.cells #[.pointer none] 64)
      have hV:=hV.call (below_alloc (Below.refl _ _) (.cells #[.pointer none] 64))
      generalize (v4.alloc (.cells #[.pointer none] 64))=v5 at hV h1 h8 h10 h11 ⊢
      refine hK.out _ _ ⟨(blk_cell hV.k0 0),(blk_cell hV.k0 1),(blk_cell hV.k0 2),(blk_cell hV.k0 3)⟩ (fun hHeld=>?_)
      clear hK K
      refine norm_ (a':=?_) ?_ ?_
      rotate_left
      ·show Act.put _ (some 5) _=_
       simp only [Act.put,zA_,zB_,zC_,i64_w]
       rfl
      exact norm_ (by simp only [putAll,Act.put,List.setIfInBounds_toArray,List.set_cons_zero,List.set_cons_succ]) (hCont (v0.heap.size,v1.heap.size,v3.heap.size,v4.heap.size) _ ⟨hV,h1,h8,h10,h11,g1,g8,g10,g11⟩)
     ·skip
      refine value_ (w1:=(v3.alloc (.cells #[.pointer none] 64))) (v:=.pointer (some ⟨v3.heap.size,0,none⟩)) (by rfl) rfl (by go_simp) ?_
      have g11:w.heap.size≤v3.heap.size:=hV.b.size
      have h1:=blk_alloc h1 (.cells #[.pointer none] 64)
      have h8:=blk_alloc h8 (.cells #[.pointer none] 64)
      have h11:=heap_alloc_new v3 (.cells #[.pointer none] 64)
      have hV:=hV.call (below_alloc (Below.refl _ _) (.cells #[.pointer none] 64))
      generalize (v3.alloc (.cells #[.pointer none] 64))=v4 at hV h1 h8 h11 ⊢
      refine hK.out _ _ ⟨(blk_cell hV.k0 0),(blk_cell hV.k0 1),(blk_cell hV.k0 2),(blk_cell hV.k0 3)⟩ (fun hHeld=>?_)
      clear hK K
      refine norm_ (a':=?_) ?_ ?_
      rotate_left
      ·show Act.put _ (some 5) _=_
       simp only [Act.put,zA_,zB_,zC_,i64_w]
       rfl
      refine one_ (i:=10) (N:=some 19) (bl_ 13 4095) rfl rfl (by kernel_rfl) (by decide) (fun K hK=>?_)
      refine value_ (w1:=(v4.alloc (.cells #[.slice C.A0 C.l0.length C.c0,.slice C.A1 C.l1.length C.c1,.slice C.A2 C.l2.length C.c2,.slice C.A3 C.l3.length C.c3,.map (some (v0.heap.size)),.slice (some ⟨v1.heap.size,0,none⟩) C.l0.length C.l0.length,.int .i64 0,.int .i64 0,.int .i64 0,.int .i64 0,.int .i64 0] 72))) (v:=.pointer (some ⟨v4.heap.size,0,none⟩)) (by rfl) rfl (by go_simp) ?_
      have g10:w.heap.size≤v4.heap.size:=hV.b.size
      have h1:=blk_alloc h1 (.cells #[.slice C.A0 C.l0.length C.c0,.slice C.A1 C.l1.length C.c1,.slice C.A2 C.l2.length C.c2,.slice C.A3 C.l3.length C.c3,.map (some (v0.heap.size)),.slice (some ⟨v1.heap.size,0,none⟩) C.l0.length C.l0.length,.int .i64 0,.int .i64 0,.int .i64 0,.int .i64 0,.int .i64 0] 72)
      have h8:=blk_alloc h8 (.cells #[.slice C.A0 C.l0.length C.c0,.slice C.A1 C.l1.length C.c1,.slice C.A2 C.l2.length C.c2,.slice C.A3 C.l3.length C.c3,.map (some (v0.heap.size)),.slice (some ⟨v1.heap.size,0,none⟩) C.l0.length C.l0.length,.int .i64 0,.int .i64 0,.int .i64 0,.int .i64 0,.int .i64 0] 72)
      have h11:=blk_alloc h11 (.cells #[.slice C.A0 C.l0.length C.c0,.slice C.A1 C.l1.length C.c1,.slice C.A2 C.l2.length C.c2,.slice C.A3 C.l3.length C.c3,.map (some (v0.heap.size)),.slice (some ⟨v1.heap.size,0,none⟩) C.l0.length C.l0.length,.int .i64 0,.int .i64 0,.int .i64 0,.int .i64 0,.int .i64 0] 72)
      have h10:=heap_alloc_new v4 (.cells #[.slice C.A0 C.l0.length C.c0,.slice C.A1 C.l1.length C.c1,.slice C.A2 C.l2.length C.c2,.slice C.A3 C.l3.length C.c3,.map (some (v0.heap.size)),.slice (some ⟨v1.heap.size,0,none⟩) C.l0.length C.l0.length,.int .i64 0,.int .i64 0,.int .i64 0,.int .i64 0,.int .i64 0] 72)
      have hV:=hV.call (below_alloc (Below.refl _ _) (.cells #[.slice C.A0 C.l0.length C.c0,.slice C.A1 C.l1.length C.c1,.slice C.A2 C.l2.length C.c2,.slice C.A3 C.l3.length C.c3,.map (some (v0.heap.size)),.slice (some ⟨v1.heap.size,0,none⟩) C.l0.length C.l0.length,.int .i64 0,.int .i64 0,.int .i64 0,.int .i64 0,.int .i64 0] 72))
      generalize (v4.alloc (.cells #[.slice C.A0 C.l0.length C.c0,.slice C.A1 C.l1.length C.c1,.slice C.A2 C.l2.length C.c2,.slice C.A3 C.l3.length C.c3,.map (some (v0.heap.size)),.slice (some ⟨v1.heap.size,0,none⟩) C.l0.length C.l0.length,.int .i64 0,.int .i64 0,.int .i64 0,.int .i64 0,.int .i64 0] 72))=v5 at hV h1 h8 h10 h11 ⊢
      refine hK.out _ _ ⟨(blk_cell hV.k0 0),(blk_cell hV.k0 1),(blk_cell hV.k0 2),(blk_cell hV.k0 3)⟩ (fun hHeld=>?_)
      clear hK K
      refine norm_ (a':=?_) ?_ ?_
      rotate_left
      ·show Act.put _ (some 19) _=_
       simp only [Act.put,zA_,zB_,zC_,i64_w]
       rfl
      exact norm_ (by simp only [putAll,Act.put,List.setIfInBounds_toArray,List.set_cons_zero,List.set_cons_succ]) (hCont (v0.heap.size,v1.heap.size,v4.heap.size,v3.heap.size) _ ⟨hV,h1,h8,h10,h11,g1,g8,g10,g11⟩)
    ·skip
     refine value_ (w1:=(v2.alloc (.cells #[.pointer none] 64))) (v:=.pointer (some ⟨v2.heap.size,0,none⟩)) (by rfl) rfl (by go_simp) ?_
     have g11:w.heap.size≤v2.heap.size:=hV.b.size
     have h1:=blk_alloc h1 (.cells #[.pointer none] 64)
     have h8:=blk_alloc h8 (.cells #[.pointer none] 64)
     have h11:=heap_alloc_new v2 (.cells #[.pointer none] 64)
     have hV:=hV.call (below_alloc (Below.refl _ _) (.cells #[.pointer none] 64))
     generalize (v2.alloc (.cells #[.pointer none] 64))=v3 at hV h1 h8 h11 ⊢
     refine hK.out _ _ ⟨(blk_cell hV.k0 0),(blk_cell hV.k0 1),(blk_cell hV.k0 2),(blk_cell hV.k0 3)⟩ (fun hHeld=>?_)
     clear hK K
     refine norm_ (a':=?_) ?_ ?_
     rotate_left
     ·show Act.put _ (some 5) _=_
      simp only [Act.put,zA_,zB_,zC_,i64_w]
      rfl
     refine one_ (i:=3) (N:=none) (bl_ 13 2543) rfl rfl (by kernel_rfl) (by decide) (fun K hK=>?_)
     have qi:=insert0z h1
     refine skip_ (w1:=(setB v3 v0.heap.size (.map e0 1))) (by rfl) rfl (by go_simp) ?_
     clear qi
     have h8:=setB_far (o:=.map e0 1) (map_ne h1 h8) h8
     have h11:=setB_far (o:=.map e0 1) (map_ne h1 h11) h11
     have hV:=hV.setB (o:=.map e0 1) h1 g1
     have h1:=setB_at h1 (.map e0 1)
     generalize (setB v3 v0.heap.size (.map e0 1))=v4 at hV h1 h8 h11 ⊢
     refine hK.out _ _ ⟨(blk_cell hV.k0 0),(blk_cell hV.k0 1),(blk_cell hV.k0 2),(blk_cell hV.k0 3)⟩ (fun hHeld=>?_)
     clear hK K
     refine pure_ (i:=4) (N:=some 13) (v:=?_) (a':=?_) (bl_ 13 2559) rfl rfl (by kernel_rfl) (fun _ _ _ h=>pq (by decide) (by decide) (by decide) h) (Or.inl ⟨by rfl,?_⟩) ?_ ?_
     rotate_left
     ·intro w'
      go_simp
      with_reducible rfl
     rotate_left
     ·simp only [Act.put,zA_,zB_,zC_,i64_w]
      rfl
     refine pure_ (i:=9) (N:=some 18) (v:=?_) (a':=?_) (bl_ 13 3071) rfl rfl (by kernel_rfl) (fun _ _ _ h=>pq (by decide) (by decide) (by decide) h) (Or.inl ⟨by rfl,?_⟩) ?_ ?_
     rotate_left
     ·intro w'
      go_simp
      with_reducible rfl
     rotate_left
     ·simp only [Act.put,zA_,zB_,zC_,i64_w]
      rfl
     refine one_ (i:=10) (N:=some 19) (bl_ 13 4095) rfl rfl (by kernel_rfl) (by decide) (fun K hK=>?_)
     refine value_ (w1:=(v4.alloc (.cells #[.slice C.A0 C.l0.length C.c0,.slice C.A1 C.l1.length C.c1,.slice C.A2 C.l2.length C.c2,.slice C.A3 C.l3.length C.c3,.map (some (v0.heap.size)),.slice (some ⟨v1.heap.size,0,none⟩) C.l0.length C.l0.length,.int .i64 0,.int .i64 0,.int .i64 0,.int .i64 0,.int .i64 0] 72))) (v:=.pointer (some ⟨v4.heap.size,0,none⟩)) (by rfl) rfl (by go_simp) ?_
     have g10:w.heap.size≤v4.heap.size:=hV.b.size
     have h1:=blk_alloc h1 (.cells #[.slice C.A0 C.l0.length C.c0,.slice C.A1 C.l1.length C.c1,.slice C.A2 C.l2.length C.c2,.slice C.A3 C.l3.length C.c3,.map (some (v0.heap.size)),.slice (some ⟨v1.heap.size,0,none⟩) C.l0.length C.l0.length,.int .i64 0,.int .i64 0,.int .i64 0,.int .i64 0,.int .i64 0] 72)
     have h8:=blk_alloc h8 (.cells #[.slice C.A0 C.l0.length C.c0,.slice C.A1 C.l1.length C.c1,.slice C.A2 C.l2.length C.c2,.slice C.A3 C.l3.length C.c3,.map (some (v0.heap.size)),.slice (some ⟨v1.heap.size,0,none⟩) C.l0.length C.l0.length,.int .i64 0,.int .i64 0,.int .i64 0,.int .i64 0,.int .i64 0] 72)
     have h11:=blk_alloc h11 (.cells #[.slice C.A0 C.l0.length C.c0,.slice C.A1 C.l1.length C.c1,.slice C.A2 C.l2.length C.c2,.slice C.A3 C.l3.length C.c3,.map (some (v0.heap.size)),.slice (some ⟨v1.heap.size,0,none⟩) C.l0.length C.l0.length,.int .i64 0,.int .i64 0,.int .i64 0,.int .i64 0,.int .i64 0] 72)
     have h10:=heap_alloc_new v4 (.cells #[.slice C.A0 C.l0.length C.c0,.slice C.A1 C.l1.length C.c1,.slice C.A2 C.l2.length C.c2,.slice C.A3 C.l3.length C.c3,.map (some (v0.heap.size)),.slice (some ⟨v1.heap.size,0,none⟩) C.l0.length C.l0.length,.int .i64 0,.int .i64 0,.int .i64 0,.int .i64 0,.int .i64 0] 72)
     have hV:=hV.call (below_alloc (Below.refl _ _) (.cells #[.slice C.A0 C.l0.length C.c0,.slice C.A1 C.l1.length C.c1,.slice C.A2 C.l2.length C.c2,.slice C.A3 C.l3.length C.c3,.map (some (v0.heap.size)),.slice (some ⟨v1.heap.size,0,none⟩) C.l0.length C.l0.length,.int .i64 0,.int .i64 0,.int .i64 0,.int .i64 0,.int .i64 0] 72))
     generalize (v4.alloc (.cells #[.slice C.A0 C.l0.length C.c0,.slice C.A1 C.l1.length C.c1,.slice C.A2 C.l2.length C.c2,.slice C.A3 C.l3.length C.c3,.map (some (v0.heap.size)),.slice (some ⟨v1.heap.size,0,none⟩) C.l0.length C.l0.length,.int .i64 0,.int .i64 0,.int .i64 0,.int .i64 0,.int .i64 0] 72))=v5 at hV h1 h8 h10 h11 ⊢
     refine hK.out _ _ ⟨(blk_cell hV.k0 0),(blk_cell hV.k0 1),(blk_cell hV.k0 2),(blk_cell hV.k0 3)⟩ (fun hHeld=>?_)
     clear hK K
     refine norm_ (a':=?_) ?_ ?_
     rotate_left
     ·show Act.put _ (some 19) _=_
      simp only [Act.put,zA_,zB_,zC_,i64_w]
      rfl
     exact norm_ (by simp only [putAll,Act.put,List.setIfInBounds_toArray,List.set_cons_zero,List.set_cons_succ]) (hCont (v0.heap.size,v1.heap.size,v4.heap.size,v2.heap.size) _ ⟨hV,h1,h8,h10,h11,g1,g8,g10,g11⟩)
   ·skip
    refine value_ (w1:=(v1.alloc (.cells #[.pointer none] 64))) (v:=.pointer (some ⟨v1.heap.size,0,none⟩)) (by rfl) rfl (by go_simp) ?_
    have g11:w.heap.size≤v1.heap.size:=hV.b.size
    have h1:=blk_alloc h1 (.cells #[.pointer none] 64)
    have h11:=heap_alloc_new v1 (.cells #[.pointer none] 64)
    have hV:=hV.call (below_alloc (Below.refl _ _) (.cells #[.pointer none] 64))
    generalize (v1.alloc (.cells #[.pointer none] 64))=v2 at hV h1 h11 ⊢
    refine hK.out _ _ ⟨(blk_cell hV.k0 0),(blk_cell hV.k0 1),(blk_cell hV.k0 2),(blk_cell hV.k0 3)⟩ (fun hHeld=>?_)
    clear hK K
    refine norm_ (a':=?_) ?_ ?_
    rotate_left
    ·show Act.put _ (some 5) _=_
     simp only [Act.put,zA_,zB_,zC_,i64_w]
     rfl
    refine two_ (i:=3) (j:=8) (Ni:=none) (Nj:=some 17) (bl_ 13 2287) (bl_ 13 2535) rfl rfl rfl rfl (by kernel_rfl) (by decide) (by decide) (fun K hK=>?_) (fun K hK=>?_)
    ·skip
     have qi:=insert0z h1
     refine skip_ (w1:=(setB v2 v0.heap.size (.map e0 1))) (by rfl) rfl (by go_simp) ?_
     clear qi
     have h11:=setB_far (o:=.map e0 1) (map_ne h1 h11) h11
     have hV:=hV.setB (o:=.map e0 1) h1 g1
     have h1:=setB_at h1 (.map e0 1)
     generalize (setB v2 v0.heap.size (.map e0 1))=v3 at hV h1 h11 ⊢
     refine hK.out _ _ ⟨(blk_cell hV.k0 0),(blk_cell hV.k0 1),(blk_cell hV.k0 2),(blk_cell hV.k0 3)⟩ (fun hHeld=>?_)
     clear hK K
     refine pure_ (i:=4) (N:=some 13) (v:=?_) (a':=?_) (bl_ 13 2303) rfl rfl (by kernel_rfl) (fun _ _ _ h=>pq (by decide) (by decide) (by decide) h) (Or.inl ⟨by rfl,?_⟩) ?_ ?_
     rotate_left
     ·intro w'
      go_simp
      with_reducible rfl
     rotate_left
     ·simp only [Act.put,zA_,zB_,zC_,i64_w]
      rfl
     refine one_ (i:=8) (N:=some 17) (bl_ 13 2559) rfl rfl (by kernel_rfl) (by decide) (fun K hK=>?_)
     have qi:=make70 v3 C.l0.length hn
     refine value_ (w1:=(v3.alloc (.cells (falses C.l0.length) 4))) (v:=.slice (some ⟨v3.heap.size,0,none⟩) C.l0.length C.l0.length) (by rfl) rfl (by go_simp) ?_
     clear qi
     have g8:w.heap.size≤v3.heap.size:=hV.b.size
     have h1:=blk_alloc h1 (.cells (falses C.l0.length) 4)
     have h11:=blk_alloc h11 (.cells (falses C.l0.length) 4)
     have h8:=heap_alloc_new v3 (.cells (falses C.l0.length) 4)
     have hV:=hV.call (below_alloc (Below.refl _ _) (.cells (falses C.l0.length) 4))
     generalize (v3.alloc (.cells (falses C.l0.length) 4))=v4 at hV h1 h8 h11 ⊢
     refine hK.out _ _ ⟨(blk_cell hV.k0 0),(blk_cell hV.k0 1),(blk_cell hV.k0 2),(blk_cell hV.k0 3)⟩ (fun hHeld=>?_)
     clear hK K
     refine norm_ (a':=?_) ?_ ?_
     rotate_left
     ·show Act.put _ (some 17) _=_
      simp only [Act.put,zA_,zB_,zC_,i64_w]
      rfl
     refine pure_ (i:=9) (N:=some 18) (v:=?_) (a':=?_) (bl_ 13 3071) rfl rfl (by kernel_rfl) (fun _ _ _ h=>pq (by decide) (by decide) (by decide) h) (Or.inl ⟨by rfl,?_⟩) ?_ ?_
     rotate_left
     ·intro w'
      go_simp
      with_reducible rfl
     rotate_left
     ·simp only [Act.put,zA_,zB_,zC_,i64_w]
      rfl
     refine one_ (i:=10) (N:=some 19) (bl_ 13 4095) rfl rfl (by kernel_rfl) (by decide) (fun K hK=>?_)
     refine value_ (w1:=(v4.alloc (.cells #[.slice C.A0 C.l0.length C.c0,.slice C.A1 C.l1.length C.c1,.slice C.A2 C.l2.length C.c2,.slice C.A3 C.l3.length C.c3,.map (some (v0.heap.size)),.slice (some ⟨v3.heap.size,0,none⟩) C.l0.length C.l0.length,.int .i64 0,.int .i64 0,.int .i64 0,.int .i64 0,.int .i64 0] 72))) (v:=.pointer (some ⟨v4.heap.size,0,none⟩)) (by rfl) rfl (by go_simp) ?_
     have g10:w.heap.size≤v4.heap.size:=hV.b.size
     have h1:=blk_alloc h1 (.cells #[.slice C.A0 C.l0.length C.c0,.slice C.A1 C.l1.length C.c1,.slice C.A2 C.l2.length C.c2,.slice C.A3 C.l3.length C.c3,.map (some (v0.heap.size)),.slice (some ⟨v3.heap.size,0,none⟩) C.l0.length C.l0.length,.int .i64 0,.int .i64 0,.int .i64 0,.int .i64 0,.int .i64 0] 72)
     have h8:=blk_alloc h8 (.cells #[.slice C.A0 C.l0.length C.c0,.slice C.A1 C.l1.length C.c1,.slice C.A2 C.l2.length C.c2,.slice C.A3 C.l3.length C.c3,.map (some (v0.heap.size)),.slice (some ⟨v3.heap.size,0,none⟩) C.l0.length C.l0.length,.int .i64 0,.int .i64 0,.int .i64 0,.int .i64 0,.int .i64 0] 72)
     have h11:=blk_alloc h11 (.cells #[.slice C.A0 C.l0.length C.c0,.slice C.A1 C.l1.length C.c1,.slice C.A2 C.l2.length C.c2,.slice C.A3 C.l3.length C.c3,.map (some (v0.heap.size)),.slice (some ⟨v3.heap.size,0,none⟩) C.l0.length C.l0.length,.int .i64 0,.int .i64 0,.int .i64 0,.int .i64 0,.int .i64 0] 72)
     have h10:=heap_alloc_new v4 (.cells #[.slice C.A0 C.l0.length C.c0,.slice C.A1 C.l1.length C.c1,.slice C.A2 C.l2.length C.c2,.slice C.A3 C.l3.length C.c3,.map (some (v0.heap.size)),.slice (some ⟨v3.heap.size,0,none⟩) C.l0.length C.l0.length,.int .i64 0,.int .i64 0,.int .i64 0,.int .i64 0,.int .i64 0] 72)
     have hV:=hV.call (below_alloc (Below.refl _ _) (.cells #[.slice C.A0 C.l0.length C.c0,.slice C.A1 C.l1.length C.c1,.slice C.A2 C.l2.length C.c2,.slice C.A3 C.l3.length C.c3,.map (some (v0.heap.size)),.slice (some ⟨v3.heap.size,0,none⟩) C.l0.length C.l0.length,.int .i64 0,.int .i64 0,.int .i64 0,.int .i64 0,.int .i64 0] 72))
     generalize (v4.alloc (.cells #[.slice C.A0 C.l0.length C.c0,.slice C.A1 C.l1.length C.c1,.slice C.A2 C.l2.length C.c2,.slice C.A3 C.l3.length C.c3,.map (some (v0.heap.size)),.slice (some ⟨v3.heap.size,0,none⟩) C.l0.length C.l0.length,.int .i64 0,.int .i64 0,.int .i64 0,.int .i64 0,.int .i64 0] 72))=v5 at hV h1 h8 h10 h11 ⊢
     refine hK.out _ _ ⟨(blk_cell hV.k0 0),(blk_cell hV.k0 1),(blk_cell hV.k0 2),(blk_cell hV.k0 3)⟩ (fun hHeld=>?_)
     clear hK K
     refine norm_ (a':=?_) ?_ ?_
     rotate_left
     ·show Act.put _ (some 19) _=_
      simp only [Act.put,zA_,zB_,zC_,i64_w]
      rfl
     exact norm_ (by simp only [putAll,Act.put,List.setIfInBounds_toArray,List.set_cons_zero,List.set_cons_succ]) (hCont (v0.heap.size,v3.heap.size,v4.heap.size,v1.heap.size) _ ⟨hV,h1,h8,h10,h11,g1,g8,g10,g11⟩)
    ·skip
     have qi:=make70 v2 C.l0.length hn
     refine value_ (w1:=(v2.alloc (.cells (falses C.l0.length) 4))) (v:=.slice (some ⟨v2.heap.size,0,none⟩) C.l0.length C.l0.length) (by rfl) rfl (by go_simp) ?_
     clear qi
     have g8:w.heap.size≤v2.heap.size:=hV.b.size
     have h1:=blk_alloc h1 (.cells (falses C.l0.length) 4)
     have h11:=blk_alloc h11 (.cells (falses C.l0.length) 4)
     have h8:=heap_alloc_new v2 (.cells (falses C.l0.length) 4)
     have hV:=hV.call (below_alloc (Below.refl _ _) (.cells (falses C.l0.length) 4))
     generalize (v2.alloc (.cells (falses C.l0.length) 4))=v3 at hV h1 h8 h11 ⊢
     refine hK.out _ _ ⟨(blk_cell hV.k0 0),(blk_cell hV.k0 1),(blk_cell hV.k0 2),(blk_cell hV.k0 3)⟩ (fun hHeld=>?_)
     clear hK K
     refine norm_ (a':=?_) ?_ ?_
     rotate_left
     ·show Act.put _ (some 17) _=_
      simp only [Act.put,zA_,zB_,zC_,i64_w]
      rfl
     refine one_ (i:=3) (N:=none) (bl_ 13 2543) rfl rfl (by kernel_rfl) (by decide) (fun K hK=>?_)
     have qi:=insert0z h1
     refine skip_ (w1:=(setB v3 v0.heap.size (.map e0 1))) (by rfl) rfl (by go_simp) ?_
     clear qi
     have h8:=setB_far (o:=.map e0 1) (map_ne h1 h8) h8
     have h11:=setB_far (o:=.map e0 1) (map_ne h1 h11) h11
     have hV:=hV.setB (o:=.map e0 1) h1 g1
     have h1:=setB_at h1 (.map e0 1)
     generalize (setB v3 v0.heap.size (.map e0 1))=v4 at hV h1 h8 h11 ⊢
     refine hK.out _ _ ⟨(blk_cell hV.k0 0),(blk_cell hV.k0 1),(blk_cell hV.k0 2),(blk_cell hV.k0 3)⟩ (fun hHeld=>?_)
     clear hK K
     refine pure_ (i:=4) (N:=some 13) (v:=?_) (a':=?_) (bl_ 13 2559) rfl rfl (by kernel_rfl) (fun _ _ _ h=>pq (by decide) (by decide) (by decide) h) (Or.inl ⟨by rfl,?_⟩) ?_ ?_
     rotate_left
     ·intro w'
      go_simp
      with_reducible rfl
     rotate_left
     ·simp only [Act.put,zA_,zB_,zC_,i64_w]
      rfl
     refine pure_ (i:=9) (N:=some 18) (v:=?_) (a':=?_) (bl_ 13 3071) rfl rfl (by kernel_rfl) (fun _ _ _ h=>pq (by decide) (by decide) (by decide) h) (Or.inl ⟨by rfl,?_⟩) ?_ ?_
     rotate_left
     ·intro w'
      go_simp
      with_reducible rfl
     rotate_left
     ·simp only [Act.put,zA_,zB_,zC_,i64_w]
      rfl
     refine one_ (i:=10) (N:=some 19) (bl_ 13 4095) rfl rfl (by kernel_rfl) (by decide) (fun K hK=>?_)
     refine value_ (w1:=(v4.alloc (.cells #[.slice C.A0 C.l0.length C.c0,.slice C.A1 C.l1.length C.c1,.slice C.A2 C.l2.length C.c2,.slice C.A3 C.l3.length C.c3,.map (some (v0.heap.size)),.slice (some ⟨v2.heap.size,0,none⟩) C.l0.length C.l0.length,.int .i64 0,.int .i64 0,.int .i64 0,.int .i64 0,.int .i64 0] 72))) (v:=.pointer (some ⟨v4.heap.size,0,none⟩)) (by rfl) rfl (by go_simp) ?_
     have g10:w.heap.size≤v4.heap.size:=hV.b.size
     have h1:=blk_alloc h1 (.cells #[.slice C.A0 C.l0.length C.c0,.slice C.A1 C.l1.length C.c1,.slice C.A2 C.l2.length C.c2,.slice C.A3 C.l3.length C.c3,.map (some (v0.heap.size)),.slice (some ⟨v2.heap.size,0,none⟩) C.l0.length C.l0.length,.int .i64 0,.int .i64 0,.int .i64 0,.int .i64 0,.int .i64 0] 72)
     have h8:=blk_alloc h8 (.cells #[.slice C.A0 C.l0.length C.c0,.slice C.A1 C.l1.length C.c1,.slice C.A2 C.l2.length C.c2,.slice C.A3 C.l3.length C.c3,.map (some (v0.heap.size)),.slice (some ⟨v2.heap.size,0,none⟩) C.l0.length C.l0.length,.int .i64 0,.int .i64 0,.int .i64 0,.int .i64 0,.int .i64 0] 72)
     have h11:=blk_alloc h11 (.cells #[.slice C.A0 C.l0.length C.c0,.slice C.A1 C.l1.length C.c1,.slice C.A2 C.l2.length C.c2,.slice C.A3 C.l3.length C.c3,.map (some (v0.heap.size)),.slice (some ⟨v2.heap.size,0,none⟩) C.l0.length C.l0.length,.int .i64 0,.int .i64 0,.int .i64 0,.int .i64 0,.int .i64 0] 72)
     have h10:=heap_alloc_new v4 (.cells #[.slice C.A0 C.l0.length C.c0,.slice C.A1 C.l1.length C.c1,.slice C.A2 C.l2.length C.c2,.slice C.A3 C.l3.length C.c3,.map (some (v0.heap.size)),.slice (some ⟨v2.heap.size,0,none⟩) C.l0.length C.l0.length,.int .i64 0,.int .i64 0,.int .i64 0,.int .i64 0,.int .i64 0] 72)
     have hV:=hV.call (below_alloc (Below.refl _ _) (.cells #[.slice C.A0 C.l0.length C.c0,.slice C.A1 C.l1.length C.c1,.slice C.A2 C.l2.length C.c2,.slice C.A3 C.l3.length C.c3,.map (some (v0.heap.size)),.slice (some ⟨v2.heap.size,0,none⟩) C.l0.length C.l0.length,.int .i64 0,.int .i64 0,.int .i64 0,.int .i64 0,.int .i64 0] 72))
     generalize (v4.alloc (.cells #[.slice C.A0 C.l0.length C.c0,.slice C.A1 C.l1.length C.c1,.slice C.A2 C.l2.length C.c2,.slice C.A3 C.l3.length C.c3,.map (some (v0.heap.size)),.slice (some ⟨v2.heap.size,0,none⟩) C.l0.length C.l0.length,.int .i64 0,.int .i64 0,.int .i64 0,.int .i64 0,.int .i64 0] 72))=v5 at hV h1 h8 h10 h11 ⊢
     refine hK.out _ _ ⟨(blk_cell hV.k0 0),(blk_cell hV.k0 1),(blk_cell hV.k0 2),(blk_cell hV.k0 3)⟩ (fun hHeld=>?_)
     clear hK K
     refine norm_ (a':=?_) ?_ ?_
     rotate_left
     ·show Act.put _ (some 19) _=_
      simp only [Act.put,zA_,zB_,zC_,i64_w]
      rfl
     exact norm_ (by simp only [putAll,Act.put,List.setIfInBounds_toArray,List.set_cons_zero,List.set_cons_succ]) (hCont (v0.heap.size,v2.heap.size,v4.heap.size,v1.heap.size) _ ⟨hV,h1,h8,h10,h11,g1,g8,g10,g11⟩)
  ·skip
   have qi:=make70 v0 C.l0.length hn
   refine value_ (w1:=(v0.alloc (.cells (falses C.l0.length) 4))) (v:=.slice (some ⟨v0.heap.size,0,none⟩) C.l0.length C.l0.length) (by rfl) rfl (by go_simp) ?_
   clear qi
   have g8:w.heap.size≤v0.heap.size:=hV.b.size
   have h8:=heap_alloc_new v0 (.cells (falses C.l0.length) 4)
   have hV:=hV.call (below_alloc (Below.refl _ _) (.cells (falses C.l0.length) 4))
   generalize (v0.alloc (.cells (falses C.l0.length) 4))=v1 at hV h8 ⊢
   refine hK.out _ _ ⟨(blk_cell hV.k0 0),(blk_cell hV.k0 1),(blk_cell hV.k0 2),(blk_cell hV.k0 3)⟩ (fun hHeld=>?_)
   clear hK K
   refine norm_ (a':=?_) ?_ ?_
   rotate_left
   ·show Act.put _ (some 17) _=_
    simp only [Act.put,zA_,zB_,zC_,i64_w]
    rfl
   refine two_ (i:=1) (j:=11) (Ni:=some 11) (Nj:=some 5) (bl_ 13 487) (bl_ 13 2533) rfl rfl rfl rfl (by kernel_rfl) (by decide) (by decide) (fun K hK=>?_) (fun K hK=>?_)
   ·skip
    have qi:=makeMap69 v1
    refine value_ (w1:=(v1.alloc (.map #[] 0))) (v:=.map (some v1.heap.size)) (by rfl) rfl (by go_simp) ?_
    clear qi
    have g1:w.heap.size≤v1.heap.size:=hV.b.size
    have h8:=blk_alloc h8 (.map #[] 0)
    have h1:=heap_alloc_new v1 (.map #[] 0)
    have hV:=hV.call (below_alloc (Below.refl _ _) (.map #[] 0))
    generalize (v1.alloc (.map #[] 0))=v2 at hV h1 h8 ⊢
    refine hK.out _ _ ⟨(blk_cell hV.k0 0),(blk_cell hV.k0 1),(blk_cell hV.k0 2),(blk_cell hV.k0 3)⟩ (fun hHeld=>?_)
    clear hK K
    refine norm_ (a':=?_) ?_ ?_
    rotate_left
    ·show Act.put _ (some 11) _=_
     simp only [Act.put,zA_,zB_,zC_,i64_w]
     rfl
    refine two_ (i:=3) (j:=11) (Ni:=none) (Nj:=some 5) (bl_ 13 495) (bl_ 13 2535) rfl rfl rfl rfl (by kernel_rfl) (by decide) (by decide) (fun K hK=>?_) (fun K hK=>?_)
    ·skip
     have qi:=insert0z h1
     refine skip_ (w1:=(setB v2 v1.heap.size (.map e0 1))) (by rfl) rfl (by go_simp) ?_
     clear qi
     have h8:=setB_far (o:=.map e0 1) (map_ne h1 h8) h8
     have hV:=hV.setB (o:=.map e0 1) h1 g1
     have h1:=setB_at h1 (.map e0 1)
     generalize (setB v2 v1.heap.size (.map e0 1))=v3 at hV h1 h8 ⊢
     refine hK.out _ _ ⟨(blk_cell hV.k0 0),(blk_cell hV.k0 1),(blk_cell hV.k0 2),(blk_cell hV.k0 3)⟩ (fun hHeld=>?_)
     clear hK K
     refine pure_ (i:=4) (N:=some 13) (v:=?_) (a':=?_) (bl_ 13 511) rfl rfl (by kernel_rfl) (fun _ _ _ h=>pq (by decide) (by decide) (by decide) h) (Or.inl ⟨by rfl,?_⟩) ?_ ?_
     rotate_left
     ·intro w'
      go_simp
      with_reducible rfl
     rotate_left
     ·simp only [Act.put,zA_,zB_,zC_,i64_w]
      rfl
     refine pure_ (i:=9) (N:=some 18) (v:=?_) (a':=?_) (bl_ 13 1023) rfl rfl (by kernel_rfl) (fun _ _ _ h=>pq (by decide) (by decide) (by decide) h) (Or.inl ⟨by rfl,?_⟩) ?_ ?_
     rotate_left
     ·intro w'
      go_simp
      with_reducible rfl
     rotate_left
     ·simp only [Act.put,zA_,zB_,zC_,i64_w]
      rfl
     refine two_ (i:=10) (j:=11) (Ni:=some 19) (Nj:=some 5) (bl_ 13 2047) (bl_ 13 3071) rfl rfl rfl rfl (by kernel_rfl) (by decide) (by decide) (fun K hK=>?_) (fun K hK=>?_)
     ·skip
      refine value_ (w1:=(v3.alloc (.cells #[.slice C.A0 C.l0.length C.c0,.slice C.A1 C.l1.length C.c1,.slice C.A2 C.l2.length C.c2,.slice C.A3 C.l3.length C.c3,.map (some (v1.heap.size)),.slice (some ⟨v0.heap.size,0,none⟩) C.l0.length C.l0.length,.int .i64 0,.int .i64 0,.int .i64 0,.int .i64 0,.int .i64 0] 72))) (v:=.pointer (some ⟨v3.heap.size,0,none⟩)) (by rfl) rfl (by go_simp) ?_
      have g10:w.heap.size≤v3.heap.size:=hV.b.size
      have h1:=blk_alloc h1 (.cells #[.slice C.A0 C.l0.length C.c0,.slice C.A1 C.l1.length C.c1,.slice C.A2 C.l2.length C.c2,.slice C.A3 C.l3.length C.c3,.map (some (v1.heap.size)),.slice (some ⟨v0.heap.size,0,none⟩) C.l0.length C.l0.length,.int .i64 0,.int .i64 0,.int .i64 0,.int .i64 0,.int .i64 0] 72)
      have h8:=blk_alloc h8 (.cells #[.slice C.A0 C.l0.length C.c0,.slice C.A1 C.l1.length C.c1,.slice C.A2 C.l2.length C.c2,.slice C.A3 C.l3.length C.c3,.map (some (v1.heap.size)),.slice (some ⟨v0.heap.size,0,none⟩) C.l0.length C.l0.length,.int .i64 0,.int .i64 0,.int .i64 0,.int .i64 0,.int .i64 0] 72)
      have h10:=heap_alloc_new v3 (.cells #[.slice C.A0 C.l0.length C.c0,.slice C.A1 C.l1.length C.c1,.slice C.A2 C.l2.length C.c2,.slice C.A3 C.l3.length C.c3,.map (some (v1.heap.size)),.slice (some ⟨v0.heap.size,0,none⟩) C.l0.length C.l0.length,.int .i64 0,.int .i64 0,.int .i64 0,.int .i64 0,.int .i64 0] 72)
      have hV:=hV.call (below_alloc (Below.refl _ _) (.cells #[.slice C.A0 C.l0.length C.c0,.slice C.A1 C.l1.length C.c1,.slice C.A2 C.l2.length C.c2,.slice C.A3 C.l3.length C.c3,.map (some (v1.heap.size)),.slice (some ⟨v0.heap.size,0,none⟩) C.l0.length C.l0.length,.int .i64 0,.int .i64 0,.int .i64 0,.int .i64 0,.int .i64 0] 72))
      generalize (v3.alloc (.cells #[.slice C.A0 C.l0.length C.c0,.slice C.A1 C.l1.length C.c1,.slice C.A2 C.l2.length C.c2,.slice C.A3 C.l3.length C.c3,.map (some (v1.heap.size)),.slice (some ⟨v0.heap.size,0,none⟩) C.l0.length C.l0.length,.int .i64 0,.int .i64 0,.int .i64 0,.int .i64 0,.int .i64 0] 72))=v4 at hV h1 h8 h10 ⊢
      refine hK.out _ _ ⟨(blk_cell hV.k0 0),(blk_cell hV.k0 1),(blk_cell hV.k0 2),(blk_cell hV.k0 3)⟩ (fun hHeld=>?_)
      clear hK K
      refine norm_ (a':=?_) ?_ ?_
      rotate_left
      ·show Act.put _ (some 19) _=_
       simp only [Act.put,zA_,zB_,zC_,i64_w]
       rfl
      refine one_ (i:=11) (N:=some 5) (bl_ 13 4095) rfl rfl (by kernel_rfl) (by decide) (fun K hK=>?_)
      refine value_ (w1:=(v4.alloc (.cells #[.pointer none] 64))) (v:=.pointer (some ⟨v4.heap.size,0,none⟩)) (by rfl) rfl (by go_simp) ?_
      have g11:w.heap.size≤v4.heap.size:=hV.b.size
      have h1:=blk_alloc h1 (.cells #[.pointer none] 64)
      have h8:=blk_alloc h8 (.cells #[.pointer none] 64)
      have h10:=blk_alloc h10 (.cells #[.pointer none] 64)
      have h11:=heap_alloc_new v4 (.cells #[.pointer none] 64)
      have hV:=hV.call (below_alloc (Below.refl _ _) (.cells #[.pointer none] 64))
      generalize (v4.alloc (.cells #[.pointer none] 64))=v5 at hV h1 h8 h10 h11 ⊢
      refine hK.out _ _ ⟨(blk_cell hV.k0 0),(blk_cell hV.k0 1),(blk_cell hV.k0 2),(blk_cell hV.k0 3)⟩ (fun hHeld=>?_)
      clear hK K
      refine norm_ (a':=?_) ?_ ?_
      rotate_left
      ·show Act.put _ (some 5) _=_
       simp only [Act.put,zA_,zB_,zC_,i64_w]
       rfl
      exact norm_ (by simp only [putAll,Act.put,List.setIfInBounds_toArray,List.set_cons_zero,List.set_cons_succ]) (hCont (v1.heap.size,v0.heap.size,v3.heap.size,v4.heap.size) _ ⟨hV,h1,h8,h10,h11,g1,g8,g10,g11⟩)
     ·skip
      refine value_ (w1:=(v3.alloc (.cells #[.pointer none] 64))) (v:=.pointer (some ⟨v3.heap.size,0,none⟩)) (by rfl) rfl (by go_simp) ?_
      have g11:w.heap.size≤v3.heap.size:=hV.b.size
      have h1:=blk_alloc h1 (.cells #[.pointer none] 64)
      have h8:=blk_alloc h8 (.cells #[.pointer none] 64)
      have h11:=heap_alloc_new v3 (.cells #[.pointer none] 64)
      have hV:=hV.call (below_alloc (Below.refl _ _) (.cells #[.pointer none] 64))
      generalize (v3.alloc (.cells #[.pointer none] 64))=v4 at hV h1 h8 h11 ⊢
      refine hK.out _ _ ⟨(blk_cell hV.k0 0),(blk_cell hV.k0 1),(blk_cell hV.k0 2),(blk_cell hV.k0 3)⟩ (fun hHeld=>?_)
      clear hK K
      refine norm_ (a':=?_) ?_ ?_
      rotate_left
      ·show Act.put _ (some 5) _=_
       simp only [Act.put,zA_,zB_,zC_,i64_w]
       rfl
      refine one_ (i:=10) (N:=some 19) (bl_ 13 4095) rfl rfl (by kernel_rfl) (by decide) (fun K hK=>?_)
      refine value_ (w1:=(v4.alloc (.cells #[.slice C.A0 C.l0.length C.c0,.slice C.A1 C.l1.length C.c1,.slice C.A2 C.l2.length C.c2,.slice C.A3 C.l3.length C.c3,.map (some (v1.heap.size)),.slice (some ⟨v0.heap.size,0,none⟩) C.l0.length C.l0.length,.int .i64 0,.int .i64 0,.int .i64 0,.int .i64 0,.int .i64 0] 72))) (v:=.pointer (some ⟨v4.heap.size,0,none⟩)) (by rfl) rfl (by go_simp) ?_
      have g10:w.heap.size≤v4.heap.size:=hV.b.size
      have h1:=blk_alloc h1 (.cells #[.slice C.A0 C.l0.length C.c0,.slice C.A1 C.l1.length C.c1,.slice C.A2 C.l2.length C.c2,.slice C.A3 C.l3.length C.c3,.map (some (v1.heap.size)),.slice (some ⟨v0.heap.size,0,none⟩) C.l0.length C.l0.length,.int .i64 0,.int .i64 0,.int .i64 0,.int .i64 0,.int .i64 0] 72)
      have h8:=blk_alloc h8 (.cells #[.slice C.A0 C.l0.length C.c0,.slice C.A1 C.l1.length C.c1,.slice C.A2 C.l2.length C.c2,.slice C.A3 C.l3.length C.c3,.map (some (v1.heap.size)),.slice (some ⟨v0.heap.size,0,none⟩) C.l0.length C.l0.length,.int .i64 0,.int .i64 0,.int .i64 0,.int .i64 0,.int .i64 0] 72)
      have h11:=blk_alloc h11 (.cells #[.slice C.A0 C.l0.length C.c0,.slice C.A1 C.l1.length C.c1,.slice C.A2 C.l2.length C.c2,.slice C.A3 C.l3.length C.c3,.map (some (v1.heap.size)),.slice (some ⟨v0.heap.size,0,none⟩) C.l0.length C.l0.length,.int .i64 0,.int .i64 0,.int .i64 0,.int .i64 0,.int .i64 0] 72)
      have h10:=heap_alloc_new v4 (.cells #[.slice C.A0 C.l0.length C.c0,.slice C.A1 C.l1.length C.c1,.slice C.A2 C.l2.length C.c2,.slice C.A3 C.l3.length C.c3,.map (some (v1.heap.size)),.slice (some ⟨v0.heap.size,0,none⟩) C.l0.length C.l0.length,.int .i64 0,.int .i64 0,.int .i64 0,.int .i64 0,.int .i64 0] 72)
      have hV:=hV.call (below_alloc (Below.refl _ _) (.cells #[.slice C.A0 C.l0.length C.c0,.slice C.A1 C.l1.length C.c1,.slice C.A2 C.l2.length C.c2,.slice C.A3 C.l3.length C.c3,.map (some (v1.heap.size)),.slice (some ⟨v0.heap.size,0,none⟩) C.l0.length C.l0.length,.int .i64 0,.int .i64 0,.int .i64 0,.int .i64 0,.int .i64 0] 72))
      generalize (v4.alloc (.cells #[.slice C.A0 C.l0.length C.c0,.slice C.A1 C.l1.length C.c1,.slice C.A2 C.l2.length C.c2,.slice C.A3 C.l3.length C.c3,.map (some (v1.heap.size)),.slice (some ⟨v0.heap.size,0,none⟩) C.l0.length C.l0.length,.int .i64 0,.int .i64 0,.int .i64 0,.int .i64 0,.int .i64 0] 72))=v5 at hV h1 h8 h10 h11 ⊢
      refine hK.out _ _ ⟨(blk_cell hV.k0 0),(blk_cell hV.k0 1),(blk_cell hV.k0 2),(blk_cell hV.k0 3)⟩ (fun hHeld=>?_)
      clear hK K
      refine norm_ (a':=?_) ?_ ?_
      rotate_left
      ·show Act.put _ (some 19) _=_
       simp only [Act.put,zA_,zB_,zC_,i64_w]
       rfl
      exact norm_ (by simp only [putAll,Act.put,List.setIfInBounds_toArray,List.set_cons_zero,List.set_cons_succ]) (hCont (v1.heap.size,v0.heap.size,v4.heap.size,v3.heap.size) _ ⟨hV,h1,h8,h10,h11,g1,g8,g10,g11⟩)
    ·skip
     refine value_ (w1:=(v2.alloc (.cells #[.pointer none] 64))) (v:=.pointer (some ⟨v2.heap.size,0,none⟩)) (by rfl) rfl (by go_simp) ?_
     have g11:w.heap.size≤v2.heap.size:=hV.b.size
     have h1:=blk_alloc h1 (.cells #[.pointer none] 64)
     have h8:=blk_alloc h8 (.cells #[.pointer none] 64)
     have h11:=heap_alloc_new v2 (.cells #[.pointer none] 64)
     have hV:=hV.call (below_alloc (Below.refl _ _) (.cells #[.pointer none] 64))
     generalize (v2.alloc (.cells #[.pointer none] 64))=v3 at hV h1 h8 h11 ⊢
     refine hK.out _ _ ⟨(blk_cell hV.k0 0),(blk_cell hV.k0 1),(blk_cell hV.k0 2),(blk_cell hV.k0 3)⟩ (fun hHeld=>?_)
     clear hK K
     refine norm_ (a':=?_) ?_ ?_
     rotate_left
     ·show Act.put _ (some 5) _=_
      simp only [Act.put,zA_,zB_,zC_,i64_w]
      rfl
     refine one_ (i:=3) (N:=none) (bl_ 13 2543) rfl rfl (by kernel_rfl) (by decide) (fun K hK=>?_)
     have qi:=insert0z h1
     refine skip_ (w1:=(setB v3 v1.heap.size (.map e0 1))) (by rfl) rfl (by go_simp) ?_
     clear qi
     have h8:=setB_far (o:=.map e0 1) (map_ne h1 h8) h8
     have h11:=setB_far (o:=.map e0 1) (map_ne h1 h11) h11
     have hV:=hV.setB (o:=.map e0 1) h1 g1
     have h1:=setB_at h1 (.map e0 1)
     generalize (setB v3 v1.heap.size (.map e0 1))=v4 at hV h1 h8 h11 ⊢
     refine hK.out _ _ ⟨(blk_cell hV.k0 0),(blk_cell hV.k0 1),(blk_cell hV.k0 2),(blk_cell hV.k0 3)⟩ (fun hHeld=>?_)
     clear hK K
     refine pure_ (i:=4) (N:=some 13) (v:=?_) (a':=?_) (bl_ 13 2559) rfl rfl (by kernel_rfl) (fun _ _ _ h=>pq (by decide) (by decide) (by decide) h) (Or.inl ⟨by rfl,?_⟩) ?_ ?_
     rotate_left
     ·intro w'
      go_simp
      with_reducible rfl
     rotate_left
     ·simp only [Act.put,zA_,zB_,zC_,i64_w]
      rfl
     refine pure_ (i:=9) (N:=some 18) (v:=?_) (a':=?_) (bl_ 13 3071) rfl rfl (by kernel_rfl) (fun _ _ _ h=>pq (by decide) (by decide) (by decide) h) (Or.inl ⟨by rfl,?_⟩) ?_ ?_
     rotate_left
     ·intro w'
      go_simp
      with_reducible rfl
     rotate_left
     ·simp only [Act.put,zA_,zB_,zC_,i64_w]
      rfl
     refine one_ (i:=10) (N:=some 19) (bl_ 13 4095) rfl rfl (by kernel_rfl) (by decide) (fun K hK=>?_)
     refine value_ (w1:=(v4.alloc (.cells #[.slice C.A0 C.l0.length C.c0,.slice C.A1 C.l1.length C.c1,.slice C.A2 C.l2.length C.c2,.slice C.A3 C.l3.length C.c3,.map (some (v1.heap.size)),.slice (some ⟨v0.heap.size,0,none⟩) C.l0.length C.l0.length,.int .i64 0,.int .i64 0,.int .i64 0,.int .i64 0,.int .i64 0] 72))) (v:=.pointer (some ⟨v4.heap.size,0,none⟩)) (by rfl) rfl (by go_simp) ?_
     have g10:w.heap.size≤v4.heap.size:=hV.b.size
     have h1:=blk_alloc h1 (.cells #[.slice C.A0 C.l0.length C.c0,.slice C.A1 C.l1.length C.c1,.slice C.A2 C.l2.length C.c2,.slice C.A3 C.l3.length C.c3,.map (some (v1.heap.size)),.slice (some ⟨v0.heap.size,0,none⟩) C.l0.length C.l0.length,.int .i64 0,.int .i64 0,.int .i64 0,.int .i64 0,.int .i64 0] 72)
     have h8:=blk_alloc h8 (.cells #[.slice C.A0 C.l0.length C.c0,.slice C.A1 C.l1.length C.c1,.slice C.A2 C.l2.length C.c2,.slice C.A3 C.l3.length C.c3,.map (some (v1.heap.size)),.slice (some ⟨v0.heap.size,0,none⟩) C.l0.length C.l0.length,.int .i64 0,.int .i64 0,.int .i64 0,.int .i64 0,.int .i64 0] 72)
     have h11:=blk_alloc h11 (.cells #[.slice C.A0 C.l0.length C.c0,.slice C.A1 C.l1.length C.c1,.slice C.A2 C.l2.length C.c2,.slice C.A3 C.l3.length C.c3,.map (some (v1.heap.size)),.slice (some ⟨v0.heap.size,0,none⟩) C.l0.length C.l0.length,.int .i64 0,.int .i64 0,.int .i64 0,.int .i64 0,.int .i64 0] 72)
     have h10:=heap_alloc_new v4 (.cells #[.slice C.A0 C.l0.length C.c0,.slice C.A1 C.l1.length C.c1,.slice C.A2 C.l2.length C.c2,.slice C.A3 C.l3.length C.c3,.map (some (v1.heap.size)),.slice (some ⟨v0.heap.size,0,none⟩) C.l0.length C.l0.length,.int .i64 0,.int .i64 0,.int .i64 0,.int .i64 0,.int .i64 0] 72)
     have hV:=hV.call (below_alloc (Below.refl _ _) (.cells #[.slice C.A0 C.l0.length C.c0,.slice C.A1 C.l1.length C.c1,.slice C.A2 C.l2.length C.c2,.slice C.A3 C.l3.length C.c3,.map (some (v1.heap.size)),.slice (some ⟨v0.heap.size,0,none⟩) C.l0.length C.l0.length,.int .i64 0,.int .i64 0,.int .i64 0,.int .i64 0,.int .i64 0] 72))
     generalize (v4.alloc (.cells #[.slice C.A0 C.l0.length C.c0,.slice C.A1 C.l1.length C.c1,.slice C.A2 C.l2.length C.c2,.slice C.A3 C.l3.length C.c3,.map (some (v1.heap.size)),.slice (some ⟨v0.heap.size,0,none⟩) C.l0.length C.l0.length,.int .i64 0,.int .i64 0,.int .i64 0,.int .i64 0,.int .i64 0] 72))=v5 at hV h1 h8 h10 h11 ⊢
     refine hK.out _ _ ⟨(blk_cell hV.k0 0),(blk_cell hV.k0 1),(blk_cell hV.k0 2),(blk_cell hV.k0 3)⟩ (fun hHeld=>?_)
     clear hK K
     refine norm_ (a':=?_) ?_ ?_
     rotate_left
     ·show Act.put _ (some 19) _=_
      simp only [Act.put,zA_,zB_,zC_,i64_w]
      rfl
     exact norm_ (by simp only [putAll,Act.put,List.setIfInBounds_toArray,List.set_cons_zero,List.set_cons_succ]) (hCont (v1.heap.size,v0.heap.size,v4.heap.size,v2.heap.size) _ ⟨hV,h1,h8,h10,h11,g1,g8,g10,g11⟩)
   ·skip
    refine value_ (w1:=(v1.alloc (.cells #[.pointer none] 64))) (v:=.pointer (some ⟨v1.heap.size,0,none⟩)) (by rfl) rfl (by go_simp) ?_
    have g11:w.heap.size≤v1.heap.size:=hV.b.size
    have h8:=blk_alloc h8 (.cells #[.pointer none] 64)
    have h11:=heap_alloc_new v1 (.cells #[.pointer none] 64)
    have hV:=hV.call (below_alloc (Below.refl _ _) (.cells #[.pointer none] 64))
    generalize (v1.alloc (.cells #[.pointer none] 64))=v2 at hV h8 h11 ⊢
    refine hK.out _ _ ⟨(blk_cell hV.k0 0),(blk_cell hV.k0 1),(blk_cell hV.k0 2),(blk_cell hV.k0 3)⟩ (fun hHeld=>?_)
    clear hK K
    refine norm_ (a':=?_) ?_ ?_
    rotate_left
    ·show Act.put _ (some 5) _=_
     simp only [Act.put,zA_,zB_,zC_,i64_w]
     rfl
    refine one_ (i:=1) (N:=some 11) (bl_ 13 2535) rfl rfl (by kernel_rfl) (by decide) (fun K hK=>?_)
    have qi:=makeMap69 v2
    refine value_ (w1:=(v2.alloc (.map #[] 0))) (v:=.map (some v2.heap.size)) (by rfl) rfl (by go_simp) ?_
    clear qi
    have g1:w.heap.size≤v2.heap.size:=hV.b.size
    have h8:=blk_alloc h8 (.map #[] 0)
    have h11:=blk_alloc h11 (.map #[] 0)
    have h1:=heap_alloc_new v2 (.map #[] 0)
    have hV:=hV.call (below_alloc (Below.refl _ _) (.map #[] 0))
    generalize (v2.alloc (.map #[] 0))=v3 at hV h1 h8 h11 ⊢
    refine hK.out _ _ ⟨(blk_cell hV.k0 0),(blk_cell hV.k0 1),(blk_cell hV.k0 2),(blk_cell hV.k0 3)⟩ (fun hHeld=>?_)
    clear hK K
    refine norm_ (a':=?_) ?_ ?_
    rotate_left
    ·show Act.put _ (some 11) _=_
     simp only [Act.put,zA_,zB_,zC_,i64_w]
     rfl
    refine one_ (i:=3) (N:=none) (bl_ 13 2543) rfl rfl (by kernel_rfl) (by decide) (fun K hK=>?_)
    have qi:=insert0z h1
    refine skip_ (w1:=(setB v3 v2.heap.size (.map e0 1))) (by rfl) rfl (by go_simp) ?_
    clear qi
    have h8:=setB_far (o:=.map e0 1) (map_ne h1 h8) h8
    have h11:=setB_far (o:=.map e0 1) (map_ne h1 h11) h11
    have hV:=hV.setB (o:=.map e0 1) h1 g1
    have h1:=setB_at h1 (.map e0 1)
    generalize (setB v3 v2.heap.size (.map e0 1))=v4 at hV h1 h8 h11 ⊢
    refine hK.out _ _ ⟨(blk_cell hV.k0 0),(blk_cell hV.k0 1),(blk_cell hV.k0 2),(blk_cell hV.k0 3)⟩ (fun hHeld=>?_)
    clear hK K
    refine pure_ (i:=4) (N:=some 13) (v:=?_) (a':=?_) (bl_ 13 2559) rfl rfl (by kernel_rfl) (fun _ _ _ h=>pq (by decide) (by decide) (by decide) h) (Or.inl ⟨by rfl,?_⟩) ?_ ?_
    rotate_left
    ·intro w'
     go_simp
     with_reducible rfl
    rotate_left
    ·simp only [Act.put,zA_,zB_,zC_,i64_w]
     rfl
    refine pure_ (i:=9) (N:=some 18) (v:=?_) (a':=?_) (bl_ 13 3071) rfl rfl (by kernel_rfl) (fun _ _ _ h=>pq (by decide) (by decide) (by decide) h) (Or.inl ⟨by rfl,?_⟩) ?_ ?_
    rotate_left
    ·intro w'
     go_simp
     with_reducible rfl
    rotate_left
    ·simp only [Act.put,zA_,zB_,zC_,i64_w]
     rfl
    refine one_ (i:=10) (N:=some 19) (bl_ 13 4095) rfl rfl (by kernel_rfl) (by decide) (fun K hK=>?_)
    refine value_ (w1:=(v4.alloc (.cells #[.slice C.A0 C.l0.length C.c0,.slice C.A1 C.l1.length C.c1,.slice C.A2 C.l2.length C.c2,.slice C.A3 C.l3.length C.c3,.map (some (v2.heap.size)),.slice (some ⟨v0.heap.size,0,none⟩) C.l0.length C.l0.length,.int .i64 0,.int .i64 0,.int .i64 0,.int .i64 0,.int .i64 0] 72))) (v:=.pointer (some ⟨v4.heap.size,0,none⟩)) (by rfl) rfl (by go_simp) ?_
    have g10:w.heap.size≤v4.heap.size:=hV.b.size
    have h1:=blk_alloc h1 (.cells #[.slice C.A0 C.l0.length C.c0,.slice C.A1 C.l1.length C.c1,.slice C.A2 C.l2.length C.c2,.slice C.A3 C.l3.length C.c3,.map (some (v2.heap.size)),.slice (some ⟨v0.heap.size,0,none⟩) C.l0.length C.l0.length,.int .i64 0,.int .i64 0,.int .i64 0,.int .i64 0,.int .i64 0] 72)
    have h8:=blk_alloc h8 (.cells #[.slice C.A0 C.l0.length C.c0,.slice C.A1 C.l1.length C.c1,.slice C.A2 C.l2.length C.c2,.slice C.A3 C.l3.length C.c3,.map (some (v2.heap.size)),.slice (some ⟨v0.heap.size,0,none⟩) C.l0.length C.l0.length,.int .i64 0,.int .i64 0,.int .i64 0,.int .i64 0,.int .i64 0] 72)
    have h11:=blk_alloc h11 (.cells #[.slice C.A0 C.l0.length C.c0,.slice C.A1 C.l1.length C.c1,.slice C.A2 C.l2.length C.c2,.slice C.A3 C.l3.length C.c3,.map (some (v2.heap.size)),.slice (some ⟨v0.heap.size,0,none⟩) C.l0.length C.l0.length,.int .i64 0,.int .i64 0,.int .i64 0,.int .i64 0,.int .i64 0] 72)
    have h10:=heap_alloc_new v4 (.cells #[.slice C.A0 C.l0.length C.c0,.slice C.A1 C.l1.length C.c1,.slice C.A2 C.l2.length C.c2,.slice C.A3 C.l3.length C.c3,.map (some (v2.heap.size)),.slice (some ⟨v0.heap.size,0,none⟩) C.l0.length C.l0.length,.int .i64 0,.int .i64 0,.int .i64 0,.int .i64 0,.int .i64 0] 72)
    have hV:=hV.call (below_alloc (Below.refl _ _) (.cells #[.slice C.A0 C.l0.length C.c0,.slice C.A1 C.l1.length C.c1,.slice C.A2 C.l2.length C.c2,.slice C.A3 C.l3.length C.c3,.map (some (v2.heap.size)),.slice (some ⟨v0.heap.size,0,none⟩) C.l0.length C.l0.length,.int .i64 0,.int .i64 0,.int .i64 0,.int .i64 0,.int .i64 0] 72))
    generalize (v4.alloc (.cells #[.slice C.A0 C.l0.length C.c0,.slice C.A1 C.l1.length C.c1,.slice C.A2 C.l2.length C.c2,.slice C.A3 C.l3.length C.c3,.map (some (v2.heap.size)),.slice (some ⟨v0.heap.size,0,none⟩) C.l0.length C.l0.length,.int .i64 0,.int .i64 0,.int .i64 0,.int .i64 0,.int .i64 0] 72))=v5 at hV h1 h8 h10 h11 ⊢
    refine hK.out _ _ ⟨(blk_cell hV.k0 0),(blk_cell hV.k0 1),(blk_cell hV.k0 2),(blk_cell hV.k0 3)⟩ (fun hHeld=>?_)
    clear hK K
    refine norm_ (a':=?_) ?_ ?_
    rotate_left
    ·show Act.put _ (some 19) _=_
     simp only [Act.put,zA_,zB_,zC_,i64_w]
     rfl
    exact norm_ (by simp only [putAll,Act.put,List.setIfInBounds_toArray,List.set_cons_zero,List.set_cons_succ]) (hCont (v2.heap.size,v0.heap.size,v4.heap.size,v1.heap.size) _ ⟨hV,h1,h8,h10,h11,g1,g8,g10,g11⟩)
  ·skip
   refine value_ (w1:=(v0.alloc (.cells #[.pointer none] 64))) (v:=.pointer (some ⟨v0.heap.size,0,none⟩)) (by rfl) rfl (by go_simp) ?_
   have g11:w.heap.size≤v0.heap.size:=hV.b.size
   have h11:=heap_alloc_new v0 (.cells #[.pointer none] 64)
   have hV:=hV.call (below_alloc (Below.refl _ _) (.cells #[.pointer none] 64))
   generalize (v0.alloc (.cells #[.pointer none] 64))=v1 at hV h11 ⊢
   refine hK.out _ _ ⟨(blk_cell hV.k0 0),(blk_cell hV.k0 1),(blk_cell hV.k0 2),(blk_cell hV.k0 3)⟩ (fun hHeld=>?_)
   clear hK K
   refine norm_ (a':=?_) ?_ ?_
   rotate_left
   ·show Act.put _ (some 5) _=_
    simp only [Act.put,zA_,zB_,zC_,i64_w]
    rfl
   refine two_ (i:=1) (j:=8) (Ni:=some 11) (Nj:=some 17) (bl_ 13 2279) (bl_ 13 2533) rfl rfl rfl rfl (by kernel_rfl) (by decide) (by decide) (fun K hK=>?_) (fun K hK=>?_)
   ·skip
    have qi:=makeMap69 v1
    refine value_ (w1:=(v1.alloc (.map #[] 0))) (v:=.map (some v1.heap.size)) (by rfl) rfl (by go_simp) ?_
    clear qi
    have g1:w.heap.size≤v1.heap.size:=hV.b.size
    have h11:=blk_alloc h11 (.map #[] 0)
    have h1:=heap_alloc_new v1 (.map #[] 0)
    have hV:=hV.call (below_alloc (Below.refl _ _) (.map #[] 0))
    generalize (v1.alloc (.map #[] 0))=v2 at hV h1 h11 ⊢
    refine hK.out _ _ ⟨(blk_cell hV.k0 0),(blk_cell hV.k0 1),(blk_cell hV.k0 2),(blk_cell hV.k0 3)⟩ (fun hHeld=>?_)
    clear hK K
    refine norm_ (a':=?_) ?_ ?_
    rotate_left
    ·show Act.put _ (some 11) _=_
     simp only [Act.put,zA_,zB_,zC_,i64_w]
     rfl
    refine two_ (i:=3) (j:=8) (Ni:=none) (Nj:=some 17) (bl_ 13 2287) (bl_ 13 2535) rfl rfl rfl rfl (by kernel_rfl) (by decide) (by decide) (fun K hK=>?_) (fun K hK=>?_)
    ·skip
     have qi:=insert0z h1
     refine skip_ (w1:=(setB v2 v1.heap.size (.map e0 1))) (by rfl) rfl (by go_simp) ?_
     clear qi
     have h11:=setB_far (o:=.map e0 1) (map_ne h1 h11) h11
     have hV:=hV.setB (o:=.map e0 1) h1 g1
     have h1:=setB_at h1 (.map e0 1)
     generalize (setB v2 v1.heap.size (.map e0 1))=v3 at hV h1 h11 ⊢
     refine hK.out _ _ ⟨(blk_cell hV.k0 0),(blk_cell hV.k0 1),(blk_cell hV.k0 2),(blk_cell hV.k0 3)⟩ (fun hHeld=>?_)
     clear hK K
     refine pure_ (i:=4) (N:=some 13) (v:=?_) (a':=?_) (bl_ 13 2303) rfl rfl (by kernel_rfl) (fun _ _ _ h=>pq (by decide) (by decide) (by decide) h) (Or.inl ⟨by rfl,?_⟩) ?_ ?_
     rotate_left
     ·intro w'
      go_simp
      with_reducible rfl
     rotate_left
     ·simp only [Act.put,zA_,zB_,zC_,i64_w]
      rfl
     refine one_ (i:=8) (N:=some 17) (bl_ 13 2559) rfl rfl (by kernel_rfl) (by decide) (fun K hK=>?_)
     have qi:=make70 v3 C.l0.length hn
     refine value_ (w1:=(v3.alloc (.cells (falses C.l0.length) 4))) (v:=.slice (some ⟨v3.heap.size,0,none⟩) C.l0.length C.l0.length) (by rfl) rfl (by go_simp) ?_
     clear qi
     have g8:w.heap.size≤v3.heap.size:=hV.b.size
     have h1:=blk_alloc h1 (.cells (falses C.l0.length) 4)
     have h11:=blk_alloc h11 (.cells (falses C.l0.length) 4)
     have h8:=heap_alloc_new v3 (.cells (falses C.l0.length) 4)
     have hV:=hV.call (below_alloc (Below.refl _ _) (.cells (falses C.l0.length) 4))
     generalize (v3.alloc (.cells (falses C.l0.length) 4))=v4 at hV h1 h8 h11 ⊢
     refine hK.out _ _ ⟨(blk_cell hV.k0 0),(blk_cell hV.k0 1),(blk_cell hV.k0 2),(blk_cell hV.k0 3)⟩ (fun hHeld=>?_)
     clear hK K
     refine norm_ (a':=?_) ?_ ?_
     rotate_left
     ·show Act.put _ (some 17) _=_
      simp only [Act.put,zA_,zB_,zC_,i64_w]
      rfl
     refine pure_ (i:=9) (N:=some 18) (v:=?_) (a':=?_) (bl_ 13 3071) rfl rfl (by kernel_rfl) (fun _ _ _ h=>pq (by decide) (by decide) (by decide) h) (Or.inl ⟨by rfl,?_⟩) ?_ ?_
     rotate_left
     ·intro w'
      go_simp
      with_reducible rfl
     rotate_left
     ·simp only [Act.put,zA_,zB_,zC_,i64_w]
      rfl
     refine one_ (i:=10) (N:=some 19) (bl_ 13 4095) rfl rfl (by kernel_rfl) (by decide) (fun K hK=>?_)
     refine value_ (w1:=(v4.alloc (.cells #[.slice C.A0 C.l0.length C.c0,.slice C.A1 C.l1.length C.c1,.slice C.A2 C.l2.length C.c2,.slice C.A3 C.l3.length C.c3,.map (some (v1.heap.size)),.slice (some ⟨v3.heap.size,0,none⟩) C.l0.length C.l0.length,.int .i64 0,.int .i64 0,.int .i64 0,.int .i64 0,.int .i64 0] 72))) (v:=.pointer (some ⟨v4.heap.size,0,none⟩)) (by rfl) rfl (by go_simp) ?_
     have g10:w.heap.size≤v4.heap.size:=hV.b.size
     have h1:=blk_alloc h1 (.cells #[.slice C.A0 C.l0.length C.c0,.slice C.A1 C.l1.length C.c1,.slice C.A2 C.l2.length C.c2,.slice C.A3 C.l3.length C.c3,.map (some (v1.heap.size)),.slice (some ⟨v3.heap.size,0,none⟩) C.l0.length C.l0.length,.int .i64 0,.int .i64 0,.int .i64 0,.int .i64 0,.int .i64 0] 72)
     have h8:=blk_alloc h8 (.cells #[.slice C.A0 C.l0.length C.c0,.slice C.A1 C.l1.length C.c1,.slice C.A2 C.l2.length C.c2,.slice C.A3 C.l3.length C.c3,.map (some (v1.heap.size)),.slice (some ⟨v3.heap.size,0,none⟩) C.l0.length C.l0.length,.int .i64 0,.int .i64 0,.int .i64 0,.int .i64 0,.int .i64 0] 72)
     have h11:=blk_alloc h11 (.cells #[.slice C.A0 C.l0.length C.c0,.slice C.A1 C.l1.length C.c1,.slice C.A2 C.l2.length C.c2,.slice C.A3 C.l3.length C.c3,.map (some (v1.heap.size)),.slice (some ⟨v3.heap.size,0,none⟩) C.l0.length C.l0.length,.int .i64 0,.int .i64 0,.int .i64 0,.int .i64 0,.int .i64 0] 72)
     have h10:=heap_alloc_new v4 (.cells #[.slice C.A0 C.l0.length C.c0,.slice C.A1 C.l1.length C.c1,.slice C.A2 C.l2.length C.c2,.slice C.A3 C.l3.length C.c3,.map (some (v1.heap.size)),.slice (some ⟨v3.heap.size,0,none⟩) C.l0.length C.l0.length,.int .i64 0,.int .i64 0,.int .i64 0,.int .i64 0,.int .i64 0] 72)
     have hV:=hV.call (below_alloc (Below.refl _ _) (.cells #[.slice C.A0 C.l0.length C.c0,.slice C.A1 C.l1.length C.c1,.slice C.A2 C.l2.length C.c2,.slice C.A3 C.l3.length C.c3,.map (some (v1.heap.size)),.slice (some ⟨v3.heap.size,0,none⟩) C.l0.length C.l0.length,.int .i64 0,.int .i64 0,.int .i64 0,.int .i64 0,.int .i64 0] 72))
     generalize (v4.alloc (.cells #[.slice C.A0 C.l0.length C.c0,.slice C.A1 C.l1.length C.c1,.slice C.A2 C.l2.length C.c2,.slice C.A3 C.l3.length C.c3,.map (some (v1.heap.size)),.slice (some ⟨v3.heap.size,0,none⟩) C.l0.length C.l0.length,.int .i64 0,.int .i64 0,.int .i64 0,.int .i64 0,.int .i64 0] 72))=v5 at hV h1 h8 h10 h11 ⊢
     refine hK.out _ _ ⟨(blk_cell hV.k0 0),(blk_cell hV.k0 1),(blk_cell hV.k0 2),(blk_cell hV.k0 3)⟩ (fun hHeld=>?_)
     clear hK K
     refine norm_ (a':=?_) ?_ ?_
     rotate_left
     ·show Act.put _ (some 19) _=_
      simp only [Act.put,zA_,zB_,zC_,i64_w]
      rfl
     exact norm_ (by simp only [putAll,Act.put,List.setIfInBounds_toArray,List.set_cons_zero,List.set_cons_succ]) (hCont (v1.heap.size,v3.heap.size,v4.heap.size,v0.heap.size) _ ⟨hV,h1,h8,h10,h11,g1,g8,g10,g11⟩)
    ·skip
     have qi:=make70 v2 C.l0.length hn
     refine value_ (w1:=(v2.alloc (.cells (falses C.l0.length) 4))) (v:=.slice (some ⟨v2.heap.size,0,none⟩) C.l0.length C.l0.length) (by rfl) rfl (by go_simp) ?_
     clear qi
     have g8:w.heap.size≤v2.heap.size:=hV.b.size
     have h1:=blk_alloc h1 (.cells (falses C.l0.length) 4)
     have h11:=blk_alloc h11 (.cells (falses C.l0.length) 4)
     have h8:=heap_alloc_new v2 (.cells (falses C.l0.length) 4)
     have hV:=hV.call (below_alloc (Below.refl _ _) (.cells (falses C.l0.length) 4))
     generalize (v2.alloc (.cells (falses C.l0.length) 4))=v3 at hV h1 h8 h11 ⊢
     refine hK.out _ _ ⟨(blk_cell hV.k0 0),(blk_cell hV.k0 1),(blk_cell hV.k0 2),(blk_cell hV.k0 3)⟩ (fun hHeld=>?_)
     clear hK K
     refine norm_ (a':=?_) ?_ ?_
     rotate_left
     ·show Act.put _ (some 17) _=_
      simp only [Act.put,zA_,zB_,zC_,i64_w]
      rfl
     refine one_ (i:=3) (N:=none) (bl_ 13 2543) rfl rfl (by kernel_rfl) (by decide) (fun K hK=>?_)
     have qi:=insert0z h1
     refine skip_ (w1:=(setB v3 v1.heap.size (.map e0 1))) (by rfl) rfl (by go_simp) ?_
     clear qi
     have h8:=setB_far (o:=.map e0 1) (map_ne h1 h8) h8
     have h11:=setB_far (o:=.map e0 1) (map_ne h1 h11) h11
     have hV:=hV.setB (o:=.map e0 1) h1 g1
     have h1:=setB_at h1 (.map e0 1)
     generalize (setB v3 v1.heap.size (.map e0 1))=v4 at hV h1 h8 h11 ⊢
     refine hK.out _ _ ⟨(blk_cell hV.k0 0),(blk_cell hV.k0 1),(blk_cell hV.k0 2),(blk_cell hV.k0 3)⟩ (fun hHeld=>?_)
     clear hK K
     refine pure_ (i:=4) (N:=some 13) (v:=?_) (a':=?_) (bl_ 13 2559) rfl rfl (by kernel_rfl) (fun _ _ _ h=>pq (by decide) (by decide) (by decide) h) (Or.inl ⟨by rfl,?_⟩) ?_ ?_
     rotate_left
     ·intro w'
      go_simp
      with_reducible rfl
     rotate_left
     ·simp only [Act.put,zA_,zB_,zC_,i64_w]
      rfl
     refine pure_ (i:=9) (N:=some 18) (v:=?_) (a':=?_) (bl_ 13 3071) rfl rfl (by kernel_rfl) (fun _ _ _ h=>pq (by decide) (by decide) (by decide) h) (Or.inl ⟨by rfl,?_⟩) ?_ ?_
     rotate_left
     ·intro w'
      go_simp
      with_reducible rfl
     rotate_left
     ·simp only [Act.put,zA_,zB_,zC_,i64_w]
      rfl
     refine one_ (i:=10) (N:=some 19) (bl_ 13 4095) rfl rfl (by kernel_rfl) (by decide) (fun K hK=>?_)
     refine value_ (w1:=(v4.alloc (.cells #[.slice C.A0 C.l0.length C.c0,.slice C.A1 C.l1.length C.c1,.slice C.A2 C.l2.length C.c2,.slice C.A3 C.l3.length C.c3,.map (some (v1.heap.size)),.slice (some ⟨v2.heap.size,0,none⟩) C.l0.length C.l0.length,.int .i64 0,.int .i64 0,.int .i64 0,.int .i64 0,.int .i64 0] 72))) (v:=.pointer (some ⟨v4.heap.size,0,none⟩)) (by rfl) rfl (by go_simp) ?_
     have g10:w.heap.size≤v4.heap.size:=hV.b.size
     have h1:=blk_alloc h1 (.cells #[.slice C.A0 C.l0.length C.c0,.slice C.A1 C.l1.length C.c1,.slice C.A2 C.l2.length C.c2,.slice C.A3 C.l3.length C.c3,.map (some (v1.heap.size)),.slice (some ⟨v2.heap.size,0,none⟩) C.l0.length C.l0.length,.int .i64 0,.int .i64 0,.int .i64 0,.int .i64 0,.int .i64 0] 72)
     have h8:=blk_alloc h8 (.cells #[.slice C.A0 C.l0.length C.c0,.slice C.A1 C.l1.length C.c1,.slice C.A2 C.l2.length C.c2,.slice C.A3 C.l3.length C.c3,.map (some (v1.heap.size)),.slice (some ⟨v2.heap.size,0,none⟩) C.l0.length C.l0.length,.int .i64 0,.int .i64 0,.int .i64 0,.int .i64 0,.int .i64 0] 72)
     have h11:=blk_alloc h11 (.cells #[.slice C.A0 C.l0.length C.c0,.slice C.A1 C.l1.length C.c1,.slice C.A2 C.l2.length C.c2,.slice C.A3 C.l3.length C.c3,.map (some (v1.heap.size)),.slice (some ⟨v2.heap.size,0,none⟩) C.l0.length C.l0.length,.int .i64 0,.int .i64 0,.int .i64 0,.int .i64 0,.int .i64 0] 72)
     have h10:=heap_alloc_new v4 (.cells #[.slice C.A0 C.l0.length C.c0,.slice C.A1 C.l1.length C.c1,.slice C.A2 C.l2.length C.c2,.slice C.A3 C.l3.length C.c3,.map (some (v1.heap.size)),.slice (some ⟨v2.heap.size,0,none⟩) C.l0.length C.l0.length,.int .i64 0,.int .i64 0,.int .i64 0,.int .i64 0,.int .i64 0] 72)
     have hV:=hV.call (below_alloc (Below.refl _ _) (.cells #[.slice C.A0 C.l0.length C.c0,.slice C.A1 C.l1.length C.c1,.slice C.A2 C.l2.length C.c2,.slice C.A3 C.l3.length C.c3,.map (some (v1.heap.size)),.slice (some ⟨v2.heap.size,0,none⟩) C.l0.length C.l0.length,.int .i64 0,.int .i64 0,.int .i64 0,.int .i64 0,.int .i64 0] 72))
     generalize (v4.alloc (.cells #[.slice C.A0 C.l0.length C.c0,.slice C.A1 C.l1.length C.c1,.slice C.A2 C.l2.length C.c2,.slice C.A3 C.l3.length C.c3,.map (some (v1.heap.size)),.slice (some ⟨v2.heap.size,0,none⟩) C.l0.length C.l0.length,.int .i64 0,.int .i64 0,.int .i64 0,.int .i64 0,.int .i64 0] 72))=v5 at hV h1 h8 h10 h11 ⊢
     refine hK.out _ _ ⟨(blk_cell hV.k0 0),(blk_cell hV.k0 1),(blk_cell hV.k0 2),(blk_cell hV.k0 3)⟩ (fun hHeld=>?_)
     clear hK K
     refine norm_ (a':=?_) ?_ ?_
     rotate_left
     ·show Act.put _ (some 19) _=_
      simp only [Act.put,zA_,zB_,zC_,i64_w]
      rfl
     exact norm_ (by simp only [putAll,Act.put,List.setIfInBounds_toArray,List.set_cons_zero,List.set_cons_succ]) (hCont (v1.heap.size,v2.heap.size,v4.heap.size,v0.heap.size) _ ⟨hV,h1,h8,h10,h11,g1,g8,g10,g11⟩)
   ·skip
    have qi:=make70 v1 C.l0.length hn
    refine value_ (w1:=(v1.alloc (.cells (falses C.l0.length) 4))) (v:=.slice (some ⟨v1.heap.size,0,none⟩) C.l0.length C.l0.length) (by rfl) rfl (by go_simp) ?_
    clear qi
    have g8:w.heap.size≤v1.heap.size:=hV.b.size
    have h11:=blk_alloc h11 (.cells (falses C.l0.length) 4)
    have h8:=heap_alloc_new v1 (.cells (falses C.l0.length) 4)
    have hV:=hV.call (below_alloc (Below.refl _ _) (.cells (falses C.l0.length) 4))
    generalize (v1.alloc (.cells (falses C.l0.length) 4))=v2 at hV h8 h11 ⊢
    refine hK.out _ _ ⟨(blk_cell hV.k0 0),(blk_cell hV.k0 1),(blk_cell hV.k0 2),(blk_cell hV.k0 3)⟩ (fun hHeld=>?_)
    clear hK K
    refine norm_ (a':=?_) ?_ ?_
    rotate_left
    ·show Act.put _ (some 17) _=_
     simp only [Act.put,zA_,zB_,zC_,i64_w]
     rfl
    refine one_ (i:=1) (N:=some 11) (bl_ 13 2535) rfl rfl (by kernel_rfl) (by decide) (fun K hK=>?_)
    have qi:=makeMap69 v2
    refine value_ (w1:=(v2.alloc (.map #[] 0))) (v:=.map (some v2.heap.size)) (by rfl) rfl (by go_simp) ?_
    clear qi
    have g1:w.heap.size≤v2.heap.size:=hV.b.size
    have h8:=blk_alloc h8 (.map #[] 0)
    have h11:=blk_alloc h11 (.map #[] 0)
    have h1:=heap_alloc_new v2 (.map #[] 0)
    have hV:=hV.call (below_alloc (Below.refl _ _) (.map #[] 0))
    generalize (v2.alloc (.map #[] 0))=v3 at hV h1 h8 h11 ⊢
    refine hK.out _ _ ⟨(blk_cell hV.k0 0),(blk_cell hV.k0 1),(blk_cell hV.k0 2),(blk_cell hV.k0 3)⟩ (fun hHeld=>?_)
    clear hK K
    refine norm_ (a':=?_) ?_ ?_
    rotate_left
    ·show Act.put _ (some 11) _=_
     simp only [Act.put,zA_,zB_,zC_,i64_w]
     rfl
    refine one_ (i:=3) (N:=none) (bl_ 13 2543) rfl rfl (by kernel_rfl) (by decide) (fun K hK=>?_)
    have qi:=insert0z h1
    refine skip_ (w1:=(setB v3 v2.heap.size (.map e0 1))) (by rfl) rfl (by go_simp) ?_
    clear qi
    have h8:=setB_far (o:=.map e0 1) (map_ne h1 h8) h8
    have h11:=setB_far (o:=.map e0 1) (map_ne h1 h11) h11
    have hV:=hV.setB (o:=.map e0 1) h1 g1
    have h1:=setB_at h1 (.map e0 1)
    generalize (setB v3 v2.heap.size (.map e0 1))=v4 at hV h1 h8 h11 ⊢
    refine hK.out _ _ ⟨(blk_cell hV.k0 0),(blk_cell hV.k0 1),(blk_cell hV.k0 2),(blk_cell hV.k0 3)⟩ (fun hHeld=>?_)
    clear hK K
    refine pure_ (i:=4) (N:=some 13) (v:=?_) (a':=?_) (bl_ 13 2559) rfl rfl (by kernel_rfl) (fun _ _ _ h=>pq (by decide) (by decide) (by decide) h) (Or.inl ⟨by rfl,?_⟩) ?_ ?_
    rotate_left
    ·intro w'
     go_simp
     with_reducible rfl
    rotate_left
    ·simp only [Act.put,zA_,zB_,zC_,i64_w]
     rfl
    refine pure_ (i:=9) (N:=some 18) (v:=?_) (a':=?_) (bl_ 13 3071) rfl rfl (by kernel_rfl) (fun _ _ _ h=>pq (by decide) (by decide) (by decide) h) (Or.inl ⟨by rfl,?_⟩) ?_ ?_
    rotate_left
    ·intro w'
     go_simp
     with_reducible rfl
    rotate_left
    ·simp only [Act.put,zA_,zB_,zC_,i64_w]
     rfl
    refine one_ (i:=10) (N:=some 19) (bl_ 13 4095) rfl rfl (by kernel_rfl) (by decide) (fun K hK=>?_)
    refine value_ (w1:=(v4.alloc (.cells #[.slice C.A0 C.l0.length C.c0,.slice C.A1 C.l1.length C.c1,.slice C.A2 C.l2.length C.c2,.slice C.A3 C.l3.length C.c3,.map (some (v2.heap.size)),.slice (some ⟨v1.heap.size,0,none⟩) C.l0.length C.l0.length,.int .i64 0,.int .i64 0,.int .i64 0,.int .i64 0,.int .i64 0] 72))) (v:=.pointer (some ⟨v4.heap.size,0,none⟩)) (by rfl) rfl (by go_simp) ?_
    have g10:w.heap.size≤v4.heap.size:=hV.b.size
    have h1:=blk_alloc h1 (.cells #[.slice C.A0 C.l0.length C.c0,.slice C.A1 C.l1.length C.c1,.slice C.A2 C.l2.length C.c2,.slice C.A3 C.l3.length C.c3,.map (some (v2.heap.size)),.slice (some ⟨v1.heap.size,0,none⟩) C.l0.length C.l0.length,.int .i64 0,.int .i64 0,.int .i64 0,.int .i64 0,.int .i64 0] 72)
    have h8:=blk_alloc h8 (.cells #[.slice C.A0 C.l0.length C.c0,.slice C.A1 C.l1.length C.c1,.slice C.A2 C.l2.length C.c2,.slice C.A3 C.l3.length C.c3,.map (some (v2.heap.size)),.slice (some ⟨v1.heap.size,0,none⟩) C.l0.length C.l0.length,.int .i64 0,.int .i64 0,.int .i64 0,.int .i64 0,.int .i64 0] 72)
    have h11:=blk_alloc h11 (.cells #[.slice C.A0 C.l0.length C.c0,.slice C.A1 C.l1.length C.c1,.slice C.A2 C.l2.length C.c2,.slice C.A3 C.l3.length C.c3,.map (some (v2.heap.size)),.slice (some ⟨v1.heap.size,0,none⟩) C.l0.length C.l0.length,.int .i64 0,.int .i64 0,.int .i64 0,.int .i64 0,.int .i64 0] 72)
    have h10:=heap_alloc_new v4 (.cells #[.slice C.A0 C.l0.length C.c0,.slice C.A1 C.l1.length C.c1,.slice C.A2 C.l2.length C.c2,.slice C.A3 C.l3.length C.c3,.map (some (v2.heap.size)),.slice (some ⟨v1.heap.size,0,none⟩) C.l0.length C.l0.length,.int .i64 0,.int .i64 0,.int .i64 0,.int .i64 0,.int .i64 0] 72)
    have hV:=hV.call (below_alloc (Below.refl _ _) (.cells #[.slice C.A0 C.l0.length C.c0,.slice C.A1 C.l1.length C.c1,.slice C.A2 C.l2.length C.c2,.slice C.A3 C.l3.length C.c3,.map (some (v2.heap.size)),.slice (some ⟨v1.heap.size,0,none⟩) C.l0.length C.l0.length,.int .i64 0,.int .i64 0,.int .i64 0,.int .i64 0,.int .i64 0] 72))
    generalize (v4.alloc (.cells #[.slice C.A0 C.l0.length C.c0,.slice C.A1 C.l1.length C.c1,.slice C.A2 C.l2.length C.c2,.slice C.A3 C.l3.length C.c3,.map (some (v2.heap.size)),.slice (some ⟨v1.heap.size,0,none⟩) C.l0.length C.l0.length,.int .i64 0,.int .i64 0,.int .i64 0,.int .i64 0,.int .i64 0] 72))=v5 at hV h1 h8 h10 h11 ⊢
    refine hK.out _ _ ⟨(blk_cell hV.k0 0),(blk_cell hV.k0 1),(blk_cell hV.k0 2),(blk_cell hV.k0 3)⟩ (fun hHeld=>?_)
    clear hK K
    refine norm_ (a':=?_) ?_ ?_
    rotate_left
    ·show Act.put _ (some 19) _=_
     simp only [Act.put,zA_,zB_,zC_,i64_w]
     rfl
    exact norm_ (by simp only [putAll,Act.put,List.setIfInBounds_toArray,List.set_cons_zero,List.set_cons_succ]) (hCont (v2.heap.size,v1.heap.size,v4.heap.size,v0.heap.size) _ ⟨hV,h1,h8,h10,h11,g1,g8,g10,g11⟩)
 rintro ⟨m,lb,lg,bl⟩ wz ⟨hV,hm,hlb,hlg,hbl,gm,glb,glg,gbl⟩
 have hHeld:wz.cell? ⟨w.heap.size,0,none⟩=some (.slice C.A0 C.l0.length C.c0)∧wz.cell? ⟨w.heap.size,1,none⟩=some (.slice C.A1 C.l1.length C.c1)∧wz.cell? ⟨w.heap.size,2,none⟩=some (.slice C.A2 C.l2.length C.c2)∧wz.cell? ⟨w.heap.size,3,none⟩=some (.slice C.A3 C.l3.length C.c3):=⟨(blk_cell hV.k0 0),(blk_cell hV.k0 1),(blk_cell hV.k0 2),(blk_cell hV.k0 3)⟩
 have zb:wz.cell? ⟨bl,0,none⟩=some (.pointer none):=blk_cell hbl 0
 have fb:=blk_frozen hbl 0
 refine norm_ (a':=?_) ?_ ?_
 rotate_left
 ·simp only [putAll,Act.put,List.setIfInBounds_toArray,List.set_cons_zero,List.set_cons_succ]
  rfl
 refine last_ (i:=12) (N:=none) (bl_ 13 8191) rfl rfl (by kernel_rfl) (by decide) (fun K hK=>?_)
 refine skip_ (w1:=wz.setCell ⟨bl,0,none⟩ (.pointer (some ⟨lg,0,none⟩))) (by rfl) rfl (by go_simp) ?_
 refine hK.out _ _ ?_
 clear hK K
 refine done_ (by kernel_rfl) ?_
 have HS:Aside0 (VS C w m lb lg bl (L0 C.l0.length) (wz.setCell ⟨bl,0,none⟩ (.pointer (some ⟨lg,0,none⟩)))):=⟨VS.start hV hm hlb hlg hbl gm glb glg gbl⟩
 clear hV hm hlb hlg hbl gm glb glg gbl zb fb
 generalize wz.setCell ⟨bl,0,none⟩ (.pointer (some ⟨lg,0,none⟩))=x0 at HS ⊢
 have yp:=HS.out.ptr
 have y5:x0.cell? ⟨lg,5,none⟩=some (.slice (some ⟨lb,0,none⟩) C.l0.length C.l0.length):=blk_cell HS.out.h.lk 5
 have ya:=HS.out.leftAt 0 (by omega)
 have fa:=blk_frozen HS.out.h.lf 0
 go_wp2
 have HS:=Aside0.mk (HS.out.setLeft 0 true)
 generalize x0.setCell ⟨lb,0,none⟩ (.bool true)=x1 at HS ⊢
 clear yp y5 ya fa
 have HT0:Aside0 (TabOk { L0 C.l0.length with left:=(L0 C.l0.length).left.set 0 true }):=⟨by
  intro b t e
  have e':(if 0=b then some (([],0):St) else none)=some t:=e
  split at e'
  ·cases e'; exact ⟨⟨by simp,by simp⟩,by simp⟩
  ·cases e'⟩
 obtain ⟨μ,hμ⟩:=exists_least (Inv C cell pt w m lb lg bl r)
 have HM:=Aside0.mk hμ
 clear hμ
 go_loopw [26] (fun _ w'=>∃ f,Inv C cell pt w m lb lg bl r f w') (fun _ w'=>μ w')
 case atStart=>exact ⟨f,_,HS.out,HT0.out,HRR.out⟩
 case round =>
  clear HS HT0 HRR
  obtain ⟨f0,hf0⟩:=hrel
  obtain ⟨⟨L,hS,hT,hrun⟩,-⟩:=HM.out _ _ hf0
  have HS:=Aside0.mk hS
  have HT:=Aside0.mk hT
  have HRN:=Aside0.mk hrun
  clear hS hT hrun hf0
  go_wp2_with fail
  refine start_ (n:=10) (S:=fun w'=>w'.cell? ⟨bl,0,none⟩=some (.pointer (some ⟨lg,0,none⟩))∧w'.cell? ⟨lg,6,none⟩=some (.int .i64 (L.at_:Nat))∧w'.cell? ⟨lg,5,none⟩=some (.slice (some ⟨lb,0,none⟩) C.l0.length C.l0.length)) (ds:=[]) #[false,false,false,false,false,false,false,false,false,false] (by kernel_rfl) rfl rfl ⟨HS.out.ptr,(blk_cell HS.out.h.lk 6),(blk_cell HS.out.h.lk 5)⟩ (fun hHeld=>?_)
  have HS:=Aside0.mk HS.out.drew
  generalize World.drew wr=y0 at HS hHeld ⊢
  refine take_ (i:=0) (N:=some 26) (v:=?_) (a':=?_) (bl_ 10 1) rfl rfl (by kernel_rfl) (fun _ _ _ h=>pq (by decide) (by decide) (by decide) h) (Or.inl ⟨by rfl,?_⟩) hHeld ?_ ?_
  rotate_left
  ·rintro w' ⟨s0,s1,s2⟩
   go_simp
   with_reducible rfl
  rotate_left
  ·simp only [Act.put,zA_,zB_,zC_,i64_w]
   rfl
  refine pure_ (i:=1) (N:=some 27) (v:=?_) (a':=?_) (bl_ 10 3) rfl rfl (by kernel_rfl) (fun _ _ _ h=>pq (by decide) (by decide) (by decide) h) (Or.inl ⟨by rfl,?_⟩) ?_ ?_
  rotate_left
  ·intro w'
   go_simp
   with_reducible rfl
  rotate_left
  ·simp only [Act.put,zA_,zB_,zC_,i64_w]
   rfl
  refine pure_ (i:=2) (N:=some 28) (v:=?_) (a':=?_) (bl_ 10 7) rfl rfl (by kernel_rfl) (fun _ _ _ h=>pq (by decide) (by decide) (by decide) h) (Or.inl ⟨by rfl,?_⟩) ?_ ?_
  rotate_left
  ·intro w'
   go_simp
   with_reducible rfl
  rotate_left
  ·simp only [Act.put,zA_,zB_,zC_,i64_w]
   rfl
  refine take_ (i:=3) (N:=some 29) (v:=?_) (a':=?_) (bl_ 10 15) rfl rfl (by kernel_rfl) (fun _ _ _ h=>pq (by decide) (by decide) (by decide) h) (Or.inl ⟨by rfl,?_⟩) hHeld ?_ ?_
  rotate_left
  ·rintro w' ⟨s0,s1,s2⟩
   go_simp
   with_reducible rfl
  rotate_left
  ·simp only [Act.put,zA_,zB_,zC_,i64_w]
   rfl
  refine take_ (i:=4) (N:=some 30) (v:=?_) (a':=?_) (bl_ 10 31) rfl rfl (by kernel_rfl) (fun _ _ _ h=>pq (by decide) (by decide) (by decide) h) (Or.inl ⟨by rfl,?_⟩) hHeld ?_ ?_
  rotate_left
  ·rintro w' ⟨s0,s1,s2⟩
   go_simp
   with_reducible rfl
  rotate_left
  ·simp only [Act.put,zA_,zB_,zC_,i64_w]
   rfl
  refine pure_ (i:=5) (N:=some 31) (v:=?_) (a':=?_) (bl_ 10 63) rfl rfl (by kernel_rfl) (fun _ _ _ h=>pq (by decide) (by decide) (by decide) h) (Or.inl ⟨by rfl,?_⟩) ?_ ?_
  rotate_left
  ·intro w'
   go_simp
   with_reducible rfl
  rotate_left
  ·simp only [Act.put,zA_,zB_,zC_,i64_w]
   rfl
  refine pure_ (i:=6) (N:=some 32) (v:=?_) (a':=?_) (bl_ 10 127) rfl rfl (by kernel_rfl) (fun _ _ _ h=>pq (by decide) (by decide) (by decide) h) (Or.inl ⟨by rfl,?_⟩) ?_ ?_
  rotate_left
  ·intro w'
   go_simp
   with_reducible rfl
  rotate_left
  ·simp only [Act.put,zA_,zB_,zC_,i64_w]
   rfl
  refine take_ (i:=7) (N:=some 33) (v:=?_) (a':=?_) (bl_ 10 255) rfl rfl (by kernel_rfl) (fun _ _ _ h=>pq (by decide) (by decide) (by decide) h) (Or.inl ⟨by rfl,?_⟩) hHeld ?_ ?_
  rotate_left
  ·rintro w' ⟨s0,s1,s2⟩
   go_simp
   with_reducible rfl
  rotate_left
  ·simp only [Act.put,zA_,zB_,zC_,i64_w]
   rfl
  refine pure_ (i:=8) (N:=some 34) (v:=?_) (a':=?_) (bl_ 10 511) rfl rfl (by kernel_rfl) (fun _ _ _ h=>pq (by decide) (by decide) (by decide) h) (Or.inl ⟨by rfl,?_⟩) ?_ ?_
  rotate_left
  ·intro w'
   go_simp
   with_reducible rfl
  rotate_left
  ·simp only [Act.put,zA_,zB_,zC_,i64_w]
   rfl
  refine pure_ (i:=9) (N:=some 35) (v:=?_) (a':=?_) (bl_ 10 1023) rfl rfl (by kernel_rfl) (fun _ _ _ h=>pq (by decide) (by decide) (by decide) h) (Or.inl ⟨by rfl,?_⟩) ?_ ?_
  rotate_left
  ·intro w'
   go_simp
   with_reducible rfl
  rotate_left
  ·simp only [Act.put,zA_,zB_,zC_,i64_w]
   rfl
  refine done_ (by kernel_rfl) ?_
  by_cases hlt:L.at_ < C.l0.length
  ·have HLT:=Aside0.mk hlt
   go_wp2_with fail
   refine start_ (n:=8) (S:=fun w'=>w'.cell? ⟨bl,0,none⟩=some (.pointer (some ⟨lg,0,none⟩))∧w'.cell? ⟨lg,6,none⟩=some (.int .i64 (L.at_:Nat))) (ds:=[7]) #[false,false,false,false,false,false,false,false] (by kernel_rfl) rfl rfl ⟨HS.out.ptr,(blk_cell HS.out.h.lk 6)⟩ (fun hHeld=>?_)
   have HS:=Aside0.mk HS.out.drew
   generalize World.drew y0=y1 at HS hHeld ⊢
   have f7:=blk_frozen HS.out.h.lk 7
   have z7:y1.cell? ⟨lg,7,none⟩=some (.int .i64 (L.word:Nat)):=blk_cell HS.out.h.lk 7
   refine take_ (i:=0) (N:=some 36) (v:=?_) (a':=?_) (bl_ 8 1) rfl rfl (by kernel_rfl) (fun _ _ _ h=>pq (by decide) (by decide) (by decide) h) (Or.inl ⟨by rfl,?_⟩) hHeld ?_ ?_
   rotate_left
   ·rintro w' ⟨s0,s1⟩
    go_simp
    with_reducible rfl
   rotate_left
   ·simp only [Act.put,zA_,zB_,zC_,i64_w]
    rfl
   refine take_ (i:=1) (N:=some 37) (v:=?_) (a':=?_) (bl_ 8 3) rfl rfl (by kernel_rfl) (fun _ _ _ h=>pq (by decide) (by decide) (by decide) h) (Or.inl ⟨by rfl,?_⟩) hHeld ?_ ?_
   rotate_left
   ·rintro w' ⟨s0,s1⟩
    go_simp
    with_reducible rfl
   rotate_left
   ·simp only [Act.put,zA_,zB_,zC_,i64_w]
    rfl
   refine pure_ (i:=2) (N:=some 38) (v:=?_) (a':=?_) (bl_ 8 7) rfl rfl (by kernel_rfl) (fun _ _ _ h=>pq (by decide) (by decide) (by decide) h) (Or.inl ⟨by rfl,?_⟩) ?_ ?_
   rotate_left
   ·intro w'
    go_simp
    with_reducible rfl
   rotate_left
   ·simp only [Act.put,zA_,zB_,zC_,i64_w]
    rfl
   refine pure_ (i:=3) (N:=some 39) (v:=?_) (a':=?_) (bl_ 8 15) rfl rfl (by kernel_rfl) (fun _ _ _ h=>pq (by decide) (by decide) (by decide) h) (Or.inl ⟨by rfl,?_⟩) ?_ ?_
   rotate_left
   ·intro w'
    go_simp
    with_reducible rfl
   rotate_left
   ·simp only [Act.put,zA_,zB_,zC_,i64_w]
    rfl
   refine take_ (i:=4) (N:=some 40) (v:=?_) (a':=?_) (bl_ 8 31) rfl rfl (by kernel_rfl) (fun _ _ _ h=>pq (by decide) (by decide) (by decide) h) (Or.inl ⟨by rfl,?_⟩) hHeld ?_ ?_
   rotate_left
   ·rintro w' ⟨s0,s1⟩
    go_simp
    with_reducible rfl
   rotate_left
   ·simp only [Act.put,zA_,zB_,zC_,i64_w]
    rfl
   refine pure_ (i:=5) (N:=some 41) (v:=?_) (a':=?_) (bl_ 8 63) rfl rfl (by kernel_rfl) (fun _ _ _ h=>pq (by decide) (by decide) (by decide) h) (Or.inl ⟨by rfl,?_⟩) ?_ ?_
   rotate_left
   ·intro w'
    go_simp
    with_reducible rfl
   rotate_left
   ·simp only [Act.put,zA_,zB_,zC_,i64_w]
    rfl
   refine pure_ (i:=6) (N:=some 42) (v:=?_) (a':=?_) (bl_ 8 127) rfl rfl (by kernel_rfl) (fun _ _ _ h=>pq (by decide) (by decide) (by decide) h) (Or.inl ⟨by rfl,?_⟩) ?_ ?_
   rotate_left
   ·intro w'
    go_simp
    with_reducible rfl
   rotate_left
   ·simp only [Act.put,zA_,zB_,zC_,i64_w]
    rfl
   refine last_ (i:=7) (N:=none) (bl_ 8 255) rfl rfl (by kernel_rfl) (by decide) (fun K hK=>?_)
   refine skip_ (w1:=y1.setCell ⟨lg,7,none⟩ (.int .i64 (L.at_:Nat))) (by rfl) rfl (by go_simp) ?_
   refine hK.out _ _ ?_
   clear hK K
   refine done_ (by kernel_rfl) ?_
   have HS:Aside0 (VS C w m lb lg bl { L with word:=L.at_ } (y1.setCell ⟨lg,7,none⟩ (.int .i64 (L.at_:Nat)))):=Aside0.mk (HS.out.set 7 _ rfl rfl rfl)
   generalize y1.setCell ⟨lg,7,none⟩ (.int .i64 (L.at_:Nat))=y2 at HS ⊢
   clear f7 z7
   obtain ⟨b0,hb0⟩:∃ b,b=L.left.getD L.at_ false:=⟨_,rfl⟩
   have hla:y2.cell? ⟨lb,L.at_,none⟩=some (.bool b0):=by rw [hb0]; exact HS.out.leftAt L.at_ HLT.out
   have HB0:=Aside0.mk hb0
   clear hb0
   go_wp2_with fail
   refine start_ (n:=11) (S:=fun w'=>w'.cell? ⟨bl,0,none⟩=some (.pointer (some ⟨lg,0,none⟩))∧w'.cell? ⟨lg,5,none⟩=some (.slice (some ⟨lb,0,none⟩) C.l0.length C.l0.length)∧w'.cell? ⟨lg,7,none⟩=some (.int .i64 (L.at_:Nat))∧w'.cell? ⟨lb,L.at_,none⟩=some (.bool b0)) (ds:=[]) #[false,false,false,false,false,false,false,false,false,false,false] (by kernel_rfl) rfl rfl ⟨HS.out.ptr,(blk_cell HS.out.h.lk 5),(blk_cell HS.out.h.lk 7),hla⟩ (fun hHeld=>?_)
   have HS:=Aside0.mk HS.out.drew
   generalize World.drew y2=y3 at HS hHeld ⊢
   refine take_ (i:=0) (N:=some 43) (v:=?_) (a':=?_) (bl_ 11 1) rfl rfl (by kernel_rfl) (fun _ _ _ h=>pq (by decide) (by decide) (by decide) h) (Or.inl ⟨by rfl,?_⟩) hHeld ?_ ?_
   rotate_left
   ·rintro w' ⟨s0,s1,s2,s3⟩
    go_simp
    with_reducible rfl
   rotate_left
   ·simp only [Act.put,zA_,zB_,zC_,i64_w]
    rfl
   refine pure_ (i:=1) (N:=some 44) (v:=?_) (a':=?_) (bl_ 11 3) rfl rfl (by kernel_rfl) (fun _ _ _ h=>pq (by decide) (by decide) (by decide) h) (Or.inl ⟨by rfl,?_⟩) ?_ ?_
   rotate_left
   ·intro w'
    go_simp
    with_reducible rfl
   rotate_left
   ·simp only [Act.put,zA_,zB_,zC_,i64_w]
    rfl
   refine pure_ (i:=2) (N:=some 45) (v:=?_) (a':=?_) (bl_ 11 7) rfl rfl (by kernel_rfl) (fun _ _ _ h=>pq (by decide) (by decide) (by decide) h) (Or.inl ⟨by rfl,?_⟩) ?_ ?_
   rotate_left
   ·intro w'
    go_simp
    with_reducible rfl
   rotate_left
   ·simp only [Act.put,zA_,zB_,zC_,i64_w]
    rfl
   refine take_ (i:=3) (N:=some 46) (v:=?_) (a':=?_) (bl_ 11 15) rfl rfl (by kernel_rfl) (fun _ _ _ h=>pq (by decide) (by decide) (by decide) h) (Or.inl ⟨by rfl,?_⟩) hHeld ?_ ?_
   rotate_left
   ·rintro w' ⟨s0,s1,s2,s3⟩
    go_simp
    with_reducible rfl
   rotate_left
   ·simp only [Act.put,zA_,zB_,zC_,i64_w]
    rfl
   refine take_ (i:=4) (N:=some 47) (v:=?_) (a':=?_) (bl_ 11 31) rfl rfl (by kernel_rfl) (fun _ _ _ h=>pq (by decide) (by decide) (by decide) h) (Or.inl ⟨by rfl,?_⟩) hHeld ?_ ?_
   rotate_left
   ·rintro w' ⟨s0,s1,s2,s3⟩
    go_simp
    with_reducible rfl
   rotate_left
   ·simp only [Act.put,zA_,zB_,zC_,i64_w]
    rfl
   refine pure_ (i:=5) (N:=some 48) (v:=?_) (a':=?_) (bl_ 11 63) rfl rfl (by kernel_rfl) (fun _ _ _ h=>pq (by decide) (by decide) (by decide) h) (Or.inl ⟨by rfl,?_⟩) ?_ ?_
   rotate_left
   ·intro w'
    go_simp
    with_reducible rfl
   rotate_left
   ·simp only [Act.put,zA_,zB_,zC_,i64_w]
    rfl
   refine pure_ (i:=6) (N:=some 49) (v:=?_) (a':=?_) (bl_ 11 127) rfl rfl (by kernel_rfl) (fun _ _ _ h=>pq (by decide) (by decide) (by decide) h) (Or.inl ⟨by rfl,?_⟩) ?_ ?_
   rotate_left
   ·intro w'
    go_simp
    with_reducible rfl
   rotate_left
   ·simp only [Act.put,zA_,zB_,zC_,i64_w]
    rfl
   refine take_ (i:=7) (N:=some 50) (v:=?_) (a':=?_) (bl_ 11 255) rfl rfl (by kernel_rfl) (fun _ _ _ h=>pq (by decide) (by decide) (by decide) h) (Or.inl ⟨by rfl,?_⟩) hHeld ?_ ?_
   rotate_left
   ·rintro w' ⟨s0,s1,s2,s3⟩
    go_simp
    with_reducible rfl
   rotate_left
   ·simp only [Act.put,zA_,zB_,zC_,i64_w]
    rfl
   refine pure_ (i:=8) (N:=some 51) (v:=?_) (a':=?_) (bl_ 11 511) rfl rfl (by kernel_rfl) (fun _ _ _ h=>pq (by decide) (by decide) (by decide) h) (Or.inl ⟨by rfl,?_⟩) ?_ ?_
   rotate_left
   ·intro w'
    go_simp
    with_reducible rfl
   rotate_left
   ·simp only [Act.put,zA_,zB_,zC_,i64_w]
    rfl
   refine take_ (i:=9) (N:=some 52) (v:=?_) (a':=?_) (bl_ 11 1023) rfl rfl (by kernel_rfl) (fun _ _ _ h=>pq (by decide) (by decide) (by decide) h) (Or.inl ⟨by rfl,?_⟩) hHeld ?_ ?_
   rotate_left
   ·rintro w' ⟨s0,s1,s2,s3⟩
    go_simp
    with_reducible rfl
   rotate_left
   ·simp only [Act.put,zA_,zB_,zC_,i64_w]
    rfl
   refine pure_ (i:=10) (N:=some 53) (v:=?_) (a':=?_) (bl_ 11 2047) rfl rfl (by kernel_rfl) (fun _ _ _ h=>pq (by decide) (by decide) (by decide) h) (Or.inl ⟨by rfl,?_⟩) ?_ ?_
   rotate_left
   ·intro w'
    go_simp
    with_reducible rfl
   rotate_left
   ·simp only [Act.put,zA_,zB_,zC_,i64_w]
    rfl
   refine done_ (by kernel_rfl) ?_
   clear hla
   cases b0 with
   | true =>
    have hleft:L.left.getD L.at_ false=true:=HB0.out.symm
    have hN:∃ k,μ wr=k+1∧(∀ x,looks C.l0.length cell L.take L.at_ (pt L.at_).1 (pt L.at_).2.1 (pt L.at_).2.2=.error x→r=.error (x,L.at_))∧∀ L',looks C.l0.length cell L.take L.at_ (pt L.at_).1 (pt L.at_).2.1 (pt L.at_).2.2=.ok L'→run C.l0.length cell pt k L'=some r:=by
     have h:=HRN.out
     cases hk:μ wr with
     | zero=>rw [hk] at h; cases h
     | succ k =>
      rw [hk] at h
      unfold run at h
      rw [if_pos hlt,if_pos hleft] at h
      exact ⟨k,rfl,fun x hx=>by rw [hx] at h; exact (Option.some.inj h).symm,fun L' hx=>by rw [hx] at h; exact h⟩
    obtain ⟨k,hk,hE,hK⟩:=hN
    have HK:=Aside0.mk hk
    have HE:=Aside0.mk hE
    have HKK:=Aside0.mk hK
    clear hk hE hK hleft
    have hla:y3.cell? ⟨lb,L.at_,none⟩=some (.bool (L.left.getD L.at_ false)):=HS.out.leftAt L.at_ HLT.out
    go_wp2_with fail
    refine start_ (n:=10) (S:=fun w'=>w'.cell? ⟨bl,0,none⟩=some (.pointer (some ⟨lg,0,none⟩))∧w'.cell? ⟨lg,5,none⟩=some (.slice (some ⟨lb,0,none⟩) C.l0.length C.l0.length)∧w'.cell? ⟨lg,7,none⟩=some (.int .i64 (L.at_:Nat))) (ds:=[9]) #[false,false,false,false,false,false,false,false,false,false] (by kernel_rfl) rfl rfl ⟨HS.out.ptr,(blk_cell HS.out.h.lk 5),(blk_cell HS.out.h.lk 7)⟩ (fun hHeld=>?_)
    have HS:=Aside0.mk HS.out.drew
    generalize World.drew y3=y4 at HS hHeld ⊢
    have fz:=blk_frozen HS.out.h.lf L.at_
    have zl:y4.cell? ⟨lb,L.at_,none⟩=some (.bool (L.left.getD L.at_ false)):=HS.out.leftAt L.at_ HLT.out
    refine take_ (i:=0) (N:=some 61) (v:=?_) (a':=?_) (bl_ 10 1) rfl rfl (by kernel_rfl) (fun _ _ _ h=>pq (by decide) (by decide) (by decide) h) (Or.inl ⟨by rfl,?_⟩) hHeld ?_ ?_
    rotate_left
    ·rintro w' ⟨s0,s1,s2⟩
     go_simp
     with_reducible rfl
    rotate_left
    ·simp only [Act.put,zA_,zB_,zC_,i64_w]
     rfl
    refine pure_ (i:=1) (N:=some 62) (v:=?_) (a':=?_) (bl_ 10 3) rfl rfl (by kernel_rfl) (fun _ _ _ h=>pq (by decide) (by decide) (by decide) h) (Or.inl ⟨by rfl,?_⟩) ?_ ?_
    rotate_left
    ·intro w'
     go_simp
     with_reducible rfl
    rotate_left
    ·simp only [Act.put,zA_,zB_,zC_,i64_w]
     rfl
    refine pure_ (i:=2) (N:=some 63) (v:=?_) (a':=?_) (bl_ 10 7) rfl rfl (by kernel_rfl) (fun _ _ _ h=>pq (by decide) (by decide) (by decide) h) (Or.inl ⟨by rfl,?_⟩) ?_ ?_
    rotate_left
    ·intro w'
     go_simp
     with_reducible rfl
    rotate_left
    ·simp only [Act.put,zA_,zB_,zC_,i64_w]
     rfl
    refine take_ (i:=3) (N:=some 64) (v:=?_) (a':=?_) (bl_ 10 15) rfl rfl (by kernel_rfl) (fun _ _ _ h=>pq (by decide) (by decide) (by decide) h) (Or.inl ⟨by rfl,?_⟩) hHeld ?_ ?_
    rotate_left
    ·rintro w' ⟨s0,s1,s2⟩
     go_simp
     with_reducible rfl
    rotate_left
    ·simp only [Act.put,zA_,zB_,zC_,i64_w]
     rfl
    refine take_ (i:=4) (N:=some 65) (v:=?_) (a':=?_) (bl_ 10 31) rfl rfl (by kernel_rfl) (fun _ _ _ h=>pq (by decide) (by decide) (by decide) h) (Or.inl ⟨by rfl,?_⟩) hHeld ?_ ?_
    rotate_left
    ·rintro w' ⟨s0,s1,s2⟩
     go_simp
     with_reducible rfl
    rotate_left
    ·simp only [Act.put,zA_,zB_,zC_,i64_w]
     rfl
    refine pure_ (i:=5) (N:=some 66) (v:=?_) (a':=?_) (bl_ 10 63) rfl rfl (by kernel_rfl) (fun _ _ _ h=>pq (by decide) (by decide) (by decide) h) (Or.inl ⟨by rfl,?_⟩) ?_ ?_
    rotate_left
    ·intro w'
     go_simp
     with_reducible rfl
    rotate_left
    ·simp only [Act.put,zA_,zB_,zC_,i64_w]
     rfl
    refine pure_ (i:=6) (N:=some 67) (v:=?_) (a':=?_) (bl_ 10 127) rfl rfl (by kernel_rfl) (fun _ _ _ h=>pq (by decide) (by decide) (by decide) h) (Or.inl ⟨by rfl,?_⟩) ?_ ?_
    rotate_left
    ·intro w'
     go_simp
     with_reducible rfl
    rotate_left
    ·simp only [Act.put,zA_,zB_,zC_,i64_w]
     rfl
    refine take_ (i:=7) (N:=some 68) (v:=?_) (a':=?_) (bl_ 10 255) rfl rfl (by kernel_rfl) (fun _ _ _ h=>pq (by decide) (by decide) (by decide) h) (Or.inl ⟨by rfl,?_⟩) hHeld ?_ ?_
    rotate_left
    ·rintro w' ⟨s0,s1,s2⟩
     go_simp
     with_reducible rfl
    rotate_left
    ·simp only [Act.put,zA_,zB_,zC_,i64_w]
     rfl
    refine pure_ (i:=8) (N:=some 69) (v:=?_) (a':=?_) (bl_ 10 511) rfl rfl (by kernel_rfl) (fun _ _ _ h=>pq (by decide) (by decide) (by decide) h) (Or.inl ⟨by rfl,?_⟩) ?_ ?_
    rotate_left
    ·intro w'
     go_simp
     with_reducible rfl
    rotate_left
    ·simp only [Act.put,zA_,zB_,zC_,i64_w]
     rfl
    refine last_ (i:=9) (N:=none) (bl_ 10 1023) rfl rfl (by kernel_rfl) (by decide) (fun K hK=>?_)
    refine skip_ (w1:=y4.setCell ⟨lb,L.at_,none⟩ (.bool false)) (by rfl) rfl (by go_simp) ?_
    refine hK.out _ _ ?_
    clear hK K
    refine done_ (by kernel_rfl) ?_
    have HS:Aside0 (VS C w m lb lg bl L.take (y4.setCell ⟨lb,L.at_,none⟩ (.bool false))):=Aside0.mk (HS.out.setLeft L.at_ false)
    generalize y4.setCell ⟨lb,L.at_,none⟩ (.bool false)=y5 at HS ⊢
    clear fz zl hla
    go_wp2_with fail
    refine start_ (n:=6) (S:=fun w'=>w'.cell? ⟨bl,0,none⟩=some (.pointer (some ⟨lg,0,none⟩))∧w'.cell? ⟨lg,7,none⟩=some (.int .i64 (L.at_:Nat))) (ds:=[5]) #[false,false,false,false,false,false] (by kernel_rfl) rfl rfl ⟨HS.out.ptr,(blk_cell HS.out.h.lk 7)⟩ (fun hHeld=>?_)
    have HS:=Aside0.mk HS.out.drew
    generalize World.drew y5=y6 at HS hHeld ⊢
    refine take_ (i:=0) (N:=some 70) (v:=?_) (a':=?_) (bl_ 6 1) rfl rfl (by kernel_rfl) (fun _ _ _ h=>pq (by decide) (by decide) (by decide) h) (Or.inl ⟨by rfl,?_⟩) hHeld ?_ ?_
    rotate_left
    ·rintro w' ⟨s0,s1⟩
     go_simp
     with_reducible rfl
    rotate_left
    ·simp only [Act.put,zA_,zB_,zC_,i64_w]
     rfl
    refine take_ (i:=1) (N:=some 71) (v:=?_) (a':=?_) (bl_ 6 3) rfl rfl (by kernel_rfl) (fun _ _ _ h=>pq (by decide) (by decide) (by decide) h) (Or.inl ⟨by rfl,?_⟩) hHeld ?_ ?_
    rotate_left
    ·rintro w' ⟨s0,s1⟩
     go_simp
     with_reducible rfl
    rotate_left
    ·simp only [Act.put,zA_,zB_,zC_,i64_w]
     rfl
    refine pure_ (i:=2) (N:=some 72) (v:=?_) (a':=?_) (bl_ 6 7) rfl rfl (by kernel_rfl) (fun _ _ _ h=>pq (by decide) (by decide) (by decide) h) (Or.inl ⟨by rfl,?_⟩) ?_ ?_
    rotate_left
    ·intro w'
     go_simp
     with_reducible rfl
    rotate_left
    ·simp only [Act.put,zA_,zB_,zC_,i64_w]
     rfl
    refine pure_ (i:=3) (N:=some 73) (v:=?_) (a':=?_) (bl_ 6 15) rfl rfl (by kernel_rfl) (fun _ _ _ h=>pq (by decide) (by decide) (by decide) h) (Or.inl ⟨by rfl,?_⟩) ?_ ?_
    rotate_left
    ·intro w'
     go_simp
     with_reducible rfl
    rotate_left
    ·simp only [Act.put,zA_,zB_,zC_,i64_w]
     rfl
    refine take_ (i:=4) (N:=some 74) (v:=?_) (a':=?_) (bl_ 6 31) rfl rfl (by kernel_rfl) (fun _ _ _ h=>pq (by decide) (by decide) (by decide) h) (Or.inl ⟨by rfl,?_⟩) hHeld ?_ ?_
    rotate_left
    ·rintro w' ⟨s0,s1⟩
     go_simp
     with_reducible rfl
    rotate_left
    ·simp only [Act.put,zA_,zB_,zC_,i64_w]
     rfl
    refine last_ (i:=5) (N:=some 75) (bl_ 6 63) rfl rfl (by kernel_rfl) (by decide) (fun K hK=>?_)
    refine goesE_ Tryd.func26 (by kernel_rfl) rfl #[.pointer (some ⟨lg,0,none⟩),.int .i64 (L.at_:Nat)] (by rfl) rfl rfl (by (try simp only [List.map_toArray,List.map_cons,List.map_nil]); first|done|rfl) ?_
    refine (looks_calls w C cell HC.out lg m lb L.take HT.out L.at_ HLT.out _ _ _ (HPP.out _ HLT.out) (HOO.out _ HLT.out) _ HS.out.h).mono ?_
    rintro e w6 ⟨hk,L1,hH,hw,hr⟩
    have HS1:=Aside0.mk (HS.out.keep hk hH)
    rcases hr with ⟨hl,rfl⟩|⟨x,hl,rfl⟩
    rotate_left
    ·refine Or.inr ⟨_,rfl,?_⟩
     obtain rfl:=HE.out x hl
     refine leaves_cons (f:=25) (args:=#[.pointer (some ⟨bl,0,none⟩),.pointer (some ⟨w.heap.size+1,0,none⟩),.pointer (some ⟨w.heap.size+1+1,0,none⟩),.pointer (some ⟨w.heap.size+1+1+1,0,none⟩)]) (by simp) (by simp [go_sem]) ?_
     refine (door_caught lg bl _ _ _ x (L1.word:Nat) _ _ _ _ _ [] _ HS1.out.ptr (blk_cell HS1.out.h.lk 7) HS1.out.v.k1 HS1.out.v.k2 HS1.out.v.k3 (blk_ne HS1.out.p HS1.out.v.k1 (by decide)) (blk_ne HS1.out.h.lk HS1.out.v.k1 (by decide)) w.heap.size HS1.out.v.b.size (by omega) (by omega) (by omega)).mono ?_
     rintro e u' w'' ⟨rfl,rfl,k1,k2,k3,kb⟩
     exact ⟨_,res_cells k1 k2 k3 _ rfl rfl rfl,by rw [hw]; rfl,HS1.out.v.b.trans kb⟩
    refine Or.inl ⟨_,rfl,?_⟩
    have HL1:=Aside0.mk hl
    have HT1:=Aside0.mk (looks_ok (L:=L.take) HT.out (HOO.out _ HLT.out).2.1 (fun h=>HC.out.kind _ ((HOO.out _ HLT.out).2.2.1 (Or.inl h))) hl).1
    clear hl hw hH hk
    refine hK.out _ _ ?_
    clear hK K
    refine norm_ (a':=?_) ?_ ?_
    rotate_left
    ·show Act.put _ (some 75) _=_
     simp only [Act.put,zA_,zB_,zC_,i64_w]
     rfl
    refine done_ (by kernel_rfl) ?_
    go_wp2_with fail
    go_roundw
    case rel=>exact ⟨k,L1,HS1.out,HT1.out,HKK.out L1 HL1.out⟩
    case measure =>
     have:=(HM.out _ k ⟨L1,HS1.out,HT1.out,HKK.out L1 HL1.out⟩).2
     have h2:=HK.out
     show μ _ < μ wr
     omega
   | false =>
    have hleft:¬ L.left.getD L.at_ false=true:=by rw [← HB0.out]; simp
    obtain ⟨k,hk,hN⟩:∃ k,μ wr=k+1∧run C.l0.length cell pt k L.skip=some r:=by
     have h:=HRN.out
     cases hk:μ wr with
     | zero=>rw [hk] at h; cases h
     | succ k =>
      rw [hk] at h
      unfold run at h
      rw [if_pos hlt,if_neg hleft] at h
      exact ⟨k,rfl,h⟩
    have HK:=Aside0.mk hk
    have HN:=Aside0.mk hN
    clear hk hN hleft hlt
    have yp:=HS.out.ptr
    have y6:y3.cell? ⟨lg,6,none⟩=some (.int .i64 (L.at_:Nat)):=blk_cell HS.out.h.lk 6
    have f6:=blk_frozen HS.out.h.lk 6
    have e8:=wrap_succ L.at_ (by have:=HLT.out; omega)
    go_wp2
    have HS:=Aside0.mk (HS.out.set (L':=L.skip) 6 (.int .i64 ((L.at_:Int)+1)) rfl rfl rfl)
    go_roundw
    case rel=>exact ⟨k,L.skip,HS.out,HT.out,HN.out⟩
    case measure =>
     have:=(HM.out _ k ⟨L.skip,HS.out,HT.out,HN.out⟩).2
     have h2:=HK.out
     show μ _ < μ wr
     omega
  ·have hrL:r=.ok L:=by
    have h:=HRN.out
    cases hk:μ wr with
    | zero=>rw [hk] at h; cases h
    | succ k =>
     rw [hk] at h
     unfold run at h
     rw [if_neg hlt] at h
     exact (Option.some.inj h).symm
   subst hrL
   have y8:y0.cell? ⟨lg,8,none⟩=some (.int .i64 (L.stack:Nat)):=blk_cell HS.out.h.lk 8
   have y9:y0.cell? ⟨lg,9,none⟩=some (.int .i64 (L.rounds:Nat)):=blk_cell HS.out.h.lk 9
   have y10:y0.cell? ⟨lg,10,none⟩=some (.int .i64 (L.kind:Nat)):=blk_cell HS.out.h.lk 10
   have yp:=HS.out.ptr
   have u0:=blk_cell HS.out.v.k1 0; have u1:=blk_cell HS.out.v.k1 1; have u2:=blk_cell HS.out.v.k1 2; have u3:=blk_cell HS.out.v.k2 0; have u4:=blk_cell HS.out.v.k3 0
   have f0:=blk_frozen HS.out.v.k1 0; have f1:=blk_frozen HS.out.v.k1 1; have f2:=blk_frozen HS.out.v.k1 2; have f3:=blk_frozen HS.out.v.k2 0; have f4:=blk_frozen HS.out.v.k3 0
   by_cases hk:L.kind=0
   ·have ck:(((L.kind:Nat):Int) == 0)=true:=by rw [hk]; rfl
    have ho:outOf (.ok L)=(0,0,0,201,0):=if_pos hk
    clear hk
    go_wp2
    have HV:=HS.out.v.set (.int .i64 0) (.int .i64 0) (.int .i64 0) (.int .i64 201) (.int .i64 0)
    refine leaves_cons (f:=25) (args:=#[.pointer (some ⟨bl,0,none⟩),.pointer (some ⟨w.heap.size+1,0,none⟩),.pointer (some ⟨w.heap.size+1+1,0,none⟩),.pointer (some ⟨w.heap.size+1+1+1,0,none⟩)]) (by simp) (by simp [go_sem]) ?_
    refine (door_idle bl _ _ _ _).mono ?_
    rintro e u' w'' ⟨rfl,rfl,rfl⟩
    exact ⟨_,HV.results _ rfl rfl rfl,by rw [ho]; rfl,HV.b⟩
   ·have ck:(((L.kind:Nat):Int) == 0)=false:=by simp; omega
    have ho:outOf (.ok L)=(((L.stack:Nat):Int),((L.rounds:Nat):Int),((L.kind:Nat):Int),0,0):=if_neg hk
    clear hk
    go_wp2
    have HV:=HS.out.v.set (.int .i64 (L.stack:Nat)) (.int .i64 (L.rounds:Nat)) (.int .i64 (L.kind:Nat)) (.int .i64 0) (.int .i64 0)
    refine leaves_cons (f:=25) (args:=#[.pointer (some ⟨bl,0,none⟩),.pointer (some ⟨w.heap.size+1,0,none⟩),.pointer (some ⟨w.heap.size+1+1,0,none⟩),.pointer (some ⟨w.heap.size+1+1+1,0,none⟩)]) (by simp) (by simp [go_sem]) ?_
    refine (door_idle bl _ _ _ _).mono ?_
    rintro e u' w'' ⟨rfl,rfl,rfl⟩
    exact ⟨_,HV.results _ rfl rfl rfl,by rw [ho]; rfl,HV.b⟩
end Go.Proofs.YtcmdjpolgaejoaaDoor.Gd
