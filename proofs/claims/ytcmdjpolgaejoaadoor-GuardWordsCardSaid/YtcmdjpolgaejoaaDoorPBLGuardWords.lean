/- The laws GuardLooks, GuardWords of the program hold, as their cards say: texts put together by a program, 38 of 38. -/
import Derived.Test.YtcmdjpolgaejoaaDoorPB21
import Derived.Test.YtcmdjpolgaejoaaDoorPB35
import Derived.Test.YtcmdjpolgaejoaaDoorRows
import Derived.Test.YtcmdjpolgaejoaaDoorCards
import Derived.Test.YtcmdjpolgaejoaaDoorTie
import Derived.WalkKit
import Derived.ProofKit
import Derived.OpenShut
import Derived.ShutString
import Derived.ChangeOld
import Derived.Below
import Derived.SizedLaws
import Derived.LaidMore
import Derived.Stop.Joined
import Derived.SevenTiedAt
namespace Go.Proofs.YtcmdjpolgaejoaaDoor.guardWords
open Go.ChangeShapes Go.WideShapes Go.ChangeAt Go.RowKit
open Go.ChangeMaps (open_string shut_string)
theorem own:ownKnob Tryd.prog.godebug=none:=by kernel_rfl
theorem laidOut:laidOutB Tryd.prog=true:=by kernel_rfl
set_option maxRecDepth 100000 in
theorem lifted (os:Os) (started:os.Started) (H:Type) (enc:TypeId×Value→H) :
  ReturnsInHanded {} Tryd.checked os 4 .any (fun w args=>(Rows.guardWordsSpec.pre enc Tryd.prog Tryd.f4 [] false w args∧laidMetH Tryd.prog Laid.laid1 w)∧sizedMet enc Tryd.prog Tryd.f4 (OpenSpec.ofChange Rows.guardWordsSpec) false w args)
   (Rows.guardWordsSpec.post enc Tryd.prog Tryd.f4 false true false false):=by
 refine returnsInHanded_of_change_and (C:=Tryd.checked) (X:=fun w _=>laidMetH Tryd.prog Laid.laid1 w) (fun _ _ _ hh h=>h.of_heap hh) own started (by kernel_rfl) Tryd.func4
  (ChangeSpec.witness_shaped (enc:=enc) (C:=Tryd.checked) (os:=os) (X:=fun w _=>laidMetH Tryd.prog Laid.laid1 w) false (World.doorLaid Tryd.prog 400 os) #[.slice none 0 0,.slice none 0 0] 8 rfl (World.shaped_of_RefB (by kernel_rfl) (by kernel_rfl)) (by kernel_rfl) (by kernel_rfl) (by kernel_rfl) (Laid.door_met os _)) ?_
 intro W base args ds gs before hval0 hW _ hsz0 hL _
 have hsz:(DataW.weightsEach Tryd.prog (Tryd.f4.params.toList++Rows.guardWordsSpec.plain.varTypes Tryd.prog) (ds++gs)).all (·≤reachBytes)=true:=hsz0
 have hval:∀ (j:Nat) t v,Tryd.f4.params[j]? = some t→args[j]? = some v→Value.okWide Tryd.prog W .any base t v:=hval0
 have hW':=hW
 obtain ⟨p,q,hA0,hV,rfl,hfz,hnd⟩:=hW
 have hA:DataW.TrodAll enc Tryd.prog W 0 (fun _=>true) true Tryd.f4.params.toList args.toList ds p:=hA0
 rw [Tryd.params4] at hA hval hsz
 obtain ⟨v0,vs0,d0,ds0,p0,q0,hargs,rfl,rfl,h0,r0⟩:=trodAll_cons hA
 obtain ⟨v1,vs1,d1,ds1,p1,q1,rfl,rfl,rfl,h1,r1⟩:=trodAll_cons r0
 obtain ⟨rfl,rfl,rfl⟩:=trodAll_nil r1
 obtain rfl:args=#[v0,v1]:=by cases args; simp_all
 obtain ⟨rfl,rfl⟩:=trodVars_none hV
 have k0:=h0
 have lt0:∀ x∈p0,x.block < W.heap.size:=by obtain ⟨m,hm⟩:=k0; exact DataW.trod_lt m _ _ _ hm
 obtain ⟨a0,len0,cap0,rfl⟩:=okWide_slice Tryd.underlying36 (hval 0 36 v0 rfl rfl)
 obtain ⟨l0,rfl,c0,r0_,g0,z0⟩:=Open.raws Tryd.underlying36 h0 (Open.weight_of hsz (j:=0) (t:=36) rfl rfl)
 have k1:=h1
 have lt1:∀ x∈p1,x.block < W.heap.size:=by obtain ⟨m,hm⟩:=k1; exact DataW.trod_lt m _ _ _ hm
 obtain ⟨a1,len1,cap1,rfl⟩:=okWide_slice Tryd.underlying23 (hval 1 23 v1 rfl rfl)
 obtain ⟨l1,rfl,c1,r1_,g1,z1⟩:=Open.i64s Tryd.underlying23 h1 (Open.weight_of hsz (j:=1) (t:=23) rfl rfl)
 clear hA0 hval0 hsz0 hsz
 refine (Gd.words_calls a0 cap0 l0 a1 cap1 l1 W r0_ c0 r1_ c1 g0 (by omega) (by omega) (Laid.of_laid hL)).mono fun e W' ⟨he,bel⟩=>?_
 subst he
 exact ⟨_,rfl,_,_,_,[],_,[],hW',trodAll_mk1 (shut_bool Tryd.underlying4 _),(trodAll_cons_mk (Below.trod laidOut (by kernel_rfl) (of_decide_eq_true (by kernel_rfl)) k0 bel lt0) (trodAll_cons_mk (Below.trod laidOut (by kernel_rfl) (of_decide_eq_true (by kernel_rfl)) k1 bel lt1) trodAll_mk0)),rfl,bel.frame _,fun h=>by cases h⟩
theorem over:Rows.guardWordsRow.holds Tryd.pinned (OpenSpec.ofChange Rows.guardWordsSpec) :=
 OpenClaim.holds_of_wide 4 Tryd.f4 rfl rfl rfl rfl rfl rfl rfl ⟨rfl,rfl,rfl,rfl,rfl⟩ rfl rfl rfl rfl rfl (by kernel_rfl) Tryd.func4 (by kernel_rfl)
  (of_decide_eq_true (by kernel_rfl)) (by unfold Func.isWrapper; first|(rw [if_pos (by decide +kernel)]; kernel_rfl)|(rw [if_neg (by decide +kernel)]; exact ⟨rfl,rfl⟩))
  (fun os started H enc _=>lifted os started H enc)
theorem proved:Rows.GuardWordsSaid:=over
theorem card:Rows.GuardWordsCardSaid :=
 Claim7.holds_tied_plain_at .later [] [.data] true (true, "7eeb5ad9bb1a349b369487b0bb13a40dee03df188080a4f05619760ca2dbb98c") true
  proved (fun _ h=>by cases h) (by kernel_rfl) (fun _ h=>by cases h) guardWords_row_tie rfl ⟨rfl,rfl⟩ (by kernel_rfl) rfl
  (fun f fn hf hfn=>by
   obtain rfl:f=4:=Option.some.inj ((show Tryd.prog.funcNamed "isthmus/isthmuslaw20.GuardWords"=some 4 by kernel_rfl).symm.trans hf) |>.symm
   obtain rfl:fn=Tryd.f4:=(Option.some.inj (Tryd.func4.symm.trans hfn)).symm
   exact ⟨by kernel_rfl,fun j t ht=>by
    rw [Tryd.params4] at ht
    have hm:t∈[36,23]:=by simpa using Array.mem_of_getElem? ht
    have hall:([36,23].all fun u=>!Tryd.prog.wantsStandIn u)=true:=by kernel_rfl
    exact (show Tryd.prog.wantsStandIn t=false by simpa using List.all_eq_true.1 hall t hm)⟩)
  (by kernel_rfl)
end Go.Proofs.YtcmdjpolgaejoaaDoor.guardWords
namespace Go.Proofs.YtcmdjpolgaejoaaDoor
theorem guardWords_holds:Rows.GuardWordsCardSaid:=guardWords.card
#print axioms guardWords_holds
end Go.Proofs.YtcmdjpolgaejoaaDoor
