/- The laws CodeRights, CodeWords, CodeReads, CodeTurned of the program hold, as their cards say: texts put together by a program, 42 of 44. -/
import Derived.Test.YtnlimplbmncdeaaDoorPA21
import Derived.Test.YtnlimplbmncdeaaDoorPA22
import Derived.Test.YtnlimplbmncdeaaDoorPA26
import Derived.Test.YtnlimplbmncdeaaDoorPA27
import Derived.Test.YtnlimplbmncdeaaDoorPA33
import Derived.Test.YtnlimplbmncdeaaDoorPA36
import Derived.Test.YtnlimplbmncdeaaDoorPA37
import Derived.Test.YtnlimplbmncdeaaDoorPA38
import Derived.Outline
namespace Go.Proofs.YtnlimplbmncdeaaDoor.Code
open Go.RowKit Go.Proofs.YtnlimplbmncdeaaDoorW.PrintWords Go.Proofs.YtnlimplbmncdeaaDoorW.PrintMore Go.Proofs.YtnlimplbmncdeaaDoor.C Go.Proofs.YtnlimplbmncdeaaDoor.PackBits Go.Proofs.YtnlimplbmncdeaaDoor.Sevens Go.Proofs.YtnlimplbmncdeaaDoor.Pack Go.Proofs.YtnlimplbmncdeaaDoor.Lex Go.Proofs.YtnlimplbmncdeaaDoor.Str
theorem enc_len {ws cs : List Int} {ns : List ByteArray} {ks : List Int} (hw : U64 ws) (hc : I64 cs) (hR : rightS ws cs ns ks = true) : (encS ws cs ns ks).length ≤ 800008 ∧ 15 ≤ (encS ws cs ns ks).length := by
 have hn := laidS_len (right_lays hw hc hR)
 unfold encS
 rw [List.length_append, le_len]
 refine ⟨by omega, ?_⟩
 unfold laidS laidT
 have h0 := sv_pos (ws.length : Int)
 have h1 := sv_pos (cs.length : Int)
 have h2 := sv_pos (ns.length : Int)
 have h3 := sv_pos (ks.length : Int)
 simp only [List.length_append, List.length_cons, List.length_nil]
 omega
end Go.Proofs.YtnlimplbmncdeaaDoor.Code
namespace Go.Proofs.YtnlimplbmncdeaaDoor.C
open Go.RowKit Go.Proofs.YtnlimplbmncdeaaDoorW.PrintWords Go.Proofs.YtnlimplbmncdeaaDoorW.PrintLast Go.Proofs.YtnlimplbmncdeaaDoorW.PrintMore
attribute [local go_sem] max2_int min2_int max_two min_two max_three min_three max_four min_four
set_option linter.unusedVariables false
set_option linter.unusedSimpArgs false
set_option maxHeartbeats 8000000 in
set_option maxRecDepth 100000 in
theorem isthmusref18_Decode.calls (k : Nat) (s : ByteArray) (r1 r2 : List Int) (r3 : List ByteArray) (r4 : List Int) (r5 : Int) (w : World) (h : isthmusref18_Decode.f k s = some (r1, r2, r3, r4, r5)) :
  Calls Tryd.prog 21 #[.string s] w fun e w' => ∃ v0_ v1_ v2_ v3_ : Value, e = .returned (.tuple #[.agg #[v0_, v1_, v2_, v3_], .int .i64 r5]) ∧ Kd.R (Kd.int .u64) 33 w' w.heap.size (fun _ => True) v0_ r1 ∧ Kd.R (Kd.int .i64) 3 w' w.heap.size (fun k_ => some k_ ≠ (v3_ : Value).ownBlock) v1_ r2 ∧ Kd.R Kd.string 9 w' w.heap.size (fun _ => True) v2_ r3 ∧ Kd.R (Kd.int .i64) 3 w' w.heap.size (fun k_ => some k_ ≠ (v1_ : Value).ownBlock) v3_ r4 ∧ Below w.heap.size w w' := by
 unfold isthmusref18_Decode.f at h
 have z1 : (w.alloc (.cells #[.slice none 0 0, .slice none 0 0, .slice none 0 0, .slice none 0 0] 26)).heap.size = w.heap.size + 1 := by simp
 have z2 : ((w.alloc (.cells #[.slice none 0 0, .slice none 0 0, .slice none 0 0, .slice none 0 0] 26)).alloc (.cells #[.slice none 0 0, .slice none 0 0, .slice none 0 0, .slice none 0 0] 26)).heap.size = w.heap.size + 1 + 1 := by simp
 have HI := Aside0.mk (show ED w w.heap.size (w.heap.size + 1 + 1) (w.heap.size + 1) s (((w.alloc (.cells #[.slice none 0 0, .slice none 0 0, .slice none 0 0, .slice none 0 0] 26)).alloc (.cells #[.slice none 0 0, .slice none 0 0, .slice none 0 0, .slice none 0 0] 26)).alloc (.cells #[.string s, .int .i64 3, .bool true] 63)) 3 true (.slice none 0 0) (.slice none 0 0) (.slice none 0 0) (.slice none 0 0) [] [] [] [] by
  have g1 := heap_alloc_new (w.alloc (.cells #[.slice none 0 0, .slice none 0 0, .slice none 0 0, .slice none 0 0] 26)) (.cells #[.slice none 0 0, .slice none 0 0, .slice none 0 0, .slice none 0 0] 26)
  have g2 := heap_alloc_new ((w.alloc (.cells #[.slice none 0 0, .slice none 0 0, .slice none 0 0, .slice none 0 0] 26)).alloc (.cells #[.slice none 0 0, .slice none 0 0, .slice none 0 0, .slice none 0 0] 26)) (.cells #[.string s, .int .i64 3, .bool true] 63)
  rw [z1] at g1
  rw [z2] at g2
  have gR := heap_alloc_new w (.cells #[.slice none 0 0, .slice none 0 0, .slice none 0 0, .slice none 0 0] 26)
  exact ⟨⟨g2, by omega⟩, blk_below gR (below_alloc (below_alloc (Below.refl _ _) _) _), blk_below g1 (below_alloc (Below.refl _ _) _), ⟨⟨rfl, .inl ⟨rfl, rfl⟩⟩, ⟨rfl, .inl ⟨rfl, rfl⟩⟩, ⟨rfl, .inl ⟨rfl, rfl⟩⟩, ⟨rfl, .inl ⟨rfl, rfl⟩⟩, fun k hk => by simp [Value.ownBlock] at hk⟩, ⟨by omega, by omega, by omega⟩, below_alloc (below_alloc (below_alloc (Below.refl _ _) _) _) _⟩)
 by_cases c3 : (s.size : Int) < 3
 ·rw [if_pos c3] at h
  have hh := h
  clear h
  simp only [Option.some.injEq, Prod.mk.injEq] at hh
  obtain ⟨rfl, rfl, rfl, rfl, rfl⟩ := hh
  have f3 : decide ((s.size : Int) < 3) = true := decide_eq_true c3
  have HB := Aside0.mk (show Below w.heap.size w ((w.alloc (.cells #[.slice none 0 0, .slice none 0 0, .slice none 0 0, .slice none 0 0] 26)).alloc (.cells #[.slice none 0 0, .slice none 0 0, .slice none 0 0, .slice none 0 0] 26)) from below_alloc (below_alloc (Below.refl _ _) _) _)
  have hR : ((w.alloc (.cells #[.slice none 0 0, .slice none 0 0, .slice none 0 0, .slice none 0 0] 26)).alloc (.cells #[.slice none 0 0, .slice none 0 0, .slice none 0 0, .slice none 0 0] 26)).heap[w.heap.size]? = some (.cells #[.slice none 0 0, .slice none 0 0, .slice none 0 0, .slice none 0 0] 26 (0, 0)) := blk_below (heap_alloc_new w _) (below_alloc (Below.refl _ _) _)
  clear HI c3
  go_enter Tryd.func21, Tryd.ntmps21
  go_wp2_with fail
  refine bodyPost_ret (results_ct rfl _ _ w.heap.size 26 #[.slice none 0 0, .slice none 0 0, .slice none 0 0, .slice none 0 0] (0, 0) _ rfl hR Tryd.underlying26 rfl (by kernel_rfl)) rfl ?_
  exact ⟨_, _, _, _, rfl, Kd.R_nil _ _ _ _ _, Kd.R_nil _ _ _ _ _, Kd.R_nil _ _ _ _ _, Kd.R_nil _ _ _ _ _, HB.out⟩
 rw [if_neg c3] at h
 have f3 : decide ((s.size : Int) < 3) = false := decide_eq_false c3
 have f3a : ((3 : Int) ≤ (s.size : Int)) = True := eq_true (by omega)
 by_cases hm : (s.extract 0 3).toList = [73, 67, 49]
 ·rw [if_pos hm] at h
  have hm1 : ((s.extract 0 3).toList == [73, 67, 49]) = true := beq_iff_eq.mpr hm
  have hm2 : ((s.extract 0 3).toList != [73, 67, 49]) = false := by rw [bne, hm1]; rfl
  clear hm z1 z2 c3
  obtain ⟨⟨n1, a1, o1⟩, h1, h⟩ := Option.bind_eq_some_iff.mp h
  obtain ⟨⟨ws, a2, o2⟩, h2, h⟩ := Option.bind_eq_some_iff.mp h
  obtain ⟨⟨n2, a3, o3⟩, h3, h⟩ := Option.bind_eq_some_iff.mp h
  obtain ⟨⟨cs, a4, o4⟩, h4, h⟩ := Option.bind_eq_some_iff.mp h
  obtain ⟨⟨n3, a5, o5⟩, h5, h⟩ := Option.bind_eq_some_iff.mp h
  obtain ⟨⟨ns, a6, o6⟩, h6, h⟩ := Option.bind_eq_some_iff.mp h
  obtain ⟨⟨n4, a7, o7⟩, h7, h⟩ := Option.bind_eq_some_iff.mp h
  obtain ⟨⟨ks, a8, o8⟩, h8, h⟩ := Option.bind_eq_some_iff.mp h
  have H1 := Aside0.mk h1
  have H2 := Aside0.mk h2
  have H3 := Aside0.mk h3
  have H4 := Aside0.mk h4
  have H5 := Aside0.mk h5
  have H6 := Aside0.mk h6
  have H7 := Aside0.mk h7
  have H8 := Aside0.mk h8
  have HH := Aside0.mk h
  clear h1 h2 h3 h4 h5 h6 h7 h8 h
  go_enter Tryd.func21, Tryd.ntmps21
  go_upto_block 0 with (go_at_call 43; (with_reducible refine (len_r HI.out H1.out).mono ?_); rintro e W3 ⟨rfl, hI3, hj3⟩; have HI3 := Aside0.mk hI3; have HJ3 := Aside0.mk hj3; clear hI3 hj3)
  go_cut [7] from 29 to 46 (fun s6 wx => ∃ u0 : Value, Aside0 (ED w w.heap.size (w.heap.size + 1 + 1) (w.heap.size + 1) s wx a2 o2 u0 (.slice none 0 0) (.slice none 0 0) (.slice none 0 0) ws [] [] []))
  case first =>
   go_wp2_with fail
   go_loopw [7] (fun v w' => ∃ (i j : Nat) (at1 : Int) (ok1 : Bool) (acc : List Int) (u : Value), v = .int .i64 i ∧ i + j = n1 ∧ Aside0 (rdl (rnum k s) j acc at1 ok1 = some (ws, a2, o2)) ∧ acc.length + j ≤ 32768 ∧ Aside0 (ED w w.heap.size (w.heap.size + 1 + 1) (w.heap.size + 1) s w' at1 ok1 u (.slice none 0 0) (.slice none 0 0) (.slice none 0 0) acc [] [] [])) (fun v _ => n1 - (intOf v).toNat)
   case atStart => exact ⟨0, n1, a1, o1, [], _, rfl, by omega, H2, by simpa using HJ3.out, HI3⟩
   case round =>
    have hN_ := HJ3.out
    clear HI3 H2 HJ3 HI
    obtain ⟨i, j, at1, ok1, acc, u, rfl, hij, HD, hj, HL⟩ := hrel
    have gb := ED.s2 HL.out
    cases j with
    | zero =>
     have hd := Option.some.inj HD.out
     simp only [Prod.mk.injEq] at hd
     obtain ⟨rfl, rfl, rfl⟩ := hd
     have f1 : decide ((i : Int) < (n1 : Int)) = false := decide_eq_false (by omega)
     go_wp2_with fail
     go_meet
     exact ⟨_, HL⟩
    | succ j =>
     have f1 : decide ((i : Int) < (n1 : Int)) = true := decide_eq_true (by omega)
     have fi : wrap64 ((i : Int) + 1) = (i : Int) + 1 := by unfold wrap64; omega
     cases ok1 with
     | false =>
      have hd := Option.some.inj HD.out
      simp only [Prod.mk.injEq] at hd
      obtain ⟨rfl, rfl, rfl⟩ := hd
      go_wp2_with fail
      go_meet
      exact ⟨_, HL⟩
     | true =>
      have hd : (rnum k s at1 true).bind (fun t => rdl (rnum k s) j (acc ++ [t.1]) t.2.1 t.2.2) = some (ws, a2, o2) := HD.out
      obtain ⟨⟨y, at', ok'⟩, hd1, hd2⟩ := Option.bind_eq_some_iff.mp hd
      have NY := Aside0.mk hd2
      have NX := Aside0.mk hd1
      clear hd hd1 hd2 HD
      have HLr := HL
      clear HL
      go_wp2_with fail
      refine start_ (n := 8) (S := fun w' => w'.cell? ⟨w.heap.size + 1, 0, none⟩ = some u) (ds := [7]) #[false, false, false, false, false, false, false, false] (by kernel_rfl) rfl rfl ((ED.cells HLr.out 0 rfl)) (fun hHeld => ?_)
      have HL1 := Aside0.mk (ED.below HLr.out (Below.refl wr.heap.size wr).drew)
      generalize wr.drew = w1 at HL1 hHeld ⊢
      refine pure_ (i := 0) (N := some 40) (v := ?_) (a' := ?_) #[true, false, false, false, false, false, false, false] rfl rfl (by kernel_rfl) (fun _ _ _ h => h) (Or.inl ⟨by rfl, ?_⟩) ?_ ?_
      rotate_left
      ·intro w'
       go_simp
       with_reducible rfl
      rotate_left
      ·simp only [Act.put, List.setIfInBounds_toArray, List.set_cons_zero, List.set_cons_succ, i64_w, i32_w]
       rfl
      refine pure_ (i := 2) (N := some 42) (v := ?_) (a' := ?_) #[true, false, true, false, false, false, false, false] rfl rfl (by kernel_rfl) (fun _ _ _ h => h) (Or.inl ⟨by rfl, ?_⟩) ?_ ?_
      rotate_left
      ·intro w'
       go_simp
       with_reducible rfl
      rotate_left
      ·simp only [Act.put, List.setIfInBounds_toArray, List.set_cons_zero, List.set_cons_succ, i64_w, i32_w]
       rfl
      refine take_ (i := 1) (N := some 41) (v := ?_) (a' := ?_) #[true, true, true, false, false, false, false, false] rfl rfl (by kernel_rfl) (fun _ _ _ h => h) (Or.inl ⟨by rfl, ?_⟩) hHeld ?_ ?_
      rotate_left
      ·intro w' s0
       go_simp
       with_reducible rfl
      rotate_left
      ·simp only [Act.put, List.setIfInBounds_toArray, List.set_cons_zero, List.set_cons_succ, i64_w, i32_w]
       rfl
      refine one_ (i := 3) (N := some 43) #[true, true, true, true, false, false, false, false] rfl rfl (by kernel_rfl) (by decide) (fun K hK => ?_)
      refine goes_ Tryd.func44 (by kernel_rfl) rfl #[.pointer (some ⟨w.heap.size + 1 + 1, 0, none⟩)] (by rfl) rfl rfl (by (try simp only [List.map_toArray, List.map_cons, List.map_nil]); first | done | rfl) ?_
      refine (num_r HL1.out NX.out).mono ?_
      rintro e w2 ⟨rfl, hI2⟩
      refine ⟨_, rfl, ?_⟩
      have HL2 := Aside0.mk hI2
      clear hI2
      refine hK.out _ _ ((ED.cells HL2.out 0 rfl)) (fun hHeld => ?_)
      clear hK K
      refine norm_ (a' := ?_) ?_ ?_
      rotate_left
      ·show Act.put _ (some 43) _ = _
       simp only [Act.put, List.setIfInBounds_toArray, List.set_cons_zero, List.set_cons_succ, i64_w, i32_w]
       rfl
      refine one_ (i := 4) (N := some 44) #[true, true, true, true, true, false, false, false] rfl rfl (by kernel_rfl) (by decide) (fun K hK => ?_)
      refine value_ (w1 := w2.alloc (.cells [Value.int .u64 y].toArray 33)) (v := .slice (some ⟨w2.heap.size, 0, none⟩) 1 1) (by rfl) rfl (by go_simp) ?_
      refine hK.out _ _ ((ED.cells (ED.below HL2.out (below_alloc (Below.refl _ _) _)) 0 rfl)) (fun hHeld => ?_)
      clear hK K
      refine norm_ (a' := ?_) ?_ ?_
      rotate_left
      ·show Act.put _ (some 44) _ = _
       simp only [Act.put, List.setIfInBounds_toArray, List.set_cons_zero, List.set_cons_succ, i64_w, i32_w]
       rfl
      refine one_ (i := 5) (N := some 45) #[true, true, true, true, true, true, false, false] rfl rfl (by kernel_rfl) (by decide) (fun K hK => ?_)
      have hown := HL2.out.2.2.2.1.1
      have hbl : Below w.heap.size w w2 := HL2.out.low
      refine step_append_cells w.heap.size (by rfl) (.tmp 41) (.tmp 44) 22 33 (.int .u64 0) 1 8 rfl Tryd.underlying22 info33 rfl (by omega) (by omega) u acc.length (nums .u64 acc) [Value.int .u64 y] (by rfl) (by rfl) rfl (by intro z_ hz_; obtain rfl := List.mem_singleton.mp hz_; rfl) hown hbl hbl.size (by omega) ?_
      intro v1 w9 ho9 hb9 hg9 hat9
      obtain ⟨g1, c1, rfl, _, _⟩ := ho9.form (by omega)
      have HP := Aside0.mk (ED.push0 HL2.out ho9 hb9 hg9 hat9)
      obtain ⟨hbx, hbS⟩ := ED.box HL2.out hg9 (.inl rfl)
      have hcB := (blk_cell hbx 0).trans (rfl : _ = some u)
      have hfB := blk_frozen hbx 0
      refine hK.out _ _ (hcB) (fun hHeld => ?_)
      clear hK K
      refine norm_ (a' := ?_) ?_ ?_
      rotate_left
      ·show Act.put _ (some 45) _ = _
       simp only [Act.put, List.setIfInBounds_toArray, List.set_cons_zero, List.set_cons_succ, i64_w, i32_w]
       rfl
      refine pure_ (i := 6) (N := some 46) (v := ?_) (a' := ?_) #[true, true, true, true, true, true, true, false] rfl rfl (by kernel_rfl) (fun _ _ _ h => h) (Or.inl ⟨by rfl, ?_⟩) ?_ ?_
      rotate_left
      ·intro w'
       go_simp
       with_reducible rfl
      rotate_left
      ·simp only [Act.put, List.setIfInBounds_toArray, List.set_cons_zero, List.set_cons_succ, i64_w, i32_w]
       rfl
      refine last_ (i := 7) (N := none) #[true, true, true, true, true, true, true, true] rfl rfl (by kernel_rfl) (by decide) (fun K hK => ?_)
      refine skip_ (w1 := w9.setCell ⟨w.heap.size + 1, 0, none⟩ (.slice (some ⟨g1, 0, none⟩) (acc.length + 1) c1)) (by rfl) rfl (by go_simp) ?_
      refine hK.out _ _ ?_
      clear hK K
      refine done_ (by kernel_rfl) ?_
      go_wp2_with fail
      go_roundw
      case rel => exact ⟨i + 1, j, at', ok', acc ++ [y], _, (by first | rfl | (simp only [fi]; rfl) | simp), by omega, NY, (by rw [List.length_append, List.length_singleton]; omega), HP⟩
      case measure => simp [intOf, fi]; try omega
  case rest =>
   obtain ⟨u1, HLa⟩ := hcut
   go_upto_block 2 with (go_at_call 43; (with_reducible refine (len_r HLa.out H3.out).mono ?_); rintro e W5 ⟨rfl, hI5, hj5⟩; have HI5 := Aside0.mk hI5; have HJ5 := Aside0.mk hj5; clear hI5 hj5)
   go_cut [8] from 49 to 67 (fun s6 wx => ∃ u0 : Value, Aside0 (ED w w.heap.size (w.heap.size + 1 + 1) (w.heap.size + 1) s wx a4 o4 u1 u0 (.slice none 0 0) (.slice none 0 0) ws cs [] []))
   case first =>
    go_wp2_with fail
    go_loopw [8] (fun v w' => ∃ (i j : Nat) (at1 : Int) (ok1 : Bool) (acc : List Int) (u : Value), v = .int .i64 i ∧ i + j = n2 ∧ Aside0 (rdl (rzag k s) j acc at1 ok1 = some (cs, a4, o4)) ∧ acc.length + j ≤ 32768 ∧ Aside0 (ED w w.heap.size (w.heap.size + 1 + 1) (w.heap.size + 1) s w' at1 ok1 u1 u (.slice none 0 0) (.slice none 0 0) ws acc [] [])) (fun v _ => n2 - (intOf v).toNat)
    case atStart => exact ⟨0, n2, a3, o3, [], _, rfl, by omega, H4, by simpa using HJ5.out, HI5⟩
    case round =>
     have hN_ := HJ5.out
     clear HI5 H4 HJ5 HLa
     obtain ⟨i, j, at1, ok1, acc, u, rfl, hij, HD, hj, HL⟩ := hrel
     have gb := ED.s2 HL.out
     cases j with
     | zero =>
      have hd := Option.some.inj HD.out
      simp only [Prod.mk.injEq] at hd
      obtain ⟨rfl, rfl, rfl⟩ := hd
      have f1 : decide ((i : Int) < (n2 : Int)) = false := decide_eq_false (by omega)
      go_wp2_with fail
      go_meet
      exact ⟨_, HL⟩
     | succ j =>
      have f1 : decide ((i : Int) < (n2 : Int)) = true := decide_eq_true (by omega)
      have fi : wrap64 ((i : Int) + 1) = (i : Int) + 1 := by unfold wrap64; omega
      cases ok1 with
      | false =>
       have hd := Option.some.inj HD.out
       simp only [Prod.mk.injEq] at hd
       obtain ⟨rfl, rfl, rfl⟩ := hd
       go_wp2_with fail
       go_meet
       exact ⟨_, HL⟩
      | true =>
       have hd : (rzag k s at1 true).bind (fun t => rdl (rzag k s) j (acc ++ [t.1]) t.2.1 t.2.2) = some (cs, a4, o4) := HD.out
       obtain ⟨⟨y, at', ok'⟩, hd1, hd2⟩ := Option.bind_eq_some_iff.mp hd
       have NY := Aside0.mk hd2
       obtain ⟨⟨y0, b0', e0'⟩, hx, hz⟩ := Option.bind_eq_some_iff.mp hd1
       obtain ⟨z, hz1, hz2⟩ := Option.bind_eq_some_iff.mp hz
       simp only [Option.some.injEq, Prod.mk.injEq] at hz2
       obtain ⟨ha_, hb_, hc_⟩ := hz2
       rw [ha_] at hz1
       rw [hb_, hc_] at hx
       clear ha_ hb_ hc_
       have NX := Aside0.mk hx
       have NZ := Aside0.mk hz1
       clear hx hz hz1
       clear hd hd1 hd2 HD
       have HLr := HL
       clear HL
       go_wp2_with fail
       refine start_ (n := 9) (S := fun w' => w'.cell? ⟨w.heap.size + 1, 1, none⟩ = some u) (ds := [8]) #[false, false, false, false, false, false, false, false, false] (by kernel_rfl) rfl rfl ((ED.cells HLr.out 1 rfl)) (fun hHeld => ?_)
       have HL1 := Aside0.mk (ED.below HLr.out (Below.refl wr.heap.size wr).drew)
       generalize wr.drew = w1 at HL1 hHeld ⊢
       refine pure_ (i := 0) (N := some 60) (v := ?_) (a' := ?_) #[true, false, false, false, false, false, false, false, false] rfl rfl (by kernel_rfl) (fun _ _ _ h => h) (Or.inl ⟨by rfl, ?_⟩) ?_ ?_
       rotate_left
       ·intro w'
        go_simp
        with_reducible rfl
       rotate_left
       ·simp only [Act.put, List.setIfInBounds_toArray, List.set_cons_zero, List.set_cons_succ, i64_w, i32_w]
        rfl
       refine pure_ (i := 2) (N := some 62) (v := ?_) (a' := ?_) #[true, false, true, false, false, false, false, false, false] rfl rfl (by kernel_rfl) (fun _ _ _ h => h) (Or.inl ⟨by rfl, ?_⟩) ?_ ?_
       rotate_left
       ·intro w'
        go_simp
        with_reducible rfl
       rotate_left
       ·simp only [Act.put, List.setIfInBounds_toArray, List.set_cons_zero, List.set_cons_succ, i64_w, i32_w]
        rfl
       refine take_ (i := 1) (N := some 61) (v := ?_) (a' := ?_) #[true, true, true, false, false, false, false, false, false] rfl rfl (by kernel_rfl) (fun _ _ _ h => h) (Or.inl ⟨by rfl, ?_⟩) hHeld ?_ ?_
       rotate_left
       ·intro w' s0
        go_simp
        with_reducible rfl
       rotate_left
       ·simp only [Act.put, List.setIfInBounds_toArray, List.set_cons_zero, List.set_cons_succ, i64_w, i32_w]
        rfl
       refine one_ (i := 3) (N := some 63) #[true, true, true, true, false, false, false, false, false] rfl rfl (by kernel_rfl) (by decide) (fun K hK => ?_)
       refine goes_ Tryd.func44 (by kernel_rfl) rfl #[.pointer (some ⟨w.heap.size + 1 + 1, 0, none⟩)] (by rfl) rfl rfl (by (try simp only [List.map_toArray, List.map_cons, List.map_nil]); first | done | rfl) ?_
       refine (num_r HL1.out NX.out).mono ?_
       rintro e w2 ⟨rfl, hI2⟩
       refine ⟨_, rfl, ?_⟩
       have HL2 := Aside0.mk hI2
       clear hI2
       refine hK.out _ _ ((ED.cells HL2.out 1 rfl)) (fun hHeld => ?_)
       clear hK K
       refine norm_ (a' := ?_) ?_ ?_
       rotate_left
       ·show Act.put _ (some 63) _ = _
        simp only [Act.put, List.setIfInBounds_toArray, List.set_cons_zero, List.set_cons_succ, i64_w, i32_w]
        rfl
       refine one_ (i := 4) (N := some 64) #[true, true, true, true, true, false, false, false, false] rfl rfl (by kernel_rfl) (by decide) (fun K hK => ?_)
       refine goes_ Tryd.func45 (by kernel_rfl) rfl #[.int .u64 y0] (by rfl) rfl rfl (by (try simp only [List.map_toArray, List.map_cons, List.map_nil]); first | done | rfl) ?_
       refine (isthmusref01_Zag.calls y0 y _ NZ.out).mono ?_
       rintro e w3 ⟨rfl, ⟨nd, hnd⟩⟩
       refine ⟨_, rfl, ?_⟩
       have HL3 := Aside0.mk (ED.below HL2.out (pw_below_drewN (Below.refl _ _) nd))
       rw [← hnd] at HL3
       clear hnd
       refine hK.out _ _ ((ED.cells HL3.out 1 rfl)) (fun hHeld => ?_)
       clear hK K
       refine norm_ (a' := ?_) ?_ ?_
       rotate_left
       ·show Act.put _ (some 64) _ = _
        simp only [Act.put, List.setIfInBounds_toArray, List.set_cons_zero, List.set_cons_succ, i64_w, i32_w]
        rfl
       refine one_ (i := 5) (N := some 65) #[true, true, true, true, true, true, false, false, false] rfl rfl (by kernel_rfl) (by decide) (fun K hK => ?_)
       refine value_ (w1 := w3.alloc (.cells [Value.int .i64 y].toArray 3)) (v := .slice (some ⟨w3.heap.size, 0, none⟩) 1 1) (by rfl) rfl (by go_simp) ?_
       refine hK.out _ _ ((ED.cells (ED.below HL3.out (below_alloc (Below.refl _ _) _)) 1 rfl)) (fun hHeld => ?_)
       clear hK K
       refine norm_ (a' := ?_) ?_ ?_
       rotate_left
       ·show Act.put _ (some 65) _ = _
        simp only [Act.put, List.setIfInBounds_toArray, List.set_cons_zero, List.set_cons_succ, i64_w, i32_w]
        rfl
       refine one_ (i := 6) (N := some 66) #[true, true, true, true, true, true, true, false, false] rfl rfl (by kernel_rfl) (by decide) (fun K hK => ?_)
       have hown := HL3.out.2.2.2.1.2.1
       have hbl : Below w.heap.size w w3 := HL3.out.low
       refine step_append_cells w.heap.size (by rfl) (.tmp 61) (.tmp 65) 23 3 (.int .i64 0) 1 8 rfl Tryd.underlying23 info3 rfl (by omega) (by omega) u acc.length (nums .i64 acc) [Value.int .i64 y] (by rfl) (by rfl) rfl (by intro z_ hz_; obtain rfl := List.mem_singleton.mp hz_; rfl) hown hbl hbl.size (by omega) ?_
       intro v1 w9 ho9 hb9 hg9 hat9
       obtain ⟨g1, c1, rfl, _, _⟩ := ho9.form (by omega)
       have HP := Aside0.mk (ED.push1 HL3.out ho9 hb9 hg9 hat9)
       obtain ⟨hbx, hbS⟩ := ED.box HL3.out hg9 (.inr (.inl rfl))
       have hcB := (blk_cell hbx 1).trans (rfl : _ = some u)
       have hfB := blk_frozen hbx 1
       refine hK.out _ _ (hcB) (fun hHeld => ?_)
       clear hK K
       refine norm_ (a' := ?_) ?_ ?_
       rotate_left
       ·show Act.put _ (some 66) _ = _
        simp only [Act.put, List.setIfInBounds_toArray, List.set_cons_zero, List.set_cons_succ, i64_w, i32_w]
        rfl
       refine pure_ (i := 7) (N := some 67) (v := ?_) (a' := ?_) #[true, true, true, true, true, true, true, true, false] rfl rfl (by kernel_rfl) (fun _ _ _ h => h) (Or.inl ⟨by rfl, ?_⟩) ?_ ?_
       rotate_left
       ·intro w'
        go_simp
        with_reducible rfl
       rotate_left
       ·simp only [Act.put, List.setIfInBounds_toArray, List.set_cons_zero, List.set_cons_succ, i64_w, i32_w]
        rfl
       refine last_ (i := 8) (N := none) #[true, true, true, true, true, true, true, true, true] rfl rfl (by kernel_rfl) (by decide) (fun K hK => ?_)
       refine skip_ (w1 := w9.setCell ⟨w.heap.size + 1, 1, none⟩ (.slice (some ⟨g1, 0, none⟩) (acc.length + 1) c1)) (by rfl) rfl (by go_simp) ?_
       refine hK.out _ _ ?_
       clear hK K
       refine done_ (by kernel_rfl) ?_
       go_wp2_with fail
       go_roundw
       case rel => exact ⟨i + 1, j, at', ok', acc ++ [y], _, (by first | rfl | (simp only [fi]; rfl) | simp), by omega, NY, (by rw [List.length_append, List.length_singleton]; omega), HP⟩
       case measure => simp [intOf, fi]; try omega
   case rest =>
    obtain ⟨u2, HLb⟩ := hcut
    go_upto_block 4 with (go_at_call 43; (with_reducible refine (len_r HLb.out H5.out).mono ?_); rintro e W7 ⟨rfl, hI7, hj7⟩; have HI7 := Aside0.mk hI7; have HJ7 := Aside0.mk hj7; clear hI7 hj7)
    go_cut [9, 10] from 70 to 120 (fun s6 s10 wx => ∃ u0 : Value, Aside0 (ED w w.heap.size (w.heap.size + 1 + 1) (w.heap.size + 1) s wx a6 o6 u1 u2 u0 (.slice none 0 0) ws cs ns []))
    case first =>
     go_wp2_with fail
     go_loopw [9] (fun v w' => ∃ (i j : Nat) (at1 : Int) (ok1 : Bool) (acc : List ByteArray) (u : Value), v = .int .i64 i ∧ i + j = n3 ∧ Aside0 (rdn k s j acc at1 ok1 = some (ns, a6, o6)) ∧ acc.length + j ≤ 32768 ∧ Aside0 (ED w w.heap.size (w.heap.size + 1 + 1) (w.heap.size + 1) s w' at1 ok1 u1 u2 u (.slice none 0 0) ws cs acc [])) (fun v _ => n3 - (intOf v).toNat)
     case atStart => exact ⟨0, n3, a5, o5, [], _, rfl, by omega, H6, by simpa using HJ7.out, HI7⟩
     case round =>
      have hN_ := HJ7.out
      clear HI7 H6 HJ7 HLb
      obtain ⟨i, j, at1, ok1, acc, u, rfl, hij, HD, hj, HL⟩ := hrel
      have gb := ED.s2 HL.out
      cases j with
      | zero =>
       have hd := Option.some.inj HD.out
       simp only [Prod.mk.injEq] at hd
       obtain ⟨rfl, rfl, rfl⟩ := hd
       have f1 : decide ((i : Int) < (n3 : Int)) = false := decide_eq_false (by omega)
       go_wp2_with fail
       go_meet
       exact ⟨_, HL⟩
      | succ j =>
       have f1 : decide ((i : Int) < (n3 : Int)) = true := decide_eq_true (by omega)
       have fi : wrap64 ((i : Int) + 1) = (i : Int) + 1 := by unfold wrap64; omega
       cases ok1 with
       | false =>
        have hd := Option.some.inj HD.out
        simp only [Prod.mk.injEq] at hd
        obtain ⟨rfl, rfl, rfl⟩ := hd
        go_wp2_with fail
        go_meet
        exact ⟨_, HL⟩
       | true =>
        have hd : (rcnt k s 2000 at1 true).bind (fun t => if wrap64 ((s.size : Int) - t.2.1) < t.1 then some (acc, t.2.1, false) else if 0 ≤ t.2.1 ∧ t.2.1 ≤ wrap64 (t.2.1 + t.1) ∧ wrap64 (t.2.1 + t.1) ≤ (s.size : Int) then rdn k s j (acc ++ [s.extract t.2.1.toNat (wrap64 (t.2.1 + t.1)).toNat]) (wrap64 (t.2.1 + t.1)) t.2.2 else none) = some (ns, a6, o6) := HD.out
        obtain ⟨⟨m, at', ok'⟩, hd1, hd2⟩ := Option.bind_eq_some_iff.mp hd
        have NX := Aside0.mk hd1
        clear hd hd1 HD
        obtain ⟨rm, hrm⟩ : ∃ rm, wrap64 ((s.size : Int) - at') = rm := ⟨_, rfl⟩
        replace hd2 : (if rm < m then some (acc, at', false) else if 0 ≤ at' ∧ at' ≤ wrap64 (at' + m) ∧ wrap64 (at' + m) ≤ (s.size : Int) then rdn k s j (acc ++ [s.extract at'.toNat (wrap64 (at' + m)).toNat]) (wrap64 (at' + m)) ok' else none) = some (ns, a6, o6) := by rw [← hrm]; exact hd2
        by_cases cm : rm < m
        ·rw [if_pos cm] at hd2
         have hd := Option.some.inj hd2
         simp only [Prod.mk.injEq] at hd
         obtain ⟨rfl, rfl, rfl⟩ := hd
         have f3 : decide (rm < m) = true := decide_eq_true cm
         have f4 := eq_true cm
         clear hd2 cm
         go_wp2_with (go_at_call 43; (with_reducible refine (cnt_r HL.out NX.out).mono ?_); rintro e w1 ⟨rfl, hI2⟩; have HL1 := Aside0.mk hI2; clear hI2; have t1 := ED.s1 HL1.out; have t2 := ED.s2 HL1.out; have t3 := ED.fz HL1.out 2)
         go_meet
         exact ⟨_, ⟨ED.put HL1.out 2 (.bool false) (IsS63.set_2 HL1.out.1 false)⟩⟩
        ·rw [if_neg cm] at hd2
         obtain ⟨at2, hat2⟩ : ∃ z, wrap64 (at' + m) = z := ⟨_, rfl⟩
         rw [hat2] at hd2
         by_cases ck : 0 ≤ at' ∧ at' ≤ at2 ∧ at2 ≤ (s.size : Int)
         case neg => rw [if_neg ck] at hd2; cases hd2
         rw [if_pos ck] at hd2
         have NY := Aside0.mk hd2
         have f3 : decide (rm < m) = false := decide_eq_false cm
         have f4 := eq_false cm
         have g1_ := eq_true ck.1
         have g2_ := eq_true ck.2.1
         have g3_ := eq_true ck.2.2
         have g4_ : (at' ≤ (s.size : Int)) = True := eq_true (by omega)
         have g5_ : (0 ≤ at2) = True := eq_true (by omega)
         obtain ⟨y, hy⟩ : ∃ y, s.extract at'.toNat at2.toNat = y := ⟨_, rfl⟩
         rw [hy] at NY
         clear hd2 cm ck
         go_wp2_with (go_at_call 43; (with_reducible refine (cnt_r HL.out NX.out).mono ?_); rintro e wq ⟨rfl, hI2⟩; have HLr := Aside0.mk hI2; clear hI2 HL; have t1 := ED.s1 HLr.out; have t2 := ED.s2 HLr.out)
         refine start_ (n := 18) (S := fun w' => w'.cell? ⟨w.heap.size + 1, 2, none⟩ = some u ∧ w'.cell? ⟨w.heap.size + 1 + 1, 1, none⟩ = some (.int .i64 at')) (ds := [17]) #[false, false, false, false, false, false, false, false, false, false, false, false, false, false, false, false, false, false] (by kernel_rfl) rfl rfl ⟨(ED.cells HLr.out 2 rfl), (by exact (ED.s1 HLr.out : wq.cell? _ = _))⟩ (fun hHeld => ?_)
         have HL1 := Aside0.mk (ED.below HLr.out (Below.refl wq.heap.size wq).drew)
         generalize wq.drew = w1 at HL1 hHeld ⊢
         refine pure_ (i := 0) (N := some 95) (v := ?_) (a' := ?_) #[true, false, false, false, false, false, false, false, false, false, false, false, false, false, false, false, false, false] rfl rfl (by kernel_rfl) (fun _ _ _ h => h) (Or.inl ⟨by rfl, ?_⟩) ?_ ?_
         rotate_left
         ·intro w'
          go_simp
          with_reducible rfl
         rotate_left
         ·simp only [Act.put, List.setIfInBounds_toArray, List.set_cons_zero, List.set_cons_succ, i64_w, i32_w]
          rfl
         refine pure_ (i := 2) (N := some 97) (v := ?_) (a' := ?_) #[true, false, true, false, false, false, false, false, false, false, false, false, false, false, false, false, false, false] rfl rfl (by kernel_rfl) (fun _ _ _ h => h) (Or.inl ⟨by rfl, ?_⟩) ?_ ?_
         rotate_left
         ·intro w'
          go_simp
          with_reducible rfl
         rotate_left
         ·simp only [Act.put, List.setIfInBounds_toArray, List.set_cons_zero, List.set_cons_succ, i64_w, i32_w]
          rfl
         refine pure_ (i := 3) (N := some 98) (v := ?_) (a' := ?_) #[true, false, true, true, false, false, false, false, false, false, false, false, false, false, false, false, false, false] rfl rfl (by kernel_rfl) (fun _ _ _ h => h) (Or.inl ⟨by rfl, ?_⟩) ?_ ?_
         rotate_left
         ·intro w'
          go_simp
          with_reducible rfl
         rotate_left
         ·simp only [Act.put, List.setIfInBounds_toArray, List.set_cons_zero, List.set_cons_succ, i64_w, i32_w]
          rfl
         refine pure_ (i := 4) (N := some 99) (v := ?_) (a' := ?_) #[true, false, true, true, true, false, false, false, false, false, false, false, false, false, false, false, false, false] rfl rfl (by kernel_rfl) (fun _ _ _ h => h) (Or.inl ⟨by rfl, ?_⟩) ?_ ?_
         rotate_left
         ·intro w'
          go_simp
          with_reducible rfl
         rotate_left
         ·simp only [Act.put, List.setIfInBounds_toArray, List.set_cons_zero, List.set_cons_succ, i64_w, i32_w]
          rfl
         refine pure_ (i := 5) (N := some 100) (v := ?_) (a' := ?_) #[true, false, true, true, true, true, false, false, false, false, false, false, false, false, false, false, false, false] rfl rfl (by kernel_rfl) (fun _ _ _ h => h) (Or.inl ⟨by rfl, ?_⟩) ?_ ?_
         rotate_left
         ·intro w'
          go_simp
          with_reducible rfl
         rotate_left
         ·simp only [Act.put, List.setIfInBounds_toArray, List.set_cons_zero, List.set_cons_succ, i64_w, i32_w]
          rfl
         refine pure_ (i := 7) (N := some 102) (v := ?_) (a' := ?_) #[true, false, true, true, true, true, false, true, false, false, false, false, false, false, false, false, false, false] rfl rfl (by kernel_rfl) (fun _ _ _ h => h) (Or.inl ⟨by rfl, ?_⟩) ?_ ?_
         rotate_left
         ·intro w'
          go_simp
          with_reducible rfl
         rotate_left
         ·simp only [Act.put, List.setIfInBounds_toArray, List.set_cons_zero, List.set_cons_succ, i64_w, i32_w]
          rfl
         refine pure_ (i := 8) (N := some 103) (v := ?_) (a' := ?_) #[true, false, true, true, true, true, false, true, true, false, false, false, false, false, false, false, false, false] rfl rfl (by kernel_rfl) (fun _ _ _ h => h) (Or.inl ⟨by rfl, ?_⟩) ?_ ?_
         rotate_left
         ·intro w'
          go_simp
          with_reducible rfl
         rotate_left
         ·simp only [Act.put, List.setIfInBounds_toArray, List.set_cons_zero, List.set_cons_succ, i64_w, i32_w]
          rfl
         refine pure_ (i := 9) (N := some 104) (v := ?_) (a' := ?_) #[true, false, true, true, true, true, false, true, true, true, false, false, false, false, false, false, false, false] rfl rfl (by kernel_rfl) (fun _ _ _ h => h) (Or.inl ⟨by rfl, ?_⟩) ?_ ?_
         rotate_left
         ·intro w'
          go_simp
          with_reducible rfl
         rotate_left
         ·simp only [Act.put, List.setIfInBounds_toArray, List.set_cons_zero, List.set_cons_succ, i64_w, i32_w]
          rfl
         refine pure_ (i := 11) (N := some 106) (v := ?_) (a' := ?_) #[true, false, true, true, true, true, false, true, true, true, false, true, false, false, false, false, false, false] rfl rfl (by kernel_rfl) (fun _ _ _ h => h) (Or.inl ⟨by rfl, ?_⟩) ?_ ?_
         rotate_left
         ·intro w'
          go_simp
          with_reducible rfl
         rotate_left
         ·simp only [Act.put, List.setIfInBounds_toArray, List.set_cons_zero, List.set_cons_succ, i64_w, i32_w]
          rfl
         refine take_ (i := 1) (N := some 96) (v := ?_) (a' := ?_) #[true, true, true, true, true, true, false, true, true, true, false, true, false, false, false, false, false, false] rfl rfl (by kernel_rfl) (fun _ _ _ h => h) (Or.inl ⟨by rfl, ?_⟩) hHeld ?_ ?_
         rotate_left
         ·rintro w' ⟨s0, s1⟩
          go_simp
          with_reducible rfl
         rotate_left
         ·simp only [Act.put, List.setIfInBounds_toArray, List.set_cons_zero, List.set_cons_succ, i64_w, i32_w]
          rfl
         refine take_ (i := 6) (N := some 101) (v := ?_) (a' := ?_) #[true, true, true, true, true, true, true, true, true, true, false, true, false, false, false, false, false, false] rfl rfl (by kernel_rfl) (fun _ _ _ h => h) (Or.inl ⟨by rfl, ?_⟩) hHeld ?_ ?_
         rotate_left
         ·rintro w' ⟨s0, s1⟩
          go_simp
          with_reducible rfl
         rotate_left
         ·simp only [Act.put, List.setIfInBounds_toArray, List.set_cons_zero, List.set_cons_succ, i64_w, i32_w]
          rfl
         refine take_ (i := 10) (N := some 105) (v := ?_) (a' := ?_) #[true, true, true, true, true, true, true, true, true, true, true, true, false, false, false, false, false, false] rfl rfl (by kernel_rfl) (fun _ _ _ h => h) (Or.inl ⟨by rfl, ?_⟩) hHeld ?_ ?_
         rotate_left
         ·rintro w' ⟨s0, s1⟩
          go_simp
          with_reducible rfl
         rotate_left
         ·simp only [Act.put, List.setIfInBounds_toArray, List.set_cons_zero, List.set_cons_succ, i64_w, i32_w]
          rfl
         refine pure_ (i := 12) (N := some 107) (v := ?_) (a' := ?_) #[true, true, true, true, true, true, true, true, true, true, true, true, true, false, false, false, false, false] rfl rfl (by kernel_rfl) (fun _ _ _ h => h) (Or.inl ⟨by rfl, ?_⟩) ?_ ?_
         rotate_left
         ·intro w'
          go_simp
          with_reducible rfl
         rotate_left
         ·simp only [Act.put, List.setIfInBounds_toArray, List.set_cons_zero, List.set_cons_succ, i64_w, i32_w]
          rfl
         refine pure_ (i := 13) (N := some 108) (v := ?_) (a' := ?_) #[true, true, true, true, true, true, true, true, true, true, true, true, true, true, false, false, false, false] rfl rfl (by kernel_rfl) (fun _ _ _ h => h) (Or.inl ⟨by rfl, ?_⟩) ?_ ?_
         rotate_left
         ·intro w'
          go_simp
          with_reducible rfl
         rotate_left
         ·simp only [Act.put, List.setIfInBounds_toArray, List.set_cons_zero, List.set_cons_succ, i64_w, i32_w]
          rfl
         refine one_ (i := 14) (N := some 109) #[true, true, true, true, true, true, true, true, true, true, true, true, true, true, true, false, false, false] rfl rfl (by kernel_rfl) (by decide) (fun K hK => ?_)
         refine value_ (w1 := w1.alloc (.cells [Value.string y].toArray 9)) (v := .slice (some ⟨w1.heap.size, 0, none⟩) 1 1) (by rfl) rfl (by go_simp) ?_
         refine hK.out _ _ ⟨(ED.cells (ED.below HL1.out (below_alloc (Below.refl _ _) _)) 2 rfl), (ED.s1 (ED.below HL1.out (below_alloc (Below.refl _ _) _)))⟩ (fun hHeld => ?_)
         clear hK K
         refine norm_ (a' := ?_) ?_ ?_
         rotate_left
         ·show Act.put _ (some 109) _ = _
          simp only [Act.put, List.setIfInBounds_toArray, List.set_cons_zero, List.set_cons_succ, i64_w, i32_w]
          rfl
         refine one_ (i := 15) (N := some 110) #[true, true, true, true, true, true, true, true, true, true, true, true, true, true, true, true, false, false] rfl rfl (by kernel_rfl) (by decide) (fun K hK => ?_)
         have hown := HL1.out.2.2.2.1.2.2.1
         have hbl : Below w.heap.size w w1 := HL1.out.low
         refine step_append_cells w.heap.size (by rfl) (.tmp 96) (.tmp 109) 24 9 (.string ByteArray.empty) 1 16 rfl Tryd.underlying24 info9 rfl (by omega) (by omega) u acc.length (encs Value.string acc) [Value.string y] (by rfl) (by rfl) rfl (by intro z_ hz_; obtain rfl := List.mem_singleton.mp hz_; rfl) hown hbl hbl.size (by omega) ?_
         intro v1 w9 ho9 hb9 hg9 hat9
         obtain ⟨g1, c1, rfl, _, _⟩ := ho9.form (by omega)
         have HP := Aside0.mk (ED.push2 HL1.out ho9 hb9 hg9 hat9)
         obtain ⟨hbx, hbS⟩ := ED.box HL1.out hg9 (.inr (.inr (.inl rfl)))
         have hcB := (blk_cell hbx 2).trans (rfl : _ = some u)
         have hfB := blk_frozen hbx 2
         refine hK.out _ _ ⟨hcB, ((blk_cell hbS.1 1).trans rfl)⟩ (fun hHeld => ?_)
         clear hK K
         refine norm_ (a' := ?_) ?_ ?_
         rotate_left
         ·show Act.put _ (some 110) _ = _
          simp only [Act.put, List.setIfInBounds_toArray, List.set_cons_zero, List.set_cons_succ, i64_w, i32_w]
          rfl
         refine pure_ (i := 16) (N := some 111) (v := ?_) (a' := ?_) #[true, true, true, true, true, true, true, true, true, true, true, true, true, true, true, true, true, false] rfl rfl (by kernel_rfl) (fun _ _ _ h => h) (Or.inl ⟨by rfl, ?_⟩) ?_ ?_
         rotate_left
         ·intro w'
          go_simp
          with_reducible rfl
         rotate_left
         ·simp only [Act.put, List.setIfInBounds_toArray, List.set_cons_zero, List.set_cons_succ, i64_w, i32_w]
          rfl
         refine last_ (i := 17) (N := none) #[true, true, true, true, true, true, true, true, true, true, true, true, true, true, true, true, true, true] rfl rfl (by kernel_rfl) (by decide) (fun K hK => ?_)
         refine skip_ (w1 := w9.setCell ⟨w.heap.size + 1, 2, none⟩ (.slice (some ⟨g1, 0, none⟩) (acc.length + 1) c1)) (by rfl) rfl (by go_simp) ?_
         refine hK.out _ _ ?_
         clear hK K
         refine done_ (by kernel_rfl) ?_
         have t4 := ED.s1 HP.out
         have t5 := ED.fz HP.out 1
         go_wp2_with fail
         go_roundw
         case rel => exact ⟨i + 1, j, at2, ok', acc ++ [y], _, (by first | rfl | (simp only [fi]; rfl) | simp), by omega, NY, (by rw [List.length_append, List.length_singleton]; omega), ⟨ED.put HP.out 1 _ (IsS63.set_1 HP.out.1 _)⟩⟩
         case measure => simp [intOf, fi]; try omega
    case rest =>
     obtain ⟨u3, HLc⟩ := hcut
     go_upto_block 6 with (go_at_call 43; (with_reducible refine (len_r HLc.out H7.out).mono ?_); rintro e W9 ⟨rfl, hI9, hj9⟩; have HI9 := Aside0.mk hI9; have HJ9 := Aside0.mk hj9; clear hI9 hj9)
     go_cut [11] from 123 to 140 (fun s6 wx => ∃ u0 : Value, Aside0 (ED w w.heap.size (w.heap.size + 1 + 1) (w.heap.size + 1) s wx a8 o8 u1 u2 u3 u0 ws cs ns ks))
     case first =>
      go_wp2_with fail
      go_loopw [11] (fun v w' => ∃ (i j : Nat) (at1 : Int) (ok1 : Bool) (acc : List Int) (u : Value), v = .int .i64 i ∧ i + j = n4 ∧ Aside0 (rdl (rcnt k s 256) j acc at1 ok1 = some (ks, a8, o8)) ∧ acc.length + j ≤ 32768 ∧ Aside0 (ED w w.heap.size (w.heap.size + 1 + 1) (w.heap.size + 1) s w' at1 ok1 u1 u2 u3 u ws cs ns acc)) (fun v _ => n4 - (intOf v).toNat)
      case atStart => exact ⟨0, n4, a7, o7, [], _, rfl, by omega, H8, by simpa using HJ9.out, HI9⟩
      case round =>
       have hN_ := HJ9.out
       clear HI9 H8 HJ9 HLc
       obtain ⟨i, j, at1, ok1, acc, u, rfl, hij, HD, hj, HL⟩ := hrel
       have gb := ED.s2 HL.out
       cases j with
       | zero =>
        have hd := Option.some.inj HD.out
        simp only [Prod.mk.injEq] at hd
        obtain ⟨rfl, rfl, rfl⟩ := hd
        have f1 : decide ((i : Int) < (n4 : Int)) = false := decide_eq_false (by omega)
        go_wp2_with fail
        go_meet
        exact ⟨_, HL⟩
       | succ j =>
        have f1 : decide ((i : Int) < (n4 : Int)) = true := decide_eq_true (by omega)
        have fi : wrap64 ((i : Int) + 1) = (i : Int) + 1 := by unfold wrap64; omega
        cases ok1 with
        | false =>
         have hd := Option.some.inj HD.out
         simp only [Prod.mk.injEq] at hd
         obtain ⟨rfl, rfl, rfl⟩ := hd
         go_wp2_with fail
         go_meet
         exact ⟨_, HL⟩
        | true =>
         have hd : (rcnt k s 256 at1 true).bind (fun t => rdl (rcnt k s 256) j (acc ++ [t.1]) t.2.1 t.2.2) = some (ks, a8, o8) := HD.out
         obtain ⟨⟨y, at', ok'⟩, hd1, hd2⟩ := Option.bind_eq_some_iff.mp hd
         have NY := Aside0.mk hd2
         have NX := Aside0.mk hd1
         clear hd hd1 hd2 HD
         have HLr := HL
         clear HL
         go_wp2_with fail
         refine start_ (n := 8) (S := fun w' => w'.cell? ⟨w.heap.size + 1, 3, none⟩ = some u) (ds := [7]) #[false, false, false, false, false, false, false, false] (by kernel_rfl) rfl rfl ((ED.cells HLr.out 3 rfl)) (fun hHeld => ?_)
         have HL1 := Aside0.mk (ED.below HLr.out (Below.refl wr.heap.size wr).drew)
         generalize wr.drew = w1 at HL1 hHeld ⊢
         refine pure_ (i := 0) (N := some 134) (v := ?_) (a' := ?_) #[true, false, false, false, false, false, false, false] rfl rfl (by kernel_rfl) (fun _ _ _ h => h) (Or.inl ⟨by rfl, ?_⟩) ?_ ?_
         rotate_left
         ·intro w'
          go_simp
          with_reducible rfl
         rotate_left
         ·simp only [Act.put, List.setIfInBounds_toArray, List.set_cons_zero, List.set_cons_succ, i64_w, i32_w]
          rfl
         refine pure_ (i := 2) (N := some 136) (v := ?_) (a' := ?_) #[true, false, true, false, false, false, false, false] rfl rfl (by kernel_rfl) (fun _ _ _ h => h) (Or.inl ⟨by rfl, ?_⟩) ?_ ?_
         rotate_left
         ·intro w'
          go_simp
          with_reducible rfl
         rotate_left
         ·simp only [Act.put, List.setIfInBounds_toArray, List.set_cons_zero, List.set_cons_succ, i64_w, i32_w]
          rfl
         refine take_ (i := 1) (N := some 135) (v := ?_) (a' := ?_) #[true, true, true, false, false, false, false, false] rfl rfl (by kernel_rfl) (fun _ _ _ h => h) (Or.inl ⟨by rfl, ?_⟩) hHeld ?_ ?_
         rotate_left
         ·intro w' s0
          go_simp
          with_reducible rfl
         rotate_left
         ·simp only [Act.put, List.setIfInBounds_toArray, List.set_cons_zero, List.set_cons_succ, i64_w, i32_w]
          rfl
         refine one_ (i := 3) (N := some 137) #[true, true, true, true, false, false, false, false] rfl rfl (by kernel_rfl) (by decide) (fun K hK => ?_)
         refine goes_ Tryd.func43 (by kernel_rfl) rfl #[.pointer (some ⟨w.heap.size + 1 + 1, 0, none⟩), .int .i64 256] (by rfl) rfl rfl (by (try simp only [List.map_toArray, List.map_cons, List.map_nil]); first | done | rfl) ?_
         refine (cnt_r HL1.out NX.out).mono ?_
         rintro e w2 ⟨rfl, hI2⟩
         refine ⟨_, rfl, ?_⟩
         have HL2 := Aside0.mk hI2
         clear hI2
         refine hK.out _ _ ((ED.cells HL2.out 3 rfl)) (fun hHeld => ?_)
         clear hK K
         refine norm_ (a' := ?_) ?_ ?_
         rotate_left
         ·show Act.put _ (some 137) _ = _
          simp only [Act.put, List.setIfInBounds_toArray, List.set_cons_zero, List.set_cons_succ, i64_w, i32_w]
          rfl
         refine one_ (i := 4) (N := some 138) #[true, true, true, true, true, false, false, false] rfl rfl (by kernel_rfl) (by decide) (fun K hK => ?_)
         refine value_ (w1 := w2.alloc (.cells [Value.int .i64 y].toArray 3)) (v := .slice (some ⟨w2.heap.size, 0, none⟩) 1 1) (by rfl) rfl (by go_simp) ?_
         refine hK.out _ _ ((ED.cells (ED.below HL2.out (below_alloc (Below.refl _ _) _)) 3 rfl)) (fun hHeld => ?_)
         clear hK K
         refine norm_ (a' := ?_) ?_ ?_
         rotate_left
         ·show Act.put _ (some 138) _ = _
          simp only [Act.put, List.setIfInBounds_toArray, List.set_cons_zero, List.set_cons_succ, i64_w, i32_w]
          rfl
         refine one_ (i := 5) (N := some 139) #[true, true, true, true, true, true, false, false] rfl rfl (by kernel_rfl) (by decide) (fun K hK => ?_)
         have hown := HL2.out.2.2.2.1.2.2.2.1
         have hbl : Below w.heap.size w w2 := HL2.out.low
         refine step_append_cells w.heap.size (by rfl) (.tmp 135) (.tmp 138) 23 3 (.int .i64 0) 1 8 rfl Tryd.underlying23 info3 rfl (by omega) (by omega) u acc.length (nums .i64 acc) [Value.int .i64 y] (by rfl) (by rfl) rfl (by intro z_ hz_; obtain rfl := List.mem_singleton.mp hz_; rfl) hown hbl hbl.size (by omega) ?_
         intro v1 w9 ho9 hb9 hg9 hat9
         obtain ⟨g1, c1, rfl, _, _⟩ := ho9.form (by omega)
         have HP := Aside0.mk (ED.push3 HL2.out ho9 hb9 hg9 hat9)
         obtain ⟨hbx, hbS⟩ := ED.box HL2.out hg9 (.inr (.inr (.inr rfl)))
         have hcB := (blk_cell hbx 3).trans (rfl : _ = some u)
         have hfB := blk_frozen hbx 3
         refine hK.out _ _ (hcB) (fun hHeld => ?_)
         clear hK K
         refine norm_ (a' := ?_) ?_ ?_
         rotate_left
         ·show Act.put _ (some 139) _ = _
          simp only [Act.put, List.setIfInBounds_toArray, List.set_cons_zero, List.set_cons_succ, i64_w, i32_w]
          rfl
         refine pure_ (i := 6) (N := some 140) (v := ?_) (a' := ?_) #[true, true, true, true, true, true, true, false] rfl rfl (by kernel_rfl) (fun _ _ _ h => h) (Or.inl ⟨by rfl, ?_⟩) ?_ ?_
         rotate_left
         ·intro w'
          go_simp
          with_reducible rfl
         rotate_left
         ·simp only [Act.put, List.setIfInBounds_toArray, List.set_cons_zero, List.set_cons_succ, i64_w, i32_w]
          rfl
         refine last_ (i := 7) (N := none) #[true, true, true, true, true, true, true, true] rfl rfl (by kernel_rfl) (by decide) (fun K hK => ?_)
         refine skip_ (w1 := w9.setCell ⟨w.heap.size + 1, 3, none⟩ (.slice (some ⟨g1, 0, none⟩) (acc.length + 1) c1)) (by rfl) rfl (by go_simp) ?_
         refine hK.out _ _ ?_
         clear hK K
         refine done_ (by kernel_rfl) ?_
         go_wp2_with fail
         go_roundw
         case rel => exact ⟨i + 1, j, at', ok', acc ++ [y], _, (by first | rfl | (simp only [fi]; rfl) | simp), by omega, NY, (by rw [List.length_append, List.length_singleton]; omega), HP⟩
         case measure => simp [intOf, fi]; try omega
     case rest =>
      obtain ⟨u4, HLd⟩ := hcut
      have hh := HH.out
      unfold isthmusref18_Decode.fin at hh
      obtain ⟨⟨A1, c1, rfl, hl1, hC1⟩, ⟨A2, c2, rfl, hl2, hC2⟩, ⟨A3, c3, rfl, hl3, hC3⟩, ⟨A4, c4, rfl, hl4, hC4⟩⟩ := ED.forms HLd.out
      have HC := Aside0.mk (And.intro hC1 (And.intro hC2 (And.intro hC3 hC4)))
      have HX := Aside0.mk (And.intro hl1 (And.intro hl2 (And.intro hl3 hl4)))
      clear hC1 hC2 hC3 hC4 hl1 hl2 hl3 hl4
      have t0 := ED.s0 HLd.out
      have t1 := ED.s1 HLd.out
      have t2 := ED.s2 HLd.out
      have hc0 := ED.cells HLd.out 0 rfl
      have hR0 := blk_cell HLd.out.2.1 0
      have hF0 := blk_frozen HLd.out.2.1 0
      have hc1 := ED.cells HLd.out 1 rfl
      have hR1 := blk_cell HLd.out.2.1 1
      have hF1 := blk_frozen HLd.out.2.1 1
      have hc2 := ED.cells HLd.out 2 rfl
      have hR2 := blk_cell HLd.out.2.1 2
      have hF2 := blk_frozen HLd.out.2.1 2
      have hc3 := ED.cells HLd.out 3 rfl
      have hR3 := blk_cell HLd.out.2.1 3
      have hF3 := blk_frozen HLd.out.2.1 3
      cases o8 with
      | false =>
       rw [if_pos rfl] at hh
       simp only [Option.some.injEq, Prod.mk.injEq] at hh
       obtain ⟨rfl, rfl, rfl, rfl, rfl⟩ := hh
       go_wp2_with fail
       obtain ⟨y1, y2, y3⟩ := ED.fin HLd.out (.slice none 0 0) (.slice none 0 0) (.slice none 0 0) (.slice none 0 0)
       refine bodyPost_ret (results_ct rfl _ _ w.heap.size 26 #[.slice none 0 0, .slice none 0 0, .slice none 0 0, .slice none 0 0] (0, 0) _ rfl y1 Tryd.underlying26 rfl (by kernel_rfl)) rfl ?_
       exact ⟨_, _, _, _, rfl, Kd.R_nil _ _ _ _ _, Kd.R_nil _ _ _ _ _, Kd.R_nil _ _ _ _ _, Kd.R_nil _ _ _ _ _, y2⟩
      | true =>
       rw [if_neg (by decide)] at hh
       obtain ⟨⟨t, er⟩, hE, hh⟩ := Option.bind_eq_some_iff.mp hh
       have HE := Aside0.mk hE
       clear hE
       by_cases he : er = 0
       ·rw [if_pos (show ((t, er) : ByteArray × Int).2 = 0 from he)] at hh
        subst he
        by_cases hq : t.toList = s.toList
        ·rw [if_pos (show ((t, (0 : Int)) : ByteArray × Int).1.toList = s.toList from hq)] at hh
         simp only [Option.some.injEq, Prod.mk.injEq] at hh
         obtain ⟨rfl, rfl, rfl, rfl, rfl⟩ := hh
         have fq : (t.toList == s.toList) = true := beq_iff_eq.mpr hq
         have fq' : (t.toList != s.toList) = false := by rw [bne, fq]; rfl
         go_wp2_with (go_at_call 16; (with_reducible refine (isthmusref18_Encode.calls k _ _ _ _ _ _ _ _ _ _ _ _ _ _ _ HC.out.1 HX.out.1 HC.out.2.1 HX.out.2.1 HC.out.2.2.1 HX.out.2.2.1 HC.out.2.2.2 HX.out.2.2.2 HE.out).mono ?_); rintro e W10 ⟨rfl, hb10⟩; have HLe := Aside0.mk (ED.below HLd.out hb10); clear hb10; have t0 := ED.s0 HLe.out; have t1 := ED.s1 HLe.out; have t2 := ED.s2 HLe.out; have hc0 := ED.cells HLe.out 0 rfl; have hR0 := blk_cell HLe.out.2.1 0; have hF0 := blk_frozen HLe.out.2.1 0; have hc1 := ED.cells HLe.out 1 rfl; have hR1 := blk_cell HLe.out.2.1 1; have hF1 := blk_frozen HLe.out.2.1 1; have hc2 := ED.cells HLe.out 2 rfl; have hR2 := blk_cell HLe.out.2.1 2; have hF2 := blk_frozen HLe.out.2.1 2; have hc3 := ED.cells HLe.out 3 rfl; have hR3 := blk_cell HLe.out.2.1 3; have hF3 := blk_frozen HLe.out.2.1 3)
         obtain ⟨y1, y2, y3⟩ := ED.fin HLe.out (.slice A1 ws.length c1) (.slice A2 cs.length c2) (.slice A3 ns.length c3) (.slice A4 ks.length c4)
         refine bodyPost_ret (results_ct rfl _ _ w.heap.size 26 #[.slice A1 ws.length c1, .slice A2 cs.length c2, .slice A3 ns.length c3, .slice A4 ks.length c4] (0, 0) _ rfl y1 Tryd.underlying26 rfl (by kernel_rfl)) rfl ?_
         exact ⟨_, _, _, _, rfl, Kd.R_of_own (h1 := fun _ => rfl) y3.1 (fun _ _ => trivial), Kd.R_of_own (h1 := fun _ => rfl) y3.2.1 (fun k_ hk_ he_ => y3.2.2.2.2 k_ hk_ he_.symm), Kd.R_of_own (h1 := fun _ => rfl) y3.2.2.1 (fun _ _ => trivial), Kd.R_of_own (h1 := fun _ => rfl) y3.2.2.2.1 (fun k_ hk_ he_ => y3.2.2.2.2 k_ he_.symm hk_), y2⟩
        ·rw [if_neg (show ¬ ((t, (0 : Int)) : ByteArray × Int).1.toList = s.toList from hq)] at hh
         simp only [Option.some.injEq, Prod.mk.injEq] at hh
         obtain ⟨rfl, rfl, rfl, rfl, rfl⟩ := hh
         have fq : (t.toList == s.toList) = false := beq_eq_false_iff_ne.mpr hq
         have fq' : (t.toList != s.toList) = true := bne_iff_ne.mpr hq
         go_wp2_with (go_at_call 16; (with_reducible refine (isthmusref18_Encode.calls k _ _ _ _ _ _ _ _ _ _ _ _ _ _ _ HC.out.1 HX.out.1 HC.out.2.1 HX.out.2.1 HC.out.2.2.1 HX.out.2.2.1 HC.out.2.2.2 HX.out.2.2.2 HE.out).mono ?_); rintro e W10 ⟨rfl, hb10⟩; have HLe := Aside0.mk (ED.below HLd.out hb10); clear hb10; have t0 := ED.s0 HLe.out; have t1 := ED.s1 HLe.out; have t2 := ED.s2 HLe.out; have hc0 := ED.cells HLe.out 0 rfl; have hR0 := blk_cell HLe.out.2.1 0; have hF0 := blk_frozen HLe.out.2.1 0; have hc1 := ED.cells HLe.out 1 rfl; have hR1 := blk_cell HLe.out.2.1 1; have hF1 := blk_frozen HLe.out.2.1 1; have hc2 := ED.cells HLe.out 2 rfl; have hR2 := blk_cell HLe.out.2.1 2; have hF2 := blk_frozen HLe.out.2.1 2; have hc3 := ED.cells HLe.out 3 rfl; have hR3 := blk_cell HLe.out.2.1 3; have hF3 := blk_frozen HLe.out.2.1 3)
         obtain ⟨y1, y2, y3⟩ := ED.fin HLe.out (.slice none 0 0) (.slice none 0 0) (.slice none 0 0) (.slice none 0 0)
         refine bodyPost_ret (results_ct rfl _ _ w.heap.size 26 #[.slice none 0 0, .slice none 0 0, .slice none 0 0, .slice none 0 0] (0, 0) _ rfl y1 Tryd.underlying26 rfl (by kernel_rfl)) rfl ?_
         exact ⟨_, _, _, _, rfl, Kd.R_nil _ _ _ _ _, Kd.R_nil _ _ _ _ _, Kd.R_nil _ _ _ _ _, Kd.R_nil _ _ _ _ _, y2⟩
       ·rw [if_neg (show ¬ ((t, er) : ByteArray × Int).2 = 0 from he)] at hh
        simp only [Option.some.injEq, Prod.mk.injEq] at hh
        obtain ⟨rfl, rfl, rfl, rfl, rfl⟩ := hh
        have fe : (er == 0) = false := beq_eq_false_iff_ne.mpr he
        have fe' : (er != 0) = true := bne_iff_ne.mpr he
        go_wp2_with (go_at_call 16; (with_reducible refine (isthmusref18_Encode.calls k _ _ _ _ _ _ _ _ _ _ _ _ _ _ _ HC.out.1 HX.out.1 HC.out.2.1 HX.out.2.1 HC.out.2.2.1 HX.out.2.2.1 HC.out.2.2.2 HX.out.2.2.2 HE.out).mono ?_); rintro e W10 ⟨rfl, hb10⟩; have HLe := Aside0.mk (ED.below HLd.out hb10); clear hb10; have t0 := ED.s0 HLe.out; have t1 := ED.s1 HLe.out; have t2 := ED.s2 HLe.out; have hc0 := ED.cells HLe.out 0 rfl; have hR0 := blk_cell HLe.out.2.1 0; have hF0 := blk_frozen HLe.out.2.1 0; have hc1 := ED.cells HLe.out 1 rfl; have hR1 := blk_cell HLe.out.2.1 1; have hF1 := blk_frozen HLe.out.2.1 1; have hc2 := ED.cells HLe.out 2 rfl; have hR2 := blk_cell HLe.out.2.1 2; have hF2 := blk_frozen HLe.out.2.1 2; have hc3 := ED.cells HLe.out 3 rfl; have hR3 := blk_cell HLe.out.2.1 3; have hF3 := blk_frozen HLe.out.2.1 3)
        obtain ⟨y1, y2, y3⟩ := ED.fin HLe.out (.slice none 0 0) (.slice none 0 0) (.slice none 0 0) (.slice none 0 0)
        refine bodyPost_ret (results_ct rfl _ _ w.heap.size 26 #[.slice none 0 0, .slice none 0 0, .slice none 0 0, .slice none 0 0] (0, 0) _ rfl y1 Tryd.underlying26 rfl (by kernel_rfl)) rfl ?_
        exact ⟨_, _, _, _, rfl, Kd.R_nil _ _ _ _ _, Kd.R_nil _ _ _ _ _, Kd.R_nil _ _ _ _ _, Kd.R_nil _ _ _ _ _, y2⟩
 ·rw [if_neg hm] at h
  have hh := h
  clear h
  simp only [Option.some.injEq, Prod.mk.injEq] at hh
  obtain ⟨rfl, rfl, rfl, rfl, rfl⟩ := hh
  have hm1 : ((s.extract 0 3).toList == [73, 67, 49]) = false := beq_eq_false_iff_ne.mpr hm
  have hm2 : ((s.extract 0 3).toList != [73, 67, 49]) = true := bne_iff_ne.mpr hm
  have HB := Aside0.mk (show Below w.heap.size w ((w.alloc (.cells #[.slice none 0 0, .slice none 0 0, .slice none 0 0, .slice none 0 0] 26)).alloc (.cells #[.slice none 0 0, .slice none 0 0, .slice none 0 0, .slice none 0 0] 26)) from below_alloc (below_alloc (Below.refl _ _) _) _)
  have hR : ((w.alloc (.cells #[.slice none 0 0, .slice none 0 0, .slice none 0 0, .slice none 0 0] 26)).alloc (.cells #[.slice none 0 0, .slice none 0 0, .slice none 0 0, .slice none 0 0] 26)).heap[w.heap.size]? = some (.cells #[.slice none 0 0, .slice none 0 0, .slice none 0 0, .slice none 0 0] 26 (0, 0)) := blk_below (heap_alloc_new w _) (below_alloc (Below.refl _ _) _)
  clear HI c3 hm
  go_enter Tryd.func21, Tryd.ntmps21
  go_wp2_with fail
  refine bodyPost_ret (results_ct rfl _ _ w.heap.size 26 #[.slice none 0 0, .slice none 0 0, .slice none 0 0, .slice none 0 0] (0, 0) _ rfl hR Tryd.underlying26 rfl (by kernel_rfl)) rfl ?_
  exact ⟨_, _, _, _, rfl, Kd.R_nil _ _ _ _ _, Kd.R_nil _ _ _ _ _, Kd.R_nil _ _ _ _ _, Kd.R_nil _ _ _ _ _, HB.out⟩
end Go.Proofs.YtnlimplbmncdeaaDoor.C
namespace Go.Proofs.YtnlimplbmncdeaaDoor.C
open Go.RowKit Go.Proofs.YtnlimplbmncdeaaDoorW.PrintWords Go.Proofs.YtnlimplbmncdeaaDoorW.PrintLast Go.Proofs.YtnlimplbmncdeaaDoorW.PrintMore
attribute [local go_sem] max2_int min2_int max_two min_two max_three min_three max_four min_four
set_option linter.unusedVariables false
set_option linter.unusedSimpArgs false
def isthmuslaw18_CodeReads.f (k : Nat) (s : ByteArray) : Option Bool :=
 (isthmuslaw18_awake.f k).bind fun a => (isthmusref18_Decode.f k s).bind fun x => (code_Decode.f k s).bind fun d => (isthmusref18_Same.f k d.1 d.2.1 d.2.2.1 d.2.2.2.1 x.1 x.2.1 x.2.2.1 x.2.2.2.1).bind fun is => (isthmuslaw18_Over.f k d.1 d.2.1 d.2.2.1 d.2.2.2.1).bind fun _ =>
 if a = true ∧ is = true ∧ d.2.2.2.2 = x.2.2.2.2 then some true else none
def RD (W : World) (A0 : Option Addr) (l0 : List Int) (A1 : Option Addr) (l1 : List Int) (A2 : Option Addr) (l2 : List ByteArray) (A3 : Option Addr) (l3 : List Int) : Prop :=
 Kd.C (Kd.int .u64) W A0 l0.length l0 ∧ Kd.C (Kd.int .i64) W A1 l1.length l1 ∧ Kd.C Kd.string W A2 l2.length l2 ∧ Kd.C (Kd.int .i64) W A3 l3.length l3
theorem RD.below {W W1 : World} {A0 A1 A2 A3 : Option Addr} {l0 l1 l3 : List Int} {l2 : List ByteArray} (h : RD W A0 l0 A1 l1 A2 l2 A3 l3) (hb : Below W.heap.size W W1) : RD W1 A0 l0 A1 l1 A2 l2 A3 l3 :=
 ⟨Kd.C_below h.1 hb, Kd.C_below h.2.1 hb, Kd.C_below h.2.2.1 hb, Kd.C_below h.2.2.2 hb⟩
theorem R_self {α : Type} {enc : α → Value} {h1 : ∀ x, (enc x).oneCell' = true} {e base : Nat} {w : World} {ok : Nat → Prop} {v : Value} {xs : List α} (h : (Kd.scalar enc h1).R e w base ok v xs) : (Kd.scalar enc h1).R e w base (fun k => some k = v.ownBlock) v xs :=
 Kd.R_of_own (Kd.own_of_R h) (fun _ hk => hk.symm)
set_option maxHeartbeats 8000000 in
set_option maxRecDepth 100000 in
theorem isthmuslaw18_CodeReads.calls (k : Nat) (s : ByteArray) (r : Bool) (w : World) (hG : Glob w) (h : isthmuslaw18_CodeReads.f k s = some r) :
  Calls Tryd.prog 5 #[.string s] w fun e w' => e = .returned (.bool r) ∧ Below w.heap.size w w' := by
 unfold isthmuslaw18_CodeReads.f at h
 obtain ⟨a, h0, t0⟩ := Option.bind_eq_some_iff.mp h
 clear h
 obtain ⟨⟨x1, x2, x3, x4, fr⟩, h1, t1⟩ := Option.bind_eq_some_iff.mp t0
 clear t0
 obtain ⟨⟨d1, d2, d3, d4, er⟩, h2, t2⟩ := Option.bind_eq_some_iff.mp t1
 clear t1
 obtain ⟨is, h3, t3⟩ := Option.bind_eq_some_iff.mp t2
 clear t2
 obtain ⟨⟨⟩, h4, h⟩ := Option.bind_eq_some_iff.mp t3
 clear t3
 by_cases hc : a = true ∧ is = true ∧ er = fr
 case neg => rw [if_neg hc] at h; cases h
 rw [if_pos hc] at h
 obtain rfl := Option.some.inj h
 obtain ⟨rfl, rfl, rfl⟩ := hc
 clear h
 have q1 : (er == er) = true := beq_self_eq_true _
 have q2 : (er != er) = false := by rw [bne, q1]; rfl
 have H2 := Aside0.mk h2
 have H3 := Aside0.mk h3
 have H4 := Aside0.mk h4
 have HG := Aside0.mk hG
 clear h2 h3 h4
 go_enter Tryd.func5, Tryd.ntmps5
 go_wp2_with (first
  | (go_at_call 11; (refine (isthmuslaw18_awake.calls k true _ hG h0).mono ?_); rintro e wa ⟨rfl, hba⟩)
  | (go_at_call 21; (refine (isthmusref18_Decode.calls k s x1 x2 x3 x4 er _ h1).mono ?_); rintro e wb ⟨va, vb, vc, vd, rfl, hRa, hRb, hRc, hRd, hbb⟩; obtain ⟨Ba, ba, rfl, hla, hCa⟩ := Kd.R_reads hRa; obtain ⟨Bb, bb, rfl, hlb, hCb⟩ := Kd.R_reads hRb; obtain ⟨Bc, bc, rfl, hlc, hCc⟩ := Kd.R_reads hRc; obtain ⟨Bd, bd, rfl, hld, hCd⟩ := Kd.R_reads hRd; clear hRa hRb hRc hRd; have HRD := Aside0.mk (RD.below ⟨hCa, hCb, hCc, hCd⟩ (below_alloc (Below.refl wb.heap.size wb) (.cells #[.slice Ba x1.length ba, .slice Bb x2.length bb, .slice Bc x3.length bc, .slice Bd x4.length bd] 26))); have HBX := Aside0.mk (heap_alloc_new wb (.cells #[.slice Ba x1.length ba, .slice Bb x2.length bb, .slice Bc x3.length bc, .slice Bd x4.length bd] 26)); have HBW := Aside0.mk (below_alloc (below_then hba hba.size hbb) (.cells #[.slice Ba x1.length ba, .slice Bb x2.length bb, .slice Bc x3.length bc, .slice Bd x4.length bd] 26)); clear hCa hCb hCc hCd))
 clear h0 h1 hba hbb
 go_loopw [6] (fun v w' => ∃ j : Nat, v = .int .i64 j ∧ j ≤ 2 ∧ Aside0 (RD w' Ba x1 Bb x2 Bc x3 Bd x4) ∧ Aside0 (w'.heap[wb.heap.size]? = some (.cells #[.slice Ba x1.length ba, .slice Bb x2.length bb, .slice Bc x3.length bc, .slice Bd x4.length bd] 26 (0, 0))) ∧ Aside0 (Below w.heap.size w w')) (fun v _ => 2 - (intOf v).toNat)
 case atStart => exact ⟨0, rfl, by omega, HRD, HBX, HBW⟩
 case round =>
  clear HRD HBX HBW
  obtain ⟨j, rfl, hj, HR, HX, HB⟩ := hrel
  by_cases hlt : j < 2
  ·have f1 : decide ((j : Int) < 2) = true := decide_eq_true (by omega)
   have fj : wrap64 ((j : Int) + 1) = (j : Int) + 1 := by unfold wrap64; omega
   go_wp2_with (first
    | (go_at_call 22; (refine (code_Decode.calls k s d1 d2 d3 d4 er _ (Glob.below HG.out HB.out) H2.out).mono ?_); rintro e w1 ⟨va, vb, vc, vd, rfl, hRa, hRb, hRc, hRd, hb1⟩; obtain ⟨Aa, ca, rfl, hka, hCa⟩ := Kd.R_reads hRa; obtain ⟨Ab, cb, rfl, hkb, hCb⟩ := Kd.R_reads hRb; obtain ⟨Ac, cc, rfl, hkc, hCc⟩ := Kd.R_reads hRc; obtain ⟨Ad, cd, rfl, hkd, hCd⟩ := Kd.R_reads hRd; have HD := Aside0.mk (RD.below ⟨hCa, hCb, hCc, hCd⟩ (below_alloc (Below.refl w1.heap.size w1) (.cells #[.slice Aa d1.length ca, .slice Ab d2.length cb, .slice Ac d3.length cc, .slice Ad d4.length cd] 26))); have O1 := Aside0.mk (Kd.R_alloc hRa (.cells #[.slice Aa d1.length ca, .slice Ab d2.length cb, .slice Ac d3.length cc, .slice Ad d4.length cd] 26)); have O2 := Aside0.mk (Kd.R_alloc hRb (.cells #[.slice Aa d1.length ca, .slice Ab d2.length cb, .slice Ac d3.length cc, .slice Ad d4.length cd] 26)); have O3 := Aside0.mk (Kd.R_alloc hRc (.cells #[.slice Aa d1.length ca, .slice Ab d2.length cb, .slice Ac d3.length cc, .slice Ad d4.length cd] 26)); have O4 := Aside0.mk (Kd.R_alloc hRd (.cells #[.slice Aa d1.length ca, .slice Ab d2.length cb, .slice Ac d3.length cc, .slice Ad d4.length cd] 26)); clear hRa hRb hRc hRd hCa hCb hCc hCd; have bd1 := heap_alloc_new w1 (.cells #[.slice Aa d1.length ca, .slice Ab d2.length cb, .slice Ac d3.length cc, .slice Ad d4.length cd] 26); have u0 := blk_cell bd1 0; have u1 := blk_cell bd1 1; have u2 := blk_cell bd1 2; have u3 := blk_cell bd1 3; have bx1 := blk_alloc (blk_below HX.out hb1) (.cells #[.slice Aa d1.length ca, .slice Ab d2.length cb, .slice Ac d3.length cc, .slice Ad d4.length cd] 26); have y0 := blk_cell bx1 0; have y1 := blk_cell bx1 1; have y2 := blk_cell bx1 2; have y3 := blk_cell bx1 3; have HB1 := Aside0.mk (below_alloc hb1 (.cells #[.slice Aa d1.length ca, .slice Ab d2.length cb, .slice Ac d3.length cc, .slice Ad d4.length cd] 26)); have BD := Aside0.mk bd1; clear bd1 bx1 hb1)
    | (go_at_call 23; (refine (isthmusref18_Same.calls k _ _ d1 _ _ d2 _ _ d3 _ _ d4 _ _ x1 _ _ x2 _ _ x3 _ _ x4 true _ HD.out.1 hka HD.out.2.1 hkb HD.out.2.2.1 hkc HD.out.2.2.2 hkd (RD.below HR.out HB1.out).1 hla (RD.below HR.out HB1.out).2.1 hlb (RD.below HR.out HB1.out).2.2.1 hlc (RD.below HR.out HB1.out).2.2.2 hld H3.out).mono ?_); rintro e w2 ⟨rfl, hq⟩; have hb2 : Below (w1.alloc (.cells #[.slice Aa d1.length ca, .slice Ab d2.length cb, .slice Ac d3.length cc, .slice Ad d4.length cd] 26)).heap.size (w1.alloc (.cells #[.slice Aa d1.length ca, .slice Ab d2.length cb, .slice Ac d3.length cc, .slice Ad d4.length cd] 26)) w2 := (by first | exact hq | (obtain ⟨nd, rfl⟩ := hq; exact pw_below_drewN (Below.refl _ _) nd)); clear hq; have bd2 := blk_below BD.out hb2; have u0 := blk_cell bd2 0; have u1 := blk_cell bd2 1; have u2 := blk_cell bd2 2; have u3 := blk_cell bd2 3; have HB2 := Aside0.mk (below_then HB1.out HB1.out.size hb2); have P1 := Aside0.mk (R_self (Kd.R_below O1.out hb2)); have P2 := Aside0.mk (R_self (Kd.R_below O2.out hb2)); have P3 := Aside0.mk (R_self (Kd.R_below O3.out hb2)); have P4 := Aside0.mk (R_self (Kd.R_below O4.out hb2)); clear bd2 hb2)
    | (go_at_call 24; (refine (isthmuslaw18_Over.calls k _ _ d1 _ _ d2 _ _ d3 _ _ d4 wr w2 HB2.out P1.out P2.out (fun k_ h1_ h2_ => O2.out.1 k_ h1_.symm h2_) P3.out P4.out (fun k_ h1_ h2_ => O4.out.1 k_ h1_.symm h2_) H4.out).mono ?_); rintro e w3 ⟨rfl, hb3, -⟩; have HB3 := Aside0.mk hb3; clear hb3))
   go_roundw
   case rel => exact ⟨j + 1, (by first | rfl | (simp only [fj]; rfl) | simp), by omega, ⟨RD.below HR.out HB3.out⟩, ⟨blk_below HX.out HB3.out⟩, ⟨below_then HB.out HB.out.size HB3.out⟩⟩
   case measure => simp [intOf, fj]; try omega
  ·have f1 : decide ((j : Int) < 2) = false := decide_eq_false (by omega)
   go_wp2_with fail
   go_ret
   exact ⟨rfl, HB.out⟩
end Go.Proofs.YtnlimplbmncdeaaDoor.C
namespace Go.Proofs.YtnlimplbmncdeaaDoor.C
open Go.RowKit Go.Proofs.YtnlimplbmncdeaaDoorW.PrintWords Go.Proofs.YtnlimplbmncdeaaDoorW.PrintLast Go.Proofs.YtnlimplbmncdeaaDoorW.PrintMore
attribute [local go_sem] max2_int min2_int max_two min_two max_three min_three max_four min_four
set_option linter.unusedVariables false
set_option linter.unusedSimpArgs false
def trn (k : Nat) (s : ByteArray) (i hw by_ : Int) : Option ByteArray :=
 if 0 ≤ i ∧ i < (s.size : Int) ∧ s.size < 9223372036854775807 then
 (if hw = 0 then (isthmuslaw18_pick.f by_ 256).bind fun b => some ((s.extract 0 i.toNat ++ strOfNums [IntKind.u8.wrap b]) ++ s.extract (i + 1).toNat s.size)
 else if hw = 1 then some (s.extract 0 i.toNat ++ s.extract (i + 1).toNat s.size)
 else if hw = 2 then (isthmuslaw18_pick.f by_ 256).bind fun b => some ((s.extract 0 i.toNat ++ strOfNums [IntKind.u8.wrap b]) ++ s.extract i.toNat s.size)
 else some (s.extract 0 i.toNat)) else none
def isthmuslaw18_CodeTurned.f (k : Nat) (l0 : List SRaw) (l1 : List Int) (how at_ by_ : Int) : Option Bool :=
 (isthmuslaw18_Code.f l0 true).bind fun ws => (isthmusref18_Encode.f k ws l1 [(⟨#[102, 101, 119]⟩ : ByteArray), (⟨#[97, 108, 108, 50]⟩ : ByteArray)] [1]).bind fun t =>
 if t.2 = 0 then (isthmuslaw18_pick.f at_ (t.1.size : Int)).bind fun i => (isthmuslaw18_pick.f how 4).bind fun hw => (trn k t.1 i hw by_).bind fun s' => isthmuslaw18_CodeReads.f k s'
 else isthmuslaw18_awake.f k
set_option maxHeartbeats 8000000 in
set_option maxRecDepth 100000 in
theorem isthmuslaw18_CodeTurned.calls (k : Nat) (A0 : Option Addr) (c0 : Nat) (l0 : List SRaw) (A1 : Option Addr) (c1 : Nat) (l1 : List Int) (how at_ by_ : Int) (r : Bool) (w : World) (hr0 : Kd.C kRaw w A0 l0.length l0) (hc0 : l0.length ≤ c0) (hr1 : Kd.C (Kd.int .i64) w A1 l1.length l1) (hc1 : l1.length ≤ c1) (hG : Glob w) (h : isthmuslaw18_CodeTurned.f k l0 l1 how at_ by_ = some r) :
  Calls Tryd.prog 6 #[.slice A0 l0.length c0, .slice A1 l1.length c1, .int .i64 how, .int .i64 at_, .int .i64 by_] w fun e w' => e = .returned (.bool r) ∧ Below w.heap.size w w' := by
 unfold isthmuslaw18_CodeTurned.f at h
 obtain ⟨ws, h1, t0⟩ := Option.bind_eq_some_iff.mp h
 clear h
 obtain ⟨⟨s, er⟩, h2, h⟩ := Option.bind_eq_some_iff.mp t0
 clear t0
 have z1 : (w.alloc (.cells #[.string (⟨#[102, 101, 119]⟩ : ByteArray), .string (⟨#[97, 108, 108, 50]⟩ : ByteArray)] 9)).heap.size = w.heap.size + 1 := by simp
 have hl2 : ((w.alloc (.cells #[.string (⟨#[102, 101, 119]⟩ : ByteArray), .string (⟨#[97, 108, 108, 50]⟩ : ByteArray)] 9)).alloc (.cells #[.int .i64 1] 3)).ownsRow w.heap.size 9 1 (.slice (some ⟨w.heap.size, 0, none⟩) 2 2) ([(⟨#[102, 101, 119]⟩ : ByteArray), (⟨#[97, 108, 108, 50]⟩ : ByteArray)] : List ByteArray).length (encs Value.string [(⟨#[102, 101, 119]⟩ : ByteArray), (⟨#[97, 108, 108, 50]⟩ : ByteArray)]) := own_move (w := w.alloc (.cells #[.string (⟨#[102, 101, 119]⟩ : ByteArray), .string (⟨#[97, 108, 108, 50]⟩ : ByteArray)] 9)) ⟨rfl, .inr ⟨_, 2, _, rfl, Nat.le_refl _, heap_alloc_new _ _, Nat.le_refl _, by decide, rfl, rfl⟩⟩ (fun k hk => by
  obtain rfl : w.heap.size = k := by simpa [Value.ownBlock] using hk
  exact (below_alloc (Below.refl _ _) _).block _ (by rw [z1]; omega))
 have hl3 : ((w.alloc (.cells #[.string (⟨#[102, 101, 119]⟩ : ByteArray), .string (⟨#[97, 108, 108, 50]⟩ : ByteArray)] 9)).alloc (.cells #[.int .i64 1] 3)).ownsRow (w.alloc (.cells #[.string (⟨#[102, 101, 119]⟩ : ByteArray), .string (⟨#[97, 108, 108, 50]⟩ : ByteArray)] 9)).heap.size 3 1 (.slice (some ⟨(w.alloc (.cells #[.string (⟨#[102, 101, 119]⟩ : ByteArray), .string (⟨#[97, 108, 108, 50]⟩ : ByteArray)] 9)).heap.size, 0, none⟩) 1 1) ([1] : List Int).length (nums .i64 [1]) := ⟨rfl, .inr ⟨_, 1, _, rfl, Nat.le_refl _, heap_alloc_new _ _, Nat.le_refl _, by decide, rfl, rfl⟩⟩
 obtain ⟨A2, c2, ev, hlc2, hC2⟩ := Kd.R_reads (Kd.R_of_own (h1 := fun _ => rfl) (ok := fun _ => True) hl2 (fun _ _ => trivial))
 injection ev with ea en ec
 subst ea ec
 clear en hl2
 obtain ⟨A3, c3, ev, hlc3, hC3⟩ := Kd.R_reads (Kd.R_of_own (h1 := fun _ => rfl) (ok := fun _ => True) hl3 (fun _ _ => trivial))
 injection ev with ea en ec
 rw [z1] at ea
 subst ea ec
 clear en hl3
 have hb0 := below_alloc (below_alloc (Below.refl w.heap.size w) (.cells #[.string (⟨#[102, 101, 119]⟩ : ByteArray), .string (⟨#[97, 108, 108, 50]⟩ : ByteArray)] 9)) (.cells #[.int .i64 1] 3)
 have hr0' := Kd.C_below hr0 hb0
 by_cases he : er = 0
 case neg =>
  rw [if_neg (show ¬ ((s, er) : ByteArray × Int).2 = 0 from he)] at h
  have fe : (er != 0) = true := bne_iff_ne.mpr he
  have fe' : (er == 0) = false := beq_eq_false_iff_ne.mpr he
  go_enter Tryd.func6, Tryd.ntmps6
  go_wp2_with (first
   | (go_at_call 20; (refine (isthmuslaw18_Code.calls A0 c0 l0 A1 c1 l1 (some ⟨w.heap.size, 0, none⟩) 2 [(⟨#[102, 101, 119]⟩ : ByteArray), (⟨#[97, 108, 108, 50]⟩ : ByteArray)] (some ⟨w.heap.size + 1, 0, none⟩) 1 [1] true ws _ hr0' hc0 h1).mono ?_); rintro e w1 ⟨v0, rfl, hR, hb⟩; obtain ⟨Aw, cw, rfl, hlw, hCw⟩ := Kd.R_reads hR; have hB1 := below_step hb0 hb; have hq2 := Kd.C_below hC2 hb; have hq3 := Kd.C_below hC3 hb; have hr1' := Kd.C_below hr1 hB1; have bx0 := heap_alloc_new w1 (.cells #[.slice Aw ws.length cw, .slice A1 l1.length c1, .slice (some ⟨w.heap.size, 0, none⟩) 2 2, .slice (some ⟨w.heap.size + 1, 0, none⟩) 1 1] 26); have y0 := blk_cell bx0 0; have y1 := blk_cell bx0 1; have y2 := blk_cell bx0 2; have y3 := blk_cell bx0 3; clear hR)
   | (go_at_call 16; (refine (isthmusref18_Encode.calls k _ _ ws _ _ l1 _ _ [(⟨#[102, 101, 119]⟩ : ByteArray), (⟨#[97, 108, 108, 50]⟩ : ByteArray)] _ _ [1] s er _ (Kd.C_alloc hCw _) hlw (Kd.C_alloc hr1' _) hc1 (Kd.C_alloc hq2 _) hlc2 (Kd.C_alloc hq3 _) hlc3 h2).mono ?_); rintro e w2 ⟨rfl, hb3⟩; have hB2 := below_then (below_alloc hB1 (.cells #[.slice Aw ws.length cw, .slice A1 l1.length c1, .slice (some ⟨w.heap.size, 0, none⟩) 2 2, .slice (some ⟨w.heap.size + 1, 0, none⟩) 1 1] 26)) (below_alloc hB1 (.cells #[.slice Aw ws.length cw, .slice A1 l1.length c1, .slice (some ⟨w.heap.size, 0, none⟩) 2 2, .slice (some ⟨w.heap.size + 1, 0, none⟩) 1 1] 26)).size hb3)
   | (go_at_call 11; (refine (isthmuslaw18_awake.calls k r _ (hG.below hB2) h).mono ?_); rintro e w3 ⟨rfl, hb4⟩; have hB3 := below_then hB2 hB2.size hb4))
  go_ret
  exact ⟨rfl, hB3⟩
 case pos =>
 rw [if_pos (show ((s, er) : ByteArray × Int).2 = 0 from he)] at h
 subst he
 have fe : ((0 : Int) != 0) = false := rfl
 obtain ⟨i, h3, t1⟩ := Option.bind_eq_some_iff.mp h
 clear h
 obtain ⟨hw, h4, t2⟩ := Option.bind_eq_some_iff.mp t1
 clear t1
 obtain ⟨s', h5, h6⟩ := Option.bind_eq_some_iff.mp t2
 clear t2
 have H3 := Aside0.mk (show isthmuslaw18_pick.f at_ (s.size : Int) = some i from h3)
 replace h5 : trn k s i hw by_ = some s' := h5
 have H4 := Aside0.mk h4
 have H6 := Aside0.mk h6
 clear h3 h4 h6
 unfold trn at h5
 by_cases hi : 0 ≤ i ∧ i < (s.size : Int) ∧ s.size < 9223372036854775807
 case neg => rw [if_neg hi] at h5; cases h5
 rw [if_pos hi] at h5
 have HI := Aside0.mk hi
 have g1_ := eq_true hi.1
 have g2_ : (i ≤ (s.size : Int)) = True := eq_true (by omega)
 have g3_ : (i + 1 ≤ (s.size : Int)) = True := eq_true (by omega)
 have g4_ : (0 ≤ i + 1) = True := eq_true (by omega)
 have fi : wrap64 (i + 1) = i + 1 := by unfold wrap64; omega
 have e1_ : (s.extract 0 i.toNat).size = i.toNat := by rw [ByteArray.size_extract]; omega
 have e2_ : (s.extract (i + 1).toNat s.size).size = s.size - (i + 1).toNat := by rw [ByteArray.size_extract, Nat.min_self]
 have e3_ : (s.extract i.toNat s.size).size = s.size - i.toNat := by rw [ByteArray.size_extract, Nat.min_self]
 have hsn : (strOfNums [0]).size = 1 := rfl
 have e4_ : ∀ b, (strOfNums [b]).size = 1 := fun _ => rfl
 have n1_ : ∀ b, (9223372036854775807 < i.toNat + (strOfNums [b]).size) = False := fun b => eq_false (by rw [e4_]; omega)
 have n2_ : ∀ b, (9223372036854775807 < i.toNat + (strOfNums [b]).size + (s.size - (i + 1).toNat)) = False := fun b => eq_false (by rw [e4_]; omega)
 have n3_ : ∀ b, (9223372036854775807 < i.toNat + (strOfNums [b]).size + (s.size - i.toNat)) = False := fun b => eq_false (by rw [e4_]; omega)
 have n4_ : (9223372036854775807 < i.toNat + (s.size - (i + 1).toNat)) = False := eq_false (by omega)
 clear hsn e1_ e2_ e3_ e4_ hi
 by_cases k0 : hw = 0
 ·rw [if_pos k0] at h5
  subst k0
  have u0 : ((0 : Int) == 0) = true := rfl
  obtain ⟨b, hb_, h5⟩ := Option.bind_eq_some_iff.mp h5
  obtain rfl := Option.some.inj h5
  have H5 := Aside0.mk hb_
  clear hb_ h5
  have HS' := H6
  go_enter Tryd.func6, Tryd.ntmps6
  go_wp2_with (first
   | (go_at_call 20; (refine (isthmuslaw18_Code.calls A0 c0 l0 A1 c1 l1 (some ⟨w.heap.size, 0, none⟩) 2 [(⟨#[102, 101, 119]⟩ : ByteArray), (⟨#[97, 108, 108, 50]⟩ : ByteArray)] (some ⟨w.heap.size + 1, 0, none⟩) 1 [1] true ws _ hr0' hc0 h1).mono ?_); rintro e w1 ⟨v0, rfl, hR, hb⟩; obtain ⟨Aw, cw, rfl, hlw, hCw⟩ := Kd.R_reads hR; have hB1 := below_step hb0 hb; have hq2 := Kd.C_below hC2 hb; have hq3 := Kd.C_below hC3 hb; have hr1' := Kd.C_below hr1 hB1; have bx0 := heap_alloc_new w1 (.cells #[.slice Aw ws.length cw, .slice A1 l1.length c1, .slice (some ⟨w.heap.size, 0, none⟩) 2 2, .slice (some ⟨w.heap.size + 1, 0, none⟩) 1 1] 26); have y0 := blk_cell bx0 0; have y1 := blk_cell bx0 1; have y2 := blk_cell bx0 2; have y3 := blk_cell bx0 3; clear hR)
   | (go_at_call 16; (refine (isthmusref18_Encode.calls k _ _ ws _ _ l1 _ _ [(⟨#[102, 101, 119]⟩ : ByteArray), (⟨#[97, 108, 108, 50]⟩ : ByteArray)] _ _ [1] s 0 _ (Kd.C_alloc hCw _) hlw (Kd.C_alloc hr1' _) hc1 (Kd.C_alloc hq2 _) hlc2 (Kd.C_alloc hq3 _) hlc3 h2).mono ?_); rintro e w2 ⟨rfl, hb3⟩; have hB2 := below_then (below_alloc hB1 (.cells #[.slice Aw ws.length cw, .slice A1 l1.length c1, .slice (some ⟨w.heap.size, 0, none⟩) 2 2, .slice (some ⟨w.heap.size + 1, 0, none⟩) 1 1] 26)) (below_alloc hB1 (.cells #[.slice Aw ws.length cw, .slice A1 l1.length c1, .slice (some ⟨w.heap.size, 0, none⟩) 2 2, .slice (some ⟨w.heap.size + 1, 0, none⟩) 1 1] 26)).size hb3)
   | (go_at_call 25; (with_reducible refine (isthmuslaw18_pick.calls at_ _ i _ H3.out).mono ?_); rintro e w4 ⟨rfl, hd⟩; have hb5 : Below w2.heap.size w2 w4 := (by obtain ⟨nd, rfl⟩ := hd; repeat (first | exact Below.refl _ _ | apply pw_below_drewN)); have hB4 := Aside0.mk (below_then hB2 hB2.size hb5); clear hd hb5)
   | (go_at_call 25; (with_reducible refine (isthmuslaw18_pick.calls how 4 _ _ H4.out).mono ?_); rintro e w5 ⟨rfl, hd⟩; have hb5 : Below w4.heap.size w4 w5 := (by obtain ⟨nd, rfl⟩ := hd; repeat (first | exact Below.refl _ _ | apply pw_below_drewN)); have hB5 := Aside0.mk (below_then hB4.out hB4.out.size hb5); clear hd hb5))
  go_wp2_with fail
  refine start_ (n := 15) (S := fun w' => True) (ds := []) #[false, false, false, false, false, false, false, false, false, false, false, false, false, false, false] (by kernel_rfl) rfl rfl trivial (fun hHeld => ?_)
  have hB5_ := hB5.out.drew
  generalize w5.drew = wd at hB5_ ⊢
  refine pure_ (i := 0) (N := some 39) (v := ?_) (a' := ?_) #[true, false, false, false, false, false, false, false, false, false, false, false, false, false, false] rfl rfl (by kernel_rfl) (fun _ _ _ h => h) (Or.inl ⟨by rfl, ?_⟩) ?_ ?_
  rotate_left
  ·intro w'
   go_simp
   with_reducible rfl
  rotate_left
  ·simp only [Act.put, List.setIfInBounds_toArray, List.set_cons_zero, List.set_cons_succ, i64_w, i32_w]
   rfl
  refine pure_ (i := 1) (N := some 40) (v := ?_) (a' := ?_) #[true, true, false, false, false, false, false, false, false, false, false, false, false, false, false] rfl rfl (by kernel_rfl) (fun _ _ _ h => h) (Or.inl ⟨by rfl, ?_⟩) ?_ ?_
  rotate_left
  ·intro w'
   go_simp
   with_reducible rfl
  rotate_left
  ·simp only [Act.put, List.setIfInBounds_toArray, List.set_cons_zero, List.set_cons_succ, i64_w, i32_w]
   rfl
  refine pure_ (i := 2) (N := some 41) (v := ?_) (a' := ?_) #[true, true, true, false, false, false, false, false, false, false, false, false, false, false, false] rfl rfl (by kernel_rfl) (fun _ _ _ h => h) (Or.inl ⟨by rfl, ?_⟩) ?_ ?_
  rotate_left
  ·intro w'
   go_simp
   with_reducible rfl
  rotate_left
  ·simp only [Act.put, List.setIfInBounds_toArray, List.set_cons_zero, List.set_cons_succ, i64_w, i32_w]
   rfl
  refine pure_ (i := 3) (N := some 42) (v := ?_) (a' := ?_) #[true, true, true, true, false, false, false, false, false, false, false, false, false, false, false] rfl rfl (by kernel_rfl) (fun _ _ _ h => h) (Or.inl ⟨by rfl, ?_⟩) ?_ ?_
  rotate_left
  ·intro w'
   go_simp
   with_reducible rfl
  rotate_left
  ·simp only [Act.put, List.setIfInBounds_toArray, List.set_cons_zero, List.set_cons_succ, i64_w, i32_w]
   rfl
  refine pure_ (i := 9) (N := some 48) (v := ?_) (a' := ?_) #[true, true, true, true, false, false, false, false, false, true, false, false, false, false, false] rfl rfl (by kernel_rfl) (fun _ _ _ h => h) (Or.inl ⟨by rfl, ?_⟩) ?_ ?_
  rotate_left
  ·intro w'
   go_simp
   with_reducible rfl
  rotate_left
  ·simp only [Act.put, List.setIfInBounds_toArray, List.set_cons_zero, List.set_cons_succ, i64_w, i32_w]
   rfl
  refine pure_ (i := 10) (N := some 49) (v := ?_) (a' := ?_) #[true, true, true, true, false, false, false, false, false, true, true, false, false, false, false] rfl rfl (by kernel_rfl) (fun _ _ _ h => h) (Or.inl ⟨by rfl, ?_⟩) ?_ ?_
  rotate_left
  ·intro w'
   go_simp
   with_reducible rfl
  rotate_left
  ·simp only [Act.put, List.setIfInBounds_toArray, List.set_cons_zero, List.set_cons_succ, i64_w, i32_w]
   rfl
  refine pure_ (i := 11) (N := some 50) (v := ?_) (a' := ?_) #[true, true, true, true, false, false, false, false, false, true, true, true, false, false, false] rfl rfl (by kernel_rfl) (fun _ _ _ h => h) (Or.inl ⟨by rfl, ?_⟩) ?_ ?_
  rotate_left
  ·intro w'
   go_simp
   with_reducible rfl
  rotate_left
  ·simp only [Act.put, List.setIfInBounds_toArray, List.set_cons_zero, List.set_cons_succ, i64_w, i32_w]
   rfl
  refine pure_ (i := 12) (N := some 51) (v := ?_) (a' := ?_) #[true, true, true, true, false, false, false, false, false, true, true, true, true, false, false] rfl rfl (by kernel_rfl) (fun _ _ _ h => h) (Or.inl ⟨by rfl, ?_⟩) ?_ ?_
  rotate_left
  ·intro w'
   go_simp
   with_reducible rfl
  rotate_left
  ·simp only [Act.put, List.setIfInBounds_toArray, List.set_cons_zero, List.set_cons_succ, i64_w, i32_w]
   rfl
  refine one_ (i := 4) (N := some 43) #[true, true, true, true, true, false, false, false, false, true, true, true, true, false, false] rfl rfl (by kernel_rfl) (by decide) (fun K hK => ?_)
  refine goes_ Tryd.func25 (by kernel_rfl) rfl #[.int .i64 by_, .int .i64 256] (by rfl) rfl rfl (by (try simp only [List.map_toArray, List.map_cons, List.map_nil]); first | done | rfl) ?_
  refine (isthmuslaw18_pick.calls by_ 256 b _ H5.out).mono ?_
  rintro e w6 ⟨rfl, ⟨nd, hnd⟩⟩
  refine ⟨_, rfl, ?_⟩
  have hB6 : Below w.heap.size w w6 := (by rw [hnd]; exact pw_below_drewN hB5_ nd)
  clear hnd
  refine hK.out _ _ trivial (fun hHeld => ?_)
  clear hK K
  refine norm_ (a' := ?_) ?_ ?_
  rotate_left
  ·show Act.put _ (some 43) _ = _
   simp only [Act.put, List.setIfInBounds_toArray, List.set_cons_zero, List.set_cons_succ, i64_w, i32_w]
   rfl
  refine pure_ (i := 5) (N := some 44) (v := ?_) (a' := ?_) #[true, true, true, true, true, true, false, false, false, true, true, true, true, false, false] rfl rfl (by kernel_rfl) (fun _ _ _ h => h) (Or.inl ⟨by rfl, ?_⟩) ?_ ?_
  rotate_left
  ·intro w'
   go_simp
   with_reducible rfl
  rotate_left
  ·simp only [Act.put, List.setIfInBounds_toArray, List.set_cons_zero, List.set_cons_succ, i64_w, i32_w]
   rfl
  refine one_ (i := 6) (N := some 45) #[true, true, true, true, true, true, true, false, false, true, true, true, true, false, false] rfl rfl (by kernel_rfl) (by decide) (fun K hK => ?_)
  refine value_ (w1 := w6.alloc (.cells #[.int .u8 (IntKind.u8.wrap b)] 5)) (v := .slice (some ⟨w6.heap.size, 0, none⟩) 1 1) (by rfl) rfl (by go_simp) ?_
  have hrd : ReadsInt (w6.alloc (.cells #[.int .u8 (IntKind.u8.wrap b)] 5)) .u8 (some ⟨w6.heap.size, 0, none⟩) ([IntKind.u8.wrap b] : List Int).length [IntKind.u8.wrap b] := own_reads' (c := 1) (base := w6.heap.size) (e := 5) ⟨rfl, .inr ⟨_, 1, _, rfl, Nat.le_refl _, heap_alloc_new _ _, Nat.le_refl _, by decide, rfl, rfl⟩⟩
  have hB7 := below_alloc hB6 (.cells #[.int .u8 (IntKind.u8.wrap b)] 5)
  refine hK.out _ _ trivial (fun hHeld => ?_)
  clear hK K
  refine norm_ (a' := ?_) ?_ ?_
  rotate_left
  ·show Act.put _ (some 45) _ = _
   simp only [Act.put, List.setIfInBounds_toArray, List.set_cons_zero, List.set_cons_succ, i64_w, i32_w]
   rfl
  refine one_ (i := 7) (N := some 46) #[true, true, true, true, true, true, true, true, false, true, true, true, true, false, false] rfl rfl (by kernel_rfl) (by decide) (fun K hK => ?_)
  have hcv : (convert 44 9 (.slice (some ⟨w6.heap.size, 0, none⟩) 1 1)).run Tryd.prog (w6.alloc (.cells #[.int .u8 (IntKind.u8.wrap b)] 5)) = .ok (.string (strOfNums [IntKind.u8.wrap b])) (w6.alloc (.cells #[.int .u8 (IntKind.u8.wrap b)] 5)) := string_of_reads (c := 1) Tryd.underlying44 Tryd.underlying5 Tryd.underlying9 hrd
  refine value_ (w1 := w6.alloc (.cells #[.int .u8 (IntKind.u8.wrap b)] 5)) (v := .string (strOfNums [IntKind.u8.wrap b])) (by rfl) rfl (by go_simp) ?_
  refine hK.out _ _ trivial (fun hHeld => ?_)
  clear hK K
  refine norm_ (a' := ?_) ?_ ?_
  rotate_left
  ·show Act.put _ (some 46) _ = _
   simp only [Act.put, List.setIfInBounds_toArray, List.set_cons_zero, List.set_cons_succ, i64_w, i32_w]
   rfl
  refine pure_ (i := 8) (N := some 47) (v := ?_) (a' := ?_) #[true, true, true, true, true, true, true, true, true, true, true, true, true, false, false] rfl rfl (by kernel_rfl) (fun _ _ _ h => h) (Or.inl ⟨by rfl, ?_⟩) ?_ ?_
  rotate_left
  ·intro w'
   go_simp
   with_reducible rfl
  rotate_left
  ·simp only [Act.put, List.setIfInBounds_toArray, List.set_cons_zero, List.set_cons_succ, i64_w, i32_w]
   rfl
  refine pure_ (i := 13) (N := some 52) (v := ?_) (a' := ?_) #[true, true, true, true, true, true, true, true, true, true, true, true, true, true, false] rfl rfl (by kernel_rfl) (fun _ _ _ h => h) (Or.inl ⟨by rfl, ?_⟩) ?_ ?_
  rotate_left
  ·intro w'
   go_simp
   with_reducible rfl
  rotate_left
  ·simp only [Act.put, List.setIfInBounds_toArray, List.set_cons_zero, List.set_cons_succ, i64_w, i32_w]
   rfl
  refine pure_ (i := 14) (N := some 12) (v := ?_) (a' := ?_) #[true, true, true, true, true, true, true, true, true, true, true, true, true, true, true] rfl rfl (by kernel_rfl) (fun _ _ _ h => h) (Or.inl ⟨by rfl, ?_⟩) ?_ ?_
  rotate_left
  ·intro w'
   go_simp
   with_reducible rfl
  rotate_left
  ·simp only [Act.put, List.setIfInBounds_toArray, List.set_cons_zero, List.set_cons_succ, i64_w, i32_w]
   rfl
  refine done_ (by kernel_rfl) ?_
  go_wp2_with (go_at_call 5; (refine (isthmuslaw18_CodeReads.calls k _ r _ (hG.below hB7) H6.out).mono ?_); rintro e w8 ⟨rfl, hb8⟩; have hB8 := below_then hB7 hB7.size hb8)
  go_ret
  exact ⟨rfl, hB8⟩
 rw [if_neg k0] at h5
 have u0 : (hw == 0) = false := beq_eq_false_iff_ne.mpr k0
 by_cases k1 : hw = 1
 ·rw [if_pos k1] at h5
  subst k1
  obtain rfl := Option.some.inj h5
  clear h5
  have HS' := H6
  go_enter Tryd.func6, Tryd.ntmps6
  go_wp2_with (first
   | (go_at_call 20; (refine (isthmuslaw18_Code.calls A0 c0 l0 A1 c1 l1 (some ⟨w.heap.size, 0, none⟩) 2 [(⟨#[102, 101, 119]⟩ : ByteArray), (⟨#[97, 108, 108, 50]⟩ : ByteArray)] (some ⟨w.heap.size + 1, 0, none⟩) 1 [1] true ws _ hr0' hc0 h1).mono ?_); rintro e w1 ⟨v0, rfl, hR, hb⟩; obtain ⟨Aw, cw, rfl, hlw, hCw⟩ := Kd.R_reads hR; have hB1 := below_step hb0 hb; have hq2 := Kd.C_below hC2 hb; have hq3 := Kd.C_below hC3 hb; have hr1' := Kd.C_below hr1 hB1; have bx0 := heap_alloc_new w1 (.cells #[.slice Aw ws.length cw, .slice A1 l1.length c1, .slice (some ⟨w.heap.size, 0, none⟩) 2 2, .slice (some ⟨w.heap.size + 1, 0, none⟩) 1 1] 26); have y0 := blk_cell bx0 0; have y1 := blk_cell bx0 1; have y2 := blk_cell bx0 2; have y3 := blk_cell bx0 3; clear hR)
   | (go_at_call 16; (refine (isthmusref18_Encode.calls k _ _ ws _ _ l1 _ _ [(⟨#[102, 101, 119]⟩ : ByteArray), (⟨#[97, 108, 108, 50]⟩ : ByteArray)] _ _ [1] s 0 _ (Kd.C_alloc hCw _) hlw (Kd.C_alloc hr1' _) hc1 (Kd.C_alloc hq2 _) hlc2 (Kd.C_alloc hq3 _) hlc3 h2).mono ?_); rintro e w2 ⟨rfl, hb3⟩; have hB2 := below_then (below_alloc hB1 (.cells #[.slice Aw ws.length cw, .slice A1 l1.length c1, .slice (some ⟨w.heap.size, 0, none⟩) 2 2, .slice (some ⟨w.heap.size + 1, 0, none⟩) 1 1] 26)) (below_alloc hB1 (.cells #[.slice Aw ws.length cw, .slice A1 l1.length c1, .slice (some ⟨w.heap.size, 0, none⟩) 2 2, .slice (some ⟨w.heap.size + 1, 0, none⟩) 1 1] 26)).size hb3)
   | (go_at_call 25; (with_reducible refine (isthmuslaw18_pick.calls at_ _ i _ H3.out).mono ?_); rintro e w4 ⟨rfl, hd⟩; have hb5 : Below w2.heap.size w2 w4 := (by obtain ⟨nd, rfl⟩ := hd; repeat (first | exact Below.refl _ _ | apply pw_below_drewN)); have hB4 := Aside0.mk (below_then hB2 hB2.size hb5); clear hd hb5)
   | (go_at_call 25; (with_reducible refine (isthmuslaw18_pick.calls how 4 _ _ H4.out).mono ?_); rintro e w5 ⟨rfl, hd⟩; have hb5 : Below w4.heap.size w4 w5 := (by obtain ⟨nd, rfl⟩ := hd; repeat (first | exact Below.refl _ _ | apply pw_below_drewN)); have hB5 := Aside0.mk (below_then hB4.out hB4.out.size hb5); clear hd hb5))
  go_wp2_with fail
  refine start_ (n := 9) (S := fun w' => True) (ds := []) #[false, false, false, false, false, false, false, false, false] (by kernel_rfl) rfl rfl trivial (fun hHeld => ?_)
  have hB7 := hB5.out.drew
  generalize w5.drew = wd at hB7 ⊢
  refine pure_ (i := 0) (N := some 55) (v := ?_) (a' := ?_) #[true, false, false, false, false, false, false, false, false] rfl rfl (by kernel_rfl) (fun _ _ _ h => h) (Or.inl ⟨by rfl, ?_⟩) ?_ ?_
  rotate_left
  ·intro w'
   go_simp
   with_reducible rfl
  rotate_left
  ·simp only [Act.put, List.setIfInBounds_toArray, List.set_cons_zero, List.set_cons_succ, i64_w, i32_w]
   rfl
  refine pure_ (i := 1) (N := some 56) (v := ?_) (a' := ?_) #[true, true, false, false, false, false, false, false, false] rfl rfl (by kernel_rfl) (fun _ _ _ h => h) (Or.inl ⟨by rfl, ?_⟩) ?_ ?_
  rotate_left
  ·intro w'
   go_simp
   with_reducible rfl
  rotate_left
  ·simp only [Act.put, List.setIfInBounds_toArray, List.set_cons_zero, List.set_cons_succ, i64_w, i32_w]
   rfl
  refine pure_ (i := 2) (N := some 57) (v := ?_) (a' := ?_) #[true, true, true, false, false, false, false, false, false] rfl rfl (by kernel_rfl) (fun _ _ _ h => h) (Or.inl ⟨by rfl, ?_⟩) ?_ ?_
  rotate_left
  ·intro w'
   go_simp
   with_reducible rfl
  rotate_left
  ·simp only [Act.put, List.setIfInBounds_toArray, List.set_cons_zero, List.set_cons_succ, i64_w, i32_w]
   rfl
  refine pure_ (i := 3) (N := some 58) (v := ?_) (a' := ?_) #[true, true, true, true, false, false, false, false, false] rfl rfl (by kernel_rfl) (fun _ _ _ h => h) (Or.inl ⟨by rfl, ?_⟩) ?_ ?_
  rotate_left
  ·intro w'
   go_simp
   with_reducible rfl
  rotate_left
  ·simp only [Act.put, List.setIfInBounds_toArray, List.set_cons_zero, List.set_cons_succ, i64_w, i32_w]
   rfl
  refine pure_ (i := 4) (N := some 59) (v := ?_) (a' := ?_) #[true, true, true, true, true, false, false, false, false] rfl rfl (by kernel_rfl) (fun _ _ _ h => h) (Or.inl ⟨by rfl, ?_⟩) ?_ ?_
  rotate_left
  ·intro w'
   go_simp
   with_reducible rfl
  rotate_left
  ·simp only [Act.put, List.setIfInBounds_toArray, List.set_cons_zero, List.set_cons_succ, i64_w, i32_w]
   rfl
  refine pure_ (i := 5) (N := some 60) (v := ?_) (a' := ?_) #[true, true, true, true, true, true, false, false, false] rfl rfl (by kernel_rfl) (fun _ _ _ h => h) (Or.inl ⟨by rfl, ?_⟩) ?_ ?_
  rotate_left
  ·intro w'
   go_simp
   with_reducible rfl
  rotate_left
  ·simp only [Act.put, List.setIfInBounds_toArray, List.set_cons_zero, List.set_cons_succ, i64_w, i32_w]
   rfl
  refine pure_ (i := 6) (N := some 61) (v := ?_) (a' := ?_) #[true, true, true, true, true, true, true, false, false] rfl rfl (by kernel_rfl) (fun _ _ _ h => h) (Or.inl ⟨by rfl, ?_⟩) ?_ ?_
  rotate_left
  ·intro w'
   go_simp
   with_reducible rfl
  rotate_left
  ·simp only [Act.put, List.setIfInBounds_toArray, List.set_cons_zero, List.set_cons_succ, i64_w, i32_w]
   rfl
  refine pure_ (i := 7) (N := some 62) (v := ?_) (a' := ?_) #[true, true, true, true, true, true, true, true, false] rfl rfl (by kernel_rfl) (fun _ _ _ h => h) (Or.inl ⟨by rfl, ?_⟩) ?_ ?_
  rotate_left
  ·intro w'
   go_simp
   with_reducible rfl
  rotate_left
  ·simp only [Act.put, List.setIfInBounds_toArray, List.set_cons_zero, List.set_cons_succ, i64_w, i32_w]
   rfl
  refine pure_ (i := 8) (N := some 12) (v := ?_) (a' := ?_) #[true, true, true, true, true, true, true, true, true] rfl rfl (by kernel_rfl) (fun _ _ _ h => h) (Or.inl ⟨by rfl, ?_⟩) ?_ ?_
  rotate_left
  ·intro w'
   go_simp
   with_reducible rfl
  rotate_left
  ·simp only [Act.put, List.setIfInBounds_toArray, List.set_cons_zero, List.set_cons_succ, i64_w, i32_w]
   rfl
  refine done_ (by kernel_rfl) ?_
  go_wp2_with (go_at_call 5; (refine (isthmuslaw18_CodeReads.calls k _ r _ (hG.below hB7) H6.out).mono ?_); rintro e w8 ⟨rfl, hb8⟩; have hB8 := below_then hB7 hB7.size hb8)
  go_ret
  exact ⟨rfl, hB8⟩
 rw [if_neg k1] at h5
 have u1 : (hw == 1) = false := beq_eq_false_iff_ne.mpr k1
 by_cases k2 : hw = 2
 ·rw [if_pos k2] at h5
  subst k2
  obtain ⟨b, hb_, h5⟩ := Option.bind_eq_some_iff.mp h5
  obtain rfl := Option.some.inj h5
  have H5 := Aside0.mk hb_
  clear hb_ h5
  have HS' := H6
  go_enter Tryd.func6, Tryd.ntmps6
  go_wp2_with (first
   | (go_at_call 20; (refine (isthmuslaw18_Code.calls A0 c0 l0 A1 c1 l1 (some ⟨w.heap.size, 0, none⟩) 2 [(⟨#[102, 101, 119]⟩ : ByteArray), (⟨#[97, 108, 108, 50]⟩ : ByteArray)] (some ⟨w.heap.size + 1, 0, none⟩) 1 [1] true ws _ hr0' hc0 h1).mono ?_); rintro e w1 ⟨v0, rfl, hR, hb⟩; obtain ⟨Aw, cw, rfl, hlw, hCw⟩ := Kd.R_reads hR; have hB1 := below_step hb0 hb; have hq2 := Kd.C_below hC2 hb; have hq3 := Kd.C_below hC3 hb; have hr1' := Kd.C_below hr1 hB1; have bx0 := heap_alloc_new w1 (.cells #[.slice Aw ws.length cw, .slice A1 l1.length c1, .slice (some ⟨w.heap.size, 0, none⟩) 2 2, .slice (some ⟨w.heap.size + 1, 0, none⟩) 1 1] 26); have y0 := blk_cell bx0 0; have y1 := blk_cell bx0 1; have y2 := blk_cell bx0 2; have y3 := blk_cell bx0 3; clear hR)
   | (go_at_call 16; (refine (isthmusref18_Encode.calls k _ _ ws _ _ l1 _ _ [(⟨#[102, 101, 119]⟩ : ByteArray), (⟨#[97, 108, 108, 50]⟩ : ByteArray)] _ _ [1] s 0 _ (Kd.C_alloc hCw _) hlw (Kd.C_alloc hr1' _) hc1 (Kd.C_alloc hq2 _) hlc2 (Kd.C_alloc hq3 _) hlc3 h2).mono ?_); rintro e w2 ⟨rfl, hb3⟩; have hB2 := below_then (below_alloc hB1 (.cells #[.slice Aw ws.length cw, .slice A1 l1.length c1, .slice (some ⟨w.heap.size, 0, none⟩) 2 2, .slice (some ⟨w.heap.size + 1, 0, none⟩) 1 1] 26)) (below_alloc hB1 (.cells #[.slice Aw ws.length cw, .slice A1 l1.length c1, .slice (some ⟨w.heap.size, 0, none⟩) 2 2, .slice (some ⟨w.heap.size + 1, 0, none⟩) 1 1] 26)).size hb3)
   | (go_at_call 25; (with_reducible refine (isthmuslaw18_pick.calls at_ _ i _ H3.out).mono ?_); rintro e w4 ⟨rfl, hd⟩; have hb5 : Below w2.heap.size w2 w4 := (by obtain ⟨nd, rfl⟩ := hd; repeat (first | exact Below.refl _ _ | apply pw_below_drewN)); have hB4 := Aside0.mk (below_then hB2 hB2.size hb5); clear hd hb5)
   | (go_at_call 25; (with_reducible refine (isthmuslaw18_pick.calls how 4 _ _ H4.out).mono ?_); rintro e w5 ⟨rfl, hd⟩; have hb5 : Below w4.heap.size w4 w5 := (by obtain ⟨nd, rfl⟩ := hd; repeat (first | exact Below.refl _ _ | apply pw_below_drewN)); have hB5 := Aside0.mk (below_then hB4.out hB4.out.size hb5); clear hd hb5))
  go_wp2_with fail
  refine start_ (n := 14) (S := fun w' => True) (ds := []) #[false, false, false, false, false, false, false, false, false, false, false, false, false, false] (by kernel_rfl) rfl rfl trivial (fun hHeld => ?_)
  have hB5_ := hB5.out.drew
  generalize w5.drew = wd at hB5_ ⊢
  refine pure_ (i := 0) (N := some 65) (v := ?_) (a' := ?_) #[true, false, false, false, false, false, false, false, false, false, false, false, false, false] rfl rfl (by kernel_rfl) (fun _ _ _ h => h) (Or.inl ⟨by rfl, ?_⟩) ?_ ?_
  rotate_left
  ·intro w'
   go_simp
   with_reducible rfl
  rotate_left
  ·simp only [Act.put, List.setIfInBounds_toArray, List.set_cons_zero, List.set_cons_succ, i64_w, i32_w]
   rfl
  refine pure_ (i := 1) (N := some 66) (v := ?_) (a' := ?_) #[true, true, false, false, false, false, false, false, false, false, false, false, false, false] rfl rfl (by kernel_rfl) (fun _ _ _ h => h) (Or.inl ⟨by rfl, ?_⟩) ?_ ?_
  rotate_left
  ·intro w'
   go_simp
   with_reducible rfl
  rotate_left
  ·simp only [Act.put, List.setIfInBounds_toArray, List.set_cons_zero, List.set_cons_succ, i64_w, i32_w]
   rfl
  refine pure_ (i := 2) (N := some 67) (v := ?_) (a' := ?_) #[true, true, true, false, false, false, false, false, false, false, false, false, false, false] rfl rfl (by kernel_rfl) (fun _ _ _ h => h) (Or.inl ⟨by rfl, ?_⟩) ?_ ?_
  rotate_left
  ·intro w'
   go_simp
   with_reducible rfl
  rotate_left
  ·simp only [Act.put, List.setIfInBounds_toArray, List.set_cons_zero, List.set_cons_succ, i64_w, i32_w]
   rfl
  refine pure_ (i := 3) (N := some 68) (v := ?_) (a' := ?_) #[true, true, true, true, false, false, false, false, false, false, false, false, false, false] rfl rfl (by kernel_rfl) (fun _ _ _ h => h) (Or.inl ⟨by rfl, ?_⟩) ?_ ?_
  rotate_left
  ·intro w'
   go_simp
   with_reducible rfl
  rotate_left
  ·simp only [Act.put, List.setIfInBounds_toArray, List.set_cons_zero, List.set_cons_succ, i64_w, i32_w]
   rfl
  refine pure_ (i := 9) (N := some 74) (v := ?_) (a' := ?_) #[true, true, true, true, false, false, false, false, false, true, false, false, false, false] rfl rfl (by kernel_rfl) (fun _ _ _ h => h) (Or.inl ⟨by rfl, ?_⟩) ?_ ?_
  rotate_left
  ·intro w'
   go_simp
   with_reducible rfl
  rotate_left
  ·simp only [Act.put, List.setIfInBounds_toArray, List.set_cons_zero, List.set_cons_succ, i64_w, i32_w]
   rfl
  refine pure_ (i := 10) (N := some 75) (v := ?_) (a' := ?_) #[true, true, true, true, false, false, false, false, false, true, true, false, false, false] rfl rfl (by kernel_rfl) (fun _ _ _ h => h) (Or.inl ⟨by rfl, ?_⟩) ?_ ?_
  rotate_left
  ·intro w'
   go_simp
   with_reducible rfl
  rotate_left
  ·simp only [Act.put, List.setIfInBounds_toArray, List.set_cons_zero, List.set_cons_succ, i64_w, i32_w]
   rfl
  refine pure_ (i := 11) (N := some 76) (v := ?_) (a' := ?_) #[true, true, true, true, false, false, false, false, false, true, true, true, false, false] rfl rfl (by kernel_rfl) (fun _ _ _ h => h) (Or.inl ⟨by rfl, ?_⟩) ?_ ?_
  rotate_left
  ·intro w'
   go_simp
   with_reducible rfl
  rotate_left
  ·simp only [Act.put, List.setIfInBounds_toArray, List.set_cons_zero, List.set_cons_succ, i64_w, i32_w]
   rfl
  refine one_ (i := 4) (N := some 69) #[true, true, true, true, true, false, false, false, false, true, true, true, false, false] rfl rfl (by kernel_rfl) (by decide) (fun K hK => ?_)
  refine goes_ Tryd.func25 (by kernel_rfl) rfl #[.int .i64 by_, .int .i64 256] (by rfl) rfl rfl (by (try simp only [List.map_toArray, List.map_cons, List.map_nil]); first | done | rfl) ?_
  refine (isthmuslaw18_pick.calls by_ 256 b _ H5.out).mono ?_
  rintro e w6 ⟨rfl, ⟨nd, hnd⟩⟩
  refine ⟨_, rfl, ?_⟩
  have hB6 : Below w.heap.size w w6 := (by rw [hnd]; exact pw_below_drewN hB5_ nd)
  clear hnd
  refine hK.out _ _ trivial (fun hHeld => ?_)
  clear hK K
  refine norm_ (a' := ?_) ?_ ?_
  rotate_left
  ·show Act.put _ (some 69) _ = _
   simp only [Act.put, List.setIfInBounds_toArray, List.set_cons_zero, List.set_cons_succ, i64_w, i32_w]
   rfl
  refine pure_ (i := 5) (N := some 70) (v := ?_) (a' := ?_) #[true, true, true, true, true, true, false, false, false, true, true, true, false, false] rfl rfl (by kernel_rfl) (fun _ _ _ h => h) (Or.inl ⟨by rfl, ?_⟩) ?_ ?_
  rotate_left
  ·intro w'
   go_simp
   with_reducible rfl
  rotate_left
  ·simp only [Act.put, List.setIfInBounds_toArray, List.set_cons_zero, List.set_cons_succ, i64_w, i32_w]
   rfl
  refine one_ (i := 6) (N := some 71) #[true, true, true, true, true, true, true, false, false, true, true, true, false, false] rfl rfl (by kernel_rfl) (by decide) (fun K hK => ?_)
  refine value_ (w1 := w6.alloc (.cells #[.int .u8 (IntKind.u8.wrap b)] 5)) (v := .slice (some ⟨w6.heap.size, 0, none⟩) 1 1) (by rfl) rfl (by go_simp) ?_
  have hrd : ReadsInt (w6.alloc (.cells #[.int .u8 (IntKind.u8.wrap b)] 5)) .u8 (some ⟨w6.heap.size, 0, none⟩) ([IntKind.u8.wrap b] : List Int).length [IntKind.u8.wrap b] := own_reads' (c := 1) (base := w6.heap.size) (e := 5) ⟨rfl, .inr ⟨_, 1, _, rfl, Nat.le_refl _, heap_alloc_new _ _, Nat.le_refl _, by decide, rfl, rfl⟩⟩
  have hB7 := below_alloc hB6 (.cells #[.int .u8 (IntKind.u8.wrap b)] 5)
  refine hK.out _ _ trivial (fun hHeld => ?_)
  clear hK K
  refine norm_ (a' := ?_) ?_ ?_
  rotate_left
  ·show Act.put _ (some 71) _ = _
   simp only [Act.put, List.setIfInBounds_toArray, List.set_cons_zero, List.set_cons_succ, i64_w, i32_w]
   rfl
  refine one_ (i := 7) (N := some 72) #[true, true, true, true, true, true, true, true, false, true, true, true, false, false] rfl rfl (by kernel_rfl) (by decide) (fun K hK => ?_)
  have hcv : (convert 44 9 (.slice (some ⟨w6.heap.size, 0, none⟩) 1 1)).run Tryd.prog (w6.alloc (.cells #[.int .u8 (IntKind.u8.wrap b)] 5)) = .ok (.string (strOfNums [IntKind.u8.wrap b])) (w6.alloc (.cells #[.int .u8 (IntKind.u8.wrap b)] 5)) := string_of_reads (c := 1) Tryd.underlying44 Tryd.underlying5 Tryd.underlying9 hrd
  refine value_ (w1 := w6.alloc (.cells #[.int .u8 (IntKind.u8.wrap b)] 5)) (v := .string (strOfNums [IntKind.u8.wrap b])) (by rfl) rfl (by go_simp) ?_
  refine hK.out _ _ trivial (fun hHeld => ?_)
  clear hK K
  refine norm_ (a' := ?_) ?_ ?_
  rotate_left
  ·show Act.put _ (some 72) _ = _
   simp only [Act.put, List.setIfInBounds_toArray, List.set_cons_zero, List.set_cons_succ, i64_w, i32_w]
   rfl
  refine pure_ (i := 8) (N := some 73) (v := ?_) (a' := ?_) #[true, true, true, true, true, true, true, true, true, true, true, true, false, false] rfl rfl (by kernel_rfl) (fun _ _ _ h => h) (Or.inl ⟨by rfl, ?_⟩) ?_ ?_
  rotate_left
  ·intro w'
   go_simp
   with_reducible rfl
  rotate_left
  ·simp only [Act.put, List.setIfInBounds_toArray, List.set_cons_zero, List.set_cons_succ, i64_w, i32_w]
   rfl
  refine pure_ (i := 12) (N := some 77) (v := ?_) (a' := ?_) #[true, true, true, true, true, true, true, true, true, true, true, true, true, false] rfl rfl (by kernel_rfl) (fun _ _ _ h => h) (Or.inl ⟨by rfl, ?_⟩) ?_ ?_
  rotate_left
  ·intro w'
   go_simp
   with_reducible rfl
  rotate_left
  ·simp only [Act.put, List.setIfInBounds_toArray, List.set_cons_zero, List.set_cons_succ, i64_w, i32_w]
   rfl
  refine pure_ (i := 13) (N := some 12) (v := ?_) (a' := ?_) #[true, true, true, true, true, true, true, true, true, true, true, true, true, true] rfl rfl (by kernel_rfl) (fun _ _ _ h => h) (Or.inl ⟨by rfl, ?_⟩) ?_ ?_
  rotate_left
  ·intro w'
   go_simp
   with_reducible rfl
  rotate_left
  ·simp only [Act.put, List.setIfInBounds_toArray, List.set_cons_zero, List.set_cons_succ, i64_w, i32_w]
   rfl
  refine done_ (by kernel_rfl) ?_
  go_wp2_with (go_at_call 5; (refine (isthmuslaw18_CodeReads.calls k _ r _ (hG.below hB7) H6.out).mono ?_); rintro e w8 ⟨rfl, hb8⟩; have hB8 := below_then hB7 hB7.size hb8)
  go_ret
  exact ⟨rfl, hB8⟩
 rw [if_neg k2] at h5
 have u2 : (hw == 2) = false := beq_eq_false_iff_ne.mpr k2
 obtain rfl := Option.some.inj h5
 clear h5
 have HS' := H6
 go_enter Tryd.func6, Tryd.ntmps6
 go_wp2_with (first
  | (go_at_call 20; (refine (isthmuslaw18_Code.calls A0 c0 l0 A1 c1 l1 (some ⟨w.heap.size, 0, none⟩) 2 [(⟨#[102, 101, 119]⟩ : ByteArray), (⟨#[97, 108, 108, 50]⟩ : ByteArray)] (some ⟨w.heap.size + 1, 0, none⟩) 1 [1] true ws _ hr0' hc0 h1).mono ?_); rintro e w1 ⟨v0, rfl, hR, hb⟩; obtain ⟨Aw, cw, rfl, hlw, hCw⟩ := Kd.R_reads hR; have hB1 := below_step hb0 hb; have hq2 := Kd.C_below hC2 hb; have hq3 := Kd.C_below hC3 hb; have hr1' := Kd.C_below hr1 hB1; have bx0 := heap_alloc_new w1 (.cells #[.slice Aw ws.length cw, .slice A1 l1.length c1, .slice (some ⟨w.heap.size, 0, none⟩) 2 2, .slice (some ⟨w.heap.size + 1, 0, none⟩) 1 1] 26); have y0 := blk_cell bx0 0; have y1 := blk_cell bx0 1; have y2 := blk_cell bx0 2; have y3 := blk_cell bx0 3; clear hR)
  | (go_at_call 16; (refine (isthmusref18_Encode.calls k _ _ ws _ _ l1 _ _ [(⟨#[102, 101, 119]⟩ : ByteArray), (⟨#[97, 108, 108, 50]⟩ : ByteArray)] _ _ [1] s 0 _ (Kd.C_alloc hCw _) hlw (Kd.C_alloc hr1' _) hc1 (Kd.C_alloc hq2 _) hlc2 (Kd.C_alloc hq3 _) hlc3 h2).mono ?_); rintro e w2 ⟨rfl, hb3⟩; have hB2 := below_then (below_alloc hB1 (.cells #[.slice Aw ws.length cw, .slice A1 l1.length c1, .slice (some ⟨w.heap.size, 0, none⟩) 2 2, .slice (some ⟨w.heap.size + 1, 0, none⟩) 1 1] 26)) (below_alloc hB1 (.cells #[.slice Aw ws.length cw, .slice A1 l1.length c1, .slice (some ⟨w.heap.size, 0, none⟩) 2 2, .slice (some ⟨w.heap.size + 1, 0, none⟩) 1 1] 26)).size hb3)
  | (go_at_call 25; (with_reducible refine (isthmuslaw18_pick.calls at_ _ i _ H3.out).mono ?_); rintro e w4 ⟨rfl, hd⟩; have hb5 : Below w2.heap.size w2 w4 := (by obtain ⟨nd, rfl⟩ := hd; repeat (first | exact Below.refl _ _ | apply pw_below_drewN)); have hB4 := Aside0.mk (below_then hB2 hB2.size hb5); clear hd hb5)
  | (go_at_call 25; (with_reducible refine (isthmuslaw18_pick.calls how 4 _ _ H4.out).mono ?_); rintro e w5 ⟨rfl, hd⟩; have hb5 : Below w4.heap.size w4 w5 := (by obtain ⟨nd, rfl⟩ := hd; repeat (first | exact Below.refl _ _ | apply pw_below_drewN)); have hB5 := Aside0.mk (below_then hB4.out hB4.out.size hb5); clear hd hb5))
 go_wp2_with (go_at_call 5; (refine (isthmuslaw18_CodeReads.calls k _ r _ (hG.below hB5.out) H6.out).mono ?_); rintro e w8 ⟨rfl, hb8⟩; have hB8 := below_then hB5.out hB5.out.size hb8)
 go_ret
 exact ⟨rfl, hB8⟩
end Go.Proofs.YtnlimplbmncdeaaDoor.C
namespace Go.Proofs.YtnlimplbmncdeaaDoor.Code
open Go.RowKit Go.Proofs.YtnlimplbmncdeaaDoorW.PrintWords Go.Proofs.YtnlimplbmncdeaaDoorW.PrintMore Go.Proofs.YtnlimplbmncdeaaDoor.C Go.Proofs.YtnlimplbmncdeaaDoor.PackBits Go.Proofs.YtnlimplbmncdeaaDoor.Sevens Go.Proofs.YtnlimplbmncdeaaDoor.Pack Go.Proofs.YtnlimplbmncdeaaDoor.Lex Go.Proofs.YtnlimplbmncdeaaDoor.Str
theorem dec_two (s : ByteArray) (hs : s.size ≤ 9223372036854775807) {k : Nat} (hk : 5000000 ≤ k) :
  ∃ d1 d2 d3 d4 e, code_Decode.f k s = some (d1, d2, d3, d4, e) ∧ isthmusref18_Decode.f k s = some (d1, d2, d3, d4, e) ∧ d1.length ≤ 32768 ∧ d2.length ≤ 32768 ∧ d3.length ≤ 2000 ∧ d4.length ≤ 256 := by
 have hsame := dec_same s hs (k := k) (by omega)
 rcases dec_cases s hs (k := k) (by omega) with h | ⟨ws, cs, ns, ks, h, hw, hc, hR, _⟩
 ·exact ⟨_, _, _, _, _, h, hsame ▸ h, by simp, by simp, by simp, by simp⟩
 ·have hL := right_lays hw hc hR
  exact ⟨_, _, _, _, _, h, hsame ▸ h, hL.l0, hL.l1, hL.l2, hL.l3⟩
theorem CodeReads_f (s : ByteArray) (hs : s.size ≤ 9223372036854775807) {k : Nat} (hk : 5000000 ≤ k) : isthmuslaw18_CodeReads.f k s = some true := by
 obtain ⟨d1, d2, d3, d4, e, h1, h2, a1, a2, a3, a4⟩ := dec_two s hs hk
 unfold isthmuslaw18_CodeReads.f
 rw [awake_f hk, bs, h2, bs, h1, bs]
 show (isthmusref18_Same.f k d1 d2 d3 d4 d1 d2 d3 d4).bind _ = _
 rw [same_f _ _ _ _ (by omega) (by omega) (by omega) (by omega) (by omega), bs]
 show (isthmuslaw18_Over.f k d1 d2 d3 d4).bind _ = _
 rw [over_f (by omega) (by omega) (by omega) (by omega) (by omega), bs]
 exact if_pos ⟨rfl, rfl, rfl⟩
theorem CodeReads {s : ByteArray} (hs : s.size ≤ 140737488351232) : ∃ k, isthmuslaw18_CodeReads.f k s = some true := ⟨5000000, CodeReads_f s (by omega) (Nat.le_refl _)⟩
theorem CodeTurned {l0 : List SRaw} {l1 : List Int} {how at_ by_ : Int} (h : ∀ x ∈ l0, RW x) (hc : I64 l1) (z0 : l0.length * 8 ≤ 140737488351232)
  (h1 : -9223372036854775808 ≤ how ∧ how ≤ 9223372036854775807) (h2 : -9223372036854775808 ≤ at_ ∧ at_ ≤ 9223372036854775807) (h3 : -9223372036854775808 ≤ by_ ∧ by_ ≤ 9223372036854775807) :
  ∃ k, isthmuslaw18_CodeTurned.f k l0 l1 how at_ by_ = some true := by
 obtain ⟨k, hk⟩ : ∃ k : Nat, k = 5000000 := ⟨_, rfl⟩
 refine ⟨k, ?_⟩
 have hw := code_u h
 unfold isthmuslaw18_CodeTurned.f
 rw [code_f h (by omega), bs, ref_encode _ _ hw hc (by omega), bs]
 unfold encV
 by_cases hR : rightS (l0.map wdV) l1 [(⟨#[102, 101, 119]⟩ : ByteArray), (⟨#[97, 108, 108, 50]⟩ : ByteArray)] [1] = true
 ·rw [if_pos hR]
  refine (if_pos rfl).trans ?_
  have hlen := enc_len hw hc hR
  generalize hs : strOfNums (encS (l0.map wdV) l1 [(⟨#[102, 101, 119]⟩ : ByteArray), (⟨#[97, 108, 108, 50]⟩ : ByteArray)] [1]) = s
  have hz : s.size ≤ 800008 ∧ 15 ≤ s.size := by rw [← hs, strOfNums_size]; exact hlen
  show (isthmuslaw18_pick.f at_ (s.size : Int)).bind _ = _
  have hp := pk_range at_ (n := (s.size : Int)) (by omega)
  rw [pick_f h2.1 h2.2 (by omega), bs, pick_f h1.1 h1.2 (by omega), bs]
  show (trn k s (pk at_ (s.size : Int)) (pk how 4) by_).bind _ = _
  generalize pk at_ (s.size : Int) = i at hp
  unfold trn
  rw [if_pos ⟨hp.1, hp.2, by omega⟩]
  have sz1 : ∀ b, ((s.extract 0 i.toNat ++ strOfNums [b]) ++ s.extract (i + 1).toNat s.size).size ≤ 9223372036854775807 := fun b => by
   rw [ByteArray.size_append, ByteArray.size_append, ByteArray.size_extract, ByteArray.size_extract, strOfNums_size]
   simp only [List.length_singleton]
   omega
  have sz2 : (s.extract 0 i.toNat ++ s.extract (i + 1).toNat s.size).size ≤ 9223372036854775807 := by
   rw [ByteArray.size_append, ByteArray.size_extract, ByteArray.size_extract]
   omega
  have sz3 : ∀ b, ((s.extract 0 i.toNat ++ strOfNums [b]) ++ s.extract i.toNat s.size).size ≤ 9223372036854775807 := fun b => by
   rw [ByteArray.size_append, ByteArray.size_append, ByteArray.size_extract, ByteArray.size_extract, strOfNums_size]
   simp only [List.length_singleton]
   omega
  have sz4 : (s.extract 0 i.toNat).size ≤ 9223372036854775807 := by
   rw [ByteArray.size_extract]
   omega
  by_cases c0 : pk how 4 = 0
  ·rw [if_pos c0, pick_f h3.1 h3.2 (by omega), bs, bs]
   exact CodeReads_f _ (sz1 _) (by omega)
  rw [if_neg c0]
  by_cases c1 : pk how 4 = 1
  ·rw [if_pos c1, bs]
   exact CodeReads_f _ sz2 (by omega)
  rw [if_neg c1]
  by_cases c2 : pk how 4 = 2
  ·rw [if_pos c2, pick_f h3.1 h3.2 (by omega), bs, bs]
   exact CodeReads_f _ (sz3 _) (by omega)
  rw [if_neg c2, bs]
  exact CodeReads_f _ sz4 (by omega)
 ·rw [if_neg hR]
  exact (if_neg (by decide)).trans (awake_f (by omega))
end Go.Proofs.YtnlimplbmncdeaaDoor.Code
