/- The laws CodeBack, CodeBackWords, CodeLists, CodeTail of the program hold, as their cards say: texts put together by a program, 38 of 39. -/
import Derived.Test.YtnlimplbmncdeaaDoorPB30
import Derived.Test.YtnlimplbmncdeaaDoorPB32
import Derived.Outline
namespace Go.Proofs.YtnlimplbmncdeaaDoor.C
open Go.RowKit Go.Proofs.YtnlimplbmncdeaaDoorW.PrintWords Go.Proofs.YtnlimplbmncdeaaDoorW.PrintLast Go.Proofs.YtnlimplbmncdeaaDoorW.PrintMore
attribute [local go_sem] max2_int min2_int max_two min_two max_three min_three max_four min_four
set_option linter.unusedVariables false
set_option linter.unusedSimpArgs false
def tlc (s : ByteArray) : Nat → Nat → Int → Bool
 | 0, _, _ => true
 | n + 1, j, h => if 0 ≤ wrap64 (wrap64 ((s.size : Int) - 8) + (j : Int)) ∧ wrap64 (wrap64 ((s.size : Int) - 8) + (j : Int)) < (s.size : Int) ∧ bt s (wrap64 (wrap64 ((s.size : Int) - 8) + (j : Int))) = (Int.tmod h 256) % 256 then tlc s n (j + 1) (IntKind.u64.wrap (Int.tdiv h 256)) else false
def tlt (s : ByteArray) (i q : Int) : ByteArray := (s.extract 0 i.toNat ++ strOfNums [wrap64 (wrap64 (wrap64 (bt s i) + 1) + q) % 256]) ++ s.extract (wrap64 (i + 1)).toNat s.size
def tl2 (k : Nat) (s : ByteArray) (i q : Int) : Option Bool :=
 if 0 ≤ i ∧ i < (s.size : Int) ∧ 0 ≤ wrap64 (i + 1) ∧ wrap64 (i + 1) ≤ (s.size : Int) ∧ (tlt s i q).size ≤ 9223372036854775807 then (code_Decode.f k (tlt s i q)).bind fun d => if d.2.2.2.2 = 180 then some true else none else none
def isthmuslaw18_CodeTail.f (k : Nat) (l0 : List SRaw) (l1 : List Int) (at_ by_ : Int) : Option Bool :=
 (isthmuslaw18_awake.f k).bind fun a => (isthmuslaw18_Code.f l0 true).bind fun ws => (code_Encode.f k ws l1 [] [1]).bind fun t =>
 if a = true then (if t.2 = 0 then (if 12 ≤ (t.1.size : Int) ∧ t.1.size ≤ 9223372036854775807 then (code_Sum.f k ws l1 [] [1]).bind fun h => if tlc t.1 8 0 h = true then (isthmuslaw18_pick.f at_ 8).bind fun p => (isthmuslaw18_pick.f by_ 255).bind fun q => tl2 k t.1 (wrap64 (wrap64 ((t.1.size : Int) - 8) + p)) q else none else none) else some true) else none
set_option maxHeartbeats 8000000 in
set_option maxRecDepth 100000 in
theorem isthmuslaw18_CodeTail.calls (k : Nat) (A0 : Option Addr) (c0 : Nat) (l0 : List SRaw) (A1 : Option Addr) (c1 : Nat) (l1 : List Int) (at_ by_ : Int) (r : Bool) (w : World) (hr0 : Kd.C kRaw w A0 l0.length l0) (hc0 : l0.length ≤ c0) (hr1 : Kd.C (Kd.int .i64) w A1 l1.length l1) (hc1 : l1.length ≤ c1) (hG : Glob w) (h : isthmuslaw18_CodeTail.f k l0 l1 at_ by_ = some r) :
  Calls Tryd.prog 10 #[.slice A0 l0.length c0, .slice A1 l1.length c1, .int .i64 at_, .int .i64 by_] w fun e w' => e = .returned (.bool r) ∧ Below w.heap.size w w' := by
 unfold isthmuslaw18_CodeTail.f at h
 obtain ⟨a, h0, g0⟩ := Option.bind_eq_some_iff.mp h
 clear h
 obtain ⟨ws, h1, g1⟩ := Option.bind_eq_some_iff.mp g0
 clear g0
 obtain ⟨⟨s, er⟩, h2, h⟩ := Option.bind_eq_some_iff.mp g1
 clear g1
 by_cases ha : a = true
 case neg => rw [if_neg ha] at h; cases h
 rw [if_pos ha] at h
 subst ha
 by_cases he : er = 0
 ·rw [if_pos (show ((s, er) : ByteArray × Int).2 = 0 from he)] at h
  by_cases hz : 12 ≤ (s.size : Int) ∧ s.size ≤ 9223372036854775807
  case neg => rw [if_neg hz] at h; cases h
  rw [if_pos hz] at h
  obtain ⟨hs, h3, h⟩ := Option.bind_eq_some_iff.mp h
  by_cases hc : tlc s 8 0 hs = true
  case neg => rw [if_neg hc] at h; cases h
  rw [if_pos hc] at h
  obtain ⟨p, h4, h⟩ := Option.bind_eq_some_iff.mp h
  obtain ⟨q, h5, h⟩ := Option.bind_eq_some_iff.mp h
  have HF := Aside0.mk h
  have H4 := Aside0.mk h4
  have H5 := Aside0.mk h5
  have HC := Aside0.mk hc
  have HZ := Aside0.mk hz
  have f12 : decide ((s.size : Int) < 12) = false := decide_eq_false (by omega)
  clear h h4 h5 hc hz
  subst he
  have fe : ((0 : Int) != 0) = false := rfl
  go_enter Tryd.func10, Tryd.ntmps10
  go_wp2_with (first
   | (go_at_call 11; (refine (isthmuslaw18_awake.calls k true _ hG h0).mono ?_); rintro e wa ⟨rfl, hba⟩; have hl1 : (wa.alloc (.cells #[.int .i64 1] 3)).ownsRow wa.heap.size 3 1 (.slice (some ⟨wa.heap.size, 0, none⟩) 1 1) ([1] : List Int).length (nums .i64 [1]) := ⟨rfl, .inr ⟨_, 1, _, rfl, Nat.le_refl _, heap_alloc_new _ _, Nat.le_refl _, by decide, rfl, rfl⟩⟩; obtain ⟨A3, c3, ev, hlc1, hC1⟩ := Kd.R_reads (Kd.R_of_own (h1 := fun _ => rfl) (ok := fun _ => True) hl1 (fun _ _ => trivial)); injection ev with ea en ec; subst ea ec; clear hl1 en; have hba1 := below_alloc hba (.cells #[.int .i64 1] 3))
   | (go_at_call 20; (refine (isthmuslaw18_Code.calls A0 c0 l0 A1 c1 l1 none 0 [] (some ⟨wa.heap.size, 0, none⟩) 1 [1] true ws _ (Kd.C_below hr0 hba1) hc0 h1).mono ?_); rintro e w1 ⟨v0, rfl, hR, hb⟩; obtain ⟨Aw, cw, rfl, hlw, hCw⟩ := Kd.R_reads hR; have hB1 := below_step hba1 hb; have hC7 := Kd.C_below hC1 hb; have hr1' := Kd.C_below hr1 hB1; have bx0 := heap_alloc_new w1 (.cells #[.slice Aw ws.length cw, .slice A1 l1.length c1, .slice none 0 0, .slice (some ⟨wa.heap.size, 0, none⟩) 1 1] 26); have y0 := blk_cell bx0 0; have y1 := blk_cell bx0 1; have y2 := blk_cell bx0 2; have y3 := blk_cell bx0 3; clear hR)
   | (go_at_call 14; (refine (code_Encode.calls k _ _ ws _ _ l1 _ _ [] _ _ [1] s 0 _ (Kd.C_below hCw (by exact below_alloc (Below.refl _ _) _)) hlw (Kd.C_below hr1' (by exact below_alloc (Below.refl _ _) _)) hc1 (Kd.C_nil _ _) (Nat.le_refl _) (Kd.C_below hC7 (by exact below_alloc (Below.refl _ _) _)) hlc1 (hG.below (by exact below_alloc hB1 _)) h2).mono ?_); rintro e w2 ⟨rfl, hb3⟩; have bx1 := blk_below bx0 hb3; have y0 := blk_cell bx1 0; have y1 := blk_cell bx1 1; have y2 := blk_cell bx1 2; have y3 := blk_cell bx1 3; have hB2 := below_step (below_alloc (Below.refl w1.heap.size w1) (.cells #[.slice Aw ws.length cw, .slice A1 l1.length c1, .slice none 0 0, .slice (some ⟨wa.heap.size, 0, none⟩) 1 1] 26)) hb3; have hB2w := below_then hB1 hB1.size hB2)
   | (go_at_call 15; (refine (code_Sum.calls k _ _ ws _ _ l1 _ _ [] _ _ [1] hs _ (Kd.C_below hCw hB2) hlw (Kd.C_below hr1' hB2) hc1 (Kd.C_nil _ _) (Nat.le_refl _) (Kd.C_below hC7 hB2) hlc1 (hG.below hB2w) h3).mono ?_); rintro e w3 ⟨rfl, hb4⟩; have hB3 := below_step hB2w hb4))
  clear hB2 hB1 hb hb3 hb4 bx0 bx1 y0 y1 y2 y3 hC7 hC1 hCw hr1' hba1 hba
  have HB := Aside0.mk hB3
  clear hB3
  go_loopw [13, 14] (fun v13 v14 w' => ∃ (j : Nat) (h : Int), v13 = .int .u64 h ∧ v14 = .int .i64 j ∧ j ≤ 8 ∧ Aside0 (tlc s (8 - j) j h = true) ∧ Aside0 (Below w.heap.size w w')) (fun _ v _ => 8 - (intOf v).toNat)
  case atStart => exact ⟨0, hs, rfl, rfl, Nat.zero_le _, HC, HB⟩
  case round =>
   clear HB HC
   obtain ⟨j, h, rfl, rfl, hj, HN, HL⟩ := hrel
   by_cases hlt : j < 8
   ·have hn := HN.out
    rw [show 8 - j = (8 - (j + 1)) + 1 by omega] at hn
    unfold tlc at hn
    obtain ⟨i, hi⟩ : ∃ i, i = wrap64 (wrap64 ((s.size : Int) - 8) + (j : Int)) := ⟨_, rfl⟩
    rw [← hi] at hn
    by_cases c : 0 ≤ i ∧ i < (s.size : Int) ∧ bt s i = (Int.tmod h 256) % 256
    case neg => rw [if_neg c] at hn; cases hn
    rw [if_pos c] at hn
    have NN := Aside0.mk hn
    have c4 := decide_eq_true c.1
    have c5 := decide_eq_true c.2.1
    have c6 : (bt s i == (Int.tmod h 256) % 256) = true := beq_iff_eq.mpr c.2.2
    have c7 : (bt s i != (Int.tmod h 256) % 256) = false := by rw [bne, c6]; rfl
    have p6 := eq_true c.1
    have q6 := eq_true c.2.1
    have hx6 := bt_at s i
    have hw8 : wrap64 ((s.size : Int) - 8) = (s.size : Int) - 8 := by have := HZ.out; unfold wrap64; omega
    have hi' : wrap64 ((s.size : Int) - 8 + (j : Int)) = i := by rw [hi, hw8]
    have hi2 : (IntKind.i64.wrap (IntKind.i64.wrap ((s.size : Int) - 8) + (j : Int))) = i := by simp only [i64_w]; exact hi.symm
    have hi3 := hi.symm
    have f8 : decide ((j : Int) < 8) = true := decide_eq_true (by omega)
    clear c hn HN hi hw8
    go_wp2_with fail
    go_roundw
    case rel => exact ⟨j + 1, _, rfl, (by first | rfl | simp), by omega, (by rw [show 8 - (j + 1) = 8 - (j + 1) from rfl]; exact NN), (by exact HL)⟩
    case measure => simp [intOf]; try omega
   ·have f8 : decide ((j : Int) < 8) = false := decide_eq_false (by omega)
    clear HN
    have hw8 : wrap64 ((s.size : Int) - 8) = (s.size : Int) - 8 := by have := HZ.out; unfold wrap64; omega
    obtain ⟨i, hi⟩ : ∃ i, i = wrap64 (wrap64 ((s.size : Int) - 8) + p) := ⟨_, rfl⟩
    have hf := HF.out
    rw [← hi] at hf
    unfold tl2 at hf
    by_cases c : 0 ≤ i ∧ i < (s.size : Int) ∧ 0 ≤ wrap64 (i + 1) ∧ wrap64 (i + 1) ≤ (s.size : Int) ∧ (tlt s i q).size ≤ 9223372036854775807
    case neg => rw [if_neg c] at hf; cases hf
    rw [if_pos c] at hf
    obtain ⟨⟨d1, d2, d3, d4, fr⟩, h6, hf⟩ := Option.bind_eq_some_iff.mp hf
    by_cases hfr : ((d1, d2, d3, d4, fr) : List Int × List Int × List ByteArray × List Int × Int).2.2.2.2 = 180
    case neg => rw [if_neg hfr] at hf; cases hf
    rw [if_pos hfr] at hf
    obtain rfl := Option.some.inj hf
    have hfr' : fr = 180 := hfr
    subst hfr'
    have H6 := Aside0.mk h6
    have CC := Aside0.mk c
    clear hf h6
    have c4 := decide_eq_true c.1
    have c5 := decide_eq_true c.2.1
    have p6 := eq_true c.1
    have q6 := eq_true c.2.1
    have hx6 := bt_at s i
    have hi' : wrap64 ((s.size : Int) - 8 + p) = i := by rw [hi, hw8]
    have hi2 : (IntKind.i64.wrap (IntKind.i64.wrap ((s.size : Int) - 8) + p)) = i := by simp only [i64_w]; exact hi.symm
    have hi3 := hi.symm
    clear c hi HF
    go_wp2_with (first
     | (go_at_call 25; (with_reducible refine (isthmuslaw18_pick.calls at_ 8 p _ H4.out).mono ?_); rintro e wz ⟨rfl, hd⟩; have hbz : Below wr.heap.size wr wz := (by obtain ⟨nd, rfl⟩ := hd; repeat (first | exact Below.refl _ _ | apply pw_below_drewN)); have HB1 := Aside0.mk (below_then HL.out HL.out.size hbz); clear hd hbz))
    go_quiet ((go_at_call 25; exact Calls.quiet_of ((isthmuslaw18_pick.calls by_ 255 q _ H5.out).mono fun _ _ h => ⟨h.1, h.2.out⟩)))
    have hBy : Below w.heap.size w (wz.drewN nq) := pw_below_drewN HB1.out nq
    obtain ⟨wy, hwy⟩ : ∃ wy, wy = wz.drewN nq := ⟨_, rfl⟩
    rw [← hwy] at hBy ⊢
    clear hwy
    rw [hi']
    obtain ⟨b, hb_⟩ : ∃ b, b = wrap64 (wrap64 (wrap64 (bt s i) + 1) + q) % 256 := ⟨_, rfl⟩
    rw [← hb_]
    have hT : tlt s i q = (s.extract 0 i.toNat ++ strOfNums [b]) ++ s.extract (wrap64 (i + 1)).toNat s.size := by unfold tlt; rw [hb_]
    have CT := CC.out.2.2.2.2
    rw [hT] at CT H6
    clear hb_
    have e1_ : (s.extract 0 i.toNat).size = i.toNat := by rw [ByteArray.size_extract]; have := CC.out; omega
    have e2_ : (s.extract (wrap64 (i + 1)).toNat s.size).size = s.size - (wrap64 (i + 1)).toNat := by rw [ByteArray.size_extract, Nat.min_self]
    have s2_ : (9223372036854775807 < i.toNat + (strOfNums [b]).size + (s.size - (wrap64 (i + 1)).toNat)) = False := eq_false (by rw [ByteArray.size_append, ByteArray.size_append, e1_, e2_] at CT; omega)
    have s1_ : (9223372036854775807 < i.toNat + (strOfNums [b]).size) = False := eq_false (by rw [ByteArray.size_append, ByteArray.size_append, e1_, e2_] at CT; omega)
    clear e1_ e2_ CT
    have d5_ : (i ≤ (s.size : Int)) = True := eq_true (by have := CC.out; omega)
    have d1_ := decide_eq_true CC.out.2.2.1
    have d2_ := decide_eq_true CC.out.2.2.2.1
    have d3_ := eq_true CC.out.2.2.1
    have d4_ := eq_true CC.out.2.2.2.1
    go_wp2_with fail
    refine start_ (n := 19) (S := fun w' => True) (ds := []) #[false, false, false, false, false, false, false, false, false, false, false, false, false, false, false, false, false, false, false] (by kernel_rfl) rfl rfl trivial (fun hHeld => ?_)
    have hB := (Below.refl wy.heap.size wy).drew
    generalize wy.drew = wy0 at hB ⊢
    refine pure_ (i := 0) (N := some 74) (v := ?_) (a' := ?_) #[true, false, false, false, false, false, false, false, false, false, false, false, false, false, false, false, false, false, false] rfl rfl (by kernel_rfl) (fun _ _ _ h => h) (Or.inl ⟨by rfl, ?_⟩) ?_ ?_
    rotate_left
    ·intro w'
     go_simp
     with_reducible rfl
    rotate_left
    ·simp only [Act.put, List.setIfInBounds_toArray, List.set_cons_zero, List.set_cons_succ, i64_w, i32_w]
     rfl
    refine pure_ (i := 1) (N := some 75) (v := ?_) (a' := ?_) #[true, true, false, false, false, false, false, false, false, false, false, false, false, false, false, false, false, false, false] rfl rfl (by kernel_rfl) (fun _ _ _ h => h) (Or.inl ⟨by rfl, ?_⟩) ?_ ?_
    rotate_left
    ·intro w'
     go_simp
     with_reducible rfl
    rotate_left
    ·simp only [Act.put, List.setIfInBounds_toArray, List.set_cons_zero, List.set_cons_succ, i64_w, i32_w]
     rfl
    refine pure_ (i := 2) (N := some 76) (v := ?_) (a' := ?_) #[true, true, true, false, false, false, false, false, false, false, false, false, false, false, false, false, false, false, false] rfl rfl (by kernel_rfl) (fun _ _ _ h => h) (Or.inl ⟨by rfl, ?_⟩) ?_ ?_
    rotate_left
    ·intro w'
     go_simp
     with_reducible rfl
    rotate_left
    ·simp only [Act.put, List.setIfInBounds_toArray, List.set_cons_zero, List.set_cons_succ, i64_w, i32_w]
     rfl
    refine pure_ (i := 3) (N := some 77) (v := ?_) (a' := ?_) #[true, true, true, true, false, false, false, false, false, false, false, false, false, false, false, false, false, false, false] rfl rfl (by kernel_rfl) (fun _ _ _ h => h) (Or.inl ⟨by rfl, ?_⟩) ?_ ?_
    rotate_left
    ·intro w'
     go_simp
     with_reducible rfl
    rotate_left
    ·simp only [Act.put, List.setIfInBounds_toArray, List.set_cons_zero, List.set_cons_succ, i64_w, i32_w]
     rfl
    refine pure_ (i := 7) (N := some 81) (v := ?_) (a' := ?_) #[true, true, true, true, false, false, false, true, false, false, false, false, false, false, false, false, false, false, false] rfl rfl (by kernel_rfl) (fun _ _ _ h => h) (Or.inl ⟨by rfl, ?_⟩) ?_ ?_
    rotate_left
    ·intro w'
     go_simp
     with_reducible rfl
    rotate_left
    ·simp only [Act.put, List.setIfInBounds_toArray, List.set_cons_zero, List.set_cons_succ, i64_w, i32_w]
     rfl
    refine pure_ (i := 8) (N := some 82) (v := ?_) (a' := ?_) #[true, true, true, true, false, false, false, true, true, false, false, false, false, false, false, false, false, false, false] rfl rfl (by kernel_rfl) (fun _ _ _ h => h) (Or.inl ⟨by rfl, ?_⟩) ?_ ?_
    rotate_left
    ·intro w'
     go_simp
     with_reducible rfl
    rotate_left
    ·simp only [Act.put, List.setIfInBounds_toArray, List.set_cons_zero, List.set_cons_succ, i64_w, i32_w]
     rfl
    refine pure_ (i := 9) (N := some 83) (v := ?_) (a' := ?_) #[true, true, true, true, false, false, false, true, true, true, false, false, false, false, false, false, false, false, false] rfl rfl (by kernel_rfl) (fun _ _ _ h => h) (Or.inl ⟨by rfl, ?_⟩) ?_ ?_
    rotate_left
    ·intro w'
     go_simp
     with_reducible rfl
    rotate_left
    ·simp only [Act.put, List.setIfInBounds_toArray, List.set_cons_zero, List.set_cons_succ, i64_w, i32_w]
     rfl
    refine pure_ (i := 10) (N := some 84) (v := ?_) (a' := ?_) #[true, true, true, true, false, false, false, true, true, true, true, false, false, false, false, false, false, false, false] rfl rfl (by kernel_rfl) (fun _ _ _ h => h) (Or.inl ⟨by rfl, ?_⟩) ?_ ?_
    rotate_left
    ·intro w'
     go_simp
     with_reducible rfl
    rotate_left
    ·simp only [Act.put, List.setIfInBounds_toArray, List.set_cons_zero, List.set_cons_succ, i64_w, i32_w]
     rfl
    refine join_ (σ := Nat × Nat × Option Addr × Nat × Option Addr × Nat × Option Addr × Nat × Option Addr × Nat) 2 #[true, true, true, true, true, true, true, true, true, true, true, true, true, true, true, true, true, false, false] (fun s_ => [(78, .slice (some ⟨s_.1, 0, none⟩) 1 1), (79, .string (strOfNums [b])), (80, .string (s.extract 0 i.toNat ++ strOfNums [b])), (85, .string ((s.extract 0 i.toNat ++ strOfNums [b]) ++ s.extract (wrap64 (i + 1)).toNat s.size)), (86, .tuple #[.agg #[.slice s_.2.2.1 d1.length s_.2.2.2.1, .slice s_.2.2.2.2.1 d2.length s_.2.2.2.2.2.1, .slice s_.2.2.2.2.2.2.1 d3.length s_.2.2.2.2.2.2.2.1, .slice s_.2.2.2.2.2.2.2.2.1 d4.length s_.2.2.2.2.2.2.2.2.2], .int .i64 180]), (73, .tuple #[.agg #[.slice s_.2.2.1 d1.length s_.2.2.2.1, .slice s_.2.2.2.2.1 d2.length s_.2.2.2.2.2.1, .slice s_.2.2.2.2.2.2.1 d3.length s_.2.2.2.2.2.2.2.1, .slice s_.2.2.2.2.2.2.2.2.1 d4.length s_.2.2.2.2.2.2.2.2.2], .int .i64 180]), (87, .agg #[.slice s_.2.2.1 d1.length s_.2.2.2.1, .slice s_.2.2.2.2.1 d2.length s_.2.2.2.2.2.1, .slice s_.2.2.2.2.2.2.1 d3.length s_.2.2.2.2.2.2.2.1, .slice s_.2.2.2.2.2.2.2.2.1 d4.length s_.2.2.2.2.2.2.2.2.2]), (88, .int .i64 180), (17, .pointer (some ⟨s_.2.1, 0, none⟩))]) (fun s_ w' => Below wy.heap.size wy w' ∧ wy.heap.size ≤ s_.2.1 ∧ w'.heap[s_.2.1]? = some (.cells #[.slice none 0 0, .slice none 0 0, .slice none 0 0, .slice none 0 0] 26 (0, 0))) ?_ ?_
    rotate_left
    ·intro hCont
     refine two_ (i := 4) (j := 16) (Ni := some 78) (Nj := some 17) #[true, true, true, true, true, false, false, true, true, true, true, false, false, false, false, false, false, false, false] #[true, true, true, true, false, false, false, true, true, true, true, false, false, false, false, false, true, false, false] rfl rfl rfl rfl (by kernel_rfl) (by decide) (by decide) (fun K hK => ?_) (fun K hK => ?_)
     ·skip
      refine value_ (w1 := (wy0.alloc (.cells #[.int .u8 b] 5))) (v := .slice (some ⟨wy0.heap.size, 0, none⟩) 1 1) (by rfl) rfl (by go_simp) ?_
      have hr : ReadsInt (wy0.alloc (.cells #[.int .u8 b] 5)) .u8 (some ⟨wy0.heap.size, 0, none⟩) ([b] : List Int).length [b] := own_reads' (c := 1) (base := wy0.heap.size) (e := 5) ⟨rfl, .inr ⟨_, 1, _, rfl, Nat.le_refl _, heap_alloc_new _ _, Nat.le_refl _, by decide, rfl, rfl⟩⟩
      have hB : Below wy.heap.size wy (wy0.alloc (.cells #[.int .u8 b] 5)) := below_then hB hB.size (below_alloc (Below.refl _ _) _)
      refine hK.out _ _ trivial (fun hHeld => ?_)
      clear hK K
      refine norm_ (a' := ?_) ?_ ?_
      rotate_left
      ·show Act.put _ (some 78) _ = _
       simp only [Act.put, List.setIfInBounds_toArray, List.set_cons_zero, List.set_cons_succ, i64_w, i32_w]
       rfl
      refine two_ (i := 5) (j := 16) (Ni := some 79) (Nj := some 17) #[true, true, true, true, true, true, false, true, true, true, true, false, false, false, false, false, false, false, false] #[true, true, true, true, true, false, false, true, true, true, true, false, false, false, false, false, true, false, false] rfl rfl rfl rfl (by kernel_rfl) (by decide) (by decide) (fun K hK => ?_) (fun K hK => ?_)
      ·skip
       have hcv : (convert 44 9 (.slice (some ⟨wy0.heap.size, 0, none⟩) 1 1)).run Tryd.prog (wy0.alloc (.cells #[.int .u8 b] 5)) = .ok (.string (strOfNums [b])) (wy0.alloc (.cells #[.int .u8 b] 5)) := string_of_reads (c := 1) Tryd.underlying44 Tryd.underlying5 Tryd.underlying9 hr
       refine value_ (w1 := (wy0.alloc (.cells #[.int .u8 b] 5))) (v := .string (strOfNums [b])) (by rfl) rfl (by go_simp) ?_
       refine hK.out _ _ trivial (fun hHeld => ?_)
       clear hK K
       refine norm_ (a' := ?_) ?_ ?_
       rotate_left
       ·show Act.put _ (some 79) _ = _
        simp only [Act.put, List.setIfInBounds_toArray, List.set_cons_zero, List.set_cons_succ, i64_w, i32_w]
        rfl
       refine pure_ (i := 6) (N := some 80) (v := ?_) (a' := ?_) #[true, true, true, true, true, true, true, true, true, true, true, false, false, false, false, false, false, false, false] rfl rfl (by kernel_rfl) (fun _ _ _ h => h) (Or.inl ⟨by rfl, ?_⟩) ?_ ?_
       rotate_left
       ·intro w'
        go_simp
        with_reducible rfl
       rotate_left
       ·simp only [Act.put, List.setIfInBounds_toArray, List.set_cons_zero, List.set_cons_succ, i64_w, i32_w]
        rfl
       refine pure_ (i := 11) (N := some 85) (v := ?_) (a' := ?_) #[true, true, true, true, true, true, true, true, true, true, true, true, false, false, false, false, false, false, false] rfl rfl (by kernel_rfl) (fun _ _ _ h => h) (Or.inl ⟨by rfl, ?_⟩) ?_ ?_
       rotate_left
       ·intro w'
        go_simp
        with_reducible rfl
       rotate_left
       ·simp only [Act.put, List.setIfInBounds_toArray, List.set_cons_zero, List.set_cons_succ, i64_w, i32_w]
        rfl
       refine two_ (i := 12) (j := 16) (Ni := some 86) (Nj := some 17) #[true, true, true, true, true, true, true, true, true, true, true, true, true, false, false, false, false, false, false] #[true, true, true, true, true, true, true, true, true, true, true, true, false, false, false, false, true, false, false] rfl rfl rfl rfl (by kernel_rfl) (by decide) (by decide) (fun K hK => ?_) (fun K hK => ?_)
       ·skip
        refine goes_ Tryd.func22 (by kernel_rfl) rfl #[.string ((s.extract 0 i.toNat ++ strOfNums [b]) ++ s.extract (wrap64 (i + 1)).toNat s.size)] (by rfl) rfl rfl (by (try simp only [List.map_toArray, List.map_cons, List.map_nil]); first | done | rfl) ?_
        refine (code_Decode.calls k _ d1 d2 d3 d4 180 (wy0.alloc (.cells #[.int .u8 b] 5)) (hG.below (below_then hBy hBy.size hB)) H6.out).mono ?_
        rintro e w12 ⟨va, vb, vc, vd, rfl, ha_, hb_, hc_, hd_, hb12⟩
        refine ⟨_, rfl, ?_⟩
        obtain ⟨a1, n1, rfl⟩ := Kd.R_slice ha_
        obtain ⟨a2, n2, rfl⟩ := Kd.R_slice hb_
        obtain ⟨a3, n3, rfl⟩ := Kd.R_slice hc_
        obtain ⟨a4, n4, rfl⟩ := Kd.R_slice hd_
        clear ha_ hb_ hc_ hd_
        have hB : Below wy.heap.size wy w12 := below_then hB hB.size hb12
        refine hK.out _ _ trivial (fun hHeld => ?_)
        clear hK K
        refine norm_ (a' := ?_) ?_ ?_
        rotate_left
        ·show Act.put _ (some 86) _ = _
         simp only [Act.put, List.setIfInBounds_toArray, List.set_cons_zero, List.set_cons_succ, i64_w, i32_w]
         rfl
        refine pure_ (i := 13) (N := some 73) (v := ?_) (a' := ?_) #[true, true, true, true, true, true, true, true, true, true, true, true, true, true, false, false, false, false, false] rfl rfl (by kernel_rfl) (fun _ _ _ h => h) (Or.inl ⟨by rfl, ?_⟩) ?_ ?_
        rotate_left
        ·intro w'
         go_simp
         with_reducible rfl
        rotate_left
        ·simp only [Act.put, List.setIfInBounds_toArray, List.set_cons_zero, List.set_cons_succ, i64_w, i32_w]
         rfl
        refine pure_ (i := 14) (N := some 87) (v := ?_) (a' := ?_) #[true, true, true, true, true, true, true, true, true, true, true, true, true, true, true, false, false, false, false] rfl rfl (by kernel_rfl) (fun _ _ _ h => h) (Or.inl ⟨by rfl, ?_⟩) ?_ ?_
        rotate_left
        ·intro w'
         go_simp
         with_reducible rfl
        rotate_left
        ·simp only [Act.put, List.setIfInBounds_toArray, List.set_cons_zero, List.set_cons_succ, i64_w, i32_w]
         rfl
        refine pure_ (i := 15) (N := some 88) (v := ?_) (a' := ?_) #[true, true, true, true, true, true, true, true, true, true, true, true, true, true, true, true, false, false, false] rfl rfl (by kernel_rfl) (fun _ _ _ h => h) (Or.inl ⟨by rfl, ?_⟩) ?_ ?_
        rotate_left
        ·intro w'
         go_simp
         with_reducible rfl
        rotate_left
        ·simp only [Act.put, List.setIfInBounds_toArray, List.set_cons_zero, List.set_cons_succ, i64_w, i32_w]
         rfl
        refine one_ (i := 16) (N := some 17) #[true, true, true, true, true, true, true, true, true, true, true, true, true, true, true, true, true, false, false] rfl rfl (by kernel_rfl) (by decide) (fun K hK => ?_)
        refine value_ (w1 := (w12.alloc (.cells #[.slice none 0 0, .slice none 0 0, .slice none 0 0, .slice none 0 0] 26))) (v := .pointer (some ⟨w12.heap.size, 0, none⟩)) (by rfl) rfl (by go_simp) ?_
        have hg : (w12.alloc (.cells #[.slice none 0 0, .slice none 0 0, .slice none 0 0, .slice none 0 0] 26)).heap[w12.heap.size]? = some (.cells #[.slice none 0 0, .slice none 0 0, .slice none 0 0, .slice none 0 0] 26 (0, 0)) := heap_alloc_new _ _
        have hle : wy.heap.size ≤ w12.heap.size := hB.size
        have hB : Below wy.heap.size wy (w12.alloc (.cells #[.slice none 0 0, .slice none 0 0, .slice none 0 0, .slice none 0 0] 26)) := below_then hB hB.size (below_alloc (Below.refl _ _) _)
        refine hK.out _ _ trivial (fun hHeld => ?_)
        clear hK K
        refine norm_ (a' := ?_) ?_ ?_
        rotate_left
        ·show Act.put _ (some 17) _ = _
         simp only [Act.put, List.setIfInBounds_toArray, List.set_cons_zero, List.set_cons_succ, i64_w, i32_w]
         rfl
        exact norm_ (by simp only [putAll, Act.put, List.setIfInBounds_toArray, List.set_cons_zero, List.set_cons_succ]) (hCont (wy0.heap.size, w12.heap.size, a1, n1, a2, n2, a3, n3, a4, n4) _ ⟨hB, hle, hg⟩)
       ·skip
        refine value_ (w1 := ((wy0.alloc (.cells #[.int .u8 b] 5)).alloc (.cells #[.slice none 0 0, .slice none 0 0, .slice none 0 0, .slice none 0 0] 26))) (v := .pointer (some ⟨(wy0.alloc (.cells #[.int .u8 b] 5)).heap.size, 0, none⟩)) (by rfl) rfl (by go_simp) ?_
        have hg : ((wy0.alloc (.cells #[.int .u8 b] 5)).alloc (.cells #[.slice none 0 0, .slice none 0 0, .slice none 0 0, .slice none 0 0] 26)).heap[(wy0.alloc (.cells #[.int .u8 b] 5)).heap.size]? = some (.cells #[.slice none 0 0, .slice none 0 0, .slice none 0 0, .slice none 0 0] 26 (0, 0)) := heap_alloc_new _ _
        have hle : wy.heap.size ≤ (wy0.alloc (.cells #[.int .u8 b] 5)).heap.size := hB.size
        have hB : Below wy.heap.size wy ((wy0.alloc (.cells #[.int .u8 b] 5)).alloc (.cells #[.slice none 0 0, .slice none 0 0, .slice none 0 0, .slice none 0 0] 26)) := below_then hB hB.size (below_alloc (Below.refl _ _) _)
        refine hK.out _ _ trivial (fun hHeld => ?_)
        clear hK K
        refine norm_ (a' := ?_) ?_ ?_
        rotate_left
        ·show Act.put _ (some 17) _ = _
         simp only [Act.put, List.setIfInBounds_toArray, List.set_cons_zero, List.set_cons_succ, i64_w, i32_w]
         rfl
        refine one_ (i := 12) (N := some 86) #[true, true, true, true, true, true, true, true, true, true, true, true, true, false, false, false, true, false, false] rfl rfl (by kernel_rfl) (by decide) (fun K hK => ?_)
        refine goes_ Tryd.func22 (by kernel_rfl) rfl #[.string ((s.extract 0 i.toNat ++ strOfNums [b]) ++ s.extract (wrap64 (i + 1)).toNat s.size)] (by rfl) rfl rfl (by (try simp only [List.map_toArray, List.map_cons, List.map_nil]); first | done | rfl) ?_
        refine (code_Decode.calls k _ d1 d2 d3 d4 180 ((wy0.alloc (.cells #[.int .u8 b] 5)).alloc (.cells #[.slice none 0 0, .slice none 0 0, .slice none 0 0, .slice none 0 0] 26)) (hG.below (below_then hBy hBy.size hB)) H6.out).mono ?_
        rintro e w12 ⟨va, vb, vc, vd, rfl, ha_, hb_, hc_, hd_, hb12⟩
        refine ⟨_, rfl, ?_⟩
        obtain ⟨a1, n1, rfl⟩ := Kd.R_slice ha_
        obtain ⟨a2, n2, rfl⟩ := Kd.R_slice hb_
        obtain ⟨a3, n3, rfl⟩ := Kd.R_slice hc_
        obtain ⟨a4, n4, rfl⟩ := Kd.R_slice hd_
        clear ha_ hb_ hc_ hd_
        have hB : Below wy.heap.size wy w12 := below_then hB hB.size hb12
        have hg : w12.heap[(wy0.alloc (.cells #[.int .u8 b] 5)).heap.size]? = some (.cells #[.slice none 0 0, .slice none 0 0, .slice none 0 0, .slice none 0 0] 26 (0, 0)) := blk_below hg hb12
        refine hK.out _ _ trivial (fun hHeld => ?_)
        clear hK K
        refine norm_ (a' := ?_) ?_ ?_
        rotate_left
        ·show Act.put _ (some 86) _ = _
         simp only [Act.put, List.setIfInBounds_toArray, List.set_cons_zero, List.set_cons_succ, i64_w, i32_w]
         rfl
        refine pure_ (i := 13) (N := some 73) (v := ?_) (a' := ?_) #[true, true, true, true, true, true, true, true, true, true, true, true, true, true, false, false, true, false, false] rfl rfl (by kernel_rfl) (fun _ _ _ h => h) (Or.inl ⟨by rfl, ?_⟩) ?_ ?_
        rotate_left
        ·intro w'
         go_simp
         with_reducible rfl
        rotate_left
        ·simp only [Act.put, List.setIfInBounds_toArray, List.set_cons_zero, List.set_cons_succ, i64_w, i32_w]
         rfl
        refine pure_ (i := 14) (N := some 87) (v := ?_) (a' := ?_) #[true, true, true, true, true, true, true, true, true, true, true, true, true, true, true, false, true, false, false] rfl rfl (by kernel_rfl) (fun _ _ _ h => h) (Or.inl ⟨by rfl, ?_⟩) ?_ ?_
        rotate_left
        ·intro w'
         go_simp
         with_reducible rfl
        rotate_left
        ·simp only [Act.put, List.setIfInBounds_toArray, List.set_cons_zero, List.set_cons_succ, i64_w, i32_w]
         rfl
        refine pure_ (i := 15) (N := some 88) (v := ?_) (a' := ?_) #[true, true, true, true, true, true, true, true, true, true, true, true, true, true, true, true, true, false, false] rfl rfl (by kernel_rfl) (fun _ _ _ h => h) (Or.inl ⟨by rfl, ?_⟩) ?_ ?_
        rotate_left
        ·intro w'
         go_simp
         with_reducible rfl
        rotate_left
        ·simp only [Act.put, List.setIfInBounds_toArray, List.set_cons_zero, List.set_cons_succ, i64_w, i32_w]
         rfl
        exact norm_ (by simp only [putAll, Act.put, List.setIfInBounds_toArray, List.set_cons_zero, List.set_cons_succ]) (hCont (wy0.heap.size, (wy0.alloc (.cells #[.int .u8 b] 5)).heap.size, a1, n1, a2, n2, a3, n3, a4, n4) _ ⟨hB, hle, hg⟩)
      ·skip
       refine value_ (w1 := ((wy0.alloc (.cells #[.int .u8 b] 5)).alloc (.cells #[.slice none 0 0, .slice none 0 0, .slice none 0 0, .slice none 0 0] 26))) (v := .pointer (some ⟨(wy0.alloc (.cells #[.int .u8 b] 5)).heap.size, 0, none⟩)) (by rfl) rfl (by go_simp) ?_
       have hg : ((wy0.alloc (.cells #[.int .u8 b] 5)).alloc (.cells #[.slice none 0 0, .slice none 0 0, .slice none 0 0, .slice none 0 0] 26)).heap[(wy0.alloc (.cells #[.int .u8 b] 5)).heap.size]? = some (.cells #[.slice none 0 0, .slice none 0 0, .slice none 0 0, .slice none 0 0] 26 (0, 0)) := heap_alloc_new _ _
       have hle : wy.heap.size ≤ (wy0.alloc (.cells #[.int .u8 b] 5)).heap.size := hB.size
       have hB : Below wy.heap.size wy ((wy0.alloc (.cells #[.int .u8 b] 5)).alloc (.cells #[.slice none 0 0, .slice none 0 0, .slice none 0 0, .slice none 0 0] 26)) := below_then hB hB.size (below_alloc (Below.refl _ _) _)
       have hr : ReadsInt ((wy0.alloc (.cells #[.int .u8 b] 5)).alloc (.cells #[.slice none 0 0, .slice none 0 0, .slice none 0 0, .slice none 0 0] 26)) .u8 (some ⟨wy0.heap.size, 0, none⟩) ([b] : List Int).length [b] := hr.below (below_alloc (Below.refl _ _) _)
       refine hK.out _ _ trivial (fun hHeld => ?_)
       clear hK K
       refine norm_ (a' := ?_) ?_ ?_
       rotate_left
       ·show Act.put _ (some 17) _ = _
        simp only [Act.put, List.setIfInBounds_toArray, List.set_cons_zero, List.set_cons_succ, i64_w, i32_w]
        rfl
       refine one_ (i := 5) (N := some 79) #[true, true, true, true, true, true, false, true, true, true, true, false, false, false, false, false, true, false, false] rfl rfl (by kernel_rfl) (by decide) (fun K hK => ?_)
       have hcv : (convert 44 9 (.slice (some ⟨wy0.heap.size, 0, none⟩) 1 1)).run Tryd.prog ((wy0.alloc (.cells #[.int .u8 b] 5)).alloc (.cells #[.slice none 0 0, .slice none 0 0, .slice none 0 0, .slice none 0 0] 26)) = .ok (.string (strOfNums [b])) ((wy0.alloc (.cells #[.int .u8 b] 5)).alloc (.cells #[.slice none 0 0, .slice none 0 0, .slice none 0 0, .slice none 0 0] 26)) := string_of_reads (c := 1) Tryd.underlying44 Tryd.underlying5 Tryd.underlying9 hr
       refine value_ (w1 := ((wy0.alloc (.cells #[.int .u8 b] 5)).alloc (.cells #[.slice none 0 0, .slice none 0 0, .slice none 0 0, .slice none 0 0] 26))) (v := .string (strOfNums [b])) (by rfl) rfl (by go_simp) ?_
       refine hK.out _ _ trivial (fun hHeld => ?_)
       clear hK K
       refine norm_ (a' := ?_) ?_ ?_
       rotate_left
       ·show Act.put _ (some 79) _ = _
        simp only [Act.put, List.setIfInBounds_toArray, List.set_cons_zero, List.set_cons_succ, i64_w, i32_w]
        rfl
       refine pure_ (i := 6) (N := some 80) (v := ?_) (a' := ?_) #[true, true, true, true, true, true, true, true, true, true, true, false, false, false, false, false, true, false, false] rfl rfl (by kernel_rfl) (fun _ _ _ h => h) (Or.inl ⟨by rfl, ?_⟩) ?_ ?_
       rotate_left
       ·intro w'
        go_simp
        with_reducible rfl
       rotate_left
       ·simp only [Act.put, List.setIfInBounds_toArray, List.set_cons_zero, List.set_cons_succ, i64_w, i32_w]
        rfl
       refine pure_ (i := 11) (N := some 85) (v := ?_) (a' := ?_) #[true, true, true, true, true, true, true, true, true, true, true, true, false, false, false, false, true, false, false] rfl rfl (by kernel_rfl) (fun _ _ _ h => h) (Or.inl ⟨by rfl, ?_⟩) ?_ ?_
       rotate_left
       ·intro w'
        go_simp
        with_reducible rfl
       rotate_left
       ·simp only [Act.put, List.setIfInBounds_toArray, List.set_cons_zero, List.set_cons_succ, i64_w, i32_w]
        rfl
       refine one_ (i := 12) (N := some 86) #[true, true, true, true, true, true, true, true, true, true, true, true, true, false, false, false, true, false, false] rfl rfl (by kernel_rfl) (by decide) (fun K hK => ?_)
       refine goes_ Tryd.func22 (by kernel_rfl) rfl #[.string ((s.extract 0 i.toNat ++ strOfNums [b]) ++ s.extract (wrap64 (i + 1)).toNat s.size)] (by rfl) rfl rfl (by (try simp only [List.map_toArray, List.map_cons, List.map_nil]); first | done | rfl) ?_
       refine (code_Decode.calls k _ d1 d2 d3 d4 180 ((wy0.alloc (.cells #[.int .u8 b] 5)).alloc (.cells #[.slice none 0 0, .slice none 0 0, .slice none 0 0, .slice none 0 0] 26)) (hG.below (below_then hBy hBy.size hB)) H6.out).mono ?_
       rintro e w12 ⟨va, vb, vc, vd, rfl, ha_, hb_, hc_, hd_, hb12⟩
       refine ⟨_, rfl, ?_⟩
       obtain ⟨a1, n1, rfl⟩ := Kd.R_slice ha_
       obtain ⟨a2, n2, rfl⟩ := Kd.R_slice hb_
       obtain ⟨a3, n3, rfl⟩ := Kd.R_slice hc_
       obtain ⟨a4, n4, rfl⟩ := Kd.R_slice hd_
       clear ha_ hb_ hc_ hd_
       have hB : Below wy.heap.size wy w12 := below_then hB hB.size hb12
       have hg : w12.heap[(wy0.alloc (.cells #[.int .u8 b] 5)).heap.size]? = some (.cells #[.slice none 0 0, .slice none 0 0, .slice none 0 0, .slice none 0 0] 26 (0, 0)) := blk_below hg hb12
       refine hK.out _ _ trivial (fun hHeld => ?_)
       clear hK K
       refine norm_ (a' := ?_) ?_ ?_
       rotate_left
       ·show Act.put _ (some 86) _ = _
        simp only [Act.put, List.setIfInBounds_toArray, List.set_cons_zero, List.set_cons_succ, i64_w, i32_w]
        rfl
       refine pure_ (i := 13) (N := some 73) (v := ?_) (a' := ?_) #[true, true, true, true, true, true, true, true, true, true, true, true, true, true, false, false, true, false, false] rfl rfl (by kernel_rfl) (fun _ _ _ h => h) (Or.inl ⟨by rfl, ?_⟩) ?_ ?_
       rotate_left
       ·intro w'
        go_simp
        with_reducible rfl
       rotate_left
       ·simp only [Act.put, List.setIfInBounds_toArray, List.set_cons_zero, List.set_cons_succ, i64_w, i32_w]
        rfl
       refine pure_ (i := 14) (N := some 87) (v := ?_) (a' := ?_) #[true, true, true, true, true, true, true, true, true, true, true, true, true, true, true, false, true, false, false] rfl rfl (by kernel_rfl) (fun _ _ _ h => h) (Or.inl ⟨by rfl, ?_⟩) ?_ ?_
       rotate_left
       ·intro w'
        go_simp
        with_reducible rfl
       rotate_left
       ·simp only [Act.put, List.setIfInBounds_toArray, List.set_cons_zero, List.set_cons_succ, i64_w, i32_w]
        rfl
       refine pure_ (i := 15) (N := some 88) (v := ?_) (a' := ?_) #[true, true, true, true, true, true, true, true, true, true, true, true, true, true, true, true, true, false, false] rfl rfl (by kernel_rfl) (fun _ _ _ h => h) (Or.inl ⟨by rfl, ?_⟩) ?_ ?_
       rotate_left
       ·intro w'
        go_simp
        with_reducible rfl
       rotate_left
       ·simp only [Act.put, List.setIfInBounds_toArray, List.set_cons_zero, List.set_cons_succ, i64_w, i32_w]
        rfl
       exact norm_ (by simp only [putAll, Act.put, List.setIfInBounds_toArray, List.set_cons_zero, List.set_cons_succ]) (hCont (wy0.heap.size, (wy0.alloc (.cells #[.int .u8 b] 5)).heap.size, a1, n1, a2, n2, a3, n3, a4, n4) _ ⟨hB, hle, hg⟩)
     ·skip
      refine value_ (w1 := (wy0.alloc (.cells #[.slice none 0 0, .slice none 0 0, .slice none 0 0, .slice none 0 0] 26))) (v := .pointer (some ⟨wy0.heap.size, 0, none⟩)) (by rfl) rfl (by go_simp) ?_
      have hg : (wy0.alloc (.cells #[.slice none 0 0, .slice none 0 0, .slice none 0 0, .slice none 0 0] 26)).heap[wy0.heap.size]? = some (.cells #[.slice none 0 0, .slice none 0 0, .slice none 0 0, .slice none 0 0] 26 (0, 0)) := heap_alloc_new _ _
      have hle : wy.heap.size ≤ wy0.heap.size := hB.size
      have hB : Below wy.heap.size wy (wy0.alloc (.cells #[.slice none 0 0, .slice none 0 0, .slice none 0 0, .slice none 0 0] 26)) := below_then hB hB.size (below_alloc (Below.refl _ _) _)
      refine hK.out _ _ trivial (fun hHeld => ?_)
      clear hK K
      refine norm_ (a' := ?_) ?_ ?_
      rotate_left
      ·show Act.put _ (some 17) _ = _
       simp only [Act.put, List.setIfInBounds_toArray, List.set_cons_zero, List.set_cons_succ, i64_w, i32_w]
       rfl
      refine one_ (i := 4) (N := some 78) #[true, true, true, true, true, false, false, true, true, true, true, false, false, false, false, false, true, false, false] rfl rfl (by kernel_rfl) (by decide) (fun K hK => ?_)
      refine value_ (w1 := ((wy0.alloc (.cells #[.slice none 0 0, .slice none 0 0, .slice none 0 0, .slice none 0 0] 26)).alloc (.cells #[.int .u8 b] 5))) (v := .slice (some ⟨(wy0.alloc (.cells #[.slice none 0 0, .slice none 0 0, .slice none 0 0, .slice none 0 0] 26)).heap.size, 0, none⟩) 1 1) (by rfl) rfl (by go_simp) ?_
      have hr : ReadsInt ((wy0.alloc (.cells #[.slice none 0 0, .slice none 0 0, .slice none 0 0, .slice none 0 0] 26)).alloc (.cells #[.int .u8 b] 5)) .u8 (some ⟨(wy0.alloc (.cells #[.slice none 0 0, .slice none 0 0, .slice none 0 0, .slice none 0 0] 26)).heap.size, 0, none⟩) ([b] : List Int).length [b] := own_reads' (c := 1) (base := (wy0.alloc (.cells #[.slice none 0 0, .slice none 0 0, .slice none 0 0, .slice none 0 0] 26)).heap.size) (e := 5) ⟨rfl, .inr ⟨_, 1, _, rfl, Nat.le_refl _, heap_alloc_new _ _, Nat.le_refl _, by decide, rfl, rfl⟩⟩
      have hB : Below wy.heap.size wy ((wy0.alloc (.cells #[.slice none 0 0, .slice none 0 0, .slice none 0 0, .slice none 0 0] 26)).alloc (.cells #[.int .u8 b] 5)) := below_then hB hB.size (below_alloc (Below.refl _ _) _)
      have hg : ((wy0.alloc (.cells #[.slice none 0 0, .slice none 0 0, .slice none 0 0, .slice none 0 0] 26)).alloc (.cells #[.int .u8 b] 5)).heap[wy0.heap.size]? = some (.cells #[.slice none 0 0, .slice none 0 0, .slice none 0 0, .slice none 0 0] 26 (0, 0)) := blk_below hg (below_alloc (Below.refl _ _) _)
      refine hK.out _ _ trivial (fun hHeld => ?_)
      clear hK K
      refine norm_ (a' := ?_) ?_ ?_
      rotate_left
      ·show Act.put _ (some 78) _ = _
       simp only [Act.put, List.setIfInBounds_toArray, List.set_cons_zero, List.set_cons_succ, i64_w, i32_w]
       rfl
      refine one_ (i := 5) (N := some 79) #[true, true, true, true, true, true, false, true, true, true, true, false, false, false, false, false, true, false, false] rfl rfl (by kernel_rfl) (by decide) (fun K hK => ?_)
      have hcv : (convert 44 9 (.slice (some ⟨(wy0.alloc (.cells #[.slice none 0 0, .slice none 0 0, .slice none 0 0, .slice none 0 0] 26)).heap.size, 0, none⟩) 1 1)).run Tryd.prog ((wy0.alloc (.cells #[.slice none 0 0, .slice none 0 0, .slice none 0 0, .slice none 0 0] 26)).alloc (.cells #[.int .u8 b] 5)) = .ok (.string (strOfNums [b])) ((wy0.alloc (.cells #[.slice none 0 0, .slice none 0 0, .slice none 0 0, .slice none 0 0] 26)).alloc (.cells #[.int .u8 b] 5)) := string_of_reads (c := 1) Tryd.underlying44 Tryd.underlying5 Tryd.underlying9 hr
      rw [show (wy0.alloc (.cells #[.slice none 0 0, .slice none 0 0, .slice none 0 0, .slice none 0 0] 26)).heap.size = wy0.heap.size + 1 by simp] at hcv
      refine value_ (w1 := ((wy0.alloc (.cells #[.slice none 0 0, .slice none 0 0, .slice none 0 0, .slice none 0 0] 26)).alloc (.cells #[.int .u8 b] 5))) (v := .string (strOfNums [b])) (by rfl) rfl (by go_simp) ?_
      refine hK.out _ _ trivial (fun hHeld => ?_)
      clear hK K
      refine norm_ (a' := ?_) ?_ ?_
      rotate_left
      ·show Act.put _ (some 79) _ = _
       simp only [Act.put, List.setIfInBounds_toArray, List.set_cons_zero, List.set_cons_succ, i64_w, i32_w]
       rfl
      refine pure_ (i := 6) (N := some 80) (v := ?_) (a' := ?_) #[true, true, true, true, true, true, true, true, true, true, true, false, false, false, false, false, true, false, false] rfl rfl (by kernel_rfl) (fun _ _ _ h => h) (Or.inl ⟨by rfl, ?_⟩) ?_ ?_
      rotate_left
      ·intro w'
       go_simp
       with_reducible rfl
      rotate_left
      ·simp only [Act.put, List.setIfInBounds_toArray, List.set_cons_zero, List.set_cons_succ, i64_w, i32_w]
       rfl
      refine pure_ (i := 11) (N := some 85) (v := ?_) (a' := ?_) #[true, true, true, true, true, true, true, true, true, true, true, true, false, false, false, false, true, false, false] rfl rfl (by kernel_rfl) (fun _ _ _ h => h) (Or.inl ⟨by rfl, ?_⟩) ?_ ?_
      rotate_left
      ·intro w'
       go_simp
       with_reducible rfl
      rotate_left
      ·simp only [Act.put, List.setIfInBounds_toArray, List.set_cons_zero, List.set_cons_succ, i64_w, i32_w]
       rfl
      refine one_ (i := 12) (N := some 86) #[true, true, true, true, true, true, true, true, true, true, true, true, true, false, false, false, true, false, false] rfl rfl (by kernel_rfl) (by decide) (fun K hK => ?_)
      refine goes_ Tryd.func22 (by kernel_rfl) rfl #[.string ((s.extract 0 i.toNat ++ strOfNums [b]) ++ s.extract (wrap64 (i + 1)).toNat s.size)] (by rfl) rfl rfl (by (try simp only [List.map_toArray, List.map_cons, List.map_nil]); first | done | rfl) ?_
      refine (code_Decode.calls k _ d1 d2 d3 d4 180 ((wy0.alloc (.cells #[.slice none 0 0, .slice none 0 0, .slice none 0 0, .slice none 0 0] 26)).alloc (.cells #[.int .u8 b] 5)) (hG.below (below_then hBy hBy.size hB)) H6.out).mono ?_
      rintro e w12 ⟨va, vb, vc, vd, rfl, ha_, hb_, hc_, hd_, hb12⟩
      refine ⟨_, rfl, ?_⟩
      obtain ⟨a1, n1, rfl⟩ := Kd.R_slice ha_
      obtain ⟨a2, n2, rfl⟩ := Kd.R_slice hb_
      obtain ⟨a3, n3, rfl⟩ := Kd.R_slice hc_
      obtain ⟨a4, n4, rfl⟩ := Kd.R_slice hd_
      clear ha_ hb_ hc_ hd_
      have hB : Below wy.heap.size wy w12 := below_then hB hB.size hb12
      have hg : w12.heap[wy0.heap.size]? = some (.cells #[.slice none 0 0, .slice none 0 0, .slice none 0 0, .slice none 0 0] 26 (0, 0)) := blk_below hg hb12
      refine hK.out _ _ trivial (fun hHeld => ?_)
      clear hK K
      refine norm_ (a' := ?_) ?_ ?_
      rotate_left
      ·show Act.put _ (some 86) _ = _
       simp only [Act.put, List.setIfInBounds_toArray, List.set_cons_zero, List.set_cons_succ, i64_w, i32_w]
       rfl
      refine pure_ (i := 13) (N := some 73) (v := ?_) (a' := ?_) #[true, true, true, true, true, true, true, true, true, true, true, true, true, true, false, false, true, false, false] rfl rfl (by kernel_rfl) (fun _ _ _ h => h) (Or.inl ⟨by rfl, ?_⟩) ?_ ?_
      rotate_left
      ·intro w'
       go_simp
       with_reducible rfl
      rotate_left
      ·simp only [Act.put, List.setIfInBounds_toArray, List.set_cons_zero, List.set_cons_succ, i64_w, i32_w]
       rfl
      refine pure_ (i := 14) (N := some 87) (v := ?_) (a' := ?_) #[true, true, true, true, true, true, true, true, true, true, true, true, true, true, true, false, true, false, false] rfl rfl (by kernel_rfl) (fun _ _ _ h => h) (Or.inl ⟨by rfl, ?_⟩) ?_ ?_
      rotate_left
      ·intro w'
       go_simp
       with_reducible rfl
      rotate_left
      ·simp only [Act.put, List.setIfInBounds_toArray, List.set_cons_zero, List.set_cons_succ, i64_w, i32_w]
       rfl
      refine pure_ (i := 15) (N := some 88) (v := ?_) (a' := ?_) #[true, true, true, true, true, true, true, true, true, true, true, true, true, true, true, true, true, false, false] rfl rfl (by kernel_rfl) (fun _ _ _ h => h) (Or.inl ⟨by rfl, ?_⟩) ?_ ?_
      rotate_left
      ·intro w'
       go_simp
       with_reducible rfl
      rotate_left
      ·simp only [Act.put, List.setIfInBounds_toArray, List.set_cons_zero, List.set_cons_succ, i64_w, i32_w]
       rfl
      exact norm_ (by simp only [putAll, Act.put, List.setIfInBounds_toArray, List.set_cons_zero, List.set_cons_succ]) (hCont ((wy0.alloc (.cells #[.slice none 0 0, .slice none 0 0, .slice none 0 0, .slice none 0 0] 26)).heap.size, wy0.heap.size, a1, n1, a2, n2, a3, n3, a4, n4) _ ⟨hB, hle, hg⟩)
    rintro ⟨x, g, a1, n1, a2, n2, a3, n3, a4, n4⟩ wz1 ⟨hB, hle, hg⟩
    have hHeld : True := trivial
    have g0 : wz1.cell? ⟨g, 0, none⟩ = some (.slice none 0 0) := blk_cell hg 0
    have g1 : wz1.cell? ⟨g, 1, none⟩ = some (.slice none 0 0) := blk_cell hg 1
    have g2 : wz1.cell? ⟨g, 2, none⟩ = some (.slice none 0 0) := blk_cell hg 2
    have g3 : wz1.cell? ⟨g, 3, none⟩ = some (.slice none 0 0) := blk_cell hg 3
    have e0 := blk_frozen hg 0
    have e1 := blk_frozen hg 1
    have e2 := blk_frozen hg 2
    have e3 := blk_frozen hg 3
    refine norm_ (a' := ?_) ?_ ?_
    rotate_left
    ·simp only [putAll, Act.put, List.setIfInBounds_toArray, List.set_cons_zero, List.set_cons_succ]
     rfl
    refine one_ (i := 17) (N := none) #[true, true, true, true, true, true, true, true, true, true, true, true, true, true, true, true, true, true, false] rfl rfl (by kernel_rfl) (by decide) (fun K hK => ?_)
    refine skip_ (w1 := (((wz1.setCell ⟨g, 0, none⟩ (.slice a1 d1.length n1)).setCell ⟨g, 1, none⟩ (.slice a2 d2.length n2)).setCell ⟨g, 2, none⟩ (.slice a3 d3.length n3)).setCell ⟨g, 3, none⟩ (.slice a4 d4.length n4)) (by rfl) rfl (by go_simp) ?_
    refine hK.out _ _ trivial (fun hHeld => ?_)
    clear hK K
    refine pure_ (i := 18) (N := some 18) (v := ?_) (a' := ?_) #[true, true, true, true, true, true, true, true, true, true, true, true, true, true, true, true, true, true, true] rfl rfl (by kernel_rfl) (fun _ _ _ h => h) (Or.inl ⟨by rfl, ?_⟩) ?_ ?_
    rotate_left
    ·intro w'
     go_simp
     with_reducible rfl
    rotate_left
    ·simp only [Act.put, List.setIfInBounds_toArray, List.set_cons_zero, List.set_cons_succ, i64_w, i32_w]
     rfl
    refine done_ (by kernel_rfl) ?_
    have hgw : w.heap.size ≤ g := Nat.le_trans hBy.size hle
    have hBw := below_then hBy hBy.size hB
    go_wp2_with fail
    go_ret
    exact ⟨rfl, below_set (below_set (below_set (below_set hBw hgw) hgw) hgw) hgw⟩
 ·rw [if_neg (show ¬ ((s, er) : ByteArray × Int).2 = 0 from he)] at h
  obtain rfl := Option.some.inj h
  clear h
  have fe : (er != 0) = true := bne_iff_ne.mpr he
  have fe' : (er == 0) = false := beq_eq_false_iff_ne.mpr he
  go_enter Tryd.func10, Tryd.ntmps10
  go_wp2_with (first
   | (go_at_call 11; (refine (isthmuslaw18_awake.calls k true _ hG h0).mono ?_); rintro e wa ⟨rfl, hba⟩; have hl1 : (wa.alloc (.cells #[.int .i64 1] 3)).ownsRow wa.heap.size 3 1 (.slice (some ⟨wa.heap.size, 0, none⟩) 1 1) ([1] : List Int).length (nums .i64 [1]) := ⟨rfl, .inr ⟨_, 1, _, rfl, Nat.le_refl _, heap_alloc_new _ _, Nat.le_refl _, by decide, rfl, rfl⟩⟩; obtain ⟨A3, c3, ev, hlc1, hC1⟩ := Kd.R_reads (Kd.R_of_own (h1 := fun _ => rfl) (ok := fun _ => True) hl1 (fun _ _ => trivial)); injection ev with ea en ec; subst ea ec; clear hl1 en; have hba1 := below_alloc hba (.cells #[.int .i64 1] 3))
   | (go_at_call 20; (refine (isthmuslaw18_Code.calls A0 c0 l0 A1 c1 l1 none 0 [] (some ⟨wa.heap.size, 0, none⟩) 1 [1] true ws _ (Kd.C_below hr0 hba1) hc0 h1).mono ?_); rintro e w1 ⟨v0, rfl, hR, hb⟩; obtain ⟨Aw, cw, rfl, hlw, hCw⟩ := Kd.R_reads hR; have hB1 := below_step hba1 hb; have hC7 := Kd.C_below hC1 hb; have hr1' := Kd.C_below hr1 hB1; have bx0 := heap_alloc_new w1 (.cells #[.slice Aw ws.length cw, .slice A1 l1.length c1, .slice none 0 0, .slice (some ⟨wa.heap.size, 0, none⟩) 1 1] 26); have y0 := blk_cell bx0 0; have y1 := blk_cell bx0 1; have y2 := blk_cell bx0 2; have y3 := blk_cell bx0 3; clear hR)
   | (go_at_call 14; (refine (code_Encode.calls k _ _ ws _ _ l1 _ _ [] _ _ [1] s er _ (Kd.C_below hCw (by exact below_alloc (Below.refl _ _) _)) hlw (Kd.C_below hr1' (by exact below_alloc (Below.refl _ _) _)) hc1 (Kd.C_nil _ _) (Nat.le_refl _) (Kd.C_below hC7 (by exact below_alloc (Below.refl _ _) _)) hlc1 (hG.below (by exact below_alloc hB1 _)) h2).mono ?_); rintro e w2 ⟨rfl, hb3⟩; have bx1 := blk_below bx0 hb3; have y0 := blk_cell bx1 0; have y1 := blk_cell bx1 1; have y2 := blk_cell bx1 2; have y3 := blk_cell bx1 3; have hB2 := below_step (below_alloc (Below.refl w1.heap.size w1) (.cells #[.slice Aw ws.length cw, .slice A1 l1.length c1, .slice none 0 0, .slice (some ⟨wa.heap.size, 0, none⟩) 1 1] 26)) hb3; have hB2w := below_then hB1 hB1.size hB2))
  go_ret
  exact ⟨rfl, hB2w⟩
end Go.Proofs.YtnlimplbmncdeaaDoor.C
namespace Go.Proofs.YtnlimplbmncdeaaDoor.Code
open Go.RowKit Go.Proofs.YtnlimplbmncdeaaDoorW.PrintWords Go.Proofs.YtnlimplbmncdeaaDoorW.PrintMore Go.Proofs.YtnlimplbmncdeaaDoor.C Go.Proofs.YtnlimplbmncdeaaDoor.PackBits Go.Proofs.YtnlimplbmncdeaaDoor.Sevens Go.Proofs.YtnlimplbmncdeaaDoor.Pack Go.Proofs.YtnlimplbmncdeaaDoor.Lex Go.Proofs.YtnlimplbmncdeaaDoor.Str
theorem le_get : ∀ (n j : Nat) (h : Int), j < n → (le n h)[j]? = some (h / 256 ^ j % 256)
 | 0, j, h, hj => by omega
 | n + 1, 0, h, _ => by rw [le]; simp
 | n + 1, j + 1, h, hj => by
  rw [le, List.getElem?_cons_succ, le_get n j _ (by omega), Int.ediv_ediv_of_nonneg (by decide), Int.pow_succ, Int.mul_comm]
theorem bt_of {s : ByteArray} {i : Nat} (h : i < s.size) : (bytesOf s)[i]? = some (bt s i) := by
 have := bt_drop h
 have h2 := congrArg (fun l => l[0]?) this
 simpa using h2
theorem tlc_f (s : ByteArray) (a : List Int) (h : Int) (ha : bytesOf s = a ++ le 8 h) (h0 : 0 ≤ h) (h1 : h ≤ 18446744073709551615) (hs : s.size ≤ 1000000) : ∀ (n j : Nat), n + j = 8 → tlc s n j (h / 256 ^ j) = true := by
 have hz : s.size = a.length + 8 := by rw [← bytesOf_length, ha, List.length_append, le_len]
 intro n
 induction n with
 | zero => intro j _; rfl
 | succ n ih =>
  intro j hj
  have hi : wrap64 (wrap64 ((s.size : Int) - 8) + (j : Int)) = ((a.length + j : Nat) : Int) := by rw [Lex.w64_id (n := (s.size : Int) - 8) (by omega) (by omega), Lex.w64_id (by omega) (by omega)]; omega
  have hp : (0 : Int) < 256 ^ j := Int.pow_pos (by decide)
  have hq0 : 0 ≤ h / 256 ^ j := Int.ediv_nonneg h0 (by omega)
  have hq1 : h / 256 ^ j ≤ h := Int.ediv_le_self _ h0
  have hb := bt_of (s := s) (i := a.length + j) (by omega)
  rw [ha, List.getElem?_append_right (by omega), Nat.add_sub_cancel_left, le_get 8 j h (by omega)] at hb
  have hb' := Option.some.inj hb
  rw [tlc, hi, if_pos ⟨by omega, by omega, by rw [← hb', Int.tmod_eq_emod_of_nonneg hq0]; omega⟩, Int.tdiv_eq_ediv_of_nonneg hq0, PackBits.u64_id (by omega) (by omega), Int.ediv_ediv_of_nonneg (by omega), ← Int.pow_succ]
  exact ih (j + 1) (by omega)
theorem CodeTail {l0 : List SRaw} {l1 : List Int} {at_ by_ : Int} (h : ∀ x ∈ l0, RW x) (hc : I64 l1) (z0 : l0.length * 8 ≤ 140737488351232)
  (h2 : -9223372036854775808 ≤ at_ ∧ at_ ≤ 9223372036854775807) (h3 : -9223372036854775808 ≤ by_ ∧ by_ ≤ 9223372036854775807) :
  ∃ k, isthmuslaw18_CodeTail.f k l0 l1 at_ by_ = some true := by
 obtain ⟨k, hk⟩ : ∃ k : Nat, k = 5000000 := ⟨_, rfl⟩
 refine ⟨k, ?_⟩
 have hw := code_u h
 unfold isthmuslaw18_CodeTail.f
 rw [awake_f (by omega), bs, code_f h (by omega), bs, encode_f [] [1] hw hc (by omega), bs, if_pos rfl]
 unfold encV
 by_cases hR : rightS (l0.map wdV) l1 [] [1] = true
 ·rw [if_pos hR]
  refine (if_pos rfl).trans ?_
  have hlen := enc_len hw hc hR
  have hB := encS_bytes (l0.map wdV) l1 [] [1]
  have hsr := sumS_range (laidS_bytes (l0.map wdV) l1 [] [1])
  generalize hs : strOfNums (encS (l0.map wdV) l1 [] [1]) = s
  have hb : bytesOf s = laidS (l0.map wdV) l1 [] [1] ++ le 8 (sumS (laidS (l0.map wdV) l1 [] [1])) := by rw [← hs, bytes_nums hB]; rfl
  have hz : s.size ≤ 800008 ∧ 15 ≤ s.size := by rw [← hs, strOfNums_size]; exact hlen
  have hz8 : s.size = (laidS (l0.map wdV) l1 [] [1]).length + 8 := by rw [← bytesOf_length, hb, List.length_append, le_len]
  refine (if_pos ⟨by show (12 : Int) ≤ (s.size : Int); omega, by show s.size ≤ _; omega⟩).trans ?_
  rw [sumc_f [] [1] hw hc (by omega), bs]
  unfold sumV
  rw [if_pos hR]
  have ht := tlc_f s _ _ hb hsr.1 hsr.2 (by omega) 8 0 rfl
  rw [show sumS (laidS (l0.map wdV) l1 [] [1]) / 256 ^ 0 = sumS (laidS (l0.map wdV) l1 [] [1]) by simp] at ht
  refine (if_pos ht).trans ?_
  rw [pick_f h2.1 h2.2 (by omega), bs, pick_f h3.1 h3.2 (by omega), bs]
  show tl2 k s (wrap64 (wrap64 ((s.size : Int) - 8) + pk at_ 8)) (pk by_ 255) = some true
  have hp := pk_range at_ (n := 8) (by omega)
  have hq := pk_range by_ (n := 255) (by omega)
  generalize pk at_ 8 = p at hp
  generalize pk by_ 255 = q at hq
  generalize hA : laidS (l0.map wdV) l1 [] [1] = A at *
  generalize hH : sumS A = H at *
  rw [Lex.w64_id (n := (s.size : Int) - 8) (by omega) (by omega), Lex.w64_id (n := (s.size : Int) - 8 + p) (by omega) (by omega)]
  obtain ⟨j, rfl⟩ := Int.eq_ofNat_of_zero_le hp.1
  rw [show (s.size : Int) - 8 + (j : Int) = ((A.length + j : Nat) : Int) by omega]
  have hbt := bt_of (s := s) (i := A.length + j) (by omega)
  have hbr := bt_range s ((A.length + j : Nat) : Int)
  have HW1 : Aside0 (wrap64 (((A.length + j : Nat) : Int) + 1) = ((A.length + j + 1 : Nat) : Int)) := ⟨w2 (by omega)⟩
  obtain ⟨b, hbd⟩ : ∃ b, b = wrap64 (wrap64 (wrap64 (bt s ((A.length + j : Nat) : Int)) + 1) + q) % 256 := ⟨_, rfl⟩
  have hbv : b = (bt s ((A.length + j : Nat) : Int) + 1 + q) % 256 := by
   rw [hbd, Lex.w64_id (n := bt s ((A.length + j : Nat) : Int)) (by omega) (by omega), Lex.w64_id (n := bt s ((A.length + j : Nat) : Int) + 1) (by omega) (by omega), Lex.w64_id (by omega) (by omega)]
  have HBD := Aside0.mk hbd
  clear hbd
  have hjl : j < (le 8 H).length := by rw [le_len]; omega
  have hjb : (le 8 H)[j]? = some (bt s ((A.length + j : Nat) : Int)) := by
   rw [hb, List.getElem?_append_right (by omega), Nat.add_sub_cancel_left] at hbt
   exact hbt
  have hT : tlt s ((A.length + j : Nat) : Int) q = strOfNums (A ++ ((le 8 H).take j ++ [b] ++ (le 8 H).drop (j + 1))) := by
   apply ext_bytes
   unfold tlt
   rw [← HBD.out, HW1.out, bytes_append, bytes_append, ext_take, bytes_extract, hb, show (((A.length + j : Nat) : Int)).toNat = A.length + j from rfl, show (((A.length + j + 1 : Nat) : Int)).toNat = A.length + (j + 1) from rfl, bytes_nums (by intro x hx; simp at hx; omega),
    bytes_nums (BY.app (by rw [← hA]; exact laidS_bytes _ _ _ _) (BY.app (BY.app (BY.take (le_bytes _ _) _) (by intro x hx; simp at hx; omega)) (BY.drop (le_bytes _ _) _)))]
   rw [List.drop_zero, Nat.sub_zero, List.take_length_add_append, List.drop_length_add_append]
   simp only [List.append_assoc]
  have hsz : (tlt s ((A.length + j : Nat) : Int) q).size ≤ 9223372036854775807 := by
   rw [hT, strOfNums_size]
   simp only [List.length_append, List.length_take, List.length_drop, le_len, List.length_singleton]
   omega
  unfold tl2
  rw [if_pos ⟨by omega, by omega, by rw [HW1.out]; omega, by rw [HW1.out]; omega, hsz⟩, hT]
  have hbad : code_Decode.f k (strOfNums (A ++ ((le 8 H).take j ++ [b] ++ (le 8 H).drop (j + 1)))) = some bad5 := by
   rw [← hA]
   refine bad_more hw hc hR (by omega) (BY.app (BY.app (BY.take (le_bytes _ _) _) (by intro x hx; simp at hx; omega)) (BY.drop (le_bytes _ _) _)) (by simp only [List.length_append, List.length_take, List.length_drop, le_len, List.length_singleton]; omega) (fun he => ?_)
   rw [hA, hH] at he
   have h4 : ((le 8 H).take j ++ ([b] ++ (le 8 H).drop (j + 1)))[j]? = (le 8 H)[j]? := by rw [← List.append_assoc, he]
   rw [List.getElem?_append_right (by rw [List.length_take]; omega), List.length_take, Nat.min_eq_left (by omega), Nat.sub_self, hjb] at h4
   have h5 : b = bt s ((A.length + j : Nat) : Int) := Option.some.inj h4
   omega
  rw [hbad, bs]
  exact if_pos rfl
 ·rw [if_neg hR]
  exact if_neg (by decide)
end Go.Proofs.YtnlimplbmncdeaaDoor.Code
