/- The laws CodeBack, CodeBackWords, CodeLists, CodeTail of the program hold, as their cards say: texts put together by a program, 33 of 39. -/
import Derived.Test.YtnlimplbmncdeaaDoorPB12
import Derived.Test.YtnlimplbmncdeaaDoorPB18
import Derived.Test.YtnlimplbmncdeaaDoorPB20
import Derived.Test.YtnlimplbmncdeaaDoorPB21
import Derived.Test.YtnlimplbmncdeaaDoorPB24
import Derived.Test.YtnlimplbmncdeaaDoorPB26
import Derived.Test.YtnlimplbmncdeaaDoorPB31
namespace Go.Proofs.YtnlimplbmncdeaaDoor.C
open Go.RowKit Go.Proofs.YtnlimplbmncdeaaDoorW.PrintWords Go.Proofs.YtnlimplbmncdeaaDoorW.PrintLast Go.Proofs.YtnlimplbmncdeaaDoorW.PrintMore
attribute [local go_sem] max2_int min2_int max_two min_two max_three min_three max_four min_four
set_option linter.unusedVariables false
set_option linter.unusedSimpArgs false
def isthmuslaw18_CodeBackWords.f (k : Nat) (l0 : List SRaw) (l1 : List Int) (l2 : List ByteArray) : Option Bool := (isthmuslaw18_Code.f l0 true).bind fun ws => isthmuslaw18_CodeBack.f k ws l1 l2 [1, 2, 3] ⟨#[]⟩
set_option maxHeartbeats 8000000 in
set_option maxRecDepth 100000 in
theorem isthmuslaw18_CodeBackWords.calls (k : Nat) (A0 : Option Addr) (c0 : Nat) (l0 : List SRaw) (A1 : Option Addr) (c1 : Nat) (l1 : List Int) (A2 : Option Addr) (c2 : Nat) (l2 : List ByteArray) (r : Bool) (w : World) (hr0 : Kd.C kRaw w A0 l0.length l0) (hc0 : l0.length ≤ c0) (hr1 : Kd.C (Kd.int .i64) w A1 l1.length l1) (hc1 : l1.length ≤ c1) (hr2 : Kd.C Kd.string w A2 l2.length l2) (hc2 : l2.length ≤ c2) (hG : Glob w) (h : isthmuslaw18_CodeBackWords.f k l0 l1 l2 = some r) :
  Calls Tryd.prog 8 #[.slice A0 l0.length c0, .slice A1 l1.length c1, .slice A2 l2.length c2] w fun e w' => e = .returned (.bool r) ∧ Below w.heap.size w w' := by
 unfold isthmuslaw18_CodeBackWords.f at h
 obtain ⟨ws, h1, h2⟩ := Option.bind_eq_some_iff.mp h
 clear h
 have hl3 : (w.alloc (.cells #[.int .i64 1, .int .i64 2, .int .i64 3] 3)).ownsRow w.heap.size 3 1 (.slice (some ⟨w.heap.size, 0, none⟩) 3 3) ([1, 2, 3] : List Int).length (nums .i64 [1, 2, 3]) := ⟨rfl, .inr ⟨_, 3, _, rfl, Nat.le_refl _, heap_alloc_new _ _, Nat.le_refl _, by decide, rfl, rfl⟩⟩
 obtain ⟨A3, c3, ev3, hlc3, hC3⟩ := Kd.R_reads (Kd.R_of_own (h1 := fun _ => rfl) (ok := fun _ => True) hl3 (fun _ _ => trivial))
 injection ev3 with ea3 en3 ec3
 subst ea3 ec3
 clear hl3 en3
 have hb := below_alloc (Below.refl w.heap.size w) (.cells #[.int .i64 1, .int .i64 2, .int .i64 3] 3)
 have hr0' := Kd.C_below hr0 hb
 go_enter Tryd.func8, Tryd.ntmps8
 go_wp2_with (first
  | (go_at_call 20; (refine (isthmuslaw18_Code.calls A0 c0 l0 A1 c1 l1 A2 c2 l2 (some ⟨w.heap.size, 0, none⟩) 3 [1, 2, 3] true ws _ hr0' hc0 h1).mono ?_); rintro e w2 ⟨v0, rfl, hR, hb2⟩; obtain ⟨A4, c4, rfl, hl4, hC4⟩ := Kd.R_reads hR; have hb3 := below_step hb hb2)
  | (go_at_call 7; (refine (isthmuslaw18_CodeBack.calls k _ _ ws _ _ l1 _ _ l2 _ _ [1, 2, 3] _ r _ hC4 hl4 (Kd.C_below hr1 hb3) hc1 (Kd.C_below hr2 hb3) hc2 (Kd.C_below hC3 hb2) hlc3 (hG.below hb3) h2).mono ?_); rintro e w3 ⟨rfl, hb4⟩; have hb5 := below_step hb3 hb4))
 go_ret
 exact ⟨rfl, hb5⟩
def isthmuslaw18_CodeLists.f (k : Nat) (l0 : List SRaw) : Option Bool := (isthmuslaw18_awake.f k).bind fun a => (isthmuslaw18_Code.f l0 true).bind fun ws => (code_Encode.f k ws [] [] []).bind fun t => (code_Sum.f k ws [] [] []).bind fun h => (code_Right.f k ws [] [] []).bind fun rt =>
 if a = true then (if t.2 = 0 then (code_Decode.f k t.1).bind fun d => if d.2.2.2.2 = 0 ∧ (d.1.length : Int) = (l0.length : Int) ∧ d.2.1 = [] ∧ d.2.2.1 = [] ∧ d.2.2.2.1 = [] then some true else none else if t.2 = 180 then some true else none) else none
theorem C_any {α : Type} (d : Kd α) (w : World) (A : Option Addr) : d.C w A ([] : List α).length [] := ⟨rfl, by simp, fun h => absurd h (Nat.lt_irrefl 0)⟩
set_option maxHeartbeats 8000000 in
set_option maxRecDepth 100000 in
theorem isthmuslaw18_CodeLists.calls (k : Nat) (A0 : Option Addr) (c0 : Nat) (l0 : List SRaw) (r : Bool) (w : World) (hr0 : Kd.C kRaw w A0 l0.length l0) (hc0 : l0.length ≤ c0) (hG : Glob w) (h : isthmuslaw18_CodeLists.f k l0 = some r) :
  Calls Tryd.prog 9 #[.slice A0 l0.length c0] w fun e w' => e = .returned (.bool r) ∧ Below w.heap.size w w' := by
 unfold isthmuslaw18_CodeLists.f at h
 obtain ⟨a, h0, h⟩ := Option.bind_eq_some_iff.mp h
 obtain ⟨ws, h1, h⟩ := Option.bind_eq_some_iff.mp h
 obtain ⟨⟨s, er⟩, h2, h⟩ := Option.bind_eq_some_iff.mp h
 obtain ⟨hs, h3, h⟩ := Option.bind_eq_some_iff.mp h
 obtain ⟨rt, h4, h⟩ := Option.bind_eq_some_iff.mp h
 by_cases ha : a = true
 case neg => rw [if_neg ha] at h; cases h
 rw [if_pos ha] at h
 have HF := Aside0.mk h
 subst ha
 go_enter Tryd.func9, Tryd.ntmps9
 go_wp2_with (first
  | (go_at_call 11; (refine (isthmuslaw18_awake.calls k true _ hG h0).mono ?_); rintro e wa ⟨rfl, hba⟩)
  | (go_at_call 20; (refine (isthmuslaw18_Code.calls A0 c0 l0 none 0 [] none 0 [] none 0 [] true ws _ (Kd.C_below hr0 hba) hc0 h1).mono ?_); rintro e w1 ⟨v0, rfl, hR, hb⟩; obtain ⟨Aw, cw, rfl, hlw, hCw⟩ := Kd.R_reads hR; have hB1 := below_step hba hb; have bx0 := heap_alloc_new w1 (.cells #[.slice Aw ws.length cw, .slice none 0 0, .slice none 0 0, .slice none 0 0] 26); have y0 := blk_cell bx0 0; have y1 := blk_cell bx0 1; have y2 := blk_cell bx0 2; have y3 := blk_cell bx0 3; clear hR; have hB5 := below_alloc (below_alloc (below_alloc (below_alloc (below_alloc (Below.refl w1.heap.size w1) (.cells #[.slice Aw ws.length cw, .slice none 0 0, .slice none 0 0, .slice none 0 0] 26)) (.cells #[] 3)) (.cells #[] 9)) (.cells #[] 3)) (.cells #[.slice Aw ws.length cw, .slice (some ⟨w1.heap.size + 1, 0, none⟩) 0 0, .slice (some ⟨w1.heap.size + 1 + 1, 0, none⟩) 0 0, .slice (some ⟨w1.heap.size + 1 + 1 + 1, 0, none⟩) 0 0] 26); have bx5 := blk_alloc (blk_alloc (blk_alloc (blk_alloc bx0 (.cells #[] 3)) (.cells #[] 9)) (.cells #[] 3)) (.cells #[.slice Aw ws.length cw, .slice (some ⟨w1.heap.size + 1, 0, none⟩) 0 0, .slice (some ⟨w1.heap.size + 1 + 1, 0, none⟩) 0 0, .slice (some ⟨w1.heap.size + 1 + 1 + 1, 0, none⟩) 0 0] 26); have bd5 := heap_alloc_new ((((w1.alloc (.cells #[.slice Aw ws.length cw, .slice none 0 0, .slice none 0 0, .slice none 0 0] 26)).alloc (.cells #[] 3)).alloc (.cells #[] 9)).alloc (.cells #[] 3)) (.cells #[.slice Aw ws.length cw, .slice (some ⟨w1.heap.size + 1, 0, none⟩) 0 0, .slice (some ⟨w1.heap.size + 1 + 1, 0, none⟩) 0 0, .slice (some ⟨w1.heap.size + 1 + 1 + 1, 0, none⟩) 0 0] 26); rw [show ((((w1.alloc (.cells #[.slice Aw ws.length cw, .slice none 0 0, .slice none 0 0, .slice none 0 0] 26)).alloc (.cells #[] 3)).alloc (.cells #[] 9)).alloc (.cells #[] 3)).heap.size = w1.heap.size + 1 + 1 + 1 + 1 by simp] at bd5; have hB5w := below_then hB1 hB1.size hB5)
  | (go_at_call 14; (refine (code_Encode.calls k _ _ ws (some ⟨w1.heap.size + 1, 0, none⟩) 0 [] (some ⟨w1.heap.size + 1 + 1, 0, none⟩) 0 [] (some ⟨w1.heap.size + 1 + 1 + 1, 0, none⟩) 0 [] s er w2 (Kd.C_below hCw hB2) hlw (C_any _ _ _) (Nat.le_refl _) (C_any _ _ _) (Nat.le_refl _) (C_any _ _ _) (Nat.le_refl _) (hG.below hB2w) h2).mono ?_); rintro e w3 ⟨rfl, hb3⟩; have bx3 := blk_below bx hb3; have bd3 := blk_below bd hb3; have hB3 := below_step hB2 hb3; have hB3w := below_then hB1 hB1.size hB3)
  | (go_at_call 14; (refine (code_Encode.calls k _ _ ws none 0 [] none 0 [] none 0 [] s er _ (Kd.C_below hCw hB5) hlw (Kd.C_nil _ _) (Nat.le_refl _) (Kd.C_nil _ _) (Nat.le_refl _) (Kd.C_nil _ _) (Nat.le_refl _) (hG.below hB5w) h2).mono ?_); rintro e w2 ⟨rfl, hb2⟩; have bx := blk_below bx5 hb2; have bd := blk_below bd5 hb2; have y0 := blk_cell bx 0; have y1 := blk_cell bx 1; have y2 := blk_cell bx 2; have y3 := blk_cell bx 3; have u0 := blk_cell bd 0; have u1 := blk_cell bd 1; have u2 := blk_cell bd 2; have u3 := blk_cell bd 3; have hB2 := below_step hB5 hb2; have hB2w := below_then hB1 hB1.size hB2))
 refine start_ (n := 26) (S := fun w' => w'.heap[w1.heap.size]? = some (.cells #[.slice Aw ws.length cw, .slice none 0 0, .slice none 0 0, .slice none 0 0] 26 (0, 0)) ∧ w'.heap[w1.heap.size + 1 + 1 + 1 + 1]? = some (.cells #[.slice Aw ws.length cw, .slice (some ⟨w1.heap.size + 1, 0, none⟩) 0 0, .slice (some ⟨w1.heap.size + 1 + 1, 0, none⟩) 0 0, .slice (some ⟨w1.heap.size + 1 + 1 + 1, 0, none⟩) 0 0] 26 (0, 0))) (ds := []) #[false, false, false, false, false, false, false, false, false, false, false, false, false, false, false, false, false, false, false, false, false, false, false, false, false, false] (by kernel_rfl) rfl rfl ⟨bx3, bd3⟩ (fun hHeld => ?_)
 have hB4 := hB3.drew
 generalize w3.drew = w4 at hB4 hHeld ⊢
 refine pure_ (i := 0) (N := some 31) (v := ?_) (a' := ?_) #[true, false, false, false, false, false, false, false, false, false, false, false, false, false, false, false, false, false, false, false, false, false, false, false, false, false] rfl rfl (by kernel_rfl) (fun _ _ _ h => h) (Or.inl ⟨by rfl, ?_⟩) ?_ ?_
 rotate_left
 ·intro w'
  go_simp
  with_reducible rfl
 rotate_left
 ·simp only [Act.put, List.setIfInBounds_toArray, List.set_cons_zero, List.set_cons_succ, i64_w, i32_w]
  rfl
 refine pure_ (i := 1) (N := some 32) (v := ?_) (a' := ?_) #[true, true, false, false, false, false, false, false, false, false, false, false, false, false, false, false, false, false, false, false, false, false, false, false, false, false] rfl rfl (by kernel_rfl) (fun _ _ _ h => h) (Or.inl ⟨by rfl, ?_⟩) ?_ ?_
 rotate_left
 ·intro w'
  go_simp
  with_reducible rfl
 rotate_left
 ·simp only [Act.put, List.setIfInBounds_toArray, List.set_cons_zero, List.set_cons_succ, i64_w, i32_w]
  rfl
 refine pure_ (i := 2) (N := some 33) (v := ?_) (a' := ?_) #[true, true, true, false, false, false, false, false, false, false, false, false, false, false, false, false, false, false, false, false, false, false, false, false, false, false] rfl rfl (by kernel_rfl) (fun _ _ _ h => h) (Or.inl ⟨by rfl, ?_⟩) ?_ ?_
 rotate_left
 ·intro w'
  go_simp
  with_reducible rfl
 rotate_left
 ·simp only [Act.put, List.setIfInBounds_toArray, List.set_cons_zero, List.set_cons_succ, i64_w, i32_w]
  rfl
 refine pure_ (i := 3) (N := some 34) (v := ?_) (a' := ?_) #[true, true, true, true, false, false, false, false, false, false, false, false, false, false, false, false, false, false, false, false, false, false, false, false, false, false] rfl rfl (by kernel_rfl) (fun _ _ _ h => h) (Or.inl ⟨by rfl, ?_⟩) ?_ ?_
 rotate_left
 ·intro w'
  go_simp
  with_reducible rfl
 rotate_left
 ·simp only [Act.put, List.setIfInBounds_toArray, List.set_cons_zero, List.set_cons_succ, i64_w, i32_w]
  rfl
 refine pure_ (i := 4) (N := some 35) (v := ?_) (a' := ?_) #[true, true, true, true, true, false, false, false, false, false, false, false, false, false, false, false, false, false, false, false, false, false, false, false, false, false] rfl rfl (by kernel_rfl) (fun _ _ _ h => h) (Or.inl ⟨by rfl, ?_⟩) ?_ ?_
 rotate_left
 ·intro w'
  go_simp
  with_reducible rfl
 rotate_left
 ·simp only [Act.put, List.setIfInBounds_toArray, List.set_cons_zero, List.set_cons_succ, i64_w, i32_w]
  rfl
 refine pure_ (i := 5) (N := some 36) (v := ?_) (a' := ?_) #[true, true, true, true, true, true, false, false, false, false, false, false, false, false, false, false, false, false, false, false, false, false, false, false, false, false] rfl rfl (by kernel_rfl) (fun _ _ _ h => h) (Or.inl ⟨by rfl, ?_⟩) ?_ ?_
 rotate_left
 ·intro w'
  go_simp
  with_reducible rfl
 rotate_left
 ·simp only [Act.put, List.setIfInBounds_toArray, List.set_cons_zero, List.set_cons_succ, i64_w, i32_w]
  rfl
 refine pure_ (i := 6) (N := some 37) (v := ?_) (a' := ?_) #[true, true, true, true, true, true, true, false, false, false, false, false, false, false, false, false, false, false, false, false, false, false, false, false, false, false] rfl rfl (by kernel_rfl) (fun _ _ _ h => h) (Or.inl ⟨by rfl, ?_⟩) ?_ ?_
 rotate_left
 ·intro w'
  go_simp
  with_reducible rfl
 rotate_left
 ·simp only [Act.put, List.setIfInBounds_toArray, List.set_cons_zero, List.set_cons_succ, i64_w, i32_w]
  rfl
 refine pure_ (i := 7) (N := some 38) (v := ?_) (a' := ?_) #[true, true, true, true, true, true, true, true, false, false, false, false, false, false, false, false, false, false, false, false, false, false, false, false, false, false] rfl rfl (by kernel_rfl) (fun _ _ _ h => h) (Or.inl ⟨by rfl, ?_⟩) ?_ ?_
 rotate_left
 ·intro w'
  go_simp
  with_reducible rfl
 rotate_left
 ·simp only [Act.put, List.setIfInBounds_toArray, List.set_cons_zero, List.set_cons_succ, i64_w, i32_w]
  rfl
 refine pure_ (i := 8) (N := some 39) (v := ?_) (a' := ?_) #[true, true, true, true, true, true, true, true, true, false, false, false, false, false, false, false, false, false, false, false, false, false, false, false, false, false] rfl rfl (by kernel_rfl) (fun _ _ _ h => h) (Or.inl ⟨by rfl, ?_⟩) ?_ ?_
 rotate_left
 ·intro w'
  go_simp
  with_reducible rfl
 rotate_left
 ·simp only [Act.put, List.setIfInBounds_toArray, List.set_cons_zero, List.set_cons_succ, i64_w, i32_w]
  rfl
 refine pure_ (i := 9) (N := some 40) (v := ?_) (a' := ?_) #[true, true, true, true, true, true, true, true, true, true, false, false, false, false, false, false, false, false, false, false, false, false, false, false, false, false] rfl rfl (by kernel_rfl) (fun _ _ _ h => h) (Or.inl ⟨by rfl, ?_⟩) ?_ ?_
 rotate_left
 ·intro w'
  go_simp
  with_reducible rfl
 rotate_left
 ·simp only [Act.put, List.setIfInBounds_toArray, List.set_cons_zero, List.set_cons_succ, i64_w, i32_w]
  rfl
 refine pure_ (i := 10) (N := some 41) (v := ?_) (a' := ?_) #[true, true, true, true, true, true, true, true, true, true, true, false, false, false, false, false, false, false, false, false, false, false, false, false, false, false] rfl rfl (by kernel_rfl) (fun _ _ _ h => h) (Or.inl ⟨by rfl, ?_⟩) ?_ ?_
 rotate_left
 ·intro w'
  go_simp
  with_reducible rfl
 rotate_left
 ·simp only [Act.put, List.setIfInBounds_toArray, List.set_cons_zero, List.set_cons_succ, i64_w, i32_w]
  rfl
 refine pure_ (i := 11) (N := some 42) (v := ?_) (a' := ?_) #[true, true, true, true, true, true, true, true, true, true, true, true, false, false, false, false, false, false, false, false, false, false, false, false, false, false] rfl rfl (by kernel_rfl) (fun _ _ _ h => h) (Or.inl ⟨by rfl, ?_⟩) ?_ ?_
 rotate_left
 ·intro w'
  go_simp
  with_reducible rfl
 rotate_left
 ·simp only [Act.put, List.setIfInBounds_toArray, List.set_cons_zero, List.set_cons_succ, i64_w, i32_w]
  rfl
 refine pure_ (i := 12) (N := some 43) (v := ?_) (a' := ?_) #[true, true, true, true, true, true, true, true, true, true, true, true, true, false, false, false, false, false, false, false, false, false, false, false, false, false] rfl rfl (by kernel_rfl) (fun _ _ _ h => h) (Or.inl ⟨by rfl, ?_⟩) ?_ ?_
 rotate_left
 ·intro w'
  go_simp
  with_reducible rfl
 rotate_left
 ·simp only [Act.put, List.setIfInBounds_toArray, List.set_cons_zero, List.set_cons_succ, i64_w, i32_w]
  rfl
 refine take_ (i := 13) (N := some 44) (v := ?_) (a' := ?_) #[true, true, true, true, true, true, true, true, true, true, true, true, true, true, false, false, false, false, false, false, false, false, false, false, false, false] rfl rfl (by kernel_rfl) (fun _ _ _ h => h) (Or.inl ⟨by rfl, ?_⟩) hHeld ?_ ?_
 rotate_left
 ·rintro w' s0
  obtain ⟨s1, s2⟩ := s0; have q0 := blk_cell s1 0; have q1 := blk_cell s1 1; have q2 := blk_cell s1 2; have q3 := blk_cell s1 3
  go_simp
  with_reducible rfl
 rotate_left
 ·simp only [Act.put, List.setIfInBounds_toArray, List.set_cons_zero, List.set_cons_succ, i64_w, i32_w]
  rfl
 refine take_ (i := 15) (N := some 46) (v := ?_) (a' := ?_) #[true, true, true, true, true, true, true, true, true, true, true, true, true, true, false, true, false, false, false, false, false, false, false, false, false, false] rfl rfl (by kernel_rfl) (fun _ _ _ h => h) (Or.inl ⟨by rfl, ?_⟩) hHeld ?_ ?_
 rotate_left
 ·rintro w' s0
  obtain ⟨s1, s2⟩ := s0; have q0 := blk_cell s2 0; have q1 := blk_cell s2 1; have q2 := blk_cell s2 2; have q3 := blk_cell s2 3
  go_simp
  with_reducible rfl
 rotate_left
 ·simp only [Act.put, List.setIfInBounds_toArray, List.set_cons_zero, List.set_cons_succ, i64_w, i32_w]
  rfl
 refine one_ (i := 14) (N := some 45) #[true, true, true, true, true, true, true, true, true, true, true, true, true, true, true, true, false, false, false, false, false, false, false, false, false, false] rfl rfl (by kernel_rfl) (by decide) (fun K hK => ?_)
 refine goes_ Tryd.func15 (by kernel_rfl) rfl #[.agg #[.slice Aw ws.length cw, .slice none 0 0, .slice none 0 0, .slice none 0 0]] (by rfl) rfl rfl (by (try simp only [List.map_toArray, List.map_cons, List.map_nil]); first | done | rfl) ?_
 refine (code_Sum.calls k _ _ ws none 0 [] none 0 [] none 0 [] hs w4 (Kd.C_below hCw hB4) hlw (C_any _ _ _) (Nat.le_refl _) (C_any _ _ _) (Nat.le_refl _) (C_any _ _ _) (Nat.le_refl _) (hG.below (below_then hB1 hB1.size hB4)) h3).mono ?_
 rintro e w5 ⟨rfl, hb_⟩
 refine ⟨_, rfl, ?_⟩
 have hB5 := below_step hB4 hb_
 refine hK.out _ _ ⟨blk_below hHeld.1 hb_, blk_below hHeld.2 hb_⟩ (fun hHeld5 => ?_)
 clear hK K
 refine norm_ (a' := ?_) ?_ ?_
 rotate_left
 ·show Act.put _ (some 45) _ = _
  simp only [Act.put, List.setIfInBounds_toArray, List.set_cons_zero, List.set_cons_succ, i64_w, i32_w]
  rfl
 clear hb_
 refine one_ (i := 16) (N := some 47) #[true, true, true, true, true, true, true, true, true, true, true, true, true, true, true, true, true, false, false, false, false, false, false, false, false, false] rfl rfl (by kernel_rfl) (by decide) (fun K hK => ?_)
 refine goes_ Tryd.func15 (by kernel_rfl) rfl #[.agg #[.slice Aw ws.length cw, .slice (some ⟨w1.heap.size + 1, 0, none⟩) 0 0, .slice (some ⟨w1.heap.size + 1 + 1, 0, none⟩) 0 0, .slice (some ⟨w1.heap.size + 1 + 1 + 1, 0, none⟩) 0 0]] (by rfl) rfl rfl (by (try simp only [List.map_toArray, List.map_cons, List.map_nil]); first | done | rfl) ?_
 refine (code_Sum.calls k _ _ ws (some ⟨w1.heap.size + 1, 0, none⟩) 0 [] (some ⟨w1.heap.size + 1 + 1, 0, none⟩) 0 [] (some ⟨w1.heap.size + 1 + 1 + 1, 0, none⟩) 0 [] hs w5 (Kd.C_below hCw hB5) hlw (C_any _ _ _) (Nat.le_refl _) (C_any _ _ _) (Nat.le_refl _) (C_any _ _ _) (Nat.le_refl _) (hG.below (below_then hB1 hB1.size hB5)) h3).mono ?_
 rintro e w6 ⟨rfl, hb_⟩
 refine ⟨_, rfl, ?_⟩
 have hB6 := below_step hB5 hb_
 refine hK.out _ _ ⟨blk_below hHeld5.1 hb_, blk_below hHeld5.2 hb_⟩ (fun hHeld6 => ?_)
 clear hK K
 refine norm_ (a' := ?_) ?_ ?_
 rotate_left
 ·show Act.put _ (some 47) _ = _
  simp only [Act.put, List.setIfInBounds_toArray, List.set_cons_zero, List.set_cons_succ, i64_w, i32_w]
  rfl
 clear hb_
 refine pure_ (i := 17) (N := some 48) (v := ?_) (a' := ?_) #[true, true, true, true, true, true, true, true, true, true, true, true, true, true, true, true, true, true, false, false, false, false, false, false, false, false] rfl rfl (by kernel_rfl) (fun _ _ _ h => h) (Or.inl ⟨by rfl, ?_⟩) ?_ ?_
 rotate_left
 ·intro w'
  go_simp
  with_reducible rfl
 rotate_left
 ·simp only [Act.put, List.setIfInBounds_toArray, List.set_cons_zero, List.set_cons_succ, i64_w, i32_w]
  rfl
 refine pure_ (i := 18) (N := some 49) (v := ?_) (a' := ?_) #[true, true, true, true, true, true, true, true, true, true, true, true, true, true, true, true, true, true, true, false, false, false, false, false, false, false] rfl rfl (by kernel_rfl) (fun _ _ _ h => h) (Or.inl ⟨by rfl, ?_⟩) ?_ ?_
 rotate_left
 ·intro w'
  go_simp
  with_reducible rfl
 rotate_left
 ·simp only [Act.put, List.setIfInBounds_toArray, List.set_cons_zero, List.set_cons_succ, i64_w, i32_w]
  rfl
 refine pure_ (i := 19) (N := some 50) (v := ?_) (a' := ?_) #[true, true, true, true, true, true, true, true, true, true, true, true, true, true, true, true, true, true, true, true, false, false, false, false, false, false] rfl rfl (by kernel_rfl) (fun _ _ _ h => h) (Or.inl ⟨by rfl, ?_⟩) ?_ ?_
 rotate_left
 ·intro w'
  go_simp
  with_reducible rfl
 rotate_left
 ·simp only [Act.put, List.setIfInBounds_toArray, List.set_cons_zero, List.set_cons_succ, i64_w, i32_w]
  rfl
 refine take_ (i := 20) (N := some 51) (v := ?_) (a' := ?_) #[true, true, true, true, true, true, true, true, true, true, true, true, true, true, true, true, true, true, true, true, true, false, false, false, false, false] rfl rfl (by kernel_rfl) (fun _ _ _ h => h) (Or.inl ⟨by rfl, ?_⟩) hHeld6 ?_ ?_
 rotate_left
 ·rintro w' s0
  obtain ⟨s1, s2⟩ := s0; have q0 := blk_cell s1 0; have q1 := blk_cell s1 1; have q2 := blk_cell s1 2; have q3 := blk_cell s1 3
  go_simp
  with_reducible rfl
 rotate_left
 ·simp only [Act.put, List.setIfInBounds_toArray, List.set_cons_zero, List.set_cons_succ, i64_w, i32_w]
  rfl
 refine take_ (i := 22) (N := some 53) (v := ?_) (a' := ?_) #[true, true, true, true, true, true, true, true, true, true, true, true, true, true, true, true, true, true, true, true, true, false, true, false, false, false] rfl rfl (by kernel_rfl) (fun _ _ _ h => h) (Or.inl ⟨by rfl, ?_⟩) hHeld6 ?_ ?_
 rotate_left
 ·rintro w' s0
  obtain ⟨s1, s2⟩ := s0; have q0 := blk_cell s2 0; have q1 := blk_cell s2 1; have q2 := blk_cell s2 2; have q3 := blk_cell s2 3
  go_simp
  with_reducible rfl
 rotate_left
 ·simp only [Act.put, List.setIfInBounds_toArray, List.set_cons_zero, List.set_cons_succ, i64_w, i32_w]
  rfl
 refine one_ (i := 21) (N := some 52) #[true, true, true, true, true, true, true, true, true, true, true, true, true, true, true, true, true, true, true, true, true, true, true, false, false, false] rfl rfl (by kernel_rfl) (by decide) (fun K hK => ?_)
 refine goes_ Tryd.func13 (by kernel_rfl) rfl #[.agg #[.slice Aw ws.length cw, .slice none 0 0, .slice none 0 0, .slice none 0 0]] (by rfl) rfl rfl (by (try simp only [List.map_toArray, List.map_cons, List.map_nil]); first | done | rfl) ?_
 refine (code_Right.calls k _ _ ws none 0 [] none 0 [] none 0 [] rt w6 (Kd.C_below hCw hB6) hlw (C_any _ _ _) (Nat.le_refl _) (C_any _ _ _) (Nat.le_refl _) (C_any _ _ _) (Nat.le_refl _) (hG.below (below_then hB1 hB1.size hB6)) h4).mono ?_
 rintro e w7 ⟨rfl, hb_⟩
 refine ⟨_, rfl, ?_⟩
 have hB7 := below_step hB6 hb_
 refine hK.out _ _ ⟨blk_below hHeld6.1 hb_, blk_below hHeld6.2 hb_⟩ (fun hHeld7 => ?_)
 clear hK K
 refine norm_ (a' := ?_) ?_ ?_
 rotate_left
 ·show Act.put _ (some 52) _ = _
  simp only [Act.put, List.setIfInBounds_toArray, List.set_cons_zero, List.set_cons_succ, i64_w, i32_w]
  rfl
 clear hb_
 refine one_ (i := 23) (N := some 54) #[true, true, true, true, true, true, true, true, true, true, true, true, true, true, true, true, true, true, true, true, true, true, true, true, false, false] rfl rfl (by kernel_rfl) (by decide) (fun K hK => ?_)
 refine goes_ Tryd.func13 (by kernel_rfl) rfl #[.agg #[.slice Aw ws.length cw, .slice (some ⟨w1.heap.size + 1, 0, none⟩) 0 0, .slice (some ⟨w1.heap.size + 1 + 1, 0, none⟩) 0 0, .slice (some ⟨w1.heap.size + 1 + 1 + 1, 0, none⟩) 0 0]] (by rfl) rfl rfl (by (try simp only [List.map_toArray, List.map_cons, List.map_nil]); first | done | rfl) ?_
 refine (code_Right.calls k _ _ ws (some ⟨w1.heap.size + 1, 0, none⟩) 0 [] (some ⟨w1.heap.size + 1 + 1, 0, none⟩) 0 [] (some ⟨w1.heap.size + 1 + 1 + 1, 0, none⟩) 0 [] rt w7 (Kd.C_below hCw hB7) hlw (C_any _ _ _) (Nat.le_refl _) (C_any _ _ _) (Nat.le_refl _) (C_any _ _ _) (Nat.le_refl _) (hG.below (below_then hB1 hB1.size hB7)) h4).mono ?_
 rintro e w8 ⟨rfl, hb_⟩
 refine ⟨_, rfl, ?_⟩
 have hB8 := below_step hB7 hb_
 refine hK.out _ _ ⟨blk_below hHeld7.1 hb_, blk_below hHeld7.2 hb_⟩ (fun hHeld8 => ?_)
 clear hK K
 refine norm_ (a' := ?_) ?_ ?_
 rotate_left
 ·show Act.put _ (some 54) _ = _
  simp only [Act.put, List.setIfInBounds_toArray, List.set_cons_zero, List.set_cons_succ, i64_w, i32_w]
  rfl
 clear hb_
 refine pure_ (i := 24) (N := some 55) (v := ?_) (a' := ?_) #[true, true, true, true, true, true, true, true, true, true, true, true, true, true, true, true, true, true, true, true, true, true, true, true, true, false] rfl rfl (by kernel_rfl) (fun _ _ _ h => h) (Or.inl ⟨by rfl, ?_⟩) ?_ ?_
 rotate_left
 ·intro w'
  go_simp
  with_reducible rfl
 rotate_left
 ·simp only [Act.put, List.setIfInBounds_toArray, List.set_cons_zero, List.set_cons_succ, i64_w, i32_w]
  rfl
 refine pure_ (i := 25) (N := some 56) (v := ?_) (a' := ?_) #[true, true, true, true, true, true, true, true, true, true, true, true, true, true, true, true, true, true, true, true, true, true, true, true, true, true] rfl rfl (by kernel_rfl) (fun _ _ _ h => h) (Or.inl ⟨by rfl, ?_⟩) ?_ ?_
 rotate_left
 ·intro w'
  go_simp
  with_reducible rfl
 rotate_left
 ·simp only [Act.put, List.setIfInBounds_toArray, List.set_cons_zero, List.set_cons_succ, i64_w, i32_w]
  rfl
 refine done_ (by kernel_rfl) ?_
 have hB8w := below_then hB1 hB1.size hB8
 have hfin := HF.out
 clear HF
 by_cases he : er = 0
 ·subst he
  rw [if_pos rfl] at hfin
  obtain ⟨⟨d1, d2, d3, d4, fr⟩, h5, hfin⟩ := Option.bind_eq_some_iff.mp hfin
  by_cases hc : fr = 0 ∧ (d1.length : Int) = (l0.length : Int) ∧ d2 = [] ∧ d3 = [] ∧ d4 = []
  case neg => rw [if_neg hc] at hfin; cases hfin
  rw [if_pos hc] at hfin
  obtain rfl := Option.some.inj hfin
  obtain ⟨rfl, hl, rfl, rfl, rfl⟩ := hc
  have fl : ((d1.length : Int) == (l0.length : Int)) = true := beq_iff_eq.mpr hl
  clear hfin hl
  go_wp2_with (go_at_call 22; (refine (code_Decode.calls k s d1 [] [] [] 0 w8 (hG.below hB8w) h5).mono ?_); rintro e w9 ⟨va, vb, vc, vd, rfl, hRa, hRb, hRc, hRd, hb9⟩; obtain ⟨Aa, ca, rfl, hla, hCa⟩ := Kd.R_reads hRa; obtain ⟨Ab, cb, rfl, hlb, hCb⟩ := Kd.R_reads hRb; obtain ⟨Ac, cc, rfl, hlc, hCc⟩ := Kd.R_reads hRc; obtain ⟨Ad, cd, rfl, hld, hCd⟩ := Kd.R_reads hRd; have hB9 := below_step hB8w hb9)
  go_ret
  exact ⟨rfl, by first | exact below_alloc hB9 _ | exact hB9⟩
 ·rw [if_neg he] at hfin
  by_cases hf : er = 180
  case neg => rw [if_neg hf] at hfin; cases hfin
  rw [if_pos hf] at hfin
  obtain rfl := Option.some.inj hfin
  subst hf
  clear hfin he
  go_wp2_with fail
  go_ret
  exact ⟨rfl, hB8w⟩
end Go.Proofs.YtnlimplbmncdeaaDoor.C
