/- The laws CodeBack, CodeBackWords, CodeLists, CodeTail of the program hold, as their cards say: texts put together by a program, 27 of 39. -/
import Derived.Test.YtnlimplbmncdeaaDoorPB12
import Derived.Test.YtnlimplbmncdeaaDoorPB18
import Derived.Test.YtnlimplbmncdeaaDoorPB20
import Derived.Test.YtnlimplbmncdeaaDoorPB21
import Derived.Test.YtnlimplbmncdeaaDoorPB24
import Derived.Test.YtnlimplbmncdeaaDoorPB25
namespace Go.Proofs.YtnlimplbmncdeaaDoor.C
open Go.RowKit Go.Proofs.YtnlimplbmncdeaaDoorW.PrintWords Go.Proofs.YtnlimplbmncdeaaDoorW.PrintLast Go.Proofs.YtnlimplbmncdeaaDoorW.PrintMore
attribute [local go_sem] max2_int min2_int max_two min_two max_three min_three max_four min_four
set_option linter.unusedVariables false
set_option linter.unusedSimpArgs false
def isthmuslaw18_awake.raws : List SRaw := [⟨1, 0, 1⟩, ⟨0, 0, 0⟩]
def isthmuslaw18_awake.f (k : Nat) : Option Bool := (isthmuslaw18_Code.f isthmuslaw18_awake.raws true).bind fun ws => (code_Encode.f k ws [7] [] []).bind fun t => (code_Decode.f k t.1).bind fun d => (isthmusref18_Same.f k ws [7] [] [] d.1 d.2.1 d.2.2.1 d.2.2.2.1).bind fun is => (code_Right.f k ws [7] [] []).bind fun rt => (code_Sum.f k ws [7] [] []).bind fun h =>
 if t.2 = 0 ∧ d.2.2.2.2 = 0 ∧ is = true ∧ rt = true ∧ 4 < (t.1.size : Int) ∧ (t.1.extract 0 4).toList = [73, 67, 49, 2] ∧ h ≠ 0 then some true else none
set_option maxHeartbeats 8000000 in
set_option maxRecDepth 100000 in
theorem isthmuslaw18_awake.calls (k : Nat) (r : Bool) (w : World) (hG : Glob w) (h : isthmuslaw18_awake.f k = some r) : Calls Tryd.prog 11 #[] w fun e w' => e = .returned (.bool r) ∧ Below w.heap.size w w' := by
 unfold isthmuslaw18_awake.f at h
 obtain ⟨ws, h1, h⟩ := Option.bind_eq_some_iff.mp h
 obtain ⟨⟨s, er⟩, h2, h⟩ := Option.bind_eq_some_iff.mp h
 obtain ⟨⟨d1, d2, d3, d4, fr⟩, h3, h⟩ := Option.bind_eq_some_iff.mp h
 obtain ⟨is, h4, h⟩ := Option.bind_eq_some_iff.mp h
 obtain ⟨rt, h5, h⟩ := Option.bind_eq_some_iff.mp h
 obtain ⟨hs, h6, h⟩ := Option.bind_eq_some_iff.mp h
 by_cases hc : er = 0 ∧ fr = 0 ∧ is = true ∧ rt = true ∧ 4 < (s.size : Int) ∧ (s.extract 0 4).toList = [73, 67, 49, 2] ∧ hs ≠ 0
 case neg => rw [if_neg hc] at h; cases h
 rw [if_pos hc] at h
 obtain rfl := Option.some.inj h
 obtain ⟨rfl, rfl, rfl, rfl, hz, hp, hn⟩ := hc
 have fz : decide ((4 : Int) < (s.size : Int)) = true := decide_eq_true hz
 have fz' := eq_true hz
 have fp : ((s.extract 0 4).toList == [73, 67, 49, 2]) = true := beq_iff_eq.mpr hp
 have fn : (hs != 0) = true := bne_iff_ne.mpr hn
 have fn' : (hs == 0) = false := beq_eq_false_iff_ne.mpr hn
 have hl4 : 4 ≤ s.size := by omega
 clear h hp hn
 have z1 : (w.alloc (.cells #[.int .i64 1, .int .i64 0, .int .i64 1, .int .i64 0, .int .i64 0, .int .i64 0] 50)).heap.size = w.heap.size + 1 := by simp
 have hr2 : Kd.R kRaw 50 (w.alloc (.cells #[.int .i64 1, .int .i64 0, .int .i64 1, .int .i64 0, .int .i64 0, .int .i64 0] 50)) w.heap.size (fun _ => True) (.slice (some ⟨w.heap.size, 0, none⟩) 2 2) isthmuslaw18_awake.raws :=
  ⟨fun _ _ => trivial, _, ⟨rfl, .inr ⟨_, 2, _, rfl, Nat.le_refl _, heap_alloc_new _ _, Nat.le_refl _, by decide, rfl, rfl⟩⟩, ⟨rfl, fun j p hp => by
   match j with
   | 0 => obtain rfl := Option.some.inj hp; exact kRaw_mkM _ _ _ ⟨1, 0, 1⟩
   | 1 => obtain rfl := Option.some.inj hp; exact kRaw_mkM _ _ _ ⟨0, 0, 0⟩
   | j + 2 => simp [isthmuslaw18_awake.raws] at hp⟩⟩
 obtain ⟨A0, c0, ev, hlc0, hC0⟩ := Kd.R_reads hr2
 injection ev with ea en ec
 subst ea ec
 clear hr2 en
 have hl1 : ((w.alloc (.cells #[.int .i64 1, .int .i64 0, .int .i64 1, .int .i64 0, .int .i64 0, .int .i64 0] 50)).alloc (.cells #[.int .i64 7] 3)).ownsRow (w.alloc (.cells #[.int .i64 1, .int .i64 0, .int .i64 1, .int .i64 0, .int .i64 0, .int .i64 0] 50)).heap.size 3 1 (.slice (some ⟨(w.alloc (.cells #[.int .i64 1, .int .i64 0, .int .i64 1, .int .i64 0, .int .i64 0, .int .i64 0] 50)).heap.size, 0, none⟩) 1 1) ([7] : List Int).length (nums .i64 [7]) := ⟨rfl, .inr ⟨_, 1, _, rfl, Nat.le_refl _, heap_alloc_new _ _, Nat.le_refl _, by decide, rfl, rfl⟩⟩
 obtain ⟨A1, c1, ev, hlc1, hC1⟩ := Kd.R_reads (Kd.R_of_own (h1 := fun _ => rfl) (ok := fun _ => True) hl1 (fun _ _ => trivial))
 injection ev with ea en ec
 rw [z1] at ea
 subst ea ec
 clear hl1 en
 have hb1 := below_alloc (Below.refl (w.alloc (.cells #[.int .i64 1, .int .i64 0, .int .i64 1, .int .i64 0, .int .i64 0, .int .i64 0] 50)).heap.size (w.alloc (.cells #[.int .i64 1, .int .i64 0, .int .i64 1, .int .i64 0, .int .i64 0, .int .i64 0] 50))) (.cells #[.int .i64 7] 3)
 have hb2 := below_alloc (below_alloc (Below.refl w.heap.size w) (.cells #[.int .i64 1, .int .i64 0, .int .i64 1, .int .i64 0, .int .i64 0, .int .i64 0] 50)) (.cells #[.int .i64 7] 3)
 have hC0' := Kd.C_below hC0 hb1
 have hN2 : Kd.C Kd.string ((w.alloc (.cells #[.int .i64 1, .int .i64 0, .int .i64 1, .int .i64 0, .int .i64 0, .int .i64 0] 50)).alloc (.cells #[.int .i64 7] 3)) none ([] : List ByteArray).length [] := Kd.C_nil _ _
 go_enter Tryd.func11, Tryd.ntmps11
 go_wp2_with (first
  | (go_at_call 20; (refine (isthmuslaw18_Code.calls (some ⟨w.heap.size, 0, none⟩) 2 isthmuslaw18_awake.raws (some ⟨w.heap.size + 1, 0, none⟩) 1 [7] none 0 [] none 0 [] true ws _ hC0' (by decide) h1).mono ?_); rintro e w1 ⟨v0, rfl, hR, hb⟩; obtain ⟨Aw, cw, rfl, hlw, hCw⟩ := Kd.R_reads hR; have hB1 := below_step hb2 hb; have hC7 := Kd.C_below hC1 hb; have bx0 := heap_alloc_new w1 (.cells #[.slice Aw ws.length cw, .slice (some ⟨w.heap.size + 1, 0, none⟩) 1 1, .slice none 0 0, .slice none 0 0] 26); have y0 := blk_cell bx0 0; have y1 := blk_cell bx0 1; have y2 := blk_cell bx0 2; have y3 := blk_cell bx0 3; clear hR)
  | (go_at_call 14; (refine (code_Encode.calls k _ _ ws _ _ [7] _ _ [] _ _ [] s 0 _ (Kd.C_below hCw (by exact below_alloc (Below.refl _ _) _)) hlw (Kd.C_below hC7 (by exact below_alloc (Below.refl _ _) _)) hlc1 (Kd.C_nil _ _) (Nat.le_refl _) (Kd.C_nil _ _) (Nat.le_refl _) (hG.below (by exact below_alloc hB1 _)) h2).mono ?_); rintro e w2 ⟨rfl, hb3⟩; have bx1 := blk_below bx0 hb3; have y0 := blk_cell bx1 0; have y1 := blk_cell bx1 1; have y2 := blk_cell bx1 2; have y3 := blk_cell bx1 3; have hB2 := below_step (below_alloc (Below.refl w1.heap.size w1) (.cells #[.slice Aw ws.length cw, .slice (some ⟨w.heap.size + 1, 0, none⟩) 1 1, .slice none 0 0, .slice none 0 0] 26)) hb3; have hB2w := below_then hB1 hB1.size hB2)
  | (go_at_call 22; (refine (code_Decode.calls k s d1 d2 d3 d4 0 _ (hG.below hB2w) h3).mono ?_); rintro e w3 ⟨va, vb, vc, vd, rfl, hRa, hRb, hRc, hRd, hb4⟩; obtain ⟨Aa, ca, rfl, hla, hCa⟩ := Kd.R_reads hRa; obtain ⟨Ab, cb, rfl, hlb, hCb⟩ := Kd.R_reads hRb; obtain ⟨Ac, cc, rfl, hlc, hCc⟩ := Kd.R_reads hRc; obtain ⟨Ad, cd, rfl, hld, hCd⟩ := Kd.R_reads hRd; clear hRa hRb hRc hRd; have bx2 := blk_below (blk_below bx1 hb4) (below_alloc (Below.refl w3.heap.size w3) (.cells #[.slice Aa d1.length ca, .slice Ab d2.length cb, .slice Ac d3.length cc, .slice Ad d4.length cd] 26)); have y0 := blk_cell bx2 0; have y1 := blk_cell bx2 1; have y2 := blk_cell bx2 2; have y3 := blk_cell bx2 3; have bd := heap_alloc_new w3 (.cells #[.slice Aa d1.length ca, .slice Ab d2.length cb, .slice Ac d3.length cc, .slice Ad d4.length cd] 26); have u0 := blk_cell bd 0; have u1 := blk_cell bd 1; have u2 := blk_cell bd 2; have u3 := blk_cell bd 3; have hB5 := below_alloc (below_then hB2 hB2.size hb4) (.cells #[.slice Aa d1.length ca, .slice Ab d2.length cb, .slice Ac d3.length cc, .slice Ad d4.length cd] 26); have hB5w := below_then hB1 hB1.size hB5)
  | (go_at_call 23; (refine (isthmusref18_Same.calls k _ _ ws _ _ [7] _ _ [] _ _ [] _ _ d1 _ _ d2 _ _ d3 _ _ d4 true _ (Kd.C_below hCw hB5) hlw (Kd.C_below hC7 hB5) hlc1 (Kd.C_nil _ _) (Nat.le_refl _) (Kd.C_nil _ _) (Nat.le_refl _) (Kd.C_below hCa (by exact below_alloc (Below.refl _ _) _)) hla (Kd.C_below hCb (by exact below_alloc (Below.refl _ _) _)) hlb (Kd.C_below hCc (by exact below_alloc (Below.refl _ _) _)) hlc (Kd.C_below hCd (by exact below_alloc (Below.refl _ _) _)) hld h4).mono ?_); rintro e w6 ⟨rfl, hq⟩; have hb6 : Below (w3.alloc (.cells #[.slice Aa d1.length ca, .slice Ab d2.length cb, .slice Ac d3.length cc, .slice Ad d4.length cd] 26)).heap.size (w3.alloc (.cells #[.slice Aa d1.length ca, .slice Ab d2.length cb, .slice Ac d3.length cc, .slice Ad d4.length cd] 26)) w6 := (by first | exact hq | (obtain ⟨nd, rfl⟩ := hq; exact pw_below_drewN (Below.refl _ _) nd)); clear hq; have bx3 := blk_below bx2 hb6; have y0 := blk_cell bx3 0; have y1 := blk_cell bx3 1; have y2 := blk_cell bx3 2; have y3 := blk_cell bx3 3; have hB6 := below_step hB5 hb6; have hB6w := below_then hB1 hB1.size hB6)
  | (go_at_call 13; (refine (code_Right.calls k _ _ ws _ _ [7] _ _ [] _ _ [] true _ (Kd.C_below hCw hB6) hlw (Kd.C_below hC7 hB6) hlc1 (Kd.C_nil _ _) (Nat.le_refl _) (Kd.C_nil _ _) (Nat.le_refl _) (hG.below hB6w) h5).mono ?_); rintro e w7 ⟨rfl, hb7⟩; have bx4 := blk_below bx3 hb7; have y0 := blk_cell bx4 0; have y1 := blk_cell bx4 1; have y2 := blk_cell bx4 2; have y3 := blk_cell bx4 3; have hB7 := below_step hB6 hb7; have hB7w := below_then hB1 hB1.size hB7)
  | (go_at_call 15; (refine (code_Sum.calls k _ _ ws _ _ [7] _ _ [] _ _ [] hs _ (Kd.C_below hCw hB7) hlw (Kd.C_below hC7 hB7) hlc1 (Kd.C_nil _ _) (Nat.le_refl _) (Kd.C_nil _ _) (Nat.le_refl _) (hG.below hB7w) h6).mono ?_); rintro e w8 ⟨rfl, hb8⟩; have hB8w := below_step hB7w hb8))
 go_ret
 exact ⟨rfl, hB8w⟩
def isthmusref11_Word.l0 : Nat → ByteArray → List ByteArray → Int → Option (Bool)
 | 0, _, _, _ => none
 | k + 1, x0, x3, x4 => if x4 < (x3.length : Int) then (if 0 ≤ x4 then (if (rdOf ByteArray.empty x3 x4).toList = x0.toList then (some true) else (isthmusref11_Word.l0 k x0 x3 (wrap64 (x4 + 1)))) else (none)) else (some false)
def isthmusref11_Word.f (k : Nat) (a0 : ByteArray) : Option (Bool) := isthmusref11_Word.l0 k a0 (([(⟨#[97, 108, 108]⟩ : ByteArray), (⟨#[97, 110, 100]⟩ : ByteArray), (⟨#[97, 114, 111, 117, 110, 100]⟩ : ByteArray), (⟨#[98, 108, 111, 99, 107]⟩ : ByteArray), (⟨#[98, 111, 116, 116, 108, 101, 110, 101, 99, 107]⟩ : ByteArray), (⟨#[99, 111, 110, 110, 101, 99, 116, 101, 100]⟩ : ByteArray), (⟨#[99, 111, 117, 110, 116]⟩ : ByteArray), (⟨#[100, 101, 103, 114, 101, 101]⟩ : ByteArray), (⟨#[101, 108, 115, 101]⟩ : ByteArray), (⟨#[102, 97, 108, 115, 101]⟩ : ByteArray), (⟨#[105, 102]⟩ : ByteArray), (⟨#[105, 110]⟩ : ByteArray), (⟨#[108, 101, 97, 115, 116]⟩ : ByteArray), (⟨#[109, 97, 120]⟩ : ByteArray), (⟨#[109, 105, 110]⟩ : ByteArray), (⟨#[109, 111, 115, 116]⟩ : ByteArray), (⟨#[110, 111, 116]⟩ : ByteArray), (⟨#[111, 114]⟩ : ByteArray), (⟨#[114, 101, 112]⟩ : ByteArray), (⟨#[115, 105, 122, 101]⟩ : ByteArray), (⟨#[115, 111, 109, 101]⟩ : ByteArray), (⟨#[115, 117, 109]⟩ : ByteArray), (⟨#[116, 104, 101, 110]⟩ : ByteArray), (⟨#[116, 111, 116, 97, 108]⟩ : ByteArray), (⟨#[116, 114, 117, 101]⟩ : ByteArray), (⟨#[118, 97, 108, 117, 101]⟩ : ByteArray), (⟨#[118, 101, 114, 116, 105, 99, 101, 115]⟩ : ByteArray)] : List ByteArray)) 0
end Go.Proofs.YtnlimplbmncdeaaDoor.C
