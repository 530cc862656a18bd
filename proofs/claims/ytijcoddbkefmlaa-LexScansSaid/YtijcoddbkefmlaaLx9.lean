-- Laid by a program (wip/tools/gprint.py over the kit's printer) out of the translation. Lean checks it.
import Derived.Test.YtijcoddbkefmlaaLx0
import Derived.Test.YtijcoddbkefmlaaLx8
namespace Go.Proofs.Ytijcoddbkefmlaa.L
open Go.RowKit Go.Proofs.YtijcoddbkefmlaaW.PrintWords Go.Proofs.YtijcoddbkefmlaaW.PrintLast Go.Proofs.YtijcoddbkefmlaaW.PrintMore
attribute [local go_sem] max2_int min2_int max_two min_two max_three min_three max_four min_four   -- for this text's walks alone
set_option linter.unusedVariables false
set_option linter.unusedSimpArgs false

/-! ### isthmuslaw11_awake: function 9 -/
def isthmuslaw11_awake.f (k : Nat)  : Option (Bool) := (lex_Scan.f k (⟨#[64, 53, 33, 61, 120]⟩ : ByteArray)).bind fun bt145 => ((lex_Scan.f k (⟨#[97, 49, 32, 60, 61, 32, 48, 55]⟩ : ByteArray)).bind fun bt150 => ((isthmuslaw11_Same.f k bt145.1 (([(⟨4, 0, (⟨#[64]⟩ : ByteArray), 0⟩ : S29), (⟨1, 5, (⟨#[]⟩ : ByteArray), 1⟩ : S29), (⟨4, 0, (⟨#[33, 61]⟩ : ByteArray), 2⟩ : S29), (⟨2, 0, (⟨#[120]⟩ : ByteArray), 4⟩ : S29), (⟨0, 0, (⟨#[]⟩ : ByteArray), 5⟩ : S29)] : List (S29)))).bind fun t158 => (if t158 = true then (if bt145.2.1 = 0 then (if bt145.2.2 = 0 then (if bt150.2.1 = 111 then (some (bt150.2.2 == 6)) else (some false)) else (some false)) else (some false)) else (some false))))
theorem isthmuslaw11_awake.mono : ∀ k, LeO (isthmuslaw11_awake.f k ) (isthmuslaw11_awake.f (k + 1) ) := by
  intro  k
  unfold isthmuslaw11_awake.f
  repeat' first
      | (with_reducible exact isthmuslaw11_Same.mono _ _ _)
      | (with_reducible exact lex_Scan.mono _ _)
      | (with_reducible exact LeO.refl _)
      | (with_reducible exact LeO.none _)
      | (with_reducible refine LeO.ite ?_ ?_)
      | (with_reducible refine LeO.bind ?_ (fun _ => ?_))
      | exact isthmuslaw11_Same.mono _ _ _
      | exact lex_Scan.mono _ _
      | exact LeO.none _
      | refine LeO.ite ?_ ?_
      | refine LeO.bind ?_ (fun _ => ?_)
set_option maxHeartbeats 8000000 in
set_option maxRecDepth 100000 in
theorem isthmuslaw11_awake.calls (k : Nat)  (r : Bool) (w : World) (h : isthmuslaw11_awake.f k  = some r) :
  Calls Try.prog 9 #[] w fun e w' => e = .returned (.bool r) ∧ Below w.heap.size w w' := by
 have hu29 := Try.underlying29
 have HB := Aside0.mk (Below.refl w.heap.size w)
 have H : ((lex_Scan.f k (⟨#[64, 53, 33, 61, 120]⟩ : ByteArray)).bind fun bt145 => ((lex_Scan.f k (⟨#[97, 49, 32, 60, 61, 32, 48, 55]⟩ : ByteArray)).bind fun bt150 => ((isthmuslaw11_Same.f k bt145.1 (([(⟨4, 0, (⟨#[64]⟩ : ByteArray), 0⟩ : S29), (⟨1, 5, (⟨#[]⟩ : ByteArray), 1⟩ : S29), (⟨4, 0, (⟨#[33, 61]⟩ : ByteArray), 2⟩ : S29), (⟨2, 0, (⟨#[120]⟩ : ByteArray), 4⟩ : S29), (⟨0, 0, (⟨#[]⟩ : ByteArray), 5⟩ : S29)] : List (S29)))).bind fun t158 => (if t158 = true then (if bt145.2.1 = 0 then (if bt145.2.2 = 0 then (if bt150.2.1 = 111 then (some (bt150.2.2 == 6)) else (some false)) else (some false)) else (some false)) else (some false))))) = some r := h
 clear h
 replace H := Option.bind_eq_some_iff.mp H
 obtain ⟨⟨t145, t148, t149⟩, A10, H⟩ := H
 replace H : ((lex_Scan.f k (⟨#[97, 49, 32, 60, 61, 32, 48, 55]⟩ : ByteArray)).bind fun bt150 => ((isthmuslaw11_Same.f k t145 (([(⟨4, 0, (⟨#[64]⟩ : ByteArray), 0⟩ : S29), (⟨1, 5, (⟨#[]⟩ : ByteArray), 1⟩ : S29), (⟨4, 0, (⟨#[33, 61]⟩ : ByteArray), 2⟩ : S29), (⟨2, 0, (⟨#[120]⟩ : ByteArray), 4⟩ : S29), (⟨0, 0, (⟨#[]⟩ : ByteArray), 5⟩ : S29)] : List (S29)))).bind fun t158 => (if t158 = true then (if t148 = 0 then (if t149 = 0 then (if bt150.2.1 = 111 then (some (bt150.2.2 == 6)) else (some false)) else (some false)) else (some false)) else (some false)))) = some r := H
 have A1 := Aside0.mk A10
 clear A10
 replace H := Option.bind_eq_some_iff.mp H
 obtain ⟨⟨t150, t153, t154⟩, A20, H⟩ := H
 replace H : ((isthmuslaw11_Same.f k t145 (([(⟨4, 0, (⟨#[64]⟩ : ByteArray), 0⟩ : S29), (⟨1, 5, (⟨#[]⟩ : ByteArray), 1⟩ : S29), (⟨4, 0, (⟨#[33, 61]⟩ : ByteArray), 2⟩ : S29), (⟨2, 0, (⟨#[120]⟩ : ByteArray), 4⟩ : S29), (⟨0, 0, (⟨#[]⟩ : ByteArray), 5⟩ : S29)] : List (S29)))).bind fun t158 => (if t158 = true then (if t148 = 0 then (if t149 = 0 then (if t153 = 111 then (some (t154 == 6)) else (some false)) else (some false)) else (some false)) else (some false))) = some r := H
 have A2 := Aside0.mk A20
 clear A20
 obtain ⟨y155, hy155⟩ : ∃ y_ : List (S29), y_ = (([(⟨4, 0, (⟨#[64]⟩ : ByteArray), 0⟩ : S29), (⟨1, 5, (⟨#[]⟩ : ByteArray), 1⟩ : S29), (⟨4, 0, (⟨#[33, 61]⟩ : ByteArray), 2⟩ : S29), (⟨2, 0, (⟨#[120]⟩ : ByteArray), 4⟩ : S29), (⟨0, 0, (⟨#[]⟩ : ByteArray), 5⟩ : S29)] : List (S29))) := ⟨_, rfl⟩
 replace H : ((isthmuslaw11_Same.f k t145 y155).bind fun t158 => (if t158 = true then (if t148 = 0 then (if t149 = 0 then (if t153 = 111 then (some (t154 == 6)) else (some false)) else (some false)) else (some false)) else (some false))) = some r := by first | (rw [hy155]; with_reducible exact H) | (have H2_ := (Option.bind_some _ _).symm.trans H; rw [hy155]; with_reducible exact H2_) | (have H2_ := (Option.bind_some _ _).symm.trans H; with_reducible exact H2_) | with_reducible exact H | (rw [hy155]; exact H) | exact H
 have Ny155 := Aside0.mk hy155
 clear hy155
 replace H := Option.bind_eq_some_iff.mp H
 obtain ⟨t158, A30, H⟩ := H
 replace H : (if t158 = true then (if t148 = 0 then (if t149 = 0 then (if t153 = 111 then (some (t154 == 6)) else (some false)) else (some false)) else (some false)) else (some false)) = some r := H
 have A3 := Aside0.mk A30
 clear A30
 by_cases c4 : t158 = true
 ·subst c4
  have H1 : (if t148 = 0 then (if t149 = 0 then (if t153 = 111 then (some (t154 == 6)) else (some false)) else (some false)) else (some false)) = some r := by rw [if_pos rfl] at H; exact H
  clear H
  have H := H1
  clear H1
  by_cases c5 : t148 = 0
  ·rw [if_pos c5] at H
   have c5b0 : (t148 == 0) = true := beq_iff_eq.mpr c5
   have c5b1 : (t148 != 0) = false := bne_eq_false_iff_eq.mpr c5
   clear c5
   by_cases c6 : t149 = 0
   ·rw [if_pos c6] at H
    have c6b0 : (t149 == 0) = true := beq_iff_eq.mpr c6
    have c6b1 : (t149 != 0) = false := bne_eq_false_iff_eq.mpr c6
    clear c6
    by_cases c7 : t153 = 111
    ·rw [if_pos c7] at H
     have c7b0 : (t153 == 111) = true := beq_iff_eq.mpr c7
     have c7b1 : (t153 != 111) = false := bne_eq_false_iff_eq.mpr c7
     clear c7
     obtain rfl := Option.some.inj H
     go_enter Try.func9, Try.ntmps9
     go_wp2_with (first | ((with_reducible refine gate_callee (f := 11) rfl ?_); refine goesL_ (some 10) rfl rfl Try.func11 (by kernel_rfl) rfl #[.string (⟨#[64, 53, 33, 61, 120]⟩ : ByteArray)] rfl (by (try simp only [List.map_toArray, List.map_cons, List.map_nil]); first | done | rfl | (simp only [List.length_drop, List.length_take]; rfl)) ?_; (with_reducible refine (lex_Scan.calls k (⟨#[64, 53, 33, 61, 120]⟩ : ByteArray) t145 t148 t149 _ A1.out).mono ?_); rintro e w8 ⟨v146, rfl, ho0, hb⟩; refine ⟨_, rfl, ?_⟩; have n0_ := Aside0.mk (Kd.V_lower (Kd.V_mono (ok' := fun k_ => True) ho0 (fun k_ hk_ => trivial)) (below_size (by repeat (first | (with_reducible first | exact HB.out | apply below_alloc | apply pw_below_drewN | apply below_drew1) | exact HB.out)))); have n1_ := Aside0.mk (below_step (by repeat (first | (with_reducible first | exact HB.out | apply below_alloc | apply pw_below_drewN | apply below_drew1) | exact HB.out)) hb); clear HB; have HO147 := n0_; have HB := n1_; clear n0_ n1_; (try clear hb); (try clear hb2); (try clear hk); (try clear hi); (try clear ho0)) | ((with_reducible refine gate_callee (f := 11) rfl ?_); refine goesL_ (some 15) rfl rfl Try.func11 (by kernel_rfl) rfl #[.string (⟨#[97, 49, 32, 60, 61, 32, 48, 55]⟩ : ByteArray)] rfl (by (try simp only [List.map_toArray, List.map_cons, List.map_nil]); first | done | rfl | (simp only [List.length_drop, List.length_take]; rfl)) ?_; (with_reducible refine (lex_Scan.calls k (⟨#[97, 49, 32, 60, 61, 32, 48, 55]⟩ : ByteArray) t150 t153 t154 _ A2.out).mono ?_); rintro e w9 ⟨v151, rfl, ho0, hb⟩; refine ⟨_, rfl, ?_⟩; have n0_ := Aside0.mk (Kd.V_below (by (with_reducible repeat (first | apply Kd.V_alloc | apply Kd.V_drewN | apply Kd.V_drew)); exact HO147.out) hb); have n1_ := Aside0.mk (Kd.V_lower (Kd.V_mono (ok' := fun k_ => True) ho0 (fun k_ hk_ => trivial)) (below_size (by repeat (first | (with_reducible first | exact HB.out | apply below_alloc | apply pw_below_drewN | apply below_drew1) | exact HB.out)))); have n2_ := Aside0.mk (below_step (by repeat (first | (with_reducible first | exact HB.out | apply below_alloc | apply pw_below_drewN | apply below_drew1) | exact HB.out)) hb); clear HO147; clear HB; have HO147 := n0_; have HO152 := n1_; have HB := n2_; clear n0_ n1_ n2_; (try clear hb); (try clear hb2); (try clear hk); (try clear hi); (try clear ho0)) | ((with_reducible refine gate_dst (N := 24) rfl ?_); refine Kd.R_lit k29 _ 29 ?hg (N := 24) ?hd (xs := ([(⟨4, 0, (⟨#[64]⟩ : ByteArray), 0⟩ : S29), (⟨1, 5, (⟨#[]⟩ : ByteArray), 1⟩ : S29), (⟨4, 0, (⟨#[33, 61]⟩ : ByteArray), 2⟩ : S29), (⟨2, 0, (⟨#[120]⟩ : ByteArray), 4⟩ : S29), (⟨0, 0, (⟨#[]⟩ : ByteArray), 5⟩ : S29)] : List (S29))) (inner := [.int .i64 4, .int .i64 0, .string (⟨#[64]⟩ : ByteArray), .int .i64 0, .int .i64 1, .int .i64 5, .string (⟨#[]⟩ : ByteArray), .int .i64 1, .int .i64 4, .int .i64 0, .string (⟨#[33, 61]⟩ : ByteArray), .int .i64 2, .int .i64 2, .int .i64 0, .string (⟨#[120]⟩ : ByteArray), .int .i64 4, .int .i64 0, .int .i64 0, .string (⟨#[]⟩ : ByteArray), .int .i64 5]) (ok := fun _ => True) (okp := fun _ => True) ?hr ?hp (fun _ hk => hk) trivial (Below.refl _ _) (Nat.le_refl _) (by simp) ?_; (case hd => rfl); (case hg => rfl); (case hr => first | (go_simp; done) | (go_simp; rfl)); (case hp => exact (Reps.c4 (show Kd.M k29 _ _ _ (⟨4, 0, (⟨#[64]⟩ : ByteArray), 0⟩ : S29) [.int .i64 4, .int .i64 0, .string (⟨#[64]⟩ : ByteArray), .int .i64 0] from (k29_mkM _ _ _ (⟨4, 0, (⟨#[64]⟩ : ByteArray), 0⟩ : S29) )) (Reps.c4 (show Kd.M k29 _ _ _ (⟨1, 5, (⟨#[]⟩ : ByteArray), 1⟩ : S29) [.int .i64 1, .int .i64 5, .string (⟨#[]⟩ : ByteArray), .int .i64 1] from (k29_mkM _ _ _ (⟨1, 5, (⟨#[]⟩ : ByteArray), 1⟩ : S29) )) (Reps.c4 (show Kd.M k29 _ _ _ (⟨4, 0, (⟨#[33, 61]⟩ : ByteArray), 2⟩ : S29) [.int .i64 4, .int .i64 0, .string (⟨#[33, 61]⟩ : ByteArray), .int .i64 2] from (k29_mkM _ _ _ (⟨4, 0, (⟨#[33, 61]⟩ : ByteArray), 2⟩ : S29) )) (Reps.c4 (show Kd.M k29 _ _ _ (⟨2, 0, (⟨#[120]⟩ : ByteArray), 4⟩ : S29) [.int .i64 2, .int .i64 0, .string (⟨#[120]⟩ : ByteArray), .int .i64 4] from (k29_mkM _ _ _ (⟨2, 0, (⟨#[120]⟩ : ByteArray), 4⟩ : S29) )) (Reps.c4 (show Kd.M k29 _ _ _ (⟨0, 0, (⟨#[]⟩ : ByteArray), 5⟩ : S29) [.int .i64 0, .int .i64 0, .string (⟨#[]⟩ : ByteArray), .int .i64 5] from (k29_mkM _ _ _ (⟨0, 0, (⟨#[]⟩ : ByteArray), 5⟩ : S29) )) (Reps.none _ _))))))); intro v156 w10 ho11 hb hg_ hnew_; clear hg_ hnew_; (first | rw [← Ny155.out] at ho11 | (simp only [Int.reduceToNat] at ho11; rw [← Ny155.out] at ho11)); have n0_ := Aside0.mk (Kd.V_elder' (by (with_reducible repeat (first | apply Kd.V_alloc | apply Kd.V_drewN | apply Kd.V_drew)); exact HO147.out) (Kd.R_base ho11) hb); have n1_ := Aside0.mk (Kd.V_elder' (by (with_reducible repeat (first | apply Kd.V_alloc | apply Kd.V_drewN | apply Kd.V_drew)); exact HO152.out) (Kd.R_base ho11) hb); have n2_ := Aside0.mk (Kd.R_lower ho11 (below_size (by repeat (first | (with_reducible first | exact HB.out | apply below_alloc | apply pw_below_drewN | apply below_drew1) | exact HB.out)))); have n3_ := Aside0.mk (below_step (by repeat (first | (with_reducible first | exact HB.out | apply below_alloc | apply pw_below_drewN | apply below_drew1) | exact HB.out)) hb); clear HO147; clear HO152; clear HB; have HO147 := n0_; have HO152 := n1_; have HO157 := n2_; have HB := n3_; clear n0_ n1_ n2_ n3_; clear hb ho11; obtain ⟨Ao12, co12, eo12⟩ := Kd.V_slice HO147.out; subst eo12; obtain ⟨Ao13, co13, eo13⟩ := Kd.R_slice HO157.out; subst eo13) | ((with_reducible refine gate_callee (f := 12) rfl ?_); refine goesL_ (some 27) rfl rfl Try.func12 (by kernel_rfl) rfl #[.slice Ao12 t145.length co12, .slice Ao13 y155.length co13] rfl (by (try simp only [List.map_toArray, List.map_cons, List.map_nil]); first | done | rfl | (simp only [List.length_drop, List.length_take]; rfl)) ?_; (with_reducible refine (isthmuslaw11_Same.calls k _ _ t145 _ _ y155 true _ ?side1 ?side2 ?side3 ?side4 A3.out).mono ?_); (case side1 => repeat (first | exact (Kd.V_reads' HO147.out).2.2 | (with_reducible refine Kd.C_alloc ?_ _) | (with_reducible refine Kd.C_drewN ?_ _) | (with_reducible refine Kd.C_drew ?_))); (case side2 => exact (Kd.V_reads' HO147.out).2.1); (case side3 => repeat (first | exact (Kd.R_reads' HO157.out).2.2 | (with_reducible refine Kd.C_alloc ?_ _) | (with_reducible refine Kd.C_drewN ?_ _) | (with_reducible refine Kd.C_drew ?_))); (case side4 => exact (Kd.R_reads' HO157.out).2.1); rintro e w' ⟨rfl, ⟨nd, rfl⟩⟩; refine ⟨_, rfl, ?_⟩))
     go_ret
     exact ⟨by first | rfl | (simp [errW_none, errW_some] <;> rfl) | (simp [*, errW_none, errW_some] <;> rfl), by repeat (first | (with_reducible first | exact HB.out | apply below_alloc | apply pw_below_drewN | apply below_drew1) | exact HB.out)⟩
    ·rw [if_neg c7] at H
     have c7b0 : (t153 == 111) = false := beq_eq_false_iff_ne.mpr c7
     have c7b1 : (t153 != 111) = true := bne_iff_ne.mpr c7
     obtain rfl := Option.some.inj H
     go_enter Try.func9, Try.ntmps9
     go_wp2_with (first | ((with_reducible refine gate_callee (f := 11) rfl ?_); refine goesL_ (some 10) rfl rfl Try.func11 (by kernel_rfl) rfl #[.string (⟨#[64, 53, 33, 61, 120]⟩ : ByteArray)] rfl (by (try simp only [List.map_toArray, List.map_cons, List.map_nil]); first | done | rfl | (simp only [List.length_drop, List.length_take]; rfl)) ?_; (with_reducible refine (lex_Scan.calls k (⟨#[64, 53, 33, 61, 120]⟩ : ByteArray) t145 t148 t149 _ A1.out).mono ?_); rintro e w14 ⟨v146, rfl, ho0, hb⟩; refine ⟨_, rfl, ?_⟩; have n0_ := Aside0.mk (Kd.V_lower (Kd.V_mono (ok' := fun k_ => True) ho0 (fun k_ hk_ => trivial)) (below_size (by repeat (first | (with_reducible first | exact HB.out | apply below_alloc | apply pw_below_drewN | apply below_drew1) | exact HB.out)))); have n1_ := Aside0.mk (below_step (by repeat (first | (with_reducible first | exact HB.out | apply below_alloc | apply pw_below_drewN | apply below_drew1) | exact HB.out)) hb); clear HB; have HO147 := n0_; have HB := n1_; clear n0_ n1_; (try clear hb); (try clear hb2); (try clear hk); (try clear hi); (try clear ho0)) | ((with_reducible refine gate_callee (f := 11) rfl ?_); refine goesL_ (some 15) rfl rfl Try.func11 (by kernel_rfl) rfl #[.string (⟨#[97, 49, 32, 60, 61, 32, 48, 55]⟩ : ByteArray)] rfl (by (try simp only [List.map_toArray, List.map_cons, List.map_nil]); first | done | rfl | (simp only [List.length_drop, List.length_take]; rfl)) ?_; (with_reducible refine (lex_Scan.calls k (⟨#[97, 49, 32, 60, 61, 32, 48, 55]⟩ : ByteArray) t150 t153 t154 _ A2.out).mono ?_); rintro e w15 ⟨v151, rfl, ho0, hb⟩; refine ⟨_, rfl, ?_⟩; have n0_ := Aside0.mk (Kd.V_below (by (with_reducible repeat (first | apply Kd.V_alloc | apply Kd.V_drewN | apply Kd.V_drew)); exact HO147.out) hb); have n1_ := Aside0.mk (Kd.V_lower (Kd.V_mono (ok' := fun k_ => True) ho0 (fun k_ hk_ => trivial)) (below_size (by repeat (first | (with_reducible first | exact HB.out | apply below_alloc | apply pw_below_drewN | apply below_drew1) | exact HB.out)))); have n2_ := Aside0.mk (below_step (by repeat (first | (with_reducible first | exact HB.out | apply below_alloc | apply pw_below_drewN | apply below_drew1) | exact HB.out)) hb); clear HO147; clear HB; have HO147 := n0_; have HO152 := n1_; have HB := n2_; clear n0_ n1_ n2_; (try clear hb); (try clear hb2); (try clear hk); (try clear hi); (try clear ho0)) | ((with_reducible refine gate_dst (N := 24) rfl ?_); refine Kd.R_lit k29 _ 29 ?hg (N := 24) ?hd (xs := ([(⟨4, 0, (⟨#[64]⟩ : ByteArray), 0⟩ : S29), (⟨1, 5, (⟨#[]⟩ : ByteArray), 1⟩ : S29), (⟨4, 0, (⟨#[33, 61]⟩ : ByteArray), 2⟩ : S29), (⟨2, 0, (⟨#[120]⟩ : ByteArray), 4⟩ : S29), (⟨0, 0, (⟨#[]⟩ : ByteArray), 5⟩ : S29)] : List (S29))) (inner := [.int .i64 4, .int .i64 0, .string (⟨#[64]⟩ : ByteArray), .int .i64 0, .int .i64 1, .int .i64 5, .string (⟨#[]⟩ : ByteArray), .int .i64 1, .int .i64 4, .int .i64 0, .string (⟨#[33, 61]⟩ : ByteArray), .int .i64 2, .int .i64 2, .int .i64 0, .string (⟨#[120]⟩ : ByteArray), .int .i64 4, .int .i64 0, .int .i64 0, .string (⟨#[]⟩ : ByteArray), .int .i64 5]) (ok := fun _ => True) (okp := fun _ => True) ?hr ?hp (fun _ hk => hk) trivial (Below.refl _ _) (Nat.le_refl _) (by simp) ?_; (case hd => rfl); (case hg => rfl); (case hr => first | (go_simp; done) | (go_simp; rfl)); (case hp => exact (Reps.c4 (show Kd.M k29 _ _ _ (⟨4, 0, (⟨#[64]⟩ : ByteArray), 0⟩ : S29) [.int .i64 4, .int .i64 0, .string (⟨#[64]⟩ : ByteArray), .int .i64 0] from (k29_mkM _ _ _ (⟨4, 0, (⟨#[64]⟩ : ByteArray), 0⟩ : S29) )) (Reps.c4 (show Kd.M k29 _ _ _ (⟨1, 5, (⟨#[]⟩ : ByteArray), 1⟩ : S29) [.int .i64 1, .int .i64 5, .string (⟨#[]⟩ : ByteArray), .int .i64 1] from (k29_mkM _ _ _ (⟨1, 5, (⟨#[]⟩ : ByteArray), 1⟩ : S29) )) (Reps.c4 (show Kd.M k29 _ _ _ (⟨4, 0, (⟨#[33, 61]⟩ : ByteArray), 2⟩ : S29) [.int .i64 4, .int .i64 0, .string (⟨#[33, 61]⟩ : ByteArray), .int .i64 2] from (k29_mkM _ _ _ (⟨4, 0, (⟨#[33, 61]⟩ : ByteArray), 2⟩ : S29) )) (Reps.c4 (show Kd.M k29 _ _ _ (⟨2, 0, (⟨#[120]⟩ : ByteArray), 4⟩ : S29) [.int .i64 2, .int .i64 0, .string (⟨#[120]⟩ : ByteArray), .int .i64 4] from (k29_mkM _ _ _ (⟨2, 0, (⟨#[120]⟩ : ByteArray), 4⟩ : S29) )) (Reps.c4 (show Kd.M k29 _ _ _ (⟨0, 0, (⟨#[]⟩ : ByteArray), 5⟩ : S29) [.int .i64 0, .int .i64 0, .string (⟨#[]⟩ : ByteArray), .int .i64 5] from (k29_mkM _ _ _ (⟨0, 0, (⟨#[]⟩ : ByteArray), 5⟩ : S29) )) (Reps.none _ _))))))); intro v156 w16 ho17 hb hg_ hnew_; clear hg_ hnew_; (first | rw [← Ny155.out] at ho17 | (simp only [Int.reduceToNat] at ho17; rw [← Ny155.out] at ho17)); have n0_ := Aside0.mk (Kd.V_elder' (by (with_reducible repeat (first | apply Kd.V_alloc | apply Kd.V_drewN | apply Kd.V_drew)); exact HO147.out) (Kd.R_base ho17) hb); have n1_ := Aside0.mk (Kd.V_elder' (by (with_reducible repeat (first | apply Kd.V_alloc | apply Kd.V_drewN | apply Kd.V_drew)); exact HO152.out) (Kd.R_base ho17) hb); have n2_ := Aside0.mk (Kd.R_lower ho17 (below_size (by repeat (first | (with_reducible first | exact HB.out | apply below_alloc | apply pw_below_drewN | apply below_drew1) | exact HB.out)))); have n3_ := Aside0.mk (below_step (by repeat (first | (with_reducible first | exact HB.out | apply below_alloc | apply pw_below_drewN | apply below_drew1) | exact HB.out)) hb); clear HO147; clear HO152; clear HB; have HO147 := n0_; have HO152 := n1_; have HO157 := n2_; have HB := n3_; clear n0_ n1_ n2_ n3_; clear hb ho17; obtain ⟨Ao18, co18, eo18⟩ := Kd.V_slice HO147.out; subst eo18; obtain ⟨Ao19, co19, eo19⟩ := Kd.R_slice HO157.out; subst eo19) | ((with_reducible refine gate_callee (f := 12) rfl ?_); refine goesL_ (some 27) rfl rfl Try.func12 (by kernel_rfl) rfl #[.slice Ao18 t145.length co18, .slice Ao19 y155.length co19] rfl (by (try simp only [List.map_toArray, List.map_cons, List.map_nil]); first | done | rfl | (simp only [List.length_drop, List.length_take]; rfl)) ?_; (with_reducible refine (isthmuslaw11_Same.calls k _ _ t145 _ _ y155 true _ ?side1 ?side2 ?side3 ?side4 A3.out).mono ?_); (case side1 => repeat (first | exact (Kd.V_reads' HO147.out).2.2 | (with_reducible refine Kd.C_alloc ?_ _) | (with_reducible refine Kd.C_drewN ?_ _) | (with_reducible refine Kd.C_drew ?_))); (case side2 => exact (Kd.V_reads' HO147.out).2.1); (case side3 => repeat (first | exact (Kd.R_reads' HO157.out).2.2 | (with_reducible refine Kd.C_alloc ?_ _) | (with_reducible refine Kd.C_drewN ?_ _) | (with_reducible refine Kd.C_drew ?_))); (case side4 => exact (Kd.R_reads' HO157.out).2.1); rintro e w' ⟨rfl, ⟨nd, rfl⟩⟩; refine ⟨_, rfl, ?_⟩))
     go_ret
     exact ⟨by first | rfl | (simp [errW_none, errW_some] <;> rfl) | (simp [*, errW_none, errW_some] <;> rfl), by repeat (first | (with_reducible first | exact HB.out | apply below_alloc | apply pw_below_drewN | apply below_drew1) | exact HB.out)⟩
   ·rw [if_neg c6] at H
    have c6b0 : (t149 == 0) = false := beq_eq_false_iff_ne.mpr c6
    have c6b1 : (t149 != 0) = true := bne_iff_ne.mpr c6
    obtain rfl := Option.some.inj H
    go_enter Try.func9, Try.ntmps9
    go_wp2_with (first | ((with_reducible refine gate_callee (f := 11) rfl ?_); refine goesL_ (some 10) rfl rfl Try.func11 (by kernel_rfl) rfl #[.string (⟨#[64, 53, 33, 61, 120]⟩ : ByteArray)] rfl (by (try simp only [List.map_toArray, List.map_cons, List.map_nil]); first | done | rfl | (simp only [List.length_drop, List.length_take]; rfl)) ?_; (with_reducible refine (lex_Scan.calls k (⟨#[64, 53, 33, 61, 120]⟩ : ByteArray) t145 t148 t149 _ A1.out).mono ?_); rintro e w20 ⟨v146, rfl, ho0, hb⟩; refine ⟨_, rfl, ?_⟩; have n0_ := Aside0.mk (Kd.V_lower (Kd.V_mono (ok' := fun k_ => True) ho0 (fun k_ hk_ => trivial)) (below_size (by repeat (first | (with_reducible first | exact HB.out | apply below_alloc | apply pw_below_drewN | apply below_drew1) | exact HB.out)))); have n1_ := Aside0.mk (below_step (by repeat (first | (with_reducible first | exact HB.out | apply below_alloc | apply pw_below_drewN | apply below_drew1) | exact HB.out)) hb); clear HB; have HO147 := n0_; have HB := n1_; clear n0_ n1_; (try clear hb); (try clear hb2); (try clear hk); (try clear hi); (try clear ho0)) | ((with_reducible refine gate_callee (f := 11) rfl ?_); refine goesL_ (some 15) rfl rfl Try.func11 (by kernel_rfl) rfl #[.string (⟨#[97, 49, 32, 60, 61, 32, 48, 55]⟩ : ByteArray)] rfl (by (try simp only [List.map_toArray, List.map_cons, List.map_nil]); first | done | rfl | (simp only [List.length_drop, List.length_take]; rfl)) ?_; (with_reducible refine (lex_Scan.calls k (⟨#[97, 49, 32, 60, 61, 32, 48, 55]⟩ : ByteArray) t150 t153 t154 _ A2.out).mono ?_); rintro e w21 ⟨v151, rfl, ho0, hb⟩; refine ⟨_, rfl, ?_⟩; have n0_ := Aside0.mk (Kd.V_below (by (with_reducible repeat (first | apply Kd.V_alloc | apply Kd.V_drewN | apply Kd.V_drew)); exact HO147.out) hb); have n1_ := Aside0.mk (Kd.V_lower (Kd.V_mono (ok' := fun k_ => True) ho0 (fun k_ hk_ => trivial)) (below_size (by repeat (first | (with_reducible first | exact HB.out | apply below_alloc | apply pw_below_drewN | apply below_drew1) | exact HB.out)))); have n2_ := Aside0.mk (below_step (by repeat (first | (with_reducible first | exact HB.out | apply below_alloc | apply pw_below_drewN | apply below_drew1) | exact HB.out)) hb); clear HO147; clear HB; have HO147 := n0_; have HO152 := n1_; have HB := n2_; clear n0_ n1_ n2_; (try clear hb); (try clear hb2); (try clear hk); (try clear hi); (try clear ho0)) | ((with_reducible refine gate_dst (N := 24) rfl ?_); refine Kd.R_lit k29 _ 29 ?hg (N := 24) ?hd (xs := ([(⟨4, 0, (⟨#[64]⟩ : ByteArray), 0⟩ : S29), (⟨1, 5, (⟨#[]⟩ : ByteArray), 1⟩ : S29), (⟨4, 0, (⟨#[33, 61]⟩ : ByteArray), 2⟩ : S29), (⟨2, 0, (⟨#[120]⟩ : ByteArray), 4⟩ : S29), (⟨0, 0, (⟨#[]⟩ : ByteArray), 5⟩ : S29)] : List (S29))) (inner := [.int .i64 4, .int .i64 0, .string (⟨#[64]⟩ : ByteArray), .int .i64 0, .int .i64 1, .int .i64 5, .string (⟨#[]⟩ : ByteArray), .int .i64 1, .int .i64 4, .int .i64 0, .string (⟨#[33, 61]⟩ : ByteArray), .int .i64 2, .int .i64 2, .int .i64 0, .string (⟨#[120]⟩ : ByteArray), .int .i64 4, .int .i64 0, .int .i64 0, .string (⟨#[]⟩ : ByteArray), .int .i64 5]) (ok := fun _ => True) (okp := fun _ => True) ?hr ?hp (fun _ hk => hk) trivial (Below.refl _ _) (Nat.le_refl _) (by simp) ?_; (case hd => rfl); (case hg => rfl); (case hr => first | (go_simp; done) | (go_simp; rfl)); (case hp => exact (Reps.c4 (show Kd.M k29 _ _ _ (⟨4, 0, (⟨#[64]⟩ : ByteArray), 0⟩ : S29) [.int .i64 4, .int .i64 0, .string (⟨#[64]⟩ : ByteArray), .int .i64 0] from (k29_mkM _ _ _ (⟨4, 0, (⟨#[64]⟩ : ByteArray), 0⟩ : S29) )) (Reps.c4 (show Kd.M k29 _ _ _ (⟨1, 5, (⟨#[]⟩ : ByteArray), 1⟩ : S29) [.int .i64 1, .int .i64 5, .string (⟨#[]⟩ : ByteArray), .int .i64 1] from (k29_mkM _ _ _ (⟨1, 5, (⟨#[]⟩ : ByteArray), 1⟩ : S29) )) (Reps.c4 (show Kd.M k29 _ _ _ (⟨4, 0, (⟨#[33, 61]⟩ : ByteArray), 2⟩ : S29) [.int .i64 4, .int .i64 0, .string (⟨#[33, 61]⟩ : ByteArray), .int .i64 2] from (k29_mkM _ _ _ (⟨4, 0, (⟨#[33, 61]⟩ : ByteArray), 2⟩ : S29) )) (Reps.c4 (show Kd.M k29 _ _ _ (⟨2, 0, (⟨#[120]⟩ : ByteArray), 4⟩ : S29) [.int .i64 2, .int .i64 0, .string (⟨#[120]⟩ : ByteArray), .int .i64 4] from (k29_mkM _ _ _ (⟨2, 0, (⟨#[120]⟩ : ByteArray), 4⟩ : S29) )) (Reps.c4 (show Kd.M k29 _ _ _ (⟨0, 0, (⟨#[]⟩ : ByteArray), 5⟩ : S29) [.int .i64 0, .int .i64 0, .string (⟨#[]⟩ : ByteArray), .int .i64 5] from (k29_mkM _ _ _ (⟨0, 0, (⟨#[]⟩ : ByteArray), 5⟩ : S29) )) (Reps.none _ _))))))); intro v156 w22 ho23 hb hg_ hnew_; clear hg_ hnew_; (first | rw [← Ny155.out] at ho23 | (simp only [Int.reduceToNat] at ho23; rw [← Ny155.out] at ho23)); have n0_ := Aside0.mk (Kd.V_elder' (by (with_reducible repeat (first | apply Kd.V_alloc | apply Kd.V_drewN | apply Kd.V_drew)); exact HO147.out) (Kd.R_base ho23) hb); have n1_ := Aside0.mk (Kd.V_elder' (by (with_reducible repeat (first | apply Kd.V_alloc | apply Kd.V_drewN | apply Kd.V_drew)); exact HO152.out) (Kd.R_base ho23) hb); have n2_ := Aside0.mk (Kd.R_lower ho23 (below_size (by repeat (first | (with_reducible first | exact HB.out | apply below_alloc | apply pw_below_drewN | apply below_drew1) | exact HB.out)))); have n3_ := Aside0.mk (below_step (by repeat (first | (with_reducible first | exact HB.out | apply below_alloc | apply pw_below_drewN | apply below_drew1) | exact HB.out)) hb); clear HO147; clear HO152; clear HB; have HO147 := n0_; have HO152 := n1_; have HO157 := n2_; have HB := n3_; clear n0_ n1_ n2_ n3_; clear hb ho23; obtain ⟨Ao24, co24, eo24⟩ := Kd.V_slice HO147.out; subst eo24; obtain ⟨Ao25, co25, eo25⟩ := Kd.R_slice HO157.out; subst eo25) | ((with_reducible refine gate_callee (f := 12) rfl ?_); refine goesL_ (some 27) rfl rfl Try.func12 (by kernel_rfl) rfl #[.slice Ao24 t145.length co24, .slice Ao25 y155.length co25] rfl (by (try simp only [List.map_toArray, List.map_cons, List.map_nil]); first | done | rfl | (simp only [List.length_drop, List.length_take]; rfl)) ?_; (with_reducible refine (isthmuslaw11_Same.calls k _ _ t145 _ _ y155 true _ ?side1 ?side2 ?side3 ?side4 A3.out).mono ?_); (case side1 => repeat (first | exact (Kd.V_reads' HO147.out).2.2 | (with_reducible refine Kd.C_alloc ?_ _) | (with_reducible refine Kd.C_drewN ?_ _) | (with_reducible refine Kd.C_drew ?_))); (case side2 => exact (Kd.V_reads' HO147.out).2.1); (case side3 => repeat (first | exact (Kd.R_reads' HO157.out).2.2 | (with_reducible refine Kd.C_alloc ?_ _) | (with_reducible refine Kd.C_drewN ?_ _) | (with_reducible refine Kd.C_drew ?_))); (case side4 => exact (Kd.R_reads' HO157.out).2.1); rintro e w' ⟨rfl, ⟨nd, rfl⟩⟩; refine ⟨_, rfl, ?_⟩))
    go_ret
    exact ⟨by first | rfl | (simp [errW_none, errW_some] <;> rfl) | (simp [*, errW_none, errW_some] <;> rfl), by repeat (first | (with_reducible first | exact HB.out | apply below_alloc | apply pw_below_drewN | apply below_drew1) | exact HB.out)⟩
  ·rw [if_neg c5] at H
   have c5b0 : (t148 == 0) = false := beq_eq_false_iff_ne.mpr c5
   have c5b1 : (t148 != 0) = true := bne_iff_ne.mpr c5
   obtain rfl := Option.some.inj H
   go_enter Try.func9, Try.ntmps9
   go_wp2_with (first | ((with_reducible refine gate_callee (f := 11) rfl ?_); refine goesL_ (some 10) rfl rfl Try.func11 (by kernel_rfl) rfl #[.string (⟨#[64, 53, 33, 61, 120]⟩ : ByteArray)] rfl (by (try simp only [List.map_toArray, List.map_cons, List.map_nil]); first | done | rfl | (simp only [List.length_drop, List.length_take]; rfl)) ?_; (with_reducible refine (lex_Scan.calls k (⟨#[64, 53, 33, 61, 120]⟩ : ByteArray) t145 t148 t149 _ A1.out).mono ?_); rintro e w26 ⟨v146, rfl, ho0, hb⟩; refine ⟨_, rfl, ?_⟩; have n0_ := Aside0.mk (Kd.V_lower (Kd.V_mono (ok' := fun k_ => True) ho0 (fun k_ hk_ => trivial)) (below_size (by repeat (first | (with_reducible first | exact HB.out | apply below_alloc | apply pw_below_drewN | apply below_drew1) | exact HB.out)))); have n1_ := Aside0.mk (below_step (by repeat (first | (with_reducible first | exact HB.out | apply below_alloc | apply pw_below_drewN | apply below_drew1) | exact HB.out)) hb); clear HB; have HO147 := n0_; have HB := n1_; clear n0_ n1_; (try clear hb); (try clear hb2); (try clear hk); (try clear hi); (try clear ho0)) | ((with_reducible refine gate_callee (f := 11) rfl ?_); refine goesL_ (some 15) rfl rfl Try.func11 (by kernel_rfl) rfl #[.string (⟨#[97, 49, 32, 60, 61, 32, 48, 55]⟩ : ByteArray)] rfl (by (try simp only [List.map_toArray, List.map_cons, List.map_nil]); first | done | rfl | (simp only [List.length_drop, List.length_take]; rfl)) ?_; (with_reducible refine (lex_Scan.calls k (⟨#[97, 49, 32, 60, 61, 32, 48, 55]⟩ : ByteArray) t150 t153 t154 _ A2.out).mono ?_); rintro e w27 ⟨v151, rfl, ho0, hb⟩; refine ⟨_, rfl, ?_⟩; have n0_ := Aside0.mk (Kd.V_below (by (with_reducible repeat (first | apply Kd.V_alloc | apply Kd.V_drewN | apply Kd.V_drew)); exact HO147.out) hb); have n1_ := Aside0.mk (Kd.V_lower (Kd.V_mono (ok' := fun k_ => True) ho0 (fun k_ hk_ => trivial)) (below_size (by repeat (first | (with_reducible first | exact HB.out | apply below_alloc | apply pw_below_drewN | apply below_drew1) | exact HB.out)))); have n2_ := Aside0.mk (below_step (by repeat (first | (with_reducible first | exact HB.out | apply below_alloc | apply pw_below_drewN | apply below_drew1) | exact HB.out)) hb); clear HO147; clear HB; have HO147 := n0_; have HO152 := n1_; have HB := n2_; clear n0_ n1_ n2_; (try clear hb); (try clear hb2); (try clear hk); (try clear hi); (try clear ho0)) | ((with_reducible refine gate_dst (N := 24) rfl ?_); refine Kd.R_lit k29 _ 29 ?hg (N := 24) ?hd (xs := ([(⟨4, 0, (⟨#[64]⟩ : ByteArray), 0⟩ : S29), (⟨1, 5, (⟨#[]⟩ : ByteArray), 1⟩ : S29), (⟨4, 0, (⟨#[33, 61]⟩ : ByteArray), 2⟩ : S29), (⟨2, 0, (⟨#[120]⟩ : ByteArray), 4⟩ : S29), (⟨0, 0, (⟨#[]⟩ : ByteArray), 5⟩ : S29)] : List (S29))) (inner := [.int .i64 4, .int .i64 0, .string (⟨#[64]⟩ : ByteArray), .int .i64 0, .int .i64 1, .int .i64 5, .string (⟨#[]⟩ : ByteArray), .int .i64 1, .int .i64 4, .int .i64 0, .string (⟨#[33, 61]⟩ : ByteArray), .int .i64 2, .int .i64 2, .int .i64 0, .string (⟨#[120]⟩ : ByteArray), .int .i64 4, .int .i64 0, .int .i64 0, .string (⟨#[]⟩ : ByteArray), .int .i64 5]) (ok := fun _ => True) (okp := fun _ => True) ?hr ?hp (fun _ hk => hk) trivial (Below.refl _ _) (Nat.le_refl _) (by simp) ?_; (case hd => rfl); (case hg => rfl); (case hr => first | (go_simp; done) | (go_simp; rfl)); (case hp => exact (Reps.c4 (show Kd.M k29 _ _ _ (⟨4, 0, (⟨#[64]⟩ : ByteArray), 0⟩ : S29) [.int .i64 4, .int .i64 0, .string (⟨#[64]⟩ : ByteArray), .int .i64 0] from (k29_mkM _ _ _ (⟨4, 0, (⟨#[64]⟩ : ByteArray), 0⟩ : S29) )) (Reps.c4 (show Kd.M k29 _ _ _ (⟨1, 5, (⟨#[]⟩ : ByteArray), 1⟩ : S29) [.int .i64 1, .int .i64 5, .string (⟨#[]⟩ : ByteArray), .int .i64 1] from (k29_mkM _ _ _ (⟨1, 5, (⟨#[]⟩ : ByteArray), 1⟩ : S29) )) (Reps.c4 (show Kd.M k29 _ _ _ (⟨4, 0, (⟨#[33, 61]⟩ : ByteArray), 2⟩ : S29) [.int .i64 4, .int .i64 0, .string (⟨#[33, 61]⟩ : ByteArray), .int .i64 2] from (k29_mkM _ _ _ (⟨4, 0, (⟨#[33, 61]⟩ : ByteArray), 2⟩ : S29) )) (Reps.c4 (show Kd.M k29 _ _ _ (⟨2, 0, (⟨#[120]⟩ : ByteArray), 4⟩ : S29) [.int .i64 2, .int .i64 0, .string (⟨#[120]⟩ : ByteArray), .int .i64 4] from (k29_mkM _ _ _ (⟨2, 0, (⟨#[120]⟩ : ByteArray), 4⟩ : S29) )) (Reps.c4 (show Kd.M k29 _ _ _ (⟨0, 0, (⟨#[]⟩ : ByteArray), 5⟩ : S29) [.int .i64 0, .int .i64 0, .string (⟨#[]⟩ : ByteArray), .int .i64 5] from (k29_mkM _ _ _ (⟨0, 0, (⟨#[]⟩ : ByteArray), 5⟩ : S29) )) (Reps.none _ _))))))); intro v156 w28 ho29 hb hg_ hnew_; clear hg_ hnew_; (first | rw [← Ny155.out] at ho29 | (simp only [Int.reduceToNat] at ho29; rw [← Ny155.out] at ho29)); have n0_ := Aside0.mk (Kd.V_elder' (by (with_reducible repeat (first | apply Kd.V_alloc | apply Kd.V_drewN | apply Kd.V_drew)); exact HO147.out) (Kd.R_base ho29) hb); have n1_ := Aside0.mk (Kd.V_elder' (by (with_reducible repeat (first | apply Kd.V_alloc | apply Kd.V_drewN | apply Kd.V_drew)); exact HO152.out) (Kd.R_base ho29) hb); have n2_ := Aside0.mk (Kd.R_lower ho29 (below_size (by repeat (first | (with_reducible first | exact HB.out | apply below_alloc | apply pw_below_drewN | apply below_drew1) | exact HB.out)))); have n3_ := Aside0.mk (below_step (by repeat (first | (with_reducible first | exact HB.out | apply below_alloc | apply pw_below_drewN | apply below_drew1) | exact HB.out)) hb); clear HO147; clear HO152; clear HB; have HO147 := n0_; have HO152 := n1_; have HO157 := n2_; have HB := n3_; clear n0_ n1_ n2_ n3_; clear hb ho29; obtain ⟨Ao30, co30, eo30⟩ := Kd.V_slice HO147.out; subst eo30; obtain ⟨Ao31, co31, eo31⟩ := Kd.R_slice HO157.out; subst eo31) | ((with_reducible refine gate_callee (f := 12) rfl ?_); refine goesL_ (some 27) rfl rfl Try.func12 (by kernel_rfl) rfl #[.slice Ao30 t145.length co30, .slice Ao31 y155.length co31] rfl (by (try simp only [List.map_toArray, List.map_cons, List.map_nil]); first | done | rfl | (simp only [List.length_drop, List.length_take]; rfl)) ?_; (with_reducible refine (isthmuslaw11_Same.calls k _ _ t145 _ _ y155 true _ ?side1 ?side2 ?side3 ?side4 A3.out).mono ?_); (case side1 => repeat (first | exact (Kd.V_reads' HO147.out).2.2 | (with_reducible refine Kd.C_alloc ?_ _) | (with_reducible refine Kd.C_drewN ?_ _) | (with_reducible refine Kd.C_drew ?_))); (case side2 => exact (Kd.V_reads' HO147.out).2.1); (case side3 => repeat (first | exact (Kd.R_reads' HO157.out).2.2 | (with_reducible refine Kd.C_alloc ?_ _) | (with_reducible refine Kd.C_drewN ?_ _) | (with_reducible refine Kd.C_drew ?_))); (case side4 => exact (Kd.R_reads' HO157.out).2.1); rintro e w' ⟨rfl, ⟨nd, rfl⟩⟩; refine ⟨_, rfl, ?_⟩))
   go_ret
   exact ⟨by first | rfl | (simp [errW_none, errW_some] <;> rfl) | (simp [*, errW_none, errW_some] <;> rfl), by repeat (first | (with_reducible first | exact HB.out | apply below_alloc | apply pw_below_drewN | apply below_drew1) | exact HB.out)⟩
 ·replace c4 := Bool.eq_false_iff.mpr c4
  subst c4
  have H1 : (some false) = some r := by rw [if_neg (show ¬ (false = true) by decide)] at H; exact H
  clear H
  have H := H1
  clear H1
  obtain rfl := Option.some.inj H
  go_enter Try.func9, Try.ntmps9
  go_wp2_with (first | ((with_reducible refine gate_callee (f := 11) rfl ?_); refine goesL_ (some 10) rfl rfl Try.func11 (by kernel_rfl) rfl #[.string (⟨#[64, 53, 33, 61, 120]⟩ : ByteArray)] rfl (by (try simp only [List.map_toArray, List.map_cons, List.map_nil]); first | done | rfl | (simp only [List.length_drop, List.length_take]; rfl)) ?_; (with_reducible refine (lex_Scan.calls k (⟨#[64, 53, 33, 61, 120]⟩ : ByteArray) t145 t148 t149 _ A1.out).mono ?_); rintro e w32 ⟨v146, rfl, ho0, hb⟩; refine ⟨_, rfl, ?_⟩; have n0_ := Aside0.mk (Kd.V_lower (Kd.V_mono (ok' := fun k_ => True) ho0 (fun k_ hk_ => trivial)) (below_size (by repeat (first | (with_reducible first | exact HB.out | apply below_alloc | apply pw_below_drewN | apply below_drew1) | exact HB.out)))); have n1_ := Aside0.mk (below_step (by repeat (first | (with_reducible first | exact HB.out | apply below_alloc | apply pw_below_drewN | apply below_drew1) | exact HB.out)) hb); clear HB; have HO147 := n0_; have HB := n1_; clear n0_ n1_; (try clear hb); (try clear hb2); (try clear hk); (try clear hi); (try clear ho0)) | ((with_reducible refine gate_callee (f := 11) rfl ?_); refine goesL_ (some 15) rfl rfl Try.func11 (by kernel_rfl) rfl #[.string (⟨#[97, 49, 32, 60, 61, 32, 48, 55]⟩ : ByteArray)] rfl (by (try simp only [List.map_toArray, List.map_cons, List.map_nil]); first | done | rfl | (simp only [List.length_drop, List.length_take]; rfl)) ?_; (with_reducible refine (lex_Scan.calls k (⟨#[97, 49, 32, 60, 61, 32, 48, 55]⟩ : ByteArray) t150 t153 t154 _ A2.out).mono ?_); rintro e w33 ⟨v151, rfl, ho0, hb⟩; refine ⟨_, rfl, ?_⟩; have n0_ := Aside0.mk (Kd.V_below (by (with_reducible repeat (first | apply Kd.V_alloc | apply Kd.V_drewN | apply Kd.V_drew)); exact HO147.out) hb); have n1_ := Aside0.mk (Kd.V_lower (Kd.V_mono (ok' := fun k_ => True) ho0 (fun k_ hk_ => trivial)) (below_size (by repeat (first | (with_reducible first | exact HB.out | apply below_alloc | apply pw_below_drewN | apply below_drew1) | exact HB.out)))); have n2_ := Aside0.mk (below_step (by repeat (first | (with_reducible first | exact HB.out | apply below_alloc | apply pw_below_drewN | apply below_drew1) | exact HB.out)) hb); clear HO147; clear HB; have HO147 := n0_; have HO152 := n1_; have HB := n2_; clear n0_ n1_ n2_; (try clear hb); (try clear hb2); (try clear hk); (try clear hi); (try clear ho0)) | ((with_reducible refine gate_dst (N := 24) rfl ?_); refine Kd.R_lit k29 _ 29 ?hg (N := 24) ?hd (xs := ([(⟨4, 0, (⟨#[64]⟩ : ByteArray), 0⟩ : S29), (⟨1, 5, (⟨#[]⟩ : ByteArray), 1⟩ : S29), (⟨4, 0, (⟨#[33, 61]⟩ : ByteArray), 2⟩ : S29), (⟨2, 0, (⟨#[120]⟩ : ByteArray), 4⟩ : S29), (⟨0, 0, (⟨#[]⟩ : ByteArray), 5⟩ : S29)] : List (S29))) (inner := [.int .i64 4, .int .i64 0, .string (⟨#[64]⟩ : ByteArray), .int .i64 0, .int .i64 1, .int .i64 5, .string (⟨#[]⟩ : ByteArray), .int .i64 1, .int .i64 4, .int .i64 0, .string (⟨#[33, 61]⟩ : ByteArray), .int .i64 2, .int .i64 2, .int .i64 0, .string (⟨#[120]⟩ : ByteArray), .int .i64 4, .int .i64 0, .int .i64 0, .string (⟨#[]⟩ : ByteArray), .int .i64 5]) (ok := fun _ => True) (okp := fun _ => True) ?hr ?hp (fun _ hk => hk) trivial (Below.refl _ _) (Nat.le_refl _) (by simp) ?_; (case hd => rfl); (case hg => rfl); (case hr => first | (go_simp; done) | (go_simp; rfl)); (case hp => exact (Reps.c4 (show Kd.M k29 _ _ _ (⟨4, 0, (⟨#[64]⟩ : ByteArray), 0⟩ : S29) [.int .i64 4, .int .i64 0, .string (⟨#[64]⟩ : ByteArray), .int .i64 0] from (k29_mkM _ _ _ (⟨4, 0, (⟨#[64]⟩ : ByteArray), 0⟩ : S29) )) (Reps.c4 (show Kd.M k29 _ _ _ (⟨1, 5, (⟨#[]⟩ : ByteArray), 1⟩ : S29) [.int .i64 1, .int .i64 5, .string (⟨#[]⟩ : ByteArray), .int .i64 1] from (k29_mkM _ _ _ (⟨1, 5, (⟨#[]⟩ : ByteArray), 1⟩ : S29) )) (Reps.c4 (show Kd.M k29 _ _ _ (⟨4, 0, (⟨#[33, 61]⟩ : ByteArray), 2⟩ : S29) [.int .i64 4, .int .i64 0, .string (⟨#[33, 61]⟩ : ByteArray), .int .i64 2] from (k29_mkM _ _ _ (⟨4, 0, (⟨#[33, 61]⟩ : ByteArray), 2⟩ : S29) )) (Reps.c4 (show Kd.M k29 _ _ _ (⟨2, 0, (⟨#[120]⟩ : ByteArray), 4⟩ : S29) [.int .i64 2, .int .i64 0, .string (⟨#[120]⟩ : ByteArray), .int .i64 4] from (k29_mkM _ _ _ (⟨2, 0, (⟨#[120]⟩ : ByteArray), 4⟩ : S29) )) (Reps.c4 (show Kd.M k29 _ _ _ (⟨0, 0, (⟨#[]⟩ : ByteArray), 5⟩ : S29) [.int .i64 0, .int .i64 0, .string (⟨#[]⟩ : ByteArray), .int .i64 5] from (k29_mkM _ _ _ (⟨0, 0, (⟨#[]⟩ : ByteArray), 5⟩ : S29) )) (Reps.none _ _))))))); intro v156 w34 ho35 hb hg_ hnew_; clear hg_ hnew_; (first | rw [← Ny155.out] at ho35 | (simp only [Int.reduceToNat] at ho35; rw [← Ny155.out] at ho35)); have n0_ := Aside0.mk (Kd.V_elder' (by (with_reducible repeat (first | apply Kd.V_alloc | apply Kd.V_drewN | apply Kd.V_drew)); exact HO147.out) (Kd.R_base ho35) hb); have n1_ := Aside0.mk (Kd.V_elder' (by (with_reducible repeat (first | apply Kd.V_alloc | apply Kd.V_drewN | apply Kd.V_drew)); exact HO152.out) (Kd.R_base ho35) hb); have n2_ := Aside0.mk (Kd.R_lower ho35 (below_size (by repeat (first | (with_reducible first | exact HB.out | apply below_alloc | apply pw_below_drewN | apply below_drew1) | exact HB.out)))); have n3_ := Aside0.mk (below_step (by repeat (first | (with_reducible first | exact HB.out | apply below_alloc | apply pw_below_drewN | apply below_drew1) | exact HB.out)) hb); clear HO147; clear HO152; clear HB; have HO147 := n0_; have HO152 := n1_; have HO157 := n2_; have HB := n3_; clear n0_ n1_ n2_ n3_; clear hb ho35; obtain ⟨Ao36, co36, eo36⟩ := Kd.V_slice HO147.out; subst eo36; obtain ⟨Ao37, co37, eo37⟩ := Kd.R_slice HO157.out; subst eo37) | ((with_reducible refine gate_callee (f := 12) rfl ?_); refine goesL_ (some 27) rfl rfl Try.func12 (by kernel_rfl) rfl #[.slice Ao36 t145.length co36, .slice Ao37 y155.length co37] rfl (by (try simp only [List.map_toArray, List.map_cons, List.map_nil]); first | done | rfl | (simp only [List.length_drop, List.length_take]; rfl)) ?_; (with_reducible refine (isthmuslaw11_Same.calls k _ _ t145 _ _ y155 false _ ?side1 ?side2 ?side3 ?side4 A3.out).mono ?_); (case side1 => repeat (first | exact (Kd.V_reads' HO147.out).2.2 | (with_reducible refine Kd.C_alloc ?_ _) | (with_reducible refine Kd.C_drewN ?_ _) | (with_reducible refine Kd.C_drew ?_))); (case side2 => exact (Kd.V_reads' HO147.out).2.1); (case side3 => repeat (first | exact (Kd.R_reads' HO157.out).2.2 | (with_reducible refine Kd.C_alloc ?_ _) | (with_reducible refine Kd.C_drewN ?_ _) | (with_reducible refine Kd.C_drew ?_))); (case side4 => exact (Kd.R_reads' HO157.out).2.1); rintro e w' ⟨rfl, ⟨nd, rfl⟩⟩; refine ⟨_, rfl, ?_⟩))
  go_ret
  exact ⟨by first | rfl | (simp [errW_none, errW_some] <;> rfl) | (simp [*, errW_none, errW_some] <;> rfl), by repeat (first | (with_reducible first | exact HB.out | apply below_alloc | apply pw_below_drewN | apply below_drew1) | exact HB.out)⟩

/-! ### isthmusref11_blank: function 17 -/
def isthmusref11_blank.f (a0 : Int) : Option (Bool) := if a0 = 32 then (some true) else (if a0 = 9 then (some true) else (if a0 = 10 then (some true) else (some (a0 == 13))))
set_option maxHeartbeats 8000000 in
set_option maxRecDepth 100000 in
theorem isthmusref11_blank.calls (a0 : Int) (r : Bool) (w : World) (h : isthmusref11_blank.f a0 = some r) :
    Calls Try.prog 17 #[.int .u8 a0] w fun e w' => e = .returned (.bool r) ∧ Drawn0 w w' := by
  have H : (if a0 = 32 then (some true) else (if a0 = 9 then (some true) else (if a0 = 10 then (some true) else (some (a0 == 13))))) = some r := h
  clear h
  by_cases c2 : a0 = 32
  · rw [if_pos c2] at H
    have c2b0 : (a0 == 32) = true := beq_iff_eq.mpr c2
    have c2b1 : (a0 != 32) = false := bne_eq_false_iff_eq.mpr c2
    clear c2
    obtain rfl := Option.some.inj H
    go_enter Try.func17, Try.ntmps17
    go_wp2
    go_ret
    exact ⟨by first | rfl | (simp; done) | (simp [*]; done), by repeat (first | exact Drawn0.refl _ | apply Drawn0.step)⟩
  · rw [if_neg c2] at H
    have c2b0 : (a0 == 32) = false := beq_eq_false_iff_ne.mpr c2
    have c2b1 : (a0 != 32) = true := bne_iff_ne.mpr c2
    by_cases c3 : a0 = 9
    · rw [if_pos c3] at H
      have c3b0 : (a0 == 9) = true := beq_iff_eq.mpr c3
      have c3b1 : (a0 != 9) = false := bne_eq_false_iff_eq.mpr c3
      clear c3
      obtain rfl := Option.some.inj H
      go_enter Try.func17, Try.ntmps17
      go_wp2
      go_ret
      exact ⟨by first | rfl | (simp; done) | (simp [*]; done), by repeat (first | exact Drawn0.refl _ | apply Drawn0.step)⟩
    · rw [if_neg c3] at H
      have c3b0 : (a0 == 9) = false := beq_eq_false_iff_ne.mpr c3
      have c3b1 : (a0 != 9) = true := bne_iff_ne.mpr c3
      by_cases c4 : a0 = 10
      · rw [if_pos c4] at H
        have c4b0 : (a0 == 10) = true := beq_iff_eq.mpr c4
        have c4b1 : (a0 != 10) = false := bne_eq_false_iff_eq.mpr c4
        clear c4
        obtain rfl := Option.some.inj H
        go_enter Try.func17, Try.ntmps17
        go_wp2
        go_ret
        exact ⟨by first | rfl | (simp; done) | (simp [*]; done), by repeat (first | exact Drawn0.refl _ | apply Drawn0.step)⟩
      · rw [if_neg c4] at H
        have c4b0 : (a0 == 10) = false := beq_eq_false_iff_ne.mpr c4
        have c4b1 : (a0 != 10) = true := bne_iff_ne.mpr c4
        obtain rfl := Option.some.inj H
        go_enter Try.func17, Try.ntmps17
        go_wp2
        go_ret
        exact ⟨by first | rfl | (simp; done) | (simp [*]; done), by repeat (first | exact Drawn0.refl _ | apply Drawn0.step)⟩

/-! ### isthmusref11_small: function 23 -/
def isthmusref11_small.f (a0 : Int) : Option (Bool) := if a0 ≥ 97 then (some (decide (a0 ≤ 122))) else (some false)
set_option maxHeartbeats 8000000 in
set_option maxRecDepth 100000 in
theorem isthmusref11_small.calls (a0 : Int) (r : Bool) (w : World) (h : isthmusref11_small.f a0 = some r) :
    Calls Try.prog 23 #[.int .u8 a0] w fun e w' => e = .returned (.bool r) ∧ Drawn0 w w' := by
  have H : (if a0 ≥ 97 then (some (decide (a0 ≤ 122))) else (some false)) = some r := h
  clear h
  by_cases c2 : a0 ≥ 97
  · rw [if_pos c2] at H
    have c2b0 : decide (97 ≤ a0) = true := decide_eq_true c2
    clear c2
    obtain rfl := Option.some.inj H
    go_enter Try.func23, Try.ntmps23
    go_wp2
    go_ret
    exact ⟨by first | rfl | (simp; done) | (simp [*]; done), by repeat (first | exact Drawn0.refl _ | apply Drawn0.step)⟩
  · rw [if_neg c2] at H
    have c2b0 : decide (97 ≤ a0) = false := decide_eq_false c2
    clear c2
    obtain rfl := Option.some.inj H
    go_enter Try.func23, Try.ntmps23
    go_wp2
    go_ret
    exact ⟨by first | rfl | (simp; done) | (simp [*]; done), by repeat (first | exact Drawn0.refl _ | apply Drawn0.step)⟩

/-! ### isthmusref11_digit: function 24 -/
def isthmusref11_digit.f (a0 : Int) : Option (Bool) := if a0 ≥ 48 then (some (decide (a0 ≤ 57))) else (some false)
set_option maxHeartbeats 8000000 in
set_option maxRecDepth 100000 in
theorem isthmusref11_digit.calls (a0 : Int) (r : Bool) (w : World) (h : isthmusref11_digit.f a0 = some r) :
    Calls Try.prog 24 #[.int .u8 a0] w fun e w' => e = .returned (.bool r) ∧ Drawn0 w w' := by
  have H : (if a0 ≥ 48 then (some (decide (a0 ≤ 57))) else (some false)) = some r := h
  clear h
  by_cases c2 : a0 ≥ 48
  · rw [if_pos c2] at H
    have c2b0 : decide (48 ≤ a0) = true := decide_eq_true c2
    clear c2
    obtain rfl := Option.some.inj H
    go_enter Try.func24, Try.ntmps24
    go_wp2
    go_ret
    exact ⟨by first | rfl | (simp; done) | (simp [*]; done), by repeat (first | exact Drawn0.refl _ | apply Drawn0.step)⟩
  · rw [if_neg c2] at H
    have c2b0 : decide (48 ≤ a0) = false := decide_eq_false c2
    clear c2
    obtain rfl := Option.some.inj H
    go_enter Try.func24, Try.ntmps24
    go_wp2
    go_ret
    exact ⟨by first | rfl | (simp; done) | (simp [*]; done), by repeat (first | exact Drawn0.refl _ | apply Drawn0.step)⟩

/-! ### isthmusref11_Word: function 25 -/
def isthmusref11_Word.l0 : Nat → ByteArray → List ByteArray → Int → Option (Bool)
  | 0, _, _, _ => none
  | k + 1, x0, x3, x4 => if x4 < (x3.length : Int) then (if 0 ≤ x4 then (if (rdOf ByteArray.empty x3 x4).toList = x0.toList then (some true) else (isthmusref11_Word.l0 k x0 x3 (wrap64 (x4 + 1)))) else (none)) else (some false)
def isthmusref11_Word.f (k : Nat) (a0 : ByteArray) : Option (Bool) := isthmusref11_Word.l0 k a0 (([(⟨#[97, 108, 108]⟩ : ByteArray), (⟨#[97, 110, 100]⟩ : ByteArray), (⟨#[97, 114, 111, 117, 110, 100]⟩ : ByteArray), (⟨#[98, 108, 111, 99, 107]⟩ : ByteArray), (⟨#[98, 111, 116, 116, 108, 101, 110, 101, 99, 107]⟩ : ByteArray), (⟨#[99, 111, 110, 110, 101, 99, 116, 101, 100]⟩ : ByteArray), (⟨#[99, 111, 117, 110, 116]⟩ : ByteArray), (⟨#[100, 101, 103, 114, 101, 101]⟩ : ByteArray), (⟨#[101, 108, 115, 101]⟩ : ByteArray), (⟨#[102, 97, 108, 115, 101]⟩ : ByteArray), (⟨#[105, 102]⟩ : ByteArray), (⟨#[105, 110]⟩ : ByteArray), (⟨#[108, 101, 97, 115, 116]⟩ : ByteArray), (⟨#[109, 97, 120]⟩ : ByteArray), (⟨#[109, 105, 110]⟩ : ByteArray), (⟨#[109, 111, 115, 116]⟩ : ByteArray), (⟨#[110, 111, 116]⟩ : ByteArray), (⟨#[111, 114]⟩ : ByteArray), (⟨#[114, 101, 112]⟩ : ByteArray), (⟨#[115, 105, 122, 101]⟩ : ByteArray), (⟨#[115, 111, 109, 101]⟩ : ByteArray), (⟨#[115, 117, 109]⟩ : ByteArray), (⟨#[116, 104, 101, 110]⟩ : ByteArray), (⟨#[116, 111, 116, 97, 108]⟩ : ByteArray), (⟨#[116, 114, 117, 101]⟩ : ByteArray), (⟨#[118, 97, 108, 117, 101]⟩ : ByteArray), (⟨#[118, 101, 114, 116, 105, 99, 101, 115]⟩ : ByteArray)] : List ByteArray)) 0
theorem isthmusref11_Word.mono_l : ∀ k, (∀ y0 y1 y2, LeO (isthmusref11_Word.l0 k y0 y1 y2) (isthmusref11_Word.l0 (k + 1) y0 y1 y2))
  | 0 => fun _ _ _ r h => by simp [isthmusref11_Word.l0] at h
  | k + 1 => by
    have ih0 := isthmusref11_Word.mono_l k
    · intro y0 y1 y2
      unfold isthmusref11_Word.l0
      repeat' first
      | (with_reducible exact ih0 _ _ _)
      | (with_reducible exact LeO.refl _)
      | (with_reducible exact LeO.none _)
      | (with_reducible refine LeO.ite ?_ ?_)
      | (with_reducible refine LeO.bind ?_ (fun _ => ?_))
      | exact ih0 _ _ _
      | exact LeO.none _
      | refine LeO.ite ?_ ?_
      | refine LeO.bind ?_ (fun _ => ?_)
theorem isthmusref11_Word.mono : ∀ a0 k, LeO (isthmusref11_Word.f k a0) (isthmusref11_Word.f (k + 1) a0) := by
  intro a0 k
  have ih0 := isthmusref11_Word.mono_l k
  unfold isthmusref11_Word.f
  repeat' first
      | (with_reducible exact ih0 _ _ _)
      | (with_reducible exact LeO.refl _)
      | (with_reducible exact LeO.none _)
      | (with_reducible refine LeO.ite ?_ ?_)
      | (with_reducible refine LeO.bind ?_ (fun _ => ?_))
      | exact ih0 _ _ _
      | exact LeO.none _
      | refine LeO.ite ?_ ?_
      | refine LeO.bind ?_ (fun _ => ?_)
set_option maxHeartbeats 8000000 in
set_option maxRecDepth 100000 in
theorem isthmusref11_Word.calls (k : Nat) (a0 : ByteArray) (r : Bool) (w : World) (h : isthmusref11_Word.f k a0 = some r) :
    Calls Try.prog 25 #[.string a0] w fun e w' => e = .returned (.bool r) ∧ Below w.heap.size w w' := by
  have HB := Aside0.mk (Below.refl w.heap.size w)
  have H : (isthmusref11_Word.l0 k a0 (([(⟨#[97, 108, 108]⟩ : ByteArray), (⟨#[97, 110, 100]⟩ : ByteArray), (⟨#[97, 114, 111, 117, 110, 100]⟩ : ByteArray), (⟨#[98, 108, 111, 99, 107]⟩ : ByteArray), (⟨#[98, 111, 116, 116, 108, 101, 110, 101, 99, 107]⟩ : ByteArray), (⟨#[99, 111, 110, 110, 101, 99, 116, 101, 100]⟩ : ByteArray), (⟨#[99, 111, 117, 110, 116]⟩ : ByteArray), (⟨#[100, 101, 103, 114, 101, 101]⟩ : ByteArray), (⟨#[101, 108, 115, 101]⟩ : ByteArray), (⟨#[102, 97, 108, 115, 101]⟩ : ByteArray), (⟨#[105, 102]⟩ : ByteArray), (⟨#[105, 110]⟩ : ByteArray), (⟨#[108, 101, 97, 115, 116]⟩ : ByteArray), (⟨#[109, 97, 120]⟩ : ByteArray), (⟨#[109, 105, 110]⟩ : ByteArray), (⟨#[109, 111, 115, 116]⟩ : ByteArray), (⟨#[110, 111, 116]⟩ : ByteArray), (⟨#[111, 114]⟩ : ByteArray), (⟨#[114, 101, 112]⟩ : ByteArray), (⟨#[115, 105, 122, 101]⟩ : ByteArray), (⟨#[115, 111, 109, 101]⟩ : ByteArray), (⟨#[115, 117, 109]⟩ : ByteArray), (⟨#[116, 104, 101, 110]⟩ : ByteArray), (⟨#[116, 111, 116, 97, 108]⟩ : ByteArray), (⟨#[116, 114, 117, 101]⟩ : ByteArray), (⟨#[118, 97, 108, 117, 101]⟩ : ByteArray), (⟨#[118, 101, 114, 116, 105, 99, 101, 115]⟩ : ByteArray)] : List ByteArray)) 0) = some r := h
  clear h
  obtain ⟨y159, hy159⟩ : ∃ y_ : List ByteArray, y_ = (([(⟨#[97, 108, 108]⟩ : ByteArray), (⟨#[97, 110, 100]⟩ : ByteArray), (⟨#[97, 114, 111, 117, 110, 100]⟩ : ByteArray), (⟨#[98, 108, 111, 99, 107]⟩ : ByteArray), (⟨#[98, 111, 116, 116, 108, 101, 110, 101, 99, 107]⟩ : ByteArray), (⟨#[99, 111, 110, 110, 101, 99, 116, 101, 100]⟩ : ByteArray), (⟨#[99, 111, 117, 110, 116]⟩ : ByteArray), (⟨#[100, 101, 103, 114, 101, 101]⟩ : ByteArray), (⟨#[101, 108, 115, 101]⟩ : ByteArray), (⟨#[102, 97, 108, 115, 101]⟩ : ByteArray), (⟨#[105, 102]⟩ : ByteArray), (⟨#[105, 110]⟩ : ByteArray), (⟨#[108, 101, 97, 115, 116]⟩ : ByteArray), (⟨#[109, 97, 120]⟩ : ByteArray), (⟨#[109, 105, 110]⟩ : ByteArray), (⟨#[109, 111, 115, 116]⟩ : ByteArray), (⟨#[110, 111, 116]⟩ : ByteArray), (⟨#[111, 114]⟩ : ByteArray), (⟨#[114, 101, 112]⟩ : ByteArray), (⟨#[115, 105, 122, 101]⟩ : ByteArray), (⟨#[115, 111, 109, 101]⟩ : ByteArray), (⟨#[115, 117, 109]⟩ : ByteArray), (⟨#[116, 104, 101, 110]⟩ : ByteArray), (⟨#[116, 111, 116, 97, 108]⟩ : ByteArray), (⟨#[116, 114, 117, 101]⟩ : ByteArray), (⟨#[118, 97, 108, 117, 101]⟩ : ByteArray), (⟨#[118, 101, 114, 116, 105, 99, 101, 115]⟩ : ByteArray)] : List ByteArray)) := ⟨_, rfl⟩
  replace H : (isthmusref11_Word.l0 k a0 y159 0) = some r := by first | (rw [hy159]; with_reducible exact H) | (have H2_ := (Option.bind_some _ _).symm.trans H; rw [hy159]; with_reducible exact H2_) | (have H2_ := (Option.bind_some _ _).symm.trans H; with_reducible exact H2_) | with_reducible exact H | (rw [hy159]; exact H) | exact H
  have Ny159 := Aside0.mk hy159
  clear hy159
  have H' := Aside0.mk H
  clear H
  go_enter Try.func25, Try.ntmps25
  go_wp2_with (first | ((with_reducible refine gate_dst (N := 5) rfl ?_); refine Kd.R_lit Kd.string _ 9 ?hg (N := 5) ?hd (xs := ([(⟨#[97, 108, 108]⟩ : ByteArray), (⟨#[97, 110, 100]⟩ : ByteArray), (⟨#[97, 114, 111, 117, 110, 100]⟩ : ByteArray), (⟨#[98, 108, 111, 99, 107]⟩ : ByteArray), (⟨#[98, 111, 116, 116, 108, 101, 110, 101, 99, 107]⟩ : ByteArray), (⟨#[99, 111, 110, 110, 101, 99, 116, 101, 100]⟩ : ByteArray), (⟨#[99, 111, 117, 110, 116]⟩ : ByteArray), (⟨#[100, 101, 103, 114, 101, 101]⟩ : ByteArray), (⟨#[101, 108, 115, 101]⟩ : ByteArray), (⟨#[102, 97, 108, 115, 101]⟩ : ByteArray), (⟨#[105, 102]⟩ : ByteArray), (⟨#[105, 110]⟩ : ByteArray), (⟨#[108, 101, 97, 115, 116]⟩ : ByteArray), (⟨#[109, 97, 120]⟩ : ByteArray), (⟨#[109, 105, 110]⟩ : ByteArray), (⟨#[109, 111, 115, 116]⟩ : ByteArray), (⟨#[110, 111, 116]⟩ : ByteArray), (⟨#[111, 114]⟩ : ByteArray), (⟨#[114, 101, 112]⟩ : ByteArray), (⟨#[115, 105, 122, 101]⟩ : ByteArray), (⟨#[115, 111, 109, 101]⟩ : ByteArray), (⟨#[115, 117, 109]⟩ : ByteArray), (⟨#[116, 104, 101, 110]⟩ : ByteArray), (⟨#[116, 111, 116, 97, 108]⟩ : ByteArray), (⟨#[116, 114, 117, 101]⟩ : ByteArray), (⟨#[118, 97, 108, 117, 101]⟩ : ByteArray), (⟨#[118, 101, 114, 116, 105, 99, 101, 115]⟩ : ByteArray)] : List ByteArray)) (inner := [.string (⟨#[97, 108, 108]⟩ : ByteArray), .string (⟨#[97, 110, 100]⟩ : ByteArray), .string (⟨#[97, 114, 111, 117, 110, 100]⟩ : ByteArray), .string (⟨#[98, 108, 111, 99, 107]⟩ : ByteArray), .string (⟨#[98, 111, 116, 116, 108, 101, 110, 101, 99, 107]⟩ : ByteArray), .string (⟨#[99, 111, 110, 110, 101, 99, 116, 101, 100]⟩ : ByteArray), .string (⟨#[99, 111, 117, 110, 116]⟩ : ByteArray), .string (⟨#[100, 101, 103, 114, 101, 101]⟩ : ByteArray), .string (⟨#[101, 108, 115, 101]⟩ : ByteArray), .string (⟨#[102, 97, 108, 115, 101]⟩ : ByteArray), .string (⟨#[105, 102]⟩ : ByteArray), .string (⟨#[105, 110]⟩ : ByteArray), .string (⟨#[108, 101, 97, 115, 116]⟩ : ByteArray), .string (⟨#[109, 97, 120]⟩ : ByteArray), .string (⟨#[109, 105, 110]⟩ : ByteArray), .string (⟨#[109, 111, 115, 116]⟩ : ByteArray), .string (⟨#[110, 111, 116]⟩ : ByteArray), .string (⟨#[111, 114]⟩ : ByteArray), .string (⟨#[114, 101, 112]⟩ : ByteArray), .string (⟨#[115, 105, 122, 101]⟩ : ByteArray), .string (⟨#[115, 111, 109, 101]⟩ : ByteArray), .string (⟨#[115, 117, 109]⟩ : ByteArray), .string (⟨#[116, 104, 101, 110]⟩ : ByteArray), .string (⟨#[116, 111, 116, 97, 108]⟩ : ByteArray), .string (⟨#[116, 114, 117, 101]⟩ : ByteArray), .string (⟨#[118, 97, 108, 117, 101]⟩ : ByteArray), .string (⟨#[118, 101, 114, 116, 105, 99, 101, 115]⟩ : ByteArray)]) (ok := fun _ => True) (okp := fun _ => True) ?hr ?hp (fun _ hk => hk) trivial (Below.refl _ _) (Nat.le_refl _) (by simp) ?_; (case hd => rfl); (case hg => rfl); (case hr => first | (go_simp; done) | (go_simp; rfl)); (case hp => exact (Reps.one (show Kd.M Kd.string _ _ _ (⟨#[97, 108, 108]⟩ : ByteArray) [.string (⟨#[97, 108, 108]⟩ : ByteArray)] from rfl) (Reps.one (show Kd.M Kd.string _ _ _ (⟨#[97, 110, 100]⟩ : ByteArray) [.string (⟨#[97, 110, 100]⟩ : ByteArray)] from rfl) (Reps.one (show Kd.M Kd.string _ _ _ (⟨#[97, 114, 111, 117, 110, 100]⟩ : ByteArray) [.string (⟨#[97, 114, 111, 117, 110, 100]⟩ : ByteArray)] from rfl) (Reps.one (show Kd.M Kd.string _ _ _ (⟨#[98, 108, 111, 99, 107]⟩ : ByteArray) [.string (⟨#[98, 108, 111, 99, 107]⟩ : ByteArray)] from rfl) (Reps.one (show Kd.M Kd.string _ _ _ (⟨#[98, 111, 116, 116, 108, 101, 110, 101, 99, 107]⟩ : ByteArray) [.string (⟨#[98, 111, 116, 116, 108, 101, 110, 101, 99, 107]⟩ : ByteArray)] from rfl) (Reps.one (show Kd.M Kd.string _ _ _ (⟨#[99, 111, 110, 110, 101, 99, 116, 101, 100]⟩ : ByteArray) [.string (⟨#[99, 111, 110, 110, 101, 99, 116, 101, 100]⟩ : ByteArray)] from rfl) (Reps.one (show Kd.M Kd.string _ _ _ (⟨#[99, 111, 117, 110, 116]⟩ : ByteArray) [.string (⟨#[99, 111, 117, 110, 116]⟩ : ByteArray)] from rfl) (Reps.one (show Kd.M Kd.string _ _ _ (⟨#[100, 101, 103, 114, 101, 101]⟩ : ByteArray) [.string (⟨#[100, 101, 103, 114, 101, 101]⟩ : ByteArray)] from rfl) (Reps.one (show Kd.M Kd.string _ _ _ (⟨#[101, 108, 115, 101]⟩ : ByteArray) [.string (⟨#[101, 108, 115, 101]⟩ : ByteArray)] from rfl) (Reps.one (show Kd.M Kd.string _ _ _ (⟨#[102, 97, 108, 115, 101]⟩ : ByteArray) [.string (⟨#[102, 97, 108, 115, 101]⟩ : ByteArray)] from rfl) (Reps.one (show Kd.M Kd.string _ _ _ (⟨#[105, 102]⟩ : ByteArray) [.string (⟨#[105, 102]⟩ : ByteArray)] from rfl) (Reps.one (show Kd.M Kd.string _ _ _ (⟨#[105, 110]⟩ : ByteArray) [.string (⟨#[105, 110]⟩ : ByteArray)] from rfl) (Reps.one (show Kd.M Kd.string _ _ _ (⟨#[108, 101, 97, 115, 116]⟩ : ByteArray) [.string (⟨#[108, 101, 97, 115, 116]⟩ : ByteArray)] from rfl) (Reps.one (show Kd.M Kd.string _ _ _ (⟨#[109, 97, 120]⟩ : ByteArray) [.string (⟨#[109, 97, 120]⟩ : ByteArray)] from rfl) (Reps.one (show Kd.M Kd.string _ _ _ (⟨#[109, 105, 110]⟩ : ByteArray) [.string (⟨#[109, 105, 110]⟩ : ByteArray)] from rfl) (Reps.one (show Kd.M Kd.string _ _ _ (⟨#[109, 111, 115, 116]⟩ : ByteArray) [.string (⟨#[109, 111, 115, 116]⟩ : ByteArray)] from rfl) (Reps.one (show Kd.M Kd.string _ _ _ (⟨#[110, 111, 116]⟩ : ByteArray) [.string (⟨#[110, 111, 116]⟩ : ByteArray)] from rfl) (Reps.one (show Kd.M Kd.string _ _ _ (⟨#[111, 114]⟩ : ByteArray) [.string (⟨#[111, 114]⟩ : ByteArray)] from rfl) (Reps.one (show Kd.M Kd.string _ _ _ (⟨#[114, 101, 112]⟩ : ByteArray) [.string (⟨#[114, 101, 112]⟩ : ByteArray)] from rfl) (Reps.one (show Kd.M Kd.string _ _ _ (⟨#[115, 105, 122, 101]⟩ : ByteArray) [.string (⟨#[115, 105, 122, 101]⟩ : ByteArray)] from rfl) (Reps.one (show Kd.M Kd.string _ _ _ (⟨#[115, 111, 109, 101]⟩ : ByteArray) [.string (⟨#[115, 111, 109, 101]⟩ : ByteArray)] from rfl) (Reps.one (show Kd.M Kd.string _ _ _ (⟨#[115, 117, 109]⟩ : ByteArray) [.string (⟨#[115, 117, 109]⟩ : ByteArray)] from rfl) (Reps.one (show Kd.M Kd.string _ _ _ (⟨#[116, 104, 101, 110]⟩ : ByteArray) [.string (⟨#[116, 104, 101, 110]⟩ : ByteArray)] from rfl) (Reps.one (show Kd.M Kd.string _ _ _ (⟨#[116, 111, 116, 97, 108]⟩ : ByteArray) [.string (⟨#[116, 111, 116, 97, 108]⟩ : ByteArray)] from rfl) (Reps.one (show Kd.M Kd.string _ _ _ (⟨#[116, 114, 117, 101]⟩ : ByteArray) [.string (⟨#[116, 114, 117, 101]⟩ : ByteArray)] from rfl) (Reps.one (show Kd.M Kd.string _ _ _ (⟨#[118, 97, 108, 117, 101]⟩ : ByteArray) [.string (⟨#[118, 97, 108, 117, 101]⟩ : ByteArray)] from rfl) (Reps.one (show Kd.M Kd.string _ _ _ (⟨#[118, 101, 114, 116, 105, 99, 101, 115]⟩ : ByteArray) [.string (⟨#[118, 101, 114, 116, 105, 99, 101, 115]⟩ : ByteArray)] from rfl) (Reps.none _ _))))))))))))))))))))))))))))); intro v160 w2 ho3 hb hg_ hnew_; clear hg_ hnew_; (first | rw [← Ny159.out] at ho3 | (simp only [Int.reduceToNat] at ho3; rw [← Ny159.out] at ho3)); have n0_ := Aside0.mk (Kd.R_lower ho3 (below_size (by repeat (first | (with_reducible first | exact HB.out | apply below_alloc | apply pw_below_drewN | apply below_drew1) | exact HB.out)))); have n1_ := Aside0.mk (below_step (by repeat (first | (with_reducible first | exact HB.out | apply below_alloc | apply pw_below_drewN | apply below_drew1) | exact HB.out)) hb); clear HB; have HO161 := n0_; have HB := n1_; clear n0_ n1_; clear hb ho3))
  go_loopg [4] k (fun kq v4 w' => ∃ (x4_1 : Int), v4 = .int .i64 x4_1 ∧ Aside0 (isthmusref11_Word.l0 kq a0 y159 x4_1 = some r) ∧ Aside0 (kq ≤ k) ∧ Aside0 (Kd.R Kd.string 9 w' w.heap.size (fun _ => True) v160 y159) ∧ Aside0 (Below w.heap.size w w'))
  case atStart => exact ⟨(0), (by first | rfl | (simp; done) | (simp [*]; done)), H', ⟨Nat.le_refl _⟩, ⟨by (with_reducible repeat (first | apply Kd.R_alloc | apply Kd.R_drewN | apply Kd.R_drew)); exact HO161.out⟩, ⟨by repeat (first | (with_reducible first | exact HB.out | apply below_alloc | apply pw_below_drewN | apply below_drew1) | exact HB.out)⟩⟩
  case round =>
    clear H'
    try clear c2
    try clear p2
    obtain ⟨x4_1, rfl, HA, HK1, HO_3, HB⟩ := hrel
    cases gk with
    | zero => exact absurd HA.out (by simp [isthmusref11_Word.l0])
    | succ k1 =>
      have H := HA.out
      clear HA
      simp only [isthmusref11_Word.l0] at H
      by_cases c4 : x4_1 < (y159.length : Int)
      · rw [if_pos c4] at H
        have c4b0 : decide (x4_1 < (y159.length : Int)) = true := decide_eq_true c4
        clear c4
        by_cases c5 : 0 ≤ x4_1
        · rw [if_pos c5] at H
          have c5b0 : decide (0 ≤ x4_1) = true := decide_eq_true c5
          clear c5
          by_cases c6 : (rdOf ByteArray.empty y159 x4_1).toList = a0.toList
          · rw [if_pos c6] at H
            have c6b0 : ((rdOf ByteArray.empty y159 x4_1).toList == a0.toList) = true := beq_iff_eq.mpr c6
            have c6b1 : ((rdOf ByteArray.empty y159 x4_1).toList != a0.toList) = false := bne_eq_false_iff_eq.mpr c6
            clear c6
            obtain rfl := Option.some.inj H
            obtain ⟨Ao7, co7, eo7⟩ := Kd.R_slice HO_3.out
            subst eo7
            have p162 : 0 ≤ (x4_1 : Int) := of_decide_eq_true (by first | (with_reducible assumption) | assumption)
            have q162 : x4_1 < (y159.length : Int) := of_decide_eq_true (by first | (with_reducible assumption) | assumption)
            obtain ⟨ad162, e162, hx162_0⟩ := Kd.at_string (Kd.R_reads' HO_3.out).2.2 x4_1 p162 q162
            cases e162
            replace p162 := eq_true p162
            replace q162 := eq_true q162
            go_wp2
            go_ret
            exact ⟨by first | rfl | (simp [errW_none, errW_some] <;> rfl) | (simp [*, errW_none, errW_some] <;> rfl), by repeat (first | (with_reducible first | exact HB.out | apply below_alloc | apply pw_below_drewN | apply below_drew1) | exact HB.out)⟩
          · rw [if_neg c6] at H
            have c6b0 : ((rdOf ByteArray.empty y159 x4_1).toList == a0.toList) = false := beq_eq_false_iff_ne.mpr c6
            have c6b1 : ((rdOf ByteArray.empty y159 x4_1).toList != a0.toList) = true := bne_iff_ne.mpr c6
            have H' := Aside0.mk H
            clear H
            obtain ⟨Ao8, co8, eo8⟩ := Kd.R_slice HO_3.out
            subst eo8
            have p162 : 0 ≤ (x4_1 : Int) := of_decide_eq_true (by first | (with_reducible assumption) | assumption)
            have q162 : x4_1 < (y159.length : Int) := of_decide_eq_true (by first | (with_reducible assumption) | assumption)
            obtain ⟨ad162, e162, hx162_0⟩ := Kd.at_string (Kd.R_reads' HO_3.out).2.2 x4_1 p162 q162
            cases e162
            replace p162 := eq_true p162
            replace q162 := eq_true q162
            go_wp2
            go_roundg k1
            case measure => have := HK1.out; omega
            case rel => exact ⟨(wrap64 (x4_1 + 1)), (by first | rfl | (simp; done) | (simp [*]; done)), H', ⟨by have := HK1.out; omega⟩, ⟨by (with_reducible repeat (first | apply Kd.R_alloc | apply Kd.R_drewN | apply Kd.R_drew)); exact HO_3.out⟩, ⟨by repeat (first | (with_reducible first | exact HB.out | apply below_alloc | apply pw_below_drewN | apply below_drew1) | exact HB.out)⟩⟩
        · rw [if_neg c5] at H
          exact absurd H (by simp)
      · rw [if_neg c4] at H
        have c4b0 : decide (x4_1 < (y159.length : Int)) = false := decide_eq_false c4
        clear c4
        obtain rfl := Option.some.inj H
        obtain ⟨Ao9, co9, eo9⟩ := Kd.R_slice HO_3.out
        subst eo9
        go_wp2
        go_ret
        exact ⟨by first | rfl | (simp [errW_none, errW_some] <;> rfl) | (simp [*, errW_none, errW_some] <;> rfl), by repeat (first | (with_reducible first | exact HB.out | apply below_alloc | apply pw_below_drewN | apply below_drew1) | exact HB.out)⟩

end Go.Proofs.Ytijcoddbkefmlaa.L
