-- Laid by a program (wip/tools/gprint.py over the kit's printer) out of the translation. Lean checks it.
import Derived.Test.YtijcoddbkefmlaaLx0
import Derived.Test.YtijcoddbkefmlaaLx8
import Derived.Test.YtijcoddbkefmlaaLx9
namespace Go.Proofs.Ytijcoddbkefmlaa.L
open Go.RowKit Go.Proofs.YtijcoddbkefmlaaW.PrintWords Go.Proofs.YtijcoddbkefmlaaW.PrintLast Go.Proofs.YtijcoddbkefmlaaW.PrintMore
attribute [local go_sem] max2_int min2_int max_two min_two max_three min_three max_four min_four   -- for this text's walks alone
set_option linter.unusedVariables false
set_option linter.unusedSimpArgs false

/-! ### isthmuslaw11_LexAlone: function 6 -/
mutual
def isthmuslaw11_LexAlone.j0 : Nat → ByteArray → ByteArray → Bool → Int → Int → Bool → Option (Bool)
  | 0, _, _, _, _, _, _ => none
  | k + 1, x0, x1, x5, x7, x8, x31 => if x31 = true then (some x5) else (if x8 < 0 then (isthmuslaw11_LexAlone.j1 k x0 x1 x7 x8 true) else (if x8 ≥ (x0.size : Int) then (isthmuslaw11_LexAlone.j1 k x0 x1 x7 x8 true) else (if x7 = 110 then (isthmuslaw11_LexAlone.j1 k x0 x1 x7 x8 false) else (if x7 = 111 then (isthmuslaw11_LexAlone.j1 k x0 x1 x7 x8 false) else (isthmuslaw11_LexAlone.j1 k x0 x1 x7 x8 (x7 != 112))))))
def isthmuslaw11_LexAlone.j1 : Nat → ByteArray → ByteArray → Int → Int → Bool → Option (Bool)
  | 0, _, _, _, _, _ => none
  | k + 1, x0, x1, x7, x8, x52 => if x52 = true then (some false) else (if 0 ≤ x8 then (if x8 ≤ (x0.size : Int) then ((lex_Scan.f k (x0.extract 0 (x8 : Int).toNat)).bind fun bt265 => (if bt265.2.1 = 0 then (if x7 = 110 then (if (x0.size : Int) > (wrap64 (2000 - (x1.size : Int))) then (some true) else (if x8 < (x0.size : Int) then (if (bt x0 x8) = 33 then (some true) else (if 0 ≤ (wrap64 (x8 + 1)) then (if (wrap64 (x8 + 1)) ≤ (x0.size : Int) then (if (x0.extract 0 ((wrap64 (x8 + 1)) : Int).toNat).size + x1.size ≤ 9223372036854775807 then ((lex_Scan.f k ((x0.extract 0 ((wrap64 (x8 + 1)) : Int).toNat) ++ x1)).bind fun bt270 => (if bt270.2.1 = 110 then (some (bt270.2.2 == x8)) else (some false))) else (none)) else (none)) else (none))) else (none))) else (some true)) else (some false))) else (none)) else (none))
end
def isthmuslaw11_LexAlone.f (k : Nat) (a0 : ByteArray) (a1 : ByteArray) : Option (Bool) := (isthmuslaw11_awake.f k).bind fun t259 => ((lex_Scan.f k a0).bind fun bt260 => (if t259 = true then (if bt260.2.1 = 0 then (isthmuslaw11_LexAlone.j0 k a0 a1 t259 bt260.2.1 bt260.2.2 true) else (isthmuslaw11_LexAlone.j0 k a0 a1 t259 bt260.2.1 bt260.2.2 (bt260.2.1 == 113))) else (isthmuslaw11_LexAlone.j0 k a0 a1 t259 bt260.2.1 bt260.2.2 true)))
theorem isthmuslaw11_LexAlone.mono_l : ∀ k, (∀ y0 y1 y2 y3 y4 y5, LeO (isthmuslaw11_LexAlone.j0 k y0 y1 y2 y3 y4 y5) (isthmuslaw11_LexAlone.j0 (k + 1) y0 y1 y2 y3 y4 y5)) ∧ (∀ y0 y1 y2 y3 y4, LeO (isthmuslaw11_LexAlone.j1 k y0 y1 y2 y3 y4) (isthmuslaw11_LexAlone.j1 (k + 1) y0 y1 y2 y3 y4))
  | 0 => ⟨fun _ _ _ _ _ _ r h => by simp [isthmuslaw11_LexAlone.j0] at h, fun _ _ _ _ _ r h => by simp [isthmuslaw11_LexAlone.j1] at h⟩
  | k + 1 => by
    obtain ⟨ih0, ih1⟩ := isthmuslaw11_LexAlone.mono_l k
    refine ⟨?_, ?_⟩
    · intro y0 y1 y2 y3 y4 y5
      unfold isthmuslaw11_LexAlone.j0
      repeat' first
      | (with_reducible exact ih0 _ _ _ _ _ _)
      | (with_reducible exact ih1 _ _ _ _ _)
      | (with_reducible exact isthmuslaw11_awake.mono _)
      | (with_reducible exact lex_Scan.mono _ _)
      | (with_reducible exact LeO.refl _)
      | (with_reducible exact LeO.none _)
      | (with_reducible refine LeO.ite ?_ ?_)
      | (with_reducible refine LeO.bind ?_ (fun _ => ?_))
      | exact ih0 _ _ _ _ _ _
      | exact ih1 _ _ _ _ _
      | exact isthmuslaw11_awake.mono _
      | exact lex_Scan.mono _ _
      | exact LeO.none _
      | refine LeO.ite ?_ ?_
      | refine LeO.bind ?_ (fun _ => ?_)
    · intro y0 y1 y2 y3 y4
      unfold isthmuslaw11_LexAlone.j1
      repeat' first
      | (with_reducible exact ih0 _ _ _ _ _ _)
      | (with_reducible exact ih1 _ _ _ _ _)
      | (with_reducible exact isthmuslaw11_awake.mono _)
      | (with_reducible exact lex_Scan.mono _ _)
      | (with_reducible exact LeO.refl _)
      | (with_reducible exact LeO.none _)
      | (with_reducible refine LeO.ite ?_ ?_)
      | (with_reducible refine LeO.bind ?_ (fun _ => ?_))
      | exact ih0 _ _ _ _ _ _
      | exact ih1 _ _ _ _ _
      | exact isthmuslaw11_awake.mono _
      | exact lex_Scan.mono _ _
      | exact LeO.none _
      | refine LeO.ite ?_ ?_
      | refine LeO.bind ?_ (fun _ => ?_)
theorem isthmuslaw11_LexAlone.mono : ∀ a0 a1 k, LeO (isthmuslaw11_LexAlone.f k a0 a1) (isthmuslaw11_LexAlone.f (k + 1) a0 a1) := by
  intro a0 a1 k
  obtain ⟨ih0, ih1⟩ := isthmuslaw11_LexAlone.mono_l k
  unfold isthmuslaw11_LexAlone.f
  repeat' first
      | (with_reducible exact ih0 _ _ _ _ _ _)
      | (with_reducible exact ih1 _ _ _ _ _)
      | (with_reducible exact isthmuslaw11_awake.mono _)
      | (with_reducible exact lex_Scan.mono _ _)
      | (with_reducible exact LeO.refl _)
      | (with_reducible exact LeO.none _)
      | (with_reducible refine LeO.ite ?_ ?_)
      | (with_reducible refine LeO.bind ?_ (fun _ => ?_))
      | exact ih0 _ _ _ _ _ _
      | exact ih1 _ _ _ _ _
      | exact isthmuslaw11_awake.mono _
      | exact lex_Scan.mono _ _
      | exact LeO.none _
      | refine LeO.ite ?_ ?_
      | refine LeO.bind ?_ (fun _ => ?_)
set_option maxHeartbeats 8000000 in
set_option maxRecDepth 100000 in
theorem isthmuslaw11_LexAlone.calls (k : Nat) (a0 : ByteArray) (a1 : ByteArray) (r : Bool) (w : World) (h : isthmuslaw11_LexAlone.f k a0 a1 = some r) :
  Calls Try.prog 6 #[.string a0, .string a1] w fun e w' => e = .returned (.bool r) ∧ Below w.heap.size w w' := by
 have HB := Aside0.mk (Below.refl w.heap.size w)
 have H : ((isthmuslaw11_awake.f k).bind fun t259 => ((lex_Scan.f k a0).bind fun bt260 => (if t259 = true then (if bt260.2.1 = 0 then (isthmuslaw11_LexAlone.j0 k a0 a1 t259 bt260.2.1 bt260.2.2 true) else (isthmuslaw11_LexAlone.j0 k a0 a1 t259 bt260.2.1 bt260.2.2 (bt260.2.1 == 113))) else (isthmuslaw11_LexAlone.j0 k a0 a1 t259 bt260.2.1 bt260.2.2 true)))) = some r := h
 clear h
 replace H := Option.bind_eq_some_iff.mp H
 obtain ⟨t259, A30, H⟩ := H
 replace H : ((lex_Scan.f k a0).bind fun bt260 => (if t259 = true then (if bt260.2.1 = 0 then (isthmuslaw11_LexAlone.j0 k a0 a1 t259 bt260.2.1 bt260.2.2 true) else (isthmuslaw11_LexAlone.j0 k a0 a1 t259 bt260.2.1 bt260.2.2 (bt260.2.1 == 113))) else (isthmuslaw11_LexAlone.j0 k a0 a1 t259 bt260.2.1 bt260.2.2 true))) = some r := H
 have A3 := Aside0.mk A30
 clear A30
 replace H := Option.bind_eq_some_iff.mp H
 obtain ⟨⟨t260, t263, t264⟩, A40, H⟩ := H
 replace H : (if t259 = true then (if t263 = 0 then (isthmuslaw11_LexAlone.j0 k a0 a1 t259 t263 t264 true) else (isthmuslaw11_LexAlone.j0 k a0 a1 t259 t263 t264 (t263 == 113))) else (isthmuslaw11_LexAlone.j0 k a0 a1 t259 t263 t264 true)) = some r := H
 have A4 := Aside0.mk A40
 clear A40
 have HC5 := Aside0.mk H
 clear H
 go_enter Try.func6, Try.ntmps6
 go_upto_region 3 with (first | ((with_reducible refine gate_callee (f := 9) rfl ?_); refine goesL_ (some 15) rfl rfl Try.func9 (by kernel_rfl) rfl #[] rfl (by (try simp only [List.map_toArray, List.map_cons, List.map_nil]); first | done | rfl | (simp only [List.length_drop, List.length_take]; rfl)) ?_; (with_reducible refine (isthmuslaw11_awake.calls k  t259 _ A3.out).mono ?_); rintro e w6 ⟨rfl, hb⟩; refine ⟨_, rfl, ?_⟩; have n0_ := Aside0.mk (below_step (by repeat (first | (with_reducible first | exact HB.out | apply below_alloc | apply pw_below_drewN | apply below_drew1) | exact HB.out)) hb); clear HB; have HB := n0_; clear n0_; (try clear hb); (try clear hb2); (try clear hk); (try clear hi)) | ((with_reducible refine gate_callee (f := 11) rfl ?_); refine goesL_ (some 18) rfl rfl Try.func11 (by kernel_rfl) rfl #[.string a0] rfl (by (try simp only [List.map_toArray, List.map_cons, List.map_nil]); first | done | rfl | (simp only [List.length_drop, List.length_take]; rfl)) ?_; (with_reducible refine (lex_Scan.calls k a0 t260 t263 t264 _ A4.out).mono ?_); rintro e w7 ⟨v261, rfl, ho0, hb⟩; refine ⟨_, rfl, ?_⟩; have n0_ := Aside0.mk (Kd.V_lower (Kd.V_mono (ok' := fun k_ => True) ho0 (fun k_ hk_ => trivial)) (below_size (by repeat (first | (with_reducible first | exact HB.out | apply below_alloc | apply pw_below_drewN | apply below_drew1) | exact HB.out)))); have n1_ := Aside0.mk (below_step (by repeat (first | (with_reducible first | exact HB.out | apply below_alloc | apply pw_below_drewN | apply below_drew1) | exact HB.out)) hb); clear HB; have HO262 := n0_; have HB := n1_; clear n0_ n1_; (try clear hb); (try clear hb2); (try clear hk); (try clear hi); (try clear ho0)))
 (try simp only [Act.put, List.setIfInBounds_toArray, List.set_cons_zero, List.set_cons_succ])
 go_cut [31] (fun v31 wc => ∃ (kq : Nat) (x31_4 : Bool), v31 = .bool x31_4 ∧ Aside0 (isthmuslaw11_LexAlone.j0 kq a0 a1 t259 t263 t264 x31_4 = some r) ∧ Aside0 (kq ≤ k) ∧ Aside0 (Below w.heap.size w wc))
 case first =>
  have H := HC5.out
  clear HC5
  by_cases c8 : t259 = true
  ·subst c8
   have H1 : (if t263 = 0 then (isthmuslaw11_LexAlone.j0 k a0 a1 true t263 t264 true) else (isthmuslaw11_LexAlone.j0 k a0 a1 true t263 t264 (t263 == 113))) = some r := by rw [if_pos rfl] at H; exact H
   clear H
   have H := H1
   clear H1
   by_cases c9 : t263 = 0
   ·rw [if_pos c9] at H
    have c9b0 : (t263 == 0) = true := beq_iff_eq.mpr c9
    have c9b1 : (t263 != 0) = false := bne_eq_false_iff_eq.mpr c9
    clear c9
    (first | rw [c9b0] | (simp only [i64_w, i32_w]; rw [c9b0]) | skip)
    have H' := Aside0.mk H
    clear H
    go_wp2
    go_meet
    case rel => exact ⟨_, (true), (by first | rfl | (simp; done) | (simp [*]; done)), H', ⟨by first | omega | exact Nat.le_refl _⟩, ⟨by repeat (first | (with_reducible first | exact HB.out | apply below_alloc | apply pw_below_drewN | apply below_drew1) | exact HB.out)⟩⟩
   ·rw [if_neg c9] at H
    have c9b0 : (t263 == 0) = false := beq_eq_false_iff_ne.mpr c9
    have c9b1 : (t263 != 0) = true := bne_iff_ne.mpr c9
    (first | rw [c9b0] | (simp only [i64_w, i32_w]; rw [c9b0]) | skip)
    have H' := Aside0.mk H
    clear H
    go_wp2
    go_meet
    case rel => exact ⟨_, ((t263 == 113)), (by first | rfl | (simp; done) | (simp [*]; done)), H', ⟨by first | omega | exact Nat.le_refl _⟩, ⟨by repeat (first | (with_reducible first | exact HB.out | apply below_alloc | apply pw_below_drewN | apply below_drew1) | exact HB.out)⟩⟩
  ·replace c8 := Bool.eq_false_iff.mpr c8
   subst c8
   have H1 : (isthmuslaw11_LexAlone.j0 k a0 a1 false t263 t264 true) = some r := by rw [if_neg (show ¬ (false = true) by decide)] at H; exact H
   clear H
   have H := H1
   clear H1
   have H' := Aside0.mk H
   clear H
   go_wp2
   go_meet
   case rel => exact ⟨_, (true), (by first | rfl | (simp; done) | (simp [*]; done)), H', ⟨by first | omega | exact Nat.le_refl _⟩, ⟨by repeat (first | (with_reducible first | exact HB.out | apply below_alloc | apply pw_below_drewN | apply below_drew1) | exact HB.out)⟩⟩
 case rest =>
  clear HC5
  try clear c1
  try clear p2
  try clear c6
  try clear c8
  try clear c9
  try clear c9b0
  try clear c9b1
  obtain ⟨kq, x31_4, rfl, HA, HJ4, HB⟩ := hcut
  cases kq with
  | zero => exact absurd HA.out (by simp [isthmuslaw11_LexAlone.j0])
  | succ kj4 =>
   have H := HA.out
   clear HA
   simp only [isthmuslaw11_LexAlone.j0] at H
   by_cases c10 : x31_4 = true
   ·subst c10
    have H1 : (some t259) = some r := by rw [if_pos rfl] at H; exact H
    clear H
    have H := H1
    clear H1
    obtain rfl := Option.some.inj H
    go_wp2
    go_ret
    exact ⟨by first | rfl | (simp [errW_none, errW_some] <;> rfl) | (simp [*, errW_none, errW_some] <;> rfl), by repeat (first | (with_reducible first | exact HB.out | apply below_alloc | apply pw_below_drewN | apply below_drew1) | exact HB.out)⟩
   ·replace c10 := Bool.eq_false_iff.mpr c10
    subst c10
    have H1 : (if t264 < 0 then (isthmuslaw11_LexAlone.j1 kj4 a0 a1 t263 t264 true) else (if t264 ≥ (a0.size : Int) then (isthmuslaw11_LexAlone.j1 kj4 a0 a1 t263 t264 true) else (if t263 = 110 then (isthmuslaw11_LexAlone.j1 kj4 a0 a1 t263 t264 false) else (if t263 = 111 then (isthmuslaw11_LexAlone.j1 kj4 a0 a1 t263 t264 false) else (isthmuslaw11_LexAlone.j1 kj4 a0 a1 t263 t264 (t263 != 112)))))) = some r := by rw [if_neg (show ¬ (false = true) by decide)] at H; exact H
    clear H
    have H := H1
    clear H1
    have HC11 := Aside0.mk H
    clear H
    go_upto_region 5 with (fail)
    go_cut [52] (fun v52 wc => ∃ (kq : Nat) (x52_10 : Bool), v52 = .bool x52_10 ∧ Aside0 (isthmuslaw11_LexAlone.j1 kq a0 a1 t263 t264 x52_10 = some r) ∧ Aside0 (kq ≤ kj4) ∧ Aside0 (Below w.heap.size w wc))
    case first =>
     have H := HC11.out
     clear HC11
     by_cases c12 : t264 < 0
     ·rw [if_pos c12] at H
      have c12b0 : decide (t264 < 0) = true := decide_eq_true c12
      clear c12
      (first | rw [c12b0] | (simp only [i64_w, i32_w]; rw [c12b0]) | skip)
      have H' := Aside0.mk H
      clear H
      go_wp2
      go_meet
      case rel => exact ⟨_, (true), (by first | rfl | (simp; done) | (simp [*]; done)), H', ⟨by have := HJ4.out; first | omega | exact Nat.le_refl _⟩, ⟨by repeat (first | (with_reducible first | exact HB.out | apply below_alloc | apply pw_below_drewN | apply below_drew1) | exact HB.out)⟩⟩
     ·rw [if_neg c12] at H
      have c12b0 : decide (t264 < 0) = false := decide_eq_false c12
      clear c12
      (first | rw [c12b0] | (simp only [i64_w, i32_w]; rw [c12b0]) | skip)
      by_cases c13 : t264 ≥ (a0.size : Int)
      ·rw [if_pos c13] at H
       have c13b0 : decide ((a0.size : Int) ≤ t264) = true := decide_eq_true c13
       clear c13
       have H' := Aside0.mk H
       clear H
       go_wp2
       go_meet
       case rel => exact ⟨_, (true), (by first | rfl | (simp; done) | (simp [*]; done)), H', ⟨by have := HJ4.out; first | omega | exact Nat.le_refl _⟩, ⟨by repeat (first | (with_reducible first | exact HB.out | apply below_alloc | apply pw_below_drewN | apply below_drew1) | exact HB.out)⟩⟩
      ·rw [if_neg c13] at H
       have c13b0 : decide ((a0.size : Int) ≤ t264) = false := decide_eq_false c13
       clear c13
       by_cases c14 : t263 = 110
       ·rw [if_pos c14] at H
        have c14b0 : (t263 == 110) = true := beq_iff_eq.mpr c14
        have c14b1 : (t263 != 110) = false := bne_eq_false_iff_eq.mpr c14
        clear c14
        have H' := Aside0.mk H
        clear H
        go_wp2
        go_meet
        case rel => exact ⟨_, (false), (by first | rfl | (simp; done) | (simp [*]; done)), H', ⟨by have := HJ4.out; first | omega | exact Nat.le_refl _⟩, ⟨by repeat (first | (with_reducible first | exact HB.out | apply below_alloc | apply pw_below_drewN | apply below_drew1) | exact HB.out)⟩⟩
       ·rw [if_neg c14] at H
        have c14b0 : (t263 == 110) = false := beq_eq_false_iff_ne.mpr c14
        have c14b1 : (t263 != 110) = true := bne_iff_ne.mpr c14
        by_cases c15 : t263 = 111
        ·rw [if_pos c15] at H
         have c15b0 : (t263 == 111) = true := beq_iff_eq.mpr c15
         have c15b1 : (t263 != 111) = false := bne_eq_false_iff_eq.mpr c15
         clear c15
         have H' := Aside0.mk H
         clear H
         go_wp2
         go_meet
         case rel => exact ⟨_, (false), (by first | rfl | (simp; done) | (simp [*]; done)), H', ⟨by have := HJ4.out; first | omega | exact Nat.le_refl _⟩, ⟨by repeat (first | (with_reducible first | exact HB.out | apply below_alloc | apply pw_below_drewN | apply below_drew1) | exact HB.out)⟩⟩
        ·rw [if_neg c15] at H
         have c15b0 : (t263 == 111) = false := beq_eq_false_iff_ne.mpr c15
         have c15b1 : (t263 != 111) = true := bne_iff_ne.mpr c15
         have H' := Aside0.mk H
         clear H
         go_wp2
         go_meet
         case rel => exact ⟨_, ((t263 != 112)), (by first | rfl | (simp; done) | (simp [*]; done)), H', ⟨by have := HJ4.out; first | omega | exact Nat.le_refl _⟩, ⟨by repeat (first | (with_reducible first | exact HB.out | apply below_alloc | apply pw_below_drewN | apply below_drew1) | exact HB.out)⟩⟩
    case rest =>
     clear HC11
     try clear c1
     try clear p2
     try clear c6
     try clear c8
     try clear c9
     try clear c9b0
     try clear c9b1
     try clear c10
     try clear c11
     try clear c12
     try clear c12b0
     try clear c13
     try clear c13b0
     try clear c14
     try clear c14b0
     try clear c14b1
     try clear c15
     try clear c15b0
     try clear c15b1
     try clear p2
     obtain ⟨kq, x52_10, rfl, HA, HJ10, HB⟩ := hcut
     cases kq with
     | zero => exact absurd HA.out (by simp [isthmuslaw11_LexAlone.j1])
     | succ kj10 =>
      have H := HA.out
      clear HA
      simp only [isthmuslaw11_LexAlone.j1] at H
      by_cases c16 : x52_10 = true
      ·subst c16
       have H1 : (some false) = some r := by rw [if_pos rfl] at H; exact H
       clear H
       have H := H1
       clear H1
       obtain rfl := Option.some.inj H
       go_wp2
       go_ret
       exact ⟨by first | rfl | (simp [errW_none, errW_some] <;> rfl) | (simp [*, errW_none, errW_some] <;> rfl), by repeat (first | (with_reducible first | exact HB.out | apply below_alloc | apply pw_below_drewN | apply below_drew1) | exact HB.out)⟩
      ·replace c16 := Bool.eq_false_iff.mpr c16
       subst c16
       have H1 : (if 0 ≤ t264 then (if t264 ≤ (a0.size : Int) then ((lex_Scan.f kj10 (a0.extract 0 (t264 : Int).toNat)).bind fun bt265 => (if bt265.2.1 = 0 then (if t263 = 110 then (if (a0.size : Int) > (wrap64 (2000 - (a1.size : Int))) then (some true) else (if t264 < (a0.size : Int) then (if (bt a0 t264) = 33 then (some true) else (if 0 ≤ (wrap64 (t264 + 1)) then (if (wrap64 (t264 + 1)) ≤ (a0.size : Int) then (if (a0.extract 0 ((wrap64 (t264 + 1)) : Int).toNat).size + a1.size ≤ 9223372036854775807 then ((lex_Scan.f kj10 ((a0.extract 0 ((wrap64 (t264 + 1)) : Int).toNat) ++ a1)).bind fun bt270 => (if bt270.2.1 = 110 then (some (bt270.2.2 == t264)) else (some false))) else (none)) else (none)) else (none))) else (none))) else (some true)) else (some false))) else (none)) else (none)) = some r := by rw [if_neg (show ¬ (false = true) by decide)] at H; exact H
       clear H
       have H := H1
       clear H1
       by_cases c17 : 0 ≤ t264
       ·rw [if_pos c17] at H
        have c17b0 := eq_true c17
        have c17b1 : decide (0 ≤ t264) = true := decide_eq_true c17
        clear c17
        by_cases c18 : t264 ≤ (a0.size : Int)
        ·rw [if_pos c18] at H
         have c18b0 := eq_true c18
         have c18b1 : decide (t264 ≤ (a0.size : Int)) = true := decide_eq_true c18
         clear c18
         replace H := Option.bind_eq_some_iff.mp H
         obtain ⟨⟨t265, t268, t269⟩, A190, H⟩ := H
         replace H : (if t268 = 0 then (if t263 = 110 then (if (a0.size : Int) > (wrap64 (2000 - (a1.size : Int))) then (some true) else (if t264 < (a0.size : Int) then (if (bt a0 t264) = 33 then (some true) else (if 0 ≤ (wrap64 (t264 + 1)) then (if (wrap64 (t264 + 1)) ≤ (a0.size : Int) then (if (a0.extract 0 ((wrap64 (t264 + 1)) : Int).toNat).size + a1.size ≤ 9223372036854775807 then ((lex_Scan.f kj10 ((a0.extract 0 ((wrap64 (t264 + 1)) : Int).toNat) ++ a1)).bind fun bt270 => (if bt270.2.1 = 110 then (some (bt270.2.2 == t264)) else (some false))) else (none)) else (none)) else (none))) else (none))) else (some true)) else (some false)) = some r := H
         have A19 := Aside0.mk A190
         clear A190
         by_cases c20 : t268 = 0
         ·rw [if_pos c20] at H
          have c20b0 : (t268 == 0) = true := beq_iff_eq.mpr c20
          have c20b1 : (t268 != 0) = false := bne_eq_false_iff_eq.mpr c20
          clear c20
          by_cases c21 : t263 = 110
          ·rw [if_pos c21] at H
           have c21b0 : (t263 == 110) = true := beq_iff_eq.mpr c21
           have c21b1 : (t263 != 110) = false := bne_eq_false_iff_eq.mpr c21
           clear c21
           by_cases c22 : (a0.size : Int) > (wrap64 (2000 - (a1.size : Int)))
           ·rw [if_pos c22] at H
            have c22b0 : decide ((wrap64 (2000 - (a1.size : Int))) < (a0.size : Int)) = true := decide_eq_true c22
            clear c22
            obtain rfl := Option.some.inj H
            go_wp2_with (first | ((with_reducible refine gate_callee (f := 11) rfl ?_); refine goesL_ (some 57) rfl rfl Try.func11 (by kernel_rfl) rfl #[.string (a0.extract 0 (t264 : Int).toNat)] rfl (by (try simp only [List.map_toArray, List.map_cons, List.map_nil]); first | done | rfl | (simp only [List.length_drop, List.length_take]; rfl)) ?_; (with_reducible refine (lex_Scan.calls kj10 (a0.extract 0 (t264 : Int).toNat) t265 t268 t269 _ A19.out).mono ?_); rintro e w23 ⟨v266, rfl, ho0, hb⟩; refine ⟨_, rfl, ?_⟩; have n0_ := Aside0.mk (Kd.V_lower (Kd.V_mono (ok' := fun k_ => True) ho0 (fun k_ hk_ => trivial)) (below_size (by repeat (first | (with_reducible first | exact HB.out | apply below_alloc | apply pw_below_drewN | apply below_drew1) | exact HB.out)))); have n1_ := Aside0.mk (below_step (by repeat (first | (with_reducible first | exact HB.out | apply below_alloc | apply pw_below_drewN | apply below_drew1) | exact HB.out)) hb); clear HB; have HO267 := n0_; have HB := n1_; clear n0_ n1_; (try clear hb); (try clear hb2); (try clear hk); (try clear hi); (try clear ho0)))
            go_ret
            exact ⟨by first | rfl | (simp [errW_none, errW_some] <;> rfl) | (simp [*, errW_none, errW_some] <;> rfl), by repeat (first | (with_reducible first | exact HB.out | apply below_alloc | apply pw_below_drewN | apply below_drew1) | exact HB.out)⟩
           ·rw [if_neg c22] at H
            have c22b0 : decide ((wrap64 (2000 - (a1.size : Int))) < (a0.size : Int)) = false := decide_eq_false c22
            clear c22
            by_cases c24 : t264 < (a0.size : Int)
            ·rw [if_pos c24] at H
             have c24b0 : decide (t264 < (a0.size : Int)) = true := decide_eq_true c24
             clear c24
             by_cases c26 : (bt a0 t264) = 33
             ·rw [if_pos c26] at H
              have c26b0 : ((bt a0 t264) == 33) = true := beq_iff_eq.mpr c26
              have c26b1 : ((bt a0 t264) != 33) = false := bne_eq_false_iff_eq.mpr c26
              clear c26
              obtain rfl := Option.some.inj H
              go_wp2_with (first | ((with_reducible refine gate_callee (f := 11) rfl ?_); refine goesL_ (some 57) rfl rfl Try.func11 (by kernel_rfl) rfl #[.string (a0.extract 0 (t264 : Int).toNat)] rfl (by (try simp only [List.map_toArray, List.map_cons, List.map_nil]); first | done | rfl | (simp only [List.length_drop, List.length_take]; rfl)) ?_; (with_reducible refine (lex_Scan.calls kj10 (a0.extract 0 (t264 : Int).toNat) t265 t268 t269 _ A19.out).mono ?_); rintro e w27 ⟨v266, rfl, ho0, hb⟩; refine ⟨_, rfl, ?_⟩; have n0_ := Aside0.mk (Kd.V_lower (Kd.V_mono (ok' := fun k_ => True) ho0 (fun k_ hk_ => trivial)) (below_size (by repeat (first | (with_reducible first | exact HB.out | apply below_alloc | apply pw_below_drewN | apply below_drew1) | exact HB.out)))); have n1_ := Aside0.mk (below_step (by repeat (first | (with_reducible first | exact HB.out | apply below_alloc | apply pw_below_drewN | apply below_drew1) | exact HB.out)) hb); clear HB; have HO267 := n0_; have HB := n1_; clear n0_ n1_; (try clear hb); (try clear hb2); (try clear hk); (try clear hi); (try clear ho0); have p25 : 0 ≤ (t264 : Int) := of_decide_eq_true (by first | (with_reducible assumption) | assumption); have q25 : t264 < (a0.size : Int) := of_decide_eq_true (by first | (with_reducible assumption) | assumption); have hx25 := bt_at a0 t264; replace p25 := eq_true p25; replace q25 := eq_true q25))
              go_ret
              exact ⟨by first | rfl | (simp [errW_none, errW_some] <;> rfl) | (simp [*, errW_none, errW_some] <;> rfl), by repeat (first | (with_reducible first | exact HB.out | apply below_alloc | apply pw_below_drewN | apply below_drew1) | exact HB.out)⟩
             ·rw [if_neg c26] at H
              have c26b0 : ((bt a0 t264) == 33) = false := beq_eq_false_iff_ne.mpr c26
              have c26b1 : ((bt a0 t264) != 33) = true := bne_iff_ne.mpr c26
              obtain ⟨ji28, hji28⟩ : ∃ j_ : Int, (wrap64 (t264 + 1)) = j_ := ⟨_, rfl⟩
              replace H : (if 0 ≤ (ji28) then (if (ji28) ≤ (a0.size : Int) then (if (a0.extract 0 ((ji28) : Int).toNat).size + a1.size ≤ 9223372036854775807 then ((lex_Scan.f kj10 ((a0.extract 0 ((ji28) : Int).toNat) ++ a1)).bind fun bt270 => (if bt270.2.1 = 110 then (some (bt270.2.2 == t264)) else (some false))) else (none)) else (none)) else (none)) = some r := by first | (rw [hji28] at H; exact H) | (simp only [hji28] at H ⊢; exact H)
              (try rw [hji28] at A19)
              have hji28w : (IntKind.i64.wrap (t264 + 1)) = ji28 := (i64_w _).trans hji28
              by_cases c29 : 0 ≤ (ji28)
              ·rw [if_pos c29] at H
               have c29b0 := eq_true c29
               have c29b1 : decide (0 ≤ (ji28)) = true := decide_eq_true c29
               clear c29
               by_cases c30 : (ji28) ≤ (a0.size : Int)
               ·rw [if_pos c30] at H
                have c30b0 := eq_true c30
                have c30b1 : decide ((ji28) ≤ (a0.size : Int)) = true := decide_eq_true c30
                clear c30
                by_cases c31 : (a0.extract 0 ((ji28) : Int).toNat).size + a1.size ≤ 9223372036854775807
                ·rw [if_pos c31] at H
                 have c31b0 := eq_true c31
                 have c31b1 : decide ((a0.extract 0 ((ji28) : Int).toNat).size + a1.size ≤ 9223372036854775807) = true := decide_eq_true c31
                 try have c31b2 : (9223372036854775807 < (a0.extract 0 ((ji28) : Int).toNat).size + a1.size) = False := eq_false (Nat.not_lt.2 c31)
                 have c22b7 : decide (2000 - (a1.size : Int) < (a0.size : Int)) = false := by have h1_ := of_decide_eq_true c31b1; have hw_ : ∀ n : Int, -9223372036854775808 ≤ n → n < 9223372036854775808 → wrap64 n = n := (fun n h0 h1 => by unfold wrap64; omega); have h2_ := c22b0; rw [hw_ _ (by omega) (by omega)] at h2_; exact h2_
                 replace H := Option.bind_eq_some_iff.mp H
                 obtain ⟨⟨t270, t273, t274⟩, A320, H⟩ := H
                 replace H : (if t273 = 110 then (some (t274 == t264)) else (some false)) = some r := H
                 have A32 := Aside0.mk A320
                 clear A320
                 by_cases c33 : t273 = 110
                 ·rw [if_pos c33] at H
                  have c33b0 : (t273 == 110) = true := beq_iff_eq.mpr c33
                  have c33b1 : (t273 != 110) = false := bne_eq_false_iff_eq.mpr c33
                  clear c33
                  obtain rfl := Option.some.inj H
                  go_wp2_with (first | ((with_reducible refine gate_callee (f := 11) rfl ?_); refine goesL_ (some 57) rfl rfl Try.func11 (by kernel_rfl) rfl #[.string (a0.extract 0 (t264 : Int).toNat)] rfl (by (try simp only [List.map_toArray, List.map_cons, List.map_nil]); first | done | rfl | (simp only [List.length_drop, List.length_take]; rfl)) ?_; (with_reducible refine (lex_Scan.calls kj10 (a0.extract 0 (t264 : Int).toNat) t265 t268 t269 _ A19.out).mono ?_); rintro e w34 ⟨v266, rfl, ho0, hb⟩; refine ⟨_, rfl, ?_⟩; have n0_ := Aside0.mk (Kd.V_lower (Kd.V_mono (ok' := fun k_ => True) ho0 (fun k_ hk_ => trivial)) (below_size (by repeat (first | (with_reducible first | exact HB.out | apply below_alloc | apply pw_below_drewN | apply below_drew1) | exact HB.out)))); have n1_ := Aside0.mk (below_step (by repeat (first | (with_reducible first | exact HB.out | apply below_alloc | apply pw_below_drewN | apply below_drew1) | exact HB.out)) hb); clear HB; have HO267 := n0_; have HB := n1_; clear n0_ n1_; (try clear hb); (try clear hb2); (try clear hk); (try clear hi); (try clear ho0); have p25 : 0 ≤ (t264 : Int) := of_decide_eq_true (by first | (with_reducible assumption) | assumption); have q25 : t264 < (a0.size : Int) := of_decide_eq_true (by first | (with_reducible assumption) | assumption); have hx25 := bt_at a0 t264; replace p25 := eq_true p25; replace q25 := eq_true q25) | ((with_reducible refine gate_callee (f := 11) rfl ?_); refine goesL_ (some 86) rfl rfl Try.func11 (by kernel_rfl) rfl #[.string ((a0.extract 0 ((ji28) : Int).toNat) ++ a1)] rfl (by (try simp only [List.map_toArray, List.map_cons, List.map_nil]); first | done | (simp only [hji28]; rfl) | rfl | (simp only [List.length_drop, List.length_take]; rfl)) ?_; (with_reducible refine (lex_Scan.calls kj10 ((a0.extract 0 ((ji28) : Int).toNat) ++ a1) t270 t273 t274 _ A32.out).mono ?_); rintro e w35 ⟨v271, rfl, ho0, hb⟩; refine ⟨_, rfl, ?_⟩; have n0_ := Aside0.mk (Kd.V_below (by (with_reducible repeat (first | apply Kd.V_alloc | apply Kd.V_drewN | apply Kd.V_drew)); exact HO267.out) hb); have n1_ := Aside0.mk (Kd.V_lower (Kd.V_mono (ok' := fun k_ => True) ho0 (fun k_ hk_ => trivial)) (below_size (by repeat (first | (with_reducible first | exact HB.out | apply below_alloc | apply pw_below_drewN | apply below_drew1) | exact HB.out)))); have n2_ := Aside0.mk (below_step (by repeat (first | (with_reducible first | exact HB.out | apply below_alloc | apply pw_below_drewN | apply below_drew1) | exact HB.out)) hb); clear HO267; clear HB; have HO267 := n0_; have HO272 := n1_; have HB := n2_; clear n0_ n1_ n2_; (try clear hb); (try clear hb2); (try clear hk); (try clear hi); (try clear ho0)))
                  go_ret
                  exact ⟨by first | rfl | (simp [errW_none, errW_some] <;> rfl) | (simp only [← hji28]; first | rfl | (simp [errW_none, errW_some] <;> rfl)) | (simp [*, errW_none, errW_some] <;> rfl), by repeat (first | (with_reducible first | exact HB.out | apply below_alloc | apply pw_below_drewN | apply below_drew1) | exact HB.out)⟩
                 ·rw [if_neg c33] at H
                  have c33b0 : (t273 == 110) = false := beq_eq_false_iff_ne.mpr c33
                  have c33b1 : (t273 != 110) = true := bne_iff_ne.mpr c33
                  obtain rfl := Option.some.inj H
                  go_wp2_with (first | ((with_reducible refine gate_callee (f := 11) rfl ?_); refine goesL_ (some 57) rfl rfl Try.func11 (by kernel_rfl) rfl #[.string (a0.extract 0 (t264 : Int).toNat)] rfl (by (try simp only [List.map_toArray, List.map_cons, List.map_nil]); first | done | rfl | (simp only [List.length_drop, List.length_take]; rfl)) ?_; (with_reducible refine (lex_Scan.calls kj10 (a0.extract 0 (t264 : Int).toNat) t265 t268 t269 _ A19.out).mono ?_); rintro e w36 ⟨v266, rfl, ho0, hb⟩; refine ⟨_, rfl, ?_⟩; have n0_ := Aside0.mk (Kd.V_lower (Kd.V_mono (ok' := fun k_ => True) ho0 (fun k_ hk_ => trivial)) (below_size (by repeat (first | (with_reducible first | exact HB.out | apply below_alloc | apply pw_below_drewN | apply below_drew1) | exact HB.out)))); have n1_ := Aside0.mk (below_step (by repeat (first | (with_reducible first | exact HB.out | apply below_alloc | apply pw_below_drewN | apply below_drew1) | exact HB.out)) hb); clear HB; have HO267 := n0_; have HB := n1_; clear n0_ n1_; (try clear hb); (try clear hb2); (try clear hk); (try clear hi); (try clear ho0); have p25 : 0 ≤ (t264 : Int) := of_decide_eq_true (by first | (with_reducible assumption) | assumption); have q25 : t264 < (a0.size : Int) := of_decide_eq_true (by first | (with_reducible assumption) | assumption); have hx25 := bt_at a0 t264; replace p25 := eq_true p25; replace q25 := eq_true q25) | ((with_reducible refine gate_callee (f := 11) rfl ?_); refine goesL_ (some 86) rfl rfl Try.func11 (by kernel_rfl) rfl #[.string ((a0.extract 0 ((ji28) : Int).toNat) ++ a1)] rfl (by (try simp only [List.map_toArray, List.map_cons, List.map_nil]); first | done | (simp only [hji28]; rfl) | rfl | (simp only [List.length_drop, List.length_take]; rfl)) ?_; (with_reducible refine (lex_Scan.calls kj10 ((a0.extract 0 ((ji28) : Int).toNat) ++ a1) t270 t273 t274 _ A32.out).mono ?_); rintro e w37 ⟨v271, rfl, ho0, hb⟩; refine ⟨_, rfl, ?_⟩; have n0_ := Aside0.mk (Kd.V_below (by (with_reducible repeat (first | apply Kd.V_alloc | apply Kd.V_drewN | apply Kd.V_drew)); exact HO267.out) hb); have n1_ := Aside0.mk (Kd.V_lower (Kd.V_mono (ok' := fun k_ => True) ho0 (fun k_ hk_ => trivial)) (below_size (by repeat (first | (with_reducible first | exact HB.out | apply below_alloc | apply pw_below_drewN | apply below_drew1) | exact HB.out)))); have n2_ := Aside0.mk (below_step (by repeat (first | (with_reducible first | exact HB.out | apply below_alloc | apply pw_below_drewN | apply below_drew1) | exact HB.out)) hb); clear HO267; clear HB; have HO267 := n0_; have HO272 := n1_; have HB := n2_; clear n0_ n1_ n2_; (try clear hb); (try clear hb2); (try clear hk); (try clear hi); (try clear ho0)))
                  go_ret
                  exact ⟨by first | rfl | (simp [errW_none, errW_some] <;> rfl) | (simp only [← hji28]; first | rfl | (simp [errW_none, errW_some] <;> rfl)) | (simp [*, errW_none, errW_some] <;> rfl), by repeat (first | (with_reducible first | exact HB.out | apply below_alloc | apply pw_below_drewN | apply below_drew1) | exact HB.out)⟩
                ·rw [if_neg c31] at H
                 exact absurd H (by simp)
               ·rw [if_neg c30] at H
                exact absurd H (by simp)
              ·rw [if_neg c29] at H
               exact absurd H (by simp)
            ·rw [if_neg c24] at H
             exact absurd H (by simp)
          ·rw [if_neg c21] at H
           have c21b0 : (t263 == 110) = false := beq_eq_false_iff_ne.mpr c21
           have c21b1 : (t263 != 110) = true := bne_iff_ne.mpr c21
           obtain rfl := Option.some.inj H
           go_wp2_with (first | ((with_reducible refine gate_callee (f := 11) rfl ?_); refine goesL_ (some 57) rfl rfl Try.func11 (by kernel_rfl) rfl #[.string (a0.extract 0 (t264 : Int).toNat)] rfl (by (try simp only [List.map_toArray, List.map_cons, List.map_nil]); first | done | rfl | (simp only [List.length_drop, List.length_take]; rfl)) ?_; (with_reducible refine (lex_Scan.calls kj10 (a0.extract 0 (t264 : Int).toNat) t265 t268 t269 _ A19.out).mono ?_); rintro e w38 ⟨v266, rfl, ho0, hb⟩; refine ⟨_, rfl, ?_⟩; have n0_ := Aside0.mk (Kd.V_lower (Kd.V_mono (ok' := fun k_ => True) ho0 (fun k_ hk_ => trivial)) (below_size (by repeat (first | (with_reducible first | exact HB.out | apply below_alloc | apply pw_below_drewN | apply below_drew1) | exact HB.out)))); have n1_ := Aside0.mk (below_step (by repeat (first | (with_reducible first | exact HB.out | apply below_alloc | apply pw_below_drewN | apply below_drew1) | exact HB.out)) hb); clear HB; have HO267 := n0_; have HB := n1_; clear n0_ n1_; (try clear hb); (try clear hb2); (try clear hk); (try clear hi); (try clear ho0)))
           go_ret
           exact ⟨by first | rfl | (simp [errW_none, errW_some] <;> rfl) | (simp [*, errW_none, errW_some] <;> rfl), by repeat (first | (with_reducible first | exact HB.out | apply below_alloc | apply pw_below_drewN | apply below_drew1) | exact HB.out)⟩
         ·rw [if_neg c20] at H
          have c20b0 : (t268 == 0) = false := beq_eq_false_iff_ne.mpr c20
          have c20b1 : (t268 != 0) = true := bne_iff_ne.mpr c20
          obtain rfl := Option.some.inj H
          go_wp2_with (first | ((with_reducible refine gate_callee (f := 11) rfl ?_); refine goesL_ (some 57) rfl rfl Try.func11 (by kernel_rfl) rfl #[.string (a0.extract 0 (t264 : Int).toNat)] rfl (by (try simp only [List.map_toArray, List.map_cons, List.map_nil]); first | done | rfl | (simp only [List.length_drop, List.length_take]; rfl)) ?_; (with_reducible refine (lex_Scan.calls kj10 (a0.extract 0 (t264 : Int).toNat) t265 t268 t269 _ A19.out).mono ?_); rintro e w39 ⟨v266, rfl, ho0, hb⟩; refine ⟨_, rfl, ?_⟩; have n0_ := Aside0.mk (Kd.V_lower (Kd.V_mono (ok' := fun k_ => True) ho0 (fun k_ hk_ => trivial)) (below_size (by repeat (first | (with_reducible first | exact HB.out | apply below_alloc | apply pw_below_drewN | apply below_drew1) | exact HB.out)))); have n1_ := Aside0.mk (below_step (by repeat (first | (with_reducible first | exact HB.out | apply below_alloc | apply pw_below_drewN | apply below_drew1) | exact HB.out)) hb); clear HB; have HO267 := n0_; have HB := n1_; clear n0_ n1_; (try clear hb); (try clear hb2); (try clear hk); (try clear hi); (try clear ho0)))
          go_ret
          exact ⟨by first | rfl | (simp [errW_none, errW_some] <;> rfl) | (simp [*, errW_none, errW_some] <;> rfl), by repeat (first | (with_reducible first | exact HB.out | apply below_alloc | apply pw_below_drewN | apply below_drew1) | exact HB.out)⟩
        ·rw [if_neg c18] at H
         exact absurd H (by simp)
       ·rw [if_neg c17] at H
        exact absurd H (by simp)

/-- THE ONE PURE STATEMENT of isthmuslaw11_LexAlone: yours. -/
def isthmuslaw11_LexAlone.Pure : Prop := ∀ (a0 : ByteArray) (a1 : ByteArray), a0.size ≤ 140737488351232 → a1.size ≤ 140737488351232 → ∃ k, isthmuslaw11_LexAlone.f k a0 a1 = some true
theorem isthmuslaw11_LexAlone.walk (P : isthmuslaw11_LexAlone.Pure) (a0 : ByteArray) (a1 : ByteArray) (w : World) (w0 : a0.size ≤ 140737488351232) (w1 : a1.size ≤ 140737488351232) :
    Calls Try.prog 6 #[.string a0, .string a1] w fun e w' => e = .returned (.bool true) ∧ Below w.heap.size w w' := by
  obtain ⟨k, h⟩ := P a0 a1 w0 w1
  refine (isthmuslaw11_LexAlone.calls k a0 a1 true w h).mono ?_
  rintro e w' ⟨rfl, hd⟩
  exact ⟨rfl, hd⟩

end Go.Proofs.Ytijcoddbkefmlaa.L
