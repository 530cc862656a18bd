-- Laid by a program (wip/tools/gprint.py over the kit's printer) out of the translation. Lean checks it.
import Derived.Test.YtijcoddbkefmlaaLx0
import Derived.Test.YtijcoddbkefmlaaLx9
import Derived.Test.YtijcoddbkefmlaaLx10
namespace Go.Proofs.Ytijcoddbkefmlaa.L
open Go.RowKit Go.Proofs.YtijcoddbkefmlaaW.PrintWords Go.Proofs.YtijcoddbkefmlaaW.PrintLast Go.Proofs.YtijcoddbkefmlaaW.PrintMore
attribute [local go_sem] max2_int min2_int max_two min_two max_three min_three max_four min_four   -- for this text's walks alone
set_option linter.unusedVariables false
set_option linter.unusedSimpArgs false

/-! ### isthmusref11_ends: function 26 -/
mutual
def isthmusref11_ends.l0 : Nat → ByteArray → Int → Option (Int)
  | 0, _, _ => none
  | k + 1, x0, x1 => if x1 < (x0.size : Int) then (if 0 ≤ x1 then ((isthmusref11_digit.f (bt x0 x1)).bind fun t168 => (if t168 = true then (isthmusref11_ends.l0 k x0 (wrap64 (x1 + 1))) else (some x1))) else (none)) else (some x1)
def isthmusref11_ends.l1 : Nat → ByteArray → Int → Option (Int)
  | 0, _, _ => none
  | k + 1, x0, x1 => if x1 < (x0.size : Int) then (if 0 ≤ x1 then ((isthmusref11_small.f (bt x0 x1)).bind fun t169 => (if t169 = true then (isthmusref11_ends.l1 k x0 (wrap64 (x1 + 1))) else ((isthmusref11_great.f (bt x0 x1)).bind fun t170 => (if t170 = true then (isthmusref11_ends.l1 k x0 (wrap64 (x1 + 1))) else ((isthmusref11_digit.f (bt x0 x1)).bind fun t171 => (if t171 = true then (isthmusref11_ends.l1 k x0 (wrap64 (x1 + 1))) else (if (bt x0 x1) = 95 then (isthmusref11_ends.l1 k x0 (wrap64 (x1 + 1))) else (some x1)))))))) else (none)) else (some x1)
end
def isthmusref11_ends.f (k : Nat) (a0 : ByteArray) (a1 : Int) : Option (Int) := if 0 ≤ a1 then (if a1 < (a0.size : Int) then ((isthmusref11_digit.f (bt a0 a1)).bind fun t167 => (if t167 = true then (isthmusref11_ends.l0 k a0 a1) else (isthmusref11_ends.l1 k a0 a1))) else (none)) else (none)
theorem isthmusref11_ends.mono_l : ∀ k, (∀ y0 y1, LeO (isthmusref11_ends.l0 k y0 y1) (isthmusref11_ends.l0 (k + 1) y0 y1)) ∧ (∀ y0 y1, LeO (isthmusref11_ends.l1 k y0 y1) (isthmusref11_ends.l1 (k + 1) y0 y1))
  | 0 => ⟨fun _ _ r h => by simp [isthmusref11_ends.l0] at h, fun _ _ r h => by simp [isthmusref11_ends.l1] at h⟩
  | k + 1 => by
    obtain ⟨ih0, ih1⟩ := isthmusref11_ends.mono_l k
    refine ⟨?_, ?_⟩
    · intro y0 y1
      unfold isthmusref11_ends.l0
      repeat' first
      | (with_reducible exact ih0 _ _)
      | (with_reducible exact ih1 _ _)
      | (with_reducible exact LeO.refl _)
      | (with_reducible exact LeO.none _)
      | (with_reducible refine LeO.ite ?_ ?_)
      | (with_reducible refine LeO.bind ?_ (fun _ => ?_))
      | exact ih0 _ _
      | exact ih1 _ _
      | exact LeO.none _
      | refine LeO.ite ?_ ?_
      | refine LeO.bind ?_ (fun _ => ?_)
    · intro y0 y1
      unfold isthmusref11_ends.l1
      repeat' first
      | (with_reducible exact ih0 _ _)
      | (with_reducible exact ih1 _ _)
      | (with_reducible exact LeO.refl _)
      | (with_reducible exact LeO.none _)
      | (with_reducible refine LeO.ite ?_ ?_)
      | (with_reducible refine LeO.bind ?_ (fun _ => ?_))
      | exact ih0 _ _
      | exact ih1 _ _
      | exact LeO.none _
      | refine LeO.ite ?_ ?_
      | refine LeO.bind ?_ (fun _ => ?_)
theorem isthmusref11_ends.mono : ∀ a0 a1 k, LeO (isthmusref11_ends.f k a0 a1) (isthmusref11_ends.f (k + 1) a0 a1) := by
  intro a0 a1 k
  obtain ⟨ih0, ih1⟩ := isthmusref11_ends.mono_l k
  unfold isthmusref11_ends.f
  repeat' first
      | (with_reducible exact ih0 _ _)
      | (with_reducible exact ih1 _ _)
      | (with_reducible exact LeO.refl _)
      | (with_reducible exact LeO.none _)
      | (with_reducible refine LeO.ite ?_ ?_)
      | (with_reducible refine LeO.bind ?_ (fun _ => ?_))
      | exact ih0 _ _
      | exact ih1 _ _
      | exact LeO.none _
      | refine LeO.ite ?_ ?_
      | refine LeO.bind ?_ (fun _ => ?_)
set_option maxHeartbeats 8000000 in
set_option maxRecDepth 100000 in
theorem isthmusref11_ends.calls (k : Nat) (a0 : ByteArray) (a1 : Int) (r : Int) (w : World) (h : isthmusref11_ends.f k a0 a1 = some r) :
  Calls Try.prog 26 #[.string a0, .int .i64 a1] w fun e w' => e = .returned (.int .i64 r) ∧ Drawn0 w w' := by
 have H : (if 0 ≤ a1 then (if a1 < (a0.size : Int) then ((isthmusref11_digit.f (bt a0 a1)).bind fun t167 => (if t167 = true then (isthmusref11_ends.l0 k a0 a1) else (isthmusref11_ends.l1 k a0 a1))) else (none)) else (none)) = some r := h
 clear h
 by_cases c3 : 0 ≤ a1
 ·rw [if_pos c3] at H
  have c3b0 : decide (0 ≤ a1) = true := decide_eq_true c3
  clear c3
  by_cases c4 : a1 < (a0.size : Int)
  ·rw [if_pos c4] at H
   have c4b0 : decide (a1 < (a0.size : Int)) = true := decide_eq_true c4
   clear c4
   replace H := Option.bind_eq_some_iff.mp H
   obtain ⟨t167, A60, H⟩ := H
   replace H : (if t167 = true then (isthmusref11_ends.l0 k a0 a1) else (isthmusref11_ends.l1 k a0 a1)) = some r := H
   have A6 := Aside0.mk A60
   clear A60
   by_cases c7 : t167 = true
   ·subst c7
    have H1 : (isthmusref11_ends.l0 k a0 a1) = some r := by rw [if_pos rfl] at H; exact H
    clear H
    have H := H1
    clear H1
    have H' := Aside0.mk H
    clear H
    have p5 : 0 ≤ (a1 : Int) := of_decide_eq_true (by first | (with_reducible assumption) | assumption)
    have q5 : a1 < (a0.size : Int) := of_decide_eq_true (by first | (with_reducible assumption) | assumption)
    have hx5 := bt_at a0 a1
    replace p5 := eq_true p5
    replace q5 := eq_true q5
    go_enter Try.func26, Try.ntmps26
    go_wp2_with (first | ((with_reducible refine gate_callee (f := 24) rfl ?_); refine goesL_ (some 8) rfl rfl Try.func24 (by kernel_rfl) rfl #[.int .u8 (bt a0 a1)] rfl (by (try simp only [List.map_toArray, List.map_cons, List.map_nil]); first | done | rfl | (simp only [List.length_drop, List.length_take]; rfl)) ?_; (with_reducible refine (isthmusref11_digit.calls (bt a0 a1) true _ A6.out).mono ?_); rintro e w' ⟨rfl, ⟨nd, rfl⟩⟩; refine ⟨_, rfl, ?_⟩))
    (try simp only [Act.put, List.setIfInBounds_toArray, List.set_cons_zero, List.set_cons_succ])
    go_loopg [1] k (fun kq v1 w' => ∃ (x1_1 : Int), v1 = .int .i64 x1_1 ∧ Aside0 (isthmusref11_ends.l0 kq a0 x1_1 = some r) ∧ Aside0 (kq ≤ k) ∧ Drawn0 w w')
    case atStart => exact ⟨(a1), (by first | rfl | (simp; done) | (simp [*]; done)), H', ⟨Nat.le_refl _⟩, by repeat (first | exact Drawn0.refl _ | apply Drawn0.step)⟩
    case round =>
     clear H'
     try clear c2
     try clear p2
     try clear c3
     try clear c3b0
     try clear c4
     try clear c4b0
     try clear p5
     try clear q5
     try clear hx5
     try clear c7
     try clear p5
     try clear q5
     obtain ⟨x1_1, rfl, HA, HK1, ⟨m1, rfl⟩⟩ := hrel
     cases gk with
     | zero => exact absurd HA.out (by simp [isthmusref11_ends.l0])
     | succ k1 =>
      have H := HA.out
      clear HA
      simp only [isthmusref11_ends.l0] at H
      by_cases c8 : x1_1 < (a0.size : Int)
      ·rw [if_pos c8] at H
       have c8b0 : decide (x1_1 < (a0.size : Int)) = true := decide_eq_true c8
       clear c8
       by_cases c9 : 0 ≤ x1_1
       ·rw [if_pos c9] at H
        have c9b0 : decide (0 ≤ x1_1) = true := decide_eq_true c9
        clear c9
        replace H := Option.bind_eq_some_iff.mp H
        obtain ⟨t168, A110, H⟩ := H
        replace H : (if t168 = true then (isthmusref11_ends.l0 k1 a0 (wrap64 (x1_1 + 1))) else (some x1_1)) = some r := H
        have A11 := Aside0.mk A110
        clear A110
        by_cases c12 : t168 = true
        ·subst c12
         have H1 : (isthmusref11_ends.l0 k1 a0 (wrap64 (x1_1 + 1))) = some r := by rw [if_pos rfl] at H; exact H
         clear H
         have H := H1
         clear H1
         have H' := Aside0.mk H
         clear H
         have p10 : 0 ≤ (x1_1 : Int) := of_decide_eq_true (by first | (with_reducible assumption) | assumption)
         have q10 : x1_1 < (a0.size : Int) := of_decide_eq_true (by first | (with_reducible assumption) | assumption)
         have hx10 := bt_at a0 x1_1
         replace p10 := eq_true p10
         replace q10 := eq_true q10
         go_wp2_with (first | (go_at_call 24; (with_reducible refine (isthmusref11_digit.calls (bt a0 x1_1) true _ A11.out).mono ?_); rintro e w' ⟨rfl, ⟨nd, rfl⟩⟩))
         go_roundg k1
         case measure => have := HK1.out; omega
         case rel => exact ⟨(wrap64 (x1_1 + 1)), (by first | rfl | (simp; done) | (simp [*]; done)), H', ⟨by have := HK1.out; omega⟩, by repeat (first | exact Drawn0.refl _ | apply Drawn0.step)⟩
        ·replace c12 := Bool.eq_false_iff.mpr c12
         subst c12
         have H1 : (some x1_1) = some r := by rw [if_neg (show ¬ (false = true) by decide)] at H; exact H
         clear H
         have H := H1
         clear H1
         obtain rfl := Option.some.inj H
         have p10 : 0 ≤ (x1_1 : Int) := of_decide_eq_true (by first | (with_reducible assumption) | assumption)
         have q10 : x1_1 < (a0.size : Int) := of_decide_eq_true (by first | (with_reducible assumption) | assumption)
         have hx10 := bt_at a0 x1_1
         replace p10 := eq_true p10
         replace q10 := eq_true q10
         go_wp2_with (first | (go_at_call 24; (with_reducible refine (isthmusref11_digit.calls (bt a0 x1_1) false _ A11.out).mono ?_); rintro e w' ⟨rfl, ⟨nd, rfl⟩⟩))
         go_ret
         exact ⟨by first | rfl | (simp; done) | (simp [*]; done), by repeat (first | exact Drawn0.refl _ | apply Drawn0.step)⟩
       ·rw [if_neg c9] at H
        exact absurd H (by simp)
      ·rw [if_neg c8] at H
       have c8b0 : decide (x1_1 < (a0.size : Int)) = false := decide_eq_false c8
       clear c8
       obtain rfl := Option.some.inj H
       go_wp2
       go_ret
       exact ⟨by first | rfl | (simp; done) | (simp [*]; done), by repeat (first | exact Drawn0.refl _ | apply Drawn0.step)⟩
   ·replace c7 := Bool.eq_false_iff.mpr c7
    subst c7
    have H1 : (isthmusref11_ends.l1 k a0 a1) = some r := by rw [if_neg (show ¬ (false = true) by decide)] at H; exact H
    clear H
    have H := H1
    clear H1
    have H' := Aside0.mk H
    clear H
    have p5 : 0 ≤ (a1 : Int) := of_decide_eq_true (by first | (with_reducible assumption) | assumption)
    have q5 : a1 < (a0.size : Int) := of_decide_eq_true (by first | (with_reducible assumption) | assumption)
    have hx5 := bt_at a0 a1
    replace p5 := eq_true p5
    replace q5 := eq_true q5
    go_enter Try.func26, Try.ntmps26
    go_wp2_with (first | ((with_reducible refine gate_callee (f := 24) rfl ?_); refine goesL_ (some 8) rfl rfl Try.func24 (by kernel_rfl) rfl #[.int .u8 (bt a0 a1)] rfl (by (try simp only [List.map_toArray, List.map_cons, List.map_nil]); first | done | rfl | (simp only [List.length_drop, List.length_take]; rfl)) ?_; (with_reducible refine (isthmusref11_digit.calls (bt a0 a1) false _ A6.out).mono ?_); rintro e w' ⟨rfl, ⟨nd, rfl⟩⟩; refine ⟨_, rfl, ?_⟩))
    (try simp only [Act.put, List.setIfInBounds_toArray, List.set_cons_zero, List.set_cons_succ])
    go_loopg [1] k (fun kq v1 w' => ∃ (x1_1 : Int), v1 = .int .i64 x1_1 ∧ Aside0 (isthmusref11_ends.l1 kq a0 x1_1 = some r) ∧ Aside0 (kq ≤ k) ∧ Drawn0 w w')
    case atStart => exact ⟨(a1), (by first | rfl | (simp; done) | (simp [*]; done)), H', ⟨Nat.le_refl _⟩, by repeat (first | exact Drawn0.refl _ | apply Drawn0.step)⟩
    case round =>
     clear H'
     try clear c1
     try clear p1
     try clear q1
     try clear hx1
     try clear c2
     try clear p2
     try clear c3
     try clear c3b0
     try clear c4
     try clear c4b0
     try clear p5
     try clear q5
     try clear hx5
     try clear p6
     try clear c7
     try clear c8
     try clear c8b0
     try clear c9
     try clear c9b0
     try clear p10
     try clear q10
     try clear hx10
     try clear c12
     try clear p10
     try clear p2
     try clear p5
     try clear q10
     try clear q5
     obtain ⟨x1_1, rfl, HA, HK1, ⟨m1, rfl⟩⟩ := hrel
     cases gk with
     | zero => exact absurd HA.out (by simp [isthmusref11_ends.l1])
     | succ k1 =>
      have H := HA.out
      clear HA
      simp only [isthmusref11_ends.l1] at H
      by_cases c13 : x1_1 < (a0.size : Int)
      ·rw [if_pos c13] at H
       have c13b0 : decide (x1_1 < (a0.size : Int)) = true := decide_eq_true c13
       clear c13
       by_cases c14 : 0 ≤ x1_1
       ·rw [if_pos c14] at H
        have c14b0 : decide (0 ≤ x1_1) = true := decide_eq_true c14
        clear c14
        replace H := Option.bind_eq_some_iff.mp H
        obtain ⟨t169, A160, H⟩ := H
        replace H : (if t169 = true then (isthmusref11_ends.l1 k1 a0 (wrap64 (x1_1 + 1))) else ((isthmusref11_great.f (bt a0 x1_1)).bind fun t170 => (if t170 = true then (isthmusref11_ends.l1 k1 a0 (wrap64 (x1_1 + 1))) else ((isthmusref11_digit.f (bt a0 x1_1)).bind fun t171 => (if t171 = true then (isthmusref11_ends.l1 k1 a0 (wrap64 (x1_1 + 1))) else (if (bt a0 x1_1) = 95 then (isthmusref11_ends.l1 k1 a0 (wrap64 (x1_1 + 1))) else (some x1_1))))))) = some r := H
        have A16 := Aside0.mk A160
        clear A160
        by_cases c17 : t169 = true
        ·subst c17
         have H1 : (isthmusref11_ends.l1 k1 a0 (wrap64 (x1_1 + 1))) = some r := by rw [if_pos rfl] at H; exact H
         clear H
         have H := H1
         clear H1
         have H' := Aside0.mk H
         clear H
         have p15 : 0 ≤ (x1_1 : Int) := of_decide_eq_true (by first | (with_reducible assumption) | assumption)
         have q15 : x1_1 < (a0.size : Int) := of_decide_eq_true (by first | (with_reducible assumption) | assumption)
         have hx15 := bt_at a0 x1_1
         replace p15 := eq_true p15
         replace q15 := eq_true q15
         go_wp2_with (first | (go_at_call 23; (with_reducible refine (isthmusref11_small.calls (bt a0 x1_1) true _ A16.out).mono ?_); rintro e w' ⟨rfl, ⟨nd, rfl⟩⟩))
         go_roundg k1
         case measure => have := HK1.out; omega
         case rel => exact ⟨(wrap64 (x1_1 + 1)), (by first | rfl | (simp; done) | (simp [*]; done)), H', ⟨by have := HK1.out; omega⟩, by repeat (first | exact Drawn0.refl _ | apply Drawn0.step)⟩
        ·replace c17 := Bool.eq_false_iff.mpr c17
         subst c17
         have H1 : ((isthmusref11_great.f (bt a0 x1_1)).bind fun t170 => (if t170 = true then (isthmusref11_ends.l1 k1 a0 (wrap64 (x1_1 + 1))) else ((isthmusref11_digit.f (bt a0 x1_1)).bind fun t171 => (if t171 = true then (isthmusref11_ends.l1 k1 a0 (wrap64 (x1_1 + 1))) else (if (bt a0 x1_1) = 95 then (isthmusref11_ends.l1 k1 a0 (wrap64 (x1_1 + 1))) else (some x1_1)))))) = some r := by rw [if_neg (show ¬ (false = true) by decide)] at H; exact H
         clear H
         have H := H1
         clear H1
         replace H := Option.bind_eq_some_iff.mp H
         obtain ⟨t170, A190, H⟩ := H
         replace H : (if t170 = true then (isthmusref11_ends.l1 k1 a0 (wrap64 (x1_1 + 1))) else ((isthmusref11_digit.f (bt a0 x1_1)).bind fun t171 => (if t171 = true then (isthmusref11_ends.l1 k1 a0 (wrap64 (x1_1 + 1))) else (if (bt a0 x1_1) = 95 then (isthmusref11_ends.l1 k1 a0 (wrap64 (x1_1 + 1))) else (some x1_1))))) = some r := H
         have A19 := Aside0.mk A190
         clear A190
         by_cases c20 : t170 = true
         ·subst c20
          have H1 : (isthmusref11_ends.l1 k1 a0 (wrap64 (x1_1 + 1))) = some r := by rw [if_pos rfl] at H; exact H
          clear H
          have H := H1
          clear H1
          have H' := Aside0.mk H
          clear H
          have p15 : 0 ≤ (x1_1 : Int) := of_decide_eq_true (by first | (with_reducible assumption) | assumption)
          have q15 : x1_1 < (a0.size : Int) := of_decide_eq_true (by first | (with_reducible assumption) | assumption)
          have hx15 := bt_at a0 x1_1
          replace p15 := eq_true p15
          replace q15 := eq_true q15
          go_wp2_with (first | (go_at_call 23; (with_reducible refine (isthmusref11_small.calls (bt a0 x1_1) false _ A16.out).mono ?_); rintro e w' ⟨rfl, ⟨nd, rfl⟩⟩; have p18 : 0 ≤ (x1_1 : Int) := of_decide_eq_true (by first | (with_reducible assumption) | assumption); have q18 : x1_1 < (a0.size : Int) := of_decide_eq_true (by first | (with_reducible assumption) | assumption); have hx18 := bt_at a0 x1_1; replace p18 := eq_true p18; replace q18 := eq_true q18) | (go_at_call 28; (with_reducible refine (isthmusref11_great.calls (bt a0 x1_1) true _ A19.out).mono ?_); rintro e w' ⟨rfl, ⟨nd, rfl⟩⟩))
          go_roundg k1
          case measure => have := HK1.out; omega
          case rel => exact ⟨(wrap64 (x1_1 + 1)), (by first | rfl | (simp; done) | (simp [*]; done)), H', ⟨by have := HK1.out; omega⟩, by repeat (first | exact Drawn0.refl _ | apply Drawn0.step)⟩
         ·replace c20 := Bool.eq_false_iff.mpr c20
          subst c20
          have H1 : ((isthmusref11_digit.f (bt a0 x1_1)).bind fun t171 => (if t171 = true then (isthmusref11_ends.l1 k1 a0 (wrap64 (x1_1 + 1))) else (if (bt a0 x1_1) = 95 then (isthmusref11_ends.l1 k1 a0 (wrap64 (x1_1 + 1))) else (some x1_1)))) = some r := by rw [if_neg (show ¬ (false = true) by decide)] at H; exact H
          clear H
          have H := H1
          clear H1
          replace H := Option.bind_eq_some_iff.mp H
          obtain ⟨t171, A220, H⟩ := H
          replace H : (if t171 = true then (isthmusref11_ends.l1 k1 a0 (wrap64 (x1_1 + 1))) else (if (bt a0 x1_1) = 95 then (isthmusref11_ends.l1 k1 a0 (wrap64 (x1_1 + 1))) else (some x1_1))) = some r := H
          have A22 := Aside0.mk A220
          clear A220
          by_cases c23 : t171 = true
          ·subst c23
           have H1 : (isthmusref11_ends.l1 k1 a0 (wrap64 (x1_1 + 1))) = some r := by rw [if_pos rfl] at H; exact H
           clear H
           have H := H1
           clear H1
           have H' := Aside0.mk H
           clear H
           have p15 : 0 ≤ (x1_1 : Int) := of_decide_eq_true (by first | (with_reducible assumption) | assumption)
           have q15 : x1_1 < (a0.size : Int) := of_decide_eq_true (by first | (with_reducible assumption) | assumption)
           have hx15 := bt_at a0 x1_1
           replace p15 := eq_true p15
           replace q15 := eq_true q15
           go_wp2_with (first | (go_at_call 23; (with_reducible refine (isthmusref11_small.calls (bt a0 x1_1) false _ A16.out).mono ?_); rintro e w' ⟨rfl, ⟨nd, rfl⟩⟩; have p18 : 0 ≤ (x1_1 : Int) := of_decide_eq_true (by first | (with_reducible assumption) | assumption); have q18 : x1_1 < (a0.size : Int) := of_decide_eq_true (by first | (with_reducible assumption) | assumption); have hx18 := bt_at a0 x1_1; replace p18 := eq_true p18; replace q18 := eq_true q18) | (go_at_call 28; (with_reducible refine (isthmusref11_great.calls (bt a0 x1_1) false _ A19.out).mono ?_); rintro e w' ⟨rfl, ⟨nd, rfl⟩⟩; have p21 : 0 ≤ (x1_1 : Int) := of_decide_eq_true (by first | (with_reducible assumption) | assumption); have q21 : x1_1 < (a0.size : Int) := of_decide_eq_true (by first | (with_reducible assumption) | assumption); have hx21 := bt_at a0 x1_1; replace p21 := eq_true p21; replace q21 := eq_true q21) | (go_at_call 24; (with_reducible refine (isthmusref11_digit.calls (bt a0 x1_1) true _ A22.out).mono ?_); rintro e w' ⟨rfl, ⟨nd, rfl⟩⟩))
           go_roundg k1
           case measure => have := HK1.out; omega
           case rel => exact ⟨(wrap64 (x1_1 + 1)), (by first | rfl | (simp; done) | (simp [*]; done)), H', ⟨by have := HK1.out; omega⟩, by repeat (first | exact Drawn0.refl _ | apply Drawn0.step)⟩
          ·replace c23 := Bool.eq_false_iff.mpr c23
           subst c23
           have H1 : (if (bt a0 x1_1) = 95 then (isthmusref11_ends.l1 k1 a0 (wrap64 (x1_1 + 1))) else (some x1_1)) = some r := by rw [if_neg (show ¬ (false = true) by decide)] at H; exact H
           clear H
           have H := H1
           clear H1
           by_cases c25 : (bt a0 x1_1) = 95
           ·rw [if_pos c25] at H
            have c25b0 : ((bt a0 x1_1) == 95) = true := beq_iff_eq.mpr c25
            have c25b1 : ((bt a0 x1_1) != 95) = false := bne_eq_false_iff_eq.mpr c25
            clear c25
            have H' := Aside0.mk H
            clear H
            have p15 : 0 ≤ (x1_1 : Int) := of_decide_eq_true (by first | (with_reducible assumption) | assumption)
            have q15 : x1_1 < (a0.size : Int) := of_decide_eq_true (by first | (with_reducible assumption) | assumption)
            have hx15 := bt_at a0 x1_1
            replace p15 := eq_true p15
            replace q15 := eq_true q15
            go_wp2_with (first | (go_at_call 23; (with_reducible refine (isthmusref11_small.calls (bt a0 x1_1) false _ A16.out).mono ?_); rintro e w' ⟨rfl, ⟨nd, rfl⟩⟩; have p18 : 0 ≤ (x1_1 : Int) := of_decide_eq_true (by first | (with_reducible assumption) | assumption); have q18 : x1_1 < (a0.size : Int) := of_decide_eq_true (by first | (with_reducible assumption) | assumption); have hx18 := bt_at a0 x1_1; replace p18 := eq_true p18; replace q18 := eq_true q18) | (go_at_call 28; (with_reducible refine (isthmusref11_great.calls (bt a0 x1_1) false _ A19.out).mono ?_); rintro e w' ⟨rfl, ⟨nd, rfl⟩⟩; have p21 : 0 ≤ (x1_1 : Int) := of_decide_eq_true (by first | (with_reducible assumption) | assumption); have q21 : x1_1 < (a0.size : Int) := of_decide_eq_true (by first | (with_reducible assumption) | assumption); have hx21 := bt_at a0 x1_1; replace p21 := eq_true p21; replace q21 := eq_true q21) | (go_at_call 24; (with_reducible refine (isthmusref11_digit.calls (bt a0 x1_1) false _ A22.out).mono ?_); rintro e w' ⟨rfl, ⟨nd, rfl⟩⟩; have p24 : 0 ≤ (x1_1 : Int) := of_decide_eq_true (by first | (with_reducible assumption) | assumption); have q24 : x1_1 < (a0.size : Int) := of_decide_eq_true (by first | (with_reducible assumption) | assumption); have hx24 := bt_at a0 x1_1; replace p24 := eq_true p24; replace q24 := eq_true q24))
            go_roundg k1
            case measure => have := HK1.out; omega
            case rel => exact ⟨(wrap64 (x1_1 + 1)), (by first | rfl | (simp; done) | (simp [*]; done)), H', ⟨by have := HK1.out; omega⟩, by repeat (first | exact Drawn0.refl _ | apply Drawn0.step)⟩
           ·rw [if_neg c25] at H
            have c25b0 : ((bt a0 x1_1) == 95) = false := beq_eq_false_iff_ne.mpr c25
            have c25b1 : ((bt a0 x1_1) != 95) = true := bne_iff_ne.mpr c25
            obtain rfl := Option.some.inj H
            have p15 : 0 ≤ (x1_1 : Int) := of_decide_eq_true (by first | (with_reducible assumption) | assumption)
            have q15 : x1_1 < (a0.size : Int) := of_decide_eq_true (by first | (with_reducible assumption) | assumption)
            have hx15 := bt_at a0 x1_1
            replace p15 := eq_true p15
            replace q15 := eq_true q15
            go_wp2_with (first | (go_at_call 23; (with_reducible refine (isthmusref11_small.calls (bt a0 x1_1) false _ A16.out).mono ?_); rintro e w' ⟨rfl, ⟨nd, rfl⟩⟩; have p18 : 0 ≤ (x1_1 : Int) := of_decide_eq_true (by first | (with_reducible assumption) | assumption); have q18 : x1_1 < (a0.size : Int) := of_decide_eq_true (by first | (with_reducible assumption) | assumption); have hx18 := bt_at a0 x1_1; replace p18 := eq_true p18; replace q18 := eq_true q18) | (go_at_call 28; (with_reducible refine (isthmusref11_great.calls (bt a0 x1_1) false _ A19.out).mono ?_); rintro e w' ⟨rfl, ⟨nd, rfl⟩⟩; have p21 : 0 ≤ (x1_1 : Int) := of_decide_eq_true (by first | (with_reducible assumption) | assumption); have q21 : x1_1 < (a0.size : Int) := of_decide_eq_true (by first | (with_reducible assumption) | assumption); have hx21 := bt_at a0 x1_1; replace p21 := eq_true p21; replace q21 := eq_true q21) | (go_at_call 24; (with_reducible refine (isthmusref11_digit.calls (bt a0 x1_1) false _ A22.out).mono ?_); rintro e w' ⟨rfl, ⟨nd, rfl⟩⟩; have p24 : 0 ≤ (x1_1 : Int) := of_decide_eq_true (by first | (with_reducible assumption) | assumption); have q24 : x1_1 < (a0.size : Int) := of_decide_eq_true (by first | (with_reducible assumption) | assumption); have hx24 := bt_at a0 x1_1; replace p24 := eq_true p24; replace q24 := eq_true q24))
            go_ret
            exact ⟨by first | rfl | (simp; done) | (simp [*]; done), by repeat (first | exact Drawn0.refl _ | apply Drawn0.step)⟩
       ·rw [if_neg c14] at H
        exact absurd H (by simp)
      ·rw [if_neg c13] at H
       have c13b0 : decide (x1_1 < (a0.size : Int)) = false := decide_eq_false c13
       clear c13
       obtain rfl := Option.some.inj H
       go_wp2
       go_ret
       exact ⟨by first | rfl | (simp; done) | (simp [*]; done), by repeat (first | exact Drawn0.refl _ | apply Drawn0.step)⟩
  ·rw [if_neg c4] at H
   exact absurd H (by simp)
 ·rw [if_neg c3] at H
  exact absurd H (by simp)

end Go.Proofs.Ytijcoddbkefmlaa.L
