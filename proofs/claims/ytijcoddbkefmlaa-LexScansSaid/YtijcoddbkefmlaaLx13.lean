-- Laid by a program (wip/tools/gprint.py over the kit's printer) out of the translation. Lean checks it.
import Derived.Test.YtijcoddbkefmlaaLx0
namespace Go.Proofs.Ytijcoddbkefmlaa.L
open Go.RowKit Go.Proofs.YtijcoddbkefmlaaW.PrintWords Go.Proofs.YtijcoddbkefmlaaW.PrintLast Go.Proofs.YtijcoddbkefmlaaW.PrintMore
attribute [local go_sem] max2_int min2_int max_two min_two max_three min_three max_four min_four   -- for this text's walks alone
set_option linter.unusedVariables false
set_option linter.unusedSimpArgs false

/-! ### isthmusref11_sign: function 29 -/
mutual
def isthmusref11_sign.j0 : Nat → ByteArray → Bool → Option (ByteArray)
  | 0, _, _ => none
  | k + 1, x0, x17 => if x17 = true then (if 0 ≤ 2 then (if 2 ≤ (x0.size : Int) then (some (x0.extract 0 2)) else (none)) else (none)) else (isthmusref11_sign.l0 k x0 (⟨#[40, 41, 123, 125, 44, 58, 64, 43, 45, 42, 47, 37, 61, 60]⟩ : ByteArray) 0)
def isthmusref11_sign.l0 : Nat → ByteArray → ByteArray → Int → Option (ByteArray)
  | 0, _, _, _ => none
  | k + 1, x0, x3, x4 => if x4 < (x3.size : Int) then (if 0 ≤ x4 then (if 0 < (x0.size : Int) then (if (bt x3 x4) = (bt x0 0) then (if 0 ≤ 1 then (if 1 ≤ (x0.size : Int) then (some (x0.extract 0 1)) else (none)) else (none)) else (isthmusref11_sign.l0 k x0 x3 (wrap64 (x4 + 1)))) else (none)) else (none)) else (some (⟨#[]⟩ : ByteArray))
end
def isthmusref11_sign.f (k : Nat) (a0 : ByteArray) : Option (ByteArray) := if (a0.size : Int) > 1 then (if 0 ≤ 2 then (if 2 ≤ (a0.size : Int) then (if (a0.extract 0 2).toList = ([33, 61] : List UInt8) then (isthmusref11_sign.j0 k a0 true) else (isthmusref11_sign.j0 k a0 ((a0.extract 0 2).toList == ([60, 61] : List UInt8)))) else (none)) else (none)) else (isthmusref11_sign.j0 k a0 false)
theorem isthmusref11_sign.mono_l : ∀ k, (∀ y0 y1, LeO (isthmusref11_sign.j0 k y0 y1) (isthmusref11_sign.j0 (k + 1) y0 y1)) ∧ (∀ y0 y1 y2, LeO (isthmusref11_sign.l0 k y0 y1 y2) (isthmusref11_sign.l0 (k + 1) y0 y1 y2))
  | 0 => ⟨fun _ _ r h => by simp [isthmusref11_sign.j0] at h, fun _ _ _ r h => by simp [isthmusref11_sign.l0] at h⟩
  | k + 1 => by
    obtain ⟨ih0, ih1⟩ := isthmusref11_sign.mono_l k
    refine ⟨?_, ?_⟩
    · intro y0 y1
      unfold isthmusref11_sign.j0
      repeat' first
      | (with_reducible exact ih0 _ _)
      | (with_reducible exact ih1 _ _ _)
      | (with_reducible exact LeO.refl _)
      | (with_reducible exact LeO.none _)
      | (with_reducible refine LeO.ite ?_ ?_)
      | (with_reducible refine LeO.bind ?_ (fun _ => ?_))
      | exact ih0 _ _
      | exact ih1 _ _ _
      | exact LeO.none _
      | refine LeO.ite ?_ ?_
      | refine LeO.bind ?_ (fun _ => ?_)
    · intro y0 y1 y2
      unfold isthmusref11_sign.l0
      repeat' first
      | (with_reducible exact ih0 _ _)
      | (with_reducible exact ih1 _ _ _)
      | (with_reducible exact LeO.refl _)
      | (with_reducible exact LeO.none _)
      | (with_reducible refine LeO.ite ?_ ?_)
      | (with_reducible refine LeO.bind ?_ (fun _ => ?_))
      | exact ih0 _ _
      | exact ih1 _ _ _
      | exact LeO.none _
      | refine LeO.ite ?_ ?_
      | refine LeO.bind ?_ (fun _ => ?_)
theorem isthmusref11_sign.mono : ∀ a0 k, LeO (isthmusref11_sign.f k a0) (isthmusref11_sign.f (k + 1) a0) := by
  intro a0 k
  obtain ⟨ih0, ih1⟩ := isthmusref11_sign.mono_l k
  unfold isthmusref11_sign.f
  repeat' first
      | (with_reducible exact ih0 _ _)
      | (with_reducible exact ih1 _ _ _)
      | (with_reducible exact LeO.refl _)
      | (with_reducible exact LeO.none _)
      | (with_reducible refine LeO.ite ?_ ?_)
      | (with_reducible refine LeO.bind ?_ (fun _ => ?_))
      | exact ih0 _ _
      | exact ih1 _ _ _
      | exact LeO.none _
      | refine LeO.ite ?_ ?_
      | refine LeO.bind ?_ (fun _ => ?_)
set_option maxHeartbeats 8000000 in
set_option maxRecDepth 100000 in
theorem isthmusref11_sign.calls (k : Nat) (a0 : ByteArray) (r : ByteArray) (w : World) (h : isthmusref11_sign.f k a0 = some r) :
    Calls Try.prog 29 #[.string a0] w fun e w' => e = .returned (.string r) ∧ Drawn0 w w' := by
  have H : (if (a0.size : Int) > 1 then (if 0 ≤ 2 then (if 2 ≤ (a0.size : Int) then (if (a0.extract 0 2).toList = ([33, 61] : List UInt8) then (isthmusref11_sign.j0 k a0 true) else (isthmusref11_sign.j0 k a0 ((a0.extract 0 2).toList == ([60, 61] : List UInt8)))) else (none)) else (none)) else (isthmusref11_sign.j0 k a0 false)) = some r := h
  clear h
  have HC2 := Aside0.mk H
  clear H
  go_enter Try.func29, Try.ntmps29
  go_upto_region 1 with (fail)
  repeat (go_quiet (fail); go_upto_region 1 with (fail))
  go_cut [17] (fun v17 wc => ∃ (kq : Nat) (x17_1 : Bool), v17 = .bool x17_1 ∧ Aside0 (isthmusref11_sign.j0 kq a0 x17_1 = some r) ∧ Aside0 (kq ≤ k) ∧ Drawn0 w wc)
  case first =>
    have H := HC2.out
    clear HC2
    by_cases c3 : (a0.size : Int) > 1
    · rw [if_pos c3] at H
      have c3b0 : decide (1 < (a0.size : Int)) = true := decide_eq_true c3
      have c3b1 : decide (1 < a0.size) = true := decide_eq_true (by omega)
      clear c3
      (first | rw [c3b0] | (simp only [i64_w, i32_w]; rw [c3b0]) | skip)
      by_cases c4 : 0 ≤ 2
      · rw [if_pos c4] at H
        have c4b0 := eq_true c4
        have c4b1 : decide (0 ≤ 2) = true := decide_eq_true c4
        clear c4
        by_cases c5 : 2 ≤ (a0.size : Int)
        · rw [if_pos c5] at H
          have c5b0 := eq_true c5
          have c5b1 : decide (2 ≤ (a0.size : Int)) = true := decide_eq_true c5
          clear c5
          by_cases c6 : (a0.extract 0 2).toList = ([33, 61] : List UInt8)
          · rw [if_pos c6] at H
            have c6b0 : ((a0.extract 0 2).toList == ([33, 61] : List UInt8)) = true := beq_iff_eq.mpr c6
            have c6b1 : ((a0.extract 0 2).toList != ([33, 61] : List UInt8)) = false := bne_eq_false_iff_eq.mpr c6
            clear c6
            have H' := Aside0.mk H
            clear H
            go_wp2
            repeat (go_quiet (fail); try go_wp2)
            go_meet
            case rel => exact ⟨_, (true), (by first | rfl | (simp; done) | (simp [*]; done)), H', ⟨by first | omega | exact Nat.le_refl _⟩, by repeat (first | exact Drawn0.refl _ | apply Drawn0.step)⟩
          · rw [if_neg c6] at H
            have c6b0 : ((a0.extract 0 2).toList == ([33, 61] : List UInt8)) = false := beq_eq_false_iff_ne.mpr c6
            have c6b1 : ((a0.extract 0 2).toList != ([33, 61] : List UInt8)) = true := bne_iff_ne.mpr c6
            have c7b0 := eq_true (of_decide_eq_true (by first | (with_reducible assumption) | assumption) : 0 ≤ 2)
            have c8b0 := eq_true (of_decide_eq_true (by first | (with_reducible assumption) | assumption) : 2 ≤ (a0.size : Int))
            have H' := Aside0.mk H
            clear H
            go_wp2
            repeat (go_quiet (fail); try go_wp2)
            go_meet
            case rel => exact ⟨_, (((a0.extract 0 2).toList == ([60, 61] : List UInt8))), (by first | rfl | (simp; done) | (simp [*]; done)), H', ⟨by first | omega | exact Nat.le_refl _⟩, by repeat (first | exact Drawn0.refl _ | apply Drawn0.step)⟩
        · rw [if_neg c5] at H
          exact absurd H (by simp)
      · rw [if_neg c4] at H
        exact absurd H (by simp)
    · rw [if_neg c3] at H
      have c3b0 : decide (1 < (a0.size : Int)) = false := decide_eq_false c3
      have c3b1 : decide (1 < a0.size) = false := decide_eq_false (by omega)
      clear c3
      (first | rw [c3b0] | (simp only [i64_w, i32_w]; rw [c3b0]) | skip)
      have H' := Aside0.mk H
      clear H
      go_wp2
      repeat (go_quiet (fail); try go_wp2)
      go_meet
      case rel => exact ⟨_, (false), (by first | rfl | (simp; done) | (simp [*]; done)), H', ⟨by first | omega | exact Nat.le_refl _⟩, by repeat (first | exact Drawn0.refl _ | apply Drawn0.step)⟩
  case rest =>
    clear HC2
    try clear c2
    try clear p2
    try clear c3
    try clear c3b0
    try clear c3b1
    try clear c4
    try clear c4b0
    try clear c4b1
    try clear c5
    try clear c5b0
    try clear c5b1
    try clear c6
    try clear c6b0
    try clear c6b1
    try clear c7
    try clear c7b0
    try clear c8
    try clear c8b0
    obtain ⟨kq, x17_1, rfl, HA, HJ1, ⟨mc1, rfl⟩⟩ := hcut
    cases kq with
    | zero => exact absurd HA.out (by simp [isthmusref11_sign.j0])
    | succ kj1 =>
      have H := HA.out
      clear HA
      simp only [isthmusref11_sign.j0] at H
      by_cases c9 : x17_1 = true
      · subst c9
        have H1 : (if 0 ≤ 2 then (if 2 ≤ (a0.size : Int) then (some (a0.extract 0 2)) else (none)) else (none)) = some r := by rw [if_pos rfl] at H; exact H
        clear H
        have H := H1
        clear H1
        by_cases c10 : 0 ≤ 2
        · rw [if_pos c10] at H
          have c10b0 := eq_true c10
          have c10b1 : decide (0 ≤ 2) = true := decide_eq_true c10
          clear c10
          by_cases c11 : 2 ≤ (a0.size : Int)
          · rw [if_pos c11] at H
            have c11b0 := eq_true c11
            have c11b1 : decide (2 ≤ (a0.size : Int)) = true := decide_eq_true c11
            clear c11
            obtain rfl := Option.some.inj H
            go_wp2
            repeat (go_quiet (fail); try go_wp2)
            go_ret
            exact ⟨by first | rfl | (simp; done) | (simp [*]; done), by repeat (first | exact Drawn0.refl _ | apply Drawn0.step)⟩
          · rw [if_neg c11] at H
            exact absurd H (by simp)
        · rw [if_neg c10] at H
          exact absurd H (by simp)
      · replace c9 := Bool.eq_false_iff.mpr c9
        subst c9
        have H1 : (isthmusref11_sign.l0 kj1 a0 (⟨#[40, 41, 123, 125, 44, 58, 64, 43, 45, 42, 47, 37, 61, 60]⟩ : ByteArray) 0) = some r := by rw [if_neg (show ¬ (false = true) by decide)] at H; exact H
        clear H
        have H := H1
        clear H1
        have H' := Aside0.mk H
        clear H
        go_wp2
        repeat (go_quiet (fail); try go_wp2)
        go_loopg [4] kj1 (fun kq v4 w' => ∃ (x4_2 : Int), v4 = .int .i64 x4_2 ∧ Aside0 (isthmusref11_sign.l0 kq a0 (⟨#[40, 41, 123, 125, 44, 58, 64, 43, 45, 42, 47, 37, 61, 60]⟩ : ByteArray) x4_2 = some r) ∧ Aside0 (kq ≤ kj1) ∧ Drawn0 w w')
        case atStart => exact ⟨(0), (by first | rfl | (simp; done) | (simp [*]; done)), H', ⟨Nat.le_refl _⟩, by repeat (first | exact Drawn0.refl _ | apply Drawn0.step)⟩
        case round =>
          clear H'
          try clear c1
          try clear c2
          try clear p2
          try clear c3
          try clear c3b0
          try clear c3b1
          try clear c4
          try clear c4b0
          try clear c4b1
          try clear c5
          try clear c5b0
          try clear c5b1
          try clear c6
          try clear c6b0
          try clear c6b1
          try clear c7
          try clear c7b0
          try clear c8
          try clear c8b0
          try clear c9
          try clear c10
          try clear c10b0
          try clear c10b1
          try clear c11
          try clear c11b0
          try clear c11b1
          try clear p2
          obtain ⟨x4_2, rfl, HA, HK2, ⟨m2, rfl⟩⟩ := hrel
          cases gk with
          | zero => exact absurd HA.out (by simp [isthmusref11_sign.l0])
          | succ k2 =>
            have H := HA.out
            clear HA
            simp only [isthmusref11_sign.l0] at H
            by_cases c12 : x4_2 < ((⟨#[40, 41, 123, 125, 44, 58, 64, 43, 45, 42, 47, 37, 61, 60]⟩ : ByteArray).size : Int)
            · rw [if_pos c12] at H
              have c12b0 : decide (x4_2 < ((⟨#[40, 41, 123, 125, 44, 58, 64, 43, 45, 42, 47, 37, 61, 60]⟩ : ByteArray).size : Int)) = true := decide_eq_true c12
              have c12b7 : decide (x4_2 < 14) = true := by first | exact c12b0 | simpa using c12b0
              clear c12
              by_cases c13 : 0 ≤ x4_2
              · rw [if_pos c13] at H
                have c13b0 : decide (0 ≤ x4_2) = true := decide_eq_true c13
                clear c13
                by_cases c15 : 0 < (a0.size : Int)
                · rw [if_pos c15] at H
                  have c15b0 : decide (0 < (a0.size : Int)) = true := decide_eq_true c15
                  have c15b1 : decide (0 < a0.size) = true := decide_eq_true (by omega)
                  clear c15
                  by_cases c17 : (bt (⟨#[40, 41, 123, 125, 44, 58, 64, 43, 45, 42, 47, 37, 61, 60]⟩ : ByteArray) x4_2) = (bt a0 0)
                  · rw [if_pos c17] at H
                    have c17b0 : ((bt (⟨#[40, 41, 123, 125, 44, 58, 64, 43, 45, 42, 47, 37, 61, 60]⟩ : ByteArray) x4_2) == (bt a0 0)) = true := beq_iff_eq.mpr c17
                    have c17b1 : ((bt (⟨#[40, 41, 123, 125, 44, 58, 64, 43, 45, 42, 47, 37, 61, 60]⟩ : ByteArray) x4_2) != (bt a0 0)) = false := bne_eq_false_iff_eq.mpr c17
                    clear c17
                    by_cases c18 : 0 ≤ 1
                    · rw [if_pos c18] at H
                      have c18b0 := eq_true c18
                      have c18b1 : decide (0 ≤ 1) = true := decide_eq_true c18
                      clear c18
                      by_cases c19 : 1 ≤ (a0.size : Int)
                      · rw [if_pos c19] at H
                        have c19b0 := eq_true c19
                        have c19b1 : decide (1 ≤ (a0.size : Int)) = true := decide_eq_true c19
                        clear c19
                        obtain rfl := Option.some.inj H
                        have p14 : 0 ≤ (x4_2 : Int) := of_decide_eq_true (by first | (with_reducible assumption) | assumption)
                        have q14 : x4_2 < (14 : Int) := of_decide_eq_true (by first | (with_reducible assumption) | assumption)
                        have hx14 := bt_at (⟨#[40, 41, 123, 125, 44, 58, 64, 43, 45, 42, 47, 37, 61, 60]⟩ : ByteArray) x4_2
                        replace p14 := eq_true p14
                        replace q14 := eq_true q14
                        have p16 : 0 ≤ (0 : Int) := (by omega)
                        have q16 : 0 < a0.size := (by have : (0 : Int) < (a0.size : Int) := of_decide_eq_true (by first | (with_reducible assumption) | assumption); omega)
                        have hx16 : ∀ h : 0 < a0.size, ((a0[0]'h).toNat : Int) = bt a0 0 := bt_at a0 0
                        clear p16
                        have qi16 : (0 < (a0.size : Int)) = True := eq_true (of_decide_eq_true (by first | (with_reducible assumption) | assumption))
                        replace q16 := eq_true q16
                        go_wp2
                        repeat (go_quiet (fail); try go_wp2)
                        go_ret
                        exact ⟨by first | rfl | (simp; done) | (simp [*]; done), by repeat (first | exact Drawn0.refl _ | apply Drawn0.step)⟩
                      · rw [if_neg c19] at H
                        exact absurd H (by simp)
                    · rw [if_neg c18] at H
                      exact absurd H (by simp)
                  · rw [if_neg c17] at H
                    have c17b0 : ((bt (⟨#[40, 41, 123, 125, 44, 58, 64, 43, 45, 42, 47, 37, 61, 60]⟩ : ByteArray) x4_2) == (bt a0 0)) = false := beq_eq_false_iff_ne.mpr c17
                    have c17b1 : ((bt (⟨#[40, 41, 123, 125, 44, 58, 64, 43, 45, 42, 47, 37, 61, 60]⟩ : ByteArray) x4_2) != (bt a0 0)) = true := bne_iff_ne.mpr c17
                    have H' := Aside0.mk H
                    clear H
                    have p14 : 0 ≤ (x4_2 : Int) := of_decide_eq_true (by first | (with_reducible assumption) | assumption)
                    have q14 : x4_2 < (14 : Int) := of_decide_eq_true (by first | (with_reducible assumption) | assumption)
                    have hx14 := bt_at (⟨#[40, 41, 123, 125, 44, 58, 64, 43, 45, 42, 47, 37, 61, 60]⟩ : ByteArray) x4_2
                    replace p14 := eq_true p14
                    replace q14 := eq_true q14
                    have p16 : 0 ≤ (0 : Int) := (by omega)
                    have q16 : 0 < a0.size := (by have : (0 : Int) < (a0.size : Int) := of_decide_eq_true (by first | (with_reducible assumption) | assumption); omega)
                    have hx16 : ∀ h : 0 < a0.size, ((a0[0]'h).toNat : Int) = bt a0 0 := bt_at a0 0
                    clear p16
                    have qi16 : (0 < (a0.size : Int)) = True := eq_true (of_decide_eq_true (by first | (with_reducible assumption) | assumption))
                    replace q16 := eq_true q16
                    go_wp2
                    repeat (go_quiet (fail); try go_wp2)
                    go_roundg k2
                    case measure => have := HJ1.out; have := HK2.out; omega
                    case rel => exact ⟨(wrap64 (x4_2 + 1)), (by first | rfl | (simp; done) | (simp [*]; done)), H', ⟨by have := HJ1.out; have := HK2.out; omega⟩, by repeat (first | exact Drawn0.refl _ | apply Drawn0.step)⟩
                · rw [if_neg c15] at H
                  exact absurd H (by simp)
              · rw [if_neg c13] at H
                exact absurd H (by simp)
            · rw [if_neg c12] at H
              have c12b0 : decide (x4_2 < ((⟨#[40, 41, 123, 125, 44, 58, 64, 43, 45, 42, 47, 37, 61, 60]⟩ : ByteArray).size : Int)) = false := decide_eq_false c12
              have c12b7 : decide (x4_2 < 14) = false := by first | exact c12b0 | simpa using c12b0
              clear c12
              obtain rfl := Option.some.inj H
              go_wp2
              repeat (go_quiet (fail); try go_wp2)
              go_ret
              exact ⟨by first | rfl | (simp; done) | (simp [*]; done), by repeat (first | exact Drawn0.refl _ | apply Drawn0.step)⟩

end Go.Proofs.Ytijcoddbkefmlaa.L
