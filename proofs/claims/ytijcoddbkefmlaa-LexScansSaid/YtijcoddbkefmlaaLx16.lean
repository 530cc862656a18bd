-- Laid by a program (wip/tools/gprint.py over the kit's printer) out of the translation. Lean checks it.
import Derived.Test.YtijcoddbkefmlaaLx0
namespace Go.Proofs.Ytijcoddbkefmlaa.L
open Go.RowKit Go.Proofs.YtijcoddbkefmlaaW.PrintWords Go.Proofs.YtijcoddbkefmlaaW.PrintLast Go.Proofs.YtijcoddbkefmlaaW.PrintMore
attribute [local go_sem] max2_int min2_int max_two min_two max_three min_three max_four min_four   -- for this text's walks alone
set_option linter.unusedVariables false
set_option linter.unusedSimpArgs false

/-! ### isthmuslaw11_said: function 16 -/
def isthmuslaw11_said.l0 : Nat → ByteArray → Option (ByteArray)
  | 0, _ => none
  | k + 1, x8 => if (x8.size : Int) > 0 then (if 0 ≤ (wrap64 ((x8.size : Int) - 1)) then (if (wrap64 ((x8.size : Int) - 1)) < (x8.size : Int) then (if (bt x8 (wrap64 ((x8.size : Int) - 1))) = 32 then (if (wrap64 ((x8.size : Int) - 1)) ≤ (x8.size : Int) then (isthmuslaw11_said.l0 k (x8.extract 0 ((wrap64 ((x8.size : Int) - 1)) : Int).toNat)) else (none)) else (if (bt x8 (wrap64 ((x8.size : Int) - 1))) = 9 then (if (wrap64 ((x8.size : Int) - 1)) ≤ (x8.size : Int) then (isthmuslaw11_said.l0 k (x8.extract 0 ((wrap64 ((x8.size : Int) - 1)) : Int).toNat)) else (none)) else (if (bt x8 (wrap64 ((x8.size : Int) - 1))) = 10 then (if (wrap64 ((x8.size : Int) - 1)) ≤ (x8.size : Int) then (isthmuslaw11_said.l0 k (x8.extract 0 ((wrap64 ((x8.size : Int) - 1)) : Int).toNat)) else (none)) else (if (bt x8 (wrap64 ((x8.size : Int) - 1))) = 13 then (if (wrap64 ((x8.size : Int) - 1)) ≤ (x8.size : Int) then (isthmuslaw11_said.l0 k (x8.extract 0 ((wrap64 ((x8.size : Int) - 1)) : Int).toNat)) else (none)) else (some x8))))) else (none)) else (none)) else (some x8)
def isthmuslaw11_said.f (k : Nat) (a0 : ByteArray) (l1 : List (S29)) (a2 : Int) : Option (ByteArray) := if 0 ≤ (wrap64 (a2 + 1)) then (if (wrap64 (a2 + 1)) < (l1.length : Int) then (if 0 ≤ a2 then (if a2 < (l1.length : Int) then (if 0 ≤ ((rd_T29 l1 a2).f3) then (if ((rd_T29 l1 a2).f3) ≤ ((rd_T29 l1 (wrap64 (a2 + 1))).f3) then (if ((rd_T29 l1 (wrap64 (a2 + 1))).f3) ≤ (a0.size : Int) then (isthmuslaw11_said.l0 k (a0.extract (((rd_T29 l1 a2).f3) : Int).toNat (((rd_T29 l1 (wrap64 (a2 + 1))).f3) : Int).toNat)) else (none)) else (none)) else (none)) else (none)) else (none)) else (none)) else (none)
theorem isthmuslaw11_said.mono_l : ∀ k, (∀ y0, LeO (isthmuslaw11_said.l0 k y0) (isthmuslaw11_said.l0 (k + 1) y0))
  | 0 => fun _ r h => by simp [isthmuslaw11_said.l0] at h
  | k + 1 => by
    have ih0 := isthmuslaw11_said.mono_l k
    · intro y0
      unfold isthmuslaw11_said.l0
      repeat' first
      | (with_reducible exact ih0 _)
      | (with_reducible exact LeO.refl _)
      | (with_reducible exact LeO.none _)
      | (with_reducible refine LeO.ite ?_ ?_)
      | (with_reducible refine LeO.bind ?_ (fun _ => ?_))
      | exact ih0 _
      | exact LeO.none _
      | refine LeO.ite ?_ ?_
      | refine LeO.bind ?_ (fun _ => ?_)
theorem isthmuslaw11_said.mono : ∀ a0 a1 a2 k, LeO (isthmuslaw11_said.f k a0 a1 a2) (isthmuslaw11_said.f (k + 1) a0 a1 a2) := by
  intro a0 a1 a2 k
  have ih0 := isthmuslaw11_said.mono_l k
  unfold isthmuslaw11_said.f
  repeat' first
      | (with_reducible exact ih0 _)
      | (with_reducible exact LeO.refl _)
      | (with_reducible exact LeO.none _)
      | (with_reducible refine LeO.ite ?_ ?_)
      | (with_reducible refine LeO.bind ?_ (fun _ => ?_))
      | exact ih0 _
      | exact LeO.none _
      | refine LeO.ite ?_ ?_
      | refine LeO.bind ?_ (fun _ => ?_)
set_option maxHeartbeats 8000000 in
set_option maxRecDepth 100000 in
theorem isthmuslaw11_said.calls (k : Nat) (a0 : ByteArray) (A1 : Option Addr) (c1 : Nat) (l1 : List (S29)) (a2 : Int) (r : ByteArray) (w : World) (hr1 : Kd.C k29 w A1 l1.length l1) (hc1 : l1.length ≤ c1) (h : isthmuslaw11_said.f k a0 l1 a2 = some r) :
  Calls Try.prog 16 #[.string a0, .slice A1 l1.length c1, .int .i64 a2] w fun e w' => e = .returned (.string r) ∧ Drawn0 w w' := by
 have HR1 := Aside0.mk hr1
 have HC1 := Aside0.mk hc1
 clear hr1 hc1
 have H : (if 0 ≤ (wrap64 (a2 + 1)) then (if (wrap64 (a2 + 1)) < (l1.length : Int) then (if 0 ≤ a2 then (if a2 < (l1.length : Int) then (if 0 ≤ ((rd_T29 l1 a2).f3) then (if ((rd_T29 l1 a2).f3) ≤ ((rd_T29 l1 (wrap64 (a2 + 1))).f3) then (if ((rd_T29 l1 (wrap64 (a2 + 1))).f3) ≤ (a0.size : Int) then (isthmuslaw11_said.l0 k (a0.extract (((rd_T29 l1 a2).f3) : Int).toNat (((rd_T29 l1 (wrap64 (a2 + 1))).f3) : Int).toNat)) else (none)) else (none)) else (none)) else (none)) else (none)) else (none)) else (none)) = some r := h
 clear h
 obtain ⟨ji4, hji4⟩ : ∃ j_ : Int, (wrap64 (a2 + 1)) = j_ := ⟨_, rfl⟩
 replace H : (if 0 ≤ (ji4) then (if (ji4) < (l1.length : Int) then (if 0 ≤ a2 then (if a2 < (l1.length : Int) then (if 0 ≤ ((rd_T29 l1 a2).f3) then (if ((rd_T29 l1 a2).f3) ≤ ((rd_T29 l1 (ji4)).f3) then (if ((rd_T29 l1 (ji4)).f3) ≤ (a0.size : Int) then (isthmuslaw11_said.l0 k (a0.extract (((rd_T29 l1 a2).f3) : Int).toNat (((rd_T29 l1 (ji4)).f3) : Int).toNat)) else (none)) else (none)) else (none)) else (none)) else (none)) else (none)) else (none)) = some r := by first | (rw [hji4] at H; exact H) | (simp only [hji4] at H ⊢; exact H)
 have hji4w : (IntKind.i64.wrap (a2 + 1)) = ji4 := (i64_w _).trans hji4
 by_cases c5 : 0 ≤ (ji4)
 ·rw [if_pos c5] at H
  have c5b0 : decide (0 ≤ (ji4)) = true := decide_eq_true c5
  clear c5
  by_cases c6 : (ji4) < (l1.length : Int)
  ·rw [if_pos c6] at H
   have c6b0 : decide ((ji4) < (l1.length : Int)) = true := decide_eq_true c6
   clear c6
   by_cases c7 : 0 ≤ a2
   ·rw [if_pos c7] at H
    have c7b0 : decide (0 ≤ a2) = true := decide_eq_true c7
    clear c7
    by_cases c8 : a2 < (l1.length : Int)
    ·rw [if_pos c8] at H
     have c8b0 : decide (a2 < (l1.length : Int)) = true := decide_eq_true c8
     clear c8
     by_cases c9 : 0 ≤ ((rd_T29 l1 a2).f3)
     ·rw [if_pos c9] at H
      have c9b0 := eq_true c9
      have c9b1 : decide (0 ≤ ((rd_T29 l1 a2).f3)) = true := decide_eq_true c9
      clear c9
      by_cases c10 : ((rd_T29 l1 a2).f3) ≤ ((rd_T29 l1 (ji4)).f3)
      ·rw [if_pos c10] at H
       have c10b0 := eq_true c10
       have c10b1 : decide (((rd_T29 l1 a2).f3) ≤ ((rd_T29 l1 (ji4)).f3)) = true := decide_eq_true c10
       clear c10
       by_cases c11 : ((rd_T29 l1 (ji4)).f3) ≤ (a0.size : Int)
       ·rw [if_pos c11] at H
        have c11b0 := eq_true c11
        have c11b1 : decide (((rd_T29 l1 (ji4)).f3) ≤ (a0.size : Int)) = true := decide_eq_true c11
        clear c11
        have H' := Aside0.mk H
        clear H
        have p214 : 0 ≤ ((ji4) : Int) := of_decide_eq_true (by first | (with_reducible assumption) | assumption)
        have q214 : (ji4) < (l1.length : Int) := of_decide_eq_true (by first | (with_reducible assumption) | assumption)
        obtain ⟨ad214, e214, hx214_0, hx214_1, hx214_2, hx214_3⟩ := at_T29 HR1.out (ji4) p214 q214
        cases e214
        replace p214 := eq_true p214
        replace q214 := eq_true q214
        have p215 : 0 ≤ (a2 : Int) := of_decide_eq_true (by first | (with_reducible assumption) | assumption)
        have q215 : a2 < (l1.length : Int) := of_decide_eq_true (by first | (with_reducible assumption) | assumption)
        obtain ⟨ad215, e215, hx215_0, hx215_1, hx215_2, hx215_3⟩ := at_T29 HR1.out a2 p215 q215
        obtain rfl : ad214 = ad215 := (by injection e215)
        replace p215 := eq_true p215
        replace q215 := eq_true q215
        go_enter Try.func16, Try.ntmps16
        go_wp2
        go_loopg [8] k (fun kq v8 w' => ∃ (x8_1 : ByteArray), v8 = .string x8_1 ∧ Aside0 (isthmuslaw11_said.l0 kq x8_1 = some r) ∧ Aside0 (kq ≤ k) ∧ Drawn0 w w')
        case atStart => exact ⟨(a0.extract (((rd_T29 l1 a2).f3) : Int).toNat (((rd_T29 l1 (ji4)).f3) : Int).toNat), (by first | rfl | (simp; done) | (simp only [← hji4] <;> (first | rfl | simp)) | (simp [*]; done)), H', ⟨Nat.le_refl _⟩, by repeat (first | exact Drawn0.refl _ | apply Drawn0.step)⟩
        case round =>
         clear H'
         try clear c1
         try clear p2
         try clear q2
         try clear hx2
         try clear c5
         try clear c5b0
         try clear c6
         try clear c6b0
         try clear p6
         try clear c7
         try clear c7b0
         try clear c8
         try clear c8b0
         try clear c9
         try clear c9b0
         try clear c9b1
         try clear c10
         try clear c10b0
         try clear c10b1
         try clear c11
         try clear c11b0
         try clear c11b1
         try clear hx214_0
         try clear hx214_1
         try clear hx214_2
         try clear hx214_3
         try clear hx215_0
         try clear hx215_1
         try clear hx215_2
         try clear hx215_3
         try clear p214
         try clear p215
         try clear q214
         try clear q215
         obtain ⟨x8_1, rfl, HA, HK1, ⟨m1, rfl⟩⟩ := hrel
         cases gk with
         | zero => exact absurd HA.out (by simp [isthmuslaw11_said.l0])
         | succ k1 =>
          have H := HA.out
          clear HA
          simp only [isthmuslaw11_said.l0] at H
          by_cases c12 : (x8_1.size : Int) > 0
          ·rw [if_pos c12] at H
           have c12b0 : decide (0 < (x8_1.size : Int)) = true := decide_eq_true c12
           have c12b1 : decide (0 < x8_1.size) = true := decide_eq_true (by omega)
           clear c12
           obtain ⟨ji13, hji13⟩ : ∃ j_ : Int, (wrap64 ((x8_1.size : Int) - 1)) = j_ := ⟨_, rfl⟩
           replace H : (if 0 ≤ (ji13) then (if (ji13) < (x8_1.size : Int) then (if (bt x8_1 (ji13)) = 32 then (if (ji13) ≤ (x8_1.size : Int) then (isthmuslaw11_said.l0 k1 (x8_1.extract 0 ((ji13) : Int).toNat)) else (none)) else (if (bt x8_1 (ji13)) = 9 then (if (ji13) ≤ (x8_1.size : Int) then (isthmuslaw11_said.l0 k1 (x8_1.extract 0 ((ji13) : Int).toNat)) else (none)) else (if (bt x8_1 (ji13)) = 10 then (if (ji13) ≤ (x8_1.size : Int) then (isthmuslaw11_said.l0 k1 (x8_1.extract 0 ((ji13) : Int).toNat)) else (none)) else (if (bt x8_1 (ji13)) = 13 then (if (ji13) ≤ (x8_1.size : Int) then (isthmuslaw11_said.l0 k1 (x8_1.extract 0 ((ji13) : Int).toNat)) else (none)) else (some x8_1))))) else (none)) else (none)) = some r := by first | (rw [hji13] at H; exact H) | (simp only [hji13] at H ⊢; exact H)
           have hji13w : (IntKind.i64.wrap ((x8_1.size : Int) - 1)) = ji13 := (i64_w _).trans hji13
           by_cases c14 : 0 ≤ (ji13)
           ·rw [if_pos c14] at H
            have c14b0 : decide (0 ≤ (ji13)) = true := decide_eq_true c14
            clear c14
            by_cases c15 : (ji13) < (x8_1.size : Int)
            ·rw [if_pos c15] at H
             have c15b0 : decide ((ji13) < (x8_1.size : Int)) = true := decide_eq_true c15
             clear c15
             by_cases c17 : (bt x8_1 (ji13)) = 32
             ·rw [if_pos c17] at H
              have c17b0 : ((bt x8_1 (ji13)) == 32) = true := beq_iff_eq.mpr c17
              have c17b1 : ((bt x8_1 (ji13)) != 32) = false := bne_eq_false_iff_eq.mpr c17
              clear c17
              have c18b0 := eq_true (of_decide_eq_true (by first | (with_reducible assumption) | assumption) : 0 ≤ (ji13))
              by_cases c19 : (ji13) ≤ (x8_1.size : Int)
              ·rw [if_pos c19] at H
               have c19b0 := eq_true c19
               have c19b1 : decide ((ji13) ≤ (x8_1.size : Int)) = true := decide_eq_true c19
               clear c19
               have H' := Aside0.mk H
               clear H
               have p16 : 0 ≤ ((ji13) : Int) := of_decide_eq_true (by first | (with_reducible assumption) | assumption)
               have q16 : (ji13) < (x8_1.size : Int) := of_decide_eq_true (by first | (with_reducible assumption) | assumption)
               have hx16 := bt_at x8_1 (ji13)
               replace p16 := eq_true p16
               replace q16 := eq_true q16
               go_wp2
               go_roundg k1
               case measure => have := HK1.out; omega
               case rel => exact ⟨(x8_1.extract 0 ((ji13) : Int).toNat), (by first | rfl | (simp; done) | (simp only [← hji13] <;> (first | rfl | simp)) | (simp [*]; done)), H', ⟨by have := HK1.out; omega⟩, by repeat (first | exact Drawn0.refl _ | apply Drawn0.step)⟩
              ·rw [if_neg c19] at H
               exact absurd H (by simp)
             ·rw [if_neg c17] at H
              have c17b0 : ((bt x8_1 (ji13)) == 32) = false := beq_eq_false_iff_ne.mpr c17
              have c17b1 : ((bt x8_1 (ji13)) != 32) = true := bne_iff_ne.mpr c17
              by_cases c21 : (bt x8_1 (ji13)) = 9
              ·rw [if_pos c21] at H
               have c21b0 : ((bt x8_1 (ji13)) == 9) = true := beq_iff_eq.mpr c21
               have c21b1 : ((bt x8_1 (ji13)) != 9) = false := bne_eq_false_iff_eq.mpr c21
               clear c21
               have c22b0 := eq_true (of_decide_eq_true (by first | (with_reducible assumption) | assumption) : 0 ≤ (ji13))
               by_cases c23 : (ji13) ≤ (x8_1.size : Int)
               ·rw [if_pos c23] at H
                have c23b0 := eq_true c23
                have c23b1 : decide ((ji13) ≤ (x8_1.size : Int)) = true := decide_eq_true c23
                clear c23
                have H' := Aside0.mk H
                clear H
                have p16 : 0 ≤ ((ji13) : Int) := of_decide_eq_true (by first | (with_reducible assumption) | assumption)
                have q16 : (ji13) < (x8_1.size : Int) := of_decide_eq_true (by first | (with_reducible assumption) | assumption)
                have hx16 := bt_at x8_1 (ji13)
                replace p16 := eq_true p16
                replace q16 := eq_true q16
                have p20 : 0 ≤ ((ji13) : Int) := of_decide_eq_true (by first | (with_reducible assumption) | assumption)
                have q20 : (ji13) < (x8_1.size : Int) := of_decide_eq_true (by first | (with_reducible assumption) | assumption)
                have hx20 := bt_at x8_1 (ji13)
                replace p20 := eq_true p20
                replace q20 := eq_true q20
                go_wp2
                go_roundg k1
                case measure => have := HK1.out; omega
                case rel => exact ⟨(x8_1.extract 0 ((ji13) : Int).toNat), (by first | rfl | (simp; done) | (simp only [← hji13] <;> (first | rfl | simp)) | (simp [*]; done)), H', ⟨by have := HK1.out; omega⟩, by repeat (first | exact Drawn0.refl _ | apply Drawn0.step)⟩
               ·rw [if_neg c23] at H
                exact absurd H (by simp)
              ·rw [if_neg c21] at H
               have c21b0 : ((bt x8_1 (ji13)) == 9) = false := beq_eq_false_iff_ne.mpr c21
               have c21b1 : ((bt x8_1 (ji13)) != 9) = true := bne_iff_ne.mpr c21
               by_cases c25 : (bt x8_1 (ji13)) = 10
               ·rw [if_pos c25] at H
                have c25b0 : ((bt x8_1 (ji13)) == 10) = true := beq_iff_eq.mpr c25
                have c25b1 : ((bt x8_1 (ji13)) != 10) = false := bne_eq_false_iff_eq.mpr c25
                clear c25
                have c26b0 := eq_true (of_decide_eq_true (by first | (with_reducible assumption) | assumption) : 0 ≤ (ji13))
                by_cases c27 : (ji13) ≤ (x8_1.size : Int)
                ·rw [if_pos c27] at H
                 have c27b0 := eq_true c27
                 have c27b1 : decide ((ji13) ≤ (x8_1.size : Int)) = true := decide_eq_true c27
                 clear c27
                 have H' := Aside0.mk H
                 clear H
                 have p16 : 0 ≤ ((ji13) : Int) := of_decide_eq_true (by first | (with_reducible assumption) | assumption)
                 have q16 : (ji13) < (x8_1.size : Int) := of_decide_eq_true (by first | (with_reducible assumption) | assumption)
                 have hx16 := bt_at x8_1 (ji13)
                 replace p16 := eq_true p16
                 replace q16 := eq_true q16
                 have p20 : 0 ≤ ((ji13) : Int) := of_decide_eq_true (by first | (with_reducible assumption) | assumption)
                 have q20 : (ji13) < (x8_1.size : Int) := of_decide_eq_true (by first | (with_reducible assumption) | assumption)
                 have hx20 := bt_at x8_1 (ji13)
                 replace p20 := eq_true p20
                 replace q20 := eq_true q20
                 have p24 : 0 ≤ ((ji13) : Int) := of_decide_eq_true (by first | (with_reducible assumption) | assumption)
                 have q24 : (ji13) < (x8_1.size : Int) := of_decide_eq_true (by first | (with_reducible assumption) | assumption)
                 have hx24 := bt_at x8_1 (ji13)
                 replace p24 := eq_true p24
                 replace q24 := eq_true q24
                 go_wp2
                 go_roundg k1
                 case measure => have := HK1.out; omega
                 case rel => exact ⟨(x8_1.extract 0 ((ji13) : Int).toNat), (by first | rfl | (simp; done) | (simp only [← hji13] <;> (first | rfl | simp)) | (simp [*]; done)), H', ⟨by have := HK1.out; omega⟩, by repeat (first | exact Drawn0.refl _ | apply Drawn0.step)⟩
                ·rw [if_neg c27] at H
                 exact absurd H (by simp)
               ·rw [if_neg c25] at H
                have c25b0 : ((bt x8_1 (ji13)) == 10) = false := beq_eq_false_iff_ne.mpr c25
                have c25b1 : ((bt x8_1 (ji13)) != 10) = true := bne_iff_ne.mpr c25
                by_cases c29 : (bt x8_1 (ji13)) = 13
                ·rw [if_pos c29] at H
                 have c29b0 : ((bt x8_1 (ji13)) == 13) = true := beq_iff_eq.mpr c29
                 have c29b1 : ((bt x8_1 (ji13)) != 13) = false := bne_eq_false_iff_eq.mpr c29
                 clear c29
                 have c30b0 := eq_true (of_decide_eq_true (by first | (with_reducible assumption) | assumption) : 0 ≤ (ji13))
                 by_cases c31 : (ji13) ≤ (x8_1.size : Int)
                 ·rw [if_pos c31] at H
                  have c31b0 := eq_true c31
                  have c31b1 : decide ((ji13) ≤ (x8_1.size : Int)) = true := decide_eq_true c31
                  clear c31
                  have H' := Aside0.mk H
                  clear H
                  have p16 : 0 ≤ ((ji13) : Int) := of_decide_eq_true (by first | (with_reducible assumption) | assumption)
                  have q16 : (ji13) < (x8_1.size : Int) := of_decide_eq_true (by first | (with_reducible assumption) | assumption)
                  have hx16 := bt_at x8_1 (ji13)
                  replace p16 := eq_true p16
                  replace q16 := eq_true q16
                  have p20 : 0 ≤ ((ji13) : Int) := of_decide_eq_true (by first | (with_reducible assumption) | assumption)
                  have q20 : (ji13) < (x8_1.size : Int) := of_decide_eq_true (by first | (with_reducible assumption) | assumption)
                  have hx20 := bt_at x8_1 (ji13)
                  replace p20 := eq_true p20
                  replace q20 := eq_true q20
                  have p24 : 0 ≤ ((ji13) : Int) := of_decide_eq_true (by first | (with_reducible assumption) | assumption)
                  have q24 : (ji13) < (x8_1.size : Int) := of_decide_eq_true (by first | (with_reducible assumption) | assumption)
                  have hx24 := bt_at x8_1 (ji13)
                  replace p24 := eq_true p24
                  replace q24 := eq_true q24
                  have p28 : 0 ≤ ((ji13) : Int) := of_decide_eq_true (by first | (with_reducible assumption) | assumption)
                  have q28 : (ji13) < (x8_1.size : Int) := of_decide_eq_true (by first | (with_reducible assumption) | assumption)
                  have hx28 := bt_at x8_1 (ji13)
                  replace p28 := eq_true p28
                  replace q28 := eq_true q28
                  go_wp2
                  go_roundg k1
                  case measure => have := HK1.out; omega
                  case rel => exact ⟨(x8_1.extract 0 ((ji13) : Int).toNat), (by first | rfl | (simp; done) | (simp only [← hji13] <;> (first | rfl | simp)) | (simp [*]; done)), H', ⟨by have := HK1.out; omega⟩, by repeat (first | exact Drawn0.refl _ | apply Drawn0.step)⟩
                 ·rw [if_neg c31] at H
                  exact absurd H (by simp)
                ·rw [if_neg c29] at H
                 have c29b0 : ((bt x8_1 (ji13)) == 13) = false := beq_eq_false_iff_ne.mpr c29
                 have c29b1 : ((bt x8_1 (ji13)) != 13) = true := bne_iff_ne.mpr c29
                 obtain rfl := Option.some.inj H
                 have p16 : 0 ≤ ((ji13) : Int) := of_decide_eq_true (by first | (with_reducible assumption) | assumption)
                 have q16 : (ji13) < (x8_1.size : Int) := of_decide_eq_true (by first | (with_reducible assumption) | assumption)
                 have hx16 := bt_at x8_1 (ji13)
                 replace p16 := eq_true p16
                 replace q16 := eq_true q16
                 have p20 : 0 ≤ ((ji13) : Int) := of_decide_eq_true (by first | (with_reducible assumption) | assumption)
                 have q20 : (ji13) < (x8_1.size : Int) := of_decide_eq_true (by first | (with_reducible assumption) | assumption)
                 have hx20 := bt_at x8_1 (ji13)
                 replace p20 := eq_true p20
                 replace q20 := eq_true q20
                 have p24 : 0 ≤ ((ji13) : Int) := of_decide_eq_true (by first | (with_reducible assumption) | assumption)
                 have q24 : (ji13) < (x8_1.size : Int) := of_decide_eq_true (by first | (with_reducible assumption) | assumption)
                 have hx24 := bt_at x8_1 (ji13)
                 replace p24 := eq_true p24
                 replace q24 := eq_true q24
                 have p28 : 0 ≤ ((ji13) : Int) := of_decide_eq_true (by first | (with_reducible assumption) | assumption)
                 have q28 : (ji13) < (x8_1.size : Int) := of_decide_eq_true (by first | (with_reducible assumption) | assumption)
                 have hx28 := bt_at x8_1 (ji13)
                 replace p28 := eq_true p28
                 replace q28 := eq_true q28
                 go_wp2
                 go_ret
                 exact ⟨by first | rfl | (simp; done) | (simp only [← hji4, ← hji13] <;> (first | rfl | simp)) | (simp [*]; done), by repeat (first | exact Drawn0.refl _ | apply Drawn0.step)⟩
            ·rw [if_neg c15] at H
             exact absurd H (by simp)
           ·rw [if_neg c14] at H
            exact absurd H (by simp)
          ·rw [if_neg c12] at H
           have c12b0 : decide (0 < (x8_1.size : Int)) = false := decide_eq_false c12
           have c12b1 : decide (0 < x8_1.size) = false := decide_eq_false (by omega)
           clear c12
           obtain rfl := Option.some.inj H
           go_wp2
           go_ret
           exact ⟨by first | rfl | (simp; done) | (simp only [← hji4] <;> (first | rfl | simp)) | (simp [*]; done), by repeat (first | exact Drawn0.refl _ | apply Drawn0.step)⟩
       ·rw [if_neg c11] at H
        exact absurd H (by simp)
      ·rw [if_neg c10] at H
       exact absurd H (by simp)
     ·rw [if_neg c9] at H
      exact absurd H (by simp)
    ·rw [if_neg c8] at H
     exact absurd H (by simp)
   ·rw [if_neg c7] at H
    exact absurd H (by simp)
  ·rw [if_neg c6] at H
   exact absurd H (by simp)
 ·rw [if_neg c5] at H
  exact absurd H (by simp)

end Go.Proofs.Ytijcoddbkefmlaa.L
