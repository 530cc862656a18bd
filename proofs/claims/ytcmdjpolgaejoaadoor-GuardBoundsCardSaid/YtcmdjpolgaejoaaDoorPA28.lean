/- The laws GuardBounds, GuardShifts, GuardCut of the program hold, as their cards say: texts put together by a program, 29 of 35. -/
import Derived.Test.YtcmdjpolgaejoaaDoorPA27
namespace Go.Proofs.YtcmdjpolgaejoaaDoor.D
open Go.RowKit Go.Proofs.YtcmdjpolgaejoaaDoorW.PrintWords Go.Proofs.YtcmdjpolgaejoaaDoorW.PrintLast Go.Proofs.YtcmdjpolgaejoaaDoorW.PrintMore
attribute [local go_sem] max2_int min2_int max_two min_two max_three min_three max_four min_four
set_option linter.unusedVariables false
set_option linter.unusedSimpArgs false
def bits_Mul64.f (a0 : Int) (a1 : Int) : Option (Int × Int) := some (IntKind.u64.wrap ((IntKind.u64.wrap ((IntKind.u64.wrap ((a0 / 4294967296) * (a1 / 4294967296))) + ((IntKind.u64.wrap ((IntKind.u64.wrap ((a0 / 4294967296) * (Go.bits .and .u64 a1 4294967295))) + ((IntKind.u64.wrap ((Go.bits .and .u64 a0 4294967295) * (Go.bits .and .u64 a1 4294967295))) / 4294967296))) / 4294967296))) + ((IntKind.u64.wrap ((Go.bits .and .u64 (IntKind.u64.wrap ((IntKind.u64.wrap ((a0 / 4294967296) * (Go.bits .and .u64 a1 4294967295))) + ((IntKind.u64.wrap ((Go.bits .and .u64 a0 4294967295) * (Go.bits .and .u64 a1 4294967295))) / 4294967296))) 4294967295) + (IntKind.u64.wrap ((Go.bits .and .u64 a0 4294967295) * (a1 / 4294967296))))) / 4294967296)), IntKind.u64.wrap (a0 * a1))
set_option maxHeartbeats 8000000 in
set_option maxRecDepth 100000 in
theorem bits_Mul64.calls (a0 : Int) (a1 : Int) (r1 : Int) (r2 : Int) (w : World) (h : bits_Mul64.f a0 a1 = some (r1, r2)) :
  Calls Tryd.prog 30 #[.int .u64 a0, .int .u64 a1] w fun e w' => e = .returned (.tuple #[.int .u64 r1, .int .u64 r2]) ∧ Drawn0 w w' := by
 have H : (some (IntKind.u64.wrap ((IntKind.u64.wrap ((IntKind.u64.wrap ((a0 / 4294967296) * (a1 / 4294967296))) + ((IntKind.u64.wrap ((IntKind.u64.wrap ((a0 / 4294967296) * (Go.bits .and .u64 a1 4294967295))) + ((IntKind.u64.wrap ((Go.bits .and .u64 a0 4294967295) * (Go.bits .and .u64 a1 4294967295))) / 4294967296))) / 4294967296))) + ((IntKind.u64.wrap ((Go.bits .and .u64 (IntKind.u64.wrap ((IntKind.u64.wrap ((a0 / 4294967296) * (Go.bits .and .u64 a1 4294967295))) + ((IntKind.u64.wrap ((Go.bits .and .u64 a0 4294967295) * (Go.bits .and .u64 a1 4294967295))) / 4294967296))) 4294967295) + (IntKind.u64.wrap ((Go.bits .and .u64 a0 4294967295) * (a1 / 4294967296))))) / 4294967296)), IntKind.u64.wrap (a0 * a1))) = some (r1, r2) := h
 clear h
 simp only [Option.some.injEq, Prod.mk.injEq] at H
 obtain ⟨rfl, rfl⟩ := H
 go_enter Tryd.func30, Tryd.ntmps30
 go_wp2
 go_ret2
 exact ⟨by first | rfl | (simp; done) | (simp [*]; done), by repeat (first | exact Drawn0.refl _ | apply Drawn0.step)⟩
def guard_Bound.l0 : Nat → Int → Int → Int → Int → Option (Int)
 | 0, _, _, _, _ => none
 | k + 1, x2, x7, x16, x17 => if x17 < x16 then ((bits_Mul64.f x7 ((mn (mx x2 0) 2147483648) + 1)).bind fun bt101 => (if bt101.1 > 0 then (some 4611686018427387904) else (if bt101.2 > 4611686018427387904 then (some 4611686018427387904) else (guard_Bound.l0 k x2 bt101.2 x16 (wrap64 (x17 + 1)))))) else (some (wrap64 (x7)))
def guard_Bound.f (k : Nat) (a0 : Int) (a1 : Int) (a2 : Int) : Option (Int) := guard_Bound.l0 k a2 (mn (mx a0 0) 2147483648) (mn (mx a1 0) 4) 0
set_option maxHeartbeats 8000000 in
set_option maxRecDepth 100000 in
theorem guard_Bound.calls (k : Nat) (a0 : Int) (a1 : Int) (a2 : Int) (r : Int) (w : World) (h : guard_Bound.f k a0 a1 a2 = some r) :
  Calls Tryd.prog 15 #[.int .i64 a0, .int .i64 a1, .int .i64 a2] w fun e w' => e = .returned (.int .i64 r) ∧ Below w.heap.size w w' := by
 have HB := Aside0.mk (Below.refl w.heap.size w)
 have H : (guard_Bound.l0 k a2 (mn (mx a0 0) 2147483648) (mn (mx a1 0) 4) 0) = some r := h
 clear h
 obtain ⟨ji4, hji4⟩ : ∃ j_ : Int, (mx a0 0) = j_ := ⟨_, rfl⟩
 replace H : (guard_Bound.l0 k a2 (mn (ji4) 2147483648) (mn (mx a1 0) 4) 0) = some r := by first | (rw [hji4] at H; exact H) | (simp only [hji4] at H ⊢; exact H)
 (try (have hji4l : 0 ≤ ji4 := by (rw [← hji4]; unfold mx; (repeat' split) <;> omega)))
 (try (have hji4m : 0 ≤ ji4 := by omega))
 have hji4_ : (if a0 < 0 then 0 else a0) = ji4 := hji4
 obtain ⟨ji5, hji5⟩ : ∃ j_ : Int, (mn (ji4) 2147483648) = j_ := ⟨_, rfl⟩
 replace H : (guard_Bound.l0 k a2 ji5 (mn (mx a1 0) 4) 0) = some r := by first | (rw [hji5] at H; exact H) | (simp only [hji5] at H ⊢; exact H)
 have hji5_ : (if 2147483648 < (ji4) then 2147483648 else (ji4)) = ji5 := hji5
 obtain ⟨ji6, hji6⟩ : ∃ j_ : Int, (mx a1 0) = j_ := ⟨_, rfl⟩
 replace H : (guard_Bound.l0 k a2 ji5 (mn (ji6) 4) 0) = some r := by first | (rw [hji6] at H; exact H) | (simp only [hji6] at H ⊢; exact H)
 (try (have hji6l : 0 ≤ ji6 := by (rw [← hji6]; unfold mx; (repeat' split) <;> omega)))
 (try (have hji6m : 0 ≤ ji6 := by omega))
 have hji6_ : (if a1 < 0 then 0 else a1) = ji6 := hji6
 obtain ⟨ji7, hji7⟩ : ∃ j_ : Int, (mn (ji6) 4) = j_ := ⟨_, rfl⟩
 replace H : (guard_Bound.l0 k a2 ji5 ji7 0) = some r := by first | (rw [hji7] at H; exact H) | (simp only [hji7] at H ⊢; exact H)
 have hji7_ : (if 4 < (ji6) then 4 else (ji6)) = ji7 := hji7
 have H' := Aside0.mk H
 clear H
 go_enter Tryd.func15, Tryd.ntmps15
 go_wp2
 go_loopg [7, 17] k (fun kq v7 v17 w' => ∃ (x7_1 : Int) (x17_1 : Int), v7 = .int .u64 x7_1 ∧ v17 = .int .i64 x17_1 ∧ Aside0 (guard_Bound.l0 kq a2 x7_1 ji7 x17_1 = some r) ∧ Aside0 (kq ≤ k) ∧ Aside0 (Below w.heap.size w w'))
 case atStart => exact ⟨(ji5), (0), (by first | rfl | (simp; done) | (simp only [← hji5] <;> (first | rfl | simp)) | (simp [*]; done)), (by first | rfl | (simp; done) | (simp [*]; done)), H', ⟨Nat.le_refl _⟩, ⟨by repeat (first | (with_reducible first | exact HB.out | apply below_alloc | apply pw_below_drewN | apply below_drew1) | exact HB.out)⟩⟩
 case round =>
  clear H'
  try clear c1
  try clear p2
  obtain ⟨x7_1, x17_1, rfl, rfl, HA, HK1, HB⟩ := hrel
  cases gk with
  | zero => exact absurd HA.out (by simp [guard_Bound.l0])
  | succ k1 =>
   have H := HA.out
   clear HA
   simp only [guard_Bound.l0] at H
   by_cases c8 : x17_1 < ji7
   ·rw [if_pos c8] at H
    have c8b0 : decide (x17_1 < ji7) = true := decide_eq_true c8
    clear c8
    obtain ⟨ji9, hji9⟩ : ∃ j_ : Int, (mx a2 0) = j_ := ⟨_, rfl⟩
    replace H : ((bits_Mul64.f x7_1 ((mn (ji9) 2147483648) + 1)).bind fun bt101 => (if bt101.1 > 0 then (some 4611686018427387904) else (if bt101.2 > 4611686018427387904 then (some 4611686018427387904) else (guard_Bound.l0 k1 a2 bt101.2 ji7 (wrap64 (x17_1 + 1)))))) = some r := by first | (rw [hji9] at H; exact H) | (simp only [hji9] at H ⊢; exact H)
    have hji9_ : (if a2 < 0 then 0 else a2) = ji9 := hji9
    obtain ⟨ji10, hji10⟩ : ∃ j_ : Int, (mn (ji9) 2147483648) = j_ := ⟨_, rfl⟩
    replace H : ((bits_Mul64.f x7_1 ((ji10) + 1)).bind fun bt101 => (if bt101.1 > 0 then (some 4611686018427387904) else (if bt101.2 > 4611686018427387904 then (some 4611686018427387904) else (guard_Bound.l0 k1 a2 bt101.2 ji7 (wrap64 (x17_1 + 1)))))) = some r := by first | (rw [hji10] at H; exact H) | (simp only [hji10] at H ⊢; exact H)
    have hji10_ : (if 2147483648 < (ji9) then 2147483648 else (ji9)) = ji10 := hji10
    replace H := Option.bind_eq_some_iff.mp H
    obtain ⟨⟨t101, t102⟩, A110, H⟩ := H
    replace H : (if t101 > 0 then (some 4611686018427387904) else (if t102 > 4611686018427387904 then (some 4611686018427387904) else (guard_Bound.l0 k1 a2 t102 ji7 (wrap64 (x17_1 + 1))))) = some r := H
    have A11 := Aside0.mk A110
    clear A110
    by_cases c12 : t101 > 0
    ·rw [if_pos c12] at H
     have c12b0 : decide (0 < t101) = true := decide_eq_true c12
     clear c12
     obtain rfl := Option.some.inj H
     go_wp2_with (first | ((with_reducible refine gate_callee (f := 30) rfl ?_); refine goesL_ (some 26) rfl rfl Tryd.func30 (by kernel_rfl) rfl #[.int .u64 x7_1, .int .u64 ((ji10) + 1)] rfl (by (try simp only [List.map_toArray, List.map_cons, List.map_nil]); first | done | (simp only [hji10]; rfl) | rfl | (simp only [List.length_drop, List.length_take]; rfl)) ?_; (with_reducible refine (bits_Mul64.calls x7_1 ((ji10) + 1) t101 t102 _ A11.out).mono ?_); rintro e w' ⟨rfl, ⟨nd, rfl⟩⟩; refine ⟨_, rfl, ?_⟩))
     go_ret
     exact ⟨by first | rfl | (simp [errW_none, errW_some] <;> rfl) | (simp only [← hji4, ← hji5, ← hji6, ← hji7, ← hji9, ← hji10]; first | rfl | (simp [errW_none, errW_some] <;> rfl)) | (simp [*, errW_none, errW_some] <;> rfl), by repeat (first | (with_reducible first | exact HB.out | apply below_alloc | apply pw_below_drewN | apply below_drew1) | exact HB.out)⟩
    ·rw [if_neg c12] at H
     have c12b0 : decide (0 < t101) = false := decide_eq_false c12
     clear c12
     by_cases c13 : t102 > 4611686018427387904
     ·rw [if_pos c13] at H
      have c13b0 : decide (4611686018427387904 < t102) = true := decide_eq_true c13
      clear c13
      obtain rfl := Option.some.inj H
      go_wp2_with (first | ((with_reducible refine gate_callee (f := 30) rfl ?_); refine goesL_ (some 26) rfl rfl Tryd.func30 (by kernel_rfl) rfl #[.int .u64 x7_1, .int .u64 ((ji10) + 1)] rfl (by (try simp only [List.map_toArray, List.map_cons, List.map_nil]); first | done | (simp only [hji10]; rfl) | rfl | (simp only [List.length_drop, List.length_take]; rfl)) ?_; (with_reducible refine (bits_Mul64.calls x7_1 ((ji10) + 1) t101 t102 _ A11.out).mono ?_); rintro e w' ⟨rfl, ⟨nd, rfl⟩⟩; refine ⟨_, rfl, ?_⟩))
      go_ret
      exact ⟨by first | rfl | (simp [errW_none, errW_some] <;> rfl) | (simp only [← hji4, ← hji5, ← hji6, ← hji7, ← hji9, ← hji10]; first | rfl | (simp [errW_none, errW_some] <;> rfl)) | (simp [*, errW_none, errW_some] <;> rfl), by repeat (first | (with_reducible first | exact HB.out | apply below_alloc | apply pw_below_drewN | apply below_drew1) | exact HB.out)⟩
     ·rw [if_neg c13] at H
      have c13b0 : decide (4611686018427387904 < t102) = false := decide_eq_false c13
      clear c13
      have H' := Aside0.mk H
      clear H
      go_wp2_with (first | ((with_reducible refine gate_callee (f := 30) rfl ?_); refine goesL_ (some 26) rfl rfl Tryd.func30 (by kernel_rfl) rfl #[.int .u64 x7_1, .int .u64 ((ji10) + 1)] rfl (by (try simp only [List.map_toArray, List.map_cons, List.map_nil]); first | done | (simp only [hji10]; rfl) | rfl | (simp only [List.length_drop, List.length_take]; rfl)) ?_; (with_reducible refine (bits_Mul64.calls x7_1 ((ji10) + 1) t101 t102 _ A11.out).mono ?_); rintro e w' ⟨rfl, ⟨nd, rfl⟩⟩; refine ⟨_, rfl, ?_⟩))
      go_roundg k1
      case measure => have := HK1.out; omega
      case rel => exact ⟨(t102), (wrap64 (x17_1 + 1)), (by first | rfl | (simp; done) | (simp [*]; done)), (by first | rfl | (simp; done) | (simp [*]; done)), H', ⟨by have := HK1.out; omega⟩, ⟨by repeat (first | (with_reducible first | exact HB.out | apply below_alloc | apply pw_below_drewN | apply below_drew1) | exact HB.out)⟩⟩
   ·rw [if_neg c8] at H
    have c8b0 : decide (x17_1 < ji7) = false := decide_eq_false c8
    clear c8
    obtain rfl := Option.some.inj H
    go_wp2
    go_ret
    exact ⟨by first | rfl | (simp [errW_none, errW_some] <;> rfl) | (simp only [← hji4, ← hji5, ← hji6, ← hji7]; first | rfl | (simp [errW_none, errW_some] <;> rfl)) | (simp [*, errW_none, errW_some] <;> rfl), by repeat (first | (with_reducible first | exact HB.out | apply below_alloc | apply pw_below_drewN | apply below_drew1) | exact HB.out)⟩
def isthmusref20_Bound.l0 : Nat → Int → Int → Int → Int → Option (Int)
 | 0, _, _, _, _ => none
 | k + 1, x1, x7, x8, x9 => if x9 < (mn (mx x1 0) 4) then (if x7 > 0 then (if x7 = 0 then (none) else (if x8 > (wrap64 ((4611686018427387904 : Int) / x7)) then (some 4611686018427387904) else (isthmusref20_Bound.l0 k x1 (wrap64 (x7 * x8)) x8 (wrap64 (x9 + 1))))) else (isthmusref20_Bound.l0 k x1 (wrap64 (x7 * x8)) x8 (wrap64 (x9 + 1)))) else (some (mn x7 4611686018427387904))
def isthmusref20_Bound.f (k : Nat) (a0 : Int) (a1 : Int) (a2 : Int) : Option (Int) := isthmusref20_Bound.l0 k a1 (mn (mx a0 0) 2147483648) ((mn (mx a2 0) 2147483648) + 1) 0
set_option maxHeartbeats 8000000 in
set_option maxRecDepth 100000 in
theorem isthmusref20_Bound.calls (k : Nat) (a0 : Int) (a1 : Int) (a2 : Int) (r : Int) (w : World) (h : isthmusref20_Bound.f k a0 a1 a2 = some r) :
  Calls Tryd.prog 16 #[.int .i64 a0, .int .i64 a1, .int .i64 a2] w fun e w' => e = .returned (.int .i64 r) ∧ Below w.heap.size w w' := by
 have HB := Aside0.mk (Below.refl w.heap.size w)
 have H : (isthmusref20_Bound.l0 k a1 (mn (mx a0 0) 2147483648) ((mn (mx a2 0) 2147483648) + 1) 0) = some r := h
 clear h
 obtain ⟨ji4, hji4⟩ : ∃ j_ : Int, (mx a0 0) = j_ := ⟨_, rfl⟩
 replace H : (isthmusref20_Bound.l0 k a1 (mn (ji4) 2147483648) ((mn (mx a2 0) 2147483648) + 1) 0) = some r := by first | (rw [hji4] at H; exact H) | (simp only [hji4] at H ⊢; exact H)
 (try (have hji4l : 0 ≤ ji4 := by (rw [← hji4]; unfold mx; (repeat' split) <;> omega)))
 (try (have hji4m : 0 ≤ ji4 := by omega))
 have hji4_ : (if a0 < 0 then 0 else a0) = ji4 := hji4
 obtain ⟨ji5, hji5⟩ : ∃ j_ : Int, (mn (ji4) 2147483648) = j_ := ⟨_, rfl⟩
 replace H : (isthmusref20_Bound.l0 k a1 ji5 ((mn (mx a2 0) 2147483648) + 1) 0) = some r := by first | (rw [hji5] at H; exact H) | (simp only [hji5] at H ⊢; exact H)
 have hji5_ : (if 2147483648 < (ji4) then 2147483648 else (ji4)) = ji5 := hji5
 obtain ⟨ji6, hji6⟩ : ∃ j_ : Int, (mx a2 0) = j_ := ⟨_, rfl⟩
 replace H : (isthmusref20_Bound.l0 k a1 ji5 ((mn (ji6) 2147483648) + 1) 0) = some r := by first | (rw [hji6] at H; exact H) | (simp only [hji6] at H ⊢; exact H)
 (try (have hji6l : 0 ≤ ji6 := by (rw [← hji6]; unfold mx; (repeat' split) <;> omega)))
 (try (have hji6m : 0 ≤ ji6 := by omega))
 have hji6_ : (if a2 < 0 then 0 else a2) = ji6 := hji6
 obtain ⟨ji7, hji7⟩ : ∃ j_ : Int, (mn (ji6) 2147483648) = j_ := ⟨_, rfl⟩
 replace H : (isthmusref20_Bound.l0 k a1 ji5 ((ji7) + 1) 0) = some r := by first | (rw [hji7] at H; exact H) | (simp only [hji7] at H ⊢; exact H)
 have hji7_ : (if 2147483648 < (ji6) then 2147483648 else (ji6)) = ji7 := hji7
 have H' := Aside0.mk H
 clear H
 go_enter Tryd.func16, Tryd.ntmps16
 go_wp2
 go_loopg [7, 9] k (fun kq v7 v9 w' => ∃ (x7_1 : Int) (x9_1 : Int), v7 = .int .i64 x7_1 ∧ v9 = .int .i64 x9_1 ∧ Aside0 (isthmusref20_Bound.l0 kq a1 x7_1 ((ji7) + 1) x9_1 = some r) ∧ Aside0 (kq ≤ k) ∧ Aside0 (Below w.heap.size w w'))
 case atStart => exact ⟨(ji5), (0), (by first | rfl | (simp; done) | (simp only [← hji5] <;> (first | rfl | simp)) | (simp [*]; done)), (by first | rfl | (simp; done) | (simp [*]; done)), H', ⟨Nat.le_refl _⟩, ⟨by repeat (first | (with_reducible first | exact HB.out | apply below_alloc | apply pw_below_drewN | apply below_drew1) | exact HB.out)⟩⟩
 case round =>
  clear H'
  try clear c1
  try clear p2
  obtain ⟨x7_1, x9_1, rfl, rfl, HA, HK1, HB⟩ := hrel
  cases gk with
  | zero => exact absurd HA.out (by simp [isthmusref20_Bound.l0])
  | succ k1 =>
   have H := HA.out
   clear HA
   simp only [isthmusref20_Bound.l0] at H
   obtain ⟨ji8, hji8⟩ : ∃ j_ : Int, (mx a1 0) = j_ := ⟨_, rfl⟩
   replace H : (if x9_1 < (mn (ji8) 4) then (if x7_1 > 0 then (if x7_1 = 0 then (none) else (if ((ji7) + 1) > (wrap64 ((4611686018427387904 : Int) / x7_1)) then (some 4611686018427387904) else (isthmusref20_Bound.l0 k1 a1 (wrap64 (x7_1 * ((ji7) + 1))) ((ji7) + 1) (wrap64 (x9_1 + 1))))) else (isthmusref20_Bound.l0 k1 a1 (wrap64 (x7_1 * ((ji7) + 1))) ((ji7) + 1) (wrap64 (x9_1 + 1)))) else (some (mn x7_1 4611686018427387904))) = some r := by first | (rw [hji8] at H; exact H) | (simp only [hji8] at H ⊢; exact H)
   (try (have hji8l : 0 ≤ ji8 := by (rw [← hji8]; unfold mx; (repeat' split) <;> omega)))
   (try (have hji8m : 0 ≤ ji8 := by omega))
   have hji8_ : (if a1 < 0 then 0 else a1) = ji8 := hji8
   obtain ⟨ji9, hji9⟩ : ∃ j_ : Int, (mn (ji8) 4) = j_ := ⟨_, rfl⟩
   replace H : (if x9_1 < (ji9) then (if x7_1 > 0 then (if x7_1 = 0 then (none) else (if ((ji7) + 1) > (wrap64 ((4611686018427387904 : Int) / x7_1)) then (some 4611686018427387904) else (isthmusref20_Bound.l0 k1 a1 (wrap64 (x7_1 * ((ji7) + 1))) ((ji7) + 1) (wrap64 (x9_1 + 1))))) else (isthmusref20_Bound.l0 k1 a1 (wrap64 (x7_1 * ((ji7) + 1))) ((ji7) + 1) (wrap64 (x9_1 + 1)))) else (some (mn x7_1 4611686018427387904))) = some r := by first | (rw [hji9] at H; exact H) | (simp only [hji9] at H ⊢; exact H)
   have hji9_ : (if 4 < (ji8) then 4 else (ji8)) = ji9 := hji9
   by_cases c10 : x9_1 < (ji9)
   ·rw [if_pos c10] at H
    have c10b0 : decide (x9_1 < (ji9)) = true := decide_eq_true c10
    clear c10
    by_cases c11 : x7_1 > 0
    ·rw [if_pos c11] at H
     have c11b0 : decide (0 < x7_1) = true := decide_eq_true c11
     clear c11
     by_cases c12 : x7_1 = 0
     ·rw [if_pos c12] at H
      exact absurd H (by simp)
     ·rw [if_neg c12] at H
      have c12b0 : (x7_1 == 0) = false := beq_eq_false_iff_ne.mpr c12
      have c12b1 : (x7_1 != 0) = true := bne_iff_ne.mpr c12
      by_cases c13 : ((ji7) + 1) > (wrap64 ((4611686018427387904 : Int) / x7_1))
      ·rw [if_pos c13] at H
       have c13b0 : decide ((wrap64 ((4611686018427387904 : Int) / x7_1)) < ((ji7) + 1)) = true := decide_eq_true c13
       have c13b0t : decide ((wrap64 (Int.tdiv 4611686018427387904 x7_1)) < ((ji7) + 1)) = true := by rw [Int.tdiv_eq_ediv_of_nonneg (by decide)]; exact c13b0
       clear c13
       obtain rfl := Option.some.inj H
       go_wp2
       go_ret
       exact ⟨by first | rfl | (simp [errW_none, errW_some] <;> rfl) | (simp only [← hji4, ← hji5, ← hji6, ← hji7, ← hji8, ← hji9]; first | rfl | (simp [errW_none, errW_some] <;> rfl)) | (simp [*, errW_none, errW_some] <;> rfl), by repeat (first | (with_reducible first | exact HB.out | apply below_alloc | apply pw_below_drewN | apply below_drew1) | exact HB.out)⟩
      ·rw [if_neg c13] at H
       have c13b0 : decide ((wrap64 ((4611686018427387904 : Int) / x7_1)) < ((ji7) + 1)) = false := decide_eq_false c13
       have c13b0t : decide ((wrap64 (Int.tdiv 4611686018427387904 x7_1)) < ((ji7) + 1)) = false := by rw [Int.tdiv_eq_ediv_of_nonneg (by decide)]; exact c13b0
       clear c13
       have H' := Aside0.mk H
       clear H
       go_wp2
       go_roundg k1
       case measure => have := HK1.out; omega
       case rel => exact ⟨(wrap64 (x7_1 * ((ji7) + 1))), (wrap64 (x9_1 + 1)), (by first | rfl | (simp; done) | (simp only [← hji7] <;> (first | rfl | simp)) | (simp [*]; done)), (by first | rfl | (simp; done) | (simp [*]; done)), H', ⟨by have := HK1.out; omega⟩, ⟨by repeat (first | (with_reducible first | exact HB.out | apply below_alloc | apply pw_below_drewN | apply below_drew1) | exact HB.out)⟩⟩
    ·rw [if_neg c11] at H
     have c11b0 : decide (0 < x7_1) = false := decide_eq_false c11
     clear c11
     have H' := Aside0.mk H
     clear H
     go_wp2
     go_roundg k1
     case measure => have := HK1.out; omega
     case rel => exact ⟨(wrap64 (x7_1 * ((ji7) + 1))), (wrap64 (x9_1 + 1)), (by first | rfl | (simp; done) | (simp only [← hji7] <;> (first | rfl | simp)) | (simp [*]; done)), (by first | rfl | (simp; done) | (simp [*]; done)), H', ⟨by have := HK1.out; omega⟩, ⟨by repeat (first | (with_reducible first | exact HB.out | apply below_alloc | apply pw_below_drewN | apply below_drew1) | exact HB.out)⟩⟩
   ·rw [if_neg c10] at H
    have c10b0 : decide (x9_1 < (ji9)) = false := decide_eq_false c10
    clear c10
    obtain ⟨ji14, hji14⟩ : ∃ j_ : Int, (mn x7_1 4611686018427387904) = j_ := ⟨_, rfl⟩
    replace H : (some ji14) = some r := by first | (rw [hji14] at H; exact H) | (simp only [hji14] at H ⊢; exact H)
    have hji14_ : (if 4611686018427387904 < x7_1 then 4611686018427387904 else x7_1) = ji14 := hji14
    obtain rfl := Option.some.inj H
    go_wp2
    go_ret
    exact ⟨by first | rfl | (simp [errW_none, errW_some] <;> rfl) | (simp only [← hji4, ← hji5, ← hji6, ← hji7, ← hji8, ← hji9, ← hji14]; first | rfl | (simp [errW_none, errW_some] <;> rfl)) | (simp [*, errW_none, errW_some] <;> rfl), by repeat (first | (with_reducible first | exact HB.out | apply below_alloc | apply pw_below_drewN | apply below_drew1) | exact HB.out)⟩
end Go.Proofs.YtcmdjpolgaejoaaDoor.D
