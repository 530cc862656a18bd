-- Laid by a program (wip/tools/gprint.py over the kit's printer) out of the translation. Lean checks it.
import Derived.Test.YtijcoddbkefmlaaLx0
import Derived.Test.YtijcoddbkefmlaaLx5
import Derived.Test.YtijcoddbkefmlaaLx8
import Derived.Test.YtijcoddbkefmlaaLx9
import Derived.Test.YtijcoddbkefmlaaLx16
namespace Go.Proofs.Ytijcoddbkefmlaa.L
open Go.RowKit Go.Proofs.YtijcoddbkefmlaaW.PrintWords Go.Proofs.YtijcoddbkefmlaaW.PrintLast Go.Proofs.YtijcoddbkefmlaaW.PrintMore
attribute [local go_sem] max2_int min2_int max_two min_two max_three min_three max_four min_four   -- for this text's walks alone
set_option linter.unusedVariables false
set_option linter.unusedSimpArgs false

/-! ### isthmuslaw11_LexSingle: function 8 -/
mutual
def isthmuslaw11_LexSingle.j0 : Nat → ByteArray → Bool → List (S29) → Bool → Option (Bool)
  | 0, _, _, _, _ => none
  | k + 1, x0, x3, x4, x25 => if x25 = true then (some x3) else (isthmuslaw11_LexSingle.l0 k x0 x4 0)
def isthmuslaw11_LexSingle.l0 : Nat → ByteArray → List (S29) → Int → Option (Bool)
  | 0, _, _, _ => none
  | k + 1, x0, x4, x7 => if (wrap64 (x7 + 1)) < (x4.length : Int) then (if 0 ≤ x7 then (if x7 < (x4.length : Int) then (if ((rd_T29 x4 x7).f3) < 0 then (isthmuslaw11_LexSingle.j2 k x0 x4 x7 true) else (if 0 ≤ (wrap64 (x7 + 1)) then (if ((rd_T29 x4 x7).f3) ≥ ((rd_T29 x4 (wrap64 (x7 + 1))).f3) then (isthmuslaw11_LexSingle.j2 k x0 x4 x7 true) else (isthmuslaw11_LexSingle.j2 k x0 x4 x7 (decide (((rd_T29 x4 (wrap64 (x7 + 1))).f3) > (x0.size : Int))))) else (none))) else (none)) else (none)) else (some true)
def isthmuslaw11_LexSingle.j2 : Nat → ByteArray → List (S29) → Int → Bool → Option (Bool)
  | 0, _, _, _, _ => none
  | k + 1, x0, x4, x7, x64 => if x64 = true then (some false) else ((isthmuslaw11_said.f k x0 x4 x7).bind fun t306 => ((lex_Scan.f k t306).bind fun bt307 => (if bt307.2.1 = 0 then (if (bt307.1.length : Int) = 2 then (if 0 < (bt307.1.length : Int) then (if 0 ≤ x7 then (if x7 < (x4.length : Int) then (if ((rd_T29 bt307.1 0).f0) = ((rd_T29 x4 x7).f0) then (if ((rd_T29 bt307.1 0).f1) = ((rd_T29 x4 x7).f1) then (if ((rd_T29 bt307.1 0).f2).toList = ((rd_T29 x4 x7).f2).toList then (if 1 < (bt307.1.length : Int) then (isthmuslaw11_LexSingle.j3 k x0 x4 x7 t306 (((rd_T29 bt307.1 1).f3) != (t306.size : Int))) else (none)) else (isthmuslaw11_LexSingle.j3 k x0 x4 x7 t306 true)) else (isthmuslaw11_LexSingle.j3 k x0 x4 x7 t306 true)) else (isthmuslaw11_LexSingle.j3 k x0 x4 x7 t306 true)) else (none)) else (none)) else (none)) else (isthmuslaw11_LexSingle.j3 k x0 x4 x7 t306 true)) else (isthmuslaw11_LexSingle.j3 k x0 x4 x7 t306 true))))
def isthmuslaw11_LexSingle.j3 : Nat → ByteArray → List (S29) → Int → ByteArray → Bool → Option (Bool)
  | 0, _, _, _, _, _ => none
  | k + 1, x0, x4, x7, x8, x126 => if x126 = true then (some false) else ((lex_IsName.f k x8).bind fun t319 => (if 0 ≤ x7 then (if x7 < (x4.length : Int) then (if (t319 != (((rd_T29 x4 x7).f0) == 2)) = true then (some false) else (isthmuslaw11_LexSingle.l0 k x0 x4 (wrap64 (x7 + 1)))) else (none)) else (none)))
end
def isthmuslaw11_LexSingle.f (k : Nat) (a0 : ByteArray) : Option (Bool) := (isthmuslaw11_awake.f k).bind fun t296 => ((lex_Scan.f k a0).bind fun bt297 => (if t296 = true then (isthmuslaw11_LexSingle.j0 k a0 t296 bt297.1 (bt297.2.1 != 0)) else (isthmuslaw11_LexSingle.j0 k a0 t296 bt297.1 true)))
theorem isthmuslaw11_LexSingle.mono_l : ∀ k, (∀ y0 y1 y2 y3, LeO (isthmuslaw11_LexSingle.j0 k y0 y1 y2 y3) (isthmuslaw11_LexSingle.j0 (k + 1) y0 y1 y2 y3)) ∧ (∀ y0 y1 y2, LeO (isthmuslaw11_LexSingle.l0 k y0 y1 y2) (isthmuslaw11_LexSingle.l0 (k + 1) y0 y1 y2)) ∧ (∀ y0 y1 y2 y3, LeO (isthmuslaw11_LexSingle.j2 k y0 y1 y2 y3) (isthmuslaw11_LexSingle.j2 (k + 1) y0 y1 y2 y3)) ∧ (∀ y0 y1 y2 y3 y4, LeO (isthmuslaw11_LexSingle.j3 k y0 y1 y2 y3 y4) (isthmuslaw11_LexSingle.j3 (k + 1) y0 y1 y2 y3 y4))
  | 0 => ⟨fun _ _ _ _ r h => by simp [isthmuslaw11_LexSingle.j0] at h, fun _ _ _ r h => by simp [isthmuslaw11_LexSingle.l0] at h, fun _ _ _ _ r h => by simp [isthmuslaw11_LexSingle.j2] at h, fun _ _ _ _ _ r h => by simp [isthmuslaw11_LexSingle.j3] at h⟩
  | k + 1 => by
    obtain ⟨ih0, ih1, ih2, ih3⟩ := isthmuslaw11_LexSingle.mono_l k
    refine ⟨?_, ?_, ?_, ?_⟩
    · intro y0 y1 y2 y3
      unfold isthmuslaw11_LexSingle.j0
      repeat' first
      | (with_reducible exact ih0 _ _ _ _)
      | (with_reducible exact ih1 _ _ _)
      | (with_reducible exact ih2 _ _ _ _)
      | (with_reducible exact ih3 _ _ _ _ _)
      | (with_reducible exact isthmuslaw11_awake.mono _)
      | (with_reducible exact isthmuslaw11_said.mono _ _ _ _)
      | (with_reducible exact lex_IsName.mono _ _)
      | (with_reducible exact lex_Scan.mono _ _)
      | (with_reducible exact LeO.refl _)
      | (with_reducible exact LeO.none _)
      | (with_reducible refine LeO.ite ?_ ?_)
      | (with_reducible refine LeO.bind ?_ (fun _ => ?_))
      | exact ih0 _ _ _ _
      | exact ih1 _ _ _
      | exact ih2 _ _ _ _
      | exact ih3 _ _ _ _ _
      | exact isthmuslaw11_awake.mono _
      | exact isthmuslaw11_said.mono _ _ _ _
      | exact lex_IsName.mono _ _
      | exact lex_Scan.mono _ _
      | exact LeO.none _
      | refine LeO.ite ?_ ?_
      | refine LeO.bind ?_ (fun _ => ?_)
    · intro y0 y1 y2
      unfold isthmuslaw11_LexSingle.l0
      repeat' first
      | (with_reducible exact ih0 _ _ _ _)
      | (with_reducible exact ih1 _ _ _)
      | (with_reducible exact ih2 _ _ _ _)
      | (with_reducible exact ih3 _ _ _ _ _)
      | (with_reducible exact isthmuslaw11_awake.mono _)
      | (with_reducible exact isthmuslaw11_said.mono _ _ _ _)
      | (with_reducible exact lex_IsName.mono _ _)
      | (with_reducible exact lex_Scan.mono _ _)
      | (with_reducible exact LeO.refl _)
      | (with_reducible exact LeO.none _)
      | (with_reducible refine LeO.ite ?_ ?_)
      | (with_reducible refine LeO.bind ?_ (fun _ => ?_))
      | exact ih0 _ _ _ _
      | exact ih1 _ _ _
      | exact ih2 _ _ _ _
      | exact ih3 _ _ _ _ _
      | exact isthmuslaw11_awake.mono _
      | exact isthmuslaw11_said.mono _ _ _ _
      | exact lex_IsName.mono _ _
      | exact lex_Scan.mono _ _
      | exact LeO.none _
      | refine LeO.ite ?_ ?_
      | refine LeO.bind ?_ (fun _ => ?_)
    · intro y0 y1 y2 y3
      unfold isthmuslaw11_LexSingle.j2
      repeat' first
      | (with_reducible exact ih0 _ _ _ _)
      | (with_reducible exact ih1 _ _ _)
      | (with_reducible exact ih2 _ _ _ _)
      | (with_reducible exact ih3 _ _ _ _ _)
      | (with_reducible exact isthmuslaw11_awake.mono _)
      | (with_reducible exact isthmuslaw11_said.mono _ _ _ _)
      | (with_reducible exact lex_IsName.mono _ _)
      | (with_reducible exact lex_Scan.mono _ _)
      | (with_reducible exact LeO.refl _)
      | (with_reducible exact LeO.none _)
      | (with_reducible refine LeO.ite ?_ ?_)
      | (with_reducible refine LeO.bind ?_ (fun _ => ?_))
      | exact ih0 _ _ _ _
      | exact ih1 _ _ _
      | exact ih2 _ _ _ _
      | exact ih3 _ _ _ _ _
      | exact isthmuslaw11_awake.mono _
      | exact isthmuslaw11_said.mono _ _ _ _
      | exact lex_IsName.mono _ _
      | exact lex_Scan.mono _ _
      | exact LeO.none _
      | refine LeO.ite ?_ ?_
      | refine LeO.bind ?_ (fun _ => ?_)
    · intro y0 y1 y2 y3 y4
      unfold isthmuslaw11_LexSingle.j3
      repeat' first
      | (with_reducible exact ih0 _ _ _ _)
      | (with_reducible exact ih1 _ _ _)
      | (with_reducible exact ih2 _ _ _ _)
      | (with_reducible exact ih3 _ _ _ _ _)
      | (with_reducible exact isthmuslaw11_awake.mono _)
      | (with_reducible exact isthmuslaw11_said.mono _ _ _ _)
      | (with_reducible exact lex_IsName.mono _ _)
      | (with_reducible exact lex_Scan.mono _ _)
      | (with_reducible exact LeO.refl _)
      | (with_reducible exact LeO.none _)
      | (with_reducible refine LeO.ite ?_ ?_)
      | (with_reducible refine LeO.bind ?_ (fun _ => ?_))
      | exact ih0 _ _ _ _
      | exact ih1 _ _ _
      | exact ih2 _ _ _ _
      | exact ih3 _ _ _ _ _
      | exact isthmuslaw11_awake.mono _
      | exact isthmuslaw11_said.mono _ _ _ _
      | exact lex_IsName.mono _ _
      | exact lex_Scan.mono _ _
      | exact LeO.none _
      | refine LeO.ite ?_ ?_
      | refine LeO.bind ?_ (fun _ => ?_)
theorem isthmuslaw11_LexSingle.mono : ∀ a0 k, LeO (isthmuslaw11_LexSingle.f k a0) (isthmuslaw11_LexSingle.f (k + 1) a0) := by
  intro a0 k
  obtain ⟨ih0, ih1, ih2, ih3⟩ := isthmuslaw11_LexSingle.mono_l k
  unfold isthmuslaw11_LexSingle.f
  repeat' first
      | (with_reducible exact ih0 _ _ _ _)
      | (with_reducible exact ih1 _ _ _)
      | (with_reducible exact ih2 _ _ _ _)
      | (with_reducible exact ih3 _ _ _ _ _)
      | (with_reducible exact isthmuslaw11_awake.mono _)
      | (with_reducible exact isthmuslaw11_said.mono _ _ _ _)
      | (with_reducible exact lex_IsName.mono _ _)
      | (with_reducible exact lex_Scan.mono _ _)
      | (with_reducible exact LeO.refl _)
      | (with_reducible exact LeO.none _)
      | (with_reducible refine LeO.ite ?_ ?_)
      | (with_reducible refine LeO.bind ?_ (fun _ => ?_))
      | exact ih0 _ _ _ _
      | exact ih1 _ _ _
      | exact ih2 _ _ _ _
      | exact ih3 _ _ _ _ _
      | exact isthmuslaw11_awake.mono _
      | exact isthmuslaw11_said.mono _ _ _ _
      | exact lex_IsName.mono _ _
      | exact lex_Scan.mono _ _
      | exact LeO.none _
      | refine LeO.ite ?_ ?_
      | refine LeO.bind ?_ (fun _ => ?_)
set_option maxHeartbeats 8000000 in
set_option maxRecDepth 100000 in
theorem isthmuslaw11_LexSingle.calls (k : Nat) (a0 : ByteArray) (r : Bool) (w : World) (h : isthmuslaw11_LexSingle.f k a0 = some r) :
    Calls Try.prog 8 #[.string a0] w fun e w' => e = .returned (.bool r) ∧ Below w.heap.size w w' := by
  have HB := Aside0.mk (Below.refl w.heap.size w)
  have H : ((isthmuslaw11_awake.f k).bind fun t296 => ((lex_Scan.f k a0).bind fun bt297 => (if t296 = true then (isthmuslaw11_LexSingle.j0 k a0 t296 bt297.1 (bt297.2.1 != 0)) else (isthmuslaw11_LexSingle.j0 k a0 t296 bt297.1 true)))) = some r := h
  clear h
  replace H := Option.bind_eq_some_iff.mp H
  obtain ⟨t296, A20, H⟩ := H
  replace H : ((lex_Scan.f k a0).bind fun bt297 => (if t296 = true then (isthmuslaw11_LexSingle.j0 k a0 t296 bt297.1 (bt297.2.1 != 0)) else (isthmuslaw11_LexSingle.j0 k a0 t296 bt297.1 true))) = some r := H
  have A2 := Aside0.mk A20
  clear A20
  replace H := Option.bind_eq_some_iff.mp H
  obtain ⟨⟨t297, t300, t301⟩, A30, H⟩ := H
  replace H : (if t296 = true then (isthmuslaw11_LexSingle.j0 k a0 t296 t297 (t300 != 0)) else (isthmuslaw11_LexSingle.j0 k a0 t296 t297 true)) = some r := H
  have A3 := Aside0.mk A30
  clear A30
  have HC4 := Aside0.mk H
  clear H
  go_enter Try.func8, Try.ntmps8
  go_upto_region 3 with (first | (go_at_call 9; (with_reducible refine (isthmuslaw11_awake.calls k  t296 _ A2.out).mono ?_); rintro e w5 ⟨rfl, hb⟩; have n0_ := Aside0.mk (below_step (by repeat (first | (with_reducible first | exact HB.out | apply below_alloc | apply pw_below_drewN | apply below_drew1) | exact HB.out)) hb); clear HB; have HB := n0_; clear n0_; (try clear hb); (try clear hb2); (try clear hk); (try clear hi)) | (go_at_call 11; (with_reducible refine (lex_Scan.calls k a0 t297 t300 t301 _ A3.out).mono ?_); rintro e w6 ⟨v298, rfl, ho0, hb⟩; have n0_ := Aside0.mk (Kd.V_lower (Kd.V_mono (ok' := fun k_ => True) ho0 (fun k_ hk_ => trivial)) (below_size (by repeat (first | (with_reducible first | exact HB.out | apply below_alloc | apply pw_below_drewN | apply below_drew1) | exact HB.out)))); have n1_ := Aside0.mk (below_step (by repeat (first | (with_reducible first | exact HB.out | apply below_alloc | apply pw_below_drewN | apply below_drew1) | exact HB.out)) hb); clear HB; have HO299 := n0_; have HB := n1_; clear n0_ n1_; (try clear hb); (try clear hb2); (try clear hk); (try clear hi); (try clear ho0)))
  repeat (go_quiet (first | (go_at_call 9; (with_reducible refine (isthmuslaw11_awake.calls k  t296 _ A2.out).mono ?_); rintro e w5 ⟨rfl, hb⟩; have n0_ := Aside0.mk (below_step (by repeat (first | (with_reducible first | exact HB.out | apply below_alloc | apply pw_below_drewN | apply below_drew1) | exact HB.out)) hb); clear HB; have HB := n0_; clear n0_; (try clear hb); (try clear hb2); (try clear hk); (try clear hi)) | (go_at_call 11; (with_reducible refine (lex_Scan.calls k a0 t297 t300 t301 _ A3.out).mono ?_); rintro e w6 ⟨v298, rfl, ho0, hb⟩; have n0_ := Aside0.mk (Kd.V_lower (Kd.V_mono (ok' := fun k_ => True) ho0 (fun k_ hk_ => trivial)) (below_size (by repeat (first | (with_reducible first | exact HB.out | apply below_alloc | apply pw_below_drewN | apply below_drew1) | exact HB.out)))); have n1_ := Aside0.mk (below_step (by repeat (first | (with_reducible first | exact HB.out | apply below_alloc | apply pw_below_drewN | apply below_drew1) | exact HB.out)) hb); clear HB; have HO299 := n0_; have HB := n1_; clear n0_ n1_; (try clear hb); (try clear hb2); (try clear hk); (try clear hi); (try clear ho0))); go_upto_region 3 with (first | (go_at_call 9; (with_reducible refine (isthmuslaw11_awake.calls k  t296 _ A2.out).mono ?_); rintro e w5 ⟨rfl, hb⟩; have n0_ := Aside0.mk (below_step (by repeat (first | (with_reducible first | exact HB.out | apply below_alloc | apply pw_below_drewN | apply below_drew1) | exact HB.out)) hb); clear HB; have HB := n0_; clear n0_; (try clear hb); (try clear hb2); (try clear hk); (try clear hi)) | (go_at_call 11; (with_reducible refine (lex_Scan.calls k a0 t297 t300 t301 _ A3.out).mono ?_); rintro e w6 ⟨v298, rfl, ho0, hb⟩; have n0_ := Aside0.mk (Kd.V_lower (Kd.V_mono (ok' := fun k_ => True) ho0 (fun k_ hk_ => trivial)) (below_size (by repeat (first | (with_reducible first | exact HB.out | apply below_alloc | apply pw_below_drewN | apply below_drew1) | exact HB.out)))); have n1_ := Aside0.mk (below_step (by repeat (first | (with_reducible first | exact HB.out | apply below_alloc | apply pw_below_drewN | apply below_drew1) | exact HB.out)) hb); clear HB; have HO299 := n0_; have HB := n1_; clear n0_ n1_; (try clear hb); (try clear hb2); (try clear hk); (try clear hi); (try clear ho0))))
  (try simp only [Act.put, List.setIfInBounds_toArray, List.set_cons_zero, List.set_cons_succ])
  go_cut [25] (fun v25 wc => ∃ (kq : Nat) (x25_3 : Bool), v25 = .bool x25_3 ∧ Aside0 (isthmuslaw11_LexSingle.j0 kq a0 t296 t297 x25_3 = some r) ∧ Aside0 (kq ≤ k) ∧ Aside0 (Kd.V k29 29 wc w.heap.size (fun _ => True) v298 t297) ∧ Aside0 (Below w.heap.size w wc))
  case first =>
    have H := HC4.out
    clear HC4
    by_cases c7 : t296 = true
    · subst c7
      have H1 : (isthmuslaw11_LexSingle.j0 k a0 true t297 (t300 != 0)) = some r := by rw [if_pos rfl] at H; exact H
      clear H
      have H := H1
      clear H1
      have H' := Aside0.mk H
      clear H
      go_wp2
      repeat (go_quiet (fail); try go_wp2)
      go_meet
      case rel => exact ⟨_, ((t300 != 0)), (by first | rfl | (simp; done) | (simp [*]; done)), H', ⟨by first | omega | exact Nat.le_refl _⟩, ⟨by (with_reducible repeat (first | apply Kd.V_alloc | apply Kd.V_drewN | apply Kd.V_drew)); exact HO299.out⟩, ⟨by repeat (first | (with_reducible first | exact HB.out | apply below_alloc | apply pw_below_drewN | apply below_drew1) | exact HB.out)⟩⟩
    · replace c7 := Bool.eq_false_iff.mpr c7
      subst c7
      have H1 : (isthmuslaw11_LexSingle.j0 k a0 false t297 true) = some r := by rw [if_neg (show ¬ (false = true) by decide)] at H; exact H
      clear H
      have H := H1
      clear H1
      have H' := Aside0.mk H
      clear H
      go_wp2
      repeat (go_quiet (fail); try go_wp2)
      go_meet
      case rel => exact ⟨_, (true), (by first | rfl | (simp; done) | (simp [*]; done)), H', ⟨by first | omega | exact Nat.le_refl _⟩, ⟨by (with_reducible repeat (first | apply Kd.V_alloc | apply Kd.V_drewN | apply Kd.V_drew)); exact HO299.out⟩, ⟨by repeat (first | (with_reducible first | exact HB.out | apply below_alloc | apply pw_below_drewN | apply below_drew1) | exact HB.out)⟩⟩
  case rest =>
    clear HC4
    try clear p2
    try clear c7
    obtain ⟨kq, x25_3, rfl, HA, HJ3, HO_4, HB⟩ := hcut
    cases kq with
    | zero => exact absurd HA.out (by simp [isthmuslaw11_LexSingle.j0])
    | succ kj3 =>
      have H := HA.out
      clear HA
      simp only [isthmuslaw11_LexSingle.j0] at H
      by_cases c8 : x25_3 = true
      · subst c8
        have H1 : (some t296) = some r := by rw [if_pos rfl] at H; exact H
        clear H
        have H := H1
        clear H1
        obtain rfl := Option.some.inj H
        go_wp2
        repeat (go_quiet (fail); try go_wp2)
        go_ret
        exact ⟨by first | rfl | (simp [errW_none, errW_some] <;> rfl) | (simp [*, errW_none, errW_some] <;> rfl), by repeat (first | (with_reducible first | exact HB.out | apply below_alloc | apply pw_below_drewN | apply below_drew1) | exact HB.out)⟩
      · replace c8 := Bool.eq_false_iff.mpr c8
        subst c8
        have H1 : (isthmuslaw11_LexSingle.l0 kj3 a0 t297 0) = some r := by rw [if_neg (show ¬ (false = true) by decide)] at H; exact H
        clear H
        have H := H1
        clear H1
        have H' := Aside0.mk H
        clear H
        go_wp2
        repeat (go_quiet (fail); try go_wp2)
        go_loopg [7] kj3 (fun kq v7 w' => ∃ (x7_2 : Int), v7 = .int .i64 x7_2 ∧ Aside0 (isthmuslaw11_LexSingle.l0 kq a0 t297 x7_2 = some r) ∧ Aside0 (kq ≤ kj3) ∧ Aside0 (Kd.V k29 29 w' w.heap.size (fun _ => True) v298 t297) ∧ Aside0 (Below w.heap.size w w'))
        case atStart => exact ⟨(0), (by first | rfl | (simp; done) | (simp [*]; done)), H', ⟨Nat.le_refl _⟩, ⟨by (with_reducible repeat (first | apply Kd.V_alloc | apply Kd.V_drewN | apply Kd.V_drew)); exact HO_4.out⟩, ⟨by repeat (first | (with_reducible first | exact HB.out | apply below_alloc | apply pw_below_drewN | apply below_drew1) | exact HB.out)⟩⟩
        case round =>
          clear H'
          try clear p2
          try clear c7
          try clear c8
          try clear p2
          obtain ⟨x7_2, rfl, HA, HK2, HO_4, HB⟩ := hrel
          cases gk with
          | zero => exact absurd HA.out (by simp [isthmuslaw11_LexSingle.l0])
          | succ k2 =>
            have H := HA.out
            clear HA
            simp only [isthmuslaw11_LexSingle.l0] at H
            by_cases c9 : (wrap64 (x7_2 + 1)) < (t297.length : Int)
            · rw [if_pos c9] at H
              have c9b0 : decide ((wrap64 (x7_2 + 1)) < (t297.length : Int)) = true := decide_eq_true c9
              clear c9
              have HC10 := Aside0.mk H
              clear H
              obtain ⟨Ao11, co11, eo11⟩ := Kd.V_slice HO_4.out
              subst eo11
              go_upto_region 8 with (fail)
              repeat (go_quiet (fail); go_upto_region 8 with (fail))
              go_cut [64] (fun v64 wc => ∃ (kq : Nat) (x64_9 : Bool), v64 = .bool x64_9 ∧ Aside0 (isthmuslaw11_LexSingle.j2 kq a0 t297 x7_2 x64_9 = some r) ∧ Aside0 (kq ≤ k2) ∧ Aside0 (Kd.V k29 29 wc w.heap.size (fun _ => True) (.slice Ao11 t297.length co11) t297) ∧ Aside0 (Below w.heap.size w wc))
              case first =>
                have H := HC10.out
                clear HC10
                by_cases c12 : 0 ≤ x7_2
                · rw [if_pos c12] at H
                  have c12b0 : decide (0 ≤ x7_2) = true := decide_eq_true c12
                  clear c12
                  (first | rw [c12b0] | (simp only [i64_w, i32_w]; rw [c12b0]) | skip)
                  by_cases c13 : x7_2 < (t297.length : Int)
                  · rw [if_pos c13] at H
                    have c13b0 : decide (x7_2 < (t297.length : Int)) = true := decide_eq_true c13
                    clear c13
                    by_cases c14 : ((rd_T29 t297 x7_2).f3) < 0
                    · rw [if_pos c14] at H
                      have c14b0 : decide (((rd_T29 t297 x7_2).f3) < 0) = true := decide_eq_true c14
                      clear c14
                      have H' := Aside0.mk H
                      clear H
                      have p302 : 0 ≤ (x7_2 : Int) := of_decide_eq_true (by first | (with_reducible assumption) | assumption)
                      have q302 : x7_2 < (t297.length : Int) := of_decide_eq_true (by first | (with_reducible assumption) | assumption)
                      obtain ⟨ad302, e302, hx302_0, hx302_1, hx302_2, hx302_3⟩ := at_T29 (Kd.V_reads' HO_4.out).2.2 x7_2 p302 q302
                      cases e302
                      replace p302 := eq_true p302
                      replace q302 := eq_true q302
                      go_wp2
                      repeat (go_quiet (fail); try go_wp2)
                      go_meet
                      case rel => exact ⟨_, (true), (by first | rfl | (simp; done) | (simp [*]; done)), H', ⟨by have := HJ3.out; have := HK2.out; first | omega | exact Nat.le_refl _⟩, ⟨by (with_reducible repeat (first | apply Kd.V_alloc | apply Kd.V_drewN | apply Kd.V_drew)); exact HO_4.out⟩, ⟨by repeat (first | (with_reducible first | exact HB.out | apply below_alloc | apply pw_below_drewN | apply below_drew1) | exact HB.out)⟩⟩
                    · rw [if_neg c14] at H
                      have c14b0 : decide (((rd_T29 t297 x7_2).f3) < 0) = false := decide_eq_false c14
                      clear c14
                      obtain ⟨ji15, hji15⟩ : ∃ j_ : Int, (wrap64 (x7_2 + 1)) = j_ := ⟨_, rfl⟩
                      replace H : (if 0 ≤ (ji15) then (if ((rd_T29 t297 x7_2).f3) ≥ ((rd_T29 t297 (ji15)).f3) then (isthmuslaw11_LexSingle.j2 k2 a0 t297 x7_2 true) else (isthmuslaw11_LexSingle.j2 k2 a0 t297 x7_2 (decide (((rd_T29 t297 (ji15)).f3) > (a0.size : Int))))) else (none)) = some r := by first | (rw [hji15] at H; exact H) | (simp only [hji15] at H ⊢; exact H)
                      (try rw [hji15] at c9b0)
                      have hji15w : (IntKind.i64.wrap (x7_2 + 1)) = ji15 := (i64_w _).trans hji15
                      by_cases c16 : 0 ≤ (ji15)
                      · rw [if_pos c16] at H
                        have c16b0 : decide (0 ≤ (ji15)) = true := decide_eq_true c16
                        clear c16
                        by_cases c17 : ((rd_T29 t297 x7_2).f3) ≥ ((rd_T29 t297 (ji15)).f3)
                        · rw [if_pos c17] at H
                          have c17b0 : decide (((rd_T29 t297 (ji15)).f3) ≤ ((rd_T29 t297 x7_2).f3)) = true := decide_eq_true c17
                          clear c17
                          have H' := Aside0.mk H
                          clear H
                          have p302 : 0 ≤ (x7_2 : Int) := of_decide_eq_true (by first | (with_reducible assumption) | assumption)
                          have q302 : x7_2 < (t297.length : Int) := of_decide_eq_true (by first | (with_reducible assumption) | assumption)
                          obtain ⟨ad302, e302, hx302_0, hx302_1, hx302_2, hx302_3⟩ := at_T29 (Kd.V_reads' HO_4.out).2.2 x7_2 p302 q302
                          cases e302
                          replace p302 := eq_true p302
                          replace q302 := eq_true q302
                          have p303 : 0 ≤ (x7_2 : Int) := of_decide_eq_true (by first | (with_reducible assumption) | assumption)
                          have q303 : x7_2 < (t297.length : Int) := of_decide_eq_true (by first | (with_reducible assumption) | assumption)
                          obtain ⟨ad303, e303, hx303_0, hx303_1, hx303_2, hx303_3⟩ := at_T29 (Kd.V_reads' HO_4.out).2.2 x7_2 p303 q303
                          obtain rfl : ad302 = ad303 := (by injection e303)
                          replace p303 := eq_true p303
                          replace q303 := eq_true q303
                          have p304 : 0 ≤ ((ji15) : Int) := of_decide_eq_true (by first | (with_reducible assumption) | assumption)
                          have q304 : (ji15) < (t297.length : Int) := of_decide_eq_true (by first | (with_reducible assumption) | assumption)
                          obtain ⟨ad304, e304, hx304_0, hx304_1, hx304_2, hx304_3⟩ := at_T29 (Kd.V_reads' HO_4.out).2.2 (ji15) p304 q304
                          obtain rfl : ad302 = ad304 := (by injection e304)
                          replace p304 := eq_true p304
                          replace q304 := eq_true q304
                          go_wp2
                          repeat (go_quiet (fail); try go_wp2)
                          go_meet
                          case rel => exact ⟨_, (true), (by first | rfl | (simp; done) | (simp [*]; done)), H', ⟨by have := HJ3.out; have := HK2.out; first | omega | exact Nat.le_refl _⟩, ⟨by (with_reducible repeat (first | apply Kd.V_alloc | apply Kd.V_drewN | apply Kd.V_drew)); exact HO_4.out⟩, ⟨by repeat (first | (with_reducible first | exact HB.out | apply below_alloc | apply pw_below_drewN | apply below_drew1) | exact HB.out)⟩⟩
                        · rw [if_neg c17] at H
                          have c17b0 : decide (((rd_T29 t297 (ji15)).f3) ≤ ((rd_T29 t297 x7_2).f3)) = false := decide_eq_false c17
                          clear c17
                          have H' := Aside0.mk H
                          clear H
                          have p302 : 0 ≤ (x7_2 : Int) := of_decide_eq_true (by first | (with_reducible assumption) | assumption)
                          have q302 : x7_2 < (t297.length : Int) := of_decide_eq_true (by first | (with_reducible assumption) | assumption)
                          obtain ⟨ad302, e302, hx302_0, hx302_1, hx302_2, hx302_3⟩ := at_T29 (Kd.V_reads' HO_4.out).2.2 x7_2 p302 q302
                          cases e302
                          replace p302 := eq_true p302
                          replace q302 := eq_true q302
                          have p303 : 0 ≤ (x7_2 : Int) := of_decide_eq_true (by first | (with_reducible assumption) | assumption)
                          have q303 : x7_2 < (t297.length : Int) := of_decide_eq_true (by first | (with_reducible assumption) | assumption)
                          obtain ⟨ad303, e303, hx303_0, hx303_1, hx303_2, hx303_3⟩ := at_T29 (Kd.V_reads' HO_4.out).2.2 x7_2 p303 q303
                          obtain rfl : ad302 = ad303 := (by injection e303)
                          replace p303 := eq_true p303
                          replace q303 := eq_true q303
                          have p304 : 0 ≤ ((ji15) : Int) := of_decide_eq_true (by first | (with_reducible assumption) | assumption)
                          have q304 : (ji15) < (t297.length : Int) := of_decide_eq_true (by first | (with_reducible assumption) | assumption)
                          obtain ⟨ad304, e304, hx304_0, hx304_1, hx304_2, hx304_3⟩ := at_T29 (Kd.V_reads' HO_4.out).2.2 (ji15) p304 q304
                          obtain rfl : ad302 = ad304 := (by injection e304)
                          replace p304 := eq_true p304
                          replace q304 := eq_true q304
                          have p305 : 0 ≤ ((ji15) : Int) := of_decide_eq_true (by first | (with_reducible assumption) | assumption)
                          have q305 : (ji15) < (t297.length : Int) := of_decide_eq_true (by first | (with_reducible assumption) | assumption)
                          obtain ⟨ad305, e305, hx305_0, hx305_1, hx305_2, hx305_3⟩ := at_T29 (Kd.V_reads' HO_4.out).2.2 (ji15) p305 q305
                          obtain rfl : ad302 = ad305 := (by injection e305)
                          replace p305 := eq_true p305
                          replace q305 := eq_true q305
                          go_wp2
                          repeat (go_quiet (fail); try go_wp2)
                          go_meet
                          case rel => exact ⟨_, (decide (((rd_T29 t297 (ji15)).f3) > (a0.size : Int))), (by first | rfl | (simp; done) | (simp only [← hji15] <;> (first | rfl | simp)) | (simp [*]; done)), H', ⟨by have := HJ3.out; have := HK2.out; first | omega | exact Nat.le_refl _⟩, ⟨by (with_reducible repeat (first | apply Kd.V_alloc | apply Kd.V_drewN | apply Kd.V_drew)); exact HO_4.out⟩, ⟨by repeat (first | (with_reducible first | exact HB.out | apply below_alloc | apply pw_below_drewN | apply below_drew1) | exact HB.out)⟩⟩
                      · rw [if_neg c16] at H
                        exact absurd H (by simp)
                  · rw [if_neg c13] at H
                    exact absurd H (by simp)
                · rw [if_neg c12] at H
                  exact absurd H (by simp)
              case rest =>
                clear HC10
                try clear c1
                try clear p2
                try clear p3
                try clear q3
                try clear hx3
                try clear p6
                try clear c7
                try clear c8
                try clear c9
                try clear c9b0
                try clear c12
                try clear c12b0
                try clear c13
                try clear c13b0
                try clear c14
                try clear c14b0
                try clear c16
                try clear c16b0
                try clear c17
                try clear c17b0
                try clear hx302_0
                try clear hx302_1
                try clear hx302_2
                try clear hx302_3
                try clear hx303_0
                try clear hx303_1
                try clear hx303_2
                try clear hx303_3
                try clear hx304_0
                try clear hx304_1
                try clear hx304_2
                try clear hx304_3
                try clear hx305_0
                try clear hx305_1
                try clear hx305_2
                try clear hx305_3
                try clear p2
                try clear p302
                try clear p303
                try clear p304
                try clear p305
                try clear q302
                try clear q303
                try clear q304
                try clear q305
                obtain ⟨kq, x64_9, rfl, HA, HJ9, HO_4, HB⟩ := hcut
                cases kq with
                | zero => exact absurd HA.out (by simp [isthmuslaw11_LexSingle.j2])
                | succ kj9 =>
                  have H := HA.out
                  clear HA
                  simp only [isthmuslaw11_LexSingle.j2] at H
                  by_cases c18 : x64_9 = true
                  · subst c18
                    have H1 : (some false) = some r := by rw [if_pos rfl] at H; exact H
                    clear H
                    have H := H1
                    clear H1
                    obtain rfl := Option.some.inj H
                    go_wp2
                    repeat (go_quiet (fail); try go_wp2)
                    go_ret
                    exact ⟨by first | rfl | (simp [errW_none, errW_some] <;> rfl) | (simp [*, errW_none, errW_some] <;> rfl), by repeat (first | (with_reducible first | exact HB.out | apply below_alloc | apply pw_below_drewN | apply below_drew1) | exact HB.out)⟩
                  · replace c18 := Bool.eq_false_iff.mpr c18
                    subst c18
                    have H1 : ((isthmuslaw11_said.f kj9 a0 t297 x7_2).bind fun t306 => ((lex_Scan.f kj9 t306).bind fun bt307 => (if bt307.2.1 = 0 then (if (bt307.1.length : Int) = 2 then (if 0 < (bt307.1.length : Int) then (if 0 ≤ x7_2 then (if x7_2 < (t297.length : Int) then (if ((rd_T29 bt307.1 0).f0) = ((rd_T29 t297 x7_2).f0) then (if ((rd_T29 bt307.1 0).f1) = ((rd_T29 t297 x7_2).f1) then (if ((rd_T29 bt307.1 0).f2).toList = ((rd_T29 t297 x7_2).f2).toList then (if 1 < (bt307.1.length : Int) then (isthmuslaw11_LexSingle.j3 kj9 a0 t297 x7_2 t306 (((rd_T29 bt307.1 1).f3) != (t306.size : Int))) else (none)) else (isthmuslaw11_LexSingle.j3 kj9 a0 t297 x7_2 t306 true)) else (isthmuslaw11_LexSingle.j3 kj9 a0 t297 x7_2 t306 true)) else (isthmuslaw11_LexSingle.j3 kj9 a0 t297 x7_2 t306 true)) else (none)) else (none)) else (none)) else (isthmuslaw11_LexSingle.j3 kj9 a0 t297 x7_2 t306 true)) else (isthmuslaw11_LexSingle.j3 kj9 a0 t297 x7_2 t306 true)))) = some r := by rw [if_neg (show ¬ (false = true) by decide)] at H; exact H
                    clear H
                    have H := H1
                    clear H1
                    replace H := Option.bind_eq_some_iff.mp H
                    obtain ⟨t306, A190, H⟩ := H
                    replace H : ((lex_Scan.f kj9 t306).bind fun bt307 => (if bt307.2.1 = 0 then (if (bt307.1.length : Int) = 2 then (if 0 < (bt307.1.length : Int) then (if 0 ≤ x7_2 then (if x7_2 < (t297.length : Int) then (if ((rd_T29 bt307.1 0).f0) = ((rd_T29 t297 x7_2).f0) then (if ((rd_T29 bt307.1 0).f1) = ((rd_T29 t297 x7_2).f1) then (if ((rd_T29 bt307.1 0).f2).toList = ((rd_T29 t297 x7_2).f2).toList then (if 1 < (bt307.1.length : Int) then (isthmuslaw11_LexSingle.j3 kj9 a0 t297 x7_2 t306 (((rd_T29 bt307.1 1).f3) != (t306.size : Int))) else (none)) else (isthmuslaw11_LexSingle.j3 kj9 a0 t297 x7_2 t306 true)) else (isthmuslaw11_LexSingle.j3 kj9 a0 t297 x7_2 t306 true)) else (isthmuslaw11_LexSingle.j3 kj9 a0 t297 x7_2 t306 true)) else (none)) else (none)) else (none)) else (isthmuslaw11_LexSingle.j3 kj9 a0 t297 x7_2 t306 true)) else (isthmuslaw11_LexSingle.j3 kj9 a0 t297 x7_2 t306 true))) = some r := H
                    have A19 := Aside0.mk A190
                    clear A190
                    replace H := Option.bind_eq_some_iff.mp H
                    obtain ⟨⟨t307, t310, t311⟩, A200, H⟩ := H
                    replace H : (if t310 = 0 then (if (t307.length : Int) = 2 then (if 0 < (t307.length : Int) then (if 0 ≤ x7_2 then (if x7_2 < (t297.length : Int) then (if ((rd_T29 t307 0).f0) = ((rd_T29 t297 x7_2).f0) then (if ((rd_T29 t307 0).f1) = ((rd_T29 t297 x7_2).f1) then (if ((rd_T29 t307 0).f2).toList = ((rd_T29 t297 x7_2).f2).toList then (if 1 < (t307.length : Int) then (isthmuslaw11_LexSingle.j3 kj9 a0 t297 x7_2 t306 (((rd_T29 t307 1).f3) != (t306.size : Int))) else (none)) else (isthmuslaw11_LexSingle.j3 kj9 a0 t297 x7_2 t306 true)) else (isthmuslaw11_LexSingle.j3 kj9 a0 t297 x7_2 t306 true)) else (isthmuslaw11_LexSingle.j3 kj9 a0 t297 x7_2 t306 true)) else (none)) else (none)) else (none)) else (isthmuslaw11_LexSingle.j3 kj9 a0 t297 x7_2 t306 true)) else (isthmuslaw11_LexSingle.j3 kj9 a0 t297 x7_2 t306 true)) = some r := H
                    have A20 := Aside0.mk A200
                    clear A200
                    have HC21 := Aside0.mk H
                    clear H
                    go_upto_region 12 with (first | (go_at_call 16; (with_reducible refine (isthmuslaw11_said.calls kj9 a0 _ _ t297 x7_2 t306 _ ?side1 ?side2 A19.out).mono ?_); (case side1 => repeat (first | exact (Kd.V_reads' HO_4.out).2.2 | (with_reducible refine Kd.C_alloc ?_ _) | (with_reducible refine Kd.C_drewN ?_ _) | (with_reducible refine Kd.C_drew ?_))); (case side2 => exact (Kd.V_reads' HO_4.out).2.1); rintro e w' ⟨rfl, ⟨nd, rfl⟩⟩; (try first | exact ⟨rfl, _, World.drewN_drewN _ _ _⟩ | exact ⟨rfl, _, Eq.trans (World.drewN_drewN _ _ _) (congrArg (World.drewN _) (Nat.add_assoc _ _ _))⟩)) | (go_at_call 11; (with_reducible refine (lex_Scan.calls kj9 t306 t307 t310 t311 _ A20.out).mono ?_); rintro e w22 ⟨v308, rfl, ho0, hb⟩; have n0_ := Aside0.mk (Kd.V_below (by (with_reducible repeat (first | apply Kd.V_alloc | apply Kd.V_drewN | apply Kd.V_drew)); exact HO_4.out) hb); have n1_ := Aside0.mk (Kd.V_lower (Kd.V_mono (ok' := fun k_ => True) ho0 (fun k_ hk_ => trivial)) (below_size (by repeat (first | (with_reducible first | exact HB.out | apply below_alloc | apply pw_below_drewN | apply below_drew1) | exact HB.out)))); have n2_ := Aside0.mk (below_step (by repeat (first | (with_reducible first | exact HB.out | apply below_alloc | apply pw_below_drewN | apply below_drew1) | exact HB.out)) hb); clear HO_4; clear HB; have HO_4 := n0_; have HO309 := n1_; have HB := n2_; clear n0_ n1_ n2_; (try clear hb); (try clear hb2); (try clear hk); (try clear hi); (try clear ho0)))
                    repeat (go_quiet (first | (go_at_call 16; (with_reducible refine (isthmuslaw11_said.calls kj9 a0 _ _ t297 x7_2 t306 _ ?side1 ?side2 A19.out).mono ?_); (case side1 => repeat (first | exact (Kd.V_reads' HO_4.out).2.2 | (with_reducible refine Kd.C_alloc ?_ _) | (with_reducible refine Kd.C_drewN ?_ _) | (with_reducible refine Kd.C_drew ?_))); (case side2 => exact (Kd.V_reads' HO_4.out).2.1); rintro e w' ⟨rfl, ⟨nd, rfl⟩⟩; (try first | exact ⟨rfl, _, World.drewN_drewN _ _ _⟩ | exact ⟨rfl, _, Eq.trans (World.drewN_drewN _ _ _) (congrArg (World.drewN _) (Nat.add_assoc _ _ _))⟩)) | (go_at_call 11; (with_reducible refine (lex_Scan.calls kj9 t306 t307 t310 t311 _ A20.out).mono ?_); rintro e w22 ⟨v308, rfl, ho0, hb⟩; have n0_ := Aside0.mk (Kd.V_below (by (with_reducible repeat (first | apply Kd.V_alloc | apply Kd.V_drewN | apply Kd.V_drew)); exact HO_4.out) hb); have n1_ := Aside0.mk (Kd.V_lower (Kd.V_mono (ok' := fun k_ => True) ho0 (fun k_ hk_ => trivial)) (below_size (by repeat (first | (with_reducible first | exact HB.out | apply below_alloc | apply pw_below_drewN | apply below_drew1) | exact HB.out)))); have n2_ := Aside0.mk (below_step (by repeat (first | (with_reducible first | exact HB.out | apply below_alloc | apply pw_below_drewN | apply below_drew1) | exact HB.out)) hb); clear HO_4; clear HB; have HO_4 := n0_; have HO309 := n1_; have HB := n2_; clear n0_ n1_ n2_; (try clear hb); (try clear hb2); (try clear hk); (try clear hi); (try clear ho0))); go_upto_region 12 with (first | (go_at_call 16; (with_reducible refine (isthmuslaw11_said.calls kj9 a0 _ _ t297 x7_2 t306 _ ?side1 ?side2 A19.out).mono ?_); (case side1 => repeat (first | exact (Kd.V_reads' HO_4.out).2.2 | (with_reducible refine Kd.C_alloc ?_ _) | (with_reducible refine Kd.C_drewN ?_ _) | (with_reducible refine Kd.C_drew ?_))); (case side2 => exact (Kd.V_reads' HO_4.out).2.1); rintro e w' ⟨rfl, ⟨nd, rfl⟩⟩; (try first | exact ⟨rfl, _, World.drewN_drewN _ _ _⟩ | exact ⟨rfl, _, Eq.trans (World.drewN_drewN _ _ _) (congrArg (World.drewN _) (Nat.add_assoc _ _ _))⟩)) | (go_at_call 11; (with_reducible refine (lex_Scan.calls kj9 t306 t307 t310 t311 _ A20.out).mono ?_); rintro e w22 ⟨v308, rfl, ho0, hb⟩; have n0_ := Aside0.mk (Kd.V_below (by (with_reducible repeat (first | apply Kd.V_alloc | apply Kd.V_drewN | apply Kd.V_drew)); exact HO_4.out) hb); have n1_ := Aside0.mk (Kd.V_lower (Kd.V_mono (ok' := fun k_ => True) ho0 (fun k_ hk_ => trivial)) (below_size (by repeat (first | (with_reducible first | exact HB.out | apply below_alloc | apply pw_below_drewN | apply below_drew1) | exact HB.out)))); have n2_ := Aside0.mk (below_step (by repeat (first | (with_reducible first | exact HB.out | apply below_alloc | apply pw_below_drewN | apply below_drew1) | exact HB.out)) hb); clear HO_4; clear HB; have HO_4 := n0_; have HO309 := n1_; have HB := n2_; clear n0_ n1_ n2_; (try clear hb); (try clear hb2); (try clear hk); (try clear hi); (try clear ho0))))
                    (try simp only [Act.put, List.setIfInBounds_toArray, List.set_cons_zero, List.set_cons_succ])
                    go_cut [126] (fun v126 wc => ∃ (kq : Nat) (x126_20 : Bool), v126 = .bool x126_20 ∧ Aside0 (isthmuslaw11_LexSingle.j3 kq a0 t297 x7_2 t306 x126_20 = some r) ∧ Aside0 (kq ≤ kj9) ∧ Aside0 (Kd.V k29 29 wc w.heap.size (fun _ => True) (.slice Ao11 t297.length co11) t297) ∧ Aside0 (Below w.heap.size w wc))
                    case first =>
                      have H := HC21.out
                      clear HC21
                      by_cases c23 : t310 = 0
                      · rw [if_pos c23] at H
                        have c23b0 : (t310 == 0) = true := beq_iff_eq.mpr c23
                        have c23b1 : (t310 != 0) = false := bne_eq_false_iff_eq.mpr c23
                        clear c23
                        (first | rw [c23b0] | (simp only [i64_w, i32_w]; rw [c23b0]) | skip)
                        by_cases c24 : (t307.length : Int) = 2
                        · rw [if_pos c24] at H
                          have c24b0 : ((t307.length : Int) == 2) = true := beq_iff_eq.mpr c24
                          have c24b1 : ((t307.length : Int) != 2) = false := bne_eq_false_iff_eq.mpr c24
                          clear c24
                          by_cases c25 : 0 < (t307.length : Int)
                          · rw [if_pos c25] at H
                            have c25b0 : decide (0 < (t307.length : Int)) = true := decide_eq_true c25
                            have c25b1 : decide (0 < t307.length) = true := decide_eq_true (by omega)
                            clear c25
                            by_cases c26 : 0 ≤ x7_2
                            · rw [if_pos c26] at H
                              have c26b0 : decide (0 ≤ x7_2) = true := decide_eq_true c26
                              clear c26
                              by_cases c27 : x7_2 < (t297.length : Int)
                              · rw [if_pos c27] at H
                                have c27b0 : decide (x7_2 < (t297.length : Int)) = true := decide_eq_true c27
                                clear c27
                                by_cases c28 : ((rd_T29 t307 0).f0) = ((rd_T29 t297 x7_2).f0)
                                · rw [if_pos c28] at H
                                  have c28b0 : (((rd_T29 t307 0).f0) == ((rd_T29 t297 x7_2).f0)) = true := beq_iff_eq.mpr c28
                                  have c28b1 : (((rd_T29 t307 0).f0) != ((rd_T29 t297 x7_2).f0)) = false := bne_eq_false_iff_eq.mpr c28
                                  clear c28
                                  by_cases c29 : ((rd_T29 t307 0).f1) = ((rd_T29 t297 x7_2).f1)
                                  · rw [if_pos c29] at H
                                    have c29b0 : (((rd_T29 t307 0).f1) == ((rd_T29 t297 x7_2).f1)) = true := beq_iff_eq.mpr c29
                                    have c29b1 : (((rd_T29 t307 0).f1) != ((rd_T29 t297 x7_2).f1)) = false := bne_eq_false_iff_eq.mpr c29
                                    clear c29
                                    by_cases c30 : ((rd_T29 t307 0).f2).toList = ((rd_T29 t297 x7_2).f2).toList
                                    · rw [if_pos c30] at H
                                      have c30b0 : (((rd_T29 t307 0).f2).toList == ((rd_T29 t297 x7_2).f2).toList) = true := beq_iff_eq.mpr c30
                                      have c30b1 : (((rd_T29 t307 0).f2).toList != ((rd_T29 t297 x7_2).f2).toList) = false := bne_eq_false_iff_eq.mpr c30
                                      clear c30
                                      by_cases c31 : 1 < (t307.length : Int)
                                      · rw [if_pos c31] at H
                                        have c31b0 : decide (1 < (t307.length : Int)) = true := decide_eq_true c31
                                        have c31b1 : decide (1 < t307.length) = true := decide_eq_true (by omega)
                                        clear c31
                                        have H' := Aside0.mk H
                                        clear H
                                        obtain ⟨Ao32, co32, eo32⟩ := Kd.V_slice HO309.out
                                        subst eo32
                                        have p312 : 0 ≤ (0 : Int) := (by omega)
                                        have q312 : 0 < (t307.length : Int) := of_decide_eq_true (by first | (with_reducible assumption) | assumption)
                                        obtain ⟨ad312, e312, hx312_0, hx312_1, hx312_2, hx312_3⟩ := at_T29 (Kd.V_reads' HO309.out).2.2 0 p312 q312
                                        cases e312
                                        have qi312 : (0 < t307.length) = True := eq_true (by omega)
                                        (try rw [show ((0 : Int)).toNat = 0 from rfl] at hx312_0)
                                        (try rw [show 0 * 4 = 0 from rfl] at hx312_0)
                                        (try rw [Addr.add_zero'] at hx312_0)
                                        (try rw [show ((0 : Int)).toNat = 0 from rfl] at hx312_1)
                                        (try rw [show 0 * 4 = 0 from rfl] at hx312_1)
                                        (try rw [Addr.add_zero'] at hx312_1)
                                        (try rw [show ((0 : Int)).toNat = 0 from rfl] at hx312_2)
                                        (try rw [show 0 * 4 = 0 from rfl] at hx312_2)
                                        (try rw [Addr.add_zero'] at hx312_2)
                                        (try rw [show ((0 : Int)).toNat = 0 from rfl] at hx312_3)
                                        (try rw [show 0 * 4 = 0 from rfl] at hx312_3)
                                        (try rw [Addr.add_zero'] at hx312_3)
                                        replace p312 := eq_true p312
                                        replace q312 := eq_true q312
                                        have p313 : 0 ≤ (x7_2 : Int) := of_decide_eq_true (by first | (with_reducible assumption) | assumption)
                                        have q313 : x7_2 < (t297.length : Int) := of_decide_eq_true (by first | (with_reducible assumption) | assumption)
                                        obtain ⟨ad313, e313, hx313_0, hx313_1, hx313_2, hx313_3⟩ := at_T29 (Kd.V_reads' HO_4.out).2.2 x7_2 p313 q313
                                        cases e313
                                        replace p313 := eq_true p313
                                        replace q313 := eq_true q313
                                        have p314 : 0 ≤ (0 : Int) := (by omega)
                                        have q314 : 0 < (t307.length : Int) := of_decide_eq_true (by first | (with_reducible assumption) | assumption)
                                        obtain ⟨ad314, e314, hx314_0, hx314_1, hx314_2, hx314_3⟩ := at_T29 (Kd.V_reads' HO309.out).2.2 0 p314 q314
                                        obtain rfl : ad312 = ad314 := (by injection e314)
                                        have qi314 : (0 < t307.length) = True := eq_true (by omega)
                                        (try rw [show ((0 : Int)).toNat = 0 from rfl] at hx314_0)
                                        (try rw [show 0 * 4 = 0 from rfl] at hx314_0)
                                        (try rw [Addr.add_zero'] at hx314_0)
                                        (try rw [show ((0 : Int)).toNat = 0 from rfl] at hx314_1)
                                        (try rw [show 0 * 4 = 0 from rfl] at hx314_1)
                                        (try rw [Addr.add_zero'] at hx314_1)
                                        (try rw [show ((0 : Int)).toNat = 0 from rfl] at hx314_2)
                                        (try rw [show 0 * 4 = 0 from rfl] at hx314_2)
                                        (try rw [Addr.add_zero'] at hx314_2)
                                        (try rw [show ((0 : Int)).toNat = 0 from rfl] at hx314_3)
                                        (try rw [show 0 * 4 = 0 from rfl] at hx314_3)
                                        (try rw [Addr.add_zero'] at hx314_3)
                                        replace p314 := eq_true p314
                                        replace q314 := eq_true q314
                                        have p315 : 0 ≤ (x7_2 : Int) := of_decide_eq_true (by first | (with_reducible assumption) | assumption)
                                        have q315 : x7_2 < (t297.length : Int) := of_decide_eq_true (by first | (with_reducible assumption) | assumption)
                                        obtain ⟨ad315, e315, hx315_0, hx315_1, hx315_2, hx315_3⟩ := at_T29 (Kd.V_reads' HO_4.out).2.2 x7_2 p315 q315
                                        obtain rfl : ad313 = ad315 := (by injection e315)
                                        replace p315 := eq_true p315
                                        replace q315 := eq_true q315
                                        have p316 : 0 ≤ (0 : Int) := (by omega)
                                        have q316 : 0 < (t307.length : Int) := of_decide_eq_true (by first | (with_reducible assumption) | assumption)
                                        obtain ⟨ad316, e316, hx316_0, hx316_1, hx316_2, hx316_3⟩ := at_T29 (Kd.V_reads' HO309.out).2.2 0 p316 q316
                                        obtain rfl : ad312 = ad316 := (by injection e316)
                                        have qi316 : (0 < t307.length) = True := eq_true (by omega)
                                        (try rw [show ((0 : Int)).toNat = 0 from rfl] at hx316_0)
                                        (try rw [show 0 * 4 = 0 from rfl] at hx316_0)
                                        (try rw [Addr.add_zero'] at hx316_0)
                                        (try rw [show ((0 : Int)).toNat = 0 from rfl] at hx316_1)
                                        (try rw [show 0 * 4 = 0 from rfl] at hx316_1)
                                        (try rw [Addr.add_zero'] at hx316_1)
                                        (try rw [show ((0 : Int)).toNat = 0 from rfl] at hx316_2)
                                        (try rw [show 0 * 4 = 0 from rfl] at hx316_2)
                                        (try rw [Addr.add_zero'] at hx316_2)
                                        (try rw [show ((0 : Int)).toNat = 0 from rfl] at hx316_3)
                                        (try rw [show 0 * 4 = 0 from rfl] at hx316_3)
                                        (try rw [Addr.add_zero'] at hx316_3)
                                        replace p316 := eq_true p316
                                        replace q316 := eq_true q316
                                        have p317 : 0 ≤ (x7_2 : Int) := of_decide_eq_true (by first | (with_reducible assumption) | assumption)
                                        have q317 : x7_2 < (t297.length : Int) := of_decide_eq_true (by first | (with_reducible assumption) | assumption)
                                        obtain ⟨ad317, e317, hx317_0, hx317_1, hx317_2, hx317_3⟩ := at_T29 (Kd.V_reads' HO_4.out).2.2 x7_2 p317 q317
                                        obtain rfl : ad313 = ad317 := (by injection e317)
                                        replace p317 := eq_true p317
                                        replace q317 := eq_true q317
                                        have p318 : 0 ≤ (1 : Int) := (by omega)
                                        have q318 : 1 < (t307.length : Int) := of_decide_eq_true (by first | (with_reducible assumption) | assumption)
                                        obtain ⟨ad318, e318, hx318_0, hx318_1, hx318_2, hx318_3⟩ := at_T29 (Kd.V_reads' HO309.out).2.2 1 p318 q318
                                        obtain rfl : ad312 = ad318 := (by injection e318)
                                        (try simp only [show (1 : Int).toNat = 1 from rfl, Nat.reduceMul, Nat.reduceEqDiff, Go.Addr.add, ↓reduceIte] at hx318_0)
                                        (try simp only [show (1 : Int).toNat = 1 from rfl, Nat.reduceMul, Nat.reduceEqDiff, Go.Addr.add, ↓reduceIte] at hx318_1)
                                        (try simp only [show (1 : Int).toNat = 1 from rfl, Nat.reduceMul, Nat.reduceEqDiff, Go.Addr.add, ↓reduceIte] at hx318_2)
                                        (try simp only [show (1 : Int).toNat = 1 from rfl, Nat.reduceMul, Nat.reduceEqDiff, Go.Addr.add, ↓reduceIte] at hx318_3)
                                        have qi318 : (1 < t307.length) = True := eq_true (by omega)
                                        (try rw [show ((1 : Int)).toNat = 1 from rfl] at hx318_0)
                                        (try rw [show 1 * 4 = 4 from rfl] at hx318_0)
                                        (try rw [show ((1 : Int)).toNat = 1 from rfl] at hx318_1)
                                        (try rw [show 1 * 4 = 4 from rfl] at hx318_1)
                                        (try rw [show ((1 : Int)).toNat = 1 from rfl] at hx318_2)
                                        (try rw [show 1 * 4 = 4 from rfl] at hx318_2)
                                        (try rw [show ((1 : Int)).toNat = 1 from rfl] at hx318_3)
                                        (try rw [show 1 * 4 = 4 from rfl] at hx318_3)
                                        replace p318 := eq_true p318
                                        replace q318 := eq_true q318
                                        go_wp2
                                        repeat (go_quiet (fail); try go_wp2)
                                        go_meet
                                        case rel => exact ⟨_, ((((rd_T29 t307 1).f3) != (t306.size : Int))), (by first | rfl | (simp; done) | (simp [*]; done)), H', ⟨by have := HJ3.out; have := HK2.out; have := HJ9.out; first | omega | exact Nat.le_refl _⟩, ⟨by (with_reducible repeat (first | apply Kd.V_alloc | apply Kd.V_drewN | apply Kd.V_drew)); exact HO_4.out⟩, ⟨by repeat (first | (with_reducible first | exact HB.out | apply below_alloc | apply pw_below_drewN | apply below_drew1) | exact HB.out)⟩⟩
                                      · rw [if_neg c31] at H
                                        exact absurd H (by simp)
                                    · rw [if_neg c30] at H
                                      have c30b0 : (((rd_T29 t307 0).f2).toList == ((rd_T29 t297 x7_2).f2).toList) = false := beq_eq_false_iff_ne.mpr c30
                                      have c30b1 : (((rd_T29 t307 0).f2).toList != ((rd_T29 t297 x7_2).f2).toList) = true := bne_iff_ne.mpr c30
                                      have H' := Aside0.mk H
                                      clear H
                                      obtain ⟨Ao33, co33, eo33⟩ := Kd.V_slice HO309.out
                                      subst eo33
                                      have p312 : 0 ≤ (0 : Int) := (by omega)
                                      have q312 : 0 < (t307.length : Int) := of_decide_eq_true (by first | (with_reducible assumption) | assumption)
                                      obtain ⟨ad312, e312, hx312_0, hx312_1, hx312_2, hx312_3⟩ := at_T29 (Kd.V_reads' HO309.out).2.2 0 p312 q312
                                      cases e312
                                      have qi312 : (0 < t307.length) = True := eq_true (by omega)
                                      (try rw [show ((0 : Int)).toNat = 0 from rfl] at hx312_0)
                                      (try rw [show 0 * 4 = 0 from rfl] at hx312_0)
                                      (try rw [Addr.add_zero'] at hx312_0)
                                      (try rw [show ((0 : Int)).toNat = 0 from rfl] at hx312_1)
                                      (try rw [show 0 * 4 = 0 from rfl] at hx312_1)
                                      (try rw [Addr.add_zero'] at hx312_1)
                                      (try rw [show ((0 : Int)).toNat = 0 from rfl] at hx312_2)
                                      (try rw [show 0 * 4 = 0 from rfl] at hx312_2)
                                      (try rw [Addr.add_zero'] at hx312_2)
                                      (try rw [show ((0 : Int)).toNat = 0 from rfl] at hx312_3)
                                      (try rw [show 0 * 4 = 0 from rfl] at hx312_3)
                                      (try rw [Addr.add_zero'] at hx312_3)
                                      replace p312 := eq_true p312
                                      replace q312 := eq_true q312
                                      have p313 : 0 ≤ (x7_2 : Int) := of_decide_eq_true (by first | (with_reducible assumption) | assumption)
                                      have q313 : x7_2 < (t297.length : Int) := of_decide_eq_true (by first | (with_reducible assumption) | assumption)
                                      obtain ⟨ad313, e313, hx313_0, hx313_1, hx313_2, hx313_3⟩ := at_T29 (Kd.V_reads' HO_4.out).2.2 x7_2 p313 q313
                                      cases e313
                                      replace p313 := eq_true p313
                                      replace q313 := eq_true q313
                                      have p314 : 0 ≤ (0 : Int) := (by omega)
                                      have q314 : 0 < (t307.length : Int) := of_decide_eq_true (by first | (with_reducible assumption) | assumption)
                                      obtain ⟨ad314, e314, hx314_0, hx314_1, hx314_2, hx314_3⟩ := at_T29 (Kd.V_reads' HO309.out).2.2 0 p314 q314
                                      obtain rfl : ad312 = ad314 := (by injection e314)
                                      have qi314 : (0 < t307.length) = True := eq_true (by omega)
                                      (try rw [show ((0 : Int)).toNat = 0 from rfl] at hx314_0)
                                      (try rw [show 0 * 4 = 0 from rfl] at hx314_0)
                                      (try rw [Addr.add_zero'] at hx314_0)
                                      (try rw [show ((0 : Int)).toNat = 0 from rfl] at hx314_1)
                                      (try rw [show 0 * 4 = 0 from rfl] at hx314_1)
                                      (try rw [Addr.add_zero'] at hx314_1)
                                      (try rw [show ((0 : Int)).toNat = 0 from rfl] at hx314_2)
                                      (try rw [show 0 * 4 = 0 from rfl] at hx314_2)
                                      (try rw [Addr.add_zero'] at hx314_2)
                                      (try rw [show ((0 : Int)).toNat = 0 from rfl] at hx314_3)
                                      (try rw [show 0 * 4 = 0 from rfl] at hx314_3)
                                      (try rw [Addr.add_zero'] at hx314_3)
                                      replace p314 := eq_true p314
                                      replace q314 := eq_true q314
                                      have p315 : 0 ≤ (x7_2 : Int) := of_decide_eq_true (by first | (with_reducible assumption) | assumption)
                                      have q315 : x7_2 < (t297.length : Int) := of_decide_eq_true (by first | (with_reducible assumption) | assumption)
                                      obtain ⟨ad315, e315, hx315_0, hx315_1, hx315_2, hx315_3⟩ := at_T29 (Kd.V_reads' HO_4.out).2.2 x7_2 p315 q315
                                      obtain rfl : ad313 = ad315 := (by injection e315)
                                      replace p315 := eq_true p315
                                      replace q315 := eq_true q315
                                      have p316 : 0 ≤ (0 : Int) := (by omega)
                                      have q316 : 0 < (t307.length : Int) := of_decide_eq_true (by first | (with_reducible assumption) | assumption)
                                      obtain ⟨ad316, e316, hx316_0, hx316_1, hx316_2, hx316_3⟩ := at_T29 (Kd.V_reads' HO309.out).2.2 0 p316 q316
                                      obtain rfl : ad312 = ad316 := (by injection e316)
                                      have qi316 : (0 < t307.length) = True := eq_true (by omega)
                                      (try rw [show ((0 : Int)).toNat = 0 from rfl] at hx316_0)
                                      (try rw [show 0 * 4 = 0 from rfl] at hx316_0)
                                      (try rw [Addr.add_zero'] at hx316_0)
                                      (try rw [show ((0 : Int)).toNat = 0 from rfl] at hx316_1)
                                      (try rw [show 0 * 4 = 0 from rfl] at hx316_1)
                                      (try rw [Addr.add_zero'] at hx316_1)
                                      (try rw [show ((0 : Int)).toNat = 0 from rfl] at hx316_2)
                                      (try rw [show 0 * 4 = 0 from rfl] at hx316_2)
                                      (try rw [Addr.add_zero'] at hx316_2)
                                      (try rw [show ((0 : Int)).toNat = 0 from rfl] at hx316_3)
                                      (try rw [show 0 * 4 = 0 from rfl] at hx316_3)
                                      (try rw [Addr.add_zero'] at hx316_3)
                                      replace p316 := eq_true p316
                                      replace q316 := eq_true q316
                                      have p317 : 0 ≤ (x7_2 : Int) := of_decide_eq_true (by first | (with_reducible assumption) | assumption)
                                      have q317 : x7_2 < (t297.length : Int) := of_decide_eq_true (by first | (with_reducible assumption) | assumption)
                                      obtain ⟨ad317, e317, hx317_0, hx317_1, hx317_2, hx317_3⟩ := at_T29 (Kd.V_reads' HO_4.out).2.2 x7_2 p317 q317
                                      obtain rfl : ad313 = ad317 := (by injection e317)
                                      replace p317 := eq_true p317
                                      replace q317 := eq_true q317
                                      go_wp2
                                      repeat (go_quiet (fail); try go_wp2)
                                      go_meet
                                      case rel => exact ⟨_, (true), (by first | rfl | (simp; done) | (simp [*]; done)), H', ⟨by have := HJ3.out; have := HK2.out; have := HJ9.out; first | omega | exact Nat.le_refl _⟩, ⟨by (with_reducible repeat (first | apply Kd.V_alloc | apply Kd.V_drewN | apply Kd.V_drew)); exact HO_4.out⟩, ⟨by repeat (first | (with_reducible first | exact HB.out | apply below_alloc | apply pw_below_drewN | apply below_drew1) | exact HB.out)⟩⟩
                                  · rw [if_neg c29] at H
                                    have c29b0 : (((rd_T29 t307 0).f1) == ((rd_T29 t297 x7_2).f1)) = false := beq_eq_false_iff_ne.mpr c29
                                    have c29b1 : (((rd_T29 t307 0).f1) != ((rd_T29 t297 x7_2).f1)) = true := bne_iff_ne.mpr c29
                                    have H' := Aside0.mk H
                                    clear H
                                    obtain ⟨Ao34, co34, eo34⟩ := Kd.V_slice HO309.out
                                    subst eo34
                                    have p312 : 0 ≤ (0 : Int) := (by omega)
                                    have q312 : 0 < (t307.length : Int) := of_decide_eq_true (by first | (with_reducible assumption) | assumption)
                                    obtain ⟨ad312, e312, hx312_0, hx312_1, hx312_2, hx312_3⟩ := at_T29 (Kd.V_reads' HO309.out).2.2 0 p312 q312
                                    cases e312
                                    have qi312 : (0 < t307.length) = True := eq_true (by omega)
                                    (try rw [show ((0 : Int)).toNat = 0 from rfl] at hx312_0)
                                    (try rw [show 0 * 4 = 0 from rfl] at hx312_0)
                                    (try rw [Addr.add_zero'] at hx312_0)
                                    (try rw [show ((0 : Int)).toNat = 0 from rfl] at hx312_1)
                                    (try rw [show 0 * 4 = 0 from rfl] at hx312_1)
                                    (try rw [Addr.add_zero'] at hx312_1)
                                    (try rw [show ((0 : Int)).toNat = 0 from rfl] at hx312_2)
                                    (try rw [show 0 * 4 = 0 from rfl] at hx312_2)
                                    (try rw [Addr.add_zero'] at hx312_2)
                                    (try rw [show ((0 : Int)).toNat = 0 from rfl] at hx312_3)
                                    (try rw [show 0 * 4 = 0 from rfl] at hx312_3)
                                    (try rw [Addr.add_zero'] at hx312_3)
                                    replace p312 := eq_true p312
                                    replace q312 := eq_true q312
                                    have p313 : 0 ≤ (x7_2 : Int) := of_decide_eq_true (by first | (with_reducible assumption) | assumption)
                                    have q313 : x7_2 < (t297.length : Int) := of_decide_eq_true (by first | (with_reducible assumption) | assumption)
                                    obtain ⟨ad313, e313, hx313_0, hx313_1, hx313_2, hx313_3⟩ := at_T29 (Kd.V_reads' HO_4.out).2.2 x7_2 p313 q313
                                    cases e313
                                    replace p313 := eq_true p313
                                    replace q313 := eq_true q313
                                    have p314 : 0 ≤ (0 : Int) := (by omega)
                                    have q314 : 0 < (t307.length : Int) := of_decide_eq_true (by first | (with_reducible assumption) | assumption)
                                    obtain ⟨ad314, e314, hx314_0, hx314_1, hx314_2, hx314_3⟩ := at_T29 (Kd.V_reads' HO309.out).2.2 0 p314 q314
                                    obtain rfl : ad312 = ad314 := (by injection e314)
                                    have qi314 : (0 < t307.length) = True := eq_true (by omega)
                                    (try rw [show ((0 : Int)).toNat = 0 from rfl] at hx314_0)
                                    (try rw [show 0 * 4 = 0 from rfl] at hx314_0)
                                    (try rw [Addr.add_zero'] at hx314_0)
                                    (try rw [show ((0 : Int)).toNat = 0 from rfl] at hx314_1)
                                    (try rw [show 0 * 4 = 0 from rfl] at hx314_1)
                                    (try rw [Addr.add_zero'] at hx314_1)
                                    (try rw [show ((0 : Int)).toNat = 0 from rfl] at hx314_2)
                                    (try rw [show 0 * 4 = 0 from rfl] at hx314_2)
                                    (try rw [Addr.add_zero'] at hx314_2)
                                    (try rw [show ((0 : Int)).toNat = 0 from rfl] at hx314_3)
                                    (try rw [show 0 * 4 = 0 from rfl] at hx314_3)
                                    (try rw [Addr.add_zero'] at hx314_3)
                                    replace p314 := eq_true p314
                                    replace q314 := eq_true q314
                                    have p315 : 0 ≤ (x7_2 : Int) := of_decide_eq_true (by first | (with_reducible assumption) | assumption)
                                    have q315 : x7_2 < (t297.length : Int) := of_decide_eq_true (by first | (with_reducible assumption) | assumption)
                                    obtain ⟨ad315, e315, hx315_0, hx315_1, hx315_2, hx315_3⟩ := at_T29 (Kd.V_reads' HO_4.out).2.2 x7_2 p315 q315
                                    obtain rfl : ad313 = ad315 := (by injection e315)
                                    replace p315 := eq_true p315
                                    replace q315 := eq_true q315
                                    go_wp2
                                    repeat (go_quiet (fail); try go_wp2)
                                    go_meet
                                    case rel => exact ⟨_, (true), (by first | rfl | (simp; done) | (simp [*]; done)), H', ⟨by have := HJ3.out; have := HK2.out; have := HJ9.out; first | omega | exact Nat.le_refl _⟩, ⟨by (with_reducible repeat (first | apply Kd.V_alloc | apply Kd.V_drewN | apply Kd.V_drew)); exact HO_4.out⟩, ⟨by repeat (first | (with_reducible first | exact HB.out | apply below_alloc | apply pw_below_drewN | apply below_drew1) | exact HB.out)⟩⟩
                                · rw [if_neg c28] at H
                                  have c28b0 : (((rd_T29 t307 0).f0) == ((rd_T29 t297 x7_2).f0)) = false := beq_eq_false_iff_ne.mpr c28
                                  have c28b1 : (((rd_T29 t307 0).f0) != ((rd_T29 t297 x7_2).f0)) = true := bne_iff_ne.mpr c28
                                  have H' := Aside0.mk H
                                  clear H
                                  obtain ⟨Ao35, co35, eo35⟩ := Kd.V_slice HO309.out
                                  subst eo35
                                  have p312 : 0 ≤ (0 : Int) := (by omega)
                                  have q312 : 0 < (t307.length : Int) := of_decide_eq_true (by first | (with_reducible assumption) | assumption)
                                  obtain ⟨ad312, e312, hx312_0, hx312_1, hx312_2, hx312_3⟩ := at_T29 (Kd.V_reads' HO309.out).2.2 0 p312 q312
                                  cases e312
                                  have qi312 : (0 < t307.length) = True := eq_true (by omega)
                                  (try rw [show ((0 : Int)).toNat = 0 from rfl] at hx312_0)
                                  (try rw [show 0 * 4 = 0 from rfl] at hx312_0)
                                  (try rw [Addr.add_zero'] at hx312_0)
                                  (try rw [show ((0 : Int)).toNat = 0 from rfl] at hx312_1)
                                  (try rw [show 0 * 4 = 0 from rfl] at hx312_1)
                                  (try rw [Addr.add_zero'] at hx312_1)
                                  (try rw [show ((0 : Int)).toNat = 0 from rfl] at hx312_2)
                                  (try rw [show 0 * 4 = 0 from rfl] at hx312_2)
                                  (try rw [Addr.add_zero'] at hx312_2)
                                  (try rw [show ((0 : Int)).toNat = 0 from rfl] at hx312_3)
                                  (try rw [show 0 * 4 = 0 from rfl] at hx312_3)
                                  (try rw [Addr.add_zero'] at hx312_3)
                                  replace p312 := eq_true p312
                                  replace q312 := eq_true q312
                                  have p313 : 0 ≤ (x7_2 : Int) := of_decide_eq_true (by first | (with_reducible assumption) | assumption)
                                  have q313 : x7_2 < (t297.length : Int) := of_decide_eq_true (by first | (with_reducible assumption) | assumption)
                                  obtain ⟨ad313, e313, hx313_0, hx313_1, hx313_2, hx313_3⟩ := at_T29 (Kd.V_reads' HO_4.out).2.2 x7_2 p313 q313
                                  cases e313
                                  replace p313 := eq_true p313
                                  replace q313 := eq_true q313
                                  go_wp2
                                  repeat (go_quiet (fail); try go_wp2)
                                  go_meet
                                  case rel => exact ⟨_, (true), (by first | rfl | (simp; done) | (simp [*]; done)), H', ⟨by have := HJ3.out; have := HK2.out; have := HJ9.out; first | omega | exact Nat.le_refl _⟩, ⟨by (with_reducible repeat (first | apply Kd.V_alloc | apply Kd.V_drewN | apply Kd.V_drew)); exact HO_4.out⟩, ⟨by repeat (first | (with_reducible first | exact HB.out | apply below_alloc | apply pw_below_drewN | apply below_drew1) | exact HB.out)⟩⟩
                              · rw [if_neg c27] at H
                                exact absurd H (by simp)
                            · rw [if_neg c26] at H
                              exact absurd H (by simp)
                          · rw [if_neg c25] at H
                            exact absurd H (by simp)
                        · rw [if_neg c24] at H
                          have c24b0 : ((t307.length : Int) == 2) = false := beq_eq_false_iff_ne.mpr c24
                          have c24b1 : ((t307.length : Int) != 2) = true := bne_iff_ne.mpr c24
                          have H' := Aside0.mk H
                          clear H
                          obtain ⟨Ao36, co36, eo36⟩ := Kd.V_slice HO309.out
                          subst eo36
                          go_wp2
                          repeat (go_quiet (fail); try go_wp2)
                          go_meet
                          case rel => exact ⟨_, (true), (by first | rfl | (simp; done) | (simp [*]; done)), H', ⟨by have := HJ3.out; have := HK2.out; have := HJ9.out; first | omega | exact Nat.le_refl _⟩, ⟨by (with_reducible repeat (first | apply Kd.V_alloc | apply Kd.V_drewN | apply Kd.V_drew)); exact HO_4.out⟩, ⟨by repeat (first | (with_reducible first | exact HB.out | apply below_alloc | apply pw_below_drewN | apply below_drew1) | exact HB.out)⟩⟩
                      · rw [if_neg c23] at H
                        have c23b0 : (t310 == 0) = false := beq_eq_false_iff_ne.mpr c23
                        have c23b1 : (t310 != 0) = true := bne_iff_ne.mpr c23
                        (first | rw [c23b0] | (simp only [i64_w, i32_w]; rw [c23b0]) | skip)
                        have H' := Aside0.mk H
                        clear H
                        go_wp2
                        repeat (go_quiet (fail); try go_wp2)
                        go_meet
                        case rel => exact ⟨_, (true), (by first | rfl | (simp; done) | (simp [*]; done)), H', ⟨by have := HJ3.out; have := HK2.out; have := HJ9.out; first | omega | exact Nat.le_refl _⟩, ⟨by (with_reducible repeat (first | apply Kd.V_alloc | apply Kd.V_drewN | apply Kd.V_drew)); exact HO_4.out⟩, ⟨by repeat (first | (with_reducible first | exact HB.out | apply below_alloc | apply pw_below_drewN | apply below_drew1) | exact HB.out)⟩⟩
                    case rest =>
                      clear HC21
                      try clear c1
                      try clear c2
                      try clear p2
                      try clear c3
                      try clear p3
                      try clear q3
                      try clear hx3
                      try clear qi3
                      try clear p6
                      try clear c7
                      try clear c8
                      try clear c9
                      try clear c9b0
                      try clear c12
                      try clear c12b0
                      try clear c13
                      try clear c13b0
                      try clear c14
                      try clear c14b0
                      try clear c16
                      try clear c16b0
                      try clear c17
                      try clear c17b0
                      try clear c18
                      try clear c23
                      try clear c23b0
                      try clear c23b1
                      try clear c24
                      try clear c24b0
                      try clear c24b1
                      try clear c25
                      try clear c25b0
                      try clear c25b1
                      try clear c26
                      try clear c26b0
                      try clear c27
                      try clear c27b0
                      try clear c28
                      try clear c28b0
                      try clear c28b1
                      try clear c29
                      try clear c29b0
                      try clear c29b1
                      try clear c30
                      try clear c30b0
                      try clear c30b1
                      try clear p30
                      try clear q30
                      try clear hx30
                      try clear c31
                      try clear c31b0
                      try clear c31b1
                      try clear p31
                      try clear q31
                      try clear hx31
                      try clear qi31
                      try clear hx302_0
                      try clear hx302_1
                      try clear hx302_2
                      try clear hx302_3
                      try clear hx303_0
                      try clear hx303_1
                      try clear hx303_2
                      try clear hx303_3
                      try clear hx304_0
                      try clear hx304_1
                      try clear hx304_2
                      try clear hx304_3
                      try clear hx305_0
                      try clear hx305_1
                      try clear hx305_2
                      try clear hx305_3
                      try clear hx312_0
                      try clear hx312_1
                      try clear hx312_2
                      try clear hx312_3
                      try clear hx313_0
                      try clear hx313_1
                      try clear hx313_2
                      try clear hx313_3
                      try clear hx314_0
                      try clear hx314_1
                      try clear hx314_2
                      try clear hx314_3
                      try clear hx315_0
                      try clear hx315_1
                      try clear hx315_2
                      try clear hx315_3
                      try clear hx316_0
                      try clear hx316_1
                      try clear hx316_2
                      try clear hx316_3
                      try clear hx317_0
                      try clear hx317_1
                      try clear hx317_2
                      try clear hx317_3
                      try clear hx318_0
                      try clear hx318_1
                      try clear hx318_2
                      try clear hx318_3
                      try clear p2
                      try clear p3
                      try clear p302
                      try clear p303
                      try clear p304
                      try clear p305
                      try clear p312
                      try clear p313
                      try clear p314
                      try clear p315
                      try clear p316
                      try clear p317
                      try clear p318
                      try clear p6
                      try clear q3
                      try clear q302
                      try clear q303
                      try clear q304
                      try clear q305
                      try clear q312
                      try clear q313
                      try clear q314
                      try clear q315
                      try clear q316
                      try clear q317
                      try clear q318
                      obtain ⟨kq, x126_20, rfl, HA, HJ20, HO_4, HB⟩ := hcut
                      cases kq with
                      | zero => exact absurd HA.out (by simp [isthmuslaw11_LexSingle.j3])
                      | succ kj20 =>
                        have H := HA.out
                        clear HA
                        simp only [isthmuslaw11_LexSingle.j3] at H
                        by_cases c37 : x126_20 = true
                        · subst c37
                          have H1 : (some false) = some r := by rw [if_pos rfl] at H; exact H
                          clear H
                          have H := H1
                          clear H1
                          obtain rfl := Option.some.inj H
                          go_wp2
                          repeat (go_quiet (fail); try go_wp2)
                          go_ret
                          exact ⟨by first | rfl | (simp [errW_none, errW_some] <;> rfl) | (simp [*, errW_none, errW_some] <;> rfl), by repeat (first | (with_reducible first | exact HB.out | apply below_alloc | apply pw_below_drewN | apply below_drew1) | exact HB.out)⟩
                        · replace c37 := Bool.eq_false_iff.mpr c37
                          subst c37
                          have H1 : ((lex_IsName.f kj20 t306).bind fun t319 => (if 0 ≤ x7_2 then (if x7_2 < (t297.length : Int) then (if (t319 != (((rd_T29 t297 x7_2).f0) == 2)) = true then (some false) else (isthmuslaw11_LexSingle.l0 kj20 a0 t297 (wrap64 (x7_2 + 1)))) else (none)) else (none))) = some r := by rw [if_neg (show ¬ (false = true) by decide)] at H; exact H
                          clear H
                          have H := H1
                          clear H1
                          replace H := Option.bind_eq_some_iff.mp H
                          obtain ⟨t319, A380, H⟩ := H
                          replace H : (if 0 ≤ x7_2 then (if x7_2 < (t297.length : Int) then (if (t319 != (((rd_T29 t297 x7_2).f0) == 2)) = true then (some false) else (isthmuslaw11_LexSingle.l0 kj20 a0 t297 (wrap64 (x7_2 + 1)))) else (none)) else (none)) = some r := H
                          have A38 := Aside0.mk A380
                          clear A380
                          by_cases c39 : 0 ≤ x7_2
                          · rw [if_pos c39] at H
                            have c39b0 : decide (0 ≤ x7_2) = true := decide_eq_true c39
                            clear c39
                            by_cases c40 : x7_2 < (t297.length : Int)
                            · rw [if_pos c40] at H
                              have c40b0 : decide (x7_2 < (t297.length : Int)) = true := decide_eq_true c40
                              clear c40
                              by_cases c41 : (t319 != (((rd_T29 t297 x7_2).f0) == 2)) = true
                              · rw [if_pos c41] at H
                                have c41b0 : (t319 != (((rd_T29 t297 x7_2).f0) == 2)) = true := c41
                                (try (have c41b1 : decide (t319 = (((rd_T29 t297 x7_2).f0) == 2)) = false := by simpa using c41))
                                (try (have c41b2 : (t319 == (((rd_T29 t297 x7_2).f0) == 2)) = false := by simpa using c41))
                                (try (have c41b3 : ¬ (t319 = (((rd_T29 t297 x7_2).f0) == 2)) := by simpa using c41))
                                clear c41
                                obtain rfl := Option.some.inj H
                                go_wp2_with (first | (go_at_call 13; (with_reducible refine (lex_IsName.calls kj20 t306 t319 _ A38.out).mono ?_); rintro e w42 ⟨rfl, hb⟩; have n0_ := Aside0.mk (Kd.V_below (by (with_reducible repeat (first | apply Kd.V_alloc | apply Kd.V_drewN | apply Kd.V_drew)); exact HO_4.out) hb); have n1_ := Aside0.mk (below_step (by repeat (first | (with_reducible first | exact HB.out | apply below_alloc | apply pw_below_drewN | apply below_drew1) | exact HB.out)) hb); clear HO_4; clear HB; have HO_4 := n0_; have HB := n1_; clear n0_ n1_; (try clear hb); (try clear hb2); (try clear hk); (try clear hi); have p320 : 0 ≤ (x7_2 : Int) := of_decide_eq_true (by first | (with_reducible assumption) | assumption); have q320 : x7_2 < (t297.length : Int) := of_decide_eq_true (by first | (with_reducible assumption) | assumption); obtain ⟨ad320, e320, hx320_0, hx320_1, hx320_2, hx320_3⟩ := at_T29 (Kd.V_reads' HO_4.out).2.2 x7_2 p320 q320; cases e320; replace p320 := eq_true p320; replace q320 := eq_true q320))
                                repeat (go_quiet (first | (go_at_call 13; (with_reducible refine (lex_IsName.calls kj20 t306 t319 _ A38.out).mono ?_); rintro e w42 ⟨rfl, hb⟩; have n0_ := Aside0.mk (Kd.V_below (by (with_reducible repeat (first | apply Kd.V_alloc | apply Kd.V_drewN | apply Kd.V_drew)); exact HO_4.out) hb); have n1_ := Aside0.mk (below_step (by repeat (first | (with_reducible first | exact HB.out | apply below_alloc | apply pw_below_drewN | apply below_drew1) | exact HB.out)) hb); clear HO_4; clear HB; have HO_4 := n0_; have HB := n1_; clear n0_ n1_; (try clear hb); (try clear hb2); (try clear hk); (try clear hi); have p320 : 0 ≤ (x7_2 : Int) := of_decide_eq_true (by first | (with_reducible assumption) | assumption); have q320 : x7_2 < (t297.length : Int) := of_decide_eq_true (by first | (with_reducible assumption) | assumption); obtain ⟨ad320, e320, hx320_0, hx320_1, hx320_2, hx320_3⟩ := at_T29 (Kd.V_reads' HO_4.out).2.2 x7_2 p320 q320; cases e320; replace p320 := eq_true p320; replace q320 := eq_true q320)); try go_wp2_with (first | (go_at_call 13; (with_reducible refine (lex_IsName.calls kj20 t306 t319 _ A38.out).mono ?_); rintro e w42 ⟨rfl, hb⟩; have n0_ := Aside0.mk (Kd.V_below (by (with_reducible repeat (first | apply Kd.V_alloc | apply Kd.V_drewN | apply Kd.V_drew)); exact HO_4.out) hb); have n1_ := Aside0.mk (below_step (by repeat (first | (with_reducible first | exact HB.out | apply below_alloc | apply pw_below_drewN | apply below_drew1) | exact HB.out)) hb); clear HO_4; clear HB; have HO_4 := n0_; have HB := n1_; clear n0_ n1_; (try clear hb); (try clear hb2); (try clear hk); (try clear hi); have p320 : 0 ≤ (x7_2 : Int) := of_decide_eq_true (by first | (with_reducible assumption) | assumption); have q320 : x7_2 < (t297.length : Int) := of_decide_eq_true (by first | (with_reducible assumption) | assumption); obtain ⟨ad320, e320, hx320_0, hx320_1, hx320_2, hx320_3⟩ := at_T29 (Kd.V_reads' HO_4.out).2.2 x7_2 p320 q320; cases e320; replace p320 := eq_true p320; replace q320 := eq_true q320)))
                                go_ret
                                exact ⟨by first | rfl | (simp [errW_none, errW_some] <;> rfl) | (simp [*, errW_none, errW_some] <;> rfl), by repeat (first | (with_reducible first | exact HB.out | apply below_alloc | apply pw_below_drewN | apply below_drew1) | exact HB.out)⟩
                              · rw [if_neg c41] at H
                                have c41b0 : (t319 != (((rd_T29 t297 x7_2).f0) == 2)) = false := by simpa using c41
                                (try (have c41b1 : decide (t319 = (((rd_T29 t297 x7_2).f0) == 2)) = true := by simpa using c41))
                                (try (have c41b2 : (t319 == (((rd_T29 t297 x7_2).f0) == 2)) = true := by simpa using c41))
                                clear c41
                                have H' := Aside0.mk H
                                clear H
                                go_wp2_with (first | (go_at_call 13; (with_reducible refine (lex_IsName.calls kj20 t306 t319 _ A38.out).mono ?_); rintro e w43 ⟨rfl, hb⟩; have n0_ := Aside0.mk (Kd.V_below (by (with_reducible repeat (first | apply Kd.V_alloc | apply Kd.V_drewN | apply Kd.V_drew)); exact HO_4.out) hb); have n1_ := Aside0.mk (below_step (by repeat (first | (with_reducible first | exact HB.out | apply below_alloc | apply pw_below_drewN | apply below_drew1) | exact HB.out)) hb); clear HO_4; clear HB; have HO_4 := n0_; have HB := n1_; clear n0_ n1_; (try clear hb); (try clear hb2); (try clear hk); (try clear hi); have p320 : 0 ≤ (x7_2 : Int) := of_decide_eq_true (by first | (with_reducible assumption) | assumption); have q320 : x7_2 < (t297.length : Int) := of_decide_eq_true (by first | (with_reducible assumption) | assumption); obtain ⟨ad320, e320, hx320_0, hx320_1, hx320_2, hx320_3⟩ := at_T29 (Kd.V_reads' HO_4.out).2.2 x7_2 p320 q320; cases e320; replace p320 := eq_true p320; replace q320 := eq_true q320))
                                repeat (go_quiet (first | (go_at_call 13; (with_reducible refine (lex_IsName.calls kj20 t306 t319 _ A38.out).mono ?_); rintro e w43 ⟨rfl, hb⟩; have n0_ := Aside0.mk (Kd.V_below (by (with_reducible repeat (first | apply Kd.V_alloc | apply Kd.V_drewN | apply Kd.V_drew)); exact HO_4.out) hb); have n1_ := Aside0.mk (below_step (by repeat (first | (with_reducible first | exact HB.out | apply below_alloc | apply pw_below_drewN | apply below_drew1) | exact HB.out)) hb); clear HO_4; clear HB; have HO_4 := n0_; have HB := n1_; clear n0_ n1_; (try clear hb); (try clear hb2); (try clear hk); (try clear hi); have p320 : 0 ≤ (x7_2 : Int) := of_decide_eq_true (by first | (with_reducible assumption) | assumption); have q320 : x7_2 < (t297.length : Int) := of_decide_eq_true (by first | (with_reducible assumption) | assumption); obtain ⟨ad320, e320, hx320_0, hx320_1, hx320_2, hx320_3⟩ := at_T29 (Kd.V_reads' HO_4.out).2.2 x7_2 p320 q320; cases e320; replace p320 := eq_true p320; replace q320 := eq_true q320)); try go_wp2_with (first | (go_at_call 13; (with_reducible refine (lex_IsName.calls kj20 t306 t319 _ A38.out).mono ?_); rintro e w43 ⟨rfl, hb⟩; have n0_ := Aside0.mk (Kd.V_below (by (with_reducible repeat (first | apply Kd.V_alloc | apply Kd.V_drewN | apply Kd.V_drew)); exact HO_4.out) hb); have n1_ := Aside0.mk (below_step (by repeat (first | (with_reducible first | exact HB.out | apply below_alloc | apply pw_below_drewN | apply below_drew1) | exact HB.out)) hb); clear HO_4; clear HB; have HO_4 := n0_; have HB := n1_; clear n0_ n1_; (try clear hb); (try clear hb2); (try clear hk); (try clear hi); have p320 : 0 ≤ (x7_2 : Int) := of_decide_eq_true (by first | (with_reducible assumption) | assumption); have q320 : x7_2 < (t297.length : Int) := of_decide_eq_true (by first | (with_reducible assumption) | assumption); obtain ⟨ad320, e320, hx320_0, hx320_1, hx320_2, hx320_3⟩ := at_T29 (Kd.V_reads' HO_4.out).2.2 x7_2 p320 q320; cases e320; replace p320 := eq_true p320; replace q320 := eq_true q320)))
                                go_roundg kj20
                                case measure => have := HJ3.out; have := HK2.out; have := HJ9.out; have := HJ20.out; omega
                                case rel => exact ⟨(wrap64 (x7_2 + 1)), (by first | rfl | (simp; done) | (simp [*]; done)), H', ⟨by have := HJ3.out; have := HK2.out; have := HJ9.out; have := HJ20.out; omega⟩, ⟨by (with_reducible repeat (first | apply Kd.V_alloc | apply Kd.V_drewN | apply Kd.V_drew)); exact HO_4.out⟩, ⟨by repeat (first | (with_reducible first | exact HB.out | apply below_alloc | apply pw_below_drewN | apply below_drew1) | exact HB.out)⟩⟩
                            · rw [if_neg c40] at H
                              exact absurd H (by simp)
                          · rw [if_neg c39] at H
                            exact absurd H (by simp)
            · rw [if_neg c9] at H
              have c9b0 : decide ((wrap64 (x7_2 + 1)) < (t297.length : Int)) = false := decide_eq_false c9
              clear c9
              obtain rfl := Option.some.inj H
              obtain ⟨Ao44, co44, eo44⟩ := Kd.V_slice HO_4.out
              subst eo44
              go_wp2
              repeat (go_quiet (fail); try go_wp2)
              go_ret
              exact ⟨by first | rfl | (simp [errW_none, errW_some] <;> rfl) | (simp [*, errW_none, errW_some] <;> rfl), by repeat (first | (with_reducible first | exact HB.out | apply below_alloc | apply pw_below_drewN | apply below_drew1) | exact HB.out)⟩

/-- THE ONE PURE STATEMENT of isthmuslaw11_LexSingle: yours. -/
def isthmuslaw11_LexSingle.Pure : Prop := ∀ (a0 : ByteArray), a0.size ≤ 140737488351232 → ∃ k, isthmuslaw11_LexSingle.f k a0 = some true
theorem isthmuslaw11_LexSingle.walk (P : isthmuslaw11_LexSingle.Pure) (a0 : ByteArray) (w : World) (w0 : a0.size ≤ 140737488351232) :
    Calls Try.prog 8 #[.string a0] w fun e w' => e = .returned (.bool true) ∧ Below w.heap.size w w' := by
  obtain ⟨k, h⟩ := P a0 w0
  refine (isthmuslaw11_LexSingle.calls k a0 true w h).mono ?_
  rintro e w' ⟨rfl, hd⟩
  exact ⟨rfl, hd⟩

end Go.Proofs.Ytijcoddbkefmlaa.L
