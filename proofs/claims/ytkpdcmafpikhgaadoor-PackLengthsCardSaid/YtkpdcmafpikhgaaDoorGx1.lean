-- Laid by a program (wip/tools/gprint.py over the kit's printer) out of the translation. Lean checks it.
import Derived.Test.YtkpdcmafpikhgaaDoorGx0
namespace Go.Proofs.YtkpdcmafpikhgaaDoor.G
open Go.RowKit Go.Proofs.YtkpdcmafpikhgaaDoorW.PrintWords Go.Proofs.YtkpdcmafpikhgaaDoorW.PrintLast Go.Proofs.YtkpdcmafpikhgaaDoorW.PrintMore
attribute [local go_sem] max2_int min2_int max_two min_two max_three min_three max_four min_four   -- for this text's walks alone
set_option linter.unusedVariables false
set_option linter.unusedSimpArgs false

/-! ### pack_Zig: function 13 -/
def pack_Zig.f (a0 : Int) : Option (Int) := some (Go.bits .xor .u64 (IntKind.u64.wrap ((IntKind.u64.wrap (a0)) * 2)) (IntKind.u64.wrap (a0 / 9223372036854775808)))
set_option maxHeartbeats 8000000 in
set_option maxRecDepth 100000 in
theorem pack_Zig.calls (a0 : Int) (r : Int) (w : World) (h : pack_Zig.f a0 = some r) :
    Calls Tryd.prog 13 #[.int .i64 a0] w fun e w' => e = .returned (.int .u64 r) ∧ Drawn0 w w' := by
  have H : (some (Go.bits .xor .u64 (IntKind.u64.wrap ((IntKind.u64.wrap (a0)) * 2)) (IntKind.u64.wrap (a0 / 9223372036854775808)))) = some r := h
  clear h
  obtain rfl := Option.some.inj H
  go_enter Tryd.func13, Tryd.ntmps13
  go_wp2
  go_ret
  exact ⟨by first | rfl | (simp; done) | (simp [*]; done), by repeat (first | exact Drawn0.refl _ | apply Drawn0.step)⟩

/-! ### pack_Zag: function 14 -/
def pack_Zag.f (a0 : Int) : Option (Int) := some (Go.bits .xor .i64 (wrap64 (a0 / 2)) (wrap64 (-(wrap64 (Go.bits .and .u64 a0 1)))))
set_option maxHeartbeats 8000000 in
set_option maxRecDepth 100000 in
theorem pack_Zag.calls (a0 : Int) (r : Int) (w : World) (h : pack_Zag.f a0 = some r) :
    Calls Tryd.prog 14 #[.int .u64 a0] w fun e w' => e = .returned (.int .i64 r) ∧ Drawn0 w w' := by
  have H : (some (Go.bits .xor .i64 (wrap64 (a0 / 2)) (wrap64 (-(wrap64 (Go.bits .and .u64 a0 1)))))) = some r := h
  clear h
  obtain rfl := Option.some.inj H
  go_enter Tryd.func14, Tryd.ntmps14
  go_wp2
  go_ret
  exact ⟨by first | rfl | (simp; done) | (simp [*]; done), by repeat (first | exact Drawn0.refl _ | apply Drawn0.step)⟩

/-! ### pack_Put: function 17 -/
def pack_Put.l0 : Nat → Int → List Int → Option (ByteArray)
  | 0, _, _ => none
  | k + 1, x0, x3 => if x0 > 127 then (if x3.length < 140737488355328 then (pack_Put.l0 k (x0 / 128) (x3 ++ [Go.bits .or .u8 ((x0) % 256) 128])) else (none)) else (if x3.length < 140737488355328 then (some (strOfNums (x3 ++ [(x0) % 256]))) else (none))
def pack_Put.f (k : Nat) (a0 : Int) : Option (ByteArray) := pack_Put.l0 k a0 ([] : List Int)
theorem pack_Put.mono_l : ∀ k, (∀ y0 y1, LeO (pack_Put.l0 k y0 y1) (pack_Put.l0 (k + 1) y0 y1))
  | 0 => fun _ _ r h => by simp [pack_Put.l0] at h
  | k + 1 => by
    have ih0 := pack_Put.mono_l k
    · intro y0 y1
      unfold pack_Put.l0
      repeat' first
      | (with_reducible exact ih0 _ _)
      | (with_reducible exact LeO.refl _)
      | (with_reducible exact LeO.none _)
      | (with_reducible refine LeO.ite ?_ ?_)
      | (with_reducible refine LeO.bind ?_ (fun _ => ?_))
      | exact ih0 _ _
      | exact LeO.none _
      | refine LeO.ite ?_ ?_
      | refine LeO.bind ?_ (fun _ => ?_)
theorem pack_Put.mono : ∀ a0 k, LeO (pack_Put.f k a0) (pack_Put.f (k + 1) a0) := by
  intro a0 k
  have ih0 := pack_Put.mono_l k
  unfold pack_Put.f
  repeat' first
      | (with_reducible exact ih0 _ _)
      | (with_reducible exact LeO.refl _)
      | (with_reducible exact LeO.none _)
      | (with_reducible refine LeO.ite ?_ ?_)
      | (with_reducible refine LeO.bind ?_ (fun _ => ?_))
      | exact ih0 _ _
      | exact LeO.none _
      | refine LeO.ite ?_ ?_
      | refine LeO.bind ?_ (fun _ => ?_)
set_option maxHeartbeats 8000000 in
set_option maxRecDepth 100000 in
theorem pack_Put.calls (k : Nat) (a0 : Int) (r : ByteArray) (w : World) (h : pack_Put.f k a0 = some r) :
    Calls Tryd.prog 17 #[.int .u64 a0] w fun e w' => e = .returned (.string r) ∧ Below w.heap.size w w' := by
  have HB := Aside0.mk (Below.refl w.heap.size w)
  have H : (pack_Put.l0 k a0 ([] : List Int)) = some r := h
  clear h
  have H' := Aside0.mk H
  clear H
  go_enter Tryd.func17, Tryd.ntmps17
  go_wp2
  go_loopg [0, 3] k (fun kq v0 v3 w' => ∃ (x0_1 : Int) (x3_1 : List Int), v0 = .int .u64 x0_1 ∧ Aside0 (pack_Put.l0 kq x0_1 x3_1 = some r) ∧ Aside0 (kq ≤ k) ∧ Aside0 (Kd.R (Kd.int .u8) 5 w' w.heap.size (fun _ => True) v3 x3_1) ∧ Aside0 (Below w.heap.size w w'))
  case atStart => exact ⟨(a0), (([] : List Int)), (by first | rfl | (simp; done) | (simp [*]; done)), H', ⟨Nat.le_refl _⟩, ⟨by first | exact Kd.R_nil _ _ _ _ _ | exact Kd.N_nil _ _ _ _ _ | exact Kd.V_nil _ _ _ _ _ | exact Kd.Q_nil _ _ _ _ _ | exact Kd.S_nil _ _ _ _ _⟩, ⟨by repeat (first | (with_reducible first | exact HB.out | apply below_alloc | apply pw_below_drewN | apply below_drew1) | exact HB.out)⟩⟩
  case round =>
    clear H'
    try clear c1
    obtain ⟨x0_1, x3_1, rfl, HA, HK1, HO_3, HB⟩ := hrel
    cases gk with
    | zero => exact absurd HA.out (by simp [pack_Put.l0])
    | succ k1 =>
      have H := HA.out
      clear HA
      simp only [pack_Put.l0] at H
      by_cases c2 : x0_1 > 127
      · rw [if_pos c2] at H
        have c2b0 : decide (127 < x0_1) = true := decide_eq_true c2
        clear c2
        by_cases c3 : x3_1.length < 140737488355328
        · rw [if_pos c3] at H
          have LMc3 := Aside0.mk c3
          clear c3
          obtain ⟨y101, hy101⟩ : ∃ y_ : List Int, y_ = (x3_1 ++ [Go.bits .or .u8 ((x0_1) % 256) 128]) := ⟨_, rfl⟩
          replace H : (pack_Put.l0 k1 (x0_1 / 128) y101) = some r := by first | (rw [hy101]; with_reducible exact H) | (have H2_ := (Option.bind_some _ _).symm.trans H; rw [hy101]; with_reducible exact H2_) | (have H2_ := (Option.bind_some _ _).symm.trans H; with_reducible exact H2_) | with_reducible exact H | (rw [hy101]; exact H) | exact H
          have Ny101 := Aside0.mk hy101
          clear hy101
          have H' := Aside0.mk H
          clear H
          go_wp2_with (first | ((with_reducible refine gate_builtin (b := .append) (xs := #[.tmp 8, .tmp 12]) rfl ?_); at_builtin; refine Kd.R_append (Kd.int .u8) (w0 := w) w.heap.size rfl (.tmp 8) (.tmp 12) 43 5 (.int .u8 0) 1 rfl Tryd.underlying43 info5 rfl (by decide) (by omega) u3 x3_1 (Go.bits .or .u8 ((x0_1) % 256) 128) [.int .u8 (Go.bits .or .u8 ((x0_1) % 256) 128)] (fun _ => True) (fun _ => False) rfl rfl ?aP (fun _ hk => hk.elim) ?aF ?aO ?aB ?aS ?aL ?_; (case aP => exact rfl); (case aB => exact (by repeat (first | (with_reducible first | exact HB.out | apply below_alloc | apply pw_below_drewN | apply below_drew1) | exact HB.out))); (case aF => exact (fun _ _ => trivial)); (case aO => exact (by (with_reducible repeat (first | apply Kd.R_alloc | apply Kd.R_drewN | apply Kd.R_drew)); exact HO_3.out)); (case aS => exact (below_size (by repeat (first | (with_reducible first | exact HB.out | apply below_alloc | apply pw_below_drewN | apply below_drew1) | exact HB.out)))); (case aL => have := LMc3.out; omega); intro v102 w4 ho hb hg hat; rw [← Ny101.out] at ho; have n0_ := Aside0.mk (hb); have n1_ := Aside0.mk (ho); clear HB; clear HO_3; have HB := n0_; have HO103 := n1_; clear n0_ n1_; clear ho hb hg hat))
          go_roundg k1
          case measure => have := HK1.out; omega
          case rel => exact ⟨(x0_1 / 128), (y101), (by first | rfl | (simp; done) | (simp [*]; done)), H', ⟨by have := HK1.out; omega⟩, ⟨by (with_reducible repeat (first | apply Kd.R_alloc | apply Kd.R_drewN | apply Kd.R_drew)); exact HO103.out⟩, ⟨by repeat (first | (with_reducible first | exact HB.out | apply below_alloc | apply pw_below_drewN | apply below_drew1) | exact HB.out)⟩⟩
        · rw [if_neg c3] at H
          exact absurd H (by simp)
      · rw [if_neg c2] at H
        have c2b0 : decide (127 < x0_1) = false := decide_eq_false c2
        clear c2
        by_cases c5 : x3_1.length < 140737488355328
        · rw [if_pos c5] at H
          have LMc5 := Aside0.mk c5
          clear c5
          obtain ⟨y104, hy104⟩ : ∃ y_ : List Int, y_ = (x3_1 ++ [(x0_1) % 256]) := ⟨_, rfl⟩
          replace H : (some (strOfNums y104)) = some r := by first | (rw [hy104]; with_reducible exact H) | (have H2_ := (Option.bind_some _ _).symm.trans H; rw [hy104]; with_reducible exact H2_) | (have H2_ := (Option.bind_some _ _).symm.trans H; with_reducible exact H2_) | with_reducible exact H | (rw [hy104]; exact H) | exact H
          have Ny104 := Aside0.mk hy104
          clear hy104
          obtain rfl := Option.some.inj H
          go_wp2_with (first | ((with_reducible refine gate_builtin (b := .append) (xs := #[.tmp 14, .tmp 17]) rfl ?_); at_builtin; refine Kd.R_append (Kd.int .u8) (w0 := w) w.heap.size rfl (.tmp 14) (.tmp 17) 43 5 (.int .u8 0) 1 rfl Tryd.underlying43 info5 rfl (by decide) (by omega) u3 x3_1 ((x0_1) % 256) [.int .u8 ((x0_1) % 256)] (fun _ => True) (fun _ => False) rfl rfl ?aP (fun _ hk => hk.elim) ?aF ?aO ?aB ?aS ?aL ?_; (case aP => exact rfl); (case aB => exact (by repeat (first | (with_reducible first | exact HB.out | apply below_alloc | apply pw_below_drewN | apply below_drew1) | exact HB.out))); (case aF => exact (fun _ _ => trivial)); (case aO => exact (by (with_reducible repeat (first | apply Kd.R_alloc | apply Kd.R_drewN | apply Kd.R_drew)); exact HO_3.out)); (case aS => exact (below_size (by repeat (first | (with_reducible first | exact HB.out | apply below_alloc | apply pw_below_drewN | apply below_drew1) | exact HB.out)))); (case aL => have := LMc5.out; omega); intro v105 w6 ho hb hg hat; rw [← Ny104.out] at ho; have n0_ := Aside0.mk (hb); have n1_ := Aside0.mk (ho); clear HB; clear HO_3; have HB := n0_; have HO106 := n1_; clear n0_ n1_; clear ho hb hg hat; have hcv7 := own_string (P := Tryd.prog) Tryd.underlying43 Tryd.underlying5 Tryd.underlying9 (Kd.own_of_R HO106.out)))
          go_ret
          exact ⟨by first | rfl | (simp [errW_none, errW_some] <;> rfl) | (simp [*, errW_none, errW_some] <;> rfl), by repeat (first | (with_reducible first | exact HB.out | apply below_alloc | apply pw_below_drewN | apply below_drew1) | exact HB.out)⟩
        · rw [if_neg c5] at H
          exact absurd H (by simp)

/-! ### pack_Take: function 18 -/
mutual
def pack_Take.l0 : Nat → ByteArray → Int → Int → Int → Option (Int × Int × Int)
  | 0, _, _, _, _ => none
  | k + 1, x0, x5, x9, x10 => if x10 < x9 then (if 0 ≤ x10 then (if x10 < (x0.size : Int) then (if x10 = 9 then (pack_Take.j1 k x0 x5 x10 (bt x0 x10) x9 x10 (decide ((bt x0 x10) > 1))) else (pack_Take.j1 k x0 x5 x10 (bt x0 x10) x9 x10 false)) else (none)) else (none)) else (some (0, 0, 10))
def pack_Take.j1 : Nat → ByteArray → Int → Int → Int → Int → Int → Bool → Option (Int × Int × Int)
  | 0, _, _, _, _, _, _, _ => none
  | k + 1, x0, x5, x6, x7, x9, x10, x21 => if x21 = true then (some (0, 0, 11)) else (if 0 ≤ (wrap64 (7 * x6)) then (if x7 > 127 then (pack_Take.l0 k x0 (Go.bits .or .u64 x5 (shl .u64 (IntKind.u64.wrap (Go.bits .and .u8 x7 127)) (wrap64 (7 * x6)))) x9 (wrap64 (x10 + 1))) else (if x7 = 0 then (if x6 > 0 then (some (0, 0, 11)) else (some (Go.bits .or .u64 x5 (shl .u64 (IntKind.u64.wrap (Go.bits .and .u8 x7 127)) (wrap64 (7 * x6))), wrap64 (x6 + 1), 0))) else (some (Go.bits .or .u64 x5 (shl .u64 (IntKind.u64.wrap (Go.bits .and .u8 x7 127)) (wrap64 (7 * x6))), wrap64 (x6 + 1), 0)))) else (none))
end
def pack_Take.f (k : Nat) (a0 : ByteArray) : Option (Int × Int × Int) := pack_Take.l0 k a0 0 (a0.size : Int) 0
theorem pack_Take.mono_l : ∀ k, (∀ y0 y1 y2 y3, LeO (pack_Take.l0 k y0 y1 y2 y3) (pack_Take.l0 (k + 1) y0 y1 y2 y3)) ∧ (∀ y0 y1 y2 y3 y4 y5 y6, LeO (pack_Take.j1 k y0 y1 y2 y3 y4 y5 y6) (pack_Take.j1 (k + 1) y0 y1 y2 y3 y4 y5 y6))
  | 0 => ⟨fun _ _ _ _ r h => by simp [pack_Take.l0] at h, fun _ _ _ _ _ _ _ r h => by simp [pack_Take.j1] at h⟩
  | k + 1 => by
    obtain ⟨ih0, ih1⟩ := pack_Take.mono_l k
    refine ⟨?_, ?_⟩
    · intro y0 y1 y2 y3
      unfold pack_Take.l0
      repeat' first
      | (with_reducible exact ih0 _ _ _ _)
      | (with_reducible exact ih1 _ _ _ _ _ _ _)
      | (with_reducible exact LeO.refl _)
      | (with_reducible exact LeO.none _)
      | (with_reducible refine LeO.ite ?_ ?_)
      | (with_reducible refine LeO.bind ?_ (fun _ => ?_))
      | exact ih0 _ _ _ _
      | exact ih1 _ _ _ _ _ _ _
      | exact LeO.none _
      | refine LeO.ite ?_ ?_
      | refine LeO.bind ?_ (fun _ => ?_)
    · intro y0 y1 y2 y3 y4 y5 y6
      unfold pack_Take.j1
      repeat' first
      | (with_reducible exact ih0 _ _ _ _)
      | (with_reducible exact ih1 _ _ _ _ _ _ _)
      | (with_reducible exact LeO.refl _)
      | (with_reducible exact LeO.none _)
      | (with_reducible refine LeO.ite ?_ ?_)
      | (with_reducible refine LeO.bind ?_ (fun _ => ?_))
      | exact ih0 _ _ _ _
      | exact ih1 _ _ _ _ _ _ _
      | exact LeO.none _
      | refine LeO.ite ?_ ?_
      | refine LeO.bind ?_ (fun _ => ?_)
theorem pack_Take.mono : ∀ a0 k, LeO (pack_Take.f k a0) (pack_Take.f (k + 1) a0) := by
  intro a0 k
  obtain ⟨ih0, ih1⟩ := pack_Take.mono_l k
  unfold pack_Take.f
  repeat' first
      | (with_reducible exact ih0 _ _ _ _)
      | (with_reducible exact ih1 _ _ _ _ _ _ _)
      | (with_reducible exact LeO.refl _)
      | (with_reducible exact LeO.none _)
      | (with_reducible refine LeO.ite ?_ ?_)
      | (with_reducible refine LeO.bind ?_ (fun _ => ?_))
      | exact ih0 _ _ _ _
      | exact ih1 _ _ _ _ _ _ _
      | exact LeO.none _
      | refine LeO.ite ?_ ?_
      | refine LeO.bind ?_ (fun _ => ?_)
set_option maxHeartbeats 8000000 in
set_option maxRecDepth 100000 in
theorem pack_Take.calls (k : Nat) (a0 : ByteArray) (r1 : Int) (r2 : Int) (r3 : Int) (w : World) (h : pack_Take.f k a0 = some (r1, r2, r3)) :
    Calls Tryd.prog 18 #[.string a0] w fun e w' => e = .returned (.tuple #[.int .u64 r1, .int .i64 r2, .int .i64 r3]) ∧ Drawn0 w w' := by
  have H : (pack_Take.l0 k a0 0 (a0.size : Int) 0) = some (r1, r2, r3) := h
  clear h
  have H' := Aside0.mk H
  clear H
  go_enter Tryd.func18, Tryd.ntmps18
  go_wp2
  go_loopg [5, 10] k (fun kq v5 v10 w' => ∃ (x5_1 : Int) (x10_1 : Int), v5 = .int .u64 x5_1 ∧ v10 = .int .i64 x10_1 ∧ Aside0 (pack_Take.l0 kq a0 x5_1 (a0.size : Int) x10_1 = some (r1, r2, r3)) ∧ Aside0 (kq ≤ k) ∧ Drawn0 w w')
  case atStart => exact ⟨(0), (0), (by first | rfl | (simp; done) | (simp [*]; done)), (by first | rfl | (simp; done) | (simp [*]; done)), H', ⟨Nat.le_refl _⟩, by repeat (first | exact Drawn0.refl _ | apply Drawn0.step)⟩
  case round =>
    clear H'
    try clear c1
    obtain ⟨x5_1, x10_1, rfl, rfl, HA, HK1, ⟨m1, rfl⟩⟩ := hrel
    cases gk with
    | zero => exact absurd HA.out (by simp [pack_Take.l0])
    | succ k1 =>
      have H := HA.out
      clear HA
      simp only [pack_Take.l0] at H
      by_cases c2 : x10_1 < (a0.size : Int)
      · rw [if_pos c2] at H
        have c2b0 : decide (x10_1 < (a0.size : Int)) = true := decide_eq_true c2
        clear c2
        by_cases c3 : 0 ≤ x10_1
        · rw [if_pos c3] at H
          have c3b0 : decide (0 ≤ x10_1) = true := decide_eq_true c3
          clear c3
          by_cases c4 : x10_1 < (a0.size : Int)
          · rw [if_pos c4] at H
            have c4b0 : decide (x10_1 < (a0.size : Int)) = true := decide_eq_true c4
            clear c4
            have HC6 := Aside0.mk H
            clear H
            have p5 : 0 ≤ (x10_1 : Int) := of_decide_eq_true (by first | (with_reducible assumption) | assumption)
            have q5 : x10_1 < (a0.size : Int) := of_decide_eq_true (by first | (with_reducible assumption) | assumption)
            have hx5 := bt_at a0 x10_1
            replace p5 := eq_true p5
            replace q5 := eq_true q5
            go_upto_region 6 with (fail)
            go_cut [21] (fun v21 wc => ∃ (kq : Nat) (x21_5 : Bool), v21 = .bool x21_5 ∧ Aside0 (pack_Take.j1 kq a0 x5_1 x10_1 (bt a0 x10_1) (a0.size : Int) x10_1 x21_5 = some (r1, r2, r3)) ∧ Aside0 (kq ≤ k1) ∧ Drawn0 w wc)
            case first =>
              have H := HC6.out
              clear HC6
              by_cases c7 : x10_1 = 9
              · rw [if_pos c7] at H
                have c7b0 : (x10_1 == 9) = true := beq_iff_eq.mpr c7
                have c7b1 : (x10_1 != 9) = false := bne_eq_false_iff_eq.mpr c7
                clear c7
                (first | rw [c7b0] | (simp only [i64_w, i32_w]; rw [c7b0]) | skip)
                have H' := Aside0.mk H
                clear H
                go_wp2
                go_meet
                case rel => exact ⟨_, (decide ((bt a0 x10_1) > 1)), (by first | rfl | (simp; done) | (simp [*]; done)), H', ⟨by have := HK1.out; first | omega | exact Nat.le_refl _⟩, by repeat (first | exact Drawn0.refl _ | apply Drawn0.step)⟩
              · rw [if_neg c7] at H
                have c7b0 : (x10_1 == 9) = false := beq_eq_false_iff_ne.mpr c7
                have c7b1 : (x10_1 != 9) = true := bne_iff_ne.mpr c7
                (first | rw [c7b0] | (simp only [i64_w, i32_w]; rw [c7b0]) | skip)
                have H' := Aside0.mk H
                clear H
                go_wp2
                go_meet
                case rel => exact ⟨_, (false), (by first | rfl | (simp; done) | (simp [*]; done)), H', ⟨by have := HK1.out; first | omega | exact Nat.le_refl _⟩, by repeat (first | exact Drawn0.refl _ | apply Drawn0.step)⟩
            case rest =>
              clear HC6
              try clear c1
              try clear c2
              try clear c2b0
              try clear p2
              try clear c3
              try clear c3b0
              try clear c4
              try clear c4b0
              try clear p5
              try clear q5
              try clear hx5
              try clear c7
              try clear c7b0
              try clear c7b1
              try clear p5
              try clear q5
              obtain ⟨kq, x21_5, rfl, HA, HJ5, ⟨mc5, rfl⟩⟩ := hcut
              cases kq with
              | zero => exact absurd HA.out (by simp [pack_Take.j1])
              | succ kj5 =>
                have H := HA.out
                clear HA
                simp only [pack_Take.j1] at H
                by_cases c8 : x21_5 = true
                · subst c8
                  have H1 : (some (0, 0, 11)) = some (r1, r2, r3) := by rw [if_pos rfl] at H; exact H
                  clear H
                  have H := H1
                  clear H1
                  simp only [Option.some.injEq, Prod.mk.injEq] at H
                  obtain ⟨rfl, rfl, rfl⟩ := H
                  go_wp2
                  go_ret3
                  exact ⟨by first | rfl | (simp; done) | (simp [*]; done), by repeat (first | exact Drawn0.refl _ | apply Drawn0.step)⟩
                · replace c8 := Bool.eq_false_iff.mpr c8
                  subst c8
                  have H1 : (if 0 ≤ (wrap64 (7 * x10_1)) then (if (bt a0 x10_1) > 127 then (pack_Take.l0 kj5 a0 (Go.bits .or .u64 x5_1 (shl .u64 (IntKind.u64.wrap (Go.bits .and .u8 (bt a0 x10_1) 127)) (wrap64 (7 * x10_1)))) (a0.size : Int) (wrap64 (x10_1 + 1))) else (if (bt a0 x10_1) = 0 then (if x10_1 > 0 then (some (0, 0, 11)) else (some (Go.bits .or .u64 x5_1 (shl .u64 (IntKind.u64.wrap (Go.bits .and .u8 (bt a0 x10_1) 127)) (wrap64 (7 * x10_1))), wrap64 (x10_1 + 1), 0))) else (some (Go.bits .or .u64 x5_1 (shl .u64 (IntKind.u64.wrap (Go.bits .and .u8 (bt a0 x10_1) 127)) (wrap64 (7 * x10_1))), wrap64 (x10_1 + 1), 0)))) else (none)) = some (r1, r2, r3) := by rw [if_neg (show ¬ (false = true) by decide)] at H; exact H
                  clear H
                  have H := H1
                  clear H1
                  obtain ⟨ji9, hji9⟩ : ∃ j_ : Int, (wrap64 (7 * x10_1)) = j_ := ⟨_, rfl⟩
                  replace H : (if 0 ≤ (ji9) then (if (bt a0 x10_1) > 127 then (pack_Take.l0 kj5 a0 (Go.bits .or .u64 x5_1 (shl .u64 (IntKind.u64.wrap (Go.bits .and .u8 (bt a0 x10_1) 127)) (ji9))) (a0.size : Int) (wrap64 (x10_1 + 1))) else (if (bt a0 x10_1) = 0 then (if x10_1 > 0 then (some (0, 0, 11)) else (some (Go.bits .or .u64 x5_1 (shl .u64 (IntKind.u64.wrap (Go.bits .and .u8 (bt a0 x10_1) 127)) (ji9)), wrap64 (x10_1 + 1), 0))) else (some (Go.bits .or .u64 x5_1 (shl .u64 (IntKind.u64.wrap (Go.bits .and .u8 (bt a0 x10_1) 127)) (ji9)), wrap64 (x10_1 + 1), 0)))) else (none)) = some (r1, r2, r3) := by first | (rw [hji9] at H; exact H) | (simp only [hji9] at H ⊢; exact H)
                  have hji9w : (IntKind.i64.wrap (7 * x10_1)) = ji9 := (i64_w _).trans hji9
                  by_cases c10 : 0 ≤ (ji9)
                  · rw [if_pos c10] at H
                    have c10b0 := eq_true c10
                    have c10b1 : decide (0 ≤ (ji9)) = true := decide_eq_true c10
                    clear c10
                    obtain ⟨ji11, hji11⟩ : ∃ j_ : Int, (shl .u64 (IntKind.u64.wrap (Go.bits .and .u8 (bt a0 x10_1) 127)) (ji9)) = j_ := ⟨_, rfl⟩
                    replace H : (if (bt a0 x10_1) > 127 then (pack_Take.l0 kj5 a0 (Go.bits .or .u64 x5_1 (ji11)) (a0.size : Int) (wrap64 (x10_1 + 1))) else (if (bt a0 x10_1) = 0 then (if x10_1 > 0 then (some (0, 0, 11)) else (some (Go.bits .or .u64 x5_1 (ji11), wrap64 (x10_1 + 1), 0))) else (some (Go.bits .or .u64 x5_1 (ji11), wrap64 (x10_1 + 1), 0)))) = some (r1, r2, r3) := by first | (rw [hji11] at H; exact H) | (simp only [hji11] at H ⊢; exact H)
                    have hji11_ : (IntKind.u64.wrap ((IntKind.u64.wrap (Go.bits .and .u8 (bt a0 x10_1) 127)) * 2 ^ min (ji9).toNat 64)) = ji11 := hji11
                    have hji11z : (ji9) ≤ 64 → (IntKind.u64.wrap ((IntKind.u64.wrap (Go.bits .and .u8 (bt a0 x10_1) 127)) * 2 ^ (ji9).toNat)) = ji11 := shl_small hji11
                    by_cases c12 : (bt a0 x10_1) > 127
                    · rw [if_pos c12] at H
                      have c12b0 : decide (127 < (bt a0 x10_1)) = true := decide_eq_true c12
                      clear c12
                      have H' := Aside0.mk H
                      clear H
                      go_wp2
                      go_roundg kj5
                      case measure => have := HK1.out; have := HJ5.out; omega
                      case rel => exact ⟨(Go.bits .or .u64 x5_1 (ji11)), (wrap64 (x10_1 + 1)), (by first | rfl | (simp; done) | (simp only [← hji11] <;> (first | rfl | simp)) | (simp [*]; done)), (by first | rfl | (simp; done) | (simp [*]; done)), H', ⟨by have := HK1.out; have := HJ5.out; omega⟩, by repeat (first | exact Drawn0.refl _ | apply Drawn0.step)⟩
                    · rw [if_neg c12] at H
                      have c12b0 : decide (127 < (bt a0 x10_1)) = false := decide_eq_false c12
                      clear c12
                      by_cases c13 : (bt a0 x10_1) = 0
                      · rw [if_pos c13] at H
                        have c13b0 : ((bt a0 x10_1) == 0) = true := beq_iff_eq.mpr c13
                        have c13b1 : ((bt a0 x10_1) != 0) = false := bne_eq_false_iff_eq.mpr c13
                        clear c13
                        by_cases c14 : x10_1 > 0
                        · rw [if_pos c14] at H
                          have c14b0 : decide (0 < x10_1) = true := decide_eq_true c14
                          clear c14
                          simp only [Option.some.injEq, Prod.mk.injEq] at H
                          obtain ⟨rfl, rfl, rfl⟩ := H
                          go_wp2
                          go_ret3
                          exact ⟨by first | rfl | (simp; done) | (simp only [← hji9, ← hji11] <;> (first | rfl | simp)) | (simp [*]; done), by repeat (first | exact Drawn0.refl _ | apply Drawn0.step)⟩
                        · rw [if_neg c14] at H
                          have c14b0 : decide (0 < x10_1) = false := decide_eq_false c14
                          clear c14
                          simp only [Option.some.injEq, Prod.mk.injEq] at H
                          obtain ⟨rfl, rfl, rfl⟩ := H
                          go_wp2
                          go_ret3
                          exact ⟨by first | rfl | (simp; done) | (simp only [← hji9, ← hji11] <;> (first | rfl | simp)) | (simp [*]; done), by repeat (first | exact Drawn0.refl _ | apply Drawn0.step)⟩
                      · rw [if_neg c13] at H
                        have c13b0 : ((bt a0 x10_1) == 0) = false := beq_eq_false_iff_ne.mpr c13
                        have c13b1 : ((bt a0 x10_1) != 0) = true := bne_iff_ne.mpr c13
                        simp only [Option.some.injEq, Prod.mk.injEq] at H
                        obtain ⟨rfl, rfl, rfl⟩ := H
                        go_wp2
                        go_ret3
                        exact ⟨by first | rfl | (simp; done) | (simp only [← hji9, ← hji11] <;> (first | rfl | simp)) | (simp [*]; done), by repeat (first | exact Drawn0.refl _ | apply Drawn0.step)⟩
                  · rw [if_neg c10] at H
                    exact absurd H (by simp)
          · rw [if_neg c4] at H
            exact absurd H (by simp)
        · rw [if_neg c3] at H
          exact absurd H (by simp)
      · rw [if_neg c2] at H
        have c2b0 : decide (x10_1 < (a0.size : Int)) = false := decide_eq_false c2
        clear c2
        simp only [Option.some.injEq, Prod.mk.injEq] at H
        obtain ⟨rfl, rfl, rfl⟩ := H
        go_wp2
        go_ret3
        exact ⟨by first | rfl | (simp; done) | (simp [*]; done), by repeat (first | exact Drawn0.refl _ | apply Drawn0.step)⟩

/-! ### pack_Word: function 21 -/

def pack_Word.f (a0 a1 a2 : Int) : Option (Int × Int) :=
  if a0 < 0 then some (0, 12) else if IntKind.u64.wrap a0 / 256 = 0 then
    (if a1 < 0 then some (0, 12) else if IntKind.u64.wrap a1 / 268435456 = 0 then
      (if a2 < 0 then some (0, 12) else if IntKind.u64.wrap a2 / 268435456 = 0 then
        some (Go.bits .or .u64 (Go.bits .or .u64 (Go.bits .or .u64 0 (IntKind.u64.wrap (IntKind.u64.wrap a0 * 72057594037927936))) (IntKind.u64.wrap (IntKind.u64.wrap a1 * 268435456))) (IntKind.u64.wrap (IntKind.u64.wrap a2)), 0)
      else some (0, 12)) else some (0, 12)) else some (0, 12)
set_option maxHeartbeats 8000000 in
set_option maxRecDepth 100000 in
theorem pack_Word.calls (a0 a1 a2 : Int) (r1 r2 : Int) (w : World) (hG : Glob w) (h : pack_Word.f a0 a1 a2 = some (r1, r2)) :
    Calls Tryd.prog 21 #[.int .i64 a0, .int .i64 a1, .int .i64 a2] w fun e w' => e = .returned (.tuple #[.int .u64 r1, .int .i64 r2]) ∧ Below w.heap.size w w' := by
  unfold pack_Word.f at h
  have hG' := hG
  unfold Glob at hG'
  obtain ⟨h0, h1, h2, h3, h4, h5⟩ := hG'
  have hz0 : 0 < w.heap.size := World.block_lt_of_cell? w _ h0
  have hz1 : 0 ≠ w.heap.size := by omega
  have hz2 : w.heap.size ≠ 0 := by omega
  have i0 : ∀ w, (Instr.index 44 (.agg #[.int .i64 a0, .int .i64 a1, .int .i64 a2]) (.int .i64 0)).run Tryd.prog w = .ok (.int .i64 a0) w := fun _ => by kernel_rfl
  have i1 : ∀ w, (Instr.index 44 (.agg #[.int .i64 a0, .int .i64 a1, .int .i64 a2]) (.int .i64 1)).run Tryd.prog w = .ok (.int .i64 a1) w := fun _ => by kernel_rfl
  have i2 : ∀ w, (Instr.index 44 (.agg #[.int .i64 a0, .int .i64 a1, .int .i64 a2]) (.int .i64 2)).run Tryd.prog w = .ok (.int .i64 a2) w := fun _ => by kernel_rfl
  by_cases c0_1 : a0 < 0
  · rw [if_pos c0_1] at h
    have d0_1 : decide (a0 < 0) = true := decide_eq_true c0_1
    clear c0_1
    simp only [Option.some.injEq, Prod.mk.injEq] at h
    obtain ⟨rfl, rfl⟩ := h
    go_enter Tryd.func21, Tryd.ntmps21
    go_wp2
    refine wp_loop_rounds 4 ?_
    rw [rounds_succ]
    go_wp2
    go_ret2
    exact ⟨rfl, by repeat (first | exact Below.refl _ _ | apply below_alloc | refine below_set ?_ (by simp))⟩
  · rw [if_neg c0_1] at h
    have d0_1 : decide (a0 < 0) = false := decide_eq_false c0_1
    clear c0_1
    by_cases c0_2 : IntKind.u64.wrap a0 / 256 = 0
    · rw [if_pos c0_2] at h
      have d0_2 : (IntKind.u64.wrap a0 / 256 != 0) = false := bne_eq_false_iff_eq.mpr c0_2
      clear c0_2
      by_cases c1_1 : a1 < 0
      · rw [if_pos c1_1] at h
        have d1_1 : decide (a1 < 0) = true := decide_eq_true c1_1
        clear c1_1
        simp only [Option.some.injEq, Prod.mk.injEq] at h
        obtain ⟨rfl, rfl⟩ := h
        go_enter Tryd.func21, Tryd.ntmps21
        go_wp2
        refine wp_loop_rounds 4 ?_
        rw [rounds_succ]
        go_wp2
        rw [rounds_succ]
        go_wp2
        go_ret2
        exact ⟨rfl, by repeat (first | exact Below.refl _ _ | apply below_alloc | refine below_set ?_ (by simp))⟩
      · rw [if_neg c1_1] at h
        have d1_1 : decide (a1 < 0) = false := decide_eq_false c1_1
        clear c1_1
        by_cases c1_2 : IntKind.u64.wrap a1 / 268435456 = 0
        · rw [if_pos c1_2] at h
          have d1_2 : (IntKind.u64.wrap a1 / 268435456 != 0) = false := bne_eq_false_iff_eq.mpr c1_2
          clear c1_2
          by_cases c2_1 : a2 < 0
          · rw [if_pos c2_1] at h
            have d2_1 : decide (a2 < 0) = true := decide_eq_true c2_1
            clear c2_1
            simp only [Option.some.injEq, Prod.mk.injEq] at h
            obtain ⟨rfl, rfl⟩ := h
            go_enter Tryd.func21, Tryd.ntmps21
            go_wp2
            refine wp_loop_rounds 4 ?_
            rw [rounds_succ]
            go_wp2
            rw [rounds_succ]
            go_wp2
            rw [rounds_succ]
            go_wp2
            go_ret2
            exact ⟨rfl, by repeat (first | exact Below.refl _ _ | apply below_alloc | refine below_set ?_ (by simp))⟩
          · rw [if_neg c2_1] at h
            have d2_1 : decide (a2 < 0) = false := decide_eq_false c2_1
            clear c2_1
            by_cases c2_2 : IntKind.u64.wrap a2 / 268435456 = 0
            · rw [if_pos c2_2] at h
              have d2_2 : (IntKind.u64.wrap a2 / 268435456 != 0) = false := bne_eq_false_iff_eq.mpr c2_2
              clear c2_2
              simp only [Option.some.injEq, Prod.mk.injEq] at h
              obtain ⟨rfl, rfl⟩ := h
              go_enter Tryd.func21, Tryd.ntmps21
              go_wp2
              refine wp_loop_rounds 4 ?_
              rw [rounds_succ]
              go_wp2
              rw [rounds_succ]
              go_wp2
              rw [rounds_succ]
              go_wp2
              rw [rounds_succ]
              go_wp2
              go_ret2
              exact ⟨rfl, by repeat (first | exact Below.refl _ _ | apply below_alloc | refine below_set ?_ (by simp))⟩
            · rw [if_neg c2_2] at h
              have d2_2 : (IntKind.u64.wrap a2 / 268435456 != 0) = true := bne_iff_ne.mpr c2_2
              clear c2_2
              simp only [Option.some.injEq, Prod.mk.injEq] at h
              obtain ⟨rfl, rfl⟩ := h
              go_enter Tryd.func21, Tryd.ntmps21
              go_wp2
              refine wp_loop_rounds 4 ?_
              rw [rounds_succ]
              go_wp2
              rw [rounds_succ]
              go_wp2
              rw [rounds_succ]
              go_wp2
              go_ret2
              exact ⟨rfl, by repeat (first | exact Below.refl _ _ | apply below_alloc | refine below_set ?_ (by simp))⟩
        · rw [if_neg c1_2] at h
          have d1_2 : (IntKind.u64.wrap a1 / 268435456 != 0) = true := bne_iff_ne.mpr c1_2
          clear c1_2
          simp only [Option.some.injEq, Prod.mk.injEq] at h
          obtain ⟨rfl, rfl⟩ := h
          go_enter Tryd.func21, Tryd.ntmps21
          go_wp2
          refine wp_loop_rounds 4 ?_
          rw [rounds_succ]
          go_wp2
          rw [rounds_succ]
          go_wp2
          go_ret2
          exact ⟨rfl, by repeat (first | exact Below.refl _ _ | apply below_alloc | refine below_set ?_ (by simp))⟩
    · rw [if_neg c0_2] at h
      have d0_2 : (IntKind.u64.wrap a0 / 256 != 0) = true := bne_iff_ne.mpr c0_2
      clear c0_2
      simp only [Option.some.injEq, Prod.mk.injEq] at h
      obtain ⟨rfl, rfl⟩ := h
      go_enter Tryd.func21, Tryd.ntmps21
      go_wp2
      refine wp_loop_rounds 4 ?_
      rw [rounds_succ]
      go_wp2
      go_ret2
      exact ⟨rfl, by repeat (first | exact Below.refl _ _ | apply below_alloc | refine below_set ?_ (by simp))⟩

/-! ### pack_part: function 27 -/
def pack_part.f (a0 : Int) (a1_0 : Int) (a1_1 : Int) : Option (Int) := if 0 ≤ a1_0 then (if 0 ≤ a1_1 then (some (wrap64 (Go.bits .and .u64 (shr .u64 a0 a1_0) (IntKind.u64.wrap ((shl .u64 1 a1_1) - 1))))) else (none)) else (none)
set_option maxHeartbeats 8000000 in
set_option maxRecDepth 100000 in
theorem pack_part.calls (a0 : Int) (a1_0 : Int) (a1_1 : Int) (r : Int) (w : World) (h : pack_part.f a0 a1_0 a1_1 = some r) :
    Calls Tryd.prog 27 #[.int .u64 a0, .agg #[.int .u64 a1_0, .int .u64 a1_1]] w fun e w' => e = .returned (.int .i64 r) ∧ Below w.heap.size w w' := by
  have hu46 := Tryd.underlying46
  have HB := Aside0.mk (Below.refl w.heap.size w)
  have H : (if 0 ≤ a1_0 then (if 0 ≤ a1_1 then (some (wrap64 (Go.bits .and .u64 (shr .u64 a0 a1_0) (IntKind.u64.wrap ((shl .u64 1 a1_1) - 1))))) else (none)) else (none)) = some r := h
  clear h
  by_cases c3 : 0 ≤ a1_0
  · rw [if_pos c3] at H
    have c3b0 := eq_true c3
    have c3b1 : decide (0 ≤ a1_0) = true := decide_eq_true c3
    clear c3
    obtain ⟨ji4, hji4⟩ : ∃ j_ : Int, (shr .u64 a0 a1_0) = j_ := ⟨_, rfl⟩
    replace H : (if 0 ≤ a1_1 then (some (wrap64 (Go.bits .and .u64 (ji4) (IntKind.u64.wrap ((shl .u64 1 a1_1) - 1))))) else (none)) = some r := by first | (rw [hji4] at H; exact H) | (simp only [hji4] at H ⊢; exact H)
    have hji4_ : (a0 / 2 ^ min a1_0.toNat 64) = ji4 := hji4
    have hji4z : a1_0 ≤ 64 → (a0 / 2 ^ a1_0.toNat) = ji4 := shr_small hji4
    by_cases c5 : 0 ≤ a1_1
    · rw [if_pos c5] at H
      have c5b0 := eq_true c5
      have c5b1 : decide (0 ≤ a1_1) = true := decide_eq_true c5
      clear c5
      obtain ⟨ji6, hji6⟩ : ∃ j_ : Int, (shl .u64 1 a1_1) = j_ := ⟨_, rfl⟩
      replace H : (some (wrap64 (Go.bits .and .u64 (ji4) (IntKind.u64.wrap ((ji6) - 1))))) = some r := by first | (rw [hji6] at H; exact H) | (simp only [hji6] at H ⊢; exact H)
      have hji6_ : (IntKind.u64.wrap (1 * 2 ^ min a1_1.toNat 64)) = ji6 := hji6
      have hji6z : a1_1 ≤ 64 → (IntKind.u64.wrap (1 * 2 ^ a1_1.toNat)) = ji6 := shl_small hji6
      have hji6u : (IntKind.u64.wrap (2 ^ min a1_1.toNat 64)) = ji6 := by have h_ := hji6_; rw [Int.one_mul] at h_; exact h_
      have hji6v : a1_1 ≤ 64 → (IntKind.u64.wrap (2 ^ a1_1.toNat)) = ji6 := fun hle_ => by have h_ := hji6z hle_; rw [Int.one_mul] at h_; exact h_
      obtain rfl := Option.some.inj H
      go_enter Tryd.func27, Tryd.ntmps27
      go_wp2_with (first | ((with_reducible refine gate_dst (N := 3) rfl ?_); refine box_event ?hg (N := 3) ?hd (cs := #[.int .u64 a1_0, .int .u64 a1_1]) (t := 46) ?hr ?_; (case hd => rfl); (case hg => rfl); (case hr => first | (go_simp; done) | (go_simp; rfl)); intro gb107 hg w7 hbox hb; have n0_ := Aside0.mk (below_step (by repeat (first | (with_reducible first | exact HB.out | apply below_alloc | apply pw_below_drewN | apply below_drew1) | exact HB.out)) hb); have n1_ := Aside0.mk (hbox); have n2_ := Aside0.mk ((by rw [hg]; exact (below_size (by repeat (first | (with_reducible first | exact HB.out | apply below_alloc | apply pw_below_drewN | apply below_drew1) | exact HB.out))) : w.heap.size ≤ gb107)); have n3_ := Aside0.mk ((by rw [hg]; exact (below_size (by repeat (first | (with_reducible first | exact HB.out | apply below_alloc | apply pw_below_drewN | apply below_drew1) | exact HB.out))) : w.heap.size ≤ gb107)); clear HB; have HB := n0_; have BK107 := n1_; have GW107 := n2_; have GE107 := n3_; clear n0_ n1_ n2_ n3_; clear hb hbox hg; have hcz8_0 : w7.cell? ⟨gb107, 0, none⟩ = some (.int .u64 a1_0) := (blk_cell BK107.out 0).trans rfl; have hcz8_1 : w7.cell? ⟨gb107, 1, none⟩ = some (.int .u64 a1_1) := (blk_cell BK107.out 1).trans rfl; have hfz8_0 := blk_frozen BK107.out 0; have hfz8_1 := blk_frozen BK107.out 1))
      go_ret
      exact ⟨by first | rfl | (simp [errW_none, errW_some] <;> rfl) | (simp only [← hji4, ← hji6]; first | rfl | (simp [errW_none, errW_some] <;> rfl)) | (simp [*, errW_none, errW_some] <;> rfl), by repeat (first | (with_reducible first | exact HB.out | apply below_alloc | apply pw_below_drewN | apply below_drew1 | refine below_set ?_ GE107.out) | exact HB.out)⟩
    · rw [if_neg c5] at H
      exact absurd H (by simp)
  · rw [if_neg c3] at H
    exact absurd H (by simp)

/-! ### pack_Parts: function 23 -/

theorem keepG {w W W' : World} (h : ((W.cell? ⟨0, 0, none⟩ = some (.int .u64 56) ∧ W.cell? ⟨0, 1, none⟩ = some (.int .u64 8) ∧ W.cell? ⟨0, 2, none⟩ = some (.int .u64 28) ∧ W.cell? ⟨0, 3, none⟩ = some (.int .u64 28) ∧ W.cell? ⟨0, 4, none⟩ = some (.int .u64 0) ∧ W.cell? ⟨0, 5, none⟩ = some (.int .u64 28)) ∧ Below w.heap.size w W)) (b : Below W.heap.size W W') : ((W'.cell? ⟨0, 0, none⟩ = some (.int .u64 56) ∧ W'.cell? ⟨0, 1, none⟩ = some (.int .u64 8) ∧ W'.cell? ⟨0, 2, none⟩ = some (.int .u64 28) ∧ W'.cell? ⟨0, 3, none⟩ = some (.int .u64 28) ∧ W'.cell? ⟨0, 4, none⟩ = some (.int .u64 0) ∧ W'.cell? ⟨0, 5, none⟩ = some (.int .u64 28)) ∧ Below w.heap.size w W') := by
  obtain ⟨⟨h0, h1, h2, h3, h4, h5⟩, h6⟩ := h
  exact ⟨⟨pw_cell_below b h0, pw_cell_below b h1, pw_cell_below b h2, pw_cell_below b h3, pw_cell_below b h4, pw_cell_below b h5⟩, below_then h6 h6.size b⟩
theorem keepG_drew {w W : World} (h : ((W.cell? ⟨0, 0, none⟩ = some (.int .u64 56) ∧ W.cell? ⟨0, 1, none⟩ = some (.int .u64 8) ∧ W.cell? ⟨0, 2, none⟩ = some (.int .u64 28) ∧ W.cell? ⟨0, 3, none⟩ = some (.int .u64 28) ∧ W.cell? ⟨0, 4, none⟩ = some (.int .u64 0) ∧ W.cell? ⟨0, 5, none⟩ = some (.int .u64 28)) ∧ Below w.heap.size w W)) : ((W.drew.cell? ⟨0, 0, none⟩ = some (.int .u64 56) ∧ W.drew.cell? ⟨0, 1, none⟩ = some (.int .u64 8) ∧ W.drew.cell? ⟨0, 2, none⟩ = some (.int .u64 28) ∧ W.drew.cell? ⟨0, 3, none⟩ = some (.int .u64 28) ∧ W.drew.cell? ⟨0, 4, none⟩ = some (.int .u64 0) ∧ W.drew.cell? ⟨0, 5, none⟩ = some (.int .u64 28)) ∧ Below w.heap.size w W.drew) := keepG h (Below.refl _ _).drew
def pack_Parts.f (a0 : Int) : Option (Int × Int × Int) := (pack_part.f a0 56 8).bind fun x => (pack_part.f a0 28 28).bind fun y => (pack_part.f a0 0 28).bind fun z => some (x, y, z)
set_option maxHeartbeats 8000000 in
set_option maxRecDepth 100000 in
theorem pack_Parts.calls (a0 : Int) (r1 r2 r3 : Int) (w : World) (hG : Glob w) (h : pack_Parts.f a0 = some (r1, r2, r3)) :
    Calls Tryd.prog 23 #[.int .u64 a0] w fun e w' => e = .returned (.tuple #[.int .i64 r1, .int .i64 r2, .int .i64 r3]) ∧ Below w.heap.size w w' := by
  unfold pack_Parts.f at h
  obtain ⟨x, hx0, h⟩ := Option.bind_eq_some_iff.mp h
  obtain ⟨y, hy0, h⟩ := Option.bind_eq_some_iff.mp h
  obtain ⟨z, hz0, h⟩ := Option.bind_eq_some_iff.mp h
  have hx := Aside0.mk hx0
  have hy := Aside0.mk hy0
  have hz := Aside0.mk hz0
  clear hx0 hy0 hz0
  simp only [Option.some.injEq, Prod.mk.injEq] at h
  obtain ⟨rfl, rfl, rfl⟩ := h
  have HS : ((w.cell? ⟨0, 0, none⟩ = some (.int .u64 56) ∧ w.cell? ⟨0, 1, none⟩ = some (.int .u64 8) ∧ w.cell? ⟨0, 2, none⟩ = some (.int .u64 28) ∧ w.cell? ⟨0, 3, none⟩ = some (.int .u64 28) ∧ w.cell? ⟨0, 4, none⟩ = some (.int .u64 0) ∧ w.cell? ⟨0, 5, none⟩ = some (.int .u64 28)) ∧ Below w.heap.size w w) := ⟨hG, Below.refl _ _⟩
  clear hG
  go_enter Tryd.func23, Tryd.ntmps23
  go_wp2
  go_region_held3 (fun w' => ((w'.cell? ⟨0, 0, none⟩ = some (.int .u64 56) ∧ w'.cell? ⟨0, 1, none⟩ = some (.int .u64 8) ∧ w'.cell? ⟨0, 2, none⟩ = some (.int .u64 28) ∧ w'.cell? ⟨0, 3, none⟩ = some (.int .u64 28) ∧ w'.cell? ⟨0, 4, none⟩ = some (.int .u64 0) ∧ w'.cell? ⟨0, 5, none⟩ = some (.int .u64 28)) ∧ Below w.heap.size w w'))
    (first | exact keepG_drew HS | exact keepG (by assumption) hb1)
    (first
      | (go_at_call 27; (with_reducible refine (pack_part.calls a0 56 8 x _ hx.out).mono ?_); rintro e w1 ⟨rfl, hb1⟩)
      | (go_at_call 27; (with_reducible refine (pack_part.calls a0 28 28 y _ hy.out).mono ?_); rintro e w1 ⟨rfl, hb1⟩)
      | (go_at_call 27; (with_reducible refine (pack_part.calls a0 0 28 z _ hz.out).mono ?_); rintro e w1 ⟨rfl, hb1⟩))
  go_wp2
  go_ret3
  exact ⟨by simp, ‹_ ∧ Below w.heap.size w _›.2⟩

/-! ### pack_Mix: function 25 -/
def pack_Mix.f (a0 : Int) (a1 : Int) : Option (Int) := (pack_Zig.f a1).bind fun t108 => (some (Go.bits .xor .u64 (IntKind.u64.wrap ((Go.bits .xor .u64 a0 t108) * 11400714819323198485)) ((IntKind.u64.wrap ((Go.bits .xor .u64 a0 t108) * 11400714819323198485)) / 4294967296)))
set_option maxHeartbeats 8000000 in
set_option maxRecDepth 100000 in
theorem pack_Mix.calls (a0 : Int) (a1 : Int) (r : Int) (w : World) (h : pack_Mix.f a0 a1 = some r) :
    Calls Tryd.prog 25 #[.int .u64 a0, .int .i64 a1] w fun e w' => e = .returned (.int .u64 r) ∧ Drawn0 w w' := by
  have H : ((pack_Zig.f a1).bind fun t108 => (some (Go.bits .xor .u64 (IntKind.u64.wrap ((Go.bits .xor .u64 a0 t108) * 11400714819323198485)) ((IntKind.u64.wrap ((Go.bits .xor .u64 a0 t108) * 11400714819323198485)) / 4294967296)))) = some r := h
  clear h
  replace H := Option.bind_eq_some_iff.mp H
  obtain ⟨t108, A30, H⟩ := H
  replace H : (some (Go.bits .xor .u64 (IntKind.u64.wrap ((Go.bits .xor .u64 a0 t108) * 11400714819323198485)) ((IntKind.u64.wrap ((Go.bits .xor .u64 a0 t108) * 11400714819323198485)) / 4294967296))) = some r := H
  have A3 := Aside0.mk A30
  clear A30
  obtain rfl := Option.some.inj H
  go_enter Tryd.func25, Tryd.ntmps25
  go_wp2_with (first | ((with_reducible refine gate_callee (f := 13) rfl ?_); refine goesL_ (some 7) rfl rfl Tryd.func13 (by kernel_rfl) rfl #[.int .i64 a1] rfl (by (try simp only [List.map_toArray, List.map_cons, List.map_nil]); first | done | rfl | (simp only [List.length_drop, List.length_take]; rfl)) ?_; (with_reducible refine (pack_Zig.calls a1 t108 _ A3.out).mono ?_); rintro e w' ⟨rfl, ⟨nd, rfl⟩⟩; refine ⟨_, rfl, ?_⟩))
  go_ret
  exact ⟨by first | rfl | (simp; done) | (simp [*]; done), by repeat (first | exact Drawn0.refl _ | apply Drawn0.step)⟩

end Go.Proofs.YtkpdcmafpikhgaaDoor.G
