-- Laid by a program (wip/tools/gprint.py over the kit's printer) out of the translation. Lean checks it.
import Derived.Test.YtkpdcmafpikhgaaDoorGx0
import Derived.Test.YtkpdcmafpikhgaaDoorGx1
import Derived.Test.YtkpdcmafpikhgaaDoorGx2
namespace Go.Proofs.YtkpdcmafpikhgaaDoor.G
open Go.RowKit Go.Proofs.YtkpdcmafpikhgaaDoorW.PrintWords Go.Proofs.YtkpdcmafpikhgaaDoorW.PrintLast Go.Proofs.YtkpdcmafpikhgaaDoorW.PrintMore
attribute [local go_sem] max2_int min2_int max_two min_two max_three min_three max_four min_four   -- for this text's walks alone
set_option linter.unusedVariables false
set_option linter.unusedSimpArgs false

/-! ### isthmuslaw01_PackLengths: function 10 -/
def isthmuslaw01_PackLengths.l0 : Nat → Int → Int → Bool → ByteArray → ByteArray → Int → Int → Option (Bool)
  | 0, _, _, _, _, _, _, _ => none
  | k + 1, x0, x1, x5, x6, x7, x8, x9 => if x9 > 127 then (isthmuslaw01_PackLengths.l0 k x0 x1 x5 x6 x7 (wrap64 (x8 + 1)) (IntKind.u64.wrap (Int.tdiv x9 128))) else (if x5 = true then (if (x6.size : Int) = x8 then (if x0 > x1 then (if x0 < x1 then (some true) else (some (decide ((x6.size : Int) ≥ (x7.size : Int))))) else (if (x6.size : Int) ≤ (x7.size : Int) then (if x0 < x1 then (some true) else (some (decide ((x6.size : Int) ≥ (x7.size : Int))))) else (some false))) else (some false)) else (some false))
def isthmuslaw01_PackLengths.f (k : Nat) (a0 : Int) (a1 : Int) : Option (Bool) := (isthmuslaw01_awake.f k).bind fun t180 => ((pack_Put.f k a0).bind fun t181 => ((pack_Put.f k a1).bind fun t182 => (isthmuslaw01_PackLengths.l0 k a0 a1 t180 t181 t182 1 a0)))
theorem isthmuslaw01_PackLengths.mono_l : ∀ k, (∀ y0 y1 y2 y3 y4 y5 y6, LeO (isthmuslaw01_PackLengths.l0 k y0 y1 y2 y3 y4 y5 y6) (isthmuslaw01_PackLengths.l0 (k + 1) y0 y1 y2 y3 y4 y5 y6))
  | 0 => fun _ _ _ _ _ _ _ r h => by simp [isthmuslaw01_PackLengths.l0] at h
  | k + 1 => by
    have ih0 := isthmuslaw01_PackLengths.mono_l k
    · intro y0 y1 y2 y3 y4 y5 y6
      unfold isthmuslaw01_PackLengths.l0
      repeat' first
      | (with_reducible exact ih0 _ _ _ _ _ _ _)
      | (with_reducible exact isthmuslaw01_awake.mono _)
      | (with_reducible exact pack_Put.mono _ _)
      | (with_reducible exact LeO.refl _)
      | (with_reducible exact LeO.none _)
      | (with_reducible refine LeO.ite ?_ ?_)
      | (with_reducible refine LeO.bind ?_ (fun _ => ?_))
      | exact ih0 _ _ _ _ _ _ _
      | exact isthmuslaw01_awake.mono _
      | exact pack_Put.mono _ _
      | exact LeO.none _
      | refine LeO.ite ?_ ?_
      | refine LeO.bind ?_ (fun _ => ?_)
theorem isthmuslaw01_PackLengths.mono : ∀ a0 a1 k, LeO (isthmuslaw01_PackLengths.f k a0 a1) (isthmuslaw01_PackLengths.f (k + 1) a0 a1) := by
  intro a0 a1 k
  have ih0 := isthmuslaw01_PackLengths.mono_l k
  unfold isthmuslaw01_PackLengths.f
  repeat' first
      | (with_reducible exact ih0 _ _ _ _ _ _ _)
      | (with_reducible exact isthmuslaw01_awake.mono _)
      | (with_reducible exact pack_Put.mono _ _)
      | (with_reducible exact LeO.refl _)
      | (with_reducible exact LeO.none _)
      | (with_reducible refine LeO.ite ?_ ?_)
      | (with_reducible refine LeO.bind ?_ (fun _ => ?_))
      | exact ih0 _ _ _ _ _ _ _
      | exact isthmuslaw01_awake.mono _
      | exact pack_Put.mono _ _
      | exact LeO.none _
      | refine LeO.ite ?_ ?_
      | refine LeO.bind ?_ (fun _ => ?_)
set_option maxHeartbeats 8000000 in
set_option maxRecDepth 100000 in
theorem isthmuslaw01_PackLengths.calls (k : Nat) (a0 : Int) (a1 : Int) (r : Bool) (w : World) (hG : Glob w) (h : isthmuslaw01_PackLengths.f k a0 a1 = some r) :
    Calls Tryd.prog 10 #[.int .u64 a0, .int .u64 a1] w fun e w' => e = .returned (.bool r) ∧ Below w.heap.size w w' := by
  have HB := Aside0.mk (Below.refl w.heap.size w)
  have HG := Aside0.mk hG
  clear hG
  have H : ((isthmuslaw01_awake.f k).bind fun t180 => ((pack_Put.f k a0).bind fun t181 => ((pack_Put.f k a1).bind fun t182 => (isthmuslaw01_PackLengths.l0 k a0 a1 t180 t181 t182 1 a0)))) = some r := h
  clear h
  replace H := Option.bind_eq_some_iff.mp H
  obtain ⟨t180, A30, H⟩ := H
  replace H : ((pack_Put.f k a0).bind fun t181 => ((pack_Put.f k a1).bind fun t182 => (isthmuslaw01_PackLengths.l0 k a0 a1 t180 t181 t182 1 a0))) = some r := H
  have A3 := Aside0.mk A30
  clear A30
  replace H := Option.bind_eq_some_iff.mp H
  obtain ⟨t181, A40, H⟩ := H
  replace H : ((pack_Put.f k a1).bind fun t182 => (isthmuslaw01_PackLengths.l0 k a0 a1 t180 t181 t182 1 a0)) = some r := H
  have A4 := Aside0.mk A40
  clear A40
  replace H := Option.bind_eq_some_iff.mp H
  obtain ⟨t182, A50, H⟩ := H
  replace H : (isthmuslaw01_PackLengths.l0 k a0 a1 t180 t181 t182 1 a0) = some r := H
  have A5 := Aside0.mk A50
  clear A50
  have H' := Aside0.mk H
  clear H
  go_enter Tryd.func10, Tryd.ntmps10
  go_wp2_with (first | ((with_reducible refine gate_callee (f := 12) rfl ?_); refine goesL_ (some 10) rfl rfl Tryd.func12 (by kernel_rfl) rfl #[] rfl (by (try simp only [List.map_toArray, List.map_cons, List.map_nil]); first | done | rfl | (simp only [List.length_drop, List.length_take]; rfl)) ?_; (with_reducible refine (isthmuslaw01_awake.calls k  t180 _ ?side1 A3.out).mono ?_); (case side1 => exact Glob.below HG.out (by repeat (first | (with_reducible first | exact HB.out | apply below_alloc | apply pw_below_drewN | apply below_drew1) | exact HB.out))); rintro e w6 ⟨rfl, hb⟩; refine ⟨_, rfl, ?_⟩; have n0_ := Aside0.mk (below_step (by repeat (first | (with_reducible first | exact HB.out | apply below_alloc | apply pw_below_drewN | apply below_drew1) | exact HB.out)) hb); clear HB; have HB := n0_; clear n0_; (try clear hb); (try clear hb2); (try clear hk); (try clear hi)) | ((with_reducible refine gate_callee (f := 17) rfl ?_); refine goesL_ (some 12) rfl rfl Tryd.func17 (by kernel_rfl) rfl #[.int .u64 a0] rfl (by (try simp only [List.map_toArray, List.map_cons, List.map_nil]); first | done | rfl | (simp only [List.length_drop, List.length_take]; rfl)) ?_; (with_reducible refine (pack_Put.calls k a0 t181 _ A4.out).mono ?_); rintro e w7 ⟨rfl, hb⟩; refine ⟨_, rfl, ?_⟩; have n0_ := Aside0.mk (below_step (by repeat (first | (with_reducible first | exact HB.out | apply below_alloc | apply pw_below_drewN | apply below_drew1) | exact HB.out)) hb); clear HB; have HB := n0_; clear n0_; (try clear hb); (try clear hb2); (try clear hk); (try clear hi)) | ((with_reducible refine gate_callee (f := 17) rfl ?_); refine goesL_ (some 14) rfl rfl Tryd.func17 (by kernel_rfl) rfl #[.int .u64 a1] rfl (by (try simp only [List.map_toArray, List.map_cons, List.map_nil]); first | done | rfl | (simp only [List.length_drop, List.length_take]; rfl)) ?_; (with_reducible refine (pack_Put.calls k a1 t182 _ A5.out).mono ?_); rintro e w8 ⟨rfl, hb⟩; refine ⟨_, rfl, ?_⟩; have n0_ := Aside0.mk (below_step (by repeat (first | (with_reducible first | exact HB.out | apply below_alloc | apply pw_below_drewN | apply below_drew1) | exact HB.out)) hb); clear HB; have HB := n0_; clear n0_; (try clear hb); (try clear hb2); (try clear hk); (try clear hi)))
  go_loopg [8, 9] k (fun kq v8 v9 w' => ∃ (x8_1 : Int) (x9_1 : Int), v8 = .int .i64 x8_1 ∧ v9 = .int .u64 x9_1 ∧ Aside0 (isthmuslaw01_PackLengths.l0 kq a0 a1 t180 t181 t182 x8_1 x9_1 = some r) ∧ Aside0 (kq ≤ k) ∧ Aside0 (Below w.heap.size w w'))
  case atStart => exact ⟨(1), (a0), (by first | rfl | (simp; done) | (simp [*]; done)), (by first | rfl | (simp; done) | (simp [*]; done)), H', ⟨Nat.le_refl _⟩, ⟨by repeat (first | (with_reducible first | exact HB.out | apply below_alloc | apply pw_below_drewN | apply below_drew1) | exact HB.out)⟩⟩
  case round =>
    clear H'
    try clear c1
    try clear p2
    obtain ⟨x8_1, x9_1, rfl, rfl, HA, HK1, HB⟩ := hrel
    cases gk with
    | zero => exact absurd HA.out (by simp [isthmuslaw01_PackLengths.l0])
    | succ k1 =>
      have H := HA.out
      clear HA
      simp only [isthmuslaw01_PackLengths.l0] at H
      by_cases c9 : x9_1 > 127
      · rw [if_pos c9] at H
        have c9b0 : decide (127 < x9_1) = true := decide_eq_true c9
        clear c9
        have H' := Aside0.mk H
        clear H
        go_wp2
        go_roundg k1
        case measure => have := HK1.out; omega
        case rel => exact ⟨(wrap64 (x8_1 + 1)), (IntKind.u64.wrap (Int.tdiv x9_1 128)), (by first | rfl | (simp; done) | (simp [*]; done)), (by first | rfl | (simp; done) | (simp [*]; done)), H', ⟨by have := HK1.out; omega⟩, ⟨by repeat (first | (with_reducible first | exact HB.out | apply below_alloc | apply pw_below_drewN | apply below_drew1) | exact HB.out)⟩⟩
      · rw [if_neg c9] at H
        have c9b0 : decide (127 < x9_1) = false := decide_eq_false c9
        clear c9
        by_cases c10 : t180 = true
        · subst c10
          have H1 : (if (t181.size : Int) = x8_1 then (if a0 > a1 then (if a0 < a1 then (some true) else (some (decide ((t181.size : Int) ≥ (t182.size : Int))))) else (if (t181.size : Int) ≤ (t182.size : Int) then (if a0 < a1 then (some true) else (some (decide ((t181.size : Int) ≥ (t182.size : Int))))) else (some false))) else (some false)) = some r := by rw [if_pos rfl] at H; exact H
          clear H
          have H := H1
          clear H1
          by_cases c11 : (t181.size : Int) = x8_1
          · rw [if_pos c11] at H
            have c11b0 : ((t181.size : Int) == x8_1) = true := beq_iff_eq.mpr c11
            have c11b1 : ((t181.size : Int) != x8_1) = false := bne_eq_false_iff_eq.mpr c11
            clear c11
            by_cases c12 : a0 > a1
            · rw [if_pos c12] at H
              have c12b0 : decide (a1 < a0) = true := decide_eq_true c12
              clear c12
              by_cases c13 : a0 < a1
              · rw [if_pos c13] at H
                have c13b0 : decide (a0 < a1) = true := decide_eq_true c13
                clear c13
                obtain rfl := Option.some.inj H
                go_wp2
                go_ret
                exact ⟨by first | rfl | (simp [errW_none, errW_some] <;> rfl) | (simp [*, errW_none, errW_some] <;> rfl), by repeat (first | (with_reducible first | exact HB.out | apply below_alloc | apply pw_below_drewN | apply below_drew1) | exact HB.out)⟩
              · rw [if_neg c13] at H
                have c13b0 : decide (a0 < a1) = false := decide_eq_false c13
                clear c13
                obtain rfl := Option.some.inj H
                go_wp2
                go_ret
                exact ⟨by first | rfl | (simp [errW_none, errW_some] <;> rfl) | (simp [*, errW_none, errW_some] <;> rfl), by repeat (first | (with_reducible first | exact HB.out | apply below_alloc | apply pw_below_drewN | apply below_drew1) | exact HB.out)⟩
            · rw [if_neg c12] at H
              have c12b0 : decide (a1 < a0) = false := decide_eq_false c12
              clear c12
              by_cases c14 : (t181.size : Int) ≤ (t182.size : Int)
              · rw [if_pos c14] at H
                have c14b0 : decide ((t181.size : Int) ≤ (t182.size : Int)) = true := decide_eq_true c14
                have c14b1 : decide (t181.size ≤ t182.size) = true := decide_eq_true (Int.ofNat_le.mp c14)
                clear c14
                by_cases c15 : a0 < a1
                · rw [if_pos c15] at H
                  have c15b0 : decide (a0 < a1) = true := decide_eq_true c15
                  clear c15
                  obtain rfl := Option.some.inj H
                  go_wp2
                  go_ret
                  exact ⟨by first | rfl | (simp [errW_none, errW_some] <;> rfl) | (simp [*, errW_none, errW_some] <;> rfl), by repeat (first | (with_reducible first | exact HB.out | apply below_alloc | apply pw_below_drewN | apply below_drew1) | exact HB.out)⟩
                · rw [if_neg c15] at H
                  have c15b0 : decide (a0 < a1) = false := decide_eq_false c15
                  clear c15
                  obtain rfl := Option.some.inj H
                  go_wp2
                  go_ret
                  exact ⟨by first | rfl | (simp [errW_none, errW_some] <;> rfl) | (simp [*, errW_none, errW_some] <;> rfl), by repeat (first | (with_reducible first | exact HB.out | apply below_alloc | apply pw_below_drewN | apply below_drew1) | exact HB.out)⟩
              · rw [if_neg c14] at H
                have c14b0 : decide ((t181.size : Int) ≤ (t182.size : Int)) = false := decide_eq_false c14
                have c14b1 : decide (t181.size ≤ t182.size) = false := decide_eq_false (fun h => c14 (Int.ofNat_le.mpr h))
                clear c14
                obtain rfl := Option.some.inj H
                go_wp2
                go_ret
                exact ⟨by first | rfl | (simp [errW_none, errW_some] <;> rfl) | (simp [*, errW_none, errW_some] <;> rfl), by repeat (first | (with_reducible first | exact HB.out | apply below_alloc | apply pw_below_drewN | apply below_drew1) | exact HB.out)⟩
          · rw [if_neg c11] at H
            have c11b0 : ((t181.size : Int) == x8_1) = false := beq_eq_false_iff_ne.mpr c11
            have c11b1 : ((t181.size : Int) != x8_1) = true := bne_iff_ne.mpr c11
            obtain rfl := Option.some.inj H
            go_wp2
            go_ret
            exact ⟨by first | rfl | (simp [errW_none, errW_some] <;> rfl) | (simp [*, errW_none, errW_some] <;> rfl), by repeat (first | (with_reducible first | exact HB.out | apply below_alloc | apply pw_below_drewN | apply below_drew1) | exact HB.out)⟩
        · replace c10 := Bool.eq_false_iff.mpr c10
          subst c10
          have H1 : (some false) = some r := by rw [if_neg (show ¬ (false = true) by decide)] at H; exact H
          clear H
          have H := H1
          clear H1
          obtain rfl := Option.some.inj H
          go_wp2
          go_ret
          exact ⟨by first | rfl | (simp [errW_none, errW_some] <;> rfl) | (simp [*, errW_none, errW_some] <;> rfl), by repeat (first | (with_reducible first | exact HB.out | apply below_alloc | apply pw_below_drewN | apply below_drew1) | exact HB.out)⟩

/-- THE ONE PURE STATEMENT of isthmuslaw01_PackLengths: yours. -/
def isthmuslaw01_PackLengths.Pure : Prop := ∀ (a0 : Int) (a1 : Int), (Lit.int .u64 a0).wf = true → (Lit.int .u64 a1).wf = true → ∃ k, isthmuslaw01_PackLengths.f k a0 a1 = some true
theorem isthmuslaw01_PackLengths.walk (P : isthmuslaw01_PackLengths.Pure) (a0 : Int) (a1 : Int) (w : World) (w0 : (Lit.int .u64 a0).wf = true) (w1 : (Lit.int .u64 a1).wf = true) (hG : Glob w) :
    Calls Tryd.prog 10 #[.int .u64 a0, .int .u64 a1] w fun e w' => e = .returned (.bool true) ∧ Below w.heap.size w w' := by
  obtain ⟨k, h⟩ := P a0 a1 w0 w1
  refine (isthmuslaw01_PackLengths.calls k a0 a1 true w hG h).mono ?_
  rintro e w' ⟨rfl, hd⟩
  exact ⟨rfl, hd⟩

/-! ### isthmuslaw01_PackApartTexts: function 11 -/
def isthmuslaw01_PackApartTexts.f (k : Nat) (a0 : Int) (a1 : Int) : Option (Bool) := (isthmuslaw01_awake.f k).bind fun t183 => ((pack_Put.f k a0).bind fun t184 => ((pack_Put.f k a1).bind fun t185 => (if t184.size + t185.size ≤ 9223372036854775807 then ((pack_Take.f k (t184 ++ t185)).bind fun bt186 => (if t183 = true then (if bt186.2.2 = 0 then (if bt186.1 = a0 then (if bt186.2.1 = (t184.size : Int) then (if 0 ≤ bt186.2.1 then (if bt186.2.1 ≤ ((t184 ++ t185).size : Int) then ((pack_Take.f k ((t184 ++ t185).extract (bt186.2.1 : Int).toNat (t184 ++ t185).size)).bind fun bt189 => (if (t184.size : Int) ≤ (t185.size : Int) then (if 0 ≤ (t184.size : Int) then (if bt189.1 = a1 then (if bt189.2.1 = (t185.size : Int) then (if bt189.2.2 = 0 then (some (((t185.extract 0 ((t184.size : Int) : Int).toNat).toList == t184.toList) == (a0 == a1))) else (some false)) else (some false)) else (some false)) else (none)) else (if bt189.1 = a1 then (if bt189.2.1 = (t185.size : Int) then (if bt189.2.2 = 0 then (some (false == (a0 == a1))) else (some false)) else (some false)) else (some false)))) else (none)) else (none)) else (some false)) else (some false)) else (some false)) else (some false))) else (none))))
theorem isthmuslaw01_PackApartTexts.mono : ∀ a0 a1 k, LeO (isthmuslaw01_PackApartTexts.f k a0 a1) (isthmuslaw01_PackApartTexts.f (k + 1) a0 a1) := by
  intro a0 a1 k
  unfold isthmuslaw01_PackApartTexts.f
  repeat' first
      | (with_reducible exact isthmuslaw01_awake.mono _)
      | (with_reducible exact pack_Put.mono _ _)
      | (with_reducible exact pack_Take.mono _ _)
      | (with_reducible exact LeO.refl _)
      | (with_reducible exact LeO.none _)
      | (with_reducible refine LeO.ite ?_ ?_)
      | (with_reducible refine LeO.bind ?_ (fun _ => ?_))
      | exact isthmuslaw01_awake.mono _
      | exact pack_Put.mono _ _
      | exact pack_Take.mono _ _
      | exact LeO.none _
      | refine LeO.ite ?_ ?_
      | refine LeO.bind ?_ (fun _ => ?_)
set_option maxHeartbeats 8000000 in
set_option maxRecDepth 100000 in
theorem isthmuslaw01_PackApartTexts.calls (k : Nat) (a0 : Int) (a1 : Int) (r : Bool) (w : World) (hG : Glob w) (h : isthmuslaw01_PackApartTexts.f k a0 a1 = some r) :
    Calls Tryd.prog 11 #[.int .u64 a0, .int .u64 a1] w fun e w' => e = .returned (.bool r) ∧ Below w.heap.size w w' := by
  have HB := Aside0.mk (Below.refl w.heap.size w)
  have HG := Aside0.mk hG
  clear hG
  have H : ((isthmuslaw01_awake.f k).bind fun t183 => ((pack_Put.f k a0).bind fun t184 => ((pack_Put.f k a1).bind fun t185 => (if t184.size + t185.size ≤ 9223372036854775807 then ((pack_Take.f k (t184 ++ t185)).bind fun bt186 => (if t183 = true then (if bt186.2.2 = 0 then (if bt186.1 = a0 then (if bt186.2.1 = (t184.size : Int) then (if 0 ≤ bt186.2.1 then (if bt186.2.1 ≤ ((t184 ++ t185).size : Int) then ((pack_Take.f k ((t184 ++ t185).extract (bt186.2.1 : Int).toNat (t184 ++ t185).size)).bind fun bt189 => (if (t184.size : Int) ≤ (t185.size : Int) then (if 0 ≤ (t184.size : Int) then (if bt189.1 = a1 then (if bt189.2.1 = (t185.size : Int) then (if bt189.2.2 = 0 then (some (((t185.extract 0 ((t184.size : Int) : Int).toNat).toList == t184.toList) == (a0 == a1))) else (some false)) else (some false)) else (some false)) else (none)) else (if bt189.1 = a1 then (if bt189.2.1 = (t185.size : Int) then (if bt189.2.2 = 0 then (some (false == (a0 == a1))) else (some false)) else (some false)) else (some false)))) else (none)) else (none)) else (some false)) else (some false)) else (some false)) else (some false))) else (none))))) = some r := h
  clear h
  replace H := Option.bind_eq_some_iff.mp H
  obtain ⟨t183, A30, H⟩ := H
  replace H : ((pack_Put.f k a0).bind fun t184 => ((pack_Put.f k a1).bind fun t185 => (if t184.size + t185.size ≤ 9223372036854775807 then ((pack_Take.f k (t184 ++ t185)).bind fun bt186 => (if t183 = true then (if bt186.2.2 = 0 then (if bt186.1 = a0 then (if bt186.2.1 = (t184.size : Int) then (if 0 ≤ bt186.2.1 then (if bt186.2.1 ≤ ((t184 ++ t185).size : Int) then ((pack_Take.f k ((t184 ++ t185).extract (bt186.2.1 : Int).toNat (t184 ++ t185).size)).bind fun bt189 => (if (t184.size : Int) ≤ (t185.size : Int) then (if 0 ≤ (t184.size : Int) then (if bt189.1 = a1 then (if bt189.2.1 = (t185.size : Int) then (if bt189.2.2 = 0 then (some (((t185.extract 0 ((t184.size : Int) : Int).toNat).toList == t184.toList) == (a0 == a1))) else (some false)) else (some false)) else (some false)) else (none)) else (if bt189.1 = a1 then (if bt189.2.1 = (t185.size : Int) then (if bt189.2.2 = 0 then (some (false == (a0 == a1))) else (some false)) else (some false)) else (some false)))) else (none)) else (none)) else (some false)) else (some false)) else (some false)) else (some false))) else (none)))) = some r := H
  (try simp only [ByteArray.size_append] at A30)
  have A3 := Aside0.mk A30
  clear A30
  replace H := Option.bind_eq_some_iff.mp H
  obtain ⟨t184, A40, H⟩ := H
  replace H : ((pack_Put.f k a1).bind fun t185 => (if t184.size + t185.size ≤ 9223372036854775807 then ((pack_Take.f k (t184 ++ t185)).bind fun bt186 => (if t183 = true then (if bt186.2.2 = 0 then (if bt186.1 = a0 then (if bt186.2.1 = (t184.size : Int) then (if 0 ≤ bt186.2.1 then (if bt186.2.1 ≤ ((t184 ++ t185).size : Int) then ((pack_Take.f k ((t184 ++ t185).extract (bt186.2.1 : Int).toNat (t184 ++ t185).size)).bind fun bt189 => (if (t184.size : Int) ≤ (t185.size : Int) then (if 0 ≤ (t184.size : Int) then (if bt189.1 = a1 then (if bt189.2.1 = (t185.size : Int) then (if bt189.2.2 = 0 then (some (((t185.extract 0 ((t184.size : Int) : Int).toNat).toList == t184.toList) == (a0 == a1))) else (some false)) else (some false)) else (some false)) else (none)) else (if bt189.1 = a1 then (if bt189.2.1 = (t185.size : Int) then (if bt189.2.2 = 0 then (some (false == (a0 == a1))) else (some false)) else (some false)) else (some false)))) else (none)) else (none)) else (some false)) else (some false)) else (some false)) else (some false))) else (none))) = some r := H
  (try simp only [ByteArray.size_append] at A40)
  have A4 := Aside0.mk A40
  clear A40
  replace H := Option.bind_eq_some_iff.mp H
  obtain ⟨t185, A50, H⟩ := H
  replace H : (if t184.size + t185.size ≤ 9223372036854775807 then ((pack_Take.f k (t184 ++ t185)).bind fun bt186 => (if t183 = true then (if bt186.2.2 = 0 then (if bt186.1 = a0 then (if bt186.2.1 = (t184.size : Int) then (if 0 ≤ bt186.2.1 then (if bt186.2.1 ≤ ((t184 ++ t185).size : Int) then ((pack_Take.f k ((t184 ++ t185).extract (bt186.2.1 : Int).toNat (t184 ++ t185).size)).bind fun bt189 => (if (t184.size : Int) ≤ (t185.size : Int) then (if 0 ≤ (t184.size : Int) then (if bt189.1 = a1 then (if bt189.2.1 = (t185.size : Int) then (if bt189.2.2 = 0 then (some (((t185.extract 0 ((t184.size : Int) : Int).toNat).toList == t184.toList) == (a0 == a1))) else (some false)) else (some false)) else (some false)) else (none)) else (if bt189.1 = a1 then (if bt189.2.1 = (t185.size : Int) then (if bt189.2.2 = 0 then (some (false == (a0 == a1))) else (some false)) else (some false)) else (some false)))) else (none)) else (none)) else (some false)) else (some false)) else (some false)) else (some false))) else (none)) = some r := H
  (try simp only [ByteArray.size_append] at A50)
  have A5 := Aside0.mk A50
  clear A50
  by_cases c6 : t184.size + t185.size ≤ 9223372036854775807
  · rw [if_pos c6] at H
    have c6b0 := eq_true c6
    have c6b1 : decide (t184.size + t185.size ≤ 9223372036854775807) = true := decide_eq_true c6
    try have c6b2 : (9223372036854775807 < t184.size + t185.size) = False := eq_false (Nat.not_lt.2 c6)
    replace H := Option.bind_eq_some_iff.mp H
    obtain ⟨⟨t186, t187, t188⟩, A70, H⟩ := H
    replace H : (if t183 = true then (if t188 = 0 then (if t186 = a0 then (if t187 = (t184.size : Int) then (if 0 ≤ t187 then (if t187 ≤ ((t184 ++ t185).size : Int) then ((pack_Take.f k ((t184 ++ t185).extract (t187 : Int).toNat (t184 ++ t185).size)).bind fun bt189 => (if (t184.size : Int) ≤ (t185.size : Int) then (if 0 ≤ (t184.size : Int) then (if bt189.1 = a1 then (if bt189.2.1 = (t185.size : Int) then (if bt189.2.2 = 0 then (some (((t185.extract 0 ((t184.size : Int) : Int).toNat).toList == t184.toList) == (a0 == a1))) else (some false)) else (some false)) else (some false)) else (none)) else (if bt189.1 = a1 then (if bt189.2.1 = (t185.size : Int) then (if bt189.2.2 = 0 then (some (false == (a0 == a1))) else (some false)) else (some false)) else (some false)))) else (none)) else (none)) else (some false)) else (some false)) else (some false)) else (some false)) = some r := H
    (try simp only [ByteArray.size_append] at A70)
    have A7 := Aside0.mk A70
    clear A70
    by_cases c8 : t183 = true
    · subst c8
      have H1 : (if t188 = 0 then (if t186 = a0 then (if t187 = (t184.size : Int) then (if 0 ≤ t187 then (if t187 ≤ ((t184 ++ t185).size : Int) then ((pack_Take.f k ((t184 ++ t185).extract (t187 : Int).toNat (t184 ++ t185).size)).bind fun bt189 => (if (t184.size : Int) ≤ (t185.size : Int) then (if 0 ≤ (t184.size : Int) then (if bt189.1 = a1 then (if bt189.2.1 = (t185.size : Int) then (if bt189.2.2 = 0 then (some (((t185.extract 0 ((t184.size : Int) : Int).toNat).toList == t184.toList) == (a0 == a1))) else (some false)) else (some false)) else (some false)) else (none)) else (if bt189.1 = a1 then (if bt189.2.1 = (t185.size : Int) then (if bt189.2.2 = 0 then (some (false == (a0 == a1))) else (some false)) else (some false)) else (some false)))) else (none)) else (none)) else (some false)) else (some false)) else (some false)) = some r := by rw [if_pos rfl] at H; exact H
      clear H
      have H := H1
      clear H1
      by_cases c9 : t188 = 0
      · rw [if_pos c9] at H
        have c9b0 : (t188 == 0) = true := beq_iff_eq.mpr c9
        have c9b1 : (t188 != 0) = false := bne_eq_false_iff_eq.mpr c9
        clear c9
        by_cases c10 : t186 = a0
        · rw [if_pos c10] at H
          have c10b0 : (t186 == a0) = true := beq_iff_eq.mpr c10
          have c10b1 : (t186 != a0) = false := bne_eq_false_iff_eq.mpr c10
          clear c10
          by_cases c11 : t187 = (t184.size : Int)
          · rw [if_pos c11] at H
            have c11b0 : (t187 == (t184.size : Int)) = true := beq_iff_eq.mpr c11
            have c11b1 : (t187 != (t184.size : Int)) = false := bne_eq_false_iff_eq.mpr c11
            clear c11
            by_cases c12 : 0 ≤ t187
            · rw [if_pos c12] at H
              have c12b0 := eq_true c12
              have c12b1 : decide (0 ≤ t187) = true := decide_eq_true c12
              clear c12
              by_cases c13 : t187 ≤ ((t184 ++ t185).size : Int)
              · rw [if_pos c13] at H
                have c13b0 := eq_true c13
                have c13b1 : decide (t187 ≤ ((t184 ++ t185).size : Int)) = true := decide_eq_true c13
                have c13b8 := c13b1
                simp only [ByteArray.size_append, Int.natCast_add] at c13b8
                have c13b9 := eq_true (of_decide_eq_true c13b8)
                replace H := Option.bind_eq_some_iff.mp H
                obtain ⟨⟨t189, t190, t191⟩, A140, H⟩ := H
                replace H : (if (t184.size : Int) ≤ (t185.size : Int) then (if 0 ≤ (t184.size : Int) then (if t189 = a1 then (if t190 = (t185.size : Int) then (if t191 = 0 then (some (((t185.extract 0 ((t184.size : Int) : Int).toNat).toList == t184.toList) == (a0 == a1))) else (some false)) else (some false)) else (some false)) else (none)) else (if t189 = a1 then (if t190 = (t185.size : Int) then (if t191 = 0 then (some (false == (a0 == a1))) else (some false)) else (some false)) else (some false))) = some r := H
                (try simp only [ByteArray.size_append] at A140)
                have A14 := Aside0.mk A140
                clear A140
                by_cases c15 : (t184.size : Int) ≤ (t185.size : Int)
                · rw [if_pos c15] at H
                  have c15b0 : decide ((t184.size : Int) ≤ (t185.size : Int)) = true := decide_eq_true c15
                  have c15b1 : decide (t184.size ≤ t185.size) = true := decide_eq_true (Int.ofNat_le.mp c15)
                  clear c15
                  by_cases c16 : 0 ≤ (t184.size : Int)
                  · rw [if_pos c16] at H
                    have c16b0 := eq_true c16
                    have c16b1 : decide (0 ≤ (t184.size : Int)) = true := decide_eq_true c16
                    clear c16
                    have c17b0 := eq_true (of_decide_eq_true (by first | (with_reducible assumption) | assumption) : (t184.size : Int) ≤ (t185.size : Int))
                    by_cases c18 : t189 = a1
                    · rw [if_pos c18] at H
                      have c18b0 : (t189 == a1) = true := beq_iff_eq.mpr c18
                      have c18b1 : (t189 != a1) = false := bne_eq_false_iff_eq.mpr c18
                      clear c18
                      by_cases c19 : t190 = (t185.size : Int)
                      · rw [if_pos c19] at H
                        have c19b0 : (t190 == (t185.size : Int)) = true := beq_iff_eq.mpr c19
                        have c19b1 : (t190 != (t185.size : Int)) = false := bne_eq_false_iff_eq.mpr c19
                        clear c19
                        by_cases c20 : t191 = 0
                        · rw [if_pos c20] at H
                          have c20b0 : (t191 == 0) = true := beq_iff_eq.mpr c20
                          have c20b1 : (t191 != 0) = false := bne_eq_false_iff_eq.mpr c20
                          clear c20
                          obtain rfl := Option.some.inj H
                          go_enter Tryd.func11, Tryd.ntmps11
                          go_wp2_with (first | ((with_reducible refine gate_callee (f := 12) rfl ?_); refine goesL_ (some 15) rfl rfl Tryd.func12 (by kernel_rfl) rfl #[] rfl (by (try simp only [List.map_toArray, List.map_cons, List.map_nil]); first | done | rfl | (simp only [List.length_drop, List.length_take]; rfl)) ?_; (with_reducible refine (isthmuslaw01_awake.calls k  true _ ?side1 A3.out).mono ?_); (case side1 => exact Glob.below HG.out (by repeat (first | (with_reducible first | exact HB.out | apply below_alloc | apply pw_below_drewN | apply below_drew1) | exact HB.out))); rintro e w21 ⟨rfl, hb⟩; refine ⟨_, rfl, ?_⟩; have n0_ := Aside0.mk (below_step (by repeat (first | (with_reducible first | exact HB.out | apply below_alloc | apply pw_below_drewN | apply below_drew1) | exact HB.out)) hb); clear HB; have HB := n0_; clear n0_; (try clear hb); (try clear hb2); (try clear hk); (try clear hi)) | ((with_reducible refine gate_callee (f := 17) rfl ?_); refine goesL_ (some 17) rfl rfl Tryd.func17 (by kernel_rfl) rfl #[.int .u64 a0] rfl (by (try simp only [List.map_toArray, List.map_cons, List.map_nil]); first | done | rfl | (simp only [List.length_drop, List.length_take]; rfl)) ?_; (with_reducible refine (pack_Put.calls k a0 t184 _ A4.out).mono ?_); rintro e w22 ⟨rfl, hb⟩; refine ⟨_, rfl, ?_⟩; have n0_ := Aside0.mk (below_step (by repeat (first | (with_reducible first | exact HB.out | apply below_alloc | apply pw_below_drewN | apply below_drew1) | exact HB.out)) hb); clear HB; have HB := n0_; clear n0_; (try clear hb); (try clear hb2); (try clear hk); (try clear hi)) | ((with_reducible refine gate_callee (f := 17) rfl ?_); refine goesL_ (some 19) rfl rfl Tryd.func17 (by kernel_rfl) rfl #[.int .u64 a1] rfl (by (try simp only [List.map_toArray, List.map_cons, List.map_nil]); first | done | rfl | (simp only [List.length_drop, List.length_take]; rfl)) ?_; (with_reducible refine (pack_Put.calls k a1 t185 _ A5.out).mono ?_); rintro e w23 ⟨rfl, hb⟩; refine ⟨_, rfl, ?_⟩; have n0_ := Aside0.mk (below_step (by repeat (first | (with_reducible first | exact HB.out | apply below_alloc | apply pw_below_drewN | apply below_drew1) | exact HB.out)) hb); clear HB; have HB := n0_; clear n0_; (try clear hb); (try clear hb2); (try clear hk); (try clear hi)) | ((with_reducible refine gate_callee (f := 18) rfl ?_); refine goesL_ (some 24) rfl rfl Tryd.func18 (by kernel_rfl) rfl #[.string (t184 ++ t185)] rfl (by (try simp only [List.map_toArray, List.map_cons, List.map_nil]); first | done | rfl | (simp only [List.length_drop, List.length_take]; rfl)) ?_; (with_reducible refine (pack_Take.calls k (t184 ++ t185) t186 t187 t188 _ A7.out).mono ?_); rintro e w' ⟨rfl, ⟨nd, rfl⟩⟩; refine ⟨_, rfl, ?_⟩) | ((with_reducible refine gate_callee (f := 18) rfl ?_); refine goesL_ (some 51) rfl rfl Tryd.func18 (by kernel_rfl) rfl #[.string ((t184 ++ t185).extract (t187 : Int).toNat (t184.size + t185.size))] rfl (by (try simp only [List.map_toArray, List.map_cons, List.map_nil]); first | done | rfl | (simp only [List.length_drop, List.length_take]; rfl)) ?_; (with_reducible refine (pack_Take.calls k ((t184 ++ t185).extract (t187 : Int).toNat (t184.size + t185.size)) t189 t190 t191 _ A14.out).mono ?_); rintro e w' ⟨rfl, ⟨nd, rfl⟩⟩; refine ⟨_, rfl, ?_⟩))
                          go_ret
                          exact ⟨by first | rfl | (simp [errW_none, errW_some] <;> rfl) | (simp [*, errW_none, errW_some] <;> rfl), by repeat (first | (with_reducible first | exact HB.out | apply below_alloc | apply pw_below_drewN | apply below_drew1) | exact HB.out)⟩
                        · rw [if_neg c20] at H
                          have c20b0 : (t191 == 0) = false := beq_eq_false_iff_ne.mpr c20
                          have c20b1 : (t191 != 0) = true := bne_iff_ne.mpr c20
                          obtain rfl := Option.some.inj H
                          go_enter Tryd.func11, Tryd.ntmps11
                          go_wp2_with (first | ((with_reducible refine gate_callee (f := 12) rfl ?_); refine goesL_ (some 15) rfl rfl Tryd.func12 (by kernel_rfl) rfl #[] rfl (by (try simp only [List.map_toArray, List.map_cons, List.map_nil]); first | done | rfl | (simp only [List.length_drop, List.length_take]; rfl)) ?_; (with_reducible refine (isthmuslaw01_awake.calls k  true _ ?side1 A3.out).mono ?_); (case side1 => exact Glob.below HG.out (by repeat (first | (with_reducible first | exact HB.out | apply below_alloc | apply pw_below_drewN | apply below_drew1) | exact HB.out))); rintro e w24 ⟨rfl, hb⟩; refine ⟨_, rfl, ?_⟩; have n0_ := Aside0.mk (below_step (by repeat (first | (with_reducible first | exact HB.out | apply below_alloc | apply pw_below_drewN | apply below_drew1) | exact HB.out)) hb); clear HB; have HB := n0_; clear n0_; (try clear hb); (try clear hb2); (try clear hk); (try clear hi)) | ((with_reducible refine gate_callee (f := 17) rfl ?_); refine goesL_ (some 17) rfl rfl Tryd.func17 (by kernel_rfl) rfl #[.int .u64 a0] rfl (by (try simp only [List.map_toArray, List.map_cons, List.map_nil]); first | done | rfl | (simp only [List.length_drop, List.length_take]; rfl)) ?_; (with_reducible refine (pack_Put.calls k a0 t184 _ A4.out).mono ?_); rintro e w25 ⟨rfl, hb⟩; refine ⟨_, rfl, ?_⟩; have n0_ := Aside0.mk (below_step (by repeat (first | (with_reducible first | exact HB.out | apply below_alloc | apply pw_below_drewN | apply below_drew1) | exact HB.out)) hb); clear HB; have HB := n0_; clear n0_; (try clear hb); (try clear hb2); (try clear hk); (try clear hi)) | ((with_reducible refine gate_callee (f := 17) rfl ?_); refine goesL_ (some 19) rfl rfl Tryd.func17 (by kernel_rfl) rfl #[.int .u64 a1] rfl (by (try simp only [List.map_toArray, List.map_cons, List.map_nil]); first | done | rfl | (simp only [List.length_drop, List.length_take]; rfl)) ?_; (with_reducible refine (pack_Put.calls k a1 t185 _ A5.out).mono ?_); rintro e w26 ⟨rfl, hb⟩; refine ⟨_, rfl, ?_⟩; have n0_ := Aside0.mk (below_step (by repeat (first | (with_reducible first | exact HB.out | apply below_alloc | apply pw_below_drewN | apply below_drew1) | exact HB.out)) hb); clear HB; have HB := n0_; clear n0_; (try clear hb); (try clear hb2); (try clear hk); (try clear hi)) | ((with_reducible refine gate_callee (f := 18) rfl ?_); refine goesL_ (some 24) rfl rfl Tryd.func18 (by kernel_rfl) rfl #[.string (t184 ++ t185)] rfl (by (try simp only [List.map_toArray, List.map_cons, List.map_nil]); first | done | rfl | (simp only [List.length_drop, List.length_take]; rfl)) ?_; (with_reducible refine (pack_Take.calls k (t184 ++ t185) t186 t187 t188 _ A7.out).mono ?_); rintro e w' ⟨rfl, ⟨nd, rfl⟩⟩; refine ⟨_, rfl, ?_⟩) | ((with_reducible refine gate_callee (f := 18) rfl ?_); refine goesL_ (some 51) rfl rfl Tryd.func18 (by kernel_rfl) rfl #[.string ((t184 ++ t185).extract (t187 : Int).toNat (t184.size + t185.size))] rfl (by (try simp only [List.map_toArray, List.map_cons, List.map_nil]); first | done | rfl | (simp only [List.length_drop, List.length_take]; rfl)) ?_; (with_reducible refine (pack_Take.calls k ((t184 ++ t185).extract (t187 : Int).toNat (t184.size + t185.size)) t189 t190 t191 _ A14.out).mono ?_); rintro e w' ⟨rfl, ⟨nd, rfl⟩⟩; refine ⟨_, rfl, ?_⟩))
                          go_ret
                          exact ⟨by first | rfl | (simp [errW_none, errW_some] <;> rfl) | (simp [*, errW_none, errW_some] <;> rfl), by repeat (first | (with_reducible first | exact HB.out | apply below_alloc | apply pw_below_drewN | apply below_drew1) | exact HB.out)⟩
                      · rw [if_neg c19] at H
                        have c19b0 : (t190 == (t185.size : Int)) = false := beq_eq_false_iff_ne.mpr c19
                        have c19b1 : (t190 != (t185.size : Int)) = true := bne_iff_ne.mpr c19
                        obtain rfl := Option.some.inj H
                        go_enter Tryd.func11, Tryd.ntmps11
                        go_wp2_with (first | ((with_reducible refine gate_callee (f := 12) rfl ?_); refine goesL_ (some 15) rfl rfl Tryd.func12 (by kernel_rfl) rfl #[] rfl (by (try simp only [List.map_toArray, List.map_cons, List.map_nil]); first | done | rfl | (simp only [List.length_drop, List.length_take]; rfl)) ?_; (with_reducible refine (isthmuslaw01_awake.calls k  true _ ?side1 A3.out).mono ?_); (case side1 => exact Glob.below HG.out (by repeat (first | (with_reducible first | exact HB.out | apply below_alloc | apply pw_below_drewN | apply below_drew1) | exact HB.out))); rintro e w27 ⟨rfl, hb⟩; refine ⟨_, rfl, ?_⟩; have n0_ := Aside0.mk (below_step (by repeat (first | (with_reducible first | exact HB.out | apply below_alloc | apply pw_below_drewN | apply below_drew1) | exact HB.out)) hb); clear HB; have HB := n0_; clear n0_; (try clear hb); (try clear hb2); (try clear hk); (try clear hi)) | ((with_reducible refine gate_callee (f := 17) rfl ?_); refine goesL_ (some 17) rfl rfl Tryd.func17 (by kernel_rfl) rfl #[.int .u64 a0] rfl (by (try simp only [List.map_toArray, List.map_cons, List.map_nil]); first | done | rfl | (simp only [List.length_drop, List.length_take]; rfl)) ?_; (with_reducible refine (pack_Put.calls k a0 t184 _ A4.out).mono ?_); rintro e w28 ⟨rfl, hb⟩; refine ⟨_, rfl, ?_⟩; have n0_ := Aside0.mk (below_step (by repeat (first | (with_reducible first | exact HB.out | apply below_alloc | apply pw_below_drewN | apply below_drew1) | exact HB.out)) hb); clear HB; have HB := n0_; clear n0_; (try clear hb); (try clear hb2); (try clear hk); (try clear hi)) | ((with_reducible refine gate_callee (f := 17) rfl ?_); refine goesL_ (some 19) rfl rfl Tryd.func17 (by kernel_rfl) rfl #[.int .u64 a1] rfl (by (try simp only [List.map_toArray, List.map_cons, List.map_nil]); first | done | rfl | (simp only [List.length_drop, List.length_take]; rfl)) ?_; (with_reducible refine (pack_Put.calls k a1 t185 _ A5.out).mono ?_); rintro e w29 ⟨rfl, hb⟩; refine ⟨_, rfl, ?_⟩; have n0_ := Aside0.mk (below_step (by repeat (first | (with_reducible first | exact HB.out | apply below_alloc | apply pw_below_drewN | apply below_drew1) | exact HB.out)) hb); clear HB; have HB := n0_; clear n0_; (try clear hb); (try clear hb2); (try clear hk); (try clear hi)) | ((with_reducible refine gate_callee (f := 18) rfl ?_); refine goesL_ (some 24) rfl rfl Tryd.func18 (by kernel_rfl) rfl #[.string (t184 ++ t185)] rfl (by (try simp only [List.map_toArray, List.map_cons, List.map_nil]); first | done | rfl | (simp only [List.length_drop, List.length_take]; rfl)) ?_; (with_reducible refine (pack_Take.calls k (t184 ++ t185) t186 t187 t188 _ A7.out).mono ?_); rintro e w' ⟨rfl, ⟨nd, rfl⟩⟩; refine ⟨_, rfl, ?_⟩) | ((with_reducible refine gate_callee (f := 18) rfl ?_); refine goesL_ (some 51) rfl rfl Tryd.func18 (by kernel_rfl) rfl #[.string ((t184 ++ t185).extract (t187 : Int).toNat (t184.size + t185.size))] rfl (by (try simp only [List.map_toArray, List.map_cons, List.map_nil]); first | done | rfl | (simp only [List.length_drop, List.length_take]; rfl)) ?_; (with_reducible refine (pack_Take.calls k ((t184 ++ t185).extract (t187 : Int).toNat (t184.size + t185.size)) t189 t190 t191 _ A14.out).mono ?_); rintro e w' ⟨rfl, ⟨nd, rfl⟩⟩; refine ⟨_, rfl, ?_⟩))
                        go_ret
                        exact ⟨by first | rfl | (simp [errW_none, errW_some] <;> rfl) | (simp [*, errW_none, errW_some] <;> rfl), by repeat (first | (with_reducible first | exact HB.out | apply below_alloc | apply pw_below_drewN | apply below_drew1) | exact HB.out)⟩
                    · rw [if_neg c18] at H
                      have c18b0 : (t189 == a1) = false := beq_eq_false_iff_ne.mpr c18
                      have c18b1 : (t189 != a1) = true := bne_iff_ne.mpr c18
                      obtain rfl := Option.some.inj H
                      go_enter Tryd.func11, Tryd.ntmps11
                      go_wp2_with (first | ((with_reducible refine gate_callee (f := 12) rfl ?_); refine goesL_ (some 15) rfl rfl Tryd.func12 (by kernel_rfl) rfl #[] rfl (by (try simp only [List.map_toArray, List.map_cons, List.map_nil]); first | done | rfl | (simp only [List.length_drop, List.length_take]; rfl)) ?_; (with_reducible refine (isthmuslaw01_awake.calls k  true _ ?side1 A3.out).mono ?_); (case side1 => exact Glob.below HG.out (by repeat (first | (with_reducible first | exact HB.out | apply below_alloc | apply pw_below_drewN | apply below_drew1) | exact HB.out))); rintro e w30 ⟨rfl, hb⟩; refine ⟨_, rfl, ?_⟩; have n0_ := Aside0.mk (below_step (by repeat (first | (with_reducible first | exact HB.out | apply below_alloc | apply pw_below_drewN | apply below_drew1) | exact HB.out)) hb); clear HB; have HB := n0_; clear n0_; (try clear hb); (try clear hb2); (try clear hk); (try clear hi)) | ((with_reducible refine gate_callee (f := 17) rfl ?_); refine goesL_ (some 17) rfl rfl Tryd.func17 (by kernel_rfl) rfl #[.int .u64 a0] rfl (by (try simp only [List.map_toArray, List.map_cons, List.map_nil]); first | done | rfl | (simp only [List.length_drop, List.length_take]; rfl)) ?_; (with_reducible refine (pack_Put.calls k a0 t184 _ A4.out).mono ?_); rintro e w31 ⟨rfl, hb⟩; refine ⟨_, rfl, ?_⟩; have n0_ := Aside0.mk (below_step (by repeat (first | (with_reducible first | exact HB.out | apply below_alloc | apply pw_below_drewN | apply below_drew1) | exact HB.out)) hb); clear HB; have HB := n0_; clear n0_; (try clear hb); (try clear hb2); (try clear hk); (try clear hi)) | ((with_reducible refine gate_callee (f := 17) rfl ?_); refine goesL_ (some 19) rfl rfl Tryd.func17 (by kernel_rfl) rfl #[.int .u64 a1] rfl (by (try simp only [List.map_toArray, List.map_cons, List.map_nil]); first | done | rfl | (simp only [List.length_drop, List.length_take]; rfl)) ?_; (with_reducible refine (pack_Put.calls k a1 t185 _ A5.out).mono ?_); rintro e w32 ⟨rfl, hb⟩; refine ⟨_, rfl, ?_⟩; have n0_ := Aside0.mk (below_step (by repeat (first | (with_reducible first | exact HB.out | apply below_alloc | apply pw_below_drewN | apply below_drew1) | exact HB.out)) hb); clear HB; have HB := n0_; clear n0_; (try clear hb); (try clear hb2); (try clear hk); (try clear hi)) | ((with_reducible refine gate_callee (f := 18) rfl ?_); refine goesL_ (some 24) rfl rfl Tryd.func18 (by kernel_rfl) rfl #[.string (t184 ++ t185)] rfl (by (try simp only [List.map_toArray, List.map_cons, List.map_nil]); first | done | rfl | (simp only [List.length_drop, List.length_take]; rfl)) ?_; (with_reducible refine (pack_Take.calls k (t184 ++ t185) t186 t187 t188 _ A7.out).mono ?_); rintro e w' ⟨rfl, ⟨nd, rfl⟩⟩; refine ⟨_, rfl, ?_⟩) | ((with_reducible refine gate_callee (f := 18) rfl ?_); refine goesL_ (some 51) rfl rfl Tryd.func18 (by kernel_rfl) rfl #[.string ((t184 ++ t185).extract (t187 : Int).toNat (t184.size + t185.size))] rfl (by (try simp only [List.map_toArray, List.map_cons, List.map_nil]); first | done | rfl | (simp only [List.length_drop, List.length_take]; rfl)) ?_; (with_reducible refine (pack_Take.calls k ((t184 ++ t185).extract (t187 : Int).toNat (t184.size + t185.size)) t189 t190 t191 _ A14.out).mono ?_); rintro e w' ⟨rfl, ⟨nd, rfl⟩⟩; refine ⟨_, rfl, ?_⟩))
                      go_ret
                      exact ⟨by first | rfl | (simp [errW_none, errW_some] <;> rfl) | (simp [*, errW_none, errW_some] <;> rfl), by repeat (first | (with_reducible first | exact HB.out | apply below_alloc | apply pw_below_drewN | apply below_drew1) | exact HB.out)⟩
                  · rw [if_neg c16] at H
                    exact absurd H (by simp)
                · rw [if_neg c15] at H
                  have c15b0 : decide ((t184.size : Int) ≤ (t185.size : Int)) = false := decide_eq_false c15
                  have c15b1 : decide (t184.size ≤ t185.size) = false := decide_eq_false (fun h => c15 (Int.ofNat_le.mpr h))
                  clear c15
                  by_cases c33 : t189 = a1
                  · rw [if_pos c33] at H
                    have c33b0 : (t189 == a1) = true := beq_iff_eq.mpr c33
                    have c33b1 : (t189 != a1) = false := bne_eq_false_iff_eq.mpr c33
                    clear c33
                    by_cases c34 : t190 = (t185.size : Int)
                    · rw [if_pos c34] at H
                      have c34b0 : (t190 == (t185.size : Int)) = true := beq_iff_eq.mpr c34
                      have c34b1 : (t190 != (t185.size : Int)) = false := bne_eq_false_iff_eq.mpr c34
                      clear c34
                      by_cases c35 : t191 = 0
                      · rw [if_pos c35] at H
                        have c35b0 : (t191 == 0) = true := beq_iff_eq.mpr c35
                        have c35b1 : (t191 != 0) = false := bne_eq_false_iff_eq.mpr c35
                        clear c35
                        obtain rfl := Option.some.inj H
                        go_enter Tryd.func11, Tryd.ntmps11
                        go_wp2_with (first | ((with_reducible refine gate_callee (f := 12) rfl ?_); refine goesL_ (some 15) rfl rfl Tryd.func12 (by kernel_rfl) rfl #[] rfl (by (try simp only [List.map_toArray, List.map_cons, List.map_nil]); first | done | rfl | (simp only [List.length_drop, List.length_take]; rfl)) ?_; (with_reducible refine (isthmuslaw01_awake.calls k  true _ ?side1 A3.out).mono ?_); (case side1 => exact Glob.below HG.out (by repeat (first | (with_reducible first | exact HB.out | apply below_alloc | apply pw_below_drewN | apply below_drew1) | exact HB.out))); rintro e w36 ⟨rfl, hb⟩; refine ⟨_, rfl, ?_⟩; have n0_ := Aside0.mk (below_step (by repeat (first | (with_reducible first | exact HB.out | apply below_alloc | apply pw_below_drewN | apply below_drew1) | exact HB.out)) hb); clear HB; have HB := n0_; clear n0_; (try clear hb); (try clear hb2); (try clear hk); (try clear hi)) | ((with_reducible refine gate_callee (f := 17) rfl ?_); refine goesL_ (some 17) rfl rfl Tryd.func17 (by kernel_rfl) rfl #[.int .u64 a0] rfl (by (try simp only [List.map_toArray, List.map_cons, List.map_nil]); first | done | rfl | (simp only [List.length_drop, List.length_take]; rfl)) ?_; (with_reducible refine (pack_Put.calls k a0 t184 _ A4.out).mono ?_); rintro e w37 ⟨rfl, hb⟩; refine ⟨_, rfl, ?_⟩; have n0_ := Aside0.mk (below_step (by repeat (first | (with_reducible first | exact HB.out | apply below_alloc | apply pw_below_drewN | apply below_drew1) | exact HB.out)) hb); clear HB; have HB := n0_; clear n0_; (try clear hb); (try clear hb2); (try clear hk); (try clear hi)) | ((with_reducible refine gate_callee (f := 17) rfl ?_); refine goesL_ (some 19) rfl rfl Tryd.func17 (by kernel_rfl) rfl #[.int .u64 a1] rfl (by (try simp only [List.map_toArray, List.map_cons, List.map_nil]); first | done | rfl | (simp only [List.length_drop, List.length_take]; rfl)) ?_; (with_reducible refine (pack_Put.calls k a1 t185 _ A5.out).mono ?_); rintro e w38 ⟨rfl, hb⟩; refine ⟨_, rfl, ?_⟩; have n0_ := Aside0.mk (below_step (by repeat (first | (with_reducible first | exact HB.out | apply below_alloc | apply pw_below_drewN | apply below_drew1) | exact HB.out)) hb); clear HB; have HB := n0_; clear n0_; (try clear hb); (try clear hb2); (try clear hk); (try clear hi)) | ((with_reducible refine gate_callee (f := 18) rfl ?_); refine goesL_ (some 24) rfl rfl Tryd.func18 (by kernel_rfl) rfl #[.string (t184 ++ t185)] rfl (by (try simp only [List.map_toArray, List.map_cons, List.map_nil]); first | done | rfl | (simp only [List.length_drop, List.length_take]; rfl)) ?_; (with_reducible refine (pack_Take.calls k (t184 ++ t185) t186 t187 t188 _ A7.out).mono ?_); rintro e w' ⟨rfl, ⟨nd, rfl⟩⟩; refine ⟨_, rfl, ?_⟩) | ((with_reducible refine gate_callee (f := 18) rfl ?_); refine goesL_ (some 51) rfl rfl Tryd.func18 (by kernel_rfl) rfl #[.string ((t184 ++ t185).extract (t187 : Int).toNat (t184.size + t185.size))] rfl (by (try simp only [List.map_toArray, List.map_cons, List.map_nil]); first | done | rfl | (simp only [List.length_drop, List.length_take]; rfl)) ?_; (with_reducible refine (pack_Take.calls k ((t184 ++ t185).extract (t187 : Int).toNat (t184.size + t185.size)) t189 t190 t191 _ A14.out).mono ?_); rintro e w' ⟨rfl, ⟨nd, rfl⟩⟩; refine ⟨_, rfl, ?_⟩))
                        go_ret
                        exact ⟨by first | rfl | (simp [errW_none, errW_some] <;> rfl) | (simp [*, errW_none, errW_some] <;> rfl), by repeat (first | (with_reducible first | exact HB.out | apply below_alloc | apply pw_below_drewN | apply below_drew1) | exact HB.out)⟩
                      · rw [if_neg c35] at H
                        have c35b0 : (t191 == 0) = false := beq_eq_false_iff_ne.mpr c35
                        have c35b1 : (t191 != 0) = true := bne_iff_ne.mpr c35
                        obtain rfl := Option.some.inj H
                        go_enter Tryd.func11, Tryd.ntmps11
                        go_wp2_with (first | ((with_reducible refine gate_callee (f := 12) rfl ?_); refine goesL_ (some 15) rfl rfl Tryd.func12 (by kernel_rfl) rfl #[] rfl (by (try simp only [List.map_toArray, List.map_cons, List.map_nil]); first | done | rfl | (simp only [List.length_drop, List.length_take]; rfl)) ?_; (with_reducible refine (isthmuslaw01_awake.calls k  true _ ?side1 A3.out).mono ?_); (case side1 => exact Glob.below HG.out (by repeat (first | (with_reducible first | exact HB.out | apply below_alloc | apply pw_below_drewN | apply below_drew1) | exact HB.out))); rintro e w39 ⟨rfl, hb⟩; refine ⟨_, rfl, ?_⟩; have n0_ := Aside0.mk (below_step (by repeat (first | (with_reducible first | exact HB.out | apply below_alloc | apply pw_below_drewN | apply below_drew1) | exact HB.out)) hb); clear HB; have HB := n0_; clear n0_; (try clear hb); (try clear hb2); (try clear hk); (try clear hi)) | ((with_reducible refine gate_callee (f := 17) rfl ?_); refine goesL_ (some 17) rfl rfl Tryd.func17 (by kernel_rfl) rfl #[.int .u64 a0] rfl (by (try simp only [List.map_toArray, List.map_cons, List.map_nil]); first | done | rfl | (simp only [List.length_drop, List.length_take]; rfl)) ?_; (with_reducible refine (pack_Put.calls k a0 t184 _ A4.out).mono ?_); rintro e w40 ⟨rfl, hb⟩; refine ⟨_, rfl, ?_⟩; have n0_ := Aside0.mk (below_step (by repeat (first | (with_reducible first | exact HB.out | apply below_alloc | apply pw_below_drewN | apply below_drew1) | exact HB.out)) hb); clear HB; have HB := n0_; clear n0_; (try clear hb); (try clear hb2); (try clear hk); (try clear hi)) | ((with_reducible refine gate_callee (f := 17) rfl ?_); refine goesL_ (some 19) rfl rfl Tryd.func17 (by kernel_rfl) rfl #[.int .u64 a1] rfl (by (try simp only [List.map_toArray, List.map_cons, List.map_nil]); first | done | rfl | (simp only [List.length_drop, List.length_take]; rfl)) ?_; (with_reducible refine (pack_Put.calls k a1 t185 _ A5.out).mono ?_); rintro e w41 ⟨rfl, hb⟩; refine ⟨_, rfl, ?_⟩; have n0_ := Aside0.mk (below_step (by repeat (first | (with_reducible first | exact HB.out | apply below_alloc | apply pw_below_drewN | apply below_drew1) | exact HB.out)) hb); clear HB; have HB := n0_; clear n0_; (try clear hb); (try clear hb2); (try clear hk); (try clear hi)) | ((with_reducible refine gate_callee (f := 18) rfl ?_); refine goesL_ (some 24) rfl rfl Tryd.func18 (by kernel_rfl) rfl #[.string (t184 ++ t185)] rfl (by (try simp only [List.map_toArray, List.map_cons, List.map_nil]); first | done | rfl | (simp only [List.length_drop, List.length_take]; rfl)) ?_; (with_reducible refine (pack_Take.calls k (t184 ++ t185) t186 t187 t188 _ A7.out).mono ?_); rintro e w' ⟨rfl, ⟨nd, rfl⟩⟩; refine ⟨_, rfl, ?_⟩) | ((with_reducible refine gate_callee (f := 18) rfl ?_); refine goesL_ (some 51) rfl rfl Tryd.func18 (by kernel_rfl) rfl #[.string ((t184 ++ t185).extract (t187 : Int).toNat (t184.size + t185.size))] rfl (by (try simp only [List.map_toArray, List.map_cons, List.map_nil]); first | done | rfl | (simp only [List.length_drop, List.length_take]; rfl)) ?_; (with_reducible refine (pack_Take.calls k ((t184 ++ t185).extract (t187 : Int).toNat (t184.size + t185.size)) t189 t190 t191 _ A14.out).mono ?_); rintro e w' ⟨rfl, ⟨nd, rfl⟩⟩; refine ⟨_, rfl, ?_⟩))
                        go_ret
                        exact ⟨by first | rfl | (simp [errW_none, errW_some] <;> rfl) | (simp [*, errW_none, errW_some] <;> rfl), by repeat (first | (with_reducible first | exact HB.out | apply below_alloc | apply pw_below_drewN | apply below_drew1) | exact HB.out)⟩
                    · rw [if_neg c34] at H
                      have c34b0 : (t190 == (t185.size : Int)) = false := beq_eq_false_iff_ne.mpr c34
                      have c34b1 : (t190 != (t185.size : Int)) = true := bne_iff_ne.mpr c34
                      obtain rfl := Option.some.inj H
                      go_enter Tryd.func11, Tryd.ntmps11
                      go_wp2_with (first | ((with_reducible refine gate_callee (f := 12) rfl ?_); refine goesL_ (some 15) rfl rfl Tryd.func12 (by kernel_rfl) rfl #[] rfl (by (try simp only [List.map_toArray, List.map_cons, List.map_nil]); first | done | rfl | (simp only [List.length_drop, List.length_take]; rfl)) ?_; (with_reducible refine (isthmuslaw01_awake.calls k  true _ ?side1 A3.out).mono ?_); (case side1 => exact Glob.below HG.out (by repeat (first | (with_reducible first | exact HB.out | apply below_alloc | apply pw_below_drewN | apply below_drew1) | exact HB.out))); rintro e w42 ⟨rfl, hb⟩; refine ⟨_, rfl, ?_⟩; have n0_ := Aside0.mk (below_step (by repeat (first | (with_reducible first | exact HB.out | apply below_alloc | apply pw_below_drewN | apply below_drew1) | exact HB.out)) hb); clear HB; have HB := n0_; clear n0_; (try clear hb); (try clear hb2); (try clear hk); (try clear hi)) | ((with_reducible refine gate_callee (f := 17) rfl ?_); refine goesL_ (some 17) rfl rfl Tryd.func17 (by kernel_rfl) rfl #[.int .u64 a0] rfl (by (try simp only [List.map_toArray, List.map_cons, List.map_nil]); first | done | rfl | (simp only [List.length_drop, List.length_take]; rfl)) ?_; (with_reducible refine (pack_Put.calls k a0 t184 _ A4.out).mono ?_); rintro e w43 ⟨rfl, hb⟩; refine ⟨_, rfl, ?_⟩; have n0_ := Aside0.mk (below_step (by repeat (first | (with_reducible first | exact HB.out | apply below_alloc | apply pw_below_drewN | apply below_drew1) | exact HB.out)) hb); clear HB; have HB := n0_; clear n0_; (try clear hb); (try clear hb2); (try clear hk); (try clear hi)) | ((with_reducible refine gate_callee (f := 17) rfl ?_); refine goesL_ (some 19) rfl rfl Tryd.func17 (by kernel_rfl) rfl #[.int .u64 a1] rfl (by (try simp only [List.map_toArray, List.map_cons, List.map_nil]); first | done | rfl | (simp only [List.length_drop, List.length_take]; rfl)) ?_; (with_reducible refine (pack_Put.calls k a1 t185 _ A5.out).mono ?_); rintro e w44 ⟨rfl, hb⟩; refine ⟨_, rfl, ?_⟩; have n0_ := Aside0.mk (below_step (by repeat (first | (with_reducible first | exact HB.out | apply below_alloc | apply pw_below_drewN | apply below_drew1) | exact HB.out)) hb); clear HB; have HB := n0_; clear n0_; (try clear hb); (try clear hb2); (try clear hk); (try clear hi)) | ((with_reducible refine gate_callee (f := 18) rfl ?_); refine goesL_ (some 24) rfl rfl Tryd.func18 (by kernel_rfl) rfl #[.string (t184 ++ t185)] rfl (by (try simp only [List.map_toArray, List.map_cons, List.map_nil]); first | done | rfl | (simp only [List.length_drop, List.length_take]; rfl)) ?_; (with_reducible refine (pack_Take.calls k (t184 ++ t185) t186 t187 t188 _ A7.out).mono ?_); rintro e w' ⟨rfl, ⟨nd, rfl⟩⟩; refine ⟨_, rfl, ?_⟩) | ((with_reducible refine gate_callee (f := 18) rfl ?_); refine goesL_ (some 51) rfl rfl Tryd.func18 (by kernel_rfl) rfl #[.string ((t184 ++ t185).extract (t187 : Int).toNat (t184.size + t185.size))] rfl (by (try simp only [List.map_toArray, List.map_cons, List.map_nil]); first | done | rfl | (simp only [List.length_drop, List.length_take]; rfl)) ?_; (with_reducible refine (pack_Take.calls k ((t184 ++ t185).extract (t187 : Int).toNat (t184.size + t185.size)) t189 t190 t191 _ A14.out).mono ?_); rintro e w' ⟨rfl, ⟨nd, rfl⟩⟩; refine ⟨_, rfl, ?_⟩))
                      go_ret
                      exact ⟨by first | rfl | (simp [errW_none, errW_some] <;> rfl) | (simp [*, errW_none, errW_some] <;> rfl), by repeat (first | (with_reducible first | exact HB.out | apply below_alloc | apply pw_below_drewN | apply below_drew1) | exact HB.out)⟩
                  · rw [if_neg c33] at H
                    have c33b0 : (t189 == a1) = false := beq_eq_false_iff_ne.mpr c33
                    have c33b1 : (t189 != a1) = true := bne_iff_ne.mpr c33
                    obtain rfl := Option.some.inj H
                    go_enter Tryd.func11, Tryd.ntmps11
                    go_wp2_with (first | ((with_reducible refine gate_callee (f := 12) rfl ?_); refine goesL_ (some 15) rfl rfl Tryd.func12 (by kernel_rfl) rfl #[] rfl (by (try simp only [List.map_toArray, List.map_cons, List.map_nil]); first | done | rfl | (simp only [List.length_drop, List.length_take]; rfl)) ?_; (with_reducible refine (isthmuslaw01_awake.calls k  true _ ?side1 A3.out).mono ?_); (case side1 => exact Glob.below HG.out (by repeat (first | (with_reducible first | exact HB.out | apply below_alloc | apply pw_below_drewN | apply below_drew1) | exact HB.out))); rintro e w45 ⟨rfl, hb⟩; refine ⟨_, rfl, ?_⟩; have n0_ := Aside0.mk (below_step (by repeat (first | (with_reducible first | exact HB.out | apply below_alloc | apply pw_below_drewN | apply below_drew1) | exact HB.out)) hb); clear HB; have HB := n0_; clear n0_; (try clear hb); (try clear hb2); (try clear hk); (try clear hi)) | ((with_reducible refine gate_callee (f := 17) rfl ?_); refine goesL_ (some 17) rfl rfl Tryd.func17 (by kernel_rfl) rfl #[.int .u64 a0] rfl (by (try simp only [List.map_toArray, List.map_cons, List.map_nil]); first | done | rfl | (simp only [List.length_drop, List.length_take]; rfl)) ?_; (with_reducible refine (pack_Put.calls k a0 t184 _ A4.out).mono ?_); rintro e w46 ⟨rfl, hb⟩; refine ⟨_, rfl, ?_⟩; have n0_ := Aside0.mk (below_step (by repeat (first | (with_reducible first | exact HB.out | apply below_alloc | apply pw_below_drewN | apply below_drew1) | exact HB.out)) hb); clear HB; have HB := n0_; clear n0_; (try clear hb); (try clear hb2); (try clear hk); (try clear hi)) | ((with_reducible refine gate_callee (f := 17) rfl ?_); refine goesL_ (some 19) rfl rfl Tryd.func17 (by kernel_rfl) rfl #[.int .u64 a1] rfl (by (try simp only [List.map_toArray, List.map_cons, List.map_nil]); first | done | rfl | (simp only [List.length_drop, List.length_take]; rfl)) ?_; (with_reducible refine (pack_Put.calls k a1 t185 _ A5.out).mono ?_); rintro e w47 ⟨rfl, hb⟩; refine ⟨_, rfl, ?_⟩; have n0_ := Aside0.mk (below_step (by repeat (first | (with_reducible first | exact HB.out | apply below_alloc | apply pw_below_drewN | apply below_drew1) | exact HB.out)) hb); clear HB; have HB := n0_; clear n0_; (try clear hb); (try clear hb2); (try clear hk); (try clear hi)) | ((with_reducible refine gate_callee (f := 18) rfl ?_); refine goesL_ (some 24) rfl rfl Tryd.func18 (by kernel_rfl) rfl #[.string (t184 ++ t185)] rfl (by (try simp only [List.map_toArray, List.map_cons, List.map_nil]); first | done | rfl | (simp only [List.length_drop, List.length_take]; rfl)) ?_; (with_reducible refine (pack_Take.calls k (t184 ++ t185) t186 t187 t188 _ A7.out).mono ?_); rintro e w' ⟨rfl, ⟨nd, rfl⟩⟩; refine ⟨_, rfl, ?_⟩) | ((with_reducible refine gate_callee (f := 18) rfl ?_); refine goesL_ (some 51) rfl rfl Tryd.func18 (by kernel_rfl) rfl #[.string ((t184 ++ t185).extract (t187 : Int).toNat (t184.size + t185.size))] rfl (by (try simp only [List.map_toArray, List.map_cons, List.map_nil]); first | done | rfl | (simp only [List.length_drop, List.length_take]; rfl)) ?_; (with_reducible refine (pack_Take.calls k ((t184 ++ t185).extract (t187 : Int).toNat (t184.size + t185.size)) t189 t190 t191 _ A14.out).mono ?_); rintro e w' ⟨rfl, ⟨nd, rfl⟩⟩; refine ⟨_, rfl, ?_⟩))
                    go_ret
                    exact ⟨by first | rfl | (simp [errW_none, errW_some] <;> rfl) | (simp [*, errW_none, errW_some] <;> rfl), by repeat (first | (with_reducible first | exact HB.out | apply below_alloc | apply pw_below_drewN | apply below_drew1) | exact HB.out)⟩
              · rw [if_neg c13] at H
                exact absurd H (by simp)
            · rw [if_neg c12] at H
              exact absurd H (by simp)
          · rw [if_neg c11] at H
            have c11b0 : (t187 == (t184.size : Int)) = false := beq_eq_false_iff_ne.mpr c11
            have c11b1 : (t187 != (t184.size : Int)) = true := bne_iff_ne.mpr c11
            obtain rfl := Option.some.inj H
            go_enter Tryd.func11, Tryd.ntmps11
            go_wp2_with (first | ((with_reducible refine gate_callee (f := 12) rfl ?_); refine goesL_ (some 15) rfl rfl Tryd.func12 (by kernel_rfl) rfl #[] rfl (by (try simp only [List.map_toArray, List.map_cons, List.map_nil]); first | done | rfl | (simp only [List.length_drop, List.length_take]; rfl)) ?_; (with_reducible refine (isthmuslaw01_awake.calls k  true _ ?side1 A3.out).mono ?_); (case side1 => exact Glob.below HG.out (by repeat (first | (with_reducible first | exact HB.out | apply below_alloc | apply pw_below_drewN | apply below_drew1) | exact HB.out))); rintro e w48 ⟨rfl, hb⟩; refine ⟨_, rfl, ?_⟩; have n0_ := Aside0.mk (below_step (by repeat (first | (with_reducible first | exact HB.out | apply below_alloc | apply pw_below_drewN | apply below_drew1) | exact HB.out)) hb); clear HB; have HB := n0_; clear n0_; (try clear hb); (try clear hb2); (try clear hk); (try clear hi)) | ((with_reducible refine gate_callee (f := 17) rfl ?_); refine goesL_ (some 17) rfl rfl Tryd.func17 (by kernel_rfl) rfl #[.int .u64 a0] rfl (by (try simp only [List.map_toArray, List.map_cons, List.map_nil]); first | done | rfl | (simp only [List.length_drop, List.length_take]; rfl)) ?_; (with_reducible refine (pack_Put.calls k a0 t184 _ A4.out).mono ?_); rintro e w49 ⟨rfl, hb⟩; refine ⟨_, rfl, ?_⟩; have n0_ := Aside0.mk (below_step (by repeat (first | (with_reducible first | exact HB.out | apply below_alloc | apply pw_below_drewN | apply below_drew1) | exact HB.out)) hb); clear HB; have HB := n0_; clear n0_; (try clear hb); (try clear hb2); (try clear hk); (try clear hi)) | ((with_reducible refine gate_callee (f := 17) rfl ?_); refine goesL_ (some 19) rfl rfl Tryd.func17 (by kernel_rfl) rfl #[.int .u64 a1] rfl (by (try simp only [List.map_toArray, List.map_cons, List.map_nil]); first | done | rfl | (simp only [List.length_drop, List.length_take]; rfl)) ?_; (with_reducible refine (pack_Put.calls k a1 t185 _ A5.out).mono ?_); rintro e w50 ⟨rfl, hb⟩; refine ⟨_, rfl, ?_⟩; have n0_ := Aside0.mk (below_step (by repeat (first | (with_reducible first | exact HB.out | apply below_alloc | apply pw_below_drewN | apply below_drew1) | exact HB.out)) hb); clear HB; have HB := n0_; clear n0_; (try clear hb); (try clear hb2); (try clear hk); (try clear hi)) | ((with_reducible refine gate_callee (f := 18) rfl ?_); refine goesL_ (some 24) rfl rfl Tryd.func18 (by kernel_rfl) rfl #[.string (t184 ++ t185)] rfl (by (try simp only [List.map_toArray, List.map_cons, List.map_nil]); first | done | rfl | (simp only [List.length_drop, List.length_take]; rfl)) ?_; (with_reducible refine (pack_Take.calls k (t184 ++ t185) t186 t187 t188 _ A7.out).mono ?_); rintro e w' ⟨rfl, ⟨nd, rfl⟩⟩; refine ⟨_, rfl, ?_⟩))
            go_ret
            exact ⟨by first | rfl | (simp [errW_none, errW_some] <;> rfl) | (simp [*, errW_none, errW_some] <;> rfl), by repeat (first | (with_reducible first | exact HB.out | apply below_alloc | apply pw_below_drewN | apply below_drew1) | exact HB.out)⟩
        · rw [if_neg c10] at H
          have c10b0 : (t186 == a0) = false := beq_eq_false_iff_ne.mpr c10
          have c10b1 : (t186 != a0) = true := bne_iff_ne.mpr c10
          obtain rfl := Option.some.inj H
          go_enter Tryd.func11, Tryd.ntmps11
          go_wp2_with (first | ((with_reducible refine gate_callee (f := 12) rfl ?_); refine goesL_ (some 15) rfl rfl Tryd.func12 (by kernel_rfl) rfl #[] rfl (by (try simp only [List.map_toArray, List.map_cons, List.map_nil]); first | done | rfl | (simp only [List.length_drop, List.length_take]; rfl)) ?_; (with_reducible refine (isthmuslaw01_awake.calls k  true _ ?side1 A3.out).mono ?_); (case side1 => exact Glob.below HG.out (by repeat (first | (with_reducible first | exact HB.out | apply below_alloc | apply pw_below_drewN | apply below_drew1) | exact HB.out))); rintro e w51 ⟨rfl, hb⟩; refine ⟨_, rfl, ?_⟩; have n0_ := Aside0.mk (below_step (by repeat (first | (with_reducible first | exact HB.out | apply below_alloc | apply pw_below_drewN | apply below_drew1) | exact HB.out)) hb); clear HB; have HB := n0_; clear n0_; (try clear hb); (try clear hb2); (try clear hk); (try clear hi)) | ((with_reducible refine gate_callee (f := 17) rfl ?_); refine goesL_ (some 17) rfl rfl Tryd.func17 (by kernel_rfl) rfl #[.int .u64 a0] rfl (by (try simp only [List.map_toArray, List.map_cons, List.map_nil]); first | done | rfl | (simp only [List.length_drop, List.length_take]; rfl)) ?_; (with_reducible refine (pack_Put.calls k a0 t184 _ A4.out).mono ?_); rintro e w52 ⟨rfl, hb⟩; refine ⟨_, rfl, ?_⟩; have n0_ := Aside0.mk (below_step (by repeat (first | (with_reducible first | exact HB.out | apply below_alloc | apply pw_below_drewN | apply below_drew1) | exact HB.out)) hb); clear HB; have HB := n0_; clear n0_; (try clear hb); (try clear hb2); (try clear hk); (try clear hi)) | ((with_reducible refine gate_callee (f := 17) rfl ?_); refine goesL_ (some 19) rfl rfl Tryd.func17 (by kernel_rfl) rfl #[.int .u64 a1] rfl (by (try simp only [List.map_toArray, List.map_cons, List.map_nil]); first | done | rfl | (simp only [List.length_drop, List.length_take]; rfl)) ?_; (with_reducible refine (pack_Put.calls k a1 t185 _ A5.out).mono ?_); rintro e w53 ⟨rfl, hb⟩; refine ⟨_, rfl, ?_⟩; have n0_ := Aside0.mk (below_step (by repeat (first | (with_reducible first | exact HB.out | apply below_alloc | apply pw_below_drewN | apply below_drew1) | exact HB.out)) hb); clear HB; have HB := n0_; clear n0_; (try clear hb); (try clear hb2); (try clear hk); (try clear hi)) | ((with_reducible refine gate_callee (f := 18) rfl ?_); refine goesL_ (some 24) rfl rfl Tryd.func18 (by kernel_rfl) rfl #[.string (t184 ++ t185)] rfl (by (try simp only [List.map_toArray, List.map_cons, List.map_nil]); first | done | rfl | (simp only [List.length_drop, List.length_take]; rfl)) ?_; (with_reducible refine (pack_Take.calls k (t184 ++ t185) t186 t187 t188 _ A7.out).mono ?_); rintro e w' ⟨rfl, ⟨nd, rfl⟩⟩; refine ⟨_, rfl, ?_⟩))
          go_ret
          exact ⟨by first | rfl | (simp [errW_none, errW_some] <;> rfl) | (simp [*, errW_none, errW_some] <;> rfl), by repeat (first | (with_reducible first | exact HB.out | apply below_alloc | apply pw_below_drewN | apply below_drew1) | exact HB.out)⟩
      · rw [if_neg c9] at H
        have c9b0 : (t188 == 0) = false := beq_eq_false_iff_ne.mpr c9
        have c9b1 : (t188 != 0) = true := bne_iff_ne.mpr c9
        obtain rfl := Option.some.inj H
        go_enter Tryd.func11, Tryd.ntmps11
        go_wp2_with (first | ((with_reducible refine gate_callee (f := 12) rfl ?_); refine goesL_ (some 15) rfl rfl Tryd.func12 (by kernel_rfl) rfl #[] rfl (by (try simp only [List.map_toArray, List.map_cons, List.map_nil]); first | done | rfl | (simp only [List.length_drop, List.length_take]; rfl)) ?_; (with_reducible refine (isthmuslaw01_awake.calls k  true _ ?side1 A3.out).mono ?_); (case side1 => exact Glob.below HG.out (by repeat (first | (with_reducible first | exact HB.out | apply below_alloc | apply pw_below_drewN | apply below_drew1) | exact HB.out))); rintro e w54 ⟨rfl, hb⟩; refine ⟨_, rfl, ?_⟩; have n0_ := Aside0.mk (below_step (by repeat (first | (with_reducible first | exact HB.out | apply below_alloc | apply pw_below_drewN | apply below_drew1) | exact HB.out)) hb); clear HB; have HB := n0_; clear n0_; (try clear hb); (try clear hb2); (try clear hk); (try clear hi)) | ((with_reducible refine gate_callee (f := 17) rfl ?_); refine goesL_ (some 17) rfl rfl Tryd.func17 (by kernel_rfl) rfl #[.int .u64 a0] rfl (by (try simp only [List.map_toArray, List.map_cons, List.map_nil]); first | done | rfl | (simp only [List.length_drop, List.length_take]; rfl)) ?_; (with_reducible refine (pack_Put.calls k a0 t184 _ A4.out).mono ?_); rintro e w55 ⟨rfl, hb⟩; refine ⟨_, rfl, ?_⟩; have n0_ := Aside0.mk (below_step (by repeat (first | (with_reducible first | exact HB.out | apply below_alloc | apply pw_below_drewN | apply below_drew1) | exact HB.out)) hb); clear HB; have HB := n0_; clear n0_; (try clear hb); (try clear hb2); (try clear hk); (try clear hi)) | ((with_reducible refine gate_callee (f := 17) rfl ?_); refine goesL_ (some 19) rfl rfl Tryd.func17 (by kernel_rfl) rfl #[.int .u64 a1] rfl (by (try simp only [List.map_toArray, List.map_cons, List.map_nil]); first | done | rfl | (simp only [List.length_drop, List.length_take]; rfl)) ?_; (with_reducible refine (pack_Put.calls k a1 t185 _ A5.out).mono ?_); rintro e w56 ⟨rfl, hb⟩; refine ⟨_, rfl, ?_⟩; have n0_ := Aside0.mk (below_step (by repeat (first | (with_reducible first | exact HB.out | apply below_alloc | apply pw_below_drewN | apply below_drew1) | exact HB.out)) hb); clear HB; have HB := n0_; clear n0_; (try clear hb); (try clear hb2); (try clear hk); (try clear hi)) | ((with_reducible refine gate_callee (f := 18) rfl ?_); refine goesL_ (some 24) rfl rfl Tryd.func18 (by kernel_rfl) rfl #[.string (t184 ++ t185)] rfl (by (try simp only [List.map_toArray, List.map_cons, List.map_nil]); first | done | rfl | (simp only [List.length_drop, List.length_take]; rfl)) ?_; (with_reducible refine (pack_Take.calls k (t184 ++ t185) t186 t187 t188 _ A7.out).mono ?_); rintro e w' ⟨rfl, ⟨nd, rfl⟩⟩; refine ⟨_, rfl, ?_⟩))
        go_ret
        exact ⟨by first | rfl | (simp [errW_none, errW_some] <;> rfl) | (simp [*, errW_none, errW_some] <;> rfl), by repeat (first | (with_reducible first | exact HB.out | apply below_alloc | apply pw_below_drewN | apply below_drew1) | exact HB.out)⟩
    · replace c8 := Bool.eq_false_iff.mpr c8
      subst c8
      have H1 : (some false) = some r := by rw [if_neg (show ¬ (false = true) by decide)] at H; exact H
      clear H
      have H := H1
      clear H1
      obtain rfl := Option.some.inj H
      go_enter Tryd.func11, Tryd.ntmps11
      go_wp2_with (first | ((with_reducible refine gate_callee (f := 12) rfl ?_); refine goesL_ (some 15) rfl rfl Tryd.func12 (by kernel_rfl) rfl #[] rfl (by (try simp only [List.map_toArray, List.map_cons, List.map_nil]); first | done | rfl | (simp only [List.length_drop, List.length_take]; rfl)) ?_; (with_reducible refine (isthmuslaw01_awake.calls k  false _ ?side1 A3.out).mono ?_); (case side1 => exact Glob.below HG.out (by repeat (first | (with_reducible first | exact HB.out | apply below_alloc | apply pw_below_drewN | apply below_drew1) | exact HB.out))); rintro e w57 ⟨rfl, hb⟩; refine ⟨_, rfl, ?_⟩; have n0_ := Aside0.mk (below_step (by repeat (first | (with_reducible first | exact HB.out | apply below_alloc | apply pw_below_drewN | apply below_drew1) | exact HB.out)) hb); clear HB; have HB := n0_; clear n0_; (try clear hb); (try clear hb2); (try clear hk); (try clear hi)) | ((with_reducible refine gate_callee (f := 17) rfl ?_); refine goesL_ (some 17) rfl rfl Tryd.func17 (by kernel_rfl) rfl #[.int .u64 a0] rfl (by (try simp only [List.map_toArray, List.map_cons, List.map_nil]); first | done | rfl | (simp only [List.length_drop, List.length_take]; rfl)) ?_; (with_reducible refine (pack_Put.calls k a0 t184 _ A4.out).mono ?_); rintro e w58 ⟨rfl, hb⟩; refine ⟨_, rfl, ?_⟩; have n0_ := Aside0.mk (below_step (by repeat (first | (with_reducible first | exact HB.out | apply below_alloc | apply pw_below_drewN | apply below_drew1) | exact HB.out)) hb); clear HB; have HB := n0_; clear n0_; (try clear hb); (try clear hb2); (try clear hk); (try clear hi)) | ((with_reducible refine gate_callee (f := 17) rfl ?_); refine goesL_ (some 19) rfl rfl Tryd.func17 (by kernel_rfl) rfl #[.int .u64 a1] rfl (by (try simp only [List.map_toArray, List.map_cons, List.map_nil]); first | done | rfl | (simp only [List.length_drop, List.length_take]; rfl)) ?_; (with_reducible refine (pack_Put.calls k a1 t185 _ A5.out).mono ?_); rintro e w59 ⟨rfl, hb⟩; refine ⟨_, rfl, ?_⟩; have n0_ := Aside0.mk (below_step (by repeat (first | (with_reducible first | exact HB.out | apply below_alloc | apply pw_below_drewN | apply below_drew1) | exact HB.out)) hb); clear HB; have HB := n0_; clear n0_; (try clear hb); (try clear hb2); (try clear hk); (try clear hi)) | ((with_reducible refine gate_callee (f := 18) rfl ?_); refine goesL_ (some 24) rfl rfl Tryd.func18 (by kernel_rfl) rfl #[.string (t184 ++ t185)] rfl (by (try simp only [List.map_toArray, List.map_cons, List.map_nil]); first | done | rfl | (simp only [List.length_drop, List.length_take]; rfl)) ?_; (with_reducible refine (pack_Take.calls k (t184 ++ t185) t186 t187 t188 _ A7.out).mono ?_); rintro e w' ⟨rfl, ⟨nd, rfl⟩⟩; refine ⟨_, rfl, ?_⟩))
      go_ret
      exact ⟨by first | rfl | (simp [errW_none, errW_some] <;> rfl) | (simp [*, errW_none, errW_some] <;> rfl), by repeat (first | (with_reducible first | exact HB.out | apply below_alloc | apply pw_below_drewN | apply below_drew1) | exact HB.out)⟩
  · rw [if_neg c6] at H
    exact absurd H (by simp)

/-- THE ONE PURE STATEMENT of isthmuslaw01_PackApartTexts: yours. -/
def isthmuslaw01_PackApartTexts.Pure : Prop := ∀ (a0 : Int) (a1 : Int), (Lit.int .u64 a0).wf = true → (Lit.int .u64 a1).wf = true → ∃ k, isthmuslaw01_PackApartTexts.f k a0 a1 = some true
theorem isthmuslaw01_PackApartTexts.walk (P : isthmuslaw01_PackApartTexts.Pure) (a0 : Int) (a1 : Int) (w : World) (w0 : (Lit.int .u64 a0).wf = true) (w1 : (Lit.int .u64 a1).wf = true) (hG : Glob w) :
    Calls Tryd.prog 11 #[.int .u64 a0, .int .u64 a1] w fun e w' => e = .returned (.bool true) ∧ Below w.heap.size w w' := by
  obtain ⟨k, h⟩ := P a0 a1 w0 w1
  refine (isthmuslaw01_PackApartTexts.calls k a0 a1 true w hG h).mono ?_
  rintro e w' ⟨rfl, hd⟩
  exact ⟨rfl, hd⟩

end Go.Proofs.YtkpdcmafpikhgaaDoor.G
