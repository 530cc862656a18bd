-- Laid by a program (wip/tools/gprint.py over the kit's printer) out of the translation. Lean checks it.
import Derived.Test.YtijcoddbkefmlaaLx0
import Derived.Test.YtijcoddbkefmlaaLx3
import Derived.Test.YtijcoddbkefmlaaLx5
namespace Go.Proofs.Ytijcoddbkefmlaa.L
open Go.RowKit Go.Proofs.YtijcoddbkefmlaaW.PrintWords Go.Proofs.YtijcoddbkefmlaaW.PrintLast Go.Proofs.YtijcoddbkefmlaaW.PrintMore
attribute [local go_sem] max2_int min2_int max_two min_two max_three min_three max_four min_four   -- for this text's walks alone
set_option linter.unusedVariables false
set_option linter.unusedSimpArgs false

/-! ### lex_number: function 33 -/

/-- What digits say, from n on; none: too great. -/
def numL (n : Int) : List Int → Option Int
  | [] => some n
  | c :: t => if n > (9223372036854775807 - (c - 48)) / 10 then none else numL (10 * n + (c - 48)) t
def digAll (s : ByteArray) : Bool := decide (∀ i, i < s.size → 48 ≤ bt s i ∧ bt s i ≤ 57)
def numOut (s : ByteArray) : Option Int → Int × Bool
  | none => (0, false)
  | some n => (n, decide (s.size = 1) || decide (bt s 0 ≠ 48))
def lex_number.f (a0 : ByteArray) : Option (Int × Bool) := if digAll a0 = true then (if 0 < a0.size then some (numOut a0 (numL 0 (bytesOf a0))) else none) else none
theorem drop_bytes (s : ByteArray) (p : Nat) (h : p < s.size) : (bytesOf s).drop p = bt s p :: (bytesOf s).drop (p + 1) := by
  have hl : p < (bytesOf s).length := by rw [bytesOf_length]; exact h
  rw [List.drop_eq_getElem_cons hl, bytes_at s p h]
set_option maxHeartbeats 8000000 in
set_option maxRecDepth 100000 in
theorem lex_number.calls (a0 : ByteArray) (r1 : Int) (r2 : Bool) (w : World) (h : lex_number.f a0 = some (r1, r2)) :
    Calls Try.prog 33 #[.string a0] w fun e w' => e = .returned (.tuple #[.int .i64 r1, .bool r2]) ∧ Below w.heap.size w w' := by
  unfold lex_number.f at h
  by_cases hd : digAll a0 = true
  · rw [if_pos hd] at h
    by_cases hz : 0 < a0.size
    · rw [if_pos hz] at h
      have h2 := Option.some.inj h
      have HX := Aside0.mk h2
      have HD := Aside0.mk (show ∀ i, i < a0.size → 48 ≤ bt a0 i ∧ bt a0 i ≤ 57 by unfold digAll at hd; exact of_decide_eq_true hd)
      clear h h2 hd
      go_enter Try.func33, Try.ntmps33
      go_wp2
      go_loopw [4] (fun v4 w' => ∃ (n p : Nat) (y : Int), v4 = .int .i64 y ∧ w' = (w.iter a0 p).drewN n ∧ p ≤ a0.size ∧ 0 ≤ y ∧ y ≤ 9223372036854775807 ∧ Aside0 (numL 0 (bytesOf a0) = numL y ((bytesOf a0).drop p))) (fun _ w' => a0.size - w'.iterPos w.heap.size)
      case atStart => exact ⟨0, 0, 0, rfl, rfl, Nat.zero_le _, by omega, by omega, ⟨rfl⟩⟩
      case round =>
        obtain ⟨n, p, y, rfl, rfl, hp, hy0, hy1, HN⟩ := hrel
        by_cases hlt : p < a0.size
        · have hr := rune_cls a0 p hlt
          have hb := HD.out p hlt
          have hdec := hr.2 (by omega)
          have hnx : ∀ ty, (Instr.next (.pointer (some ⟨w.heap.size, 0, none⟩)) true ty).run Try.prog ((w.iter a0 p).drewN n) = _ := fun ty => iter_drew_next w n a0 p ty hlt
          rw [hdec] at hnx
          obtain ⟨c, hc⟩ : ∃ c : Int, c = bt a0 p := ⟨_, rfl⟩
          rw [show (((bt a0 p).toNat : Nat) : Int) = c by omega] at hnx
          have hc0 : 48 ≤ c := by omega
          have hc1 : c ≤ 57 := by omega
          have HC := Aside0.mk hc
          have HE := Aside0.mk (show numL y ((bytesOf a0).drop p) = if y > (9223372036854775807 - (c - 48)) / 10 then none else numL (10 * y + (c - 48)) ((bytesOf a0).drop (p + 1)) by rw [drop_bytes a0 p hlt, ← hc, numL])
          clear hr hb hdec hc
          by_cases hov : y > (9223372036854775807 - (c - 48)) / 10
          · have f1 : decide ((9223372036854775807 - (c - 48)) / 10 < y) = true := decide_eq_true hov
            have HR := Aside0.mk (show numOut a0 (numL 0 (bytesOf a0)) = (0, false) by rw [HN.out, HE.out, if_pos hov]; rfl)
            have HF := Aside0.mk (HX.out.symm.trans HR.out)
            clear hov
            have hrr := HF.out
            simp only [Prod.mk.injEq] at hrr
            obtain ⟨rfl, rfl⟩ := hrr
            go_wp2
            go_ret2
            exact ⟨rfl, iter_below _ _ _ _⟩
          · have f1 : decide ((9223372036854775807 - (c - 48)) / 10 < y) = false := decide_eq_false hov
            have hup : 10 * y + (c - 48) ≤ 9223372036854775807 := by omega
            have HU := Aside0.mk (show numL 0 (bytesOf a0) = numL (10 * y + (c - 48)) ((bytesOf a0).drop (p + 1)) by rw [HN.out, HE.out, if_neg hov])
            have hlo : 10 * y ≤ 9223372036854775807 := by omega
            clear hov
            go_wp2
            go_roundw
            case rel => exact ⟨n, p + 1, 10 * y + (c - 48), (by first | rfl | simp), rfl, by omega, by omega, hup, HU⟩
            case measure => first | (rw [iter_pos, iter_pos]; omega) | (simp [iter_pos]; omega)
        · have hnx : ∀ ty, (Instr.next (.pointer (some ⟨w.heap.size, 0, none⟩)) true ty).run Try.prog ((w.iter a0 p).drewN n) = _ := fun ty => iter_drew_end w n a0 p ty hlt
          have HR := Aside0.mk (show numOut a0 (numL 0 (bytesOf a0)) = (y, decide (a0.size = 1) || decide (bt a0 0 ≠ 48)) by rw [HN.out, List.drop_eq_nil_of_le (by rw [bytesOf_length]; omega)]; rfl)
          have hrr := HX.out.symm.trans HR.out
          simp only [Prod.mk.injEq] at hrr
          obtain ⟨rfl, hr2⟩ := hrr
          have hzi : (0 : Int) < (a0.size : Int) := by omega
          have HX0 := Aside0.mk (show ((a0[0]'hz).toNat : Int) = bt a0 0 from bt_at a0 0 hz)
          by_cases s1 : a0.size = 1
          · have hb2 : r2 = true := by rw [hr2]; simp [s1]
            subst hb2
            have f1 : ((a0.size : Int) == 1) = true := beq_iff_eq.mpr (by omega)
            have f2 : (a0.size == 1) = true := beq_iff_eq.mpr s1
            clear hr2 s1
            go_wp2
            go_quiet (fail)
            go_wp2
            go_ret2
            exact ⟨rfl, by repeat (first | exact iter_below _ _ _ _ | apply pw_below_drewN | apply below_drew1)⟩
          · have f1 : ((a0.size : Int) == 1) = false := beq_eq_false_iff_ne.mpr (by omega)
            have f2 : (a0.size == 1) = false := beq_eq_false_iff_ne.mpr s1
            by_cases s2 : bt a0 0 = 48
            · have hb2 : r2 = false := by rw [hr2]; simp [s1, s2]
              subst hb2
              have g1 : (bt a0 0 == 48) = true := beq_iff_eq.mpr s2
              have g2 : (bt a0 0 != 48) = false := bne_eq_false_iff_eq.mpr s2
              clear hr2 s1 s2
              go_wp2
              go_quiet (fail)
              go_wp2
              go_ret2
              exact ⟨by show Ending.returned (.tuple #[.int .i64 r1, .bool (((a0[0]'hz).toNat : Int) != 48)]) = _; rw [HX0.out, g2], by repeat (first | exact iter_below _ _ _ _ | apply pw_below_drewN | apply below_drew1)⟩
            · have hb2 : r2 = true := by rw [hr2]; simp [s1, s2]
              subst hb2
              have g1 : (bt a0 0 == 48) = false := beq_eq_false_iff_ne.mpr s2
              have g2 : (bt a0 0 != 48) = true := bne_iff_ne.mpr s2
              clear hr2 s1 s2
              go_wp2
              go_quiet (fail)
              go_wp2
              go_ret2
              exact ⟨by show Ending.returned (.tuple #[.int .i64 r1, .bool (((a0[0]'hz).toNat : Int) != 48)]) = _; rw [HX0.out, g2], by repeat (first | exact iter_below _ _ _ _ | apply pw_below_drewN | apply below_drew1)⟩
    · rw [if_neg hz] at h; cases h
  · rw [if_neg hd] at h; cases h

/-! ### stringslite_HasPrefix: function 38 -/
def stringslite_HasPrefix.f (a0 : ByteArray) (a1 : ByteArray) : Option (Bool) := if (a0.size : Int) ≥ (a1.size : Int) then (if 0 ≤ (a1.size : Int) then (if (a1.size : Int) ≤ (a0.size : Int) then (some ((a0.extract 0 ((a1.size : Int) : Int).toNat).toList == a1.toList)) else (none)) else (none)) else (some false)
set_option maxHeartbeats 8000000 in
set_option maxRecDepth 100000 in
theorem stringslite_HasPrefix.calls (a0 : ByteArray) (a1 : ByteArray) (r : Bool) (w : World) (h : stringslite_HasPrefix.f a0 a1 = some r) :
    Calls Try.prog 38 #[.string a0, .string a1] w fun e w' => e = .returned (.bool r) ∧ Drawn0 w w' := by
  have H : (if (a0.size : Int) ≥ (a1.size : Int) then (if 0 ≤ (a1.size : Int) then (if (a1.size : Int) ≤ (a0.size : Int) then (some ((a0.extract 0 ((a1.size : Int) : Int).toNat).toList == a1.toList)) else (none)) else (none)) else (some false)) = some r := h
  clear h
  by_cases c3 : (a0.size : Int) ≥ (a1.size : Int)
  · rw [if_pos c3] at H
    have c3b0 : decide ((a1.size : Int) ≤ (a0.size : Int)) = true := decide_eq_true c3
    have c3b1 : decide (a1.size ≤ a0.size) = true := decide_eq_true (Int.ofNat_le.mp c3)
    clear c3
    by_cases c4 : 0 ≤ (a1.size : Int)
    · rw [if_pos c4] at H
      have c4b0 := eq_true c4
      have c4b1 : decide (0 ≤ (a1.size : Int)) = true := decide_eq_true c4
      clear c4
      by_cases c5 : (a1.size : Int) ≤ (a0.size : Int)
      · rw [if_pos c5] at H
        have c5b0 := eq_true c5
        have c5b1 : decide ((a1.size : Int) ≤ (a0.size : Int)) = true := decide_eq_true c5
        clear c5
        obtain rfl := Option.some.inj H
        go_enter Try.func38, Try.ntmps38
        go_wp2
        go_ret
        exact ⟨by first | rfl | (simp; done) | (simp [*]; done), by repeat (first | exact Drawn0.refl _ | apply Drawn0.step)⟩
      · rw [if_neg c5] at H
        exact absurd H (by simp)
    · rw [if_neg c4] at H
      exact absurd H (by simp)
  · rw [if_neg c3] at H
    have c3b0 : decide ((a1.size : Int) ≤ (a0.size : Int)) = false := decide_eq_false c3
    have c3b1 : decide (a1.size ≤ a0.size) = false := decide_eq_false (fun h => c3 (Int.ofNat_le.mpr h))
    clear c3
    obtain rfl := Option.some.inj H
    go_enter Try.func38, Try.ntmps38
    go_wp2
    go_ret
    exact ⟨by first | rfl | (simp; done) | (simp [*]; done), by repeat (first | exact Drawn0.refl _ | apply Drawn0.step)⟩

/-! ### strings_HasPrefix: function 35 -/
def strings_HasPrefix.f (a0 : ByteArray) (a1 : ByteArray) : Option (Bool) := (stringslite_HasPrefix.f a0 a1).bind fun t115 => (some t115)
set_option maxHeartbeats 8000000 in
set_option maxRecDepth 100000 in
theorem strings_HasPrefix.calls (a0 : ByteArray) (a1 : ByteArray) (r : Bool) (w : World) (h : strings_HasPrefix.f a0 a1 = some r) :
    Calls Try.prog 35 #[.string a0, .string a1] w fun e w' => e = .returned (.bool r) ∧ Drawn0 w w' := by
  have H : ((stringslite_HasPrefix.f a0 a1).bind fun t115 => (some t115)) = some r := h
  clear h
  replace H := Option.bind_eq_some_iff.mp H
  obtain ⟨t115, A30, H⟩ := H
  replace H : (some t115) = some r := H
  have A3 := Aside0.mk A30
  clear A30
  obtain rfl := Option.some.inj H
  go_enter Try.func35, Try.ntmps35
  go_wp2_with (first | ((with_reducible refine gate_callee (f := 38) rfl ?_); refine goesL_ (some 7) rfl rfl Try.func38 (by kernel_rfl) rfl #[.string a0, .string a1] rfl (by (try simp only [List.map_toArray, List.map_cons, List.map_nil]); first | done | rfl | (simp only [List.length_drop, List.length_take]; rfl)) ?_; (with_reducible refine (stringslite_HasPrefix.calls a0 a1 t115 _ A3.out).mono ?_); rintro e w' ⟨rfl, ⟨nd, rfl⟩⟩; refine ⟨_, rfl, ?_⟩))
  go_ret
  exact ⟨by first | rfl | (simp; done) | (simp [*]; done), by repeat (first | exact Drawn0.refl _ | apply Drawn0.step)⟩

end Go.Proofs.Ytijcoddbkefmlaa.L
