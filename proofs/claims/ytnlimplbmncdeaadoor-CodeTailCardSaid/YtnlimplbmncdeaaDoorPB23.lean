/- The laws CodeBack, CodeBackWords, CodeLists, CodeTail of the program hold, as their cards say: texts put together by a program, 24 of 39. -/
import Derived.Test.YtnlimplbmncdeaaDoorPB12
import Derived.Test.YtnlimplbmncdeaaDoorPB21
namespace Go.Proofs.YtnlimplbmncdeaaDoor.C
open Go.RowKit Go.Proofs.YtnlimplbmncdeaaDoorW.PrintWords Go.Proofs.YtnlimplbmncdeaaDoorW.PrintLast Go.Proofs.YtnlimplbmncdeaaDoorW.PrintMore
attribute [local go_sem] max2_int min2_int max_two min_two max_three min_three max_four min_four
set_option linter.unusedVariables false
set_option linter.unusedSimpArgs false
mutual
def pack_Take.l0 : Nat → ByteArray → Int → Int → Int → Option (Int × Int × Int)
 | 0, _, _, _, _ => none
 | k + 1, x0, x5, x9, x10 => if x10 < x9 then (if 0 ≤ x10 then (if x10 < (x0.size : Int) then (if x10 = 9 then (pack_Take.j1 k x0 x5 x10 (bt x0 x10) x9 x10 (decide ((bt x0 x10) > 1))) else (pack_Take.j1 k x0 x5 x10 (bt x0 x10) x9 x10 false)) else (none)) else (none)) else (some (0, 0, 10))
def pack_Take.j1 : Nat → ByteArray → Int → Int → Int → Int → Int → Bool → Option (Int × Int × Int)
 | 0, _, _, _, _, _, _, _ => none
 | k + 1, x0, x5, x6, x7, x9, x10, x21 => if x21 = true then (some (0, 0, 11)) else (if 0 ≤ (wrap64 (7 * x6)) then (if x7 > 127 then (pack_Take.l0 k x0 (Go.bits .or .u64 x5 (shl .u64 (IntKind.u64.wrap (Go.bits .and .u8 x7 127)) (wrap64 (7 * x6)))) x9 (wrap64 (x10 + 1))) else (if x7 = 0 then (if x6 > 0 then (some (0, 0, 11)) else (some (Go.bits .or .u64 x5 (shl .u64 (IntKind.u64.wrap (Go.bits .and .u8 x7 127)) (wrap64 (7 * x6))), wrap64 (x6 + 1), 0))) else (some (Go.bits .or .u64 x5 (shl .u64 (IntKind.u64.wrap (Go.bits .and .u8 x7 127)) (wrap64 (7 * x6))), wrap64 (x6 + 1), 0)))) else (none))
end
def pack_Take.f (k : Nat) (a0 : ByteArray) : Option (Int × Int × Int) := pack_Take.l0 k a0 0 (a0.size : Int) 0
set_option maxHeartbeats 8000000 in
set_option maxRecDepth 100000 in
theorem pack_Take.calls (k : Nat) (a0 : ByteArray) (r1 : Int) (r2 : Int) (r3 : Int) (w : World) (h : pack_Take.f k a0 = some (r1, r2, r3)) :
  Calls Tryd.prog 70 #[.string a0] w fun e w' => e = .returned (.tuple #[.int .u64 r1, .int .i64 r2, .int .i64 r3]) ∧ Drawn0 w w' := by
 have H : (pack_Take.l0 k a0 0 (a0.size : Int) 0) = some (r1, r2, r3) := h
 clear h
 have H' := Aside0.mk H
 clear H
 go_enter Tryd.func70, Tryd.ntmps70
 go_wp2
 go_loopg [5, 10] k (fun kq v5 v10 w' => ∃ (x5_1 : Int) (x10_1 : Int), v5 = .int .u64 x5_1 ∧ v10 = .int .i64 x10_1 ∧ Aside0 (pack_Take.l0 kq a0 x5_1 (a0.size : Int) x10_1 = some (r1, r2, r3)) ∧ Aside0 (kq ≤ k) ∧ Drawn0 w w')
 case atStart => exact ⟨(0), (0), (by first | rfl | (simp; done) | (simp [*]; done)), (by first | rfl | (simp; done) | (simp [*]; done)), H', ⟨Nat.le_refl _⟩, by repeat (first | exact Drawn0.refl _ | apply Drawn0.step)⟩
 case round =>
  clear H'
  obtain ⟨x5_1, x10_1, rfl, rfl, HA, HK1, ⟨m1, rfl⟩⟩ := hrel
  cases gk with
  | zero => exact absurd HA.out (by simp [pack_Take.l0])
  | succ k1 =>
   have H := HA.out
   clear HA
   simp only [pack_Take.l0] at H
   by_cases c2 : x10_1 < (a0.size : Int)
   ·rw [if_pos c2] at H
    have c2b0 : decide (x10_1 < (a0.size : Int)) = true := decide_eq_true c2
    clear c2
    by_cases c3 : 0 ≤ x10_1
    ·rw [if_pos c3] at H
     have c3b0 : decide (0 ≤ x10_1) = true := decide_eq_true c3
     clear c3
     by_cases c4 : x10_1 < (a0.size : Int)
     ·rw [if_pos c4] at H
      have c4b0 : decide (x10_1 < (a0.size : Int)) = true := decide_eq_true c4
      clear c4
      have HC6 := Aside0.mk H
      clear H
      have p5 : 0 ≤ (x10_1 : Int) := of_decide_eq_true (by first | (with_reducible assumption) | assumption)
      have q5 : x10_1 < (a0.size : Int) := of_decide_eq_true (by first | (with_reducible assumption) | assumption)
      have hx5 := bt_at a0 x10_1
      replace p5 := eq_true p5
      replace q5 := eq_true q5
      go_upto_region 6 with (fail)
      go_cut [21] (fun v21 wc => ∃ (kq : Nat) (x21_5 : Bool), v21 = .bool x21_5 ∧ Aside0 (pack_Take.j1 kq a0 x5_1 x10_1 (bt a0 x10_1) (a0.size : Int) x10_1 x21_5 = some (r1, r2, r3)) ∧ Aside0 (kq ≤ k1) ∧ Drawn0 w wc)
      case first =>
       have H := HC6.out
       clear HC6
       by_cases c7 : x10_1 = 9
       ·rw [if_pos c7] at H
        have c7b0 : (x10_1 == 9) = true := beq_iff_eq.mpr c7
        have c7b1 : (x10_1 != 9) = false := bne_eq_false_iff_eq.mpr c7
        clear c7
        (first | rw [c7b0] | (simp only [i64_w, i32_w]; rw [c7b0]) | skip)
        have H' := Aside0.mk H
        clear H
        go_wp2
        go_meet
        case rel => exact ⟨_, (decide ((bt a0 x10_1) > 1)), (by first | rfl | (simp; done) | (simp [*]; done)), H', ⟨by have := HK1.out; first | omega | exact Nat.le_refl _⟩, by repeat (first | exact Drawn0.refl _ | apply Drawn0.step)⟩
       ·rw [if_neg c7] at H
        have c7b0 : (x10_1 == 9) = false := beq_eq_false_iff_ne.mpr c7
        have c7b1 : (x10_1 != 9) = true := bne_iff_ne.mpr c7
        (first | rw [c7b0] | (simp only [i64_w, i32_w]; rw [c7b0]) | skip)
        have H' := Aside0.mk H
        clear H
        go_wp2
        go_meet
        case rel => exact ⟨_, (false), (by first | rfl | (simp; done) | (simp [*]; done)), H', ⟨by have := HK1.out; first | omega | exact Nat.le_refl _⟩, by repeat (first | exact Drawn0.refl _ | apply Drawn0.step)⟩
      case rest =>
       clear HC6
       try clear c2
       try clear c2b0
       try clear p2
       try clear c3
       try clear c3b0
       try clear c4
       try clear c4b0
       try clear p5
       try clear q5
       try clear hx5
       try clear c7
       try clear c7b0
       try clear c7b1
       try clear p5
       try clear q5
       obtain ⟨kq, x21_5, rfl, HA, HJ5, ⟨mc5, rfl⟩⟩ := hcut
       cases kq with
       | zero => exact absurd HA.out (by simp [pack_Take.j1])
       | succ kj5 =>
        have H := HA.out
        clear HA
        simp only [pack_Take.j1] at H
        by_cases c8 : x21_5 = true
        ·subst c8
         have H1 : (some (0, 0, 11)) = some (r1, r2, r3) := by rw [if_pos rfl] at H; exact H
         clear H
         have H := H1
         clear H1
         simp only [Option.some.injEq, Prod.mk.injEq] at H
         obtain ⟨rfl, rfl, rfl⟩ := H
         go_wp2
         go_ret3
         exact ⟨by first | rfl | (simp; done) | (simp [*]; done), by repeat (first | exact Drawn0.refl _ | apply Drawn0.step)⟩
        ·replace c8 := Bool.eq_false_iff.mpr c8
         subst c8
         have H1 : (if 0 ≤ (wrap64 (7 * x10_1)) then (if (bt a0 x10_1) > 127 then (pack_Take.l0 kj5 a0 (Go.bits .or .u64 x5_1 (shl .u64 (IntKind.u64.wrap (Go.bits .and .u8 (bt a0 x10_1) 127)) (wrap64 (7 * x10_1)))) (a0.size : Int) (wrap64 (x10_1 + 1))) else (if (bt a0 x10_1) = 0 then (if x10_1 > 0 then (some (0, 0, 11)) else (some (Go.bits .or .u64 x5_1 (shl .u64 (IntKind.u64.wrap (Go.bits .and .u8 (bt a0 x10_1) 127)) (wrap64 (7 * x10_1))), wrap64 (x10_1 + 1), 0))) else (some (Go.bits .or .u64 x5_1 (shl .u64 (IntKind.u64.wrap (Go.bits .and .u8 (bt a0 x10_1) 127)) (wrap64 (7 * x10_1))), wrap64 (x10_1 + 1), 0)))) else (none)) = some (r1, r2, r3) := by rw [if_neg (show ¬ (false = true) by decide)] at H; exact H
         clear H
         have H := H1
         clear H1
         obtain ⟨ji9, hji9⟩ : ∃ j_ : Int, (wrap64 (7 * x10_1)) = j_ := ⟨_, rfl⟩
         replace H : (if 0 ≤ (ji9) then (if (bt a0 x10_1) > 127 then (pack_Take.l0 kj5 a0 (Go.bits .or .u64 x5_1 (shl .u64 (IntKind.u64.wrap (Go.bits .and .u8 (bt a0 x10_1) 127)) (ji9))) (a0.size : Int) (wrap64 (x10_1 + 1))) else (if (bt a0 x10_1) = 0 then (if x10_1 > 0 then (some (0, 0, 11)) else (some (Go.bits .or .u64 x5_1 (shl .u64 (IntKind.u64.wrap (Go.bits .and .u8 (bt a0 x10_1) 127)) (ji9)), wrap64 (x10_1 + 1), 0))) else (some (Go.bits .or .u64 x5_1 (shl .u64 (IntKind.u64.wrap (Go.bits .and .u8 (bt a0 x10_1) 127)) (ji9)), wrap64 (x10_1 + 1), 0)))) else (none)) = some (r1, r2, r3) := by first | (rw [hji9] at H; exact H) | (simp only [hji9] at H ⊢; exact H)
         have hji9w : (IntKind.i64.wrap (7 * x10_1)) = ji9 := (i64_w _).trans hji9
         by_cases c10 : 0 ≤ (ji9)
         ·rw [if_pos c10] at H
          have c10b0 := eq_true c10
          have c10b1 : decide (0 ≤ (ji9)) = true := decide_eq_true c10
          clear c10
          obtain ⟨ji11, hji11⟩ : ∃ j_ : Int, (shl .u64 (IntKind.u64.wrap (Go.bits .and .u8 (bt a0 x10_1) 127)) (ji9)) = j_ := ⟨_, rfl⟩
          replace H : (if (bt a0 x10_1) > 127 then (pack_Take.l0 kj5 a0 (Go.bits .or .u64 x5_1 (ji11)) (a0.size : Int) (wrap64 (x10_1 + 1))) else (if (bt a0 x10_1) = 0 then (if x10_1 > 0 then (some (0, 0, 11)) else (some (Go.bits .or .u64 x5_1 (ji11), wrap64 (x10_1 + 1), 0))) else (some (Go.bits .or .u64 x5_1 (ji11), wrap64 (x10_1 + 1), 0)))) = some (r1, r2, r3) := by first | (rw [hji11] at H; exact H) | (simp only [hji11] at H ⊢; exact H)
          have hji11_ : (IntKind.u64.wrap ((IntKind.u64.wrap (Go.bits .and .u8 (bt a0 x10_1) 127)) * 2 ^ min (ji9).toNat 64)) = ji11 := hji11
          have hji11z : (ji9) ≤ 64 → (IntKind.u64.wrap ((IntKind.u64.wrap (Go.bits .and .u8 (bt a0 x10_1) 127)) * 2 ^ (ji9).toNat)) = ji11 := shl_small hji11
          by_cases c12 : (bt a0 x10_1) > 127
          ·rw [if_pos c12] at H
           have c12b0 : decide (127 < (bt a0 x10_1)) = true := decide_eq_true c12
           clear c12
           have H' := Aside0.mk H
           clear H
           go_wp2
           go_roundg kj5
           case measure => have := HK1.out; have := HJ5.out; omega
           case rel => exact ⟨(Go.bits .or .u64 x5_1 (ji11)), (wrap64 (x10_1 + 1)), (by first | rfl | (simp; done) | (simp only [← hji11] <;> (first | rfl | simp)) | (simp [*]; done)), (by first | rfl | (simp; done) | (simp [*]; done)), H', ⟨by have := HK1.out; have := HJ5.out; omega⟩, by repeat (first | exact Drawn0.refl _ | apply Drawn0.step)⟩
          ·rw [if_neg c12] at H
           have c12b0 : decide (127 < (bt a0 x10_1)) = false := decide_eq_false c12
           clear c12
           by_cases c13 : (bt a0 x10_1) = 0
           ·rw [if_pos c13] at H
            have c13b0 : ((bt a0 x10_1) == 0) = true := beq_iff_eq.mpr c13
            have c13b1 : ((bt a0 x10_1) != 0) = false := bne_eq_false_iff_eq.mpr c13
            clear c13
            by_cases c14 : x10_1 > 0
            ·rw [if_pos c14] at H
             have c14b0 : decide (0 < x10_1) = true := decide_eq_true c14
             clear c14
             simp only [Option.some.injEq, Prod.mk.injEq] at H
             obtain ⟨rfl, rfl, rfl⟩ := H
             go_wp2
             go_ret3
             exact ⟨by first | rfl | (simp; done) | (simp only [← hji9, ← hji11] <;> (first | rfl | simp)) | (simp [*]; done), by repeat (first | exact Drawn0.refl _ | apply Drawn0.step)⟩
            ·rw [if_neg c14] at H
             have c14b0 : decide (0 < x10_1) = false := decide_eq_false c14
             clear c14
             simp only [Option.some.injEq, Prod.mk.injEq] at H
             obtain ⟨rfl, rfl, rfl⟩ := H
             go_wp2
             go_ret3
             exact ⟨by first | rfl | (simp; done) | (simp only [← hji9, ← hji11] <;> (first | rfl | simp)) | (simp [*]; done), by repeat (first | exact Drawn0.refl _ | apply Drawn0.step)⟩
           ·rw [if_neg c13] at H
            have c13b0 : ((bt a0 x10_1) == 0) = false := beq_eq_false_iff_ne.mpr c13
            have c13b1 : ((bt a0 x10_1) != 0) = true := bne_iff_ne.mpr c13
            simp only [Option.some.injEq, Prod.mk.injEq] at H
            obtain ⟨rfl, rfl, rfl⟩ := H
            go_wp2
            go_ret3
            exact ⟨by first | rfl | (simp; done) | (simp only [← hji9, ← hji11] <;> (first | rfl | simp)) | (simp [*]; done), by repeat (first | exact Drawn0.refl _ | apply Drawn0.step)⟩
         ·rw [if_neg c10] at H
          exact absurd H (by simp)
     ·rw [if_neg c4] at H
      exact absurd H (by simp)
    ·rw [if_neg c3] at H
     exact absurd H (by simp)
   ·rw [if_neg c2] at H
    have c2b0 : decide (x10_1 < (a0.size : Int)) = false := decide_eq_false c2
    clear c2
    simp only [Option.some.injEq, Prod.mk.injEq] at H
    obtain ⟨rfl, rfl, rfl⟩ := H
    go_wp2
    go_ret3
    exact ⟨by first | rfl | (simp; done) | (simp [*]; done), by repeat (first | exact Drawn0.refl _ | apply Drawn0.step)⟩
def code_reader_number.g (k : Nat) (bs : List Int) (bad : Bool) : Option (Int × List Int × Bool) := (pack_Take.f k (strOfNums (bs.take 10))).bind fun t => if t.2.2 = 0 then (if 0 ≤ t.2.1 ∧ t.2.1 ≤ bs.length then some (t.1, bs.drop t.2.1.toNat, bad) else none) else some (0, bs, true)
set_option maxHeartbeats 8000000 in
set_option maxRecDepth 100000 in
theorem code_reader_number.callsG (k : Nat) (g : Nat) (bs bs' : List Int) (bad bad' : Bool) (u : Int) (Bb : Nat) (w0 W : World) (h : code_reader_number.g k bs bad = some (u, bs', bad')) (hI : RI w0 g Bb W bs bad) :
  Calls Tryd.prog 48 #[.pointer (some ⟨g, 0, none⟩)] W fun e W' => e = .returned (.int .u64 u) ∧ RI w0 g Bb W' bs' bad' ∧ KeepBut W W' g none := by
 unfold code_reader_number.g at h
 obtain ⟨⟨t1, t2, t3⟩, ht, h⟩ := Option.bind_eq_some_iff.mp h
 have HT := Aside0.mk ht
 obtain ⟨A, c, i1, i2, i3, i4, i5⟩ := hI
 have hg0 : W.cell? ⟨g, 0, none⟩ = some (.slice A bs.length c) := blk_cell i1 0
 have hf0 : W.frozen? ⟨g, 0, none⟩ = false := blk_frozen i1 0
 have hg1 : W.cell? ⟨g, 1, none⟩ = some (.bool bad) := blk_cell i1 1
 have hf1 : W.frozen? ⟨g, 1, none⟩ = false := blk_frozen i1 1
 obtain ⟨i0, hi0, _, hsz, _⟩ := info_parts info5
 have hmax := i3.now.2.1
 obtain ⟨m, hm⟩ : ∃ m, m = min bs.length 10 := ⟨_, rfl⟩
 have hcut := (cut3 (P := Tryd.prog) 44 5 Tryd.underlying44 hi0 A bs.length m bs.length c (by omega) i2).1
 have htk : bs.take 10 = bs.take m := by
  rw [hm]
  by_cases h10 : bs.length ≤ 10
  ·rw [Nat.min_eq_left h10, List.take_of_length_le h10, List.take_of_length_le (Nat.le_refl _)]
  ·rw [Nat.min_eq_right (by omega)]
 rw [htk] at HT
 have hconv : ∀ q, (convert 44 9 (.slice A m bs.length)).run Tryd.prog (W.drewN q) = .ok (.string (strOfNums (bs.take m))) (W.drewN q) := fun q =>
  string_of_reads Tryd.underlying44 Tryd.underlying5 Tryd.underlying9 (reads_take (i3 (W.drewN q) rfl) m (by omega))
 have HI := Aside0.mk (And.intro i1 (And.intro i2 (And.intro i3 (And.intro i4 i5))))
 have HS := Aside0.mk hsz
 have HI0 := Aside0.mk hi0
 clear i1 i2 i3 i4 i5 ht htk hsz hi0
 have hmin : (if (10 : Int) < (bs.length : Int) then (10 : Int) else (bs.length : Int)) = (m : Int) := by split <;> omega
 have HM := Aside0.mk hm
 clear hm
 go_enter Tryd.func48, Tryd.ntmps48
 go_wp2
 go_quiet ((go_at_call 70; exact Calls.quiet_of ((pack_Take.calls k _ t1 t2 t3 _ HT.out).mono fun _ _ h => ⟨h.1, h.2.out⟩)))
 obtain ⟨i1, i2, i3, i4, i5⟩ := HI.out
 by_cases hc : t3 = 0
 ·subst hc
  rw [if_pos rfl] at h
  by_cases hr : 0 ≤ t2 ∧ t2 ≤ bs.length
  ·rw [if_pos hr] at h
   simp only [Option.some.injEq, Prod.mk.injEq] at h
   obtain ⟨rfl, rfl, rfl⟩ := h
   obtain ⟨A', hdrop, hread, hlen⟩ := print_cut_int (P := Tryd.prog) (k := .u8) 44 5 Tryd.underlying44 HI0.out HS.out A c bs t2 hr.1 hr.2 i2
   have HQ := Aside0.mk (fun q => RI.set (w0 := w0) i1 i3 i4 i5 q 0 (.slice A' (bs.drop t2.toNat).length (c - t2.toNat)) rfl hlen hread)
   clear i1 i2 i3 i4 i5 hr hread hlen hconv hcut hmin
   obtain ⟨n', hn'⟩ : ∃ n', n' = (bs.drop t2.toNat).length := ⟨_, rfl⟩
   rw [← hn'] at hdrop HQ
   clear hn'
   go_wp2
   go_ret
   exact ⟨rfl, HQ.out _⟩
  ·rw [if_neg hr] at h; cases h
 ·rw [if_neg hc] at h
  simp only [Option.some.injEq, Prod.mk.injEq] at h
  obtain ⟨rfl, rfl, rfl⟩ := h
  have hne : (t3 != 0) = true := bne_iff_ne.mpr hc
  have hne' : (t3 == 0) = false := beq_eq_false_iff_ne.mpr hc
  have HQ := Aside0.mk (fun q => RI.set (w0 := w0) i1 i3 i4 i5 q 1 (.bool true) rfl i2 (fun _ h => h))
  clear i1 i2 i3 i4 i5 hc hconv hcut hmin
  go_wp2
  go_ret
  exact ⟨rfl, HQ.out _⟩
def code_reader_count.g (k : Nat) (bs : List Int) (bad : Bool) (most : Int) : Option (Int × List Int × Bool) := (code_reader_number.g k bs bad).bind fun t => if t.1 > IntKind.u64.wrap most then some (0, t.2.1, true) else some (wrap64 t.1, t.2.1, t.2.2)
theorem keep_two {W W1 W2 : World} {g : Nat} (h1 : KeepBut W W1 g none) (h2 : KeepBut W1 W2 g none) : KeepBut W W2 g none :=
 ⟨Nat.le_trans h1.1 h2.1, fun i hi hg hr => (h2.2 i (Nat.lt_of_lt_of_le hi h1.1) hg hr).trans (h1.2 i hi hg hr)⟩
set_option maxHeartbeats 8000000 in
set_option maxRecDepth 100000 in
theorem code_reader_count.callsG (k : Nat) (g : Nat) (bs bs' : List Int) (bad bad' : Bool) (most u : Int) (Bb : Nat) (w0 W : World) (h : code_reader_count.g k bs bad most = some (u, bs', bad')) (hI : RI w0 g Bb W bs bad) :
  Calls Tryd.prog 47 #[.pointer (some ⟨g, 0, none⟩), .int .i64 most] W fun e W' => e = .returned (.int .i64 u) ∧ RI w0 g Bb W' bs' bad' ∧ KeepBut W W' g none := by
 unfold code_reader_count.g at h
 obtain ⟨⟨t1, t2, t3⟩, ht, h⟩ := Option.bind_eq_some_iff.mp h
 have HT := Aside0.mk (code_reader_number.callsG k g bs t2 bad t3 t1 Bb w0 W ht hI)
 clear ht hI
 by_cases hc : t1 > IntKind.u64.wrap most
 ·rw [if_pos hc] at h
  simp only [Option.some.injEq, Prod.mk.injEq] at h
  obtain ⟨rfl, rfl, rfl⟩ := h
  have f1 : decide (IntKind.u64.wrap most < t1) = true := decide_eq_true hc
  clear hc
  go_enter Tryd.func47, Tryd.ntmps47
  go_wp2_with (go_at_call 48; (with_reducible refine HT.out.mono ?_); rintro e W1 ⟨rfl, hI1, hK1⟩; obtain ⟨A, c, i1, i2, i3, i4, i5⟩ :=  hI1; have hg1 := blk_cell i1 1; have hf1 := blk_frozen i1 1; have HQ := Aside0.mk (RI.set (w0 := w0) i1 i3 i4 i5 0 1 (.bool true) rfl i2 (fun _ h => h)); have HK := Aside0.mk hK1; clear i1 i2 i3 i4 i5 hK1)
  go_ret
  exact ⟨rfl, HQ.out.1, keep_two HK.out HQ.out.2⟩
 ·rw [if_neg hc] at h
  simp only [Option.some.injEq, Prod.mk.injEq] at h
  obtain ⟨rfl, rfl, rfl⟩ := h
  have f1 : decide (IntKind.u64.wrap most < t1) = false := decide_eq_false hc
  clear hc
  go_enter Tryd.func47, Tryd.ntmps47
  go_wp2_with (go_at_call 48; (with_reducible refine HT.out.mono ?_); rintro e W1 ⟨rfl, hI1, hK1⟩; have HQ := Aside0.mk hI1; have HK := Aside0.mk hK1; clear hI1 hK1)
  go_ret
  exact ⟨by first | rfl | (simp only [IntKind.wrap_i64]; rfl) | simp [wrap64, IntKind.wrap_i64], HQ.out, HK.out⟩
def pack_Zag.f (a0 : Int) : Option (Int) := some (Go.bits .xor .i64 (wrap64 (a0 / 2)) (wrap64 (-(wrap64 (Go.bits .and .u64 a0 1)))))
set_option maxHeartbeats 8000000 in
set_option maxRecDepth 100000 in
theorem pack_Zag.calls (a0 : Int) (r : Int) (w : World) (h : pack_Zag.f a0 = some r) :
  Calls Tryd.prog 49 #[.int .u64 a0] w fun e w' => e = .returned (.int .i64 r) ∧ Drawn0 w w' := by
 have H : (some (Go.bits .xor .i64 (wrap64 (a0 / 2)) (wrap64 (-(wrap64 (Go.bits .and .u64 a0 1)))))) = some r := h
 clear h
 obtain rfl := Option.some.inj H
 go_enter Tryd.func49, Tryd.ntmps49
 go_wp2
 go_ret
 exact ⟨by first | rfl | (simp; done) | (simp [*]; done), by repeat (first | exact Drawn0.refl _ | apply Drawn0.step)⟩
end Go.Proofs.YtnlimplbmncdeaaDoor.C
