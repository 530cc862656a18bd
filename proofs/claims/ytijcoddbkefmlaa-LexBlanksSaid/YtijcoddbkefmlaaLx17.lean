-- Laid by a program (wip/tools/gprint.py over the kit's printer) out of the translation. Lean checks it.
import Derived.Test.YtijcoddbkefmlaaLx0
import Derived.Test.YtijcoddbkefmlaaLx8
import Derived.Test.YtijcoddbkefmlaaLx9
import Derived.Test.YtijcoddbkefmlaaLx15
import Derived.Test.YtijcoddbkefmlaaLx16
namespace Go.Proofs.Ytijcoddbkefmlaa.L
open Go.RowKit Go.Proofs.YtijcoddbkefmlaaW.PrintWords Go.Proofs.YtijcoddbkefmlaaW.PrintLast Go.Proofs.YtijcoddbkefmlaaW.PrintMore
attribute [local go_sem] max2_int min2_int max_two min_two max_three min_three max_four min_four   -- for this text's walks alone
set_option linter.unusedVariables false
set_option linter.unusedSimpArgs false

theorem room8 {n : Nat} (h : n < 17592186044416) : (n + 1) * 8 ≤ 140737488355328 := by omega
/-! ### isthmuslaw11_LexBlanks: function 5 -/
mutual
def isthmuslaw11_LexBlanks.j0 : Nat → ByteArray → List Int → Bool → List (S29) → Bool → Option (Bool)
  | 0, _, _, _, _, _ => none
  | k + 1, x0, x1, x5, x6, x30 => if x30 = true then (some x5) else (if (x6.length : Int) = 0 then (isthmuslaw11_LexBlanks.j1 k x0 x1 x6 true) else (isthmuslaw11_LexBlanks.j1 k x0 x1 x6 (decide ((x6.length : Int) > (wrap64 ((x0.size : Int) + 1))))))
def isthmuslaw11_LexBlanks.j1 : Nat → ByteArray → List Int → List (S29) → Bool → Option (Bool)
  | 0, _, _, _, _ => none
  | k + 1, x0, x1, x6, x42 => if x42 = true then (some false) else (isthmuslaw11_LexBlanks.l0 k x0 x1 x6 (([(⟨#[32]⟩ : ByteArray), (⟨#[9]⟩ : ByteArray), (⟨#[10]⟩ : ByteArray), (⟨#[13]⟩ : ByteArray), (⟨#[32, 32]⟩ : ByteArray), (⟨#[32, 10]⟩ : ByteArray)] : List ByteArray)) (⟨#[]⟩ : ByteArray) ([] : List Int) 0)
def isthmuslaw11_LexBlanks.l0 : Nat → ByteArray → List Int → List (S29) → List ByteArray → ByteArray → List Int → Int → Option (Bool)
  | 0, _, _, _, _, _, _, _ => none
  | k + 1, x0, x1, x6, x9, x10, x11, x12 => if (wrap64 (x12 + 1)) < (x6.length : Int) then (if 0 ≤ x12 then (if x12 < (x6.length : Int) then (if ((rd_T29 x6 x12).f3) < 0 then (isthmuslaw11_LexBlanks.j3 k x0 x1 x6 x9 x10 x11 x12 true) else (if 0 ≤ (wrap64 (x12 + 1)) then (if ((rd_T29 x6 x12).f3) ≥ ((rd_T29 x6 (wrap64 (x12 + 1))).f3) then (isthmuslaw11_LexBlanks.j3 k x0 x1 x6 x9 x10 x11 x12 true) else (isthmuslaw11_LexBlanks.j3 k x0 x1 x6 x9 x10 x11 x12 (decide (((rd_T29 x6 (wrap64 (x12 + 1))).f3) > (x0.size : Int))))) else (none))) else (none)) else (none)) else (if (x10.size : Int) > 2000 then (some true) else ((lex_Scan.f k x10).bind fun bt245 => (if bt245.2.1 = 0 then (if (bt245.1.length : Int) = (x6.length : Int) then (if 0 ≤ (wrap64 ((bt245.1.length : Int) - 1)) then (if (wrap64 ((bt245.1.length : Int) - 1)) < (bt245.1.length : Int) then (isthmuslaw11_LexBlanks.j4 k x6 x11 bt245.1 (((rd_T29 bt245.1 (wrap64 ((bt245.1.length : Int) - 1))).f3) != (x10.size : Int))) else (none)) else (none)) else (isthmuslaw11_LexBlanks.j4 k x6 x11 bt245.1 true)) else (isthmuslaw11_LexBlanks.j4 k x6 x11 bt245.1 true))))
def isthmuslaw11_LexBlanks.j3 : Nat → ByteArray → List Int → List (S29) → List ByteArray → ByteArray → List Int → Int → Bool → Option (Bool)
  | 0, _, _, _, _, _, _, _, _ => none
  | k + 1, x0, x1, x6, x9, x10, x11, x12, x81 => if x81 = true then (some false) else (if x12 > 0 then (if (x1.length : Int) > 0 then (if (x1.length : Int) = 0 then (none) else (if 0 ≤ (Int.tmod x12 (x1.length : Int)) then (if (Int.tmod x12 (x1.length : Int)) < (x1.length : Int) then ((isthmuslaw11_pick.f (rd x1 (Int.tmod x12 (x1.length : Int))) (x9.length : Int)).bind fun t230 => (if 0 ≤ t230 then (if t230 < (x9.length : Int) then (if x10.size + (rdOf ByteArray.empty x9 t230).size ≤ 9223372036854775807 then (if x11.length < 17592186044416 then ((isthmuslaw11_said.f k x0 x6 x12).bind fun t235 => (if (x10 ++ (rdOf ByteArray.empty x9 t230)).size + t235.size ≤ 9223372036854775807 then (isthmuslaw11_LexBlanks.l0 k x0 x1 x6 x9 ((x10 ++ (rdOf ByteArray.empty x9 t230)) ++ t235) (x11 ++ [((x10 ++ (rdOf ByteArray.empty x9 t230)).size : Int)]) (wrap64 (x12 + 1))) else (none))) else (none)) else (none)) else (none)) else (none))) else (none)) else (none))) else (if 0 < (x9.length : Int) then (if x10.size + (rdOf ByteArray.empty x9 0).size ≤ 9223372036854775807 then (if x11.length < 17592186044416 then ((isthmuslaw11_said.f k x0 x6 x12).bind fun t240 => (if (x10 ++ (rdOf ByteArray.empty x9 0)).size + t240.size ≤ 9223372036854775807 then (isthmuslaw11_LexBlanks.l0 k x0 x1 x6 x9 ((x10 ++ (rdOf ByteArray.empty x9 0)) ++ t240) (x11 ++ [((x10 ++ (rdOf ByteArray.empty x9 0)).size : Int)]) (wrap64 (x12 + 1))) else (none))) else (none)) else (none)) else (none))) else (if x11.length < 17592186044416 then ((isthmuslaw11_said.f k x0 x6 x12).bind fun t244 => (if x10.size + t244.size ≤ 9223372036854775807 then (isthmuslaw11_LexBlanks.l0 k x0 x1 x6 x9 (x10 ++ t244) (x11 ++ [(x10.size : Int)]) (wrap64 (x12 + 1))) else (none))) else (none)))
def isthmuslaw11_LexBlanks.j4 : Nat → List (S29) → List Int → List (S29) → Bool → Option (Bool)
  | 0, _, _, _, _ => none
  | k + 1, x6, x11, x14, x143 => if x143 = true then (some false) else (isthmuslaw11_LexBlanks.l1 k x6 x11 x14 0)
def isthmuslaw11_LexBlanks.l1 : Nat → List (S29) → List Int → List (S29) → Int → Option (Bool)
  | 0, _, _, _, _ => none
  | k + 1, x6, x11, x14, x17 => if (wrap64 (x17 + 1)) < (x6.length : Int) then (if 0 ≤ x17 then (if x17 < (x14.length : Int) then (if x17 < (x6.length : Int) then (if ((rd_T29 x14 x17).f0) = ((rd_T29 x6 x17).f0) then (if ((rd_T29 x14 x17).f1) = ((rd_T29 x6 x17).f1) then (if ((rd_T29 x14 x17).f2).toList = ((rd_T29 x6 x17).f2).toList then (if x17 < (x11.length : Int) then (if ((rd_T29 x14 x17).f3) = (rd x11 x17) then (isthmuslaw11_LexBlanks.l1 k x6 x11 x14 (wrap64 (x17 + 1))) else (some false)) else (none)) else (some false)) else (some false)) else (some false)) else (none)) else (none)) else (none)) else (some true)
end
def isthmuslaw11_LexBlanks.f (k : Nat) (a0 : ByteArray) (l1 : List Int) : Option (Bool) := (isthmuslaw11_awake.f k).bind fun t216 => ((lex_Scan.f k a0).bind fun bt217 => (if t216 = true then (isthmuslaw11_LexBlanks.j0 k a0 l1 t216 bt217.1 (bt217.2.1 != 0)) else (isthmuslaw11_LexBlanks.j0 k a0 l1 t216 bt217.1 true)))
theorem isthmuslaw11_LexBlanks.mono_l : ∀ k, (∀ y0 y1 y2 y3 y4, LeO (isthmuslaw11_LexBlanks.j0 k y0 y1 y2 y3 y4) (isthmuslaw11_LexBlanks.j0 (k + 1) y0 y1 y2 y3 y4)) ∧ (∀ y0 y1 y2 y3, LeO (isthmuslaw11_LexBlanks.j1 k y0 y1 y2 y3) (isthmuslaw11_LexBlanks.j1 (k + 1) y0 y1 y2 y3)) ∧ (∀ y0 y1 y2 y3 y4 y5 y6, LeO (isthmuslaw11_LexBlanks.l0 k y0 y1 y2 y3 y4 y5 y6) (isthmuslaw11_LexBlanks.l0 (k + 1) y0 y1 y2 y3 y4 y5 y6)) ∧ (∀ y0 y1 y2 y3 y4 y5 y6 y7, LeO (isthmuslaw11_LexBlanks.j3 k y0 y1 y2 y3 y4 y5 y6 y7) (isthmuslaw11_LexBlanks.j3 (k + 1) y0 y1 y2 y3 y4 y5 y6 y7)) ∧ (∀ y0 y1 y2 y3, LeO (isthmuslaw11_LexBlanks.j4 k y0 y1 y2 y3) (isthmuslaw11_LexBlanks.j4 (k + 1) y0 y1 y2 y3)) ∧ (∀ y0 y1 y2 y3, LeO (isthmuslaw11_LexBlanks.l1 k y0 y1 y2 y3) (isthmuslaw11_LexBlanks.l1 (k + 1) y0 y1 y2 y3))
  | 0 => ⟨fun _ _ _ _ _ r h => by simp [isthmuslaw11_LexBlanks.j0] at h, fun _ _ _ _ r h => by simp [isthmuslaw11_LexBlanks.j1] at h, fun _ _ _ _ _ _ _ r h => by simp [isthmuslaw11_LexBlanks.l0] at h, fun _ _ _ _ _ _ _ _ r h => by simp [isthmuslaw11_LexBlanks.j3] at h, fun _ _ _ _ r h => by simp [isthmuslaw11_LexBlanks.j4] at h, fun _ _ _ _ r h => by simp [isthmuslaw11_LexBlanks.l1] at h⟩
  | k + 1 => by
    obtain ⟨ih0, ih1, ih2, ih3, ih4, ih5⟩ := isthmuslaw11_LexBlanks.mono_l k
    refine ⟨?_, ?_, ?_, ?_, ?_, ?_⟩
    · intro y0 y1 y2 y3 y4
      unfold isthmuslaw11_LexBlanks.j0
      repeat' first
      | (with_reducible exact ih0 _ _ _ _ _)
      | (with_reducible exact ih1 _ _ _ _)
      | (with_reducible exact ih2 _ _ _ _ _ _ _)
      | (with_reducible exact ih3 _ _ _ _ _ _ _ _)
      | (with_reducible exact ih4 _ _ _ _)
      | (with_reducible exact ih5 _ _ _ _)
      | (with_reducible exact isthmuslaw11_awake.mono _)
      | (with_reducible exact isthmuslaw11_said.mono _ _ _ _)
      | (with_reducible exact lex_Scan.mono _ _)
      | (with_reducible exact LeO.refl _)
      | (with_reducible exact LeO.none _)
      | (with_reducible refine LeO.ite ?_ ?_)
      | (with_reducible refine LeO.bind ?_ (fun _ => ?_))
      | exact ih0 _ _ _ _ _
      | exact ih1 _ _ _ _
      | exact ih2 _ _ _ _ _ _ _
      | exact ih3 _ _ _ _ _ _ _ _
      | exact ih4 _ _ _ _
      | exact ih5 _ _ _ _
      | exact isthmuslaw11_awake.mono _
      | exact isthmuslaw11_said.mono _ _ _ _
      | exact lex_Scan.mono _ _
      | exact LeO.none _
      | refine LeO.ite ?_ ?_
      | refine LeO.bind ?_ (fun _ => ?_)
    · intro y0 y1 y2 y3
      unfold isthmuslaw11_LexBlanks.j1
      repeat' first
      | (with_reducible exact ih0 _ _ _ _ _)
      | (with_reducible exact ih1 _ _ _ _)
      | (with_reducible exact ih2 _ _ _ _ _ _ _)
      | (with_reducible exact ih3 _ _ _ _ _ _ _ _)
      | (with_reducible exact ih4 _ _ _ _)
      | (with_reducible exact ih5 _ _ _ _)
      | (with_reducible exact isthmuslaw11_awake.mono _)
      | (with_reducible exact isthmuslaw11_said.mono _ _ _ _)
      | (with_reducible exact lex_Scan.mono _ _)
      | (with_reducible exact LeO.refl _)
      | (with_reducible exact LeO.none _)
      | (with_reducible refine LeO.ite ?_ ?_)
      | (with_reducible refine LeO.bind ?_ (fun _ => ?_))
      | exact ih0 _ _ _ _ _
      | exact ih1 _ _ _ _
      | exact ih2 _ _ _ _ _ _ _
      | exact ih3 _ _ _ _ _ _ _ _
      | exact ih4 _ _ _ _
      | exact ih5 _ _ _ _
      | exact isthmuslaw11_awake.mono _
      | exact isthmuslaw11_said.mono _ _ _ _
      | exact lex_Scan.mono _ _
      | exact LeO.none _
      | refine LeO.ite ?_ ?_
      | refine LeO.bind ?_ (fun _ => ?_)
    · intro y0 y1 y2 y3 y4 y5 y6
      unfold isthmuslaw11_LexBlanks.l0
      repeat' first
      | (with_reducible exact ih0 _ _ _ _ _)
      | (with_reducible exact ih1 _ _ _ _)
      | (with_reducible exact ih2 _ _ _ _ _ _ _)
      | (with_reducible exact ih3 _ _ _ _ _ _ _ _)
      | (with_reducible exact ih4 _ _ _ _)
      | (with_reducible exact ih5 _ _ _ _)
      | (with_reducible exact isthmuslaw11_awake.mono _)
      | (with_reducible exact isthmuslaw11_said.mono _ _ _ _)
      | (with_reducible exact lex_Scan.mono _ _)
      | (with_reducible exact LeO.refl _)
      | (with_reducible exact LeO.none _)
      | (with_reducible refine LeO.ite ?_ ?_)
      | (with_reducible refine LeO.bind ?_ (fun _ => ?_))
      | exact ih0 _ _ _ _ _
      | exact ih1 _ _ _ _
      | exact ih2 _ _ _ _ _ _ _
      | exact ih3 _ _ _ _ _ _ _ _
      | exact ih4 _ _ _ _
      | exact ih5 _ _ _ _
      | exact isthmuslaw11_awake.mono _
      | exact isthmuslaw11_said.mono _ _ _ _
      | exact lex_Scan.mono _ _
      | exact LeO.none _
      | refine LeO.ite ?_ ?_
      | refine LeO.bind ?_ (fun _ => ?_)
    · intro y0 y1 y2 y3 y4 y5 y6 y7
      unfold isthmuslaw11_LexBlanks.j3
      repeat' first
      | (with_reducible exact ih0 _ _ _ _ _)
      | (with_reducible exact ih1 _ _ _ _)
      | (with_reducible exact ih2 _ _ _ _ _ _ _)
      | (with_reducible exact ih3 _ _ _ _ _ _ _ _)
      | (with_reducible exact ih4 _ _ _ _)
      | (with_reducible exact ih5 _ _ _ _)
      | (with_reducible exact isthmuslaw11_awake.mono _)
      | (with_reducible exact isthmuslaw11_said.mono _ _ _ _)
      | (with_reducible exact lex_Scan.mono _ _)
      | (with_reducible exact LeO.refl _)
      | (with_reducible exact LeO.none _)
      | (with_reducible refine LeO.ite ?_ ?_)
      | (with_reducible refine LeO.bind ?_ (fun _ => ?_))
      | exact ih0 _ _ _ _ _
      | exact ih1 _ _ _ _
      | exact ih2 _ _ _ _ _ _ _
      | exact ih3 _ _ _ _ _ _ _ _
      | exact ih4 _ _ _ _
      | exact ih5 _ _ _ _
      | exact isthmuslaw11_awake.mono _
      | exact isthmuslaw11_said.mono _ _ _ _
      | exact lex_Scan.mono _ _
      | exact LeO.none _
      | refine LeO.ite ?_ ?_
      | refine LeO.bind ?_ (fun _ => ?_)
    · intro y0 y1 y2 y3
      unfold isthmuslaw11_LexBlanks.j4
      repeat' first
      | (with_reducible exact ih0 _ _ _ _ _)
      | (with_reducible exact ih1 _ _ _ _)
      | (with_reducible exact ih2 _ _ _ _ _ _ _)
      | (with_reducible exact ih3 _ _ _ _ _ _ _ _)
      | (with_reducible exact ih4 _ _ _ _)
      | (with_reducible exact ih5 _ _ _ _)
      | (with_reducible exact isthmuslaw11_awake.mono _)
      | (with_reducible exact isthmuslaw11_said.mono _ _ _ _)
      | (with_reducible exact lex_Scan.mono _ _)
      | (with_reducible exact LeO.refl _)
      | (with_reducible exact LeO.none _)
      | (with_reducible refine LeO.ite ?_ ?_)
      | (with_reducible refine LeO.bind ?_ (fun _ => ?_))
      | exact ih0 _ _ _ _ _
      | exact ih1 _ _ _ _
      | exact ih2 _ _ _ _ _ _ _
      | exact ih3 _ _ _ _ _ _ _ _
      | exact ih4 _ _ _ _
      | exact ih5 _ _ _ _
      | exact isthmuslaw11_awake.mono _
      | exact isthmuslaw11_said.mono _ _ _ _
      | exact lex_Scan.mono _ _
      | exact LeO.none _
      | refine LeO.ite ?_ ?_
      | refine LeO.bind ?_ (fun _ => ?_)
    · intro y0 y1 y2 y3
      unfold isthmuslaw11_LexBlanks.l1
      repeat' first
      | (with_reducible exact ih0 _ _ _ _ _)
      | (with_reducible exact ih1 _ _ _ _)
      | (with_reducible exact ih2 _ _ _ _ _ _ _)
      | (with_reducible exact ih3 _ _ _ _ _ _ _ _)
      | (with_reducible exact ih4 _ _ _ _)
      | (with_reducible exact ih5 _ _ _ _)
      | (with_reducible exact isthmuslaw11_awake.mono _)
      | (with_reducible exact isthmuslaw11_said.mono _ _ _ _)
      | (with_reducible exact lex_Scan.mono _ _)
      | (with_reducible exact LeO.refl _)
      | (with_reducible exact LeO.none _)
      | (with_reducible refine LeO.ite ?_ ?_)
      | (with_reducible refine LeO.bind ?_ (fun _ => ?_))
      | exact ih0 _ _ _ _ _
      | exact ih1 _ _ _ _
      | exact ih2 _ _ _ _ _ _ _
      | exact ih3 _ _ _ _ _ _ _ _
      | exact ih4 _ _ _ _
      | exact ih5 _ _ _ _
      | exact isthmuslaw11_awake.mono _
      | exact isthmuslaw11_said.mono _ _ _ _
      | exact lex_Scan.mono _ _
      | exact LeO.none _
      | refine LeO.ite ?_ ?_
      | refine LeO.bind ?_ (fun _ => ?_)
theorem isthmuslaw11_LexBlanks.mono : ∀ a0 a1 k, LeO (isthmuslaw11_LexBlanks.f k a0 a1) (isthmuslaw11_LexBlanks.f (k + 1) a0 a1) := by
  intro a0 a1 k
  obtain ⟨ih0, ih1, ih2, ih3, ih4, ih5⟩ := isthmuslaw11_LexBlanks.mono_l k
  unfold isthmuslaw11_LexBlanks.f
  repeat' first
      | (with_reducible exact ih0 _ _ _ _ _)
      | (with_reducible exact ih1 _ _ _ _)
      | (with_reducible exact ih2 _ _ _ _ _ _ _)
      | (with_reducible exact ih3 _ _ _ _ _ _ _ _)
      | (with_reducible exact ih4 _ _ _ _)
      | (with_reducible exact ih5 _ _ _ _)
      | (with_reducible exact isthmuslaw11_awake.mono _)
      | (with_reducible exact isthmuslaw11_said.mono _ _ _ _)
      | (with_reducible exact lex_Scan.mono _ _)
      | (with_reducible exact LeO.refl _)
      | (with_reducible exact LeO.none _)
      | (with_reducible refine LeO.ite ?_ ?_)
      | (with_reducible refine LeO.bind ?_ (fun _ => ?_))
      | exact ih0 _ _ _ _ _
      | exact ih1 _ _ _ _
      | exact ih2 _ _ _ _ _ _ _
      | exact ih3 _ _ _ _ _ _ _ _
      | exact ih4 _ _ _ _
      | exact ih5 _ _ _ _
      | exact isthmuslaw11_awake.mono _
      | exact isthmuslaw11_said.mono _ _ _ _
      | exact lex_Scan.mono _ _
      | exact LeO.none _
      | refine LeO.ite ?_ ?_
      | refine LeO.bind ?_ (fun _ => ?_)
set_option maxHeartbeats 8000000 in
set_option maxRecDepth 100000 in
theorem isthmuslaw11_LexBlanks.calls (k : Nat) (a0 : ByteArray) (A1 : Option Addr) (c1 : Nat) (l1 : List Int) (r : Bool) (w : World) (hr1 : Kd.C (Kd.int .i64) w A1 l1.length l1) (hc1 : l1.length ≤ c1) (h : isthmuslaw11_LexBlanks.f k a0 l1 = some r) :
    Calls Try.prog 5 #[.string a0, .slice A1 l1.length c1] w fun e w' => e = .returned (.bool r) ∧ Below w.heap.size w w' := by
  have HR1 := Aside0.mk hr1
  have HC1 := Aside0.mk hc1
  clear hr1 hc1
  have HB := Aside0.mk (Below.refl w.heap.size w)
  have H : ((isthmuslaw11_awake.f k).bind fun t216 => ((lex_Scan.f k a0).bind fun bt217 => (if t216 = true then (isthmuslaw11_LexBlanks.j0 k a0 l1 t216 bt217.1 (bt217.2.1 != 0)) else (isthmuslaw11_LexBlanks.j0 k a0 l1 t216 bt217.1 true)))) = some r := h
  clear h
  replace H := Option.bind_eq_some_iff.mp H
  obtain ⟨t216, A30, H⟩ := H
  replace H : ((lex_Scan.f k a0).bind fun bt217 => (if t216 = true then (isthmuslaw11_LexBlanks.j0 k a0 l1 t216 bt217.1 (bt217.2.1 != 0)) else (isthmuslaw11_LexBlanks.j0 k a0 l1 t216 bt217.1 true))) = some r := H
  have A3 := Aside0.mk A30
  clear A30
  replace H := Option.bind_eq_some_iff.mp H
  obtain ⟨⟨t217, t220, t221⟩, A40, H⟩ := H
  replace H : (if t216 = true then (isthmuslaw11_LexBlanks.j0 k a0 l1 t216 t217 (t220 != 0)) else (isthmuslaw11_LexBlanks.j0 k a0 l1 t216 t217 true)) = some r := H
  have A4 := Aside0.mk A40
  clear A40
  have HC5 := Aside0.mk H
  clear H
  go_enter Try.func5, Try.ntmps5
  go_upto_region 3 with (first | (go_at_call 9; (with_reducible refine (isthmuslaw11_awake.calls k  t216 _ A3.out).mono ?_); rintro e w6 ⟨rfl, hb⟩; have n0_ := Aside0.mk (below_step (by repeat (first | (with_reducible first | exact HB.out | apply below_alloc | apply pw_below_drewN | apply below_drew1) | exact HB.out)) hb); clear HB; have HB := n0_; clear n0_; (try clear hb); (try clear hb2); (try clear hk); (try clear hi)) | (go_at_call 11; (with_reducible refine (lex_Scan.calls k a0 t217 t220 t221 _ A4.out).mono ?_); rintro e w7 ⟨v218, rfl, ho0, hb⟩; have n0_ := Aside0.mk (Kd.V_lower (Kd.V_mono (ok' := fun k_ => True) ho0 (fun k_ hk_ => trivial)) (below_size (by repeat (first | (with_reducible first | exact HB.out | apply below_alloc | apply pw_below_drewN | apply below_drew1) | exact HB.out)))); have n1_ := Aside0.mk (below_step (by repeat (first | (with_reducible first | exact HB.out | apply below_alloc | apply pw_below_drewN | apply below_drew1) | exact HB.out)) hb); clear HB; have HO219 := n0_; have HB := n1_; clear n0_ n1_; (try clear hb); (try clear hb2); (try clear hk); (try clear hi); (try clear ho0)))
  repeat (go_quiet (first | (go_at_call 9; (with_reducible refine (isthmuslaw11_awake.calls k  t216 _ A3.out).mono ?_); rintro e w6 ⟨rfl, hb⟩; have n0_ := Aside0.mk (below_step (by repeat (first | (with_reducible first | exact HB.out | apply below_alloc | apply pw_below_drewN | apply below_drew1) | exact HB.out)) hb); clear HB; have HB := n0_; clear n0_; (try clear hb); (try clear hb2); (try clear hk); (try clear hi)) | (go_at_call 11; (with_reducible refine (lex_Scan.calls k a0 t217 t220 t221 _ A4.out).mono ?_); rintro e w7 ⟨v218, rfl, ho0, hb⟩; have n0_ := Aside0.mk (Kd.V_lower (Kd.V_mono (ok' := fun k_ => True) ho0 (fun k_ hk_ => trivial)) (below_size (by repeat (first | (with_reducible first | exact HB.out | apply below_alloc | apply pw_below_drewN | apply below_drew1) | exact HB.out)))); have n1_ := Aside0.mk (below_step (by repeat (first | (with_reducible first | exact HB.out | apply below_alloc | apply pw_below_drewN | apply below_drew1) | exact HB.out)) hb); clear HB; have HO219 := n0_; have HB := n1_; clear n0_ n1_; (try clear hb); (try clear hb2); (try clear hk); (try clear hi); (try clear ho0))); go_upto_region 3 with (first | (go_at_call 9; (with_reducible refine (isthmuslaw11_awake.calls k  t216 _ A3.out).mono ?_); rintro e w6 ⟨rfl, hb⟩; have n0_ := Aside0.mk (below_step (by repeat (first | (with_reducible first | exact HB.out | apply below_alloc | apply pw_below_drewN | apply below_drew1) | exact HB.out)) hb); clear HB; have HB := n0_; clear n0_; (try clear hb); (try clear hb2); (try clear hk); (try clear hi)) | (go_at_call 11; (with_reducible refine (lex_Scan.calls k a0 t217 t220 t221 _ A4.out).mono ?_); rintro e w7 ⟨v218, rfl, ho0, hb⟩; have n0_ := Aside0.mk (Kd.V_lower (Kd.V_mono (ok' := fun k_ => True) ho0 (fun k_ hk_ => trivial)) (below_size (by repeat (first | (with_reducible first | exact HB.out | apply below_alloc | apply pw_below_drewN | apply below_drew1) | exact HB.out)))); have n1_ := Aside0.mk (below_step (by repeat (first | (with_reducible first | exact HB.out | apply below_alloc | apply pw_below_drewN | apply below_drew1) | exact HB.out)) hb); clear HB; have HO219 := n0_; have HB := n1_; clear n0_ n1_; (try clear hb); (try clear hb2); (try clear hk); (try clear hi); (try clear ho0))))
  (try simp only [Act.put, List.setIfInBounds_toArray, List.set_cons_zero, List.set_cons_succ])
  go_cut [30] (fun v30 wc => ∃ (kq : Nat) (x30_4 : Bool), v30 = .bool x30_4 ∧ Aside0 (isthmuslaw11_LexBlanks.j0 kq a0 l1 t216 t217 x30_4 = some r) ∧ Aside0 (kq ≤ k) ∧ Aside0 (Kd.V k29 29 wc w.heap.size (fun _ => True) v218 t217) ∧ Aside0 (Below w.heap.size w wc))
  case first =>
    have H := HC5.out
    clear HC5
    by_cases c8 : t216 = true
    · subst c8
      have H1 : (isthmuslaw11_LexBlanks.j0 k a0 l1 true t217 (t220 != 0)) = some r := by rw [if_pos rfl] at H; exact H
      clear H
      have H := H1
      clear H1
      have H' := Aside0.mk H
      clear H
      go_wp2
      repeat (go_quiet (fail); try go_wp2)
      go_meet
      case rel => exact ⟨_, ((t220 != 0)), (by first | rfl | (simp; done) | (simp [*]; done)), H', ⟨by first | omega | exact Nat.le_refl _⟩, ⟨by (with_reducible repeat (first | apply Kd.V_alloc | apply Kd.V_drewN | apply Kd.V_drew)); exact HO219.out⟩, ⟨by repeat (first | (with_reducible first | exact HB.out | apply below_alloc | apply pw_below_drewN | apply below_drew1) | exact HB.out)⟩⟩
    · replace c8 := Bool.eq_false_iff.mpr c8
      subst c8
      have H1 : (isthmuslaw11_LexBlanks.j0 k a0 l1 false t217 true) = some r := by rw [if_neg (show ¬ (false = true) by decide)] at H; exact H
      clear H
      have H := H1
      clear H1
      have H' := Aside0.mk H
      clear H
      go_wp2
      repeat (go_quiet (fail); try go_wp2)
      go_meet
      case rel => exact ⟨_, (true), (by first | rfl | (simp; done) | (simp [*]; done)), H', ⟨by first | omega | exact Nat.le_refl _⟩, ⟨by (with_reducible repeat (first | apply Kd.V_alloc | apply Kd.V_drewN | apply Kd.V_drew)); exact HO219.out⟩, ⟨by repeat (first | (with_reducible first | exact HB.out | apply below_alloc | apply pw_below_drewN | apply below_drew1) | exact HB.out)⟩⟩
  case rest =>
    clear HC5
    try clear c1
    try clear p2
    try clear c5
    try clear c8
    obtain ⟨kq, x30_4, rfl, HA, HJ4, HO_6, HB⟩ := hcut
    cases kq with
    | zero => exact absurd HA.out (by simp [isthmuslaw11_LexBlanks.j0])
    | succ kj4 =>
      have H := HA.out
      clear HA
      simp only [isthmuslaw11_LexBlanks.j0] at H
      by_cases c9 : x30_4 = true
      · subst c9
        have H1 : (some t216) = some r := by rw [if_pos rfl] at H; exact H
        clear H
        have H := H1
        clear H1
        obtain rfl := Option.some.inj H
        go_wp2
        repeat (go_quiet (fail); try go_wp2)
        go_ret
        exact ⟨by first | rfl | (simp [errW_none, errW_some] <;> rfl) | (simp [*, errW_none, errW_some] <;> rfl), by repeat (first | (with_reducible first | exact HB.out | apply below_alloc | apply pw_below_drewN | apply below_drew1) | exact HB.out)⟩
      · replace c9 := Bool.eq_false_iff.mpr c9
        subst c9
        have H1 : (if (t217.length : Int) = 0 then (isthmuslaw11_LexBlanks.j1 kj4 a0 l1 t217 true) else (isthmuslaw11_LexBlanks.j1 kj4 a0 l1 t217 (decide ((t217.length : Int) > (wrap64 ((a0.size : Int) + 1)))))) = some r := by rw [if_neg (show ¬ (false = true) by decide)] at H; exact H
        clear H
        have H := H1
        clear H1
        have HC10 := Aside0.mk H
        clear H
        go_upto_region 5 with (fail)
        repeat (go_quiet (fail); go_upto_region 5 with (fail))
        go_cut [42] (fun v42 wc => ∃ (kq : Nat) (x42_9 : Bool), v42 = .bool x42_9 ∧ Aside0 (isthmuslaw11_LexBlanks.j1 kq a0 l1 t217 x42_9 = some r) ∧ Aside0 (kq ≤ kj4) ∧ Aside0 (Kd.V k29 29 wc w.heap.size (fun _ => True) v218 t217) ∧ Aside0 (Below w.heap.size w wc))
        case first =>
          have H := HC10.out
          clear HC10
          by_cases c11 : (t217.length : Int) = 0
          · rw [if_pos c11] at H
            have c11b0 : ((t217.length : Int) == 0) = true := beq_iff_eq.mpr c11
            have c11b1 : ((t217.length : Int) != 0) = false := bne_eq_false_iff_eq.mpr c11
            clear c11
            (first | rw [c11b0] | (simp only [i64_w, i32_w]; rw [c11b0]) | skip)
            have H' := Aside0.mk H
            clear H
            obtain ⟨Ao12, co12, eo12⟩ := Kd.V_slice HO_6.out
            subst eo12
            go_wp2
            repeat (go_quiet (fail); try go_wp2)
            go_meet
            case rel => exact ⟨_, (true), (by first | rfl | (simp; done) | (simp [*]; done)), H', ⟨by have := HJ4.out; first | omega | exact Nat.le_refl _⟩, ⟨by (with_reducible repeat (first | apply Kd.V_alloc | apply Kd.V_drewN | apply Kd.V_drew)); exact HO_6.out⟩, ⟨by repeat (first | (with_reducible first | exact HB.out | apply below_alloc | apply pw_below_drewN | apply below_drew1) | exact HB.out)⟩⟩
          · rw [if_neg c11] at H
            have c11b0 : ((t217.length : Int) == 0) = false := beq_eq_false_iff_ne.mpr c11
            have c11b1 : ((t217.length : Int) != 0) = true := bne_iff_ne.mpr c11
            have c11b2 : ¬ (t217 = []) := fun h_ => c11 (by rw [h_]; rfl)
            (first | rw [c11b0] | (simp only [i64_w, i32_w]; rw [c11b0]) | skip)
            have H' := Aside0.mk H
            clear H
            obtain ⟨Ao13, co13, eo13⟩ := Kd.V_slice HO_6.out
            subst eo13
            go_wp2
            repeat (go_quiet (fail); try go_wp2)
            go_meet
            case rel => exact ⟨_, (decide ((t217.length : Int) > (wrap64 ((a0.size : Int) + 1)))), (by first | rfl | (simp; done) | (simp [*]; done)), H', ⟨by have := HJ4.out; first | omega | exact Nat.le_refl _⟩, ⟨by (with_reducible repeat (first | apply Kd.V_alloc | apply Kd.V_drewN | apply Kd.V_drew)); exact HO_6.out⟩, ⟨by repeat (first | (with_reducible first | exact HB.out | apply below_alloc | apply pw_below_drewN | apply below_drew1) | exact HB.out)⟩⟩
        case rest =>
          clear HC10
          try clear c1
          try clear p2
          try clear c5
          try clear p6
          try clear c8
          try clear c9
          try clear c11
          try clear c11b0
          try clear c11b1
          try clear c11b2
          try clear p2
          obtain ⟨kq, x42_9, rfl, HA, HJ9, HO_6, HB⟩ := hcut
          cases kq with
          | zero => exact absurd HA.out (by simp [isthmuslaw11_LexBlanks.j1])
          | succ kj9 =>
            have H := HA.out
            clear HA
            simp only [isthmuslaw11_LexBlanks.j1] at H
            by_cases c14 : x42_9 = true
            · subst c14
              have H1 : (some false) = some r := by rw [if_pos rfl] at H; exact H
              clear H
              have H := H1
              clear H1
              obtain rfl := Option.some.inj H
              go_wp2
              repeat (go_quiet (fail); try go_wp2)
              go_ret
              exact ⟨by first | rfl | (simp [errW_none, errW_some] <;> rfl) | (simp [*, errW_none, errW_some] <;> rfl), by repeat (first | (with_reducible first | exact HB.out | apply below_alloc | apply pw_below_drewN | apply below_drew1) | exact HB.out)⟩
            · replace c14 := Bool.eq_false_iff.mpr c14
              subst c14
              have H1 : (isthmuslaw11_LexBlanks.l0 kj9 a0 l1 t217 (([(⟨#[32]⟩ : ByteArray), (⟨#[9]⟩ : ByteArray), (⟨#[10]⟩ : ByteArray), (⟨#[13]⟩ : ByteArray), (⟨#[32, 32]⟩ : ByteArray), (⟨#[32, 10]⟩ : ByteArray)] : List ByteArray)) (⟨#[]⟩ : ByteArray) ([] : List Int) 0) = some r := by rw [if_neg (show ¬ (false = true) by decide)] at H; exact H
              clear H
              have H := H1
              clear H1
              obtain ⟨y222, hy222⟩ : ∃ y_ : List ByteArray, y_ = (([(⟨#[32]⟩ : ByteArray), (⟨#[9]⟩ : ByteArray), (⟨#[10]⟩ : ByteArray), (⟨#[13]⟩ : ByteArray), (⟨#[32, 32]⟩ : ByteArray), (⟨#[32, 10]⟩ : ByteArray)] : List ByteArray)) := ⟨_, rfl⟩
              replace H : (isthmuslaw11_LexBlanks.l0 kj9 a0 l1 t217 y222 (⟨#[]⟩ : ByteArray) ([] : List Int) 0) = some r := by first | (rw [hy222]; with_reducible exact H) | (have H2_ := (Option.bind_some _ _).symm.trans H; rw [hy222]; with_reducible exact H2_) | (have H2_ := (Option.bind_some _ _).symm.trans H; with_reducible exact H2_) | with_reducible exact H | (rw [hy222]; exact H) | exact H
              have Ny222 := Aside0.mk hy222
              clear hy222
              have H' := Aside0.mk H
              clear H
              go_wp2_with (first | ((with_reducible refine gate_dst (N := 43) rfl ?_); (try (refine gate_guard (by rfl) ?_; dsimp only)); refine Kd.R_lit Kd.string _ 9 ?hg (N := 43) ?hd (xs := ([(⟨#[32]⟩ : ByteArray), (⟨#[9]⟩ : ByteArray), (⟨#[10]⟩ : ByteArray), (⟨#[13]⟩ : ByteArray), (⟨#[32, 32]⟩ : ByteArray), (⟨#[32, 10]⟩ : ByteArray)] : List ByteArray)) (inner := [.string (⟨#[32]⟩ : ByteArray), .string (⟨#[9]⟩ : ByteArray), .string (⟨#[10]⟩ : ByteArray), .string (⟨#[13]⟩ : ByteArray), .string (⟨#[32, 32]⟩ : ByteArray), .string (⟨#[32, 10]⟩ : ByteArray)]) (ok := fun _ => True) (okp := fun _ => True) ?hr ?hp (fun _ hk => hk) trivial (Below.refl _ _) (Nat.le_refl _) (by simp) ?_; (case hd => rfl); (case hg => rfl); (case hr => first | (go_simp; done) | (go_simp; rfl)); (case hp => exact (Reps.one (show Kd.M Kd.string _ _ _ (⟨#[32]⟩ : ByteArray) [.string (⟨#[32]⟩ : ByteArray)] from rfl) (Reps.one (show Kd.M Kd.string _ _ _ (⟨#[9]⟩ : ByteArray) [.string (⟨#[9]⟩ : ByteArray)] from rfl) (Reps.one (show Kd.M Kd.string _ _ _ (⟨#[10]⟩ : ByteArray) [.string (⟨#[10]⟩ : ByteArray)] from rfl) (Reps.one (show Kd.M Kd.string _ _ _ (⟨#[13]⟩ : ByteArray) [.string (⟨#[13]⟩ : ByteArray)] from rfl) (Reps.one (show Kd.M Kd.string _ _ _ (⟨#[32, 32]⟩ : ByteArray) [.string (⟨#[32, 32]⟩ : ByteArray)] from rfl) (Reps.one (show Kd.M Kd.string _ _ _ (⟨#[32, 10]⟩ : ByteArray) [.string (⟨#[32, 10]⟩ : ByteArray)] from rfl) (Reps.none _ _)))))))); intro v223 w15 ho16 hb hg_ hnew_; clear hg_ hnew_; (first | rw [← Ny222.out] at ho16 | (simp only [Int.reduceToNat] at ho16; rw [← Ny222.out] at ho16)); have n0_ := Aside0.mk (Kd.V_elder' (by (with_reducible repeat (first | apply Kd.V_alloc | apply Kd.V_drewN | apply Kd.V_drew)); exact HO_6.out) (Kd.R_base ho16) hb); have n1_ := Aside0.mk (Kd.R_lower ho16 (below_size (by repeat (first | (with_reducible first | exact HB.out | apply below_alloc | apply pw_below_drewN | apply below_drew1) | exact HB.out)))); have n2_ := Aside0.mk (below_step (by repeat (first | (with_reducible first | exact HB.out | apply below_alloc | apply pw_below_drewN | apply below_drew1) | exact HB.out)) hb); clear HO_6; clear HB; have HO_6 := n0_; have HO224 := n1_; have HB := n2_; clear n0_ n1_ n2_; clear hb ho16))
              repeat (go_quiet (first | ((with_reducible refine gate_dst (N := 43) rfl ?_); (try (refine gate_guard (by rfl) ?_; dsimp only)); refine Kd.R_lit Kd.string _ 9 ?hg (N := 43) ?hd (xs := ([(⟨#[32]⟩ : ByteArray), (⟨#[9]⟩ : ByteArray), (⟨#[10]⟩ : ByteArray), (⟨#[13]⟩ : ByteArray), (⟨#[32, 32]⟩ : ByteArray), (⟨#[32, 10]⟩ : ByteArray)] : List ByteArray)) (inner := [.string (⟨#[32]⟩ : ByteArray), .string (⟨#[9]⟩ : ByteArray), .string (⟨#[10]⟩ : ByteArray), .string (⟨#[13]⟩ : ByteArray), .string (⟨#[32, 32]⟩ : ByteArray), .string (⟨#[32, 10]⟩ : ByteArray)]) (ok := fun _ => True) (okp := fun _ => True) ?hr ?hp (fun _ hk => hk) trivial (Below.refl _ _) (Nat.le_refl _) (by simp) ?_; (case hd => rfl); (case hg => rfl); (case hr => first | (go_simp; done) | (go_simp; rfl)); (case hp => exact (Reps.one (show Kd.M Kd.string _ _ _ (⟨#[32]⟩ : ByteArray) [.string (⟨#[32]⟩ : ByteArray)] from rfl) (Reps.one (show Kd.M Kd.string _ _ _ (⟨#[9]⟩ : ByteArray) [.string (⟨#[9]⟩ : ByteArray)] from rfl) (Reps.one (show Kd.M Kd.string _ _ _ (⟨#[10]⟩ : ByteArray) [.string (⟨#[10]⟩ : ByteArray)] from rfl) (Reps.one (show Kd.M Kd.string _ _ _ (⟨#[13]⟩ : ByteArray) [.string (⟨#[13]⟩ : ByteArray)] from rfl) (Reps.one (show Kd.M Kd.string _ _ _ (⟨#[32, 32]⟩ : ByteArray) [.string (⟨#[32, 32]⟩ : ByteArray)] from rfl) (Reps.one (show Kd.M Kd.string _ _ _ (⟨#[32, 10]⟩ : ByteArray) [.string (⟨#[32, 10]⟩ : ByteArray)] from rfl) (Reps.none _ _)))))))); intro v223 w15 ho16 hb hg_ hnew_; clear hg_ hnew_; (first | rw [← Ny222.out] at ho16 | (simp only [Int.reduceToNat] at ho16; rw [← Ny222.out] at ho16)); have n0_ := Aside0.mk (Kd.V_elder' (by (with_reducible repeat (first | apply Kd.V_alloc | apply Kd.V_drewN | apply Kd.V_drew)); exact HO_6.out) (Kd.R_base ho16) hb); have n1_ := Aside0.mk (Kd.R_lower ho16 (below_size (by repeat (first | (with_reducible first | exact HB.out | apply below_alloc | apply pw_below_drewN | apply below_drew1) | exact HB.out)))); have n2_ := Aside0.mk (below_step (by repeat (first | (with_reducible first | exact HB.out | apply below_alloc | apply pw_below_drewN | apply below_drew1) | exact HB.out)) hb); clear HO_6; clear HB; have HO_6 := n0_; have HO224 := n1_; have HB := n2_; clear n0_ n1_ n2_; clear hb ho16)); try go_wp2_with (first | ((with_reducible refine gate_dst (N := 43) rfl ?_); (try (refine gate_guard (by rfl) ?_; dsimp only)); refine Kd.R_lit Kd.string _ 9 ?hg (N := 43) ?hd (xs := ([(⟨#[32]⟩ : ByteArray), (⟨#[9]⟩ : ByteArray), (⟨#[10]⟩ : ByteArray), (⟨#[13]⟩ : ByteArray), (⟨#[32, 32]⟩ : ByteArray), (⟨#[32, 10]⟩ : ByteArray)] : List ByteArray)) (inner := [.string (⟨#[32]⟩ : ByteArray), .string (⟨#[9]⟩ : ByteArray), .string (⟨#[10]⟩ : ByteArray), .string (⟨#[13]⟩ : ByteArray), .string (⟨#[32, 32]⟩ : ByteArray), .string (⟨#[32, 10]⟩ : ByteArray)]) (ok := fun _ => True) (okp := fun _ => True) ?hr ?hp (fun _ hk => hk) trivial (Below.refl _ _) (Nat.le_refl _) (by simp) ?_; (case hd => rfl); (case hg => rfl); (case hr => first | (go_simp; done) | (go_simp; rfl)); (case hp => exact (Reps.one (show Kd.M Kd.string _ _ _ (⟨#[32]⟩ : ByteArray) [.string (⟨#[32]⟩ : ByteArray)] from rfl) (Reps.one (show Kd.M Kd.string _ _ _ (⟨#[9]⟩ : ByteArray) [.string (⟨#[9]⟩ : ByteArray)] from rfl) (Reps.one (show Kd.M Kd.string _ _ _ (⟨#[10]⟩ : ByteArray) [.string (⟨#[10]⟩ : ByteArray)] from rfl) (Reps.one (show Kd.M Kd.string _ _ _ (⟨#[13]⟩ : ByteArray) [.string (⟨#[13]⟩ : ByteArray)] from rfl) (Reps.one (show Kd.M Kd.string _ _ _ (⟨#[32, 32]⟩ : ByteArray) [.string (⟨#[32, 32]⟩ : ByteArray)] from rfl) (Reps.one (show Kd.M Kd.string _ _ _ (⟨#[32, 10]⟩ : ByteArray) [.string (⟨#[32, 10]⟩ : ByteArray)] from rfl) (Reps.none _ _)))))))); intro v223 w15 ho16 hb hg_ hnew_; clear hg_ hnew_; (first | rw [← Ny222.out] at ho16 | (simp only [Int.reduceToNat] at ho16; rw [← Ny222.out] at ho16)); have n0_ := Aside0.mk (Kd.V_elder' (by (with_reducible repeat (first | apply Kd.V_alloc | apply Kd.V_drewN | apply Kd.V_drew)); exact HO_6.out) (Kd.R_base ho16) hb); have n1_ := Aside0.mk (Kd.R_lower ho16 (below_size (by repeat (first | (with_reducible first | exact HB.out | apply below_alloc | apply pw_below_drewN | apply below_drew1) | exact HB.out)))); have n2_ := Aside0.mk (below_step (by repeat (first | (with_reducible first | exact HB.out | apply below_alloc | apply pw_below_drewN | apply below_drew1) | exact HB.out)) hb); clear HO_6; clear HB; have HO_6 := n0_; have HO224 := n1_; have HB := n2_; clear n0_ n1_ n2_; clear hb ho16)))
              go_loopg [10, 11, 12] kj9 (fun kq v10 v11 v12 w' => ∃ (x10_3 : ByteArray) (x11_3 : List Int) (x12_3 : Int), v10 = .string x10_3 ∧ v12 = .int .i64 x12_3 ∧ Aside0 (isthmuslaw11_LexBlanks.l0 kq a0 l1 t217 y222 x10_3 x11_3 x12_3 = some r) ∧ Aside0 (kq ≤ kj9) ∧ Aside0 (Kd.V k29 29 w' w.heap.size (fun k_ => some k_ ≠ (v223 : Value).ownBlock ∧ some k_ ≠ (v11 : Value).ownBlock) v218 t217) ∧ Aside0 (Kd.R Kd.string 9 w' w.heap.size (fun _ => True) v223 y222) ∧ Aside0 (Kd.R (Kd.int .i64) 3 w' w.heap.size (fun _ => True) v11 x11_3) ∧ Aside0 (Below w.heap.size w w'))
              case atStart => exact ⟨((⟨#[]⟩ : ByteArray)), (([] : List Int)), (0), (by first | rfl | (simp; done) | (simp [*]; done)), (by first | rfl | (simp; done) | (simp [*]; done)), H', ⟨Nat.le_refl _⟩, ⟨by (with_reducible repeat (first | apply Kd.V_alloc | apply Kd.V_drewN | apply Kd.V_drew)); exact Kd.V_mono HO_6.out (fun _ hk => ⟨hk.2, (by simp [Value.ownBlock])⟩)⟩, ⟨by (with_reducible repeat (first | apply Kd.R_alloc | apply Kd.R_drewN | apply Kd.R_drew)); exact HO224.out⟩, ⟨by first | exact Kd.R_nil _ _ _ _ _ | exact Kd.N_nil _ _ _ _ _ | exact Kd.V_nil _ _ _ _ _ | exact Kd.Q_nil _ _ _ _ _ | exact Kd.S_nil _ _ _ _ _⟩, ⟨by repeat (first | (with_reducible first | exact HB.out | apply below_alloc | apply pw_below_drewN | apply below_drew1) | exact HB.out)⟩⟩
              case round =>
                clear H'
                try clear c1
                try clear p2
                try clear c5
                try clear p6
                try clear c8
                try clear c9
                try clear c11
                try clear c11b0
                try clear c11b1
                try clear c11b2
                try clear c14
                try clear p2
                try clear p6
                obtain ⟨x10_3, x11_3, x12_3, rfl, rfl, HA, HK3, HO_6, HO_9, HO_11, HB⟩ := hrel
                cases gk with
                | zero => exact absurd HA.out (by simp [isthmuslaw11_LexBlanks.l0])
                | succ k3 =>
                  have H := HA.out
                  clear HA
                  simp only [isthmuslaw11_LexBlanks.l0] at H
                  by_cases c17 : (wrap64 (x12_3 + 1)) < (t217.length : Int)
                  · rw [if_pos c17] at H
                    have c17b0 : decide ((wrap64 (x12_3 + 1)) < (t217.length : Int)) = true := decide_eq_true c17
                    clear c17
                    have HC18 := Aside0.mk H
                    clear H
                    obtain ⟨Ao19, co19, eo19⟩ := Kd.V_slice HO_6.out
                    subst eo19
                    go_upto_region 13 with (fail)
                    repeat (go_quiet (fail); go_upto_region 13 with (fail))
                    go_cut [81] (fun v81 wc => ∃ (kq : Nat) (x81_17 : Bool), v81 = .bool x81_17 ∧ Aside0 (isthmuslaw11_LexBlanks.j3 kq a0 l1 t217 y222 x10_3 x11_3 x12_3 x81_17 = some r) ∧ Aside0 (kq ≤ k3) ∧ Aside0 (Kd.V k29 29 wc w.heap.size (fun k_ => some k_ ≠ (v223 : Value).ownBlock ∧ some k_ ≠ (u11 : Value).ownBlock) (.slice Ao19 t217.length co19) t217) ∧ Aside0 (Kd.R Kd.string 9 wc w.heap.size (fun _ => True) v223 y222) ∧ Aside0 (Kd.R (Kd.int .i64) 3 wc w.heap.size (fun _ => True) u11 x11_3) ∧ Aside0 (Below w.heap.size w wc))
                    case first => as_aux_lemma =>
                      have H := HC18.out
                      clear HC18
                      by_cases c20 : 0 ≤ x12_3
                      · rw [if_pos c20] at H
                        have c20b0 : decide (0 ≤ x12_3) = true := decide_eq_true c20
                        clear c20
                        (first | rw [c20b0] | (simp only [i64_w, i32_w]; rw [c20b0]) | skip)
                        by_cases c21 : x12_3 < (t217.length : Int)
                        · rw [if_pos c21] at H
                          have c21b0 : decide (x12_3 < (t217.length : Int)) = true := decide_eq_true c21
                          clear c21
                          by_cases c22 : ((rd_T29 t217 x12_3).f3) < 0
                          · rw [if_pos c22] at H
                            have c22b0 : decide (((rd_T29 t217 x12_3).f3) < 0) = true := decide_eq_true c22
                            clear c22
                            have H' := Aside0.mk H
                            clear H
                            have p225 : 0 ≤ (x12_3 : Int) := of_decide_eq_true (by first | (with_reducible assumption) | assumption)
                            have q225 : x12_3 < (t217.length : Int) := of_decide_eq_true (by first | (with_reducible assumption) | assumption)
                            obtain ⟨ad225, e225, hx225_0, hx225_1, hx225_2, hx225_3⟩ := at_T29 (Kd.V_reads' HO_6.out).2.2 x12_3 p225 q225
                            cases e225
                            replace p225 := eq_true p225
                            replace q225 := eq_true q225
                            go_wp2
                            repeat (go_quiet (fail); try go_wp2)
                            go_meet
                            case rel => exact ⟨_, (true), (by first | rfl | (simp; done) | (simp [*]; done)), H', ⟨by have := HJ4.out; have := HJ9.out; have := HK3.out; first | omega | exact Nat.le_refl _⟩, ⟨by (with_reducible repeat (first | apply Kd.V_alloc | apply Kd.V_drewN | apply Kd.V_drew)); exact HO_6.out⟩, ⟨by (with_reducible repeat (first | apply Kd.R_alloc | apply Kd.R_drewN | apply Kd.R_drew)); exact HO_9.out⟩, ⟨by (with_reducible repeat (first | apply Kd.R_alloc | apply Kd.R_drewN | apply Kd.R_drew)); exact HO_11.out⟩, ⟨by repeat (first | (with_reducible first | exact HB.out | apply below_alloc | apply pw_below_drewN | apply below_drew1) | exact HB.out)⟩⟩
                          · rw [if_neg c22] at H
                            have c22b0 : decide (((rd_T29 t217 x12_3).f3) < 0) = false := decide_eq_false c22
                            clear c22
                            obtain ⟨ji23, hji23⟩ : ∃ j_ : Int, (wrap64 (x12_3 + 1)) = j_ := ⟨_, rfl⟩
                            replace H : (if 0 ≤ (ji23) then (if ((rd_T29 t217 x12_3).f3) ≥ ((rd_T29 t217 (ji23)).f3) then (isthmuslaw11_LexBlanks.j3 k3 a0 l1 t217 y222 x10_3 x11_3 x12_3 true) else (isthmuslaw11_LexBlanks.j3 k3 a0 l1 t217 y222 x10_3 x11_3 x12_3 (decide (((rd_T29 t217 (ji23)).f3) > (a0.size : Int))))) else (none)) = some r := by first | (rw [hji23] at H; exact H) | (simp only [hji23] at H ⊢; exact H)
                            (try rw [hji23] at c17b0)
                            have hji23w : (IntKind.i64.wrap (x12_3 + 1)) = ji23 := (i64_w _).trans hji23
                            by_cases c24 : 0 ≤ (ji23)
                            · rw [if_pos c24] at H
                              have c24b0 : decide (0 ≤ (ji23)) = true := decide_eq_true c24
                              clear c24
                              by_cases c25 : ((rd_T29 t217 x12_3).f3) ≥ ((rd_T29 t217 (ji23)).f3)
                              · rw [if_pos c25] at H
                                have c25b0 : decide (((rd_T29 t217 (ji23)).f3) ≤ ((rd_T29 t217 x12_3).f3)) = true := decide_eq_true c25
                                clear c25
                                have H' := Aside0.mk H
                                clear H
                                have p225 : 0 ≤ (x12_3 : Int) := of_decide_eq_true (by first | (with_reducible assumption) | assumption)
                                have q225 : x12_3 < (t217.length : Int) := of_decide_eq_true (by first | (with_reducible assumption) | assumption)
                                obtain ⟨ad225, e225, hx225_0, hx225_1, hx225_2, hx225_3⟩ := at_T29 (Kd.V_reads' HO_6.out).2.2 x12_3 p225 q225
                                cases e225
                                replace p225 := eq_true p225
                                replace q225 := eq_true q225
                                have p226 : 0 ≤ (x12_3 : Int) := of_decide_eq_true (by first | (with_reducible assumption) | assumption)
                                have q226 : x12_3 < (t217.length : Int) := of_decide_eq_true (by first | (with_reducible assumption) | assumption)
                                obtain ⟨ad226, e226, hx226_0, hx226_1, hx226_2, hx226_3⟩ := at_T29 (Kd.V_reads' HO_6.out).2.2 x12_3 p226 q226
                                obtain rfl : ad225 = ad226 := (by injection e226)
                                replace p226 := eq_true p226
                                replace q226 := eq_true q226
                                have p227 : 0 ≤ ((ji23) : Int) := of_decide_eq_true (by first | (with_reducible assumption) | assumption)
                                have q227 : (ji23) < (t217.length : Int) := of_decide_eq_true (by first | (with_reducible assumption) | assumption)
                                obtain ⟨ad227, e227, hx227_0, hx227_1, hx227_2, hx227_3⟩ := at_T29 (Kd.V_reads' HO_6.out).2.2 (ji23) p227 q227
                                obtain rfl : ad225 = ad227 := (by injection e227)
                                replace p227 := eq_true p227
                                replace q227 := eq_true q227
                                go_wp2
                                repeat (go_quiet (fail); try go_wp2)
                                go_meet
                                case rel => exact ⟨_, (true), (by first | rfl | (simp; done) | (simp [*]; done)), H', ⟨by have := HJ4.out; have := HJ9.out; have := HK3.out; first | omega | exact Nat.le_refl _⟩, ⟨by (with_reducible repeat (first | apply Kd.V_alloc | apply Kd.V_drewN | apply Kd.V_drew)); exact HO_6.out⟩, ⟨by (with_reducible repeat (first | apply Kd.R_alloc | apply Kd.R_drewN | apply Kd.R_drew)); exact HO_9.out⟩, ⟨by (with_reducible repeat (first | apply Kd.R_alloc | apply Kd.R_drewN | apply Kd.R_drew)); exact HO_11.out⟩, ⟨by repeat (first | (with_reducible first | exact HB.out | apply below_alloc | apply pw_below_drewN | apply below_drew1) | exact HB.out)⟩⟩
                              · rw [if_neg c25] at H
                                have c25b0 : decide (((rd_T29 t217 (ji23)).f3) ≤ ((rd_T29 t217 x12_3).f3)) = false := decide_eq_false c25
                                clear c25
                                have H' := Aside0.mk H
                                clear H
                                have p225 : 0 ≤ (x12_3 : Int) := of_decide_eq_true (by first | (with_reducible assumption) | assumption)
                                have q225 : x12_3 < (t217.length : Int) := of_decide_eq_true (by first | (with_reducible assumption) | assumption)
                                obtain ⟨ad225, e225, hx225_0, hx225_1, hx225_2, hx225_3⟩ := at_T29 (Kd.V_reads' HO_6.out).2.2 x12_3 p225 q225
                                cases e225
                                replace p225 := eq_true p225
                                replace q225 := eq_true q225
                                have p226 : 0 ≤ (x12_3 : Int) := of_decide_eq_true (by first | (with_reducible assumption) | assumption)
                                have q226 : x12_3 < (t217.length : Int) := of_decide_eq_true (by first | (with_reducible assumption) | assumption)
                                obtain ⟨ad226, e226, hx226_0, hx226_1, hx226_2, hx226_3⟩ := at_T29 (Kd.V_reads' HO_6.out).2.2 x12_3 p226 q226
                                obtain rfl : ad225 = ad226 := (by injection e226)
                                replace p226 := eq_true p226
                                replace q226 := eq_true q226
                                have p227 : 0 ≤ ((ji23) : Int) := of_decide_eq_true (by first | (with_reducible assumption) | assumption)
                                have q227 : (ji23) < (t217.length : Int) := of_decide_eq_true (by first | (with_reducible assumption) | assumption)
                                obtain ⟨ad227, e227, hx227_0, hx227_1, hx227_2, hx227_3⟩ := at_T29 (Kd.V_reads' HO_6.out).2.2 (ji23) p227 q227
                                obtain rfl : ad225 = ad227 := (by injection e227)
                                replace p227 := eq_true p227
                                replace q227 := eq_true q227
                                have p228 : 0 ≤ ((ji23) : Int) := of_decide_eq_true (by first | (with_reducible assumption) | assumption)
                                have q228 : (ji23) < (t217.length : Int) := of_decide_eq_true (by first | (with_reducible assumption) | assumption)
                                obtain ⟨ad228, e228, hx228_0, hx228_1, hx228_2, hx228_3⟩ := at_T29 (Kd.V_reads' HO_6.out).2.2 (ji23) p228 q228
                                obtain rfl : ad225 = ad228 := (by injection e228)
                                replace p228 := eq_true p228
                                replace q228 := eq_true q228
                                go_wp2
                                repeat (go_quiet (fail); try go_wp2)
                                go_meet
                                case rel => exact ⟨_, (decide (((rd_T29 t217 (ji23)).f3) > (a0.size : Int))), (by first | rfl | (simp; done) | (simp only [← hji23] <;> (first | rfl | simp)) | (simp [*]; done)), H', ⟨by have := HJ4.out; have := HJ9.out; have := HK3.out; first | omega | exact Nat.le_refl _⟩, ⟨by (with_reducible repeat (first | apply Kd.V_alloc | apply Kd.V_drewN | apply Kd.V_drew)); exact HO_6.out⟩, ⟨by (with_reducible repeat (first | apply Kd.R_alloc | apply Kd.R_drewN | apply Kd.R_drew)); exact HO_9.out⟩, ⟨by (with_reducible repeat (first | apply Kd.R_alloc | apply Kd.R_drewN | apply Kd.R_drew)); exact HO_11.out⟩, ⟨by repeat (first | (with_reducible first | exact HB.out | apply below_alloc | apply pw_below_drewN | apply below_drew1) | exact HB.out)⟩⟩
                            · rw [if_neg c24] at H
                              exact absurd H (by simp)
                        · rw [if_neg c21] at H
                          exact absurd H (by simp)
                      · rw [if_neg c20] at H
                        exact absurd H (by simp)
                    case rest =>
                      clear HC18
                      try clear c1
                      try clear c2
                      try clear p2
                      try clear q2
                      try clear hx2
                      try clear c5
                      try clear p6
                      try clear c8
                      try clear c9
                      try clear c11
                      try clear c11b0
                      try clear c11b1
                      try clear c11b2
                      try clear c14
                      try clear c17
                      try clear c17b0
                      try clear c20
                      try clear c20b0
                      try clear c21
                      try clear c21b0
                      try clear c22
                      try clear c22b0
                      try clear p22
                      try clear q22
                      try clear hx22
                      try clear c24
                      try clear c24b0
                      try clear c25
                      try clear c25b0
                      try clear hx225_0
                      try clear hx225_1
                      try clear hx225_2
                      try clear hx225_3
                      try clear hx226_0
                      try clear hx226_1
                      try clear hx226_2
                      try clear hx226_3
                      try clear hx227_0
                      try clear hx227_1
                      try clear hx227_2
                      try clear hx227_3
                      try clear hx228_0
                      try clear hx228_1
                      try clear hx228_2
                      try clear hx228_3
                      try clear p2
                      try clear p225
                      try clear p226
                      try clear p227
                      try clear p228
                      try clear p6
                      try clear q225
                      try clear q226
                      try clear q227
                      try clear q228
                      obtain ⟨kq, x81_17, rfl, HA, HJ17, HO_6, HO_9, HO_11, HB⟩ := hcut
                      cases kq with
                      | zero => exact absurd HA.out (by simp [isthmuslaw11_LexBlanks.j3])
                      | succ kj17 =>
                        have H := HA.out
                        clear HA
                        simp only [isthmuslaw11_LexBlanks.j3] at H
                        by_cases c26 : x81_17 = true
                        · subst c26
                          have H1 : (some false) = some r := by rw [if_pos rfl] at H; exact H
                          clear H
                          have H := H1
                          clear H1
                          obtain rfl := Option.some.inj H
                          go_wp2
                          repeat (go_quiet (fail); try go_wp2)
                          go_ret
                          exact ⟨by first | rfl | (simp [errW_none, errW_some] <;> rfl) | (simp [*, errW_none, errW_some] <;> rfl), by repeat (first | (with_reducible first | exact HB.out | apply below_alloc | apply pw_below_drewN | apply below_drew1) | exact HB.out)⟩
                        · replace c26 := Bool.eq_false_iff.mpr c26
                          subst c26
                          have H1 : (if x12_3 > 0 then (if (l1.length : Int) > 0 then (if (l1.length : Int) = 0 then (none) else (if 0 ≤ (Int.tmod x12_3 (l1.length : Int)) then (if (Int.tmod x12_3 (l1.length : Int)) < (l1.length : Int) then ((isthmuslaw11_pick.f (rd l1 (Int.tmod x12_3 (l1.length : Int))) (y222.length : Int)).bind fun t230 => (if 0 ≤ t230 then (if t230 < (y222.length : Int) then (if x10_3.size + (rdOf ByteArray.empty y222 t230).size ≤ 9223372036854775807 then (if x11_3.length < 17592186044416 then ((isthmuslaw11_said.f kj17 a0 t217 x12_3).bind fun t235 => (if (x10_3 ++ (rdOf ByteArray.empty y222 t230)).size + t235.size ≤ 9223372036854775807 then (isthmuslaw11_LexBlanks.l0 kj17 a0 l1 t217 y222 ((x10_3 ++ (rdOf ByteArray.empty y222 t230)) ++ t235) (x11_3 ++ [((x10_3 ++ (rdOf ByteArray.empty y222 t230)).size : Int)]) (wrap64 (x12_3 + 1))) else (none))) else (none)) else (none)) else (none)) else (none))) else (none)) else (none))) else (if 0 < (y222.length : Int) then (if x10_3.size + (rdOf ByteArray.empty y222 0).size ≤ 9223372036854775807 then (if x11_3.length < 17592186044416 then ((isthmuslaw11_said.f kj17 a0 t217 x12_3).bind fun t240 => (if (x10_3 ++ (rdOf ByteArray.empty y222 0)).size + t240.size ≤ 9223372036854775807 then (isthmuslaw11_LexBlanks.l0 kj17 a0 l1 t217 y222 ((x10_3 ++ (rdOf ByteArray.empty y222 0)) ++ t240) (x11_3 ++ [((x10_3 ++ (rdOf ByteArray.empty y222 0)).size : Int)]) (wrap64 (x12_3 + 1))) else (none))) else (none)) else (none)) else (none))) else (if x11_3.length < 17592186044416 then ((isthmuslaw11_said.f kj17 a0 t217 x12_3).bind fun t244 => (if x10_3.size + t244.size ≤ 9223372036854775807 then (isthmuslaw11_LexBlanks.l0 kj17 a0 l1 t217 y222 (x10_3 ++ t244) (x11_3 ++ [(x10_3.size : Int)]) (wrap64 (x12_3 + 1))) else (none))) else (none))) = some r := by rw [if_neg (show ¬ (false = true) by decide)] at H; exact H
                          clear H
                          have H := H1
                          clear H1
                          by_cases c27 : x12_3 > 0
                          · rw [if_pos c27] at H
                            have c27b0 : decide (0 < x12_3) = true := decide_eq_true c27
                            clear c27
                            by_cases c28 : (l1.length : Int) > 0
                            · rw [if_pos c28] at H
                              have c28b0 : decide (0 < (l1.length : Int)) = true := decide_eq_true c28
                              have c28b1 : decide (0 < l1.length) = true := decide_eq_true (by omega)
                              clear c28
                              by_cases c29 : (l1.length : Int) = 0
                              · rw [if_pos c29] at H
                                exact absurd H (by simp)
                              · rw [if_neg c29] at H
                                have c29b0 : ((l1.length : Int) == 0) = false := beq_eq_false_iff_ne.mpr c29
                                have c29b1 : ((l1.length : Int) != 0) = true := bne_iff_ne.mpr c29
                                have c29b2 : ¬ (l1 = []) := fun h_ => c29 (by rw [h_]; rfl)
                                obtain ⟨ji30, hji30⟩ : ∃ j_ : Int, (Int.tmod x12_3 (l1.length : Int)) = j_ := ⟨_, rfl⟩
                                replace H : (if 0 ≤ (ji30) then (if (ji30) < (l1.length : Int) then ((isthmuslaw11_pick.f (rd l1 (ji30)) (y222.length : Int)).bind fun t230 => (if 0 ≤ t230 then (if t230 < (y222.length : Int) then (if x10_3.size + (rdOf ByteArray.empty y222 t230).size ≤ 9223372036854775807 then (if x11_3.length < 17592186044416 then ((isthmuslaw11_said.f kj17 a0 t217 x12_3).bind fun t235 => (if (x10_3 ++ (rdOf ByteArray.empty y222 t230)).size + t235.size ≤ 9223372036854775807 then (isthmuslaw11_LexBlanks.l0 kj17 a0 l1 t217 y222 ((x10_3 ++ (rdOf ByteArray.empty y222 t230)) ++ t235) (x11_3 ++ [((x10_3 ++ (rdOf ByteArray.empty y222 t230)).size : Int)]) (wrap64 (x12_3 + 1))) else (none))) else (none)) else (none)) else (none)) else (none))) else (none)) else (none)) = some r := by first | (rw [hji30] at H; exact H) | (simp only [hji30] at H ⊢; exact H)
                                by_cases c31 : 0 ≤ (ji30)
                                · rw [if_pos c31] at H
                                  have c31b0 : decide (0 ≤ (ji30)) = true := decide_eq_true c31
                                  clear c31
                                  by_cases c32 : (ji30) < (l1.length : Int)
                                  · rw [if_pos c32] at H
                                    have c32b0 : decide ((ji30) < (l1.length : Int)) = true := decide_eq_true c32
                                    clear c32
                                    replace H := Option.bind_eq_some_iff.mp H
                                    obtain ⟨t230, A330, H⟩ := H
                                    replace H : (if 0 ≤ t230 then (if t230 < (y222.length : Int) then (if x10_3.size + (rdOf ByteArray.empty y222 t230).size ≤ 9223372036854775807 then (if x11_3.length < 17592186044416 then ((isthmuslaw11_said.f kj17 a0 t217 x12_3).bind fun t235 => (if (x10_3 ++ (rdOf ByteArray.empty y222 t230)).size + t235.size ≤ 9223372036854775807 then (isthmuslaw11_LexBlanks.l0 kj17 a0 l1 t217 y222 ((x10_3 ++ (rdOf ByteArray.empty y222 t230)) ++ t235) (x11_3 ++ [((x10_3 ++ (rdOf ByteArray.empty y222 t230)).size : Int)]) (wrap64 (x12_3 + 1))) else (none))) else (none)) else (none)) else (none)) else (none)) = some r := H
                                    have A33 := Aside0.mk A330
                                    clear A330
                                    by_cases c34 : 0 ≤ t230
                                    · rw [if_pos c34] at H
                                      have c34b0 : decide (0 ≤ t230) = true := decide_eq_true c34
                                      clear c34
                                      by_cases c35 : t230 < (y222.length : Int)
                                      · rw [if_pos c35] at H
                                        have c35b0 : decide (t230 < (y222.length : Int)) = true := decide_eq_true c35
                                        clear c35
                                        by_cases c36 : x10_3.size + (rdOf ByteArray.empty y222 t230).size ≤ 9223372036854775807
                                        · rw [if_pos c36] at H
                                          have c36b0 := eq_true c36
                                          have c36b1 : decide (x10_3.size + (rdOf ByteArray.empty y222 t230).size ≤ 9223372036854775807) = true := decide_eq_true c36
                                          try have c36b2 : (9223372036854775807 < x10_3.size + (rdOf ByteArray.empty y222 t230).size) = False := eq_false (Nat.not_lt.2 c36)
                                          by_cases c37 : x11_3.length < 17592186044416
                                          · rw [if_pos c37] at H
                                            have LMc37 := Aside0.mk c37
                                            clear c37
                                            obtain ⟨y232, hy232⟩ : ∃ y_ : List Int, y_ = (x11_3 ++ [((x10_3 ++ (rdOf ByteArray.empty y222 t230)).size : Int)]) := ⟨_, rfl⟩
                                            replace H : ((isthmuslaw11_said.f kj17 a0 t217 x12_3).bind fun t235 => (if (x10_3 ++ (rdOf ByteArray.empty y222 t230)).size + t235.size ≤ 9223372036854775807 then (isthmuslaw11_LexBlanks.l0 kj17 a0 l1 t217 y222 ((x10_3 ++ (rdOf ByteArray.empty y222 t230)) ++ t235) y232 (wrap64 (x12_3 + 1))) else (none))) = some r := by first | (rw [hy232]; with_reducible exact H) | (have H2_ := (Option.bind_some _ _).symm.trans H; rw [hy232]; with_reducible exact H2_) | (have H2_ := (Option.bind_some _ _).symm.trans H; with_reducible exact H2_) | with_reducible exact H | (rw [hy232]; exact H) | exact H
                                            have Ny232 := Aside0.mk hy232
                                            clear hy232
                                            replace H := Option.bind_eq_some_iff.mp H
                                            obtain ⟨t235, A380, H⟩ := H
                                            replace H : (if (x10_3 ++ (rdOf ByteArray.empty y222 t230)).size + t235.size ≤ 9223372036854775807 then (isthmuslaw11_LexBlanks.l0 kj17 a0 l1 t217 y222 ((x10_3 ++ (rdOf ByteArray.empty y222 t230)) ++ t235) y232 (wrap64 (x12_3 + 1))) else (none)) = some r := H
                                            have A38 := Aside0.mk A380
                                            clear A380
                                            by_cases c39 : (x10_3 ++ (rdOf ByteArray.empty y222 t230)).size + t235.size ≤ 9223372036854775807
                                            · rw [if_pos c39] at H
                                              have c39b0 := eq_true c39
                                              have c39b1 : decide ((x10_3 ++ (rdOf ByteArray.empty y222 t230)).size + t235.size ≤ 9223372036854775807) = true := decide_eq_true c39
                                              have c39b8 := c39b1
                                              simp only [ByteArray.size_append, Int.natCast_add] at c39b8
                                              have c39b9 := eq_true (of_decide_eq_true c39b8)
                                              try have c39b2 : (9223372036854775807 < (x10_3 ++ (rdOf ByteArray.empty y222 t230)).size + t235.size) = False := eq_false (Nat.not_lt.2 c39)
                                              have H' := Aside0.mk H
                                              clear H
                                              have p229 : 0 ≤ ((ji30) : Int) := of_decide_eq_true (by first | (with_reducible assumption) | assumption)
                                              have q229 : (ji30) < (l1.length : Int) := of_decide_eq_true (by first | (with_reducible assumption) | assumption)
                                              obtain ⟨ad229, e229, hx229_0⟩ := Kd.at_int HR1.out (ji30) p229 q229
                                              cases e229
                                              replace hx229_0 := (HB.out.cell (World.block_lt_of_cell? w _ hx229_0)).trans hx229_0
                                              replace p229 := eq_true p229
                                              replace q229 := eq_true q229
                                              obtain ⟨Ao40, co40, eo40⟩ := Kd.R_slice HO_9.out
                                              subst eo40
                                              go_wp2_with (first | (go_at_call 15; (with_reducible refine (isthmuslaw11_pick.calls (rd l1 (ji30)) (y222.length : Int) t230 _ A33.out).mono ?_); rintro e w' ⟨rfl, ⟨nd, rfl⟩⟩; (try first | exact ⟨rfl, _, World.drewN_drewN _ _ _⟩ | exact ⟨rfl, _, Eq.trans (World.drewN_drewN _ _ _) (congrArg (World.drewN _) (Nat.add_assoc _ _ _))⟩); have p231 : 0 ≤ (t230 : Int) := of_decide_eq_true (by first | (with_reducible assumption) | assumption); have q231 : t230 < (y222.length : Int) := of_decide_eq_true (by first | (with_reducible assumption) | assumption); obtain ⟨ad231, e231, hx231_0⟩ := Kd.at_string (Kd.R_reads' HO_9.out).2.2 t230 p231 q231; cases e231; replace p231 := eq_true p231; replace q231 := eq_true q231) | ((with_reducible refine gate_builtin (b := .append) (xs := #[.tmp 103, .tmp 106]) rfl ?_); (try (refine gate_guard (by rfl) ?_; dsimp only)); at_builtin; refine Kd.R_append (Kd.int .i64) (w0 := w) w.heap.size rfl (.tmp 103) (.tmp 106) 31 3 (.int .i64 0) 8 rfl Try.underlying31 info3 rfl (by decide) (by omega) u11 x11_3 ((x10_3 ++ (rdOf ByteArray.empty y222 t230)).size : Int) [.int .i64 (((x10_3).size : Int) + ((rdOf ByteArray.empty y222 t230).size : Int))] (fun _ => True) (fun _ => False) rfl rfl ?aP (fun _ hk => hk.elim) ?aF ?aO ?aB ?aS ?aL ?_; (case aP => first | exact rfl | (simp only [ByteArray.size_append, Int.natCast_add]; exact rfl)); (case aB => exact (by repeat (first | (with_reducible first | exact HB.out | apply below_alloc | apply pw_below_drewN | apply below_drew1) | exact HB.out))); (case aF => exact (fun _ _ => trivial)); (case aO => exact (by (with_reducible repeat (first | apply Kd.R_alloc | apply Kd.R_drewN | apply Kd.R_drew)); exact HO_11.out)); (case aS => exact (below_size (by repeat (first | (with_reducible first | exact HB.out | apply below_alloc | apply pw_below_drewN | apply below_drew1) | exact HB.out)))); (case aL => exact room8 LMc37.out); intro v233 w41 ho hb hg hat; rw [← Ny232.out] at ho; have n0_ := Aside0.mk (Kd.V_afterv (ok := (fun k_ => some k_ ≠ (.slice (some ad231) y222.length co40 : Value).ownBlock)) (by (with_reducible repeat (first | apply Kd.V_alloc | apply Kd.V_drewN | apply Kd.V_drew)); exact HO_6.out) hg hat); have n1_ := Aside0.mk (Kd.R_over' (by (with_reducible repeat (first | apply Kd.R_alloc | apply Kd.R_drewN | apply Kd.R_drew)); exact HO_9.out) (Kd.R_typed (by (with_reducible repeat (first | apply Kd.R_alloc | apply Kd.R_drewN | apply Kd.R_drew)); exact HO_11.out)) (by decide) hg); have n2_ := Aside0.mk (hb); have n3_ := Aside0.mk (ho); clear HO_6; clear HO_9; clear HB; clear HO_11; have HO_6 := n0_; have HO_9 := n1_; have HB := n2_; have HO234 := n3_; clear n0_ n1_ n2_ n3_; clear ho hb hg hat) | (go_at_call 16; (with_reducible refine (isthmuslaw11_said.calls kj17 a0 _ _ t217 x12_3 t235 _ ?side1 ?side2 A38.out).mono ?_); (case side1 => repeat (first | exact (Kd.V_reads' HO_6.out).2.2 | (with_reducible refine Kd.C_alloc ?_ _) | (with_reducible refine Kd.C_drewN ?_ _) | (with_reducible refine Kd.C_drew ?_))); (case side2 => exact (Kd.V_reads' HO_6.out).2.1); rintro e w' ⟨rfl, ⟨nd, rfl⟩⟩; (try first | exact ⟨rfl, _, World.drewN_drewN _ _ _⟩ | exact ⟨rfl, _, Eq.trans (World.drewN_drewN _ _ _) (congrArg (World.drewN _) (Nat.add_assoc _ _ _))⟩)))
                                              repeat (go_quiet (first | (go_at_call 15; (with_reducible refine (isthmuslaw11_pick.calls (rd l1 (ji30)) (y222.length : Int) t230 _ A33.out).mono ?_); rintro e w' ⟨rfl, ⟨nd, rfl⟩⟩; (try first | exact ⟨rfl, _, World.drewN_drewN _ _ _⟩ | exact ⟨rfl, _, Eq.trans (World.drewN_drewN _ _ _) (congrArg (World.drewN _) (Nat.add_assoc _ _ _))⟩); have p231 : 0 ≤ (t230 : Int) := of_decide_eq_true (by first | (with_reducible assumption) | assumption); have q231 : t230 < (y222.length : Int) := of_decide_eq_true (by first | (with_reducible assumption) | assumption); obtain ⟨ad231, e231, hx231_0⟩ := Kd.at_string (Kd.R_reads' HO_9.out).2.2 t230 p231 q231; cases e231; replace p231 := eq_true p231; replace q231 := eq_true q231) | ((with_reducible refine gate_builtin (b := .append) (xs := #[.tmp 103, .tmp 106]) rfl ?_); (try (refine gate_guard (by rfl) ?_; dsimp only)); at_builtin; refine Kd.R_append (Kd.int .i64) (w0 := w) w.heap.size rfl (.tmp 103) (.tmp 106) 31 3 (.int .i64 0) 8 rfl Try.underlying31 info3 rfl (by decide) (by omega) u11 x11_3 ((x10_3 ++ (rdOf ByteArray.empty y222 t230)).size : Int) [.int .i64 (((x10_3).size : Int) + ((rdOf ByteArray.empty y222 t230).size : Int))] (fun _ => True) (fun _ => False) rfl rfl ?aP (fun _ hk => hk.elim) ?aF ?aO ?aB ?aS ?aL ?_; (case aP => first | exact rfl | (simp only [ByteArray.size_append, Int.natCast_add]; exact rfl)); (case aB => exact (by repeat (first | (with_reducible first | exact HB.out | apply below_alloc | apply pw_below_drewN | apply below_drew1) | exact HB.out))); (case aF => exact (fun _ _ => trivial)); (case aO => exact (by (with_reducible repeat (first | apply Kd.R_alloc | apply Kd.R_drewN | apply Kd.R_drew)); exact HO_11.out)); (case aS => exact (below_size (by repeat (first | (with_reducible first | exact HB.out | apply below_alloc | apply pw_below_drewN | apply below_drew1) | exact HB.out)))); (case aL => exact room8 LMc37.out); intro v233 w41 ho hb hg hat; rw [← Ny232.out] at ho; have n0_ := Aside0.mk (Kd.V_afterv (ok := (fun k_ => some k_ ≠ (.slice (some ad231) y222.length co40 : Value).ownBlock)) (by (with_reducible repeat (first | apply Kd.V_alloc | apply Kd.V_drewN | apply Kd.V_drew)); exact HO_6.out) hg hat); have n1_ := Aside0.mk (Kd.R_over' (by (with_reducible repeat (first | apply Kd.R_alloc | apply Kd.R_drewN | apply Kd.R_drew)); exact HO_9.out) (Kd.R_typed (by (with_reducible repeat (first | apply Kd.R_alloc | apply Kd.R_drewN | apply Kd.R_drew)); exact HO_11.out)) (by decide) hg); have n2_ := Aside0.mk (hb); have n3_ := Aside0.mk (ho); clear HO_6; clear HO_9; clear HB; clear HO_11; have HO_6 := n0_; have HO_9 := n1_; have HB := n2_; have HO234 := n3_; clear n0_ n1_ n2_ n3_; clear ho hb hg hat) | (go_at_call 16; (with_reducible refine (isthmuslaw11_said.calls kj17 a0 _ _ t217 x12_3 t235 _ ?side1 ?side2 A38.out).mono ?_); (case side1 => repeat (first | exact (Kd.V_reads' HO_6.out).2.2 | (with_reducible refine Kd.C_alloc ?_ _) | (with_reducible refine Kd.C_drewN ?_ _) | (with_reducible refine Kd.C_drew ?_))); (case side2 => exact (Kd.V_reads' HO_6.out).2.1); rintro e w' ⟨rfl, ⟨nd, rfl⟩⟩; (try first | exact ⟨rfl, _, World.drewN_drewN _ _ _⟩ | exact ⟨rfl, _, Eq.trans (World.drewN_drewN _ _ _) (congrArg (World.drewN _) (Nat.add_assoc _ _ _))⟩))); try go_wp2_with (first | (go_at_call 15; (with_reducible refine (isthmuslaw11_pick.calls (rd l1 (ji30)) (y222.length : Int) t230 _ A33.out).mono ?_); rintro e w' ⟨rfl, ⟨nd, rfl⟩⟩; (try first | exact ⟨rfl, _, World.drewN_drewN _ _ _⟩ | exact ⟨rfl, _, Eq.trans (World.drewN_drewN _ _ _) (congrArg (World.drewN _) (Nat.add_assoc _ _ _))⟩); have p231 : 0 ≤ (t230 : Int) := of_decide_eq_true (by first | (with_reducible assumption) | assumption); have q231 : t230 < (y222.length : Int) := of_decide_eq_true (by first | (with_reducible assumption) | assumption); obtain ⟨ad231, e231, hx231_0⟩ := Kd.at_string (Kd.R_reads' HO_9.out).2.2 t230 p231 q231; cases e231; replace p231 := eq_true p231; replace q231 := eq_true q231) | ((with_reducible refine gate_builtin (b := .append) (xs := #[.tmp 103, .tmp 106]) rfl ?_); (try (refine gate_guard (by rfl) ?_; dsimp only)); at_builtin; refine Kd.R_append (Kd.int .i64) (w0 := w) w.heap.size rfl (.tmp 103) (.tmp 106) 31 3 (.int .i64 0) 8 rfl Try.underlying31 info3 rfl (by decide) (by omega) u11 x11_3 ((x10_3 ++ (rdOf ByteArray.empty y222 t230)).size : Int) [.int .i64 (((x10_3).size : Int) + ((rdOf ByteArray.empty y222 t230).size : Int))] (fun _ => True) (fun _ => False) rfl rfl ?aP (fun _ hk => hk.elim) ?aF ?aO ?aB ?aS ?aL ?_; (case aP => first | exact rfl | (simp only [ByteArray.size_append, Int.natCast_add]; exact rfl)); (case aB => exact (by repeat (first | (with_reducible first | exact HB.out | apply below_alloc | apply pw_below_drewN | apply below_drew1) | exact HB.out))); (case aF => exact (fun _ _ => trivial)); (case aO => exact (by (with_reducible repeat (first | apply Kd.R_alloc | apply Kd.R_drewN | apply Kd.R_drew)); exact HO_11.out)); (case aS => exact (below_size (by repeat (first | (with_reducible first | exact HB.out | apply below_alloc | apply pw_below_drewN | apply below_drew1) | exact HB.out)))); (case aL => exact room8 LMc37.out); intro v233 w41 ho hb hg hat; rw [← Ny232.out] at ho; have n0_ := Aside0.mk (Kd.V_afterv (ok := (fun k_ => some k_ ≠ (.slice (some ad231) y222.length co40 : Value).ownBlock)) (by (with_reducible repeat (first | apply Kd.V_alloc | apply Kd.V_drewN | apply Kd.V_drew)); exact HO_6.out) hg hat); have n1_ := Aside0.mk (Kd.R_over' (by (with_reducible repeat (first | apply Kd.R_alloc | apply Kd.R_drewN | apply Kd.R_drew)); exact HO_9.out) (Kd.R_typed (by (with_reducible repeat (first | apply Kd.R_alloc | apply Kd.R_drewN | apply Kd.R_drew)); exact HO_11.out)) (by decide) hg); have n2_ := Aside0.mk (hb); have n3_ := Aside0.mk (ho); clear HO_6; clear HO_9; clear HB; clear HO_11; have HO_6 := n0_; have HO_9 := n1_; have HB := n2_; have HO234 := n3_; clear n0_ n1_ n2_ n3_; clear ho hb hg hat) | (go_at_call 16; (with_reducible refine (isthmuslaw11_said.calls kj17 a0 _ _ t217 x12_3 t235 _ ?side1 ?side2 A38.out).mono ?_); (case side1 => repeat (first | exact (Kd.V_reads' HO_6.out).2.2 | (with_reducible refine Kd.C_alloc ?_ _) | (with_reducible refine Kd.C_drewN ?_ _) | (with_reducible refine Kd.C_drew ?_))); (case side2 => exact (Kd.V_reads' HO_6.out).2.1); rintro e w' ⟨rfl, ⟨nd, rfl⟩⟩; (try first | exact ⟨rfl, _, World.drewN_drewN _ _ _⟩ | exact ⟨rfl, _, Eq.trans (World.drewN_drewN _ _ _) (congrArg (World.drewN _) (Nat.add_assoc _ _ _))⟩))))
                                              go_roundg kj17
                                              case measure => have := HJ4.out; have := HJ9.out; have := HK3.out; have := HJ17.out; (try clear c11b0); (try clear c11b1); (try clear c11b2); (try clear c17b0); (try clear c20b0); (try clear c21b0); (try clear c22b0); (try clear c24b0); (try clear c25b0); (try clear c27b0); (try clear c28b0); (try clear c28b1); (try clear c29b0); (try clear c29b1); (try clear c29b2); (try clear c31b0); (try clear c32b0); (try clear c34b0); (try clear c35b0); (try clear c36b0); (try clear c36b1); (try clear c36b2); (try clear c39b0); (try clear c39b1); (try clear c39b8); (try clear c39b9); (try clear c39b2); (try clear c42b0); (try clear c42b1); (try clear c43b0); (try clear c43b1); (try clear c43b2); (try clear c46b0); (try clear c46b1); (try clear c46b8); (try clear c46b9); (try clear c46b2); (try clear c51b0); (try clear c51b1); (try clear c51b2); (try clear c53b0); (try clear c53b1); (try clear c59b0); (try clear c59b1); (try clear c60b0); (try clear c60b1); (try clear c60b2); (try clear c62b0); (try clear c63b0); (try clear c67b0); (try clear c68b0); (try clear c69b0); (try clear c70b0); (try clear c71b0); (try clear c71b1); (try clear c72b0); (try clear c72b1); (try clear c73b0); (try clear c73b1); (try clear c74b0); (try clear c75b0); (try clear c75b1); omega
                                              case rel => exact ⟨((x10_3 ++ (rdOf ByteArray.empty y222 t230)) ++ t235), (y232), (wrap64 (x12_3 + 1)), (by first | rfl | (simp; done) | (simp [*]; done)), (by first | rfl | (simp; done) | (simp [*]; done)), H', ⟨by have := HJ4.out; have := HJ9.out; have := HK3.out; have := HJ17.out; (try clear c11b0); (try clear c11b1); (try clear c11b2); (try clear c17b0); (try clear c20b0); (try clear c21b0); (try clear c22b0); (try clear c24b0); (try clear c25b0); (try clear c27b0); (try clear c28b0); (try clear c28b1); (try clear c29b0); (try clear c29b1); (try clear c29b2); (try clear c31b0); (try clear c32b0); (try clear c34b0); (try clear c35b0); (try clear c36b0); (try clear c36b1); (try clear c36b2); (try clear c39b0); (try clear c39b1); (try clear c39b8); (try clear c39b9); (try clear c39b2); (try clear c42b0); (try clear c42b1); (try clear c43b0); (try clear c43b1); (try clear c43b2); (try clear c46b0); (try clear c46b1); (try clear c46b8); (try clear c46b9); (try clear c46b2); (try clear c51b0); (try clear c51b1); (try clear c51b2); (try clear c53b0); (try clear c53b1); (try clear c59b0); (try clear c59b1); (try clear c60b0); (try clear c60b1); (try clear c60b2); (try clear c62b0); (try clear c63b0); (try clear c67b0); (try clear c68b0); (try clear c69b0); (try clear c70b0); (try clear c71b0); (try clear c71b1); (try clear c72b0); (try clear c72b1); (try clear c73b0); (try clear c73b1); (try clear c74b0); (try clear c75b0); (try clear c75b1); omega⟩, ⟨by (with_reducible repeat (first | apply Kd.V_alloc | apply Kd.V_drewN | apply Kd.V_drew)); exact HO_6.out⟩, ⟨by (with_reducible repeat (first | apply Kd.R_alloc | apply Kd.R_drewN | apply Kd.R_drew)); exact HO_9.out⟩, ⟨by (with_reducible repeat (first | apply Kd.R_alloc | apply Kd.R_drewN | apply Kd.R_drew)); exact HO234.out⟩, ⟨by repeat (first | (with_reducible first | exact HB.out | apply below_alloc | apply pw_below_drewN | apply below_drew1) | exact HB.out)⟩⟩
                                            · rw [if_neg c39] at H
                                              exact absurd H (by simp)
                                          · rw [if_neg c37] at H
                                            exact absurd H (by simp)
                                        · rw [if_neg c36] at H
                                          exact absurd H (by simp)
                                      · rw [if_neg c35] at H
                                        exact absurd H (by simp)
                                    · rw [if_neg c34] at H
                                      exact absurd H (by simp)
                                  · rw [if_neg c32] at H
                                    exact absurd H (by simp)
                                · rw [if_neg c31] at H
                                  exact absurd H (by simp)
                            · rw [if_neg c28] at H
                              have c28b0 : decide (0 < (l1.length : Int)) = false := decide_eq_false c28
                              have c28b1 : decide (0 < l1.length) = false := decide_eq_false (by omega)
                              clear c28
                              by_cases c42 : 0 < (y222.length : Int)
                              · rw [if_pos c42] at H
                                have c42b0 : decide (0 < (y222.length : Int)) = true := decide_eq_true c42
                                have c42b1 : decide (0 < y222.length) = true := decide_eq_true (by omega)
                                clear c42
                                by_cases c43 : x10_3.size + (rdOf ByteArray.empty y222 0).size ≤ 9223372036854775807
                                · rw [if_pos c43] at H
                                  have c43b0 := eq_true c43
                                  have c43b1 : decide (x10_3.size + (rdOf ByteArray.empty y222 0).size ≤ 9223372036854775807) = true := decide_eq_true c43
                                  try have c43b2 : (9223372036854775807 < x10_3.size + (rdOf ByteArray.empty y222 0).size) = False := eq_false (Nat.not_lt.2 c43)
                                  by_cases c44 : x11_3.length < 17592186044416
                                  · rw [if_pos c44] at H
                                    have LMc44 := Aside0.mk c44
                                    clear c44
                                    obtain ⟨y237, hy237⟩ : ∃ y_ : List Int, y_ = (x11_3 ++ [((x10_3 ++ (rdOf ByteArray.empty y222 0)).size : Int)]) := ⟨_, rfl⟩
                                    replace H : ((isthmuslaw11_said.f kj17 a0 t217 x12_3).bind fun t240 => (if (x10_3 ++ (rdOf ByteArray.empty y222 0)).size + t240.size ≤ 9223372036854775807 then (isthmuslaw11_LexBlanks.l0 kj17 a0 l1 t217 y222 ((x10_3 ++ (rdOf ByteArray.empty y222 0)) ++ t240) y237 (wrap64 (x12_3 + 1))) else (none))) = some r := by first | (rw [hy237]; with_reducible exact H) | (have H2_ := (Option.bind_some _ _).symm.trans H; rw [hy237]; with_reducible exact H2_) | (have H2_ := (Option.bind_some _ _).symm.trans H; with_reducible exact H2_) | with_reducible exact H | (rw [hy237]; exact H) | exact H
                                    have Ny237 := Aside0.mk hy237
                                    clear hy237
                                    replace H := Option.bind_eq_some_iff.mp H
                                    obtain ⟨t240, A450, H⟩ := H
                                    replace H : (if (x10_3 ++ (rdOf ByteArray.empty y222 0)).size + t240.size ≤ 9223372036854775807 then (isthmuslaw11_LexBlanks.l0 kj17 a0 l1 t217 y222 ((x10_3 ++ (rdOf ByteArray.empty y222 0)) ++ t240) y237 (wrap64 (x12_3 + 1))) else (none)) = some r := H
                                    have A45 := Aside0.mk A450
                                    clear A450
                                    by_cases c46 : (x10_3 ++ (rdOf ByteArray.empty y222 0)).size + t240.size ≤ 9223372036854775807
                                    · rw [if_pos c46] at H
                                      have c46b0 := eq_true c46
                                      have c46b1 : decide ((x10_3 ++ (rdOf ByteArray.empty y222 0)).size + t240.size ≤ 9223372036854775807) = true := decide_eq_true c46
                                      have c46b8 := c46b1
                                      simp only [ByteArray.size_append, Int.natCast_add] at c46b8
                                      have c46b9 := eq_true (of_decide_eq_true c46b8)
                                      try have c46b2 : (9223372036854775807 < (x10_3 ++ (rdOf ByteArray.empty y222 0)).size + t240.size) = False := eq_false (Nat.not_lt.2 c46)
                                      have H' := Aside0.mk H
                                      clear H
                                      obtain ⟨Ao47, co47, eo47⟩ := Kd.R_slice HO_9.out
                                      subst eo47
                                      have p236 : 0 ≤ (0 : Int) := (by omega)
                                      have q236 : 0 < (y222.length : Int) := of_decide_eq_true (by first | (with_reducible assumption) | assumption)
                                      obtain ⟨ad236, e236, hx236_0⟩ := Kd.at_string (Kd.R_reads' HO_9.out).2.2 0 p236 q236
                                      cases e236
                                      have qi236 : (0 < y222.length) = True := eq_true (by omega)
                                      (try rw [show ((0 : Int)).toNat = 0 from rfl] at hx236_0)
                                      (try rw [Addr.add_zero'] at hx236_0)
                                      replace p236 := eq_true p236
                                      replace q236 := eq_true q236
                                      go_wp2_with (first | ((with_reducible refine gate_builtin (b := .append) (xs := #[.tmp 103, .tmp 106]) rfl ?_); (try (refine gate_guard (by rfl) ?_; dsimp only)); at_builtin; refine Kd.R_append (Kd.int .i64) (w0 := w) w.heap.size rfl (.tmp 103) (.tmp 106) 31 3 (.int .i64 0) 8 rfl Try.underlying31 info3 rfl (by decide) (by omega) u11 x11_3 ((x10_3 ++ (rdOf ByteArray.empty y222 0)).size : Int) [.int .i64 (((x10_3).size : Int) + ((rdOf ByteArray.empty y222 0).size : Int))] (fun _ => True) (fun _ => False) rfl rfl ?aP (fun _ hk => hk.elim) ?aF ?aO ?aB ?aS ?aL ?_; (case aP => first | exact rfl | (simp only [ByteArray.size_append, Int.natCast_add]; exact rfl)); (case aB => exact (by repeat (first | (with_reducible first | exact HB.out | apply below_alloc | apply pw_below_drewN | apply below_drew1) | exact HB.out))); (case aF => exact (fun _ _ => trivial)); (case aO => exact (by (with_reducible repeat (first | apply Kd.R_alloc | apply Kd.R_drewN | apply Kd.R_drew)); exact HO_11.out)); (case aS => exact (below_size (by repeat (first | (with_reducible first | exact HB.out | apply below_alloc | apply pw_below_drewN | apply below_drew1) | exact HB.out)))); (case aL => exact room8 LMc44.out); intro v238 w48 ho hb hg hat; rw [← Ny237.out] at ho; have n0_ := Aside0.mk (Kd.V_afterv (ok := (fun k_ => some k_ ≠ (.slice (some ad236) y222.length co47 : Value).ownBlock)) (by (with_reducible repeat (first | apply Kd.V_alloc | apply Kd.V_drewN | apply Kd.V_drew)); exact HO_6.out) hg hat); have n1_ := Aside0.mk (Kd.R_over' (by (with_reducible repeat (first | apply Kd.R_alloc | apply Kd.R_drewN | apply Kd.R_drew)); exact HO_9.out) (Kd.R_typed (by (with_reducible repeat (first | apply Kd.R_alloc | apply Kd.R_drewN | apply Kd.R_drew)); exact HO_11.out)) (by decide) hg); have n2_ := Aside0.mk (hb); have n3_ := Aside0.mk (ho); clear HO_6; clear HO_9; clear HB; clear HO_11; have HO_6 := n0_; have HO_9 := n1_; have HB := n2_; have HO239 := n3_; clear n0_ n1_ n2_ n3_; clear ho hb hg hat) | (go_at_call 16; (with_reducible refine (isthmuslaw11_said.calls kj17 a0 _ _ t217 x12_3 t240 _ ?side1 ?side2 A45.out).mono ?_); (case side1 => repeat (first | exact (Kd.V_reads' HO_6.out).2.2 | (with_reducible refine Kd.C_alloc ?_ _) | (with_reducible refine Kd.C_drewN ?_ _) | (with_reducible refine Kd.C_drew ?_))); (case side2 => exact (Kd.V_reads' HO_6.out).2.1); rintro e w' ⟨rfl, ⟨nd, rfl⟩⟩; (try first | exact ⟨rfl, _, World.drewN_drewN _ _ _⟩ | exact ⟨rfl, _, Eq.trans (World.drewN_drewN _ _ _) (congrArg (World.drewN _) (Nat.add_assoc _ _ _))⟩)))
                                      repeat (go_quiet (first | ((with_reducible refine gate_builtin (b := .append) (xs := #[.tmp 103, .tmp 106]) rfl ?_); (try (refine gate_guard (by rfl) ?_; dsimp only)); at_builtin; refine Kd.R_append (Kd.int .i64) (w0 := w) w.heap.size rfl (.tmp 103) (.tmp 106) 31 3 (.int .i64 0) 8 rfl Try.underlying31 info3 rfl (by decide) (by omega) u11 x11_3 ((x10_3 ++ (rdOf ByteArray.empty y222 0)).size : Int) [.int .i64 (((x10_3).size : Int) + ((rdOf ByteArray.empty y222 0).size : Int))] (fun _ => True) (fun _ => False) rfl rfl ?aP (fun _ hk => hk.elim) ?aF ?aO ?aB ?aS ?aL ?_; (case aP => first | exact rfl | (simp only [ByteArray.size_append, Int.natCast_add]; exact rfl)); (case aB => exact (by repeat (first | (with_reducible first | exact HB.out | apply below_alloc | apply pw_below_drewN | apply below_drew1) | exact HB.out))); (case aF => exact (fun _ _ => trivial)); (case aO => exact (by (with_reducible repeat (first | apply Kd.R_alloc | apply Kd.R_drewN | apply Kd.R_drew)); exact HO_11.out)); (case aS => exact (below_size (by repeat (first | (with_reducible first | exact HB.out | apply below_alloc | apply pw_below_drewN | apply below_drew1) | exact HB.out)))); (case aL => exact room8 LMc44.out); intro v238 w48 ho hb hg hat; rw [← Ny237.out] at ho; have n0_ := Aside0.mk (Kd.V_afterv (ok := (fun k_ => some k_ ≠ (.slice (some ad236) y222.length co47 : Value).ownBlock)) (by (with_reducible repeat (first | apply Kd.V_alloc | apply Kd.V_drewN | apply Kd.V_drew)); exact HO_6.out) hg hat); have n1_ := Aside0.mk (Kd.R_over' (by (with_reducible repeat (first | apply Kd.R_alloc | apply Kd.R_drewN | apply Kd.R_drew)); exact HO_9.out) (Kd.R_typed (by (with_reducible repeat (first | apply Kd.R_alloc | apply Kd.R_drewN | apply Kd.R_drew)); exact HO_11.out)) (by decide) hg); have n2_ := Aside0.mk (hb); have n3_ := Aside0.mk (ho); clear HO_6; clear HO_9; clear HB; clear HO_11; have HO_6 := n0_; have HO_9 := n1_; have HB := n2_; have HO239 := n3_; clear n0_ n1_ n2_ n3_; clear ho hb hg hat) | (go_at_call 16; (with_reducible refine (isthmuslaw11_said.calls kj17 a0 _ _ t217 x12_3 t240 _ ?side1 ?side2 A45.out).mono ?_); (case side1 => repeat (first | exact (Kd.V_reads' HO_6.out).2.2 | (with_reducible refine Kd.C_alloc ?_ _) | (with_reducible refine Kd.C_drewN ?_ _) | (with_reducible refine Kd.C_drew ?_))); (case side2 => exact (Kd.V_reads' HO_6.out).2.1); rintro e w' ⟨rfl, ⟨nd, rfl⟩⟩; (try first | exact ⟨rfl, _, World.drewN_drewN _ _ _⟩ | exact ⟨rfl, _, Eq.trans (World.drewN_drewN _ _ _) (congrArg (World.drewN _) (Nat.add_assoc _ _ _))⟩))); try go_wp2_with (first | ((with_reducible refine gate_builtin (b := .append) (xs := #[.tmp 103, .tmp 106]) rfl ?_); (try (refine gate_guard (by rfl) ?_; dsimp only)); at_builtin; refine Kd.R_append (Kd.int .i64) (w0 := w) w.heap.size rfl (.tmp 103) (.tmp 106) 31 3 (.int .i64 0) 8 rfl Try.underlying31 info3 rfl (by decide) (by omega) u11 x11_3 ((x10_3 ++ (rdOf ByteArray.empty y222 0)).size : Int) [.int .i64 (((x10_3).size : Int) + ((rdOf ByteArray.empty y222 0).size : Int))] (fun _ => True) (fun _ => False) rfl rfl ?aP (fun _ hk => hk.elim) ?aF ?aO ?aB ?aS ?aL ?_; (case aP => first | exact rfl | (simp only [ByteArray.size_append, Int.natCast_add]; exact rfl)); (case aB => exact (by repeat (first | (with_reducible first | exact HB.out | apply below_alloc | apply pw_below_drewN | apply below_drew1) | exact HB.out))); (case aF => exact (fun _ _ => trivial)); (case aO => exact (by (with_reducible repeat (first | apply Kd.R_alloc | apply Kd.R_drewN | apply Kd.R_drew)); exact HO_11.out)); (case aS => exact (below_size (by repeat (first | (with_reducible first | exact HB.out | apply below_alloc | apply pw_below_drewN | apply below_drew1) | exact HB.out)))); (case aL => exact room8 LMc44.out); intro v238 w48 ho hb hg hat; rw [← Ny237.out] at ho; have n0_ := Aside0.mk (Kd.V_afterv (ok := (fun k_ => some k_ ≠ (.slice (some ad236) y222.length co47 : Value).ownBlock)) (by (with_reducible repeat (first | apply Kd.V_alloc | apply Kd.V_drewN | apply Kd.V_drew)); exact HO_6.out) hg hat); have n1_ := Aside0.mk (Kd.R_over' (by (with_reducible repeat (first | apply Kd.R_alloc | apply Kd.R_drewN | apply Kd.R_drew)); exact HO_9.out) (Kd.R_typed (by (with_reducible repeat (first | apply Kd.R_alloc | apply Kd.R_drewN | apply Kd.R_drew)); exact HO_11.out)) (by decide) hg); have n2_ := Aside0.mk (hb); have n3_ := Aside0.mk (ho); clear HO_6; clear HO_9; clear HB; clear HO_11; have HO_6 := n0_; have HO_9 := n1_; have HB := n2_; have HO239 := n3_; clear n0_ n1_ n2_ n3_; clear ho hb hg hat) | (go_at_call 16; (with_reducible refine (isthmuslaw11_said.calls kj17 a0 _ _ t217 x12_3 t240 _ ?side1 ?side2 A45.out).mono ?_); (case side1 => repeat (first | exact (Kd.V_reads' HO_6.out).2.2 | (with_reducible refine Kd.C_alloc ?_ _) | (with_reducible refine Kd.C_drewN ?_ _) | (with_reducible refine Kd.C_drew ?_))); (case side2 => exact (Kd.V_reads' HO_6.out).2.1); rintro e w' ⟨rfl, ⟨nd, rfl⟩⟩; (try first | exact ⟨rfl, _, World.drewN_drewN _ _ _⟩ | exact ⟨rfl, _, Eq.trans (World.drewN_drewN _ _ _) (congrArg (World.drewN _) (Nat.add_assoc _ _ _))⟩))))
                                      go_roundg kj17
                                      case measure => have := HJ4.out; have := HJ9.out; have := HK3.out; have := HJ17.out; (try clear c11b0); (try clear c11b1); (try clear c11b2); (try clear c17b0); (try clear c20b0); (try clear c21b0); (try clear c22b0); (try clear c24b0); (try clear c25b0); (try clear c27b0); (try clear c28b0); (try clear c28b1); (try clear c29b0); (try clear c29b1); (try clear c29b2); (try clear c31b0); (try clear c32b0); (try clear c34b0); (try clear c35b0); (try clear c36b0); (try clear c36b1); (try clear c36b2); (try clear c39b0); (try clear c39b1); (try clear c39b8); (try clear c39b9); (try clear c39b2); (try clear c42b0); (try clear c42b1); (try clear c43b0); (try clear c43b1); (try clear c43b2); (try clear c46b0); (try clear c46b1); (try clear c46b8); (try clear c46b9); (try clear c46b2); (try clear c51b0); (try clear c51b1); (try clear c51b2); (try clear c53b0); (try clear c53b1); (try clear c59b0); (try clear c59b1); (try clear c60b0); (try clear c60b1); (try clear c60b2); (try clear c62b0); (try clear c63b0); (try clear c67b0); (try clear c68b0); (try clear c69b0); (try clear c70b0); (try clear c71b0); (try clear c71b1); (try clear c72b0); (try clear c72b1); (try clear c73b0); (try clear c73b1); (try clear c74b0); (try clear c75b0); (try clear c75b1); omega
                                      case rel => exact ⟨((x10_3 ++ (rdOf ByteArray.empty y222 0)) ++ t240), (y237), (wrap64 (x12_3 + 1)), (by first | rfl | (simp; done) | (simp [*]; done)), (by first | rfl | (simp; done) | (simp [*]; done)), H', ⟨by have := HJ4.out; have := HJ9.out; have := HK3.out; have := HJ17.out; (try clear c11b0); (try clear c11b1); (try clear c11b2); (try clear c17b0); (try clear c20b0); (try clear c21b0); (try clear c22b0); (try clear c24b0); (try clear c25b0); (try clear c27b0); (try clear c28b0); (try clear c28b1); (try clear c29b0); (try clear c29b1); (try clear c29b2); (try clear c31b0); (try clear c32b0); (try clear c34b0); (try clear c35b0); (try clear c36b0); (try clear c36b1); (try clear c36b2); (try clear c39b0); (try clear c39b1); (try clear c39b8); (try clear c39b9); (try clear c39b2); (try clear c42b0); (try clear c42b1); (try clear c43b0); (try clear c43b1); (try clear c43b2); (try clear c46b0); (try clear c46b1); (try clear c46b8); (try clear c46b9); (try clear c46b2); (try clear c51b0); (try clear c51b1); (try clear c51b2); (try clear c53b0); (try clear c53b1); (try clear c59b0); (try clear c59b1); (try clear c60b0); (try clear c60b1); (try clear c60b2); (try clear c62b0); (try clear c63b0); (try clear c67b0); (try clear c68b0); (try clear c69b0); (try clear c70b0); (try clear c71b0); (try clear c71b1); (try clear c72b0); (try clear c72b1); (try clear c73b0); (try clear c73b1); (try clear c74b0); (try clear c75b0); (try clear c75b1); omega⟩, ⟨by (with_reducible repeat (first | apply Kd.V_alloc | apply Kd.V_drewN | apply Kd.V_drew)); exact HO_6.out⟩, ⟨by (with_reducible repeat (first | apply Kd.R_alloc | apply Kd.R_drewN | apply Kd.R_drew)); exact HO_9.out⟩, ⟨by (with_reducible repeat (first | apply Kd.R_alloc | apply Kd.R_drewN | apply Kd.R_drew)); exact HO239.out⟩, ⟨by repeat (first | (with_reducible first | exact HB.out | apply below_alloc | apply pw_below_drewN | apply below_drew1) | exact HB.out)⟩⟩
                                    · rw [if_neg c46] at H
                                      exact absurd H (by simp)
                                  · rw [if_neg c44] at H
                                    exact absurd H (by simp)
                                · rw [if_neg c43] at H
                                  exact absurd H (by simp)
                              · rw [if_neg c42] at H
                                exact absurd H (by simp)
                          · rw [if_neg c27] at H
                            have c27b0 : decide (0 < x12_3) = false := decide_eq_false c27
                            clear c27
                            by_cases c49 : x11_3.length < 17592186044416
                            · rw [if_pos c49] at H
                              have LMc49 := Aside0.mk c49
                              clear c49
                              obtain ⟨y241, hy241⟩ : ∃ y_ : List Int, y_ = (x11_3 ++ [(x10_3.size : Int)]) := ⟨_, rfl⟩
                              replace H : ((isthmuslaw11_said.f kj17 a0 t217 x12_3).bind fun t244 => (if x10_3.size + t244.size ≤ 9223372036854775807 then (isthmuslaw11_LexBlanks.l0 kj17 a0 l1 t217 y222 (x10_3 ++ t244) y241 (wrap64 (x12_3 + 1))) else (none))) = some r := by first | (rw [hy241]; with_reducible exact H) | (have H2_ := (Option.bind_some _ _).symm.trans H; rw [hy241]; with_reducible exact H2_) | (have H2_ := (Option.bind_some _ _).symm.trans H; with_reducible exact H2_) | with_reducible exact H | (rw [hy241]; exact H) | exact H
                              have Ny241 := Aside0.mk hy241
                              clear hy241
                              replace H := Option.bind_eq_some_iff.mp H
                              obtain ⟨t244, A500, H⟩ := H
                              replace H : (if x10_3.size + t244.size ≤ 9223372036854775807 then (isthmuslaw11_LexBlanks.l0 kj17 a0 l1 t217 y222 (x10_3 ++ t244) y241 (wrap64 (x12_3 + 1))) else (none)) = some r := H
                              have A50 := Aside0.mk A500
                              clear A500
                              by_cases c51 : x10_3.size + t244.size ≤ 9223372036854775807
                              · rw [if_pos c51] at H
                                have c51b0 := eq_true c51
                                have c51b1 : decide (x10_3.size + t244.size ≤ 9223372036854775807) = true := decide_eq_true c51
                                try have c51b2 : (9223372036854775807 < x10_3.size + t244.size) = False := eq_false (Nat.not_lt.2 c51)
                                have H' := Aside0.mk H
                                clear H
                                go_wp2_with (first | ((with_reducible refine gate_builtin (b := .append) (xs := #[.tmp 103, .tmp 106]) rfl ?_); (try (refine gate_guard (by rfl) ?_; dsimp only)); at_builtin; refine Kd.R_append (Kd.int .i64) (w0 := w) w.heap.size rfl (.tmp 103) (.tmp 106) 31 3 (.int .i64 0) 8 rfl Try.underlying31 info3 rfl (by decide) (by omega) u11 x11_3 (x10_3.size : Int) [.int .i64 (x10_3.size : Int)] (fun _ => True) (fun _ => False) rfl rfl ?aP (fun _ hk => hk.elim) ?aF ?aO ?aB ?aS ?aL ?_; (case aP => exact rfl); (case aB => exact (by repeat (first | (with_reducible first | exact HB.out | apply below_alloc | apply pw_below_drewN | apply below_drew1) | exact HB.out))); (case aF => exact (fun _ _ => trivial)); (case aO => exact (by (with_reducible repeat (first | apply Kd.R_alloc | apply Kd.R_drewN | apply Kd.R_drew)); exact HO_11.out)); (case aS => exact (below_size (by repeat (first | (with_reducible first | exact HB.out | apply below_alloc | apply pw_below_drewN | apply below_drew1) | exact HB.out)))); (case aL => exact room8 LMc49.out); intro v242 w52 ho hb hg hat; rw [← Ny241.out] at ho; have n0_ := Aside0.mk (Kd.V_afterv (ok := (fun k_ => some k_ ≠ (v223 : Value).ownBlock)) (by (with_reducible repeat (first | apply Kd.V_alloc | apply Kd.V_drewN | apply Kd.V_drew)); exact HO_6.out) hg hat); have n1_ := Aside0.mk (Kd.R_over' (by (with_reducible repeat (first | apply Kd.R_alloc | apply Kd.R_drewN | apply Kd.R_drew)); exact HO_9.out) (Kd.R_typed (by (with_reducible repeat (first | apply Kd.R_alloc | apply Kd.R_drewN | apply Kd.R_drew)); exact HO_11.out)) (by decide) hg); have n2_ := Aside0.mk (hb); have n3_ := Aside0.mk (ho); clear HO_6; clear HO_9; clear HB; clear HO_11; have HO_6 := n0_; have HO_9 := n1_; have HB := n2_; have HO243 := n3_; clear n0_ n1_ n2_ n3_; clear ho hb hg hat) | (go_at_call 16; (with_reducible refine (isthmuslaw11_said.calls kj17 a0 _ _ t217 x12_3 t244 _ ?side1 ?side2 A50.out).mono ?_); (case side1 => repeat (first | exact (Kd.V_reads' HO_6.out).2.2 | (with_reducible refine Kd.C_alloc ?_ _) | (with_reducible refine Kd.C_drewN ?_ _) | (with_reducible refine Kd.C_drew ?_))); (case side2 => exact (Kd.V_reads' HO_6.out).2.1); rintro e w' ⟨rfl, ⟨nd, rfl⟩⟩; (try first | exact ⟨rfl, _, World.drewN_drewN _ _ _⟩ | exact ⟨rfl, _, Eq.trans (World.drewN_drewN _ _ _) (congrArg (World.drewN _) (Nat.add_assoc _ _ _))⟩)))
                                repeat (go_quiet (first | ((with_reducible refine gate_builtin (b := .append) (xs := #[.tmp 103, .tmp 106]) rfl ?_); (try (refine gate_guard (by rfl) ?_; dsimp only)); at_builtin; refine Kd.R_append (Kd.int .i64) (w0 := w) w.heap.size rfl (.tmp 103) (.tmp 106) 31 3 (.int .i64 0) 8 rfl Try.underlying31 info3 rfl (by decide) (by omega) u11 x11_3 (x10_3.size : Int) [.int .i64 (x10_3.size : Int)] (fun _ => True) (fun _ => False) rfl rfl ?aP (fun _ hk => hk.elim) ?aF ?aO ?aB ?aS ?aL ?_; (case aP => exact rfl); (case aB => exact (by repeat (first | (with_reducible first | exact HB.out | apply below_alloc | apply pw_below_drewN | apply below_drew1) | exact HB.out))); (case aF => exact (fun _ _ => trivial)); (case aO => exact (by (with_reducible repeat (first | apply Kd.R_alloc | apply Kd.R_drewN | apply Kd.R_drew)); exact HO_11.out)); (case aS => exact (below_size (by repeat (first | (with_reducible first | exact HB.out | apply below_alloc | apply pw_below_drewN | apply below_drew1) | exact HB.out)))); (case aL => exact room8 LMc49.out); intro v242 w52 ho hb hg hat; rw [← Ny241.out] at ho; have n0_ := Aside0.mk (Kd.V_afterv (ok := (fun k_ => some k_ ≠ (v223 : Value).ownBlock)) (by (with_reducible repeat (first | apply Kd.V_alloc | apply Kd.V_drewN | apply Kd.V_drew)); exact HO_6.out) hg hat); have n1_ := Aside0.mk (Kd.R_over' (by (with_reducible repeat (first | apply Kd.R_alloc | apply Kd.R_drewN | apply Kd.R_drew)); exact HO_9.out) (Kd.R_typed (by (with_reducible repeat (first | apply Kd.R_alloc | apply Kd.R_drewN | apply Kd.R_drew)); exact HO_11.out)) (by decide) hg); have n2_ := Aside0.mk (hb); have n3_ := Aside0.mk (ho); clear HO_6; clear HO_9; clear HB; clear HO_11; have HO_6 := n0_; have HO_9 := n1_; have HB := n2_; have HO243 := n3_; clear n0_ n1_ n2_ n3_; clear ho hb hg hat) | (go_at_call 16; (with_reducible refine (isthmuslaw11_said.calls kj17 a0 _ _ t217 x12_3 t244 _ ?side1 ?side2 A50.out).mono ?_); (case side1 => repeat (first | exact (Kd.V_reads' HO_6.out).2.2 | (with_reducible refine Kd.C_alloc ?_ _) | (with_reducible refine Kd.C_drewN ?_ _) | (with_reducible refine Kd.C_drew ?_))); (case side2 => exact (Kd.V_reads' HO_6.out).2.1); rintro e w' ⟨rfl, ⟨nd, rfl⟩⟩; (try first | exact ⟨rfl, _, World.drewN_drewN _ _ _⟩ | exact ⟨rfl, _, Eq.trans (World.drewN_drewN _ _ _) (congrArg (World.drewN _) (Nat.add_assoc _ _ _))⟩))); try go_wp2_with (first | ((with_reducible refine gate_builtin (b := .append) (xs := #[.tmp 103, .tmp 106]) rfl ?_); (try (refine gate_guard (by rfl) ?_; dsimp only)); at_builtin; refine Kd.R_append (Kd.int .i64) (w0 := w) w.heap.size rfl (.tmp 103) (.tmp 106) 31 3 (.int .i64 0) 8 rfl Try.underlying31 info3 rfl (by decide) (by omega) u11 x11_3 (x10_3.size : Int) [.int .i64 (x10_3.size : Int)] (fun _ => True) (fun _ => False) rfl rfl ?aP (fun _ hk => hk.elim) ?aF ?aO ?aB ?aS ?aL ?_; (case aP => exact rfl); (case aB => exact (by repeat (first | (with_reducible first | exact HB.out | apply below_alloc | apply pw_below_drewN | apply below_drew1) | exact HB.out))); (case aF => exact (fun _ _ => trivial)); (case aO => exact (by (with_reducible repeat (first | apply Kd.R_alloc | apply Kd.R_drewN | apply Kd.R_drew)); exact HO_11.out)); (case aS => exact (below_size (by repeat (first | (with_reducible first | exact HB.out | apply below_alloc | apply pw_below_drewN | apply below_drew1) | exact HB.out)))); (case aL => exact room8 LMc49.out); intro v242 w52 ho hb hg hat; rw [← Ny241.out] at ho; have n0_ := Aside0.mk (Kd.V_afterv (ok := (fun k_ => some k_ ≠ (v223 : Value).ownBlock)) (by (with_reducible repeat (first | apply Kd.V_alloc | apply Kd.V_drewN | apply Kd.V_drew)); exact HO_6.out) hg hat); have n1_ := Aside0.mk (Kd.R_over' (by (with_reducible repeat (first | apply Kd.R_alloc | apply Kd.R_drewN | apply Kd.R_drew)); exact HO_9.out) (Kd.R_typed (by (with_reducible repeat (first | apply Kd.R_alloc | apply Kd.R_drewN | apply Kd.R_drew)); exact HO_11.out)) (by decide) hg); have n2_ := Aside0.mk (hb); have n3_ := Aside0.mk (ho); clear HO_6; clear HO_9; clear HB; clear HO_11; have HO_6 := n0_; have HO_9 := n1_; have HB := n2_; have HO243 := n3_; clear n0_ n1_ n2_ n3_; clear ho hb hg hat) | (go_at_call 16; (with_reducible refine (isthmuslaw11_said.calls kj17 a0 _ _ t217 x12_3 t244 _ ?side1 ?side2 A50.out).mono ?_); (case side1 => repeat (first | exact (Kd.V_reads' HO_6.out).2.2 | (with_reducible refine Kd.C_alloc ?_ _) | (with_reducible refine Kd.C_drewN ?_ _) | (with_reducible refine Kd.C_drew ?_))); (case side2 => exact (Kd.V_reads' HO_6.out).2.1); rintro e w' ⟨rfl, ⟨nd, rfl⟩⟩; (try first | exact ⟨rfl, _, World.drewN_drewN _ _ _⟩ | exact ⟨rfl, _, Eq.trans (World.drewN_drewN _ _ _) (congrArg (World.drewN _) (Nat.add_assoc _ _ _))⟩))))
                                go_roundg kj17
                                case measure => have := HJ4.out; have := HJ9.out; have := HK3.out; have := HJ17.out; (try clear c11b0); (try clear c11b1); (try clear c11b2); (try clear c17b0); (try clear c20b0); (try clear c21b0); (try clear c22b0); (try clear c24b0); (try clear c25b0); (try clear c27b0); (try clear c28b0); (try clear c28b1); (try clear c29b0); (try clear c29b1); (try clear c29b2); (try clear c31b0); (try clear c32b0); (try clear c34b0); (try clear c35b0); (try clear c36b0); (try clear c36b1); (try clear c36b2); (try clear c39b0); (try clear c39b1); (try clear c39b8); (try clear c39b9); (try clear c39b2); (try clear c42b0); (try clear c42b1); (try clear c43b0); (try clear c43b1); (try clear c43b2); (try clear c46b0); (try clear c46b1); (try clear c46b8); (try clear c46b9); (try clear c46b2); (try clear c51b0); (try clear c51b1); (try clear c51b2); (try clear c53b0); (try clear c53b1); (try clear c59b0); (try clear c59b1); (try clear c60b0); (try clear c60b1); (try clear c60b2); (try clear c62b0); (try clear c63b0); (try clear c67b0); (try clear c68b0); (try clear c69b0); (try clear c70b0); (try clear c71b0); (try clear c71b1); (try clear c72b0); (try clear c72b1); (try clear c73b0); (try clear c73b1); (try clear c74b0); (try clear c75b0); (try clear c75b1); omega
                                case rel => exact ⟨(x10_3 ++ t244), (y241), (wrap64 (x12_3 + 1)), (by first | rfl | (simp; done) | (simp [*]; done)), (by first | rfl | (simp; done) | (simp [*]; done)), H', ⟨by have := HJ4.out; have := HJ9.out; have := HK3.out; have := HJ17.out; (try clear c11b0); (try clear c11b1); (try clear c11b2); (try clear c17b0); (try clear c20b0); (try clear c21b0); (try clear c22b0); (try clear c24b0); (try clear c25b0); (try clear c27b0); (try clear c28b0); (try clear c28b1); (try clear c29b0); (try clear c29b1); (try clear c29b2); (try clear c31b0); (try clear c32b0); (try clear c34b0); (try clear c35b0); (try clear c36b0); (try clear c36b1); (try clear c36b2); (try clear c39b0); (try clear c39b1); (try clear c39b8); (try clear c39b9); (try clear c39b2); (try clear c42b0); (try clear c42b1); (try clear c43b0); (try clear c43b1); (try clear c43b2); (try clear c46b0); (try clear c46b1); (try clear c46b8); (try clear c46b9); (try clear c46b2); (try clear c51b0); (try clear c51b1); (try clear c51b2); (try clear c53b0); (try clear c53b1); (try clear c59b0); (try clear c59b1); (try clear c60b0); (try clear c60b1); (try clear c60b2); (try clear c62b0); (try clear c63b0); (try clear c67b0); (try clear c68b0); (try clear c69b0); (try clear c70b0); (try clear c71b0); (try clear c71b1); (try clear c72b0); (try clear c72b1); (try clear c73b0); (try clear c73b1); (try clear c74b0); (try clear c75b0); (try clear c75b1); omega⟩, ⟨by (with_reducible repeat (first | apply Kd.V_alloc | apply Kd.V_drewN | apply Kd.V_drew)); exact HO_6.out⟩, ⟨by (with_reducible repeat (first | apply Kd.R_alloc | apply Kd.R_drewN | apply Kd.R_drew)); exact HO_9.out⟩, ⟨by (with_reducible repeat (first | apply Kd.R_alloc | apply Kd.R_drewN | apply Kd.R_drew)); exact HO243.out⟩, ⟨by repeat (first | (with_reducible first | exact HB.out | apply below_alloc | apply pw_below_drewN | apply below_drew1) | exact HB.out)⟩⟩
                              · rw [if_neg c51] at H
                                exact absurd H (by simp)
                            · rw [if_neg c49] at H
                              exact absurd H (by simp)
                  · rw [if_neg c17] at H
                    have c17b0 : decide ((wrap64 (x12_3 + 1)) < (t217.length : Int)) = false := decide_eq_false c17
                    clear c17
                    by_cases c53 : (x10_3.size : Int) > 2000
                    · rw [if_pos c53] at H
                      have c53b0 : decide (2000 < (x10_3.size : Int)) = true := decide_eq_true c53
                      have c53b1 : decide (2000 < x10_3.size) = true := decide_eq_true (by omega)
                      clear c53
                      obtain rfl := Option.some.inj H
                      obtain ⟨Ao54, co54, eo54⟩ := Kd.V_slice HO_6.out
                      subst eo54
                      go_wp2
                      repeat (go_quiet (fail); try go_wp2)
                      go_ret
                      exact ⟨by first | rfl | (simp [errW_none, errW_some] <;> rfl) | (simp [*, errW_none, errW_some] <;> rfl), by repeat (first | (with_reducible first | exact HB.out | apply below_alloc | apply pw_below_drewN | apply below_drew1) | exact HB.out)⟩
                    · rw [if_neg c53] at H
                      have c53b0 : decide (2000 < (x10_3.size : Int)) = false := decide_eq_false c53
                      have c53b1 : decide (2000 < x10_3.size) = false := decide_eq_false (by omega)
                      clear c53
                      replace H := Option.bind_eq_some_iff.mp H
                      obtain ⟨⟨t245, t248, t249⟩, A550, H⟩ := H
                      replace H : (if t248 = 0 then (if (t245.length : Int) = (t217.length : Int) then (if 0 ≤ (wrap64 ((t245.length : Int) - 1)) then (if (wrap64 ((t245.length : Int) - 1)) < (t245.length : Int) then (isthmuslaw11_LexBlanks.j4 k3 t217 x11_3 t245 (((rd_T29 t245 (wrap64 ((t245.length : Int) - 1))).f3) != (x10_3.size : Int))) else (none)) else (none)) else (isthmuslaw11_LexBlanks.j4 k3 t217 x11_3 t245 true)) else (isthmuslaw11_LexBlanks.j4 k3 t217 x11_3 t245 true)) = some r := H
                      have A55 := Aside0.mk A550
                      clear A550
                      have HC56 := Aside0.mk H
                      clear H
                      obtain ⟨Ao57, co57, eo57⟩ := Kd.V_slice HO_6.out
                      subst eo57
                      go_upto_region 25 with (first | (go_at_call 11; (with_reducible refine (lex_Scan.calls k3 x10_3 t245 t248 t249 _ A55.out).mono ?_); rintro e w58 ⟨v246, rfl, ho0, hb⟩; have n0_ := Aside0.mk (Kd.V_below (by (with_reducible repeat (first | apply Kd.V_alloc | apply Kd.V_drewN | apply Kd.V_drew)); exact HO_6.out) hb); have n1_ := Aside0.mk (Kd.R_below (by (with_reducible repeat (first | apply Kd.R_alloc | apply Kd.R_drewN | apply Kd.R_drew)); exact HO_9.out) hb); have n2_ := Aside0.mk (Kd.R_below (by (with_reducible repeat (first | apply Kd.R_alloc | apply Kd.R_drewN | apply Kd.R_drew)); exact HO_11.out) hb); have n3_ := Aside0.mk (Kd.V_lower (Kd.V_mono (ok' := fun k_ => some k_ ≠ (v223 : Value).ownBlock ∧ some k_ ≠ (u11 : Value).ownBlock) ho0 (fun k_ hk_ => ⟨(Kd.fresh' (Kd.R_lt (by (with_reducible repeat (first | apply Kd.R_alloc | apply Kd.R_drewN | apply Kd.R_drew)); exact HO_9.out)) k_ hk_), (Kd.fresh' (Kd.R_lt (by (with_reducible repeat (first | apply Kd.R_alloc | apply Kd.R_drewN | apply Kd.R_drew)); exact HO_11.out)) k_ hk_)⟩)) (below_size (by repeat (first | (with_reducible first | exact HB.out | apply below_alloc | apply pw_below_drewN | apply below_drew1) | exact HB.out)))); have n4_ := Aside0.mk (below_step (by repeat (first | (with_reducible first | exact HB.out | apply below_alloc | apply pw_below_drewN | apply below_drew1) | exact HB.out)) hb); clear HO_6; clear HO_9; clear HO_11; clear HB; have HO_6 := n0_; have HO_9 := n1_; have HO_11 := n2_; have HO247 := n3_; have HB := n4_; clear n0_ n1_ n2_ n3_ n4_; (try clear hb); (try clear hb2); (try clear hk); (try clear hi); (try clear ho0)))
                      repeat (go_quiet (first | (go_at_call 11; (with_reducible refine (lex_Scan.calls k3 x10_3 t245 t248 t249 _ A55.out).mono ?_); rintro e w58 ⟨v246, rfl, ho0, hb⟩; have n0_ := Aside0.mk (Kd.V_below (by (with_reducible repeat (first | apply Kd.V_alloc | apply Kd.V_drewN | apply Kd.V_drew)); exact HO_6.out) hb); have n1_ := Aside0.mk (Kd.R_below (by (with_reducible repeat (first | apply Kd.R_alloc | apply Kd.R_drewN | apply Kd.R_drew)); exact HO_9.out) hb); have n2_ := Aside0.mk (Kd.R_below (by (with_reducible repeat (first | apply Kd.R_alloc | apply Kd.R_drewN | apply Kd.R_drew)); exact HO_11.out) hb); have n3_ := Aside0.mk (Kd.V_lower (Kd.V_mono (ok' := fun k_ => some k_ ≠ (v223 : Value).ownBlock ∧ some k_ ≠ (u11 : Value).ownBlock) ho0 (fun k_ hk_ => ⟨(Kd.fresh' (Kd.R_lt (by (with_reducible repeat (first | apply Kd.R_alloc | apply Kd.R_drewN | apply Kd.R_drew)); exact HO_9.out)) k_ hk_), (Kd.fresh' (Kd.R_lt (by (with_reducible repeat (first | apply Kd.R_alloc | apply Kd.R_drewN | apply Kd.R_drew)); exact HO_11.out)) k_ hk_)⟩)) (below_size (by repeat (first | (with_reducible first | exact HB.out | apply below_alloc | apply pw_below_drewN | apply below_drew1) | exact HB.out)))); have n4_ := Aside0.mk (below_step (by repeat (first | (with_reducible first | exact HB.out | apply below_alloc | apply pw_below_drewN | apply below_drew1) | exact HB.out)) hb); clear HO_6; clear HO_9; clear HO_11; clear HB; have HO_6 := n0_; have HO_9 := n1_; have HO_11 := n2_; have HO247 := n3_; have HB := n4_; clear n0_ n1_ n2_ n3_ n4_; (try clear hb); (try clear hb2); (try clear hk); (try clear hi); (try clear ho0))); go_upto_region 25 with (first | (go_at_call 11; (with_reducible refine (lex_Scan.calls k3 x10_3 t245 t248 t249 _ A55.out).mono ?_); rintro e w58 ⟨v246, rfl, ho0, hb⟩; have n0_ := Aside0.mk (Kd.V_below (by (with_reducible repeat (first | apply Kd.V_alloc | apply Kd.V_drewN | apply Kd.V_drew)); exact HO_6.out) hb); have n1_ := Aside0.mk (Kd.R_below (by (with_reducible repeat (first | apply Kd.R_alloc | apply Kd.R_drewN | apply Kd.R_drew)); exact HO_9.out) hb); have n2_ := Aside0.mk (Kd.R_below (by (with_reducible repeat (first | apply Kd.R_alloc | apply Kd.R_drewN | apply Kd.R_drew)); exact HO_11.out) hb); have n3_ := Aside0.mk (Kd.V_lower (Kd.V_mono (ok' := fun k_ => some k_ ≠ (v223 : Value).ownBlock ∧ some k_ ≠ (u11 : Value).ownBlock) ho0 (fun k_ hk_ => ⟨(Kd.fresh' (Kd.R_lt (by (with_reducible repeat (first | apply Kd.R_alloc | apply Kd.R_drewN | apply Kd.R_drew)); exact HO_9.out)) k_ hk_), (Kd.fresh' (Kd.R_lt (by (with_reducible repeat (first | apply Kd.R_alloc | apply Kd.R_drewN | apply Kd.R_drew)); exact HO_11.out)) k_ hk_)⟩)) (below_size (by repeat (first | (with_reducible first | exact HB.out | apply below_alloc | apply pw_below_drewN | apply below_drew1) | exact HB.out)))); have n4_ := Aside0.mk (below_step (by repeat (first | (with_reducible first | exact HB.out | apply below_alloc | apply pw_below_drewN | apply below_drew1) | exact HB.out)) hb); clear HO_6; clear HO_9; clear HO_11; clear HB; have HO_6 := n0_; have HO_9 := n1_; have HO_11 := n2_; have HO247 := n3_; have HB := n4_; clear n0_ n1_ n2_ n3_ n4_; (try clear hb); (try clear hb2); (try clear hk); (try clear hi); (try clear ho0))))
                      (try simp only [Act.put, List.setIfInBounds_toArray, List.set_cons_zero, List.set_cons_succ])
                      go_cut [143] (fun v143 wc => ∃ (kq : Nat) (x143_55 : Bool), v143 = .bool x143_55 ∧ Aside0 (isthmuslaw11_LexBlanks.j4 kq t217 x11_3 t245 x143_55 = some r) ∧ Aside0 (kq ≤ k3) ∧ Aside0 (Kd.V k29 29 wc w.heap.size (fun k_ => some k_ ≠ (u11 : Value).ownBlock) (.slice Ao57 t217.length co57) t217) ∧ Aside0 (Kd.R (Kd.int .i64) 3 wc w.heap.size (fun _ => True) u11 x11_3) ∧ Aside0 (Kd.V k29 29 wc w.heap.size (fun k_ => some k_ ≠ (u11 : Value).ownBlock) v246 t245) ∧ Aside0 (Below w.heap.size w wc))
                      case first => as_aux_lemma =>
                        have H := HC56.out
                        clear HC56
                        by_cases c59 : t248 = 0
                        · rw [if_pos c59] at H
                          have c59b0 : (t248 == 0) = true := beq_iff_eq.mpr c59
                          have c59b1 : (t248 != 0) = false := bne_eq_false_iff_eq.mpr c59
                          clear c59
                          (first | rw [c59b0] | (simp only [i64_w, i32_w]; rw [c59b0]) | skip)
                          by_cases c60 : (t245.length : Int) = (t217.length : Int)
                          · rw [if_pos c60] at H
                            have c60b0 : ((t245.length : Int) == (t217.length : Int)) = true := beq_iff_eq.mpr c60
                            have c60b1 : ((t245.length : Int) != (t217.length : Int)) = false := bne_eq_false_iff_eq.mpr c60
                            have c60b2 : (t245.length == t217.length) = true := by first | simpa using c60 | (simp at c60 ⊢; omega)
                            clear c60
                            obtain ⟨ji61, hji61⟩ : ∃ j_ : Int, (wrap64 ((t245.length : Int) - 1)) = j_ := ⟨_, rfl⟩
                            replace H : (if 0 ≤ (ji61) then (if (ji61) < (t245.length : Int) then (isthmuslaw11_LexBlanks.j4 k3 t217 x11_3 t245 (((rd_T29 t245 (ji61)).f3) != (x10_3.size : Int))) else (none)) else (none)) = some r := by first | (rw [hji61] at H; exact H) | (simp only [hji61] at H ⊢; exact H)
                            have hji61w : (IntKind.i64.wrap ((t245.length : Int) - 1)) = ji61 := (i64_w _).trans hji61
                            by_cases c62 : 0 ≤ (ji61)
                            · rw [if_pos c62] at H
                              have c62b0 : decide (0 ≤ (ji61)) = true := decide_eq_true c62
                              clear c62
                              by_cases c63 : (ji61) < (t245.length : Int)
                              · rw [if_pos c63] at H
                                have c63b0 : decide ((ji61) < (t245.length : Int)) = true := decide_eq_true c63
                                clear c63
                                have H' := Aside0.mk H
                                clear H
                                obtain ⟨Ao64, co64, eo64⟩ := Kd.V_slice HO247.out
                                subst eo64
                                have p250 : 0 ≤ ((ji61) : Int) := of_decide_eq_true (by first | (with_reducible assumption) | assumption)
                                have q250 : (ji61) < (t245.length : Int) := of_decide_eq_true (by first | (with_reducible assumption) | assumption)
                                obtain ⟨ad250, e250, hx250_0, hx250_1, hx250_2, hx250_3⟩ := at_T29 (Kd.V_reads' HO247.out).2.2 (ji61) p250 q250
                                cases e250
                                replace p250 := eq_true p250
                                replace q250 := eq_true q250
                                go_wp2
                                repeat (go_quiet (fail); try go_wp2)
                                go_meet
                                case rel => exact ⟨_, ((((rd_T29 t245 (ji61)).f3) != (x10_3.size : Int))), (by first | rfl | (simp; done) | (simp only [← hji61] <;> (first | rfl | simp)) | (simp [*]; done)), H', ⟨by have := HJ4.out; have := HJ9.out; have := HK3.out; first | omega | exact Nat.le_refl _⟩, ⟨by (with_reducible repeat (first | apply Kd.V_alloc | apply Kd.V_drewN | apply Kd.V_drew)); exact Kd.V_mono HO_6.out (fun _ hk => hk.2)⟩, ⟨by (with_reducible repeat (first | apply Kd.R_alloc | apply Kd.R_drewN | apply Kd.R_drew)); exact HO_11.out⟩, ⟨by (with_reducible repeat (first | apply Kd.V_alloc | apply Kd.V_drewN | apply Kd.V_drew)); exact Kd.V_mono HO247.out (fun _ hk => hk.2)⟩, ⟨by repeat (first | (with_reducible first | exact HB.out | apply below_alloc | apply pw_below_drewN | apply below_drew1) | exact HB.out)⟩⟩
                              · rw [if_neg c63] at H
                                exact absurd H (by simp)
                            · rw [if_neg c62] at H
                              exact absurd H (by simp)
                          · rw [if_neg c60] at H
                            have c60b0 : ((t245.length : Int) == (t217.length : Int)) = false := beq_eq_false_iff_ne.mpr c60
                            have c60b1 : ((t245.length : Int) != (t217.length : Int)) = true := bne_iff_ne.mpr c60
                            have c60b2 : (t245.length == t217.length) = false := by first | simpa using c60 | (simp at c60 ⊢; omega)
                            have H' := Aside0.mk H
                            clear H
                            obtain ⟨Ao65, co65, eo65⟩ := Kd.V_slice HO247.out
                            subst eo65
                            go_wp2
                            repeat (go_quiet (fail); try go_wp2)
                            go_meet
                            case rel => exact ⟨_, (true), (by first | rfl | (simp; done) | (simp [*]; done)), H', ⟨by have := HJ4.out; have := HJ9.out; have := HK3.out; first | omega | exact Nat.le_refl _⟩, ⟨by (with_reducible repeat (first | apply Kd.V_alloc | apply Kd.V_drewN | apply Kd.V_drew)); exact Kd.V_mono HO_6.out (fun _ hk => hk.2)⟩, ⟨by (with_reducible repeat (first | apply Kd.R_alloc | apply Kd.R_drewN | apply Kd.R_drew)); exact HO_11.out⟩, ⟨by (with_reducible repeat (first | apply Kd.V_alloc | apply Kd.V_drewN | apply Kd.V_drew)); exact Kd.V_mono HO247.out (fun _ hk => hk.2)⟩, ⟨by repeat (first | (with_reducible first | exact HB.out | apply below_alloc | apply pw_below_drewN | apply below_drew1) | exact HB.out)⟩⟩
                        · rw [if_neg c59] at H
                          have c59b0 : (t248 == 0) = false := beq_eq_false_iff_ne.mpr c59
                          have c59b1 : (t248 != 0) = true := bne_iff_ne.mpr c59
                          (first | rw [c59b0] | (simp only [i64_w, i32_w]; rw [c59b0]) | skip)
                          have H' := Aside0.mk H
                          clear H
                          go_wp2
                          repeat (go_quiet (fail); try go_wp2)
                          go_meet
                          case rel => exact ⟨_, (true), (by first | rfl | (simp; done) | (simp [*]; done)), H', ⟨by have := HJ4.out; have := HJ9.out; have := HK3.out; first | omega | exact Nat.le_refl _⟩, ⟨by (with_reducible repeat (first | apply Kd.V_alloc | apply Kd.V_drewN | apply Kd.V_drew)); exact Kd.V_mono HO_6.out (fun _ hk => hk.2)⟩, ⟨by (with_reducible repeat (first | apply Kd.R_alloc | apply Kd.R_drewN | apply Kd.R_drew)); exact HO_11.out⟩, ⟨by (with_reducible repeat (first | apply Kd.V_alloc | apply Kd.V_drewN | apply Kd.V_drew)); exact Kd.V_mono HO247.out (fun _ hk => hk.2)⟩, ⟨by repeat (first | (with_reducible first | exact HB.out | apply below_alloc | apply pw_below_drewN | apply below_drew1) | exact HB.out)⟩⟩
                      case rest =>
                        clear HC56
                        try clear c1
                        try clear c2
                        try clear p2
                        try clear q2
                        try clear hx2
                        try clear qi2
                        try clear c3
                        try clear c4
                        try clear c5
                        try clear c6
                        try clear p6
                        try clear c8
                        try clear c9
                        try clear c11
                        try clear c11b0
                        try clear c11b1
                        try clear c11b2
                        try clear c14
                        try clear c17
                        try clear c17b0
                        try clear c20
                        try clear c20b0
                        try clear c21
                        try clear c21b0
                        try clear c22
                        try clear c22b0
                        try clear p22
                        try clear q22
                        try clear hx22
                        try clear p23
                        try clear q23
                        try clear hx23
                        try clear qi23
                        try clear c24
                        try clear c24b0
                        try clear c25
                        try clear c25b0
                        try clear p25
                        try clear q25
                        try clear hx25
                        try clear c26
                        try clear c27
                        try clear c27b0
                        try clear c28
                        try clear c28b0
                        try clear c28b1
                        try clear c29
                        try clear c29b0
                        try clear c29b1
                        try clear c29b2
                        try clear c31
                        try clear c31b0
                        try clear c32
                        try clear c32b0
                        try clear c34
                        try clear c34b0
                        try clear c35
                        try clear c35b0
                        try clear c36
                        try clear c36b0
                        try clear c36b1
                        try clear c36b2
                        try clear c37
                        try clear c39
                        try clear c39b0
                        try clear c39b1
                        try clear c39b2
                        try clear c42
                        try clear c42b0
                        try clear c42b1
                        try clear c43
                        try clear c43b0
                        try clear c43b1
                        try clear c43b2
                        try clear c44
                        try clear c46
                        try clear c46b0
                        try clear c46b1
                        try clear c46b2
                        try clear c49
                        try clear c51
                        try clear c51b0
                        try clear c51b1
                        try clear c51b2
                        try clear c53
                        try clear c53b0
                        try clear c53b1
                        try clear c59
                        try clear c59b0
                        try clear c59b1
                        try clear c60
                        try clear c60b0
                        try clear c60b1
                        try clear c60b2
                        try clear c62
                        try clear c62b0
                        try clear c63
                        try clear c63b0
                        try clear p64
                        try clear hx225_0
                        try clear hx225_1
                        try clear hx225_2
                        try clear hx225_3
                        try clear hx226_0
                        try clear hx226_1
                        try clear hx226_2
                        try clear hx226_3
                        try clear hx227_0
                        try clear hx227_1
                        try clear hx227_2
                        try clear hx227_3
                        try clear hx228_0
                        try clear hx228_1
                        try clear hx228_2
                        try clear hx228_3
                        try clear hx229_0
                        try clear hx231_0
                        try clear hx236_0
                        try clear hx250_0
                        try clear hx250_1
                        try clear hx250_2
                        try clear hx250_3
                        try clear p2
                        try clear p22
                        try clear p225
                        try clear p226
                        try clear p227
                        try clear p228
                        try clear p229
                        try clear p231
                        try clear p236
                        try clear p250
                        try clear p6
                        try clear q2
                        try clear q22
                        try clear q225
                        try clear q226
                        try clear q227
                        try clear q228
                        try clear q229
                        try clear q231
                        try clear q236
                        try clear q250
                        obtain ⟨kq, x143_55, rfl, HA, HJ55, HO_6, HO_11, HO_14, HB⟩ := hcut
                        cases kq with
                        | zero => exact absurd HA.out (by simp [isthmuslaw11_LexBlanks.j4])
                        | succ kj55 =>
                          have H := HA.out
                          clear HA
                          simp only [isthmuslaw11_LexBlanks.j4] at H
                          by_cases c66 : x143_55 = true
                          · subst c66
                            have H1 : (some false) = some r := by rw [if_pos rfl] at H; exact H
                            clear H
                            have H := H1
                            clear H1
                            obtain rfl := Option.some.inj H
                            go_wp2
                            repeat (go_quiet (fail); try go_wp2)
                            go_ret
                            exact ⟨by first | rfl | (simp [errW_none, errW_some] <;> rfl) | (simp [*, errW_none, errW_some] <;> rfl), by repeat (first | (with_reducible first | exact HB.out | apply below_alloc | apply pw_below_drewN | apply below_drew1) | exact HB.out)⟩
                          · replace c66 := Bool.eq_false_iff.mpr c66
                            subst c66
                            have H1 : (isthmuslaw11_LexBlanks.l1 kj55 t217 x11_3 t245 0) = some r := by rw [if_neg (show ¬ (false = true) by decide)] at H; exact H
                            clear H
                            have H := H1
                            clear H1
                            have H' := Aside0.mk H
                            clear H
                            go_wp2
                            repeat (go_quiet (fail); try go_wp2)
                            go_loopg [17] kj55 (fun kq v17 w' => ∃ (x17_5 : Int), v17 = .int .i64 x17_5 ∧ Aside0 (isthmuslaw11_LexBlanks.l1 kq t217 x11_3 t245 x17_5 = some r) ∧ Aside0 (kq ≤ kj55) ∧ Aside0 (Kd.V k29 29 w' w.heap.size (fun k_ => some k_ ≠ (u11 : Value).ownBlock) (.slice Ao57 t217.length co57) t217) ∧ Aside0 (Kd.R (Kd.int .i64) 3 w' w.heap.size (fun _ => True) u11 x11_3) ∧ Aside0 (Kd.V k29 29 w' w.heap.size (fun k_ => some k_ ≠ (u11 : Value).ownBlock) v246 t245) ∧ Aside0 (Below w.heap.size w w'))
                            case atStart => exact ⟨(0), (by first | rfl | (simp; done) | (simp [*]; done)), H', ⟨Nat.le_refl _⟩, ⟨by (with_reducible repeat (first | apply Kd.V_alloc | apply Kd.V_drewN | apply Kd.V_drew)); exact HO_6.out⟩, ⟨by (with_reducible repeat (first | apply Kd.R_alloc | apply Kd.R_drewN | apply Kd.R_drew)); exact HO_11.out⟩, ⟨by (with_reducible repeat (first | apply Kd.V_alloc | apply Kd.V_drewN | apply Kd.V_drew)); exact HO_14.out⟩, ⟨by repeat (first | (with_reducible first | exact HB.out | apply below_alloc | apply pw_below_drewN | apply below_drew1) | exact HB.out)⟩⟩
                            case round => as_aux_lemma =>
                              clear H'
                              try clear c1
                              try clear c2
                              try clear p2
                              try clear q2
                              try clear hx2
                              try clear qi2
                              try clear c3
                              try clear c4
                              try clear c5
                              try clear c6
                              try clear p6
                              try clear c8
                              try clear c9
                              try clear c11
                              try clear c11b0
                              try clear c11b1
                              try clear c11b2
                              try clear c14
                              try clear c17
                              try clear c17b0
                              try clear c20
                              try clear c20b0
                              try clear c21
                              try clear c21b0
                              try clear c22
                              try clear c22b0
                              try clear p22
                              try clear q22
                              try clear hx22
                              try clear p23
                              try clear q23
                              try clear hx23
                              try clear qi23
                              try clear c24
                              try clear c24b0
                              try clear c25
                              try clear c25b0
                              try clear p25
                              try clear q25
                              try clear hx25
                              try clear c26
                              try clear c27
                              try clear c27b0
                              try clear c28
                              try clear c28b0
                              try clear c28b1
                              try clear c29
                              try clear c29b0
                              try clear c29b1
                              try clear c29b2
                              try clear c31
                              try clear c31b0
                              try clear c32
                              try clear c32b0
                              try clear c34
                              try clear c34b0
                              try clear c35
                              try clear c35b0
                              try clear c36
                              try clear c36b0
                              try clear c36b1
                              try clear c36b2
                              try clear c37
                              try clear c39
                              try clear c39b0
                              try clear c39b1
                              try clear c39b2
                              try clear c42
                              try clear c42b0
                              try clear c42b1
                              try clear c43
                              try clear c43b0
                              try clear c43b1
                              try clear c43b2
                              try clear c44
                              try clear c46
                              try clear c46b0
                              try clear c46b1
                              try clear c46b2
                              try clear c49
                              try clear c51
                              try clear c51b0
                              try clear c51b1
                              try clear c51b2
                              try clear c53
                              try clear c53b0
                              try clear c53b1
                              try clear c59
                              try clear c59b0
                              try clear c59b1
                              try clear c60
                              try clear c60b0
                              try clear c60b1
                              try clear c60b2
                              try clear c62
                              try clear c62b0
                              try clear c63
                              try clear c63b0
                              try clear p64
                              try clear c66
                              try clear hx225_0
                              try clear hx225_1
                              try clear hx225_2
                              try clear hx225_3
                              try clear hx226_0
                              try clear hx226_1
                              try clear hx226_2
                              try clear hx226_3
                              try clear hx227_0
                              try clear hx227_1
                              try clear hx227_2
                              try clear hx227_3
                              try clear hx228_0
                              try clear hx228_1
                              try clear hx228_2
                              try clear hx228_3
                              try clear hx229_0
                              try clear hx231_0
                              try clear hx236_0
                              try clear hx250_0
                              try clear hx250_1
                              try clear hx250_2
                              try clear hx250_3
                              try clear p2
                              try clear p22
                              try clear p225
                              try clear p226
                              try clear p227
                              try clear p228
                              try clear p229
                              try clear p23
                              try clear p231
                              try clear p236
                              try clear p25
                              try clear p250
                              try clear p6
                              try clear p64
                              try clear q2
                              try clear q22
                              try clear q225
                              try clear q226
                              try clear q227
                              try clear q228
                              try clear q229
                              try clear q23
                              try clear q231
                              try clear q236
                              try clear q25
                              try clear q250
                              obtain ⟨x17_5, rfl, HA, HK5, HO_6, HO_11, HO_14, HB⟩ := hrel
                              cases gk with
                              | zero => exact absurd HA.out (by simp [isthmuslaw11_LexBlanks.l1])
                              | succ k5 =>
                                have H := HA.out
                                clear HA
                                simp only [isthmuslaw11_LexBlanks.l1] at H
                                by_cases c67 : (wrap64 (x17_5 + 1)) < (t217.length : Int)
                                · rw [if_pos c67] at H
                                  have c67b0 : decide ((wrap64 (x17_5 + 1)) < (t217.length : Int)) = true := decide_eq_true c67
                                  clear c67
                                  by_cases c68 : 0 ≤ x17_5
                                  · rw [if_pos c68] at H
                                    have c68b0 : decide (0 ≤ x17_5) = true := decide_eq_true c68
                                    clear c68
                                    by_cases c69 : x17_5 < (t245.length : Int)
                                    · rw [if_pos c69] at H
                                      have c69b0 : decide (x17_5 < (t245.length : Int)) = true := decide_eq_true c69
                                      clear c69
                                      by_cases c70 : x17_5 < (t217.length : Int)
                                      · rw [if_pos c70] at H
                                        have c70b0 : decide (x17_5 < (t217.length : Int)) = true := decide_eq_true c70
                                        clear c70
                                        by_cases c71 : ((rd_T29 t245 x17_5).f0) = ((rd_T29 t217 x17_5).f0)
                                        · rw [if_pos c71] at H
                                          have c71b0 : (((rd_T29 t245 x17_5).f0) == ((rd_T29 t217 x17_5).f0)) = true := beq_iff_eq.mpr c71
                                          have c71b1 : (((rd_T29 t245 x17_5).f0) != ((rd_T29 t217 x17_5).f0)) = false := bne_eq_false_iff_eq.mpr c71
                                          clear c71
                                          by_cases c72 : ((rd_T29 t245 x17_5).f1) = ((rd_T29 t217 x17_5).f1)
                                          · rw [if_pos c72] at H
                                            have c72b0 : (((rd_T29 t245 x17_5).f1) == ((rd_T29 t217 x17_5).f1)) = true := beq_iff_eq.mpr c72
                                            have c72b1 : (((rd_T29 t245 x17_5).f1) != ((rd_T29 t217 x17_5).f1)) = false := bne_eq_false_iff_eq.mpr c72
                                            clear c72
                                            by_cases c73 : ((rd_T29 t245 x17_5).f2).toList = ((rd_T29 t217 x17_5).f2).toList
                                            · rw [if_pos c73] at H
                                              have c73b0 : (((rd_T29 t245 x17_5).f2).toList == ((rd_T29 t217 x17_5).f2).toList) = true := beq_iff_eq.mpr c73
                                              have c73b1 : (((rd_T29 t245 x17_5).f2).toList != ((rd_T29 t217 x17_5).f2).toList) = false := bne_eq_false_iff_eq.mpr c73
                                              clear c73
                                              by_cases c74 : x17_5 < (x11_3.length : Int)
                                              · rw [if_pos c74] at H
                                                have c74b0 : decide (x17_5 < (x11_3.length : Int)) = true := decide_eq_true c74
                                                clear c74
                                                by_cases c75 : ((rd_T29 t245 x17_5).f3) = (rd x11_3 x17_5)
                                                · rw [if_pos c75] at H
                                                  have c75b0 : (((rd_T29 t245 x17_5).f3) == (rd x11_3 x17_5)) = true := beq_iff_eq.mpr c75
                                                  have c75b1 : (((rd_T29 t245 x17_5).f3) != (rd x11_3 x17_5)) = false := bne_eq_false_iff_eq.mpr c75
                                                  clear c75
                                                  have H' := Aside0.mk H
                                                  clear H
                                                  obtain ⟨Ao76, co76, eo76⟩ := Kd.V_slice HO_14.out
                                                  subst eo76
                                                  have p251 : 0 ≤ (x17_5 : Int) := of_decide_eq_true (by first | (with_reducible assumption) | assumption)
                                                  have q251 : x17_5 < (t245.length : Int) := of_decide_eq_true (by first | (with_reducible assumption) | assumption)
                                                  obtain ⟨ad251, e251, hx251_0, hx251_1, hx251_2, hx251_3⟩ := at_T29 (Kd.V_reads' HO_14.out).2.2 x17_5 p251 q251
                                                  cases e251
                                                  replace p251 := eq_true p251
                                                  replace q251 := eq_true q251
                                                  have p252 : 0 ≤ (x17_5 : Int) := of_decide_eq_true (by first | (with_reducible assumption) | assumption)
                                                  have q252 : x17_5 < (t217.length : Int) := of_decide_eq_true (by first | (with_reducible assumption) | assumption)
                                                  obtain ⟨ad252, e252, hx252_0, hx252_1, hx252_2, hx252_3⟩ := at_T29 (Kd.V_reads' HO_6.out).2.2 x17_5 p252 q252
                                                  cases e252
                                                  replace p252 := eq_true p252
                                                  replace q252 := eq_true q252
                                                  have p253 : 0 ≤ (x17_5 : Int) := of_decide_eq_true (by first | (with_reducible assumption) | assumption)
                                                  have q253 : x17_5 < (t245.length : Int) := of_decide_eq_true (by first | (with_reducible assumption) | assumption)
                                                  obtain ⟨ad253, e253, hx253_0, hx253_1, hx253_2, hx253_3⟩ := at_T29 (Kd.V_reads' HO_14.out).2.2 x17_5 p253 q253
                                                  obtain rfl : ad251 = ad253 := (by injection e253)
                                                  replace p253 := eq_true p253
                                                  replace q253 := eq_true q253
                                                  have p254 : 0 ≤ (x17_5 : Int) := of_decide_eq_true (by first | (with_reducible assumption) | assumption)
                                                  have q254 : x17_5 < (t217.length : Int) := of_decide_eq_true (by first | (with_reducible assumption) | assumption)
                                                  obtain ⟨ad254, e254, hx254_0, hx254_1, hx254_2, hx254_3⟩ := at_T29 (Kd.V_reads' HO_6.out).2.2 x17_5 p254 q254
                                                  obtain rfl : ad252 = ad254 := (by injection e254)
                                                  replace p254 := eq_true p254
                                                  replace q254 := eq_true q254
                                                  have p255 : 0 ≤ (x17_5 : Int) := of_decide_eq_true (by first | (with_reducible assumption) | assumption)
                                                  have q255 : x17_5 < (t245.length : Int) := of_decide_eq_true (by first | (with_reducible assumption) | assumption)
                                                  obtain ⟨ad255, e255, hx255_0, hx255_1, hx255_2, hx255_3⟩ := at_T29 (Kd.V_reads' HO_14.out).2.2 x17_5 p255 q255
                                                  obtain rfl : ad251 = ad255 := (by injection e255)
                                                  replace p255 := eq_true p255
                                                  replace q255 := eq_true q255
                                                  have p256 : 0 ≤ (x17_5 : Int) := of_decide_eq_true (by first | (with_reducible assumption) | assumption)
                                                  have q256 : x17_5 < (t217.length : Int) := of_decide_eq_true (by first | (with_reducible assumption) | assumption)
                                                  obtain ⟨ad256, e256, hx256_0, hx256_1, hx256_2, hx256_3⟩ := at_T29 (Kd.V_reads' HO_6.out).2.2 x17_5 p256 q256
                                                  obtain rfl : ad252 = ad256 := (by injection e256)
                                                  replace p256 := eq_true p256
                                                  replace q256 := eq_true q256
                                                  have p257 : 0 ≤ (x17_5 : Int) := of_decide_eq_true (by first | (with_reducible assumption) | assumption)
                                                  have q257 : x17_5 < (t245.length : Int) := of_decide_eq_true (by first | (with_reducible assumption) | assumption)
                                                  obtain ⟨ad257, e257, hx257_0, hx257_1, hx257_2, hx257_3⟩ := at_T29 (Kd.V_reads' HO_14.out).2.2 x17_5 p257 q257
                                                  obtain rfl : ad251 = ad257 := (by injection e257)
                                                  replace p257 := eq_true p257
                                                  replace q257 := eq_true q257
                                                  obtain ⟨Ao77, co77, eo77⟩ := Kd.R_slice HO_11.out
                                                  subst eo77
                                                  have p258 : 0 ≤ (x17_5 : Int) := of_decide_eq_true (by first | (with_reducible assumption) | assumption)
                                                  have q258 : x17_5 < (x11_3.length : Int) := of_decide_eq_true (by first | (with_reducible assumption) | assumption)
                                                  obtain ⟨ad258, e258, hx258_0⟩ := Kd.at_int (Kd.R_reads' HO_11.out).2.2 x17_5 p258 q258
                                                  cases e258
                                                  replace p258 := eq_true p258
                                                  replace q258 := eq_true q258
                                                  go_wp2
                                                  repeat (go_quiet (fail); try go_wp2)
                                                  go_roundg k5
                                                  case measure => have := HJ4.out; have := HJ9.out; have := HK3.out; have := HJ55.out; have := HK5.out; (try clear c11b0); (try clear c11b1); (try clear c11b2); (try clear c17b0); (try clear c20b0); (try clear c21b0); (try clear c22b0); (try clear c24b0); (try clear c25b0); (try clear c27b0); (try clear c28b0); (try clear c28b1); (try clear c29b0); (try clear c29b1); (try clear c29b2); (try clear c31b0); (try clear c32b0); (try clear c34b0); (try clear c35b0); (try clear c36b0); (try clear c36b1); (try clear c36b2); (try clear c39b0); (try clear c39b1); (try clear c39b8); (try clear c39b9); (try clear c39b2); (try clear c42b0); (try clear c42b1); (try clear c43b0); (try clear c43b1); (try clear c43b2); (try clear c46b0); (try clear c46b1); (try clear c46b8); (try clear c46b9); (try clear c46b2); (try clear c51b0); (try clear c51b1); (try clear c51b2); (try clear c53b0); (try clear c53b1); (try clear c59b0); (try clear c59b1); (try clear c60b0); (try clear c60b1); (try clear c60b2); (try clear c62b0); (try clear c63b0); (try clear c67b0); (try clear c68b0); (try clear c69b0); (try clear c70b0); (try clear c71b0); (try clear c71b1); (try clear c72b0); (try clear c72b1); (try clear c73b0); (try clear c73b1); (try clear c74b0); (try clear c75b0); (try clear c75b1); omega
                                                  case rel => exact ⟨(wrap64 (x17_5 + 1)), (by first | rfl | (simp; done) | (simp [*]; done)), H', ⟨by have := HJ4.out; have := HJ9.out; have := HK3.out; have := HJ55.out; have := HK5.out; (try clear c11b0); (try clear c11b1); (try clear c11b2); (try clear c17b0); (try clear c20b0); (try clear c21b0); (try clear c22b0); (try clear c24b0); (try clear c25b0); (try clear c27b0); (try clear c28b0); (try clear c28b1); (try clear c29b0); (try clear c29b1); (try clear c29b2); (try clear c31b0); (try clear c32b0); (try clear c34b0); (try clear c35b0); (try clear c36b0); (try clear c36b1); (try clear c36b2); (try clear c39b0); (try clear c39b1); (try clear c39b8); (try clear c39b9); (try clear c39b2); (try clear c42b0); (try clear c42b1); (try clear c43b0); (try clear c43b1); (try clear c43b2); (try clear c46b0); (try clear c46b1); (try clear c46b8); (try clear c46b9); (try clear c46b2); (try clear c51b0); (try clear c51b1); (try clear c51b2); (try clear c53b0); (try clear c53b1); (try clear c59b0); (try clear c59b1); (try clear c60b0); (try clear c60b1); (try clear c60b2); (try clear c62b0); (try clear c63b0); (try clear c67b0); (try clear c68b0); (try clear c69b0); (try clear c70b0); (try clear c71b0); (try clear c71b1); (try clear c72b0); (try clear c72b1); (try clear c73b0); (try clear c73b1); (try clear c74b0); (try clear c75b0); (try clear c75b1); omega⟩, ⟨by (with_reducible repeat (first | apply Kd.V_alloc | apply Kd.V_drewN | apply Kd.V_drew)); exact HO_6.out⟩, ⟨by (with_reducible repeat (first | apply Kd.R_alloc | apply Kd.R_drewN | apply Kd.R_drew)); exact HO_11.out⟩, ⟨by (with_reducible repeat (first | apply Kd.V_alloc | apply Kd.V_drewN | apply Kd.V_drew)); exact HO_14.out⟩, ⟨by repeat (first | (with_reducible first | exact HB.out | apply below_alloc | apply pw_below_drewN | apply below_drew1) | exact HB.out)⟩⟩
                                                · rw [if_neg c75] at H
                                                  have c75b0 : (((rd_T29 t245 x17_5).f3) == (rd x11_3 x17_5)) = false := beq_eq_false_iff_ne.mpr c75
                                                  have c75b1 : (((rd_T29 t245 x17_5).f3) != (rd x11_3 x17_5)) = true := bne_iff_ne.mpr c75
                                                  obtain rfl := Option.some.inj H
                                                  obtain ⟨Ao78, co78, eo78⟩ := Kd.V_slice HO_14.out
                                                  subst eo78
                                                  have p251 : 0 ≤ (x17_5 : Int) := of_decide_eq_true (by first | (with_reducible assumption) | assumption)
                                                  have q251 : x17_5 < (t245.length : Int) := of_decide_eq_true (by first | (with_reducible assumption) | assumption)
                                                  obtain ⟨ad251, e251, hx251_0, hx251_1, hx251_2, hx251_3⟩ := at_T29 (Kd.V_reads' HO_14.out).2.2 x17_5 p251 q251
                                                  cases e251
                                                  replace p251 := eq_true p251
                                                  replace q251 := eq_true q251
                                                  have p252 : 0 ≤ (x17_5 : Int) := of_decide_eq_true (by first | (with_reducible assumption) | assumption)
                                                  have q252 : x17_5 < (t217.length : Int) := of_decide_eq_true (by first | (with_reducible assumption) | assumption)
                                                  obtain ⟨ad252, e252, hx252_0, hx252_1, hx252_2, hx252_3⟩ := at_T29 (Kd.V_reads' HO_6.out).2.2 x17_5 p252 q252
                                                  cases e252
                                                  replace p252 := eq_true p252
                                                  replace q252 := eq_true q252
                                                  have p253 : 0 ≤ (x17_5 : Int) := of_decide_eq_true (by first | (with_reducible assumption) | assumption)
                                                  have q253 : x17_5 < (t245.length : Int) := of_decide_eq_true (by first | (with_reducible assumption) | assumption)
                                                  obtain ⟨ad253, e253, hx253_0, hx253_1, hx253_2, hx253_3⟩ := at_T29 (Kd.V_reads' HO_14.out).2.2 x17_5 p253 q253
                                                  obtain rfl : ad251 = ad253 := (by injection e253)
                                                  replace p253 := eq_true p253
                                                  replace q253 := eq_true q253
                                                  have p254 : 0 ≤ (x17_5 : Int) := of_decide_eq_true (by first | (with_reducible assumption) | assumption)
                                                  have q254 : x17_5 < (t217.length : Int) := of_decide_eq_true (by first | (with_reducible assumption) | assumption)
                                                  obtain ⟨ad254, e254, hx254_0, hx254_1, hx254_2, hx254_3⟩ := at_T29 (Kd.V_reads' HO_6.out).2.2 x17_5 p254 q254
                                                  obtain rfl : ad252 = ad254 := (by injection e254)
                                                  replace p254 := eq_true p254
                                                  replace q254 := eq_true q254
                                                  have p255 : 0 ≤ (x17_5 : Int) := of_decide_eq_true (by first | (with_reducible assumption) | assumption)
                                                  have q255 : x17_5 < (t245.length : Int) := of_decide_eq_true (by first | (with_reducible assumption) | assumption)
                                                  obtain ⟨ad255, e255, hx255_0, hx255_1, hx255_2, hx255_3⟩ := at_T29 (Kd.V_reads' HO_14.out).2.2 x17_5 p255 q255
                                                  obtain rfl : ad251 = ad255 := (by injection e255)
                                                  replace p255 := eq_true p255
                                                  replace q255 := eq_true q255
                                                  have p256 : 0 ≤ (x17_5 : Int) := of_decide_eq_true (by first | (with_reducible assumption) | assumption)
                                                  have q256 : x17_5 < (t217.length : Int) := of_decide_eq_true (by first | (with_reducible assumption) | assumption)
                                                  obtain ⟨ad256, e256, hx256_0, hx256_1, hx256_2, hx256_3⟩ := at_T29 (Kd.V_reads' HO_6.out).2.2 x17_5 p256 q256
                                                  obtain rfl : ad252 = ad256 := (by injection e256)
                                                  replace p256 := eq_true p256
                                                  replace q256 := eq_true q256
                                                  have p257 : 0 ≤ (x17_5 : Int) := of_decide_eq_true (by first | (with_reducible assumption) | assumption)
                                                  have q257 : x17_5 < (t245.length : Int) := of_decide_eq_true (by first | (with_reducible assumption) | assumption)
                                                  obtain ⟨ad257, e257, hx257_0, hx257_1, hx257_2, hx257_3⟩ := at_T29 (Kd.V_reads' HO_14.out).2.2 x17_5 p257 q257
                                                  obtain rfl : ad251 = ad257 := (by injection e257)
                                                  replace p257 := eq_true p257
                                                  replace q257 := eq_true q257
                                                  obtain ⟨Ao79, co79, eo79⟩ := Kd.R_slice HO_11.out
                                                  subst eo79
                                                  have p258 : 0 ≤ (x17_5 : Int) := of_decide_eq_true (by first | (with_reducible assumption) | assumption)
                                                  have q258 : x17_5 < (x11_3.length : Int) := of_decide_eq_true (by first | (with_reducible assumption) | assumption)
                                                  obtain ⟨ad258, e258, hx258_0⟩ := Kd.at_int (Kd.R_reads' HO_11.out).2.2 x17_5 p258 q258
                                                  cases e258
                                                  replace p258 := eq_true p258
                                                  replace q258 := eq_true q258
                                                  go_wp2
                                                  repeat (go_quiet (fail); try go_wp2)
                                                  go_ret
                                                  exact ⟨by first | rfl | (simp [errW_none, errW_some] <;> rfl) | (simp [*, errW_none, errW_some] <;> rfl), by repeat (first | (with_reducible first | exact HB.out | apply below_alloc | apply pw_below_drewN | apply below_drew1) | exact HB.out)⟩
                                              · rw [if_neg c74] at H
                                                exact absurd H (by simp)
                                            · rw [if_neg c73] at H
                                              have c73b0 : (((rd_T29 t245 x17_5).f2).toList == ((rd_T29 t217 x17_5).f2).toList) = false := beq_eq_false_iff_ne.mpr c73
                                              have c73b1 : (((rd_T29 t245 x17_5).f2).toList != ((rd_T29 t217 x17_5).f2).toList) = true := bne_iff_ne.mpr c73
                                              obtain rfl := Option.some.inj H
                                              obtain ⟨Ao80, co80, eo80⟩ := Kd.V_slice HO_14.out
                                              subst eo80
                                              have p251 : 0 ≤ (x17_5 : Int) := of_decide_eq_true (by first | (with_reducible assumption) | assumption)
                                              have q251 : x17_5 < (t245.length : Int) := of_decide_eq_true (by first | (with_reducible assumption) | assumption)
                                              obtain ⟨ad251, e251, hx251_0, hx251_1, hx251_2, hx251_3⟩ := at_T29 (Kd.V_reads' HO_14.out).2.2 x17_5 p251 q251
                                              cases e251
                                              replace p251 := eq_true p251
                                              replace q251 := eq_true q251
                                              have p252 : 0 ≤ (x17_5 : Int) := of_decide_eq_true (by first | (with_reducible assumption) | assumption)
                                              have q252 : x17_5 < (t217.length : Int) := of_decide_eq_true (by first | (with_reducible assumption) | assumption)
                                              obtain ⟨ad252, e252, hx252_0, hx252_1, hx252_2, hx252_3⟩ := at_T29 (Kd.V_reads' HO_6.out).2.2 x17_5 p252 q252
                                              cases e252
                                              replace p252 := eq_true p252
                                              replace q252 := eq_true q252
                                              have p253 : 0 ≤ (x17_5 : Int) := of_decide_eq_true (by first | (with_reducible assumption) | assumption)
                                              have q253 : x17_5 < (t245.length : Int) := of_decide_eq_true (by first | (with_reducible assumption) | assumption)
                                              obtain ⟨ad253, e253, hx253_0, hx253_1, hx253_2, hx253_3⟩ := at_T29 (Kd.V_reads' HO_14.out).2.2 x17_5 p253 q253
                                              obtain rfl : ad251 = ad253 := (by injection e253)
                                              replace p253 := eq_true p253
                                              replace q253 := eq_true q253
                                              have p254 : 0 ≤ (x17_5 : Int) := of_decide_eq_true (by first | (with_reducible assumption) | assumption)
                                              have q254 : x17_5 < (t217.length : Int) := of_decide_eq_true (by first | (with_reducible assumption) | assumption)
                                              obtain ⟨ad254, e254, hx254_0, hx254_1, hx254_2, hx254_3⟩ := at_T29 (Kd.V_reads' HO_6.out).2.2 x17_5 p254 q254
                                              obtain rfl : ad252 = ad254 := (by injection e254)
                                              replace p254 := eq_true p254
                                              replace q254 := eq_true q254
                                              have p255 : 0 ≤ (x17_5 : Int) := of_decide_eq_true (by first | (with_reducible assumption) | assumption)
                                              have q255 : x17_5 < (t245.length : Int) := of_decide_eq_true (by first | (with_reducible assumption) | assumption)
                                              obtain ⟨ad255, e255, hx255_0, hx255_1, hx255_2, hx255_3⟩ := at_T29 (Kd.V_reads' HO_14.out).2.2 x17_5 p255 q255
                                              obtain rfl : ad251 = ad255 := (by injection e255)
                                              replace p255 := eq_true p255
                                              replace q255 := eq_true q255
                                              have p256 : 0 ≤ (x17_5 : Int) := of_decide_eq_true (by first | (with_reducible assumption) | assumption)
                                              have q256 : x17_5 < (t217.length : Int) := of_decide_eq_true (by first | (with_reducible assumption) | assumption)
                                              obtain ⟨ad256, e256, hx256_0, hx256_1, hx256_2, hx256_3⟩ := at_T29 (Kd.V_reads' HO_6.out).2.2 x17_5 p256 q256
                                              obtain rfl : ad252 = ad256 := (by injection e256)
                                              replace p256 := eq_true p256
                                              replace q256 := eq_true q256
                                              go_wp2
                                              repeat (go_quiet (fail); try go_wp2)
                                              go_ret
                                              exact ⟨by first | rfl | (simp [errW_none, errW_some] <;> rfl) | (simp [*, errW_none, errW_some] <;> rfl), by repeat (first | (with_reducible first | exact HB.out | apply below_alloc | apply pw_below_drewN | apply below_drew1) | exact HB.out)⟩
                                          · rw [if_neg c72] at H
                                            have c72b0 : (((rd_T29 t245 x17_5).f1) == ((rd_T29 t217 x17_5).f1)) = false := beq_eq_false_iff_ne.mpr c72
                                            have c72b1 : (((rd_T29 t245 x17_5).f1) != ((rd_T29 t217 x17_5).f1)) = true := bne_iff_ne.mpr c72
                                            obtain rfl := Option.some.inj H
                                            obtain ⟨Ao81, co81, eo81⟩ := Kd.V_slice HO_14.out
                                            subst eo81
                                            have p251 : 0 ≤ (x17_5 : Int) := of_decide_eq_true (by first | (with_reducible assumption) | assumption)
                                            have q251 : x17_5 < (t245.length : Int) := of_decide_eq_true (by first | (with_reducible assumption) | assumption)
                                            obtain ⟨ad251, e251, hx251_0, hx251_1, hx251_2, hx251_3⟩ := at_T29 (Kd.V_reads' HO_14.out).2.2 x17_5 p251 q251
                                            cases e251
                                            replace p251 := eq_true p251
                                            replace q251 := eq_true q251
                                            have p252 : 0 ≤ (x17_5 : Int) := of_decide_eq_true (by first | (with_reducible assumption) | assumption)
                                            have q252 : x17_5 < (t217.length : Int) := of_decide_eq_true (by first | (with_reducible assumption) | assumption)
                                            obtain ⟨ad252, e252, hx252_0, hx252_1, hx252_2, hx252_3⟩ := at_T29 (Kd.V_reads' HO_6.out).2.2 x17_5 p252 q252
                                            cases e252
                                            replace p252 := eq_true p252
                                            replace q252 := eq_true q252
                                            have p253 : 0 ≤ (x17_5 : Int) := of_decide_eq_true (by first | (with_reducible assumption) | assumption)
                                            have q253 : x17_5 < (t245.length : Int) := of_decide_eq_true (by first | (with_reducible assumption) | assumption)
                                            obtain ⟨ad253, e253, hx253_0, hx253_1, hx253_2, hx253_3⟩ := at_T29 (Kd.V_reads' HO_14.out).2.2 x17_5 p253 q253
                                            obtain rfl : ad251 = ad253 := (by injection e253)
                                            replace p253 := eq_true p253
                                            replace q253 := eq_true q253
                                            have p254 : 0 ≤ (x17_5 : Int) := of_decide_eq_true (by first | (with_reducible assumption) | assumption)
                                            have q254 : x17_5 < (t217.length : Int) := of_decide_eq_true (by first | (with_reducible assumption) | assumption)
                                            obtain ⟨ad254, e254, hx254_0, hx254_1, hx254_2, hx254_3⟩ := at_T29 (Kd.V_reads' HO_6.out).2.2 x17_5 p254 q254
                                            obtain rfl : ad252 = ad254 := (by injection e254)
                                            replace p254 := eq_true p254
                                            replace q254 := eq_true q254
                                            go_wp2
                                            repeat (go_quiet (fail); try go_wp2)
                                            go_ret
                                            exact ⟨by first | rfl | (simp [errW_none, errW_some] <;> rfl) | (simp [*, errW_none, errW_some] <;> rfl), by repeat (first | (with_reducible first | exact HB.out | apply below_alloc | apply pw_below_drewN | apply below_drew1) | exact HB.out)⟩
                                        · rw [if_neg c71] at H
                                          have c71b0 : (((rd_T29 t245 x17_5).f0) == ((rd_T29 t217 x17_5).f0)) = false := beq_eq_false_iff_ne.mpr c71
                                          have c71b1 : (((rd_T29 t245 x17_5).f0) != ((rd_T29 t217 x17_5).f0)) = true := bne_iff_ne.mpr c71
                                          obtain rfl := Option.some.inj H
                                          obtain ⟨Ao82, co82, eo82⟩ := Kd.V_slice HO_14.out
                                          subst eo82
                                          have p251 : 0 ≤ (x17_5 : Int) := of_decide_eq_true (by first | (with_reducible assumption) | assumption)
                                          have q251 : x17_5 < (t245.length : Int) := of_decide_eq_true (by first | (with_reducible assumption) | assumption)
                                          obtain ⟨ad251, e251, hx251_0, hx251_1, hx251_2, hx251_3⟩ := at_T29 (Kd.V_reads' HO_14.out).2.2 x17_5 p251 q251
                                          cases e251
                                          replace p251 := eq_true p251
                                          replace q251 := eq_true q251
                                          have p252 : 0 ≤ (x17_5 : Int) := of_decide_eq_true (by first | (with_reducible assumption) | assumption)
                                          have q252 : x17_5 < (t217.length : Int) := of_decide_eq_true (by first | (with_reducible assumption) | assumption)
                                          obtain ⟨ad252, e252, hx252_0, hx252_1, hx252_2, hx252_3⟩ := at_T29 (Kd.V_reads' HO_6.out).2.2 x17_5 p252 q252
                                          cases e252
                                          replace p252 := eq_true p252
                                          replace q252 := eq_true q252
                                          go_wp2
                                          repeat (go_quiet (fail); try go_wp2)
                                          go_ret
                                          exact ⟨by first | rfl | (simp [errW_none, errW_some] <;> rfl) | (simp [*, errW_none, errW_some] <;> rfl), by repeat (first | (with_reducible first | exact HB.out | apply below_alloc | apply pw_below_drewN | apply below_drew1) | exact HB.out)⟩
                                      · rw [if_neg c70] at H
                                        exact absurd H (by simp)
                                    · rw [if_neg c69] at H
                                      exact absurd H (by simp)
                                  · rw [if_neg c68] at H
                                    exact absurd H (by simp)
                                · rw [if_neg c67] at H
                                  have c67b0 : decide ((wrap64 (x17_5 + 1)) < (t217.length : Int)) = false := decide_eq_false c67
                                  clear c67
                                  obtain rfl := Option.some.inj H
                                  go_wp2
                                  repeat (go_quiet (fail); try go_wp2)
                                  go_ret
                                  exact ⟨by first | rfl | (simp [errW_none, errW_some] <;> rfl) | (simp [*, errW_none, errW_some] <;> rfl), by repeat (first | (with_reducible first | exact HB.out | apply below_alloc | apply pw_below_drewN | apply below_drew1) | exact HB.out)⟩

/-- THE ONE PURE STATEMENT of isthmuslaw11_LexBlanks: yours. -/
def isthmuslaw11_LexBlanks.Pure : Prop := ∀ (a0 : ByteArray) (l1 : List Int), a0.size ≤ 140737488351232 → l1.length ≤ maxLen → l1.length * 8 ≤ 140737488351232 → (∀ x ∈ l1, (Lit.int .i64 x).wf = true) → ∃ k, isthmuslaw11_LexBlanks.f k a0 l1 = some true
theorem isthmuslaw11_LexBlanks.walk (P : isthmuslaw11_LexBlanks.Pure) (a0 : ByteArray) (a1 : Option Addr) (len1 cap1 : Nat) (z1 : List Int) (w : World) (w0 : a0.size ≤ 140737488351232) (w1 : (a1 = none ∧ len1 = 0 ∧ cap1 = 0 ∧ z1 = []) ∨ ∃ x, a1 = some x ∧ len1 ≤ cap1 ∧ cap1 ≤ maxLen ∧ z1.length = cap1 ∧ (∀ i, i < z1.length → w.cell? (x.add i) = some (.int .i64 (z1.getD i 0))) ∧ ∀ n ∈ z1, (Lit.int .i64 n).wf = true) (y1 : len1 * 8 ≤ 140737488351232) :
    Calls Try.prog 5 #[.string a0, .slice a1 len1 cap1] w fun e w' => e = .returned (.bool true) ∧ Below w.heap.size w w' := by
  obtain ⟨l1, rfl, hr1, hm1, hw1, hc1⟩ := ReadsInt.ofRowC w1
  obtain ⟨k, h⟩ := P a0 l1 w0 hm1 y1 hw1
  refine (isthmuslaw11_LexBlanks.calls k a0 _ _ l1 true w (Kd.C_of_reads (d := (0 : Int)) (h1 := fun _ => rfl) hr1) hc1 h).mono ?_
  rintro e w' ⟨rfl, hd⟩
  exact ⟨rfl, hd⟩

end Go.Proofs.Ytijcoddbkefmlaa.L
