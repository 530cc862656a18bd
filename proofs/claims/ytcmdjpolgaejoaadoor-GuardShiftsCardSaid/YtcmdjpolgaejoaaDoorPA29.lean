/- The laws GuardBounds, GuardShifts, GuardCut of the program hold, as their cards say: texts put together by a program, 30 of 35. -/
import Derived.Test.YtcmdjpolgaejoaaDoorPA11
import Derived.Test.YtcmdjpolgaejoaaDoorPA24
import Derived.Test.YtcmdjpolgaejoaaDoorPA26
import Derived.Test.YtcmdjpolgaejoaaDoorPA28
import Derived.Outline
import Derived.Test.YtcmdjpolgaejoaaDoorRows
import Derived.ProofKit
import Derived.LaidMore
import Derived.OpenShut
import Derived.Stop.Joined
namespace Go.Proofs.YtcmdjpolgaejoaaDoor.Gd
open Go.RowKit Go.Proofs.YtcmdjpolgaejoaaDoorW.PrintWords Go.Proofs.YtcmdjpolgaejoaaDoorW.PrintMore Go.Proofs.YtcmdjpolgaejoaaDoor.D Go.Proofs.YtcmdjpolgaejoaaDoor.PackBits
set_option linter.unusedVariables false
set_option linter.unusedSimpArgs false
theorem mask32 {x : Int} (h0 : 0 ≤ x) (h : x < 18446744073709551616) : bits .and .u64 x 4294967295 = x % 4294967296 := mask_u64 32 (by omega) h0 h
theorem mul_f {x y : Int} (x0 : 0 ≤ x) (x1 : x ≤ 4611686018427387904) (y0 : 0 ≤ y) (y1 : y < 4294967296) :
  ∃ hi lo, bits_Mul64.f x y = some (hi, lo) ∧ (x * y ≤ 4611686018427387904 → hi = 0 ∧ lo = x * y) ∧ (¬ x * y ≤ 4611686018427387904 → hi > 0 ∨ lo > 4611686018427387904) := by
 refine ⟨_, _, rfl, ?_⟩
 rw [mask32 x0 (by omega), mask32 y0 (by omega), Int.emod_eq_of_lt y0 y1, Int.ediv_eq_zero_of_lt y0 y1]
 have ha : 0 ≤ x / 4294967296 ∧ x / 4294967296 ≤ 1073741824 := by omega
 have hb : 0 ≤ x % 4294967296 ∧ x % 4294967296 < 4294967296 := by omega
 have hx : x = 4294967296 * (x / 4294967296) + x % 4294967296 := by omega
 generalize x / 4294967296 = a at *
 generalize x % 4294967296 = b at *
 have hp0 : 0 ≤ a * y := Int.mul_nonneg ha.1 y0
 have hp1 : a * y ≤ 1073741824 * 4294967296 := Int.mul_le_mul ha.2 (by omega) y0 (by omega)
 have hq0 : 0 ≤ b * y := Int.mul_nonneg hb.1 y0
 have hq1 : b * y ≤ 4294967295 * 4294967295 := Int.mul_le_mul (by omega) (by omega) y0 (by omega)
 have hxy : x * y = 4294967296 * (a * y) + b * y := by rw [hx, Int.add_mul, Int.mul_assoc]
 rw [hxy]
 simp only [Int.mul_zero, wrap_u64]
 generalize a * y = p at *
 generalize b * y = q at *
 have e1 : p % 18446744073709551616 = p := by omega
 have e2 : q % 18446744073709551616 = q := by omega
 have e3 : (p + q / 4294967296) % 18446744073709551616 = p + q / 4294967296 := by omega
 simp only [e1, e2, e3]
 rw [mask32 (by omega) (by omega)]
 constructor <;> intro h
 ·constructor <;> omega
 ·omega
theorem w64i {n : Int} (h0 : -9223372036854775808 ≤ n) (h : n < 9223372036854775808) : wrap64 n = n := by unfold wrap64; omega
theorem bound_l (v r : Int) : ∀ (d : Nat) (i out : Int) (k : Nat), 0 ≤ i → i + d = mn (mx r 0) 4 → mn (mx r 0) 4 ≤ 4 → 0 ≤ out → out ≤ 4611686018427387904 → 0 ≤ mn (mx v 0) 2147483648 → mn (mx v 0) 2147483648 ≤ 2147483648 → d < k →
  ∃ n, guard_Bound.l0 k v out (mn (mx r 0) 4) i = some n ∧ isthmusref20_Bound.l0 k r out (mn (mx v 0) 2147483648 + 1) i = some n ∧ 0 ≤ n ∧ n ≤ 4611686018427387904
 | 0, i, out, k, hi0, hi, h4, o0, o1, v0, v1, hk => by
  obtain ⟨k, rfl⟩ : ∃ m, k = m + 1 := ⟨k - 1, by omega⟩
  rw [guard_Bound.l0, isthmusref20_Bound.l0, if_neg (by omega), if_neg (by omega), w64i (by omega) (by omega)]
  refine ⟨out, rfl, ?_, o0, o1⟩
  simp [mn]
  omega
 | d + 1, i, out, k, hi0, hi, h4, o0, o1, v0, v1, hk => by
  obtain ⟨k, rfl⟩ : ∃ m, k = m + 1 := ⟨k - 1, by omega⟩
  rw [guard_Bound.l0, isthmusref20_Bound.l0, if_pos (by omega), if_pos (by omega)]
  obtain ⟨hiw, lo, e, h1, h2⟩ := mul_f o0 o1 (show 0 ≤ mn (mx v 0) 2147483648 + 1 by omega) (by omega)
  rw [e, Option.bind_some]
  simp only
  generalize hV : mn (mx v 0) 2147483648 = V at *
  have V1 : 0 < V + 1 := by omega
  have ei : wrap64 (i + 1) = i + 1 := w64i (by omega) (by omega)
  rw [ei]
  clear ei
  by_cases hz : out > 0
  ·rw [if_pos hz, if_neg (show ¬ out = 0 by omega)]
   have hdiv : (V + 1 > wrap64 (4611686018427387904 / out)) ↔ ¬ out * (V + 1) ≤ 4611686018427387904 := by
    have hd0 : 0 ≤ 4611686018427387904 / out := Int.ediv_nonneg (by omega) (by omega)
    have hd1 : 4611686018427387904 / out ≤ 4611686018427387904 := Int.ediv_le_self _ (by omega)
    rw [w64i (by omega) (by omega), Int.mul_comm, ← Int.le_ediv_iff_mul_le hz]
    omega
   by_cases hle : out * (V + 1) ≤ 4611686018427387904
   ·obtain ⟨rfl, rfl⟩ := h1 hle
    have hp : 0 ≤ out * (V + 1) := Int.mul_nonneg o0 (by omega)
    rw [if_neg (by omega), if_neg (by omega), if_neg (by rw [hdiv]; exact fun h => h hle), w64i (by omega) (by omega)]
    have := bound_l v r d (i + 1) (out * (V + 1)) k (by omega) (by omega) h4 hp hle (by omega) (by omega) (by omega)
    rwa [hV] at this
   ·rw [if_pos (hdiv.2 hle)]
    refine ⟨4611686018427387904, ?_, rfl, by omega, by omega⟩
    rcases h2 hle with h | h
    ·rw [if_pos h]
    ·by_cases g : hiw > 0
     ·rw [if_pos g]
     ·rw [if_neg g, if_pos h]
  ·have h0 : out = 0 := by omega
   subst h0
   rw [if_neg hz]
   obtain ⟨rfl, rfl⟩ := h1 (by omega)
   rw [if_neg (by omega), if_neg (by omega)]
   rw [Int.zero_mul, w64i (by omega) (by omega)]
   have := bound_l v r d (i + 1) 0 k (by omega) (by omega) h4 (by omega) (by omega) (by omega) (by omega) (by omega)
   rwa [hV] at this
theorem mn_le (a b : Int) : mn a b ≤ b := by simp [mn]; omega
theorem mn_nn {a b : Int} (ha : 0 ≤ a) (hb : 0 ≤ b) : 0 ≤ mn a b := by simp [mn]; omega
theorem mx_nn (a : Int) : 0 ≤ mx a 0 := by simp [mx]; omega
theorem bound_f (ws r v : Int) {k : Nat} (hk : 5 ≤ k) : ∃ n, guard_Bound.f k ws r v = some n ∧ isthmusref20_Bound.f k ws r v = some n ∧ 0 ≤ n ∧ n ≤ 4611686018427387904 := by
 unfold guard_Bound.f isthmusref20_Bound.f
 have h4 := mn_le (mx r 0) 4
 have h0 := mn_nn (mx_nn r) (show (0 : Int) ≤ 4 by decide)
 have w0 := mn_nn (mx_nn ws) (show (0 : Int) ≤ 2147483648 by decide)
 have w1 := mn_le (mx ws 0) 2147483648
 have v0 := mn_nn (mx_nn v) (show (0 : Int) ≤ 2147483648 by decide)
 have v1 := mn_le (mx v 0) 2147483648
 exact bound_l v r (mn (mx r 0) 4).toNat 0 _ k (by omega) (by omega) h4 w0 (by omega) v0 v1 (by omega)
end Go.Proofs.YtcmdjpolgaejoaaDoor.Gd
namespace Go.Proofs.YtcmdjpolgaejoaaDoor.Gd
open Go.RowKit Go.Proofs.YtcmdjpolgaejoaaDoorW.PrintWords Go.Proofs.YtcmdjpolgaejoaaDoorW.PrintLast Go.Proofs.YtcmdjpolgaejoaaDoorW.PrintMore Go.Proofs.YtcmdjpolgaejoaaDoor.Code Go.Proofs.YtcmdjpolgaejoaaDoor.C
set_option linter.unusedVariables false
set_option linter.unusedSimpArgs false
theorem bound250 : D.guard_Bound.f 5 10 2 4 = some 250 := by decide +kernel
abbrev rawC1 : Array Value := #[.int .i64 1, .int .i64 0, .int .i64 1, .int .i64 1, .int .i64 1, .int .i64 1, .int .i64 6, .int .i64 0, .int .i64 0, .int .i64 0, .int .i64 0, .int .i64 0]
abbrev rawC2 : Array Value := #[.int .i64 6, .int .i64 0, .int .i64 0, .int .i64 0, .int .i64 0, .int .i64 0]
theorem raws1_C (w : World) : Kd.C kRaw (w.alloc (.cells rawC1 54)) (some ⟨w.heap.size, 0, none⟩) awRaws.length awRaws := by
 have hr2 : Kd.R kRaw 54 (w.alloc (.cells rawC1 54)) w.heap.size (fun _ => True) (.slice (some ⟨w.heap.size, 0, none⟩) 4 4) awRaws :=
  ⟨fun _ _ => trivial, _, ⟨rfl, .inr ⟨_, 4, _, rfl, Nat.le_refl _, heap_alloc_new _ _, Nat.le_refl _, by decide, rfl, rfl⟩⟩, ⟨rfl, fun j p hp => by
   match j with
   | 0 => obtain rfl := Option.some.inj hp; exact kRaw_mkM _ _ _ ⟨1, 0, 1⟩
   | 1 => obtain rfl := Option.some.inj hp; exact kRaw_mkM _ _ _ ⟨1, 1, 1⟩
   | 2 => obtain rfl := Option.some.inj hp; exact kRaw_mkM _ _ _ ⟨6, 0, 0⟩
   | 3 => obtain rfl := Option.some.inj hp; exact kRaw_mkM _ _ _ ⟨0, 0, 0⟩
   | j + 4 => simp [awRaws] at hp⟩⟩
 obtain ⟨A0, c0, ev, hlc0, hC0⟩ := Kd.R_reads hr2
 injection ev with ea en ec
 subst ea
 exact hC0
theorem raws2_C (w : World) : Kd.C kRaw (w.alloc (.cells rawC2 54)) (some ⟨w.heap.size, 0, none⟩) awRaws2.length awRaws2 := by
 have hr2 : Kd.R kRaw 54 (w.alloc (.cells rawC2 54)) w.heap.size (fun _ => True) (.slice (some ⟨w.heap.size, 0, none⟩) 2 2) awRaws2 :=
  ⟨fun _ _ => trivial, _, ⟨rfl, .inr ⟨_, 2, _, rfl, Nat.le_refl _, heap_alloc_new _ _, Nat.le_refl _, by decide, rfl, rfl⟩⟩, ⟨rfl, fun j p hp => by
   match j with
   | 0 => obtain rfl := Option.some.inj hp; exact kRaw_mkM _ _ _ ⟨6, 0, 0⟩
   | 1 => obtain rfl := Option.some.inj hp; exact kRaw_mkM _ _ _ ⟨0, 0, 0⟩
   | j + 2 => simp [awRaws2] at hp⟩⟩
 obtain ⟨A0, c0, ev, hlc0, hC0⟩ := Kd.R_reads hr2
 injection ev with ea en ec
 subst ea
 exact hC0
theorem ints_C (w : World) (l : List Int) (hl : l.length < 1000) : Kd.C (Kd.int .i64) (w.alloc (.cells (l.map (Value.int .i64)).toArray 3)) (some ⟨w.heap.size, 0, none⟩) l.length l := by
 have hl1 : (w.alloc (.cells (l.map (Value.int .i64)).toArray 3)).ownsRow w.heap.size 3 1 (.slice (some ⟨w.heap.size, 0, none⟩) l.length l.length) l.length (nums .i64 l) := ⟨by simp [nums], .inr ⟨_, l.length, _, rfl, Nat.le_refl _, heap_alloc_new _ _, Nat.le_refl _, Nat.le_trans (Nat.le_of_lt hl) (by decide), by simp, by rw [Nat.mul_one]; simp only [nums]; exact List.take_of_length_le (by simp)⟩⟩
 obtain ⟨A1, c1, ev, hlc1, hC1⟩ := Kd.R_reads (Kd.R_of_own (h1 := fun _ => rfl) (ok := fun _ => True) hl1 (fun _ _ => trivial))
 injection ev with ea en ec
 subst ea
 exact hC1
abbrev codeC (A0 : Option Addr) (c0 n0 : Nat) (A1 : Option Addr) (c1 n1 : Nat) (A2 : Option Addr) (c2 n2 : Nat) (A3 : Option Addr) (c3 n3 : Nat) : Array Value := #[.slice A0 n0 c0, .slice A1 n1 c1, .slice A2 n2 c2, .slice A3 n3 c3]
abbrev limC (s r k : Int) : Array Value := #[.int .i64 s, .int .i64 r, .int .i64 k]
set_option maxHeartbeats 8000000 in
set_option maxRecDepth 100000 in
theorem awake_calls (w : World) (hG : Glob w) : Calls Tryd.prog 9 #[] w fun e w' => e = .returned (.bool true) ∧ Below w.heap.size w w' := by
 have HG := Aside0.mk hG
 clear hG
 have z1 : (w.alloc (.cells rawC1 54)).heap.size = w.heap.size + 1 := by simp
 have hC0 := raws1_C w
 have hC1 := ints_C (w.alloc (.cells rawC1 54)) [1, 2] (by decide)
 rw [z1] at hC1
 have hb1 := below_alloc (Below.refl (w.alloc (.cells rawC1 54)).heap.size (w.alloc (.cells rawC1 54))) (.cells (([1, 2] : List Int).map (Value.int .i64)).toArray 3)
 have hb2 := below_alloc (below_alloc (Below.refl w.heap.size w) (.cells rawC1 54)) (.cells (([1, 2] : List Int).map (Value.int .i64)).toArray 3)
 have HC0 := Aside0.mk (Kd.C_below hC0 hb1)
 have HC1 := Aside0.mk hC1
 have HB0 := Aside0.mk hb2
 clear hC0 hC1 hb1 hb2 z1
 have F1 := Aside0.mk awc1
 have F2 := Aside0.mk aw1
 go_enter Tryd.func9, Tryd.ntmps9
 go_wp2_with (first
  | (go_at_call 14; (refine (isthmuslaw18_Code.calls (some ⟨w.heap.size, 0, none⟩) 4 awRaws (some ⟨w.heap.size + 1, 0, none⟩) 2 [1, 2] none 0 [] none 0 [] true awWs _ HC0.out (by decide) F1.out).mono ?_); rintro e w1 ⟨v0, rfl, hR, hb⟩; obtain ⟨Aw, cw, rfl, hlw, hCw⟩ := Kd.R_reads hR; have HB1 := Aside0.mk (below_step HB0.out hb); have HC7 := Aside0.mk (Kd.C_below HC1.out hb); have HCW := Aside0.mk hCw; have HLW := Aside0.mk hlw; have bx0 := heap_alloc_new w1 (.cells (codeC Aw cw 4 (some ⟨w.heap.size + 1, 0, none⟩) 2 2 none 0 0 none 0 0) 26); have y0 := blk_cell bx0 0; have y1 := blk_cell bx0 1; have y2 := blk_cell bx0 2; have y3 := blk_cell bx0 3; have HX := Aside0.mk (below_alloc (Below.refl w1.heap.size w1) (.cells (codeC Aw cw 4 (some ⟨w.heap.size + 1, 0, none⟩) 2 2 none 0 0 none 0 0) 26)); clear hR hb hCw hlw F1 bx0)
  | (go_at_call 12; (refine (verify_at Aw cw awWs (some ⟨w.heap.size + 1, 0, none⟩) 2 [1, 2] none 0 [] none 0 [] 2 0 1 0 0 _ (Kd.C_below HCW.out HX.out) HLW.out (Kd.C_below HC7.out HX.out) (by decide) (Kd.C_nil _ _) (Nat.le_refl _) (Kd.C_nil _ _) (Nat.le_refl _) awu1 (HG.out.below (below_then HB1.out HB1.out.size HX.out)) F2.out).mono ?_); rintro e w2 ⟨rfl, hb⟩; have HB2 := Aside0.mk (below_then (below_then HB1.out HB1.out.size HX.out) (below_then HB1.out HB1.out.size HX.out).size hb); have bl := heap_alloc_new w2 (.cells (limC 2 0 1) 29); have BL := Aside0.mk (blk_alloc bl (.cells rawC2 54)); have hr := raws2_C (w2.alloc (.cells (limC 2 0 1) 29)); have z2 : (w2.alloc (.cells (limC 2 0 1) 29)).heap.size = w2.heap.size + 1 := (by simp); rw [z2] at hr; have HR2 := Aside0.mk hr; have HB3 := Aside0.mk (below_alloc (below_alloc HB2.out (.cells (limC 2 0 1) 29)) (.cells rawC2 54)); have G1 := Aside0.mk awc2; clear hr z2 bl hb F2 HX HCW HLW HC7 HB1)
  | (go_at_call 14; have G2 := Aside0.mk aw2; (refine (isthmuslaw18_Code.calls (some ⟨w2.heap.size + 1, 0, none⟩) 2 awRaws2 none 0 [] none 0 [] none 0 [] true awWs2 _ HR2.out (by decide) G1.out).mono ?_); rintro e w3 ⟨v3, rfl, hR, hb⟩; obtain ⟨Aw2, cw2, rfl, hlw, hCw⟩ := Kd.R_reads hR; have HB4 := Aside0.mk (below_step HB3.out hb); have BL2 := Aside0.mk (blk_below BL.out hb); have HCW := Aside0.mk hCw; have HLW := Aside0.mk hlw; have bx0 := heap_alloc_new w3 (.cells (codeC Aw2 cw2 2 none 0 0 none 0 0 none 0 0) 26); have y0 := blk_cell bx0 0; have y1 := blk_cell bx0 1; have y2 := blk_cell bx0 2; have y3 := blk_cell bx0 3; have HX := Aside0.mk (below_alloc (Below.refl w3.heap.size w3) (.cells (codeC Aw2 cw2 2 none 0 0 none 0 0 none 0 0) 26)); clear hR hb hCw hlw G1 bx0)
  | (go_at_call 12; (refine (verify_at Aw2 cw2 awWs2 none 0 [] none 0 [] none 0 [] 0 0 0 201 0 _ (Kd.C_below HCW.out HX.out) HLW.out (Kd.C_nil _ _) (Nat.le_refl _) (Kd.C_nil _ _) (Nat.le_refl _) (Kd.C_nil _ _) (Nat.le_refl _) awu2 (HG.out.below (below_then HB4.out HB4.out.size HX.out)) G2.out).mono ?_); rintro e w4 ⟨rfl, hb⟩; have HB5 := Aside0.mk (below_alloc (below_then (below_then HB4.out HB4.out.size HX.out) (below_then HB4.out HB4.out.size HX.out).size hb) (.cells (limC 0 0 0) 29)); have bl := blk_alloc (blk_below (blk_below BL2.out HX.out) hb) (.cells (limC 0 0 0) 29); have u0 := blk_cell bl 0; have u1 := blk_cell bl 1; have u2 := blk_cell bl 2; clear bl hb G2 HX)
  | (go_at_call 15; (refine (D.guard_Bound.calls 5 10 2 4 250 _ bound250).mono ?_); rintro e w5 ⟨rfl, hb⟩; have HB6 := Aside0.mk (below_then HB5.out HB5.out.size hb)))
 go_ret
 exact ⟨rfl, HB6.out⟩
end Go.Proofs.YtcmdjpolgaejoaaDoor.Gd
namespace Go.Proofs.YtcmdjpolgaejoaaDoor.Gd
open Go.RowKit Go.Proofs.YtcmdjpolgaejoaaDoorW.PrintWords Go.Proofs.YtcmdjpolgaejoaaDoorW.PrintLast Go.Proofs.YtcmdjpolgaejoaaDoorW.PrintMore Go.Proofs.YtcmdjpolgaejoaaDoor.C
set_option linter.unusedVariables false
set_option linter.unusedSimpArgs false
set_option maxHeartbeats 8000000 in
set_option maxRecDepth 100000 in
theorem bounds_calls (a b c : Int) (w : World) (hG : Glob w) : Calls Tryd.prog 5 #[.int .i64 a, .int .i64 b, .int .i64 c] w fun e w' => e = .returned (.bool true) ∧ Below w.heap.size w w' := by
 obtain ⟨n, h1, h2, h3, h4⟩ := bound_f a b c (Nat.le_refl 5)
 have HA := Aside0.mk (awake_calls w hG)
 clear hG
 have q1 : (n == n) = true := beq_self_eq_true _
 have q2 : decide (0 ≤ n) = true := decide_eq_true h3
 have q3 : decide (n ≤ 4611686018427387904) = true := decide_eq_true h4
 have H1 := Aside0.mk h1
 have H2 := Aside0.mk h2
 clear h1 h2 h3 h4
 go_enter Tryd.func5, Tryd.ntmps5
 go_wp2_with (first
  | (go_at_call 9; (refine HA.out.mono ?_); rintro e w1 ⟨rfl, hb⟩; have HB1 := Aside0.mk hb; clear hb)
  | (go_at_call 15; (refine (D.guard_Bound.calls 5 a b c n _ H1.out).mono ?_); rintro e w2 ⟨rfl, hb⟩; have HB2 := Aside0.mk (below_then HB1.out HB1.out.size hb); clear hb)
  | (go_at_call 16; (refine (D.isthmusref20_Bound.calls 5 a b c n _ H2.out).mono ?_); rintro e w3 ⟨rfl, hb⟩; have HB3 := Aside0.mk (below_then HB2.out HB2.out.size hb); clear hb))
 go_ret
 exact ⟨rfl, HB3.out⟩
end Go.Proofs.YtcmdjpolgaejoaaDoor.Gd
namespace Go.Proofs.YtcmdjpolgaejoaaDoor
open Go.ChangeShapes Go.WideShapes Go.ChangeAt Go.RowKit
namespace Laid
theorem gF : Tryd.prog.globalNamed "isthmus/pack.fields" = some 0 := by kernel_rfl
theorem tF : (Tryd.prog.globals[0]?).map (·.type) = some 129 := by kernel_rfl
abbrev laid1 : List (String × DataW Unit) := [("isthmus/pack.fields", Rows.laid_isthmus_pack_fields)]
theorem door_met (os : Os) (args : Array Value) : laidMetH Tryd.prog laid1 ((World.doorLaid Tryd.prog 400 os).forCall (fun _ _ => 0) ⟨#[], args, []⟩).memory :=
 laidMetH_of_parts3 (fuel := 8) (laidMet_of_run' 8 (by kernel_rfl) (by kernel_rfl)) (by kernel_rfl) (by kernel_rfl)
theorem one_int {H : Type} {enc : TypeId × Value → H} {w : World} {m : Nat} {cs : List Value} {x : DataW H × List MemPlace} {k : Int} (h : DataW.trod enc Tryd.prog w 0 (fun _ => true) false m 110 cs = some x) (e : x.1 = .lit (.int .u64 k)) : cs = [.int .u64 k] := by
 obtain ⟨n, e1, e2, _⟩ := DataW.trod_int Tryd.underlying110 h
 subst e2
 simp only [DataW.lit.injEq, Lit.int.injEq, true_and] at e
 subst e
 exact e1
theorem one_field {w : World} {m : Nat} {cs : List Value} {x : DataW Unit × List MemPlace} {a b : Int} {enc : TypeId × Value → Unit} (h : DataW.trod enc Tryd.prog w 0 (fun _ => true) false m 128 cs = some x) (e : x.1 = .agg [.lit (.int .u64 a), .lit (.int .u64 b)]) : cs = [.int .u64 a, .int .u64 b] := by
 obtain ⟨y0, y1, n, rfl, hl, h0, h1⟩ := trod_struct2 Tryd.underlying128 h
 have c42 : Tryd.prog.cellsOf 110 = 1 := by kernel_rfl
 have c46 : Tryd.prog.cellsOf 128 = 2 := by kernel_rfl
 rw [c46] at hl
 rw [c42] at h0 h1
 simp only [DataW.agg.injEq, List.cons.injEq, and_true] at e
 match cs, hl with
 | [c0, c1], _ =>
  have e0 := one_int h0 e.1
  have e1 := one_int h1 e.2
  simp at e0 e1
  rw [e0, e1]
set_option maxRecDepth 100000 in
theorem of_laid {W : World} (h : laidMetH Tryd.prog laid1 W) : C.Glob W := by
 rw [MakeChecks.laidMetH_plain _ _ _ (by kernel_rfl)] at h
 obtain ⟨ps, ⟨g0, t0, cs0, f0, p0, q0, hg0, ht0, hv0, hd0, _, _⟩, _⟩ := h
 obtain rfl := Option.some.inj (gF.symm.trans hg0)
 obtain rfl := Option.some.inj (tF.symm.trans ht0)
 obtain ⟨xs, m1, rfl, hx1, hlen, hn3, hel⟩ := DataW.trod_array Tryd.underlying129 hd0
 have c46 : Tryd.prog.cellsOf 128 = 2 := by kernel_rfl
 have c47 : Tryd.prog.cellsOf 129 = 6 := by kernel_rfl
 rw [c46] at hel
 rw [c47] at hlen
 have e0 := hel 0 (by decide)
 have e1 := hel 1 (by decide)
 have e2 := hel 2 (by decide)
 have hc : ∀ i, W.cell? ⟨0, i, none⟩ = cs0[i]? := fun i => World.var?_cell hg0 hv0 i
 obtain ⟨l⟩ := cs0
 simp only [Prod.mk.injEq, Rows.laid_isthmus_pack_fields, DataW.agg.injEq] at hx1
 obtain ⟨c0, c1, c2, c3, c4, c5, rfl⟩ : ∃ c0 c1 c2 c3 c4 c5, l = [c0, c1, c2, c3, c4, c5] := by
  match l, hlen with
  | [c0, c1, c2, c3, c4, c5], _ => exact ⟨_, _, _, _, _, _, rfl⟩
 match xs, hn3, hx1, e0, e1, e2 with
 | [x0, x1, x2], _, hx1, e0, e1, e2 =>
  simp only [List.map_cons, List.map_nil, List.cons.injEq, and_true] at hx1
  have a0 := one_field e0 hx1.1.1.symm
  have a1 := one_field e1 hx1.1.2.1.symm
  have a2 := one_field e2 hx1.1.2.2.symm
  simp at a0 a1 a2
  obtain ⟨rfl, rfl⟩ := a0
  obtain ⟨rfl, rfl⟩ := a1
  obtain ⟨rfl, rfl⟩ := a2
  exact ⟨hc 0, hc 1, hc 2, hc 3, hc 4, hc 5⟩
end Laid
end Go.Proofs.YtcmdjpolgaejoaaDoor
