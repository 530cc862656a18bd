/- The laws GuardBounds, GuardShifts, GuardCut of the program hold, as their cards say: texts put together by a program, 32 of 35. -/
import Derived.Test.YtcmdjpolgaejoaaDoorPA11
import Derived.Test.YtcmdjpolgaejoaaDoorPA18
import Derived.Test.YtcmdjpolgaejoaaDoorPA26
import Derived.Test.YtcmdjpolgaejoaaDoorPA29
namespace Go.Proofs.YtcmdjpolgaejoaaDoor.Code
open Go.RowKit Go.Proofs.YtcmdjpolgaejoaaDoorW.PrintWords Go.Proofs.YtcmdjpolgaejoaaDoorW.PrintMore Go.Proofs.YtcmdjpolgaejoaaDoor.C Go.Proofs.YtcmdjpolgaejoaaDoor.PackBits Go.Proofs.YtcmdjpolgaejoaaDoor.Pack Go.Proofs.YtcmdjpolgaejoaaDoor.Lex Go.Proofs.YtcmdjpolgaejoaaDoor.Str
theorem w2 {i : Nat} (h : i < 9223372036854775800) : wrap64 ((i : Int) + 1) = ((i + 1 : Nat) : Int) := by rw [Lex.w64_id (by omega) (by omega)]; omega
section
variable (a : List Int) (b : List Int) (c : List ByteArray) (d : List Int)
end
def pk (a n : Int) : Int := if a < 0 then (-(a + 1)) % n else a % n
theorem pick_f {a n : Int} (h0 : -9223372036854775808 ≤ a) (h1 : a ≤ 9223372036854775807) (hn : 0 < n) : isthmuslaw18_pick.f a n = some (pk a n) := by
 unfold isthmuslaw18_pick.f pk
 by_cases h : a < 0
 ·rw [if_pos h, if_pos h, if_neg (by omega), Lex.w64_id (n := a + 1) (by omega) (by omega), Lex.w64_id (by omega) (by omega), Int.tmod_eq_emod_of_nonneg (by omega)]
 ·rw [if_neg h, if_neg h, if_neg (by omega), Int.tmod_eq_emod_of_nonneg (by omega)]
theorem pk_range (a : Int) {n : Int} (hn : 0 < n) : 0 ≤ pk a n ∧ pk a n < n := by
 unfold pk
 split
 ·exact ⟨Int.emod_nonneg _ (by omega), Int.emod_lt_of_pos _ hn⟩
 ·exact ⟨Int.emod_nonneg _ (by omega), Int.emod_lt_of_pos _ hn⟩
def RW (x : SRaw) : Prop := (-9223372036854775808 ≤ x.f0 ∧ x.f0 ≤ 9223372036854775807) ∧ (-9223372036854775808 ≤ x.f1 ∧ x.f1 ≤ 9223372036854775807) ∧ (-9223372036854775808 ≤ x.f2 ∧ x.f2 ≤ 9223372036854775807)
def wdV (x : SRaw) : Int := laid (pk x.f0 28) (pk x.f1 12) (pk x.f2 12)
theorem wd_f {x : SRaw} (h : RW x) : isthmuslaw18_Code.wd true x = some (wdV x) ∧ 0 ≤ wdV x ∧ wdV x ≤ 18446744073709551615 := by
 obtain ⟨h0, h1, h2⟩ := h
 have a := pk_range x.f0 (n := 28) (by omega)
 have b := pk_range x.f1 (n := 12) (by omega)
 have c := pk_range x.f2 (n := 12) (by omega)
 unfold isthmuslaw18_Code.wd wdV
 rw [pick_f h0.1 h0.2 (by omega), bs, pick_f h1.1 h1.2 (by omega), bs, pick_f h2.1 h2.2 (by omega), bs, if_pos rfl, pick_f h0.1 h0.2 (by omega), bs, pick_f h1.1 h1.2 (by omega), bs, pick_f h2.1 h2.2 (by omega), bs, Pack.ref_word, if_pos ⟨by omega, by omega, by omega, by omega, by omega, by omega⟩, bs]
 unfold laid
 exact ⟨rfl, by omega, by omega⟩
theorem ws_f : ∀ (l : List SRaw) (acc : List Int), (∀ x ∈ l, RW x) → (acc.length + l.length) * 8 ≤ 140737488355328 → isthmuslaw18_Code.ws true l acc = some (acc ++ l.map wdV)
 | [], acc, _, _ => by rw [isthmuslaw18_Code.ws]; simp
 | x :: t, acc, h, hl => by
  rw [List.length_cons] at hl
  rw [isthmuslaw18_Code.ws, (wd_f (h x (List.mem_cons_self ..))).1, bs, if_pos (by omega), ws_f t _ (fun y hy => h y (List.mem_cons_of_mem _ hy)) (by rw [List.length_append, List.length_singleton]; omega), List.map_cons, List.append_assoc]
  rfl
theorem code_f {l : List SRaw} (h : ∀ x ∈ l, RW x) (hl : l.length * 8 ≤ 140737488355328) : isthmuslaw18_Code.f l true = some (l.map wdV) := by
 unfold isthmuslaw18_Code.f
 rw [ws_f l [] h (by simpa using hl), List.nil_append]
theorem code_u {l : List SRaw} (h : ∀ x ∈ l, RW x) : U64 (l.map wdV) := fun y hy => by
 obtain ⟨x, hx, rfl⟩ := List.mem_map.1 hy
 exact (wd_f (h x hx)).2
end Go.Proofs.YtcmdjpolgaejoaaDoor.Code
namespace Go.Proofs.YtcmdjpolgaejoaaDoor.Gd
open Go.RowKit Go.Proofs.YtcmdjpolgaejoaaDoorW.PrintWords Go.Proofs.YtcmdjpolgaejoaaDoorW.PrintLast Go.Proofs.YtcmdjpolgaejoaaDoorW.PrintMore Go.Proofs.YtcmdjpolgaejoaaDoor.Code Go.Proofs.YtcmdjpolgaejoaaDoor.C
set_option linter.unusedVariables false
set_option linter.unusedSimpArgs false
def few : ByteArray := ⟨#[102, 101, 119]⟩
def odd : ByteArray := ⟨#[111, 100, 100]⟩
def none_ : ByteArray := ⟨#[110, 111, 110, 101]⟩
theorem names_ok : ∀ s ∈ [few, odd, none_], Lex.nameOK s = true := by decide +kernel
theorem kinds_ok : ∀ x ∈ ([2] : List Int), kdOK x = true := by decide +kernel
theorem strs_C (w : World) (l : List ByteArray) (hl : l.length < 1000) : Kd.C Kd.string (w.alloc (.cells (l.map Value.string).toArray 9)) (some ⟨w.heap.size, 0, none⟩) l.length l := by
 have hl1 : (w.alloc (.cells (l.map Value.string).toArray 9)).ownsRow w.heap.size 9 1 (.slice (some ⟨w.heap.size, 0, none⟩) l.length l.length) l.length (encs Value.string l) := ⟨by simp [encs], .inr ⟨_, l.length, _, rfl, Nat.le_refl _, heap_alloc_new _ _, Nat.le_refl _, Nat.le_trans (Nat.le_of_lt hl) (by decide), by simp, by rw [Nat.mul_one]; simp only [encs]; exact List.take_of_length_le (by simp)⟩⟩
 obtain ⟨A1, c1, ev, hlc1, hC1⟩ := Kd.R_reads (Kd.R_of_own (h1 := fun _ => rfl) (ok := fun _ => True) hl1 (fun _ _ => trivial))
 injection ev with ea en ec
 subst ea
 exact hC1
theorem strs_own (w : World) (l : List ByteArray) (hl : l.length < 1000) : (w.alloc (.cells (l.map Value.string).toArray 9)).ownsRow w.heap.size 9 1 (.slice (some ⟨w.heap.size, 0, none⟩) l.length l.length) l.length (encs Value.string l) :=
 ⟨by simp [encs], .inr ⟨_, l.length, _, rfl, Nat.le_refl _, heap_alloc_new _ _, Nat.le_refl _, Nat.le_trans (Nat.le_of_lt hl) (by decide), by simp, by rw [Nat.mul_one]; simp only [encs]; exact List.take_of_length_le (by simp)⟩⟩
theorem ints_own (w : World) (l : List Int) (hl : l.length < 1000) : (w.alloc (.cells (l.map (Value.int .i64)).toArray 3)).ownsRow w.heap.size 3 1 (.slice (some ⟨w.heap.size, 0, none⟩) l.length l.length) l.length (nums .i64 l) :=
 ⟨by simp [nums], .inr ⟨_, l.length, _, rfl, Nat.le_refl _, heap_alloc_new _ _, Nat.le_refl _, Nat.le_trans (Nat.le_of_lt hl) (by decide), by simp, by rw [Nat.mul_one]; simp only [nums]; exact List.take_of_length_le (by simp)⟩⟩
theorem C_own {α : Type} {enc : α → Value} {h1 : ∀ x, (enc x).oneCell' = true} {e base c : Nat} {w : World} {A : Option Addr} {l : List α} (h : w.ownsRow base e 1 (.slice A l.length c) l.length (encs enc l)) : Kd.C (Kd.scalar enc h1) w A l.length l := by
 obtain ⟨A1, c1, ev, hlc1, hC1⟩ := Kd.R_reads (Kd.R_of_own (h1 := h1) (ok := fun _ => True) h (fun _ _ => trivial))
 injection ev with ea en ec
 subst ea
 exact hC1
theorem own_set {w : World} {base e sz n b i : Nat} {v u : Value} {xs : List Value} (h : w.ownsRow base e sz v n xs) (hb : b < base) : (w.setCell ⟨b, i, none⟩ u).ownsRow base e sz v n xs :=
 ⟨h.1, h.2.imp id fun ⟨g, cap, cur, hv, hg, hc, rest⟩ => ⟨g, cap, cur, hv, hg, (set_far (by omega)).trans hc, rest⟩⟩
theorem own_base {w : World} {base base' e sz n : Nat} {v : Value} {xs : List Value} (h : w.ownsRow base e sz v n xs) (hb : base' ≤ base) : w.ownsRow base' e sz v n xs :=
 ⟨h.1, h.2.imp id fun ⟨g, cap, cur, hv, hg, rest⟩ => ⟨g, cap, cur, hv, Nat.le_trans hb hg, rest⟩⟩
abbrev wA (w5 : World) (bd : Nat) (v2 : Value) : World := w5.setCell ⟨bd, 1, none⟩ v2
abbrev wB (w5 : World) (bd : Nat) (v2 : Value) : World := (wA w5 bd v2).alloc (.cells #[.string ⟨#[102, 101, 119]⟩, .string ⟨#[111, 100, 100]⟩, .string ⟨#[110, 111, 110, 101]⟩] 9)
abbrev wC (w5 : World) (bd : Nat) (v2 : Value) : World := (wB w5 bd v2).setCell ⟨bd, 2, none⟩ (.slice (some ⟨w5.heap.size, 0, none⟩) 3 3)
abbrev wD (w5 : World) (bd : Nat) (v2 : Value) : World := (wC w5 bd v2).alloc (.cells #[.int .i64 1, .int .i64 2, .int .i64 3, .int .i64 2] 3)
abbrev wE (w5 : World) (bd : Nat) (v2 : Value) : World := (wD w5 bd v2).setCell ⟨bd, 3, none⟩ (.slice (some ⟨w5.heap.size + 1, 0, none⟩) 4 4)
structure TailF (w5 : World) (bd : Nat) (x0 v2 : Value) (la : List Int) (base : Nat) : Prop where
 b1 : ∃ x1 x2 x3, w5.heap[bd]? = some (.cells #[x0, x1, x2, x3] 26 (0, 0))
 b2 : ∃ x2 x3, (wB w5 bd v2).heap[bd]? = some (.cells #[x0, v2, x2, x3] 26 (0, 0))
 b3 : ∃ x3, (wD w5 bd v2).heap[bd]? = some (.cells #[x0, v2, .slice (some ⟨w5.heap.size, 0, none⟩) 3 3, x3] 26 (0, 0))
 b4 : (wE w5 bd v2).heap[bd]? = some (.cells #[x0, v2, .slice (some ⟨w5.heap.size, 0, none⟩) 3 3, .slice (some ⟨w5.heap.size + 1, 0, none⟩) 4 4] 26 (0, 0))
 far : ∀ g o, g ≠ bd → w5.heap[g]? = some o → (wE w5 bd v2).heap[g]? = some o
 below : ∀ w0, Below w0.heap.size w0 w5 → w0.heap.size ≤ bd → Below w0.heap.size w0 (wE w5 bd v2)
 ov : (wE w5 bd v2).ownsRow base 3 1 v2 la.length (encs (Value.int .i64) la)
 on : (wE w5 bd v2).ownsRow w5.heap.size 9 1 (.slice (some ⟨w5.heap.size, 0, none⟩) 3 3) 3 (encs Value.string [few, odd, none_])
 oi : (wE w5 bd v2).ownsRow (w5.heap.size + 1) 3 1 (.slice (some ⟨w5.heap.size + 1, 0, none⟩) 4 4) 4 (encs (Value.int .i64) [1, 2, 3, 2])
theorem tailF {w5 : World} {bd base : Nat} {x0 x1 x2 x3 v2 : Value} {la : List Int} (D5 : w5.heap[bd]? = some (.cells #[x0, x1, x2, x3] 26 (0, 0))) (hb : bd < base) (hbase : base ≤ w5.heap.size) (HO : w5.ownsRow base 3 1 v2 la.length (encs (Value.int .i64) la)) : TailF w5 bd x0 v2 la base := by
 have Da : (wA w5 bd v2).heap[bd]? = some (.cells #[x0, v2, x2, x3] 26 (0, 0)) := blk_put D5 1 v2 rfl
 have Db : (wB w5 bd v2).heap[bd]? = some (.cells #[x0, v2, x2, x3] 26 (0, 0)) := blk_alloc Da _
 have Dc : (wC w5 bd v2).heap[bd]? = some (.cells #[x0, v2, .slice (some ⟨w5.heap.size, 0, none⟩) 3 3, x3] 26 (0, 0)) := blk_put Db 2 _ rfl
 have Dd : (wD w5 bd v2).heap[bd]? = some (.cells #[x0, v2, .slice (some ⟨w5.heap.size, 0, none⟩) 3 3, x3] 26 (0, 0)) := blk_alloc Dc _
 have za : (wA w5 bd v2).heap.size = w5.heap.size := setCell_size _ _ _
 have zc : (wC w5 bd v2).heap.size = w5.heap.size + 1 := by
  show ((wB w5 bd v2).setCell _ _).heap.size = _
  rw [setCell_size]
  simp [wB, za]
 have hn := strs_own (wA w5 bd v2) [few, odd, none_] (by decide)
 rw [za] at hn
 have hi := ints_own (wC w5 bd v2) [1, 2, 3, 2] (by decide)
 rw [zc] at hi
 refine ⟨⟨_, _, _, D5⟩, ⟨_, _, Db⟩, ⟨_, Dd⟩, blk_put Dd 3 _ rfl, fun g o hg h => ?_, fun w0 h hB => ?_, ?_, ?_, ?_⟩
 ·exact (set_far hg).trans (blk_alloc ((set_far hg).trans (blk_alloc ((set_far hg).trans h) _)) _)
 ·exact Below.setCell (p := ⟨bd, 3, none⟩) (below_alloc (Below.setCell (p := ⟨bd, 2, none⟩) (below_alloc (Below.setCell (p := ⟨bd, 1, none⟩) h hB _) _) hB _) _) hB _
 ·exact own_set (own_alloc (own_set (own_alloc (own_set HO hb) _) hb) _) hb
 ·exact own_set (own_alloc (own_set hn (by omega)) _) (by omega)
 ·exact own_set hi (by omega)
theorem info3 : (Tryd.prog.info? 3).map (fun i => (i.zero, i.size, i.bytes)) = some (some (.int .i64 0), 1, 8) := by kernel_rfl
set_option maxHeartbeats 8000000 in
set_option maxRecDepth 100000 in
theorem shifts_calls (A0 : Option Addr) (c0 : Nat) (l : List SRaw) (A1 : Option Addr) (c1 : Nat) (l1 : List Int) (A2 : Option Addr) (c2 : Nat) (l2 : List Int) (w : World) (hr0 : Kd.C kRaw w A0 l.length l) (hc0 : l.length ≤ c0) (hr1 : Kd.C (Kd.int .i64) w A1 l1.length l1) (hc1 : l1.length ≤ c1) (hr2 : Kd.C (Kd.int .i64) w A2 l2.length l2) (hc2 : l2.length ≤ c2)
  (hRW : ∀ x ∈ l, RW x) (hz : l.length * 8 ≤ 140737488355328) (hz1 : l1.length * 8 ≤ 140737488351232) (hz2 : l2.length * 8 ≤ 140737488351232) (hG : Glob w) :
  Calls Tryd.prog 8 #[.slice A0 l.length c0, .slice A1 l1.length c1, .slice A2 l2.length c2] w fun e w' => e = .returned (.bool true) ∧ Below w.heap.size w w' := by
 obtain ⟨ws, hws⟩ : ∃ ws, ws = l.map wdV := ⟨_, rfl⟩
 have HF := Aside0.mk (hws ▸ code_f hRW hz)
 have HU := Aside0.mk (hws ▸ code_u hRW)
 clear hws hRW hz
 obtain ⟨⟨s, r, k, e, a⟩, hv⟩ : ∃ v, verifyS ws l1 [few] [1, 2, 3] = v := ⟨_, rfl⟩
 have HV := Aside0.mk hv
 have HA := Aside0.mk (awake_calls w hG)
 have HR0 := Aside0.mk hr0
 have HR1 := Aside0.mk hr1
 have HR2 := Aside0.mk hr2
 have HG := Aside0.mk hG
 have HC1 := Aside0.mk hc1
 have HC0 := Aside0.mk hc0
 have ew : wrap64 ((l1.length : Int) + (l2.length : Int)) = (l1.length : Int) + (l2.length : Int) := by rw [Lex.w64_id (by omega) (by omega)]
 have HL := Aside0.mk (And.intro hz1 hz2)
 clear hr0 hr1 hr2 hG hc0 hc1 hc2 hz1 hz2
 by_cases he : e = 180
 ·have q1 : (e == 180) = true := by rw [he]; rfl
  clear he hv
  go_enter Tryd.func8, Tryd.ntmps8
  go_wp2_with (first
   | (go_at_call 9; (refine HA.out.mono ?_); rintro e1 w1 ⟨rfl, hb⟩; have HB1 := Aside0.mk hb; have HW2 := Aside0.mk (below_alloc (below_alloc hb (.cells (([few] : List ByteArray).map Value.string).toArray 9)) (.cells (([1, 2, 3] : List Int).map (Value.int .i64)).toArray 3)); have HN := Aside0.mk (Kd.C_below (strs_C w1 [few] (by decide)) (below_alloc (Below.refl _ _) (.cells (([1, 2, 3] : List Int).map (Value.int .i64)).toArray 3))); have hi := ints_C (w1.alloc (.cells (([few] : List ByteArray).map Value.string).toArray 9)) [1, 2, 3] (by decide); have z1 : (w1.alloc (.cells (([few] : List ByteArray).map Value.string).toArray 9)).heap.size = w1.heap.size + 1 := (by simp); rw [z1] at hi; have HI := Aside0.mk hi; clear hi z1 hb)
   | (go_at_call 14; (refine (isthmuslaw18_Code.calls A0 c0 l A1 c1 l1 (some ⟨w1.heap.size, 0, none⟩) 1 [few] (some ⟨w1.heap.size + 1, 0, none⟩) 3 [1, 2, 3] true ws _ (Kd.C_below HR0.out HW2.out) HC0.out HF.out).mono ?_); rintro e2 w2 ⟨v0, rfl, hR, hb⟩; obtain ⟨Aw, cw, rfl, hlw, hCw⟩ := Kd.R_reads hR; have HB2 := Aside0.mk (below_step HW2.out hb); have HCW := Aside0.mk hCw; have HLW := Aside0.mk hlw; have HN2 := Aside0.mk (Kd.C_below HN.out hb); have HI2 := Aside0.mk (Kd.C_below HI.out hb); have bx0 := heap_alloc_new w2 (.cells (codeC Aw cw ws.length A1 c1 l1.length (some ⟨w1.heap.size, 0, none⟩) 1 1 (some ⟨w1.heap.size + 1, 0, none⟩) 3 3) 26); have BX := Aside0.mk bx0; have y0 := blk_cell bx0 0; have y1 := blk_cell bx0 1; have y2 := blk_cell bx0 2; have y3 := blk_cell bx0 3; have HX := Aside0.mk (below_alloc (Below.refl w2.heap.size w2) (.cells (codeC Aw cw ws.length A1 c1 l1.length (some ⟨w1.heap.size, 0, none⟩) 1 1 (some ⟨w1.heap.size + 1, 0, none⟩) 3 3) 26)); clear hR hb hCw hlw bx0 HN HI HW2)
   | (go_at_call 12; (refine (verify_at Aw cw ws A1 c1 l1 (some ⟨w1.heap.size, 0, none⟩) 1 [few] (some ⟨w1.heap.size + 1, 0, none⟩) 3 [1, 2, 3] s r k e a _ (Kd.C_below HCW.out HX.out) HLW.out (Kd.C_below HR1.out (below_then HB2.out HB2.out.size HX.out)) HC1.out (Kd.C_below HN2.out HX.out) (by decide) (Kd.C_below HI2.out HX.out) (by decide) HU.out (HG.out.below (below_then HB2.out HB2.out.size HX.out)) HV.out).mono ?_); rintro e3 w3 ⟨rfl, hb⟩; have HB3 := Aside0.mk (below_then (below_then HB2.out HB2.out.size HX.out) (below_then HB2.out HB2.out.size HX.out).size hb); have HB4 := Aside0.mk (below_alloc HB3.out (.cells (limC s r k) 29)); clear hb))
  go_ret
  exact ⟨rfl, HB4.out⟩
 ·have q1 : (e == 180) = false := by simpa using he
  by_cases hm : l1.length + l2.length ≤ 1000
  ·have q2 : decide ((1000 : Int) < (l1.length : Int) + (l2.length : Int)) = false := decide_eq_false (by omega)
   have hv3 := shift_law (ws := ws) (cs := l1) (ns := [few]) (ns' := [few, odd, none_]) (ks := [1, 2, 3]) (ks' := [2]) HU.out l2 (by rw [hv]; exact he) (by omega) (by decide) (by decide) names_ok (by decide) kinds_ok
   rw [hv] at hv3
   obtain ⟨la, hla⟩ : ∃ la, la = l1 ++ l2 := ⟨_, rfl⟩
   rw [← hla] at hv3
   have HV3 := Aside0.mk (show verifyS ws la [few, odd, none_] [1, 2, 3, 2] = (s, r, k, e, a) from hv3)
   have HLA := Aside0.mk hla
   have HM := Aside0.mk hm
   have HV2 := Aside0.mk hm
   clear he hv hv3 hla hm
   go_enter Tryd.func8, Tryd.ntmps8
   go_upto_region 9 with (first
    | (go_at_call 9; (refine HA.out.mono ?_); rintro e1 w1 ⟨rfl, hb⟩; have HB1 := Aside0.mk hb; have HW2 := Aside0.mk (below_alloc (below_alloc hb (.cells (([few] : List ByteArray).map Value.string).toArray 9)) (.cells (([1, 2, 3] : List Int).map (Value.int .i64)).toArray 3)); have HN := Aside0.mk (Kd.C_below (strs_C w1 [few] (by decide)) (below_alloc (Below.refl _ _) (.cells (([1, 2, 3] : List Int).map (Value.int .i64)).toArray 3))); have hi := ints_C (w1.alloc (.cells (([few] : List ByteArray).map Value.string).toArray 9)) [1, 2, 3] (by decide); have z1 : (w1.alloc (.cells (([few] : List ByteArray).map Value.string).toArray 9)).heap.size = w1.heap.size + 1 := (by simp); rw [z1] at hi; have HI := Aside0.mk hi; clear hi z1 hb)
    | (go_at_call 14; (refine (isthmuslaw18_Code.calls A0 c0 l A1 c1 l1 (some ⟨w1.heap.size, 0, none⟩) 1 [few] (some ⟨w1.heap.size + 1, 0, none⟩) 3 [1, 2, 3] true ws _ (Kd.C_below HR0.out HW2.out) HC0.out HF.out).mono ?_); rintro e2 w2 ⟨v0, rfl, hR, hb⟩; obtain ⟨Aw, cw, rfl, hlw, hCw⟩ := Kd.R_reads hR; have HB2 := Aside0.mk (below_step HW2.out hb); have HCW := Aside0.mk hCw; have HLW := Aside0.mk hlw; have HN2 := Aside0.mk (Kd.C_below HN.out hb); have HI2 := Aside0.mk (Kd.C_below HI.out hb); have bx0 := heap_alloc_new w2 (.cells (codeC Aw cw ws.length A1 c1 l1.length (some ⟨w1.heap.size, 0, none⟩) 1 1 (some ⟨w1.heap.size + 1, 0, none⟩) 3 3) 26); have BX := Aside0.mk bx0; have y0 := blk_cell bx0 0; have y1 := blk_cell bx0 1; have y2 := blk_cell bx0 2; have y3 := blk_cell bx0 3; have HX := Aside0.mk (below_alloc (Below.refl w2.heap.size w2) (.cells (codeC Aw cw ws.length A1 c1 l1.length (some ⟨w1.heap.size, 0, none⟩) 1 1 (some ⟨w1.heap.size + 1, 0, none⟩) 3 3) 26)); clear hR hb hCw hlw bx0 HN HI HW2)
    | (go_at_call 12; (refine (verify_at Aw cw ws A1 c1 l1 (some ⟨w1.heap.size, 0, none⟩) 1 [few] (some ⟨w1.heap.size + 1, 0, none⟩) 3 [1, 2, 3] s r k e a _ (Kd.C_below HCW.out HX.out) HLW.out (Kd.C_below HR1.out (below_then HB2.out HB2.out.size HX.out)) HC1.out (Kd.C_below HN2.out HX.out) (by decide) (Kd.C_below HI2.out HX.out) (by decide) HU.out (HG.out.below (below_then HB2.out HB2.out.size HX.out)) HV.out).mono ?_); rintro e3 w3 ⟨rfl, hb⟩; have HS3 := Aside0.mk (show w2.heap.size ≤ w3.heap.size from Nat.le_trans HX.out.size hb.size); have HB3 := Aside0.mk (below_then (below_then HB2.out HB2.out.size HX.out) (below_then HB2.out HB2.out.size HX.out).size hb); have BD3 := Aside0.mk (blk_alloc (blk_below BX.out hb) (.cells (limC s r k) 29)); have z0 := blk_cell BD3.out 0; have z1 := blk_cell BD3.out 1; have z2 := blk_cell BD3.out 2; have z3 := blk_cell BD3.out 3; have HQ3 := Aside0.mk (below_alloc (below_alloc (below_then HX.out HX.out.size hb) (.cells (limC s r k) 29)) (.cells (codeC Aw cw ws.length A1 c1 l1.length (some ⟨w1.heap.size, 0, none⟩) 1 1 (some ⟨w1.heap.size + 1, 0, none⟩) 3 3) 26)); have HB4 := Aside0.mk (below_alloc (below_alloc HB3.out (.cells (limC s r k) 29)) (.cells (codeC Aw cw ws.length A1 c1 l1.length (some ⟨w1.heap.size, 0, none⟩) 1 1 (some ⟨w1.heap.size + 1, 0, none⟩) 3 3) 26)); have L3 := Aside0.mk (blk_alloc (heap_alloc_new w3 (.cells (limC s r k) 29)) (.cells (codeC Aw cw ws.length A1 c1 l1.length (some ⟨w1.heap.size, 0, none⟩) 1 1 (some ⟨w1.heap.size + 1, 0, none⟩) 3 3) 26)); have hd := heap_alloc_new (w3.alloc (.cells (limC s r k) 29)) (.cells (codeC Aw cw ws.length A1 c1 l1.length (some ⟨w1.heap.size, 0, none⟩) 1 1 (some ⟨w1.heap.size + 1, 0, none⟩) 3 3) 26); have zz : (w3.alloc (.cells (limC s r k) 29)).heap.size = w3.heap.size + 1 := (by simp); rw [zz] at hd; have DD := Aside0.mk hd; have HK1 := Aside0.mk (Kd.C_below HR1.out HB4.out); have HK2 := Aside0.mk (Kd.C_below HR2.out HB4.out); have ZS := Aside0.mk (show ((w3.alloc (.cells (limC s r k) 29)).alloc (.cells (codeC Aw cw ws.length A1 c1 l1.length (some ⟨w1.heap.size, 0, none⟩) 1 1 (some ⟨w1.heap.size + 1, 0, none⟩) 3 3) 26)).heap.size = w3.heap.size + 1 + 1 by simp); have HP1 := Aside0.mk HV2.out; clear hd zz hb HV2)
    | (at_builtin; have HP := Aside0.mk HP1.out; clear HP1; refine Kd.R_append_rows (Kd.int .i64) (w0 := ((w3.alloc (.cells (limC s r k) 29)).alloc (.cells (codeC Aw cw ws.length A1 c1 l1.length (some ⟨w1.heap.size, 0, none⟩) 1 1 (some ⟨w1.heap.size + 1, 0, none⟩) 3 3) 26))) (((w3.alloc (.cells (limC s r k) 29)).alloc (.cells (codeC Aw cw ws.length A1 c1 l1.length (some ⟨w1.heap.size, 0, none⟩) 1 1 (some ⟨w1.heap.size + 1, 0, none⟩) 3 3) 26))).heap.size rfl (.tmp 45) (.tmp 46) 23 3 (.int .i64 0) 8 rfl Tryd.underlying23 info3 rfl (by decide) (by omega) (.slice none 0 0) [] l1 A1 l1.length c1 (fun _ => True) (fun _ => False) rfl rfl (Kd.R_nil _ _ _ _ _) HK1.out (fun _ _ h => h) (fun _ h => h.elim) (fun _ _ => trivial) (Below.refl _ _) (Nat.le_refl _) (by have := HL.out; simp; omega) ?_; rintro v1 w4 hR4 hB4 hG4 hat; rw [List.nil_append] at hR4; have HR4 := Aside0.mk hR4; have HQ4 := Aside0.mk hB4; clear hR4 hB4 hG4 hat HK1)
    | (at_builtin; refine Kd.R_append_rows (Kd.int .i64) (w0 := ((w3.alloc (.cells (limC s r k) 29)).alloc (.cells (codeC Aw cw ws.length A1 c1 l1.length (some ⟨w1.heap.size, 0, none⟩) 1 1 (some ⟨w1.heap.size + 1, 0, none⟩) 3 3) 26))) (((w3.alloc (.cells (limC s r k) 29)).alloc (.cells (codeC Aw cw ws.length A1 c1 l1.length (some ⟨w1.heap.size, 0, none⟩) 1 1 (some ⟨w1.heap.size + 1, 0, none⟩) 3 3) 26))).heap.size rfl (.tmp 47) (.tmp 48) 23 3 (.int .i64 0) 8 rfl Tryd.underlying23 info3 rfl (by decide) (by omega) v1 l1 l2 A2 l2.length c2 (fun _ => True) (fun _ => False) rfl rfl HR4.out (Kd.C_below HK2.out HQ4.out) (fun _ _ h => h) (fun _ h => h.elim) (fun _ _ => trivial) HQ4.out HQ4.out.size (by have := HM.out; omega) ?_; rintro v2 w5 hR5 hB5 hG5 hat; rw [← HLA.out] at hR5; obtain ⟨Av, cv, rfl, hlv, hCv⟩ := Kd.R_reads hR5; have HLV := Aside0.mk hlv; have hs5 := hB5.size; rw [ZS.out] at hs5; have D5 : w5.heap[w3.heap.size + 1]? = some (.cells (codeC Aw cw ws.length A1 c1 l1.length (some ⟨w1.heap.size, 0, none⟩) 1 1 (some ⟨w1.heap.size + 1, 0, none⟩) 3 3) 26 (0, 0)) := (hB5.block _ (by rw [ZS.out]; omega)).trans DD.out; have TF := Aside0.mk (tailF (v2 := (.slice Av la.length cv)) (la := la) (base := w3.heap.size + 1 + 1) D5 (Nat.lt_succ_self _) hs5 (ZS.out ▸ Kd.own_of_R hR5)); have x1 := blk_cell D5 1; have g1 := blk_frozen D5 1; have LE := Aside0.mk (TF.out.far w3.heap.size _ (by omega) ((hB5.block _ (by rw [ZS.out]; omega)).trans L3.out)); have HBE := Aside0.mk (TF.out.below _ (below_then HB4.out HB4.out.size hB5) (by have := HB3.out.size; omega)); have HQE := Aside0.mk (TF.out.below _ (below_then HQ3.out HQ3.out.size hB5) (by have := HS3.out; omega)); clear hs5 D5 hR5 hB5 hG5 hat hlv hCv HP y0 y1 y2 y3 z0 z1 z2 z3))
   clear x1 g1
   obtain ⟨q4_, q5_, hb2⟩ := TF.out.b2
   obtain ⟨q6_, hb3⟩ := TF.out.b3
   have hb4 := TF.out.b4
   have x2 := blk_cell hb2 2
   have g2 := blk_frozen hb2 2
   go_upto_region 10 with fail
   clear x2 g2
   have x3 := blk_cell hb3 3
   have g3 := blk_frozen hb3 3
   go_upto_region 11 with fail
   clear x3 g3
   have t0 := blk_cell hb4 0
   have t1 := blk_cell hb4 1
   have t2 := blk_cell hb4 2
   have t3 := blk_cell hb4 3
   go_wp2_with (go_at_call 12; (refine (verify_at Aw cw ws Av cv la (some ⟨w5.heap.size, 0, none⟩) 3 [few, odd, none_] (some ⟨w5.heap.size + 1, 0, none⟩) 4 [1, 2, 3, 2] s r k e a _ (Kd.C_below HCW.out HQE.out) HLW.out (C_own TF.out.ov) HLV.out (C_own (l := [few, odd, none_]) TF.out.on) (by decide) (C_own (l := [1, 2, 3, 2]) TF.out.oi) (by decide) HU.out (HG.out.below HBE.out) HV3.out).mono ?_); rintro e5 w6 ⟨rfl, hb⟩; have HB6 := Aside0.mk (below_alloc (below_then HBE.out HBE.out.size hb) (.cells (limC s r k) 29)); have LF := Aside0.mk (blk_alloc (blk_below LE.out hb) (.cells (limC s r k) 29)); have p0 := blk_cell LF.out 0; have p1 := blk_cell LF.out 1; have p2 := blk_cell LF.out 2; clear hb)
   go_ret
   exact ⟨rfl, HB6.out⟩
  ·have q2 : decide ((1000 : Int) < (l1.length : Int) + (l2.length : Int)) = true := decide_eq_true (by omega)
   clear he hv hm
   go_enter Tryd.func8, Tryd.ntmps8
   go_wp2_with (first
    | (go_at_call 9; (refine HA.out.mono ?_); rintro e1 w1 ⟨rfl, hb⟩; have HB1 := Aside0.mk hb; have HW2 := Aside0.mk (below_alloc (below_alloc hb (.cells (([few] : List ByteArray).map Value.string).toArray 9)) (.cells (([1, 2, 3] : List Int).map (Value.int .i64)).toArray 3)); have HN := Aside0.mk (Kd.C_below (strs_C w1 [few] (by decide)) (below_alloc (Below.refl _ _) (.cells (([1, 2, 3] : List Int).map (Value.int .i64)).toArray 3))); have hi := ints_C (w1.alloc (.cells (([few] : List ByteArray).map Value.string).toArray 9)) [1, 2, 3] (by decide); have z1 : (w1.alloc (.cells (([few] : List ByteArray).map Value.string).toArray 9)).heap.size = w1.heap.size + 1 := (by simp); rw [z1] at hi; have HI := Aside0.mk hi; clear hi z1 hb)
    | (go_at_call 14; (refine (isthmuslaw18_Code.calls A0 c0 l A1 c1 l1 (some ⟨w1.heap.size, 0, none⟩) 1 [few] (some ⟨w1.heap.size + 1, 0, none⟩) 3 [1, 2, 3] true ws _ (Kd.C_below HR0.out HW2.out) HC0.out HF.out).mono ?_); rintro e2 w2 ⟨v0, rfl, hR, hb⟩; obtain ⟨Aw, cw, rfl, hlw, hCw⟩ := Kd.R_reads hR; have HB2 := Aside0.mk (below_step HW2.out hb); have HCW := Aside0.mk hCw; have HLW := Aside0.mk hlw; have HN2 := Aside0.mk (Kd.C_below HN.out hb); have HI2 := Aside0.mk (Kd.C_below HI.out hb); have bx0 := heap_alloc_new w2 (.cells (codeC Aw cw ws.length A1 c1 l1.length (some ⟨w1.heap.size, 0, none⟩) 1 1 (some ⟨w1.heap.size + 1, 0, none⟩) 3 3) 26); have BX := Aside0.mk bx0; have y0 := blk_cell bx0 0; have y1 := blk_cell bx0 1; have y2 := blk_cell bx0 2; have y3 := blk_cell bx0 3; have HX := Aside0.mk (below_alloc (Below.refl w2.heap.size w2) (.cells (codeC Aw cw ws.length A1 c1 l1.length (some ⟨w1.heap.size, 0, none⟩) 1 1 (some ⟨w1.heap.size + 1, 0, none⟩) 3 3) 26)); clear hR hb hCw hlw bx0 HN HI HW2)
    | (go_at_call 12; (refine (verify_at Aw cw ws A1 c1 l1 (some ⟨w1.heap.size, 0, none⟩) 1 [few] (some ⟨w1.heap.size + 1, 0, none⟩) 3 [1, 2, 3] s r k e a _ (Kd.C_below HCW.out HX.out) HLW.out (Kd.C_below HR1.out (below_then HB2.out HB2.out.size HX.out)) HC1.out (Kd.C_below HN2.out HX.out) (by decide) (Kd.C_below HI2.out HX.out) (by decide) HU.out (HG.out.below (below_then HB2.out HB2.out.size HX.out)) HV.out).mono ?_); rintro e3 w3 ⟨rfl, hb⟩; have HB3 := Aside0.mk (below_then (below_then HB2.out HB2.out.size HX.out) (below_then HB2.out HB2.out.size HX.out).size hb); have HB4 := Aside0.mk (below_alloc HB3.out (.cells (limC s r k) 29)); clear hb))
   go_ret
   exact ⟨rfl, HB4.out⟩
end Go.Proofs.YtcmdjpolgaejoaaDoor.Gd
