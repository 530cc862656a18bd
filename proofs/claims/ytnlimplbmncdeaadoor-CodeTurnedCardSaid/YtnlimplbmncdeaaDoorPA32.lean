/- The laws CodeRights, CodeWords, CodeReads, CodeTurned of the program hold, as their cards say: texts put together by a program, 33 of 44. -/
import Derived.Test.YtnlimplbmncdeaaDoorPA13
import Derived.Test.YtnlimplbmncdeaaDoorPA20
import Derived.Test.YtnlimplbmncdeaaDoorPA31
namespace Go.Proofs.YtnlimplbmncdeaaDoor.C
open Go.RowKit Go.Proofs.YtnlimplbmncdeaaDoorW.PrintWords Go.Proofs.YtnlimplbmncdeaaDoorW.PrintLast Go.Proofs.YtnlimplbmncdeaaDoorW.PrintMore
attribute [local go_sem] max2_int min2_int max_two min_two max_three min_three max_four min_four
set_option linter.unusedVariables false
set_option linter.unusedSimpArgs false
mutual
def isthmusref18_laid.l0 : Nat → List Int → Int → List Int → List Int → List ByteArray → List Int → Option (List Int)
 | 0, _, _, _, _, _, _ => none
 | k + 1, x3, x4, x198000, x198001, x198002, x198003 => if x4 < (x198000.length : Int) then (if 0 ≤ x4 then ((isthmusref01_Put.f k (rd x198000 x4)).bind fun t206 => (if x3.length + t206.size < 140737488355328 then (isthmusref18_laid.l0 k (x3 ++ bytesOf t206) (wrap64 (x4 + 1)) x198000 x198001 x198002 x198003) else (none))) else (none)) else ((isthmusref01_Put.f k (IntKind.u64.wrap ((x198001.length : Int)))).bind fun t210 => (if x3.length + t210.size < 140737488355328 then (isthmusref18_laid.l1 k (x3 ++ bytesOf t210) 0 x198000 x198001 x198002 x198003) else (none)))
def isthmusref18_laid.l1 : Nat → List Int → Int → List Int → List Int → List ByteArray → List Int → Option (List Int)
 | 0, _, _, _, _, _, _ => none
 | k + 1, x3, x5, x198000, x198001, x198002, x198003 => if x5 < (x198001.length : Int) then (if 0 ≤ x5 then ((isthmusref01_Zig.f (rd x198001 x5)).bind fun t215 => ((isthmusref01_Put.f k t215).bind fun t216 => (if x3.length + t216.size < 140737488355328 then (isthmusref18_laid.l1 k (x3 ++ bytesOf t216) (wrap64 (x5 + 1)) x198000 x198001 x198002 x198003) else (none)))) else (none)) else ((isthmusref01_Put.f k (IntKind.u64.wrap ((x198002.length : Int)))).bind fun t220 => (if x3.length + t220.size < 140737488355328 then (isthmusref18_laid.l2 k (x3 ++ bytesOf t220) 0 x198000 x198001 x198002 x198003) else (none)))
def isthmusref18_laid.l2 : Nat → List Int → Int → List Int → List Int → List ByteArray → List Int → Option (List Int)
 | 0, _, _, _, _, _, _ => none
 | k + 1, x3, x6, x198000, x198001, x198002, x198003 => if x6 < (x198002.length : Int) then (if 0 ≤ x6 then ((isthmusref01_Put.f k (IntKind.u64.wrap (((rdOf ByteArray.empty x198002 x6).size : Int)))).bind fun t225 => (if x3.length + t225.size < 140737488355328 then ((some (x3 ++ bytesOf t225 : List Int)).bind fun y226 => (if y226.length + (rdOf ByteArray.empty x198002 x6).size < 140737488355328 then (isthmusref18_laid.l2 k (y226 ++ bytesOf (rdOf ByteArray.empty x198002 x6)) (wrap64 (x6 + 1)) x198000 x198001 x198002 x198003) else (none))) else (none))) else (none)) else ((isthmusref01_Put.f k (IntKind.u64.wrap ((x198003.length : Int)))).bind fun t233 => (if x3.length + t233.size < 140737488355328 then (isthmusref18_laid.l3 k (x3 ++ bytesOf t233) 0 x198000 x198001 x198002 x198003) else (none)))
def isthmusref18_laid.l3 : Nat → List Int → Int → List Int → List Int → List ByteArray → List Int → Option (List Int)
 | 0, _, _, _, _, _, _ => none
 | k + 1, x3, x7, x198000, x198001, x198002, x198003 => if x7 < (x198003.length : Int) then (if 0 ≤ x7 then ((isthmusref01_Put.f k (IntKind.u64.wrap (rd x198003 x7))).bind fun t238 => (if x3.length + t238.size < 140737488355328 then (isthmusref18_laid.l3 k (x3 ++ bytesOf t238) (wrap64 (x7 + 1)) x198000 x198001 x198002 x198003) else (none))) else (none)) else (some x3)
end
def isthmusref18_laid.f (k : Nat) (l0_0 : List Int) (l0_1 : List Int) (l0_2 : List ByteArray) (l0_3 : List Int) : Option (List Int) := (some (([73, 67, 49] : List Int) : List Int)).bind fun y198 => ((isthmusref01_Put.f k (IntKind.u64.wrap ((l0_0.length : Int)))).bind fun t201 => (if y198.length + t201.size < 140737488355328 then (isthmusref18_laid.l0 k (y198 ++ bytesOf t201) 0 l0_0 l0_1 l0_2 l0_3) else (none)))
theorem ref01_Put_pos_l : ∀ (k : Nat) (u : Int) (acc : List Int) (s : ByteArray), isthmusref01_Put.l0 k u acc = some s → 0 < s.size
 | 0, u, acc, s, h => by simp [isthmusref01_Put.l0] at h
 | k + 1, u, acc, s, h => by
  simp only [isthmusref01_Put.l0] at h
  split at h
  ·split at h
   ·exact ref01_Put_pos_l k _ _ s h
   ·cases h
  ·split at h
   ·obtain rfl := Option.some.inj h
    simp [strOfNums, ByteArray.size]
   ·cases h
theorem ref01_Put_pos {k : Nat} {u : Int} {s : ByteArray} (h : isthmusref01_Put.f k u = some s) : 0 < s.size := ref01_Put_pos_l k u [] s h
theorem LRow.ne {W : World} {base g t : Nat} {v : Value} {bs : List Int} {cs : Array Value} (h : LRow W base v bs) (hb : W.heap[g]? = some (.cells cs t (0, 0))) (ht : 5 ≠ t) : some g ≠ v.ownBlock := by
 intro he
 obtain ⟨_, cells, m, hc⟩ := h.typed g he.symm
 rw [hb] at hc
 injection hc with hc
 injection hc with _ hc _
 exact ht hc.symm
set_option maxHeartbeats 8000000 in
set_option maxRecDepth 100000 in
theorem isthmusref18_laid.calls (k : Nat) (A0_0 : Option Addr) (c0_0 : Nat) (l0_0 : List Int) (A0_1 : Option Addr) (c0_1 : Nat) (l0_1 : List Int) (A0_2 : Option Addr) (c0_2 : Nat) (l0_2 : List ByteArray) (A0_3 : Option Addr) (c0_3 : Nat) (l0_3 : List Int) (r : List Int) (w : World) (hr0_0 : Kd.C (Kd.int .u64) w A0_0 l0_0.length l0_0) (hc0_0 : l0_0.length ≤ c0_0) (hr0_1 : Kd.C (Kd.int .i64) w A0_1 l0_1.length l0_1) (hc0_1 : l0_1.length ≤ c0_1) (hr0_2 : Kd.C Kd.string w A0_2 l0_2.length l0_2) (hc0_2 : l0_2.length ≤ c0_2) (hr0_3 : Kd.C (Kd.int .i64) w A0_3 l0_3.length l0_3) (hc0_3 : l0_3.length ≤ c0_3) (h : isthmusref18_laid.f k l0_0 l0_1 l0_2 l0_3 = some r) :
  Calls Tryd.prog 37 #[.agg #[.slice A0_0 l0_0.length c0_0, .slice A0_1 l0_1.length c0_1, .slice A0_2 l0_2.length c0_2, .slice A0_3 l0_3.length c0_3]] w fun e w' => ∃ v0_ : Value, e = .returned (v0_) ∧ Kd.R (Kd.int .u8) 5 w' w.heap.size (fun _ => True) v0_ r ∧ Below w.heap.size w w' := by
 have hu26 := Tryd.underlying26
 have HR0_0 := Aside0.mk hr0_0
 have HC0_0 := Aside0.mk hc0_0
 clear hr0_0 hc0_0
 have HR0_1 := Aside0.mk hr0_1
 have HC0_1 := Aside0.mk hc0_1
 clear hr0_1 hc0_1
 have HR0_2 := Aside0.mk hr0_2
 have HC0_2 := Aside0.mk hc0_2
 clear hr0_2 hc0_2
 have HR0_3 := Aside0.mk hr0_3
 have HC0_3 := Aside0.mk hc0_3
 clear hr0_3 hc0_3
 have HB := Aside0.mk (Below.refl w.heap.size w)
 have H : ((some (([73, 67, 49] : List Int) : List Int)).bind fun y198 => ((isthmusref01_Put.f k (IntKind.u64.wrap ((l0_0.length : Int)))).bind fun t201 => (if y198.length + t201.size < 140737488355328 then (isthmusref18_laid.l0 k (y198 ++ bytesOf t201) 0 l0_0 l0_1 l0_2 l0_3) else (none)))) = some r := h
 clear h
 obtain ⟨y198, hy198⟩ : ∃ y_ : List Int, y_ = (([73, 67, 49] : List Int)) := ⟨_, rfl⟩
 replace H : ((isthmusref01_Put.f k (IntKind.u64.wrap ((l0_0.length : Int)))).bind fun t201 => (if y198.length + t201.size < 140737488355328 then (isthmusref18_laid.l0 k (y198 ++ bytesOf t201) 0 l0_0 l0_1 l0_2 l0_3) else (none))) = some r := by first | (rw [hy198]; with_reducible exact H) | (have H2_ := (Option.bind_some _ _).symm.trans H; rw [hy198]; with_reducible exact H2_) | (have H2_ := (Option.bind_some _ _).symm.trans H; with_reducible exact H2_) | with_reducible exact H | (rw [hy198]; exact H) | exact H
 have Ny198 := Aside0.mk hy198
 clear hy198
 replace H := Option.bind_eq_some_iff.mp H
 obtain ⟨t201, A20, H⟩ := H
 replace H : (if y198.length + t201.size < 140737488355328 then (isthmusref18_laid.l0 k (y198 ++ bytesOf t201) 0 l0_0 l0_1 l0_2 l0_3) else (none)) = some r := H
 have A2 := Aside0.mk A20
 clear A20
 by_cases c3 : y198.length + t201.size < 140737488355328
 ·rw [if_pos c3] at H
  have LMc3 := Aside0.mk c3
  clear c3
  obtain ⟨y202, hy202⟩ : ∃ y_ : List Int, y_ = (y198 ++ bytesOf t201) := ⟨_, rfl⟩
  replace H : (isthmusref18_laid.l0 k y202 0 l0_0 l0_1 l0_2 l0_3) = some r := by first | (rw [hy202]; with_reducible exact H) | (have H2_ := (Option.bind_some _ _).symm.trans H; rw [hy202]; with_reducible exact H2_) | (have H2_ := (Option.bind_some _ _).symm.trans H; with_reducible exact H2_) | with_reducible exact H | (rw [hy202]; exact H) | exact H
  have Ny202 := Aside0.mk hy202
  clear hy202
  have H' := Aside0.mk H
  clear H
  go_enter Tryd.func37, Tryd.ntmps37
  go_wp2_with (first | ((with_reducible refine gate_dst (N := 1) rfl ?_); refine box_event ?hg (N := 1) ?hd (cs := #[.slice A0_0 l0_0.length c0_0, .slice A0_1 l0_1.length c0_1, .slice A0_2 l0_2.length c0_2, .slice A0_3 l0_3.length c0_3]) (t := 26) ?hr ?_; (case hd => rfl); (case hg => rfl); (case hr => first | (go_simp; done) | (go_simp; rfl)); intro gb197 hg w4 hbox hb; have n0_ := Aside0.mk (below_step (by repeat (first | (with_reducible first | exact HB.out | apply below_alloc | apply pw_below_drewN | apply below_drew1) | exact HB.out)) hb); have n1_ := Aside0.mk (hbox); have n2_ := Aside0.mk ((by rw [hg]; exact (below_size (by repeat (first | (with_reducible first | exact HB.out | apply below_alloc | apply pw_below_drewN | apply below_drew1) | exact HB.out))) : w.heap.size ≤ gb197)); have n3_ := Aside0.mk ((by rw [hg]; exact (below_size (by repeat (first | (with_reducible first | exact HB.out | apply below_alloc | apply pw_below_drewN | apply below_drew1) | exact HB.out))) : w.heap.size ≤ gb197)); clear HB; have HB := n0_; have BK197 := n1_; have GW197 := n2_; have GE197 := n3_; clear n0_ n1_ n2_ n3_; clear hb hbox hg; have kc := Lib.run_convert_bytes_const (P := Tryd.prog) w4 44 5 #[.int .u8 73, .int .u8 67, .int .u8 49] 3 3 Tryd.underlying44 Tryd.underlying5; have hsz3 : (#[.int .u8 73, .int .u8 67, .int .u8 49] : Array Value).size = 3 := rfl; rw [hsz3] at kc; clear hsz3) | ((with_reducible refine gate_dst (N := 9) rfl ?_); refine Kd.event_run ?hg (w1 := w4.alloc (.cells #[.int .u8 73, .int .u8 67, .int .u8 49] 5 (3, 4))) (v := .slice (some ⟨w4.heap.size, 0, none⟩) 3 3) ?hr ?_; (case hg => rfl); (case hr => go_simp); have hl_ := Aside0.mk (show LRow (w4.alloc (.cells #[.int .u8 73, .int .u8 67, .int .u8 49] 5 (3, 4))) w.heap.size (.slice (some ⟨w4.heap.size, 0, none⟩) 3 3) [73, 67, 49] from .inr ⟨rfl, w4.heap.size, (3, 4), rfl, HB.out.size, heap_alloc_new _ _⟩); have hb := below_alloc (Below.refl w4.heap.size w4) (.cells #[.int .u8 73, .int .u8 67, .int .u8 49] 5 (3, 4)); obtain ⟨v199, hv_⟩ : ∃ v_ : Value, v_ = .slice (some ⟨w4.heap.size, 0, none⟩) 3 3 := ⟨_, rfl⟩; rw [← hv_] at hl_ ⊢; clear hv_; generalize w4.alloc (.cells #[.int .u8 73, .int .u8 67, .int .u8 49] 5 (3, 4)) = w5 at hl_ hb ⊢; rw [← Ny198.out] at hl_; have n0_ := hl_; clear hl_; have n1_ := Aside0.mk (blk_below (g := gb197) (o := .cells #[.slice A0_0 l0_0.length c0_0, .slice A0_1 l0_1.length c0_1, .slice A0_2 l0_2.length c0_2, .slice A0_3 l0_3.length c0_3] 26 (0, 0)) (by (with_reducible repeat (first | refine blk_drewN ?_ _ | refine blk_drew ?_ | refine blk_alloc ?_ _)); exact BK197.out) hb); have n2_ := Aside0.mk (below_step (by repeat (first | (with_reducible first | exact HB.out | apply below_alloc | apply pw_below_drewN | apply below_drew1 | refine below_set ?_ GE197.out) | exact HB.out)) hb); clear BK197; clear HB; have HO200 := n0_; have BK197 := n1_; have HB := n2_; clear n0_ n1_ n2_; clear hb kc; have hcz7_0 : w5.cell? ⟨gb197, 0, none⟩ = some (.slice A0_0 l0_0.length c0_0) := (blk_cell BK197.out 0).trans rfl; have hcz7_1 : w5.cell? ⟨gb197, 1, none⟩ = some (.slice A0_1 l0_1.length c0_1) := (blk_cell BK197.out 1).trans rfl; have hcz7_2 : w5.cell? ⟨gb197, 2, none⟩ = some (.slice A0_2 l0_2.length c0_2) := (blk_cell BK197.out 2).trans rfl; have hcz7_3 : w5.cell? ⟨gb197, 3, none⟩ = some (.slice A0_3 l0_3.length c0_3) := (blk_cell BK197.out 3).trans rfl; have hfz7_0 := blk_frozen BK197.out 0; have hfz7_1 := blk_frozen BK197.out 1; have hfz7_2 := blk_frozen BK197.out 2; have hfz7_3 := blk_frozen BK197.out 3) | ((with_reducible refine gate_callee (f := 61) rfl ?_); refine goesL_ (some 15) rfl rfl Tryd.func61 (by kernel_rfl) rfl #[.int .u64 (IntKind.u64.wrap ((l0_0.length : Int)))] rfl (by (try simp only [List.map_toArray, List.map_cons, List.map_nil]); first | done | rfl | (simp only [List.length_drop, List.length_take]; rfl)) ?_; (with_reducible refine (isthmusref01_Put.calls k (IntKind.u64.wrap ((l0_0.length : Int))) t201 _ A2.out).mono ?_); rintro e w8 ⟨rfl, hb⟩; refine ⟨_, rfl, ?_⟩; have n0_ := Aside0.mk (LRow.below HO200.out hb); have n1_ := Aside0.mk (blk_below (g := gb197) (o := .cells #[.slice A0_0 l0_0.length c0_0, .slice A0_1 l0_1.length c0_1, .slice A0_2 l0_2.length c0_2, .slice A0_3 l0_3.length c0_3] 26 (0, 0)) (by (with_reducible repeat (first | refine blk_drewN ?_ _ | refine blk_drew ?_ | refine blk_alloc ?_ _)); exact BK197.out) hb); have n2_ := Aside0.mk (below_step (by repeat (first | (with_reducible first | exact HB.out | apply below_alloc | apply pw_below_drewN | apply below_drew1 | refine below_set ?_ GE197.out) | exact HB.out)) hb); clear HO200; clear BK197; clear HB; have HO200 := n0_; have BK197 := n1_; have HB := n2_; clear n0_ n1_ n2_; (try clear hb); (try clear hb2); (try clear hk); (try clear hi)) | (at_builtin; refine wpl_app rfl (.tmp 10) (.tmp 15) rfl rfl v199 y198 t201 rfl rfl HO200.out (ref01_Put_pos A2.out) (Nat.le_of_lt LMc3.out) HB.out.size ?_; intro g_ c_ n_ w9 ho0 hg; have hb := pw_below_grown HB.out _ HB.out.size hg (fun k hk => (LRow.typed HO200.out k hk).1); have ho := Kd.R_of_own (h1 := fun _ => rfl) (ok := fun _ => True) ho0 (fun _ _ => trivial); clear ho0; obtain ⟨v203, hv_⟩ : ∃ v_ : Value, v_ = .slice (some ⟨g_, 0, none⟩) n_ c_ := ⟨_, rfl⟩; rw [← hv_] at ho ⊢; clear hv_; have hat := True.intro; rw [← Ny202.out] at ho; change Kd.R (Kd.int .u8) 5 w9 w.heap.size (fun _ => True) v203 y202 at ho; have n0_ := Aside0.mk (blk_grown (g := gb197) (o := .cells #[.slice A0_0 l0_0.length c0_0, .slice A0_1 l0_1.length c0_1, .slice A0_2 l0_2.length c0_2, .slice A0_3 l0_3.length c0_3] 26 (0, 0)) (by (with_reducible repeat (first | refine blk_drewN ?_ _ | refine blk_drew ?_ | refine blk_alloc ?_ _)); exact BK197.out) hg (LRow.ne HO200.out BK197.out (by decide))); have n1_ := Aside0.mk (hb); have n2_ := Aside0.mk (ho); clear BK197; clear HB; clear HO200; have BK197 := n0_; have HB := n1_; have HO204 := n2_; clear n0_ n1_ n2_; clear ho hb hg hat))
  go_loopg [3, 4] k (fun kq v3 v4 w' => ∃ (x3_1 : List Int) (x4_1 : Int), v4 = .int .i64 x4_1 ∧ Aside0 (isthmusref18_laid.l0 kq x3_1 x4_1 l0_0 l0_1 l0_2 l0_3 = some r) ∧ Aside0 (kq ≤ k) ∧ Aside0 (Kd.R (Kd.int .u8) 5 w' w.heap.size (fun _ => True) v3 x3_1) ∧ Aside0 (w'.heap[gb197]? = some (.cells #[(.slice A0_0 l0_0.length c0_0), (.slice A0_1 l0_1.length c0_1), (.slice A0_2 l0_2.length c0_2), (.slice A0_3 l0_3.length c0_3)] 26 (0, 0))) ∧ Aside0 (Below w.heap.size w w'))
  case atStart => exact ⟨(y202), (0), (by first | rfl | (simp; done) | (simp [*]; done)), H', ⟨Nat.le_refl _⟩, ⟨by (with_reducible repeat (first | apply Kd.R_alloc | apply Kd.R_drewN | apply Kd.R_drew)); exact HO204.out⟩, ⟨by (with_reducible repeat (first | refine blk_drewN ?_ _ | refine blk_drew ?_ | refine blk_alloc ?_ _)); exact BK197.out⟩, ⟨by repeat (first | (with_reducible first | exact HB.out | apply below_alloc | apply pw_below_drewN | apply below_drew1 | refine below_set ?_ GE197.out) | exact HB.out)⟩⟩
  case round =>
   clear H'
   try clear p2
   try clear c3
   try clear c6
   try clear hcz7_0
   try clear hcz7_1
   try clear hcz7_2
   try clear hcz7_3
   try clear hfz7_0
   try clear hfz7_1
   try clear hfz7_2
   try clear hfz7_3
   obtain ⟨x3_1, x4_1, rfl, HA, HK1, HO_3, BK197, HB⟩ := hrel
   cases gk with
   | zero => exact absurd HA.out (by simp [isthmusref18_laid.l0])
   | succ k1 =>
    have H := HA.out
    clear HA
    simp only [isthmusref18_laid.l0] at H
    by_cases c10 : x4_1 < (l0_0.length : Int)
    ·rw [if_pos c10] at H
     have c10b0 : decide (x4_1 < (l0_0.length : Int)) = true := decide_eq_true c10
     clear c10
     by_cases c11 : 0 ≤ x4_1
     ·rw [if_pos c11] at H
      have c11b0 : decide (0 ≤ x4_1) = true := decide_eq_true c11
      clear c11
      replace H := Option.bind_eq_some_iff.mp H
      obtain ⟨t206, A120, H⟩ := H
      replace H : (if x3_1.length + t206.size < 140737488355328 then (isthmusref18_laid.l0 k1 (x3_1 ++ bytesOf t206) (wrap64 (x4_1 + 1)) l0_0 l0_1 l0_2 l0_3) else (none)) = some r := H
      have A12 := Aside0.mk A120
      clear A120
      by_cases c13 : x3_1.length + t206.size < 140737488355328
      ·rw [if_pos c13] at H
       have LMc13 := Aside0.mk c13
       clear c13
       obtain ⟨y207, hy207⟩ : ∃ y_ : List Int, y_ = (x3_1 ++ bytesOf t206) := ⟨_, rfl⟩
       replace H : (isthmusref18_laid.l0 k1 y207 (wrap64 (x4_1 + 1)) l0_0 l0_1 l0_2 l0_3) = some r := by first | (rw [hy207]; with_reducible exact H) | (have H2_ := (Option.bind_some _ _).symm.trans H; rw [hy207]; with_reducible exact H2_) | (have H2_ := (Option.bind_some _ _).symm.trans H; with_reducible exact H2_) | with_reducible exact H | (rw [hy207]; exact H) | exact H
       have Ny207 := Aside0.mk hy207
       clear hy207
       have H' := Aside0.mk H
       clear H
       have hcz14_0 : wr.cell? ⟨gb197, 0, none⟩ = some (.slice A0_0 l0_0.length c0_0) := (blk_cell BK197.out 0).trans rfl
       have hcz14_1 : wr.cell? ⟨gb197, 1, none⟩ = some (.slice A0_1 l0_1.length c0_1) := (blk_cell BK197.out 1).trans rfl
       have hcz14_2 : wr.cell? ⟨gb197, 2, none⟩ = some (.slice A0_2 l0_2.length c0_2) := (blk_cell BK197.out 2).trans rfl
       have hcz14_3 : wr.cell? ⟨gb197, 3, none⟩ = some (.slice A0_3 l0_3.length c0_3) := (blk_cell BK197.out 3).trans rfl
       have hfz14_0 := blk_frozen BK197.out 0
       have hfz14_1 := blk_frozen BK197.out 1
       have hfz14_2 := blk_frozen BK197.out 2
       have hfz14_3 := blk_frozen BK197.out 3
       have p205 : 0 ≤ (x4_1 : Int) := of_decide_eq_true (by first | (with_reducible assumption) | assumption)
       have q205 : x4_1 < (l0_0.length : Int) := of_decide_eq_true (by first | (with_reducible assumption) | assumption)
       obtain ⟨ad205, e205, hx205_0⟩ := Kd.at_int HR0_0.out x4_1 p205 q205
       cases e205
       replace hx205_0 := (HB.out.cell (World.block_lt_of_cell? w _ hx205_0)).trans hx205_0
       replace p205 := eq_true p205
       replace q205 := eq_true q205
       go_wp2_with (first | ((with_reducible refine gate_callee (f := 61) rfl ?_); refine goesL_ (some 30) rfl rfl Tryd.func61 (by kernel_rfl) rfl #[.int .u64 (rd l0_0 x4_1)] rfl (by (try simp only [List.map_toArray, List.map_cons, List.map_nil]); first | done | rfl | (simp only [List.length_drop, List.length_take]; rfl)) ?_; (with_reducible refine (isthmusref01_Put.calls k1 (rd l0_0 x4_1) t206 _ A12.out).mono ?_); rintro e w15 ⟨rfl, hb⟩; refine ⟨_, rfl, ?_⟩; have n0_ := Aside0.mk (Kd.R_below (by (with_reducible repeat (first | apply Kd.R_alloc | apply Kd.R_drewN | apply Kd.R_drew)); exact HO_3.out) hb); have n1_ := Aside0.mk (blk_below (g := gb197) (o := .cells #[.slice (some ad205) l0_0.length c0_0, .slice A0_1 l0_1.length c0_1, .slice A0_2 l0_2.length c0_2, .slice A0_3 l0_3.length c0_3] 26 (0, 0)) (by (with_reducible repeat (first | refine blk_drewN ?_ _ | refine blk_drew ?_ | refine blk_alloc ?_ _)); exact BK197.out) hb); have n2_ := Aside0.mk (below_step (by repeat (first | (with_reducible first | exact HB.out | apply below_alloc | apply pw_below_drewN | apply below_drew1 | refine below_set ?_ GE197.out) | exact HB.out)) hb); clear HO_3; clear BK197; clear HB; have HO_3 := n0_; have BK197 := n1_; have HB := n2_; clear n0_ n1_ n2_; (try clear hb); (try clear hb2); (try clear hk); (try clear hi)) | (at_builtin; refine print_append_str (w0 := w) w.heap.size rfl (.tmp 24) _ 44 9 5 rfl Tryd.underlying44 Tryd.underlying9 info5 u3 x3_1 t206 rfl rfl ?aO ?aB ?aS ?aL ?_; (case aB => exact (by repeat (first | (with_reducible first | exact HB.out | apply below_alloc | apply pw_below_drewN | apply below_drew1 | refine below_set ?_ GE197.out) | exact HB.out))); (case aO => exact (Kd.own_of_R (by (with_reducible repeat (first | apply Kd.R_alloc | apply Kd.R_drewN | apply Kd.R_drew)); exact HO_3.out))); (case aS => exact (below_size (by repeat (first | (with_reducible first | exact HB.out | apply below_alloc | apply pw_below_drewN | apply below_drew1 | refine below_set ?_ GE197.out) | exact HB.out)))); (case aL => have := LMc13.out; omega); intro v208 w16 ho0 hb hg; have ho := Kd.R_of_own (h1 := fun _ => rfl) (ok := fun _ => True) ho0 (fun _ _ => trivial); clear ho0; have hat := True.intro; rw [← Ny207.out] at ho; change Kd.R (Kd.int .u8) 5 w16 w.heap.size (fun _ => True) v208 y207 at ho; have n0_ := Aside0.mk (blk_grown (g := gb197) (o := .cells #[.slice (some ad205) l0_0.length c0_0, .slice A0_1 l0_1.length c0_1, .slice A0_2 l0_2.length c0_2, .slice A0_3 l0_3.length c0_3] 26 (0, 0)) (by (with_reducible repeat (first | refine blk_drewN ?_ _ | refine blk_drew ?_ | refine blk_alloc ?_ _)); exact BK197.out) hg (Kd.R_ne HO_3.out BK197.out (by decide))); have n1_ := Aside0.mk (hb); have n2_ := Aside0.mk (ho); clear BK197; clear HB; clear HO_3; have BK197 := n0_; have HB := n1_; have HO209 := n2_; clear n0_ n1_ n2_; clear ho hb hg hat))
       go_roundg k1
       case measure => have := HK1.out; omega
       case rel => exact ⟨(y207), (wrap64 (x4_1 + 1)), (by first | rfl | (simp; done) | (simp [*]; done)), H', ⟨by have := HK1.out; omega⟩, ⟨by (with_reducible repeat (first | apply Kd.R_alloc | apply Kd.R_drewN | apply Kd.R_drew)); exact HO209.out⟩, ⟨by (with_reducible repeat (first | refine blk_drewN ?_ _ | refine blk_drew ?_ | refine blk_alloc ?_ _)); exact BK197.out⟩, ⟨by repeat (first | (with_reducible first | exact HB.out | apply below_alloc | apply pw_below_drewN | apply below_drew1 | refine below_set ?_ GE197.out) | exact HB.out)⟩⟩
      ·rw [if_neg c13] at H
       exact absurd H (by simp)
     ·rw [if_neg c11] at H
      exact absurd H (by simp)
    ·rw [if_neg c10] at H
     have c10b0 : decide (x4_1 < (l0_0.length : Int)) = false := decide_eq_false c10
     clear c10
     replace H := Option.bind_eq_some_iff.mp H
     obtain ⟨t210, A170, H⟩ := H
     replace H : (if x3_1.length + t210.size < 140737488355328 then (isthmusref18_laid.l1 k1 (x3_1 ++ bytesOf t210) 0 l0_0 l0_1 l0_2 l0_3) else (none)) = some r := H
     have A17 := Aside0.mk A170
     clear A170
     by_cases c18 : x3_1.length + t210.size < 140737488355328
     ·rw [if_pos c18] at H
      have LMc18 := Aside0.mk c18
      clear c18
      obtain ⟨y211, hy211⟩ : ∃ y_ : List Int, y_ = (x3_1 ++ bytesOf t210) := ⟨_, rfl⟩
      replace H : (isthmusref18_laid.l1 k1 y211 0 l0_0 l0_1 l0_2 l0_3) = some r := by first | (rw [hy211]; with_reducible exact H) | (have H2_ := (Option.bind_some _ _).symm.trans H; rw [hy211]; with_reducible exact H2_) | (have H2_ := (Option.bind_some _ _).symm.trans H; with_reducible exact H2_) | with_reducible exact H | (rw [hy211]; exact H) | exact H
      have Ny211 := Aside0.mk hy211
      clear hy211
      have H' := Aside0.mk H
      clear H
      have hcz19_0 : wr.cell? ⟨gb197, 0, none⟩ = some (.slice A0_0 l0_0.length c0_0) := (blk_cell BK197.out 0).trans rfl
      have hcz19_1 : wr.cell? ⟨gb197, 1, none⟩ = some (.slice A0_1 l0_1.length c0_1) := (blk_cell BK197.out 1).trans rfl
      have hcz19_2 : wr.cell? ⟨gb197, 2, none⟩ = some (.slice A0_2 l0_2.length c0_2) := (blk_cell BK197.out 2).trans rfl
      have hcz19_3 : wr.cell? ⟨gb197, 3, none⟩ = some (.slice A0_3 l0_3.length c0_3) := (blk_cell BK197.out 3).trans rfl
      have hfz19_0 := blk_frozen BK197.out 0
      have hfz19_1 := blk_frozen BK197.out 1
      have hfz19_2 := blk_frozen BK197.out 2
      have hfz19_3 := blk_frozen BK197.out 3
      go_wp2_with (first | ((with_reducible refine gate_callee (f := 61) rfl ?_); refine goesL_ (some 37) rfl rfl Tryd.func61 (by kernel_rfl) rfl #[.int .u64 (IntKind.u64.wrap ((l0_1.length : Int)))] rfl (by (try simp only [List.map_toArray, List.map_cons, List.map_nil]); first | done | rfl | (simp only [List.length_drop, List.length_take]; rfl)) ?_; (with_reducible refine (isthmusref01_Put.calls k1 (IntKind.u64.wrap ((l0_1.length : Int))) t210 _ A17.out).mono ?_); rintro e w20 ⟨rfl, hb⟩; refine ⟨_, rfl, ?_⟩; have n0_ := Aside0.mk (Kd.R_below (by (with_reducible repeat (first | apply Kd.R_alloc | apply Kd.R_drewN | apply Kd.R_drew)); exact HO_3.out) hb); have n1_ := Aside0.mk (blk_below (g := gb197) (o := .cells #[.slice A0_0 l0_0.length c0_0, .slice A0_1 l0_1.length c0_1, .slice A0_2 l0_2.length c0_2, .slice A0_3 l0_3.length c0_3] 26 (0, 0)) (by (with_reducible repeat (first | refine blk_drewN ?_ _ | refine blk_drew ?_ | refine blk_alloc ?_ _)); exact BK197.out) hb); have n2_ := Aside0.mk (below_step (by repeat (first | (with_reducible first | exact HB.out | apply below_alloc | apply pw_below_drewN | apply below_drew1 | refine below_set ?_ GE197.out) | exact HB.out)) hb); clear HO_3; clear BK197; clear HB; have HO_3 := n0_; have BK197 := n1_; have HB := n2_; clear n0_ n1_ n2_; (try clear hb); (try clear hb2); (try clear hk); (try clear hi)) | (at_builtin; refine print_append_str (w0 := w) w.heap.size rfl (.tmp 32) _ 44 9 5 rfl Tryd.underlying44 Tryd.underlying9 info5 u3 x3_1 t210 rfl rfl ?aO ?aB ?aS ?aL ?_; (case aB => exact (by repeat (first | (with_reducible first | exact HB.out | apply below_alloc | apply pw_below_drewN | apply below_drew1 | refine below_set ?_ GE197.out) | exact HB.out))); (case aO => exact (Kd.own_of_R (by (with_reducible repeat (first | apply Kd.R_alloc | apply Kd.R_drewN | apply Kd.R_drew)); exact HO_3.out))); (case aS => exact (below_size (by repeat (first | (with_reducible first | exact HB.out | apply below_alloc | apply pw_below_drewN | apply below_drew1 | refine below_set ?_ GE197.out) | exact HB.out)))); (case aL => have := LMc18.out; omega); intro v212 w21 ho0 hb hg; have ho := Kd.R_of_own (h1 := fun _ => rfl) (ok := fun _ => True) ho0 (fun _ _ => trivial); clear ho0; have hat := True.intro; rw [← Ny211.out] at ho; change Kd.R (Kd.int .u8) 5 w21 w.heap.size (fun _ => True) v212 y211 at ho; have n0_ := Aside0.mk (blk_grown (g := gb197) (o := .cells #[.slice A0_0 l0_0.length c0_0, .slice A0_1 l0_1.length c0_1, .slice A0_2 l0_2.length c0_2, .slice A0_3 l0_3.length c0_3] 26 (0, 0)) (by (with_reducible repeat (first | refine blk_drewN ?_ _ | refine blk_drew ?_ | refine blk_alloc ?_ _)); exact BK197.out) hg (Kd.R_ne HO_3.out BK197.out (by decide))); have n1_ := Aside0.mk (hb); have n2_ := Aside0.mk (ho); clear BK197; clear HB; clear HO_3; have BK197 := n0_; have HB := n1_; have HO213 := n2_; clear n0_ n1_ n2_; clear ho hb hg hat))
      go_loopg [3, 5] k1 (fun kq v3 v5 w' => ∃ (x3_2 : List Int) (x5_2 : Int), v5 = .int .i64 x5_2 ∧ Aside0 (isthmusref18_laid.l1 kq x3_2 x5_2 l0_0 l0_1 l0_2 l0_3 = some r) ∧ Aside0 (kq ≤ k1) ∧ Aside0 (Kd.R (Kd.int .u8) 5 w' w.heap.size (fun _ => True) v3 x3_2) ∧ Aside0 (w'.heap[gb197]? = some (.cells #[(.slice A0_0 l0_0.length c0_0), (.slice A0_1 l0_1.length c0_1), (.slice A0_2 l0_2.length c0_2), (.slice A0_3 l0_3.length c0_3)] 26 (0, 0))) ∧ Aside0 (Below w.heap.size w w'))
      case atStart => exact ⟨(y211), (0), (by first | rfl | (simp; done) | (simp [*]; done)), H', ⟨Nat.le_refl _⟩, ⟨by (with_reducible repeat (first | apply Kd.R_alloc | apply Kd.R_drewN | apply Kd.R_drew)); exact HO213.out⟩, ⟨by (with_reducible repeat (first | refine blk_drewN ?_ _ | refine blk_drew ?_ | refine blk_alloc ?_ _)); exact BK197.out⟩, ⟨by repeat (first | (with_reducible first | exact HB.out | apply below_alloc | apply pw_below_drewN | apply below_drew1 | refine below_set ?_ GE197.out) | exact HB.out)⟩⟩
      case round =>
       clear H'
       try clear c1
       try clear p2
       try clear q2
       try clear hx2
       try clear c3
       try clear c6
       try clear p6
       try clear c10
       try clear c10b0
       try clear c11
       try clear c11b0
       try clear c13
       try clear c18
       try clear p20
       try clear q20
       try clear hx20
       try clear hcz14_0
       try clear hcz14_1
       try clear hcz14_2
       try clear hcz14_3
       try clear hcz19_0
       try clear hcz19_1
       try clear hcz19_2
       try clear hcz19_3
       try clear hcz7_0
       try clear hcz7_1
       try clear hcz7_2
       try clear hcz7_3
       try clear hfz14_0
       try clear hfz14_1
       try clear hfz14_2
       try clear hfz14_3
       try clear hfz19_0
       try clear hfz19_1
       try clear hfz19_2
       try clear hfz19_3
       try clear hfz7_0
       try clear hfz7_1
       try clear hfz7_2
       try clear hfz7_3
       try clear hx205_0
       try clear p2
       try clear p205
       try clear q205
       obtain ⟨x3_2, x5_2, rfl, HA, HK2, HO_3, BK197, HB⟩ := hrel
       cases gk with
       | zero => exact absurd HA.out (by simp [isthmusref18_laid.l1])
       | succ k2 =>
        have H := HA.out
        clear HA
        simp only [isthmusref18_laid.l1] at H
        by_cases c22 : x5_2 < (l0_1.length : Int)
        ·rw [if_pos c22] at H
         have c22b0 : decide (x5_2 < (l0_1.length : Int)) = true := decide_eq_true c22
         clear c22
         by_cases c23 : 0 ≤ x5_2
         ·rw [if_pos c23] at H
          have c23b0 : decide (0 ≤ x5_2) = true := decide_eq_true c23
          clear c23
          replace H := Option.bind_eq_some_iff.mp H
          obtain ⟨t215, A240, H⟩ := H
          replace H : ((isthmusref01_Put.f k2 t215).bind fun t216 => (if x3_2.length + t216.size < 140737488355328 then (isthmusref18_laid.l1 k2 (x3_2 ++ bytesOf t216) (wrap64 (x5_2 + 1)) l0_0 l0_1 l0_2 l0_3) else (none))) = some r := H
          have A24 := Aside0.mk A240
          clear A240
          replace H := Option.bind_eq_some_iff.mp H
          obtain ⟨t216, A250, H⟩ := H
          replace H : (if x3_2.length + t216.size < 140737488355328 then (isthmusref18_laid.l1 k2 (x3_2 ++ bytesOf t216) (wrap64 (x5_2 + 1)) l0_0 l0_1 l0_2 l0_3) else (none)) = some r := H
          have A25 := Aside0.mk A250
          clear A250
          by_cases c26 : x3_2.length + t216.size < 140737488355328
          ·rw [if_pos c26] at H
           have LMc26 := Aside0.mk c26
           clear c26
           obtain ⟨y217, hy217⟩ : ∃ y_ : List Int, y_ = (x3_2 ++ bytesOf t216) := ⟨_, rfl⟩
           replace H : (isthmusref18_laid.l1 k2 y217 (wrap64 (x5_2 + 1)) l0_0 l0_1 l0_2 l0_3) = some r := by first | (rw [hy217]; with_reducible exact H) | (have H2_ := (Option.bind_some _ _).symm.trans H; rw [hy217]; with_reducible exact H2_) | (have H2_ := (Option.bind_some _ _).symm.trans H; with_reducible exact H2_) | with_reducible exact H | (rw [hy217]; exact H) | exact H
           have Ny217 := Aside0.mk hy217
           clear hy217
           have H' := Aside0.mk H
           clear H
           have hcz27_0 : wr.cell? ⟨gb197, 0, none⟩ = some (.slice A0_0 l0_0.length c0_0) := (blk_cell BK197.out 0).trans rfl
           have hcz27_1 : wr.cell? ⟨gb197, 1, none⟩ = some (.slice A0_1 l0_1.length c0_1) := (blk_cell BK197.out 1).trans rfl
           have hcz27_2 : wr.cell? ⟨gb197, 2, none⟩ = some (.slice A0_2 l0_2.length c0_2) := (blk_cell BK197.out 2).trans rfl
           have hcz27_3 : wr.cell? ⟨gb197, 3, none⟩ = some (.slice A0_3 l0_3.length c0_3) := (blk_cell BK197.out 3).trans rfl
           have hfz27_0 := blk_frozen BK197.out 0
           have hfz27_1 := blk_frozen BK197.out 1
           have hfz27_2 := blk_frozen BK197.out 2
           have hfz27_3 := blk_frozen BK197.out 3
           have p214 : 0 ≤ (x5_2 : Int) := of_decide_eq_true (by first | (with_reducible assumption) | assumption)
           have q214 : x5_2 < (l0_1.length : Int) := of_decide_eq_true (by first | (with_reducible assumption) | assumption)
           obtain ⟨ad214, e214, hx214_0⟩ := Kd.at_int HR0_1.out x5_2 p214 q214
           cases e214
           replace hx214_0 := (HB.out.cell (World.block_lt_of_cell? w _ hx214_0)).trans hx214_0
           replace p214 := eq_true p214
           replace q214 := eq_true q214
           go_wp2_with (first | ((with_reducible refine gate_callee (f := 62) rfl ?_); refine goesL_ (some 52) rfl rfl Tryd.func62 (by kernel_rfl) rfl #[.int .i64 (rd l0_1 x5_2)] rfl (by (try simp only [List.map_toArray, List.map_cons, List.map_nil]); first | done | rfl | (simp only [List.length_drop, List.length_take]; rfl)) ?_; (with_reducible refine (isthmusref01_Zig.calls (rd l0_1 x5_2) t215 _ A24.out).mono ?_); rintro e w' ⟨rfl, ⟨nd, rfl⟩⟩; refine ⟨_, rfl, ?_⟩) | ((with_reducible refine gate_callee (f := 61) rfl ?_); refine goesL_ (some 53) rfl rfl Tryd.func61 (by kernel_rfl) rfl #[.int .u64 t215] rfl (by (try simp only [List.map_toArray, List.map_cons, List.map_nil]); first | done | rfl | (simp only [List.length_drop, List.length_take]; rfl)) ?_; (with_reducible refine (isthmusref01_Put.calls k2 t215 t216 _ A25.out).mono ?_); rintro e w28 ⟨rfl, hb⟩; refine ⟨_, rfl, ?_⟩; have n0_ := Aside0.mk (Kd.R_below (by (with_reducible repeat (first | apply Kd.R_alloc | apply Kd.R_drewN | apply Kd.R_drew)); exact HO_3.out) hb); have n1_ := Aside0.mk (blk_below (g := gb197) (o := .cells #[.slice A0_0 l0_0.length c0_0, .slice (some ad214) l0_1.length c0_1, .slice A0_2 l0_2.length c0_2, .slice A0_3 l0_3.length c0_3] 26 (0, 0)) (by (with_reducible repeat (first | refine blk_drewN ?_ _ | refine blk_drew ?_ | refine blk_alloc ?_ _)); exact BK197.out) hb); have n2_ := Aside0.mk (below_step (by repeat (first | (with_reducible first | exact HB.out | apply below_alloc | apply pw_below_drewN | apply below_drew1 | refine below_set ?_ GE197.out) | exact HB.out)) hb); clear HO_3; clear BK197; clear HB; have HO_3 := n0_; have BK197 := n1_; have HB := n2_; clear n0_ n1_ n2_; (try clear hb); (try clear hb2); (try clear hk); (try clear hi)) | (at_builtin; refine print_append_str (w0 := w) w.heap.size rfl (.tmp 46) _ 44 9 5 rfl Tryd.underlying44 Tryd.underlying9 info5 u3 x3_2 t216 rfl rfl ?aO ?aB ?aS ?aL ?_; (case aB => exact (by repeat (first | (with_reducible first | exact HB.out | apply below_alloc | apply pw_below_drewN | apply below_drew1 | refine below_set ?_ GE197.out) | exact HB.out))); (case aO => exact (Kd.own_of_R (by (with_reducible repeat (first | apply Kd.R_alloc | apply Kd.R_drewN | apply Kd.R_drew)); exact HO_3.out))); (case aS => exact (below_size (by repeat (first | (with_reducible first | exact HB.out | apply below_alloc | apply pw_below_drewN | apply below_drew1 | refine below_set ?_ GE197.out) | exact HB.out)))); (case aL => have := LMc26.out; omega); intro v218 w29 ho0 hb hg; have ho := Kd.R_of_own (h1 := fun _ => rfl) (ok := fun _ => True) ho0 (fun _ _ => trivial); clear ho0; have hat := True.intro; rw [← Ny217.out] at ho; change Kd.R (Kd.int .u8) 5 w29 w.heap.size (fun _ => True) v218 y217 at ho; have n0_ := Aside0.mk (blk_grown (g := gb197) (o := .cells #[.slice A0_0 l0_0.length c0_0, .slice (some ad214) l0_1.length c0_1, .slice A0_2 l0_2.length c0_2, .slice A0_3 l0_3.length c0_3] 26 (0, 0)) (by (with_reducible repeat (first | refine blk_drewN ?_ _ | refine blk_drew ?_ | refine blk_alloc ?_ _)); exact BK197.out) hg (Kd.R_ne HO_3.out BK197.out (by decide))); have n1_ := Aside0.mk (hb); have n2_ := Aside0.mk (ho); clear BK197; clear HB; clear HO_3; have BK197 := n0_; have HB := n1_; have HO219 := n2_; clear n0_ n1_ n2_; clear ho hb hg hat))
           go_roundg k2
           case measure => have := HK1.out; have := HK2.out; omega
           case rel => exact ⟨(y217), (wrap64 (x5_2 + 1)), (by first | rfl | (simp; done) | (simp [*]; done)), H', ⟨by have := HK1.out; have := HK2.out; omega⟩, ⟨by (with_reducible repeat (first | apply Kd.R_alloc | apply Kd.R_drewN | apply Kd.R_drew)); exact HO219.out⟩, ⟨by (with_reducible repeat (first | refine blk_drewN ?_ _ | refine blk_drew ?_ | refine blk_alloc ?_ _)); exact BK197.out⟩, ⟨by repeat (first | (with_reducible first | exact HB.out | apply below_alloc | apply pw_below_drewN | apply below_drew1 | refine below_set ?_ GE197.out) | exact HB.out)⟩⟩
          ·rw [if_neg c26] at H
           exact absurd H (by simp)
         ·rw [if_neg c23] at H
          exact absurd H (by simp)
        ·rw [if_neg c22] at H
         have c22b0 : decide (x5_2 < (l0_1.length : Int)) = false := decide_eq_false c22
         clear c22
         replace H := Option.bind_eq_some_iff.mp H
         obtain ⟨t220, A300, H⟩ := H
         replace H : (if x3_2.length + t220.size < 140737488355328 then (isthmusref18_laid.l2 k2 (x3_2 ++ bytesOf t220) 0 l0_0 l0_1 l0_2 l0_3) else (none)) = some r := H
         have A30 := Aside0.mk A300
         clear A300
         by_cases c31 : x3_2.length + t220.size < 140737488355328
         ·rw [if_pos c31] at H
          have LMc31 := Aside0.mk c31
          clear c31
          obtain ⟨y221, hy221⟩ : ∃ y_ : List Int, y_ = (x3_2 ++ bytesOf t220) := ⟨_, rfl⟩
          replace H : (isthmusref18_laid.l2 k2 y221 0 l0_0 l0_1 l0_2 l0_3) = some r := by first | (rw [hy221]; with_reducible exact H) | (have H2_ := (Option.bind_some _ _).symm.trans H; rw [hy221]; with_reducible exact H2_) | (have H2_ := (Option.bind_some _ _).symm.trans H; with_reducible exact H2_) | with_reducible exact H | (rw [hy221]; exact H) | exact H
          have Ny221 := Aside0.mk hy221
          clear hy221
          have H' := Aside0.mk H
          clear H
          have hcz32_0 : wr.cell? ⟨gb197, 0, none⟩ = some (.slice A0_0 l0_0.length c0_0) := (blk_cell BK197.out 0).trans rfl
          have hcz32_1 : wr.cell? ⟨gb197, 1, none⟩ = some (.slice A0_1 l0_1.length c0_1) := (blk_cell BK197.out 1).trans rfl
          have hcz32_2 : wr.cell? ⟨gb197, 2, none⟩ = some (.slice A0_2 l0_2.length c0_2) := (blk_cell BK197.out 2).trans rfl
          have hcz32_3 : wr.cell? ⟨gb197, 3, none⟩ = some (.slice A0_3 l0_3.length c0_3) := (blk_cell BK197.out 3).trans rfl
          have hfz32_0 := blk_frozen BK197.out 0
          have hfz32_1 := blk_frozen BK197.out 1
          have hfz32_2 := blk_frozen BK197.out 2
          have hfz32_3 := blk_frozen BK197.out 3
          go_wp2_with (first | ((with_reducible refine gate_callee (f := 61) rfl ?_); refine goesL_ (some 60) rfl rfl Tryd.func61 (by kernel_rfl) rfl #[.int .u64 (IntKind.u64.wrap ((l0_2.length : Int)))] rfl (by (try simp only [List.map_toArray, List.map_cons, List.map_nil]); first | done | rfl | (simp only [List.length_drop, List.length_take]; rfl)) ?_; (with_reducible refine (isthmusref01_Put.calls k2 (IntKind.u64.wrap ((l0_2.length : Int))) t220 _ A30.out).mono ?_); rintro e w33 ⟨rfl, hb⟩; refine ⟨_, rfl, ?_⟩; have n0_ := Aside0.mk (Kd.R_below (by (with_reducible repeat (first | apply Kd.R_alloc | apply Kd.R_drewN | apply Kd.R_drew)); exact HO_3.out) hb); have n1_ := Aside0.mk (blk_below (g := gb197) (o := .cells #[.slice A0_0 l0_0.length c0_0, .slice A0_1 l0_1.length c0_1, .slice A0_2 l0_2.length c0_2, .slice A0_3 l0_3.length c0_3] 26 (0, 0)) (by (with_reducible repeat (first | refine blk_drewN ?_ _ | refine blk_drew ?_ | refine blk_alloc ?_ _)); exact BK197.out) hb); have n2_ := Aside0.mk (below_step (by repeat (first | (with_reducible first | exact HB.out | apply below_alloc | apply pw_below_drewN | apply below_drew1 | refine below_set ?_ GE197.out) | exact HB.out)) hb); clear HO_3; clear BK197; clear HB; have HO_3 := n0_; have BK197 := n1_; have HB := n2_; clear n0_ n1_ n2_; (try clear hb); (try clear hb2); (try clear hk); (try clear hi)) | (at_builtin; refine print_append_str (w0 := w) w.heap.size rfl (.tmp 55) _ 44 9 5 rfl Tryd.underlying44 Tryd.underlying9 info5 u3 x3_2 t220 rfl rfl ?aO ?aB ?aS ?aL ?_; (case aB => exact (by repeat (first | (with_reducible first | exact HB.out | apply below_alloc | apply pw_below_drewN | apply below_drew1 | refine below_set ?_ GE197.out) | exact HB.out))); (case aO => exact (Kd.own_of_R (by (with_reducible repeat (first | apply Kd.R_alloc | apply Kd.R_drewN | apply Kd.R_drew)); exact HO_3.out))); (case aS => exact (below_size (by repeat (first | (with_reducible first | exact HB.out | apply below_alloc | apply pw_below_drewN | apply below_drew1 | refine below_set ?_ GE197.out) | exact HB.out)))); (case aL => have := LMc31.out; omega); intro v222 w34 ho0 hb hg; have ho := Kd.R_of_own (h1 := fun _ => rfl) (ok := fun _ => True) ho0 (fun _ _ => trivial); clear ho0; have hat := True.intro; rw [← Ny221.out] at ho; change Kd.R (Kd.int .u8) 5 w34 w.heap.size (fun _ => True) v222 y221 at ho; have n0_ := Aside0.mk (blk_grown (g := gb197) (o := .cells #[.slice A0_0 l0_0.length c0_0, .slice A0_1 l0_1.length c0_1, .slice A0_2 l0_2.length c0_2, .slice A0_3 l0_3.length c0_3] 26 (0, 0)) (by (with_reducible repeat (first | refine blk_drewN ?_ _ | refine blk_drew ?_ | refine blk_alloc ?_ _)); exact BK197.out) hg (Kd.R_ne HO_3.out BK197.out (by decide))); have n1_ := Aside0.mk (hb); have n2_ := Aside0.mk (ho); clear BK197; clear HB; clear HO_3; have BK197 := n0_; have HB := n1_; have HO223 := n2_; clear n0_ n1_ n2_; clear ho hb hg hat))
          go_loopg [3, 6] k2 (fun kq v3 v6 w' => ∃ (x3_3 : List Int) (x6_3 : Int), v6 = .int .i64 x6_3 ∧ Aside0 (isthmusref18_laid.l2 kq x3_3 x6_3 l0_0 l0_1 l0_2 l0_3 = some r) ∧ Aside0 (kq ≤ k2) ∧ Aside0 (Kd.R (Kd.int .u8) 5 w' w.heap.size (fun _ => True) v3 x3_3) ∧ Aside0 (w'.heap[gb197]? = some (.cells #[(.slice A0_0 l0_0.length c0_0), (.slice A0_1 l0_1.length c0_1), (.slice A0_2 l0_2.length c0_2), (.slice A0_3 l0_3.length c0_3)] 26 (0, 0))) ∧ Aside0 (Below w.heap.size w w'))
          case atStart => exact ⟨(y221), (0), (by first | rfl | (simp; done) | (simp [*]; done)), H', ⟨Nat.le_refl _⟩, ⟨by (with_reducible repeat (first | apply Kd.R_alloc | apply Kd.R_drewN | apply Kd.R_drew)); exact HO223.out⟩, ⟨by (with_reducible repeat (first | refine blk_drewN ?_ _ | refine blk_drew ?_ | refine blk_alloc ?_ _)); exact BK197.out⟩, ⟨by repeat (first | (with_reducible first | exact HB.out | apply below_alloc | apply pw_below_drewN | apply below_drew1 | refine below_set ?_ GE197.out) | exact HB.out)⟩⟩
          case round =>
           clear H'
           try clear c1
           try clear c2
           try clear p2
           try clear q2
           try clear hx2
           try clear c3
           try clear c6
           try clear p6
           try clear c10
           try clear c10b0
           try clear c11
           try clear c11b0
           try clear c13
           try clear c18
           try clear p20
           try clear q20
           try clear hx20
           try clear p21
           try clear q21
           try clear hx21
           try clear c22
           try clear c22b0
           try clear c23
           try clear c23b0
           try clear c26
           try clear c31
           try clear hcz14_0
           try clear hcz14_1
           try clear hcz14_2
           try clear hcz14_3
           try clear hcz19_0
           try clear hcz19_1
           try clear hcz19_2
           try clear hcz19_3
           try clear hcz27_0
           try clear hcz27_1
           try clear hcz27_2
           try clear hcz27_3
           try clear hcz32_0
           try clear hcz32_1
           try clear hcz32_2
           try clear hcz32_3
           try clear hcz7_0
           try clear hcz7_1
           try clear hcz7_2
           try clear hcz7_3
           try clear hfz14_0
           try clear hfz14_1
           try clear hfz14_2
           try clear hfz14_3
           try clear hfz19_0
           try clear hfz19_1
           try clear hfz19_2
           try clear hfz19_3
           try clear hfz27_0
           try clear hfz27_1
           try clear hfz27_2
           try clear hfz27_3
           try clear hfz32_0
           try clear hfz32_1
           try clear hfz32_2
           try clear hfz32_3
           try clear hfz7_0
           try clear hfz7_1
           try clear hfz7_2
           try clear hfz7_3
           try clear hx205_0
           try clear hx214_0
           try clear p2
           try clear p20
           try clear p205
           try clear p214
           try clear p6
           try clear q2
           try clear q20
           try clear q205
           try clear q214
           obtain ⟨x3_3, x6_3, rfl, HA, HK3, HO_3, BK197, HB⟩ := hrel
           cases gk with
           | zero => exact absurd HA.out (by simp [isthmusref18_laid.l2])
           | succ k3 =>
            have H := HA.out
            clear HA
            simp only [isthmusref18_laid.l2] at H
            by_cases c35 : x6_3 < (l0_2.length : Int)
            ·rw [if_pos c35] at H
             have c35b0 : decide (x6_3 < (l0_2.length : Int)) = true := decide_eq_true c35
             clear c35
             by_cases c36 : 0 ≤ x6_3
             ·rw [if_pos c36] at H
              have c36b0 : decide (0 ≤ x6_3) = true := decide_eq_true c36
              clear c36
              replace H := Option.bind_eq_some_iff.mp H
              obtain ⟨t225, A370, H⟩ := H
              replace H : (if x3_3.length + t225.size < 140737488355328 then ((some (x3_3 ++ bytesOf t225 : List Int)).bind fun y226 => (if y226.length + (rdOf ByteArray.empty l0_2 x6_3).size < 140737488355328 then (isthmusref18_laid.l2 k3 (y226 ++ bytesOf (rdOf ByteArray.empty l0_2 x6_3)) (wrap64 (x6_3 + 1)) l0_0 l0_1 l0_2 l0_3) else (none))) else (none)) = some r := H
              have A37 := Aside0.mk A370
              clear A370
              by_cases c38 : x3_3.length + t225.size < 140737488355328
              ·rw [if_pos c38] at H
               have LMc38 := Aside0.mk c38
               clear c38
               obtain ⟨y226, hy226⟩ : ∃ y_ : List Int, y_ = (x3_3 ++ bytesOf t225) := ⟨_, rfl⟩
               replace H : (if y226.length + (rdOf ByteArray.empty l0_2 x6_3).size < 140737488355328 then (isthmusref18_laid.l2 k3 (y226 ++ bytesOf (rdOf ByteArray.empty l0_2 x6_3)) (wrap64 (x6_3 + 1)) l0_0 l0_1 l0_2 l0_3) else (none)) = some r := by first | (rw [hy226]; with_reducible exact H) | (have H2_ := (Option.bind_some _ _).symm.trans H; rw [hy226]; with_reducible exact H2_) | (have H2_ := (Option.bind_some _ _).symm.trans H; with_reducible exact H2_) | with_reducible exact H | (rw [hy226]; exact H) | exact H
               have Ny226 := Aside0.mk hy226
               clear hy226
               by_cases c39 : y226.length + (rdOf ByteArray.empty l0_2 x6_3).size < 140737488355328
               ·rw [if_pos c39] at H
                have LMc39 := Aside0.mk c39
                clear c39
                obtain ⟨y230, hy230⟩ : ∃ y_ : List Int, y_ = (y226 ++ bytesOf (rdOf ByteArray.empty l0_2 x6_3)) := ⟨_, rfl⟩
                replace H : (isthmusref18_laid.l2 k3 y230 (wrap64 (x6_3 + 1)) l0_0 l0_1 l0_2 l0_3) = some r := by first | (rw [hy230]; with_reducible exact H) | (have H2_ := (Option.bind_some _ _).symm.trans H; rw [hy230]; with_reducible exact H2_) | (have H2_ := (Option.bind_some _ _).symm.trans H; with_reducible exact H2_) | with_reducible exact H | (rw [hy230]; exact H) | exact H
                have Ny230 := Aside0.mk hy230
                clear hy230
                have H' := Aside0.mk H
                clear H
                have hcz40_0 : wr.cell? ⟨gb197, 0, none⟩ = some (.slice A0_0 l0_0.length c0_0) := (blk_cell BK197.out 0).trans rfl
                have hcz40_1 : wr.cell? ⟨gb197, 1, none⟩ = some (.slice A0_1 l0_1.length c0_1) := (blk_cell BK197.out 1).trans rfl
                have hcz40_2 : wr.cell? ⟨gb197, 2, none⟩ = some (.slice A0_2 l0_2.length c0_2) := (blk_cell BK197.out 2).trans rfl
                have hcz40_3 : wr.cell? ⟨gb197, 3, none⟩ = some (.slice A0_3 l0_3.length c0_3) := (blk_cell BK197.out 3).trans rfl
                have hfz40_0 := blk_frozen BK197.out 0
                have hfz40_1 := blk_frozen BK197.out 1
                have hfz40_2 := blk_frozen BK197.out 2
                have hfz40_3 := blk_frozen BK197.out 3
                have p224 : 0 ≤ (x6_3 : Int) := of_decide_eq_true (by first | (with_reducible assumption) | assumption)
                have q224 : x6_3 < (l0_2.length : Int) := of_decide_eq_true (by first | (with_reducible assumption) | assumption)
                obtain ⟨ad224, e224, hx224_0⟩ := Kd.at_string HR0_2.out x6_3 p224 q224
                cases e224
                replace hx224_0 := (HB.out.cell (World.block_lt_of_cell? w _ hx224_0)).trans hx224_0
                replace p224 := eq_true p224
                replace q224 := eq_true q224
                go_wp2_with (first | ((with_reducible refine gate_callee (f := 61) rfl ?_); refine goesL_ (some 77) rfl rfl Tryd.func61 (by kernel_rfl) rfl #[.int .u64 (IntKind.u64.wrap (((rdOf ByteArray.empty l0_2 x6_3).size : Int)))] rfl (by (try simp only [List.map_toArray, List.map_cons, List.map_nil]); first | done | rfl | (simp only [List.length_drop, List.length_take]; rfl)) ?_; (with_reducible refine (isthmusref01_Put.calls k3 (IntKind.u64.wrap (((rdOf ByteArray.empty l0_2 x6_3).size : Int))) t225 _ A37.out).mono ?_); rintro e w41 ⟨rfl, hb⟩; refine ⟨_, rfl, ?_⟩; have n0_ := Aside0.mk (Kd.R_below (by (with_reducible repeat (first | apply Kd.R_alloc | apply Kd.R_drewN | apply Kd.R_drew)); exact HO_3.out) hb); have n1_ := Aside0.mk (blk_below (g := gb197) (o := .cells #[.slice A0_0 l0_0.length c0_0, .slice A0_1 l0_1.length c0_1, .slice (some ad224) l0_2.length c0_2, .slice A0_3 l0_3.length c0_3] 26 (0, 0)) (by (with_reducible repeat (first | refine blk_drewN ?_ _ | refine blk_drew ?_ | refine blk_alloc ?_ _)); exact BK197.out) hb); have n2_ := Aside0.mk (below_step (by repeat (first | (with_reducible first | exact HB.out | apply below_alloc | apply pw_below_drewN | apply below_drew1 | refine below_set ?_ GE197.out) | exact HB.out)) hb); clear HO_3; clear BK197; clear HB; have HO_3 := n0_; have BK197 := n1_; have HB := n2_; clear n0_ n1_ n2_; (try clear hb); (try clear hb2); (try clear hk); (try clear hi)) | (at_builtin; refine print_append_str (w0 := w) w.heap.size rfl (.tmp 69) _ 44 9 5 rfl Tryd.underlying44 Tryd.underlying9 info5 u3 x3_3 t225 rfl rfl ?aO ?aB ?aS ?aL ?_; (case aB => exact (by repeat (first | (with_reducible first | exact HB.out | apply below_alloc | apply pw_below_drewN | apply below_drew1 | refine below_set ?_ GE197.out) | exact HB.out))); (case aO => exact (Kd.own_of_R (by (with_reducible repeat (first | apply Kd.R_alloc | apply Kd.R_drewN | apply Kd.R_drew)); exact HO_3.out))); (case aS => exact (below_size (by repeat (first | (with_reducible first | exact HB.out | apply below_alloc | apply pw_below_drewN | apply below_drew1 | refine below_set ?_ GE197.out) | exact HB.out)))); (case aL => have := LMc38.out; omega); intro v227 w42 ho0 hb hg; have ho := Kd.R_of_own (h1 := fun _ => rfl) (ok := fun _ => True) ho0 (fun _ _ => trivial); clear ho0; have hat := True.intro; rw [← Ny226.out] at ho; change Kd.R (Kd.int .u8) 5 w42 w.heap.size (fun _ => True) v227 y226 at ho; have n0_ := Aside0.mk (blk_grown (g := gb197) (o := .cells #[.slice A0_0 l0_0.length c0_0, .slice A0_1 l0_1.length c0_1, .slice (some ad224) l0_2.length c0_2, .slice A0_3 l0_3.length c0_3] 26 (0, 0)) (by (with_reducible repeat (first | refine blk_drewN ?_ _ | refine blk_drew ?_ | refine blk_alloc ?_ _)); exact BK197.out) hg (Kd.R_ne HO_3.out BK197.out (by decide))); have n1_ := Aside0.mk (hb); have n2_ := Aside0.mk (ho); clear BK197; clear HB; clear HO_3; have BK197 := n0_; have HB := n1_; have HO228 := n2_; clear n0_ n1_ n2_; clear ho hb hg hat; have hcz43_0 : w42.cell? ⟨gb197, 0, none⟩ = some (.slice A0_0 l0_0.length c0_0) := (blk_cell BK197.out 0).trans rfl; have hcz43_1 : w42.cell? ⟨gb197, 1, none⟩ = some (.slice A0_1 l0_1.length c0_1) := (blk_cell BK197.out 1).trans rfl; have hcz43_2 : w42.cell? ⟨gb197, 2, none⟩ = some (.slice (some ad224) l0_2.length c0_2) := (blk_cell BK197.out 2).trans rfl; have hcz43_3 : w42.cell? ⟨gb197, 3, none⟩ = some (.slice A0_3 l0_3.length c0_3) := (blk_cell BK197.out 3).trans rfl; have hfz43_0 := blk_frozen BK197.out 0; have hfz43_1 := blk_frozen BK197.out 1; have hfz43_2 := blk_frozen BK197.out 2; have hfz43_3 := blk_frozen BK197.out 3; have p229 : 0 ≤ (x6_3 : Int) := of_decide_eq_true (by first | (with_reducible assumption) | assumption); have q229 : x6_3 < (l0_2.length : Int) := of_decide_eq_true (by first | (with_reducible assumption) | assumption); obtain ⟨ad229, e229, hx229_0⟩ := Kd.at_string HR0_2.out x6_3 p229 q229; obtain rfl : ad224 = ad229 := (by injection e229); replace hx229_0 := (HB.out.cell (World.block_lt_of_cell? w _ hx229_0)).trans hx229_0; replace p229 := eq_true p229; replace q229 := eq_true q229) | (at_builtin; refine print_append_str (w0 := w) w.heap.size rfl (.tmp 79) _ 44 9 5 rfl Tryd.underlying44 Tryd.underlying9 info5 v227 y226 (rdOf ByteArray.empty l0_2 x6_3) rfl rfl ?aO ?aB ?aS ?aL ?_; (case aB => exact (by repeat (first | (with_reducible first | exact HB.out | apply below_alloc | apply pw_below_drewN | apply below_drew1 | refine below_set ?_ GE197.out) | exact HB.out))); (case aO => exact (Kd.own_of_R (by (with_reducible repeat (first | apply Kd.R_alloc | apply Kd.R_drewN | apply Kd.R_drew)); exact HO228.out))); (case aS => exact (below_size (by repeat (first | (with_reducible first | exact HB.out | apply below_alloc | apply pw_below_drewN | apply below_drew1 | refine below_set ?_ GE197.out) | exact HB.out)))); (case aL => have := LMc39.out; omega); intro v231 w44 ho0 hb hg; have ho := Kd.R_of_own (h1 := fun _ => rfl) (ok := fun _ => True) ho0 (fun _ _ => trivial); clear ho0; have hat := True.intro; rw [← Ny230.out] at ho; change Kd.R (Kd.int .u8) 5 w44 w.heap.size (fun _ => True) v231 y230 at ho; have n0_ := Aside0.mk (blk_grown (g := gb197) (o := .cells #[.slice A0_0 l0_0.length c0_0, .slice A0_1 l0_1.length c0_1, .slice (some ad224) l0_2.length c0_2, .slice A0_3 l0_3.length c0_3] 26 (0, 0)) (by (with_reducible repeat (first | refine blk_drewN ?_ _ | refine blk_drew ?_ | refine blk_alloc ?_ _)); exact BK197.out) hg (Kd.R_ne HO228.out BK197.out (by decide))); have n1_ := Aside0.mk (hb); have n2_ := Aside0.mk (ho); clear BK197; clear HB; clear HO228; have BK197 := n0_; have HB := n1_; have HO232 := n2_; clear n0_ n1_ n2_; clear ho hb hg hat))
                go_roundg k3
                case measure => have := HK1.out; have := HK2.out; have := HK3.out; omega
                case rel => exact ⟨(y230), (wrap64 (x6_3 + 1)), (by first | rfl | (simp; done) | (simp [*]; done)), H', ⟨by have := HK1.out; have := HK2.out; have := HK3.out; omega⟩, ⟨by (with_reducible repeat (first | apply Kd.R_alloc | apply Kd.R_drewN | apply Kd.R_drew)); exact HO232.out⟩, ⟨by (with_reducible repeat (first | refine blk_drewN ?_ _ | refine blk_drew ?_ | refine blk_alloc ?_ _)); exact BK197.out⟩, ⟨by repeat (first | (with_reducible first | exact HB.out | apply below_alloc | apply pw_below_drewN | apply below_drew1 | refine below_set ?_ GE197.out) | exact HB.out)⟩⟩
               ·rw [if_neg c39] at H
                exact absurd H (by simp)
              ·rw [if_neg c38] at H
               exact absurd H (by simp)
             ·rw [if_neg c36] at H
              exact absurd H (by simp)
            ·rw [if_neg c35] at H
             have c35b0 : decide (x6_3 < (l0_2.length : Int)) = false := decide_eq_false c35
             clear c35
             replace H := Option.bind_eq_some_iff.mp H
             obtain ⟨t233, A450, H⟩ := H
             replace H : (if x3_3.length + t233.size < 140737488355328 then (isthmusref18_laid.l3 k3 (x3_3 ++ bytesOf t233) 0 l0_0 l0_1 l0_2 l0_3) else (none)) = some r := H
             have A45 := Aside0.mk A450
             clear A450
             by_cases c46 : x3_3.length + t233.size < 140737488355328
             ·rw [if_pos c46] at H
              have LMc46 := Aside0.mk c46
              clear c46
              obtain ⟨y234, hy234⟩ : ∃ y_ : List Int, y_ = (x3_3 ++ bytesOf t233) := ⟨_, rfl⟩
              replace H : (isthmusref18_laid.l3 k3 y234 0 l0_0 l0_1 l0_2 l0_3) = some r := by first | (rw [hy234]; with_reducible exact H) | (have H2_ := (Option.bind_some _ _).symm.trans H; rw [hy234]; with_reducible exact H2_) | (have H2_ := (Option.bind_some _ _).symm.trans H; with_reducible exact H2_) | with_reducible exact H | (rw [hy234]; exact H) | exact H
              have Ny234 := Aside0.mk hy234
              clear hy234
              have H' := Aside0.mk H
              clear H
              have hcz47_0 : wr.cell? ⟨gb197, 0, none⟩ = some (.slice A0_0 l0_0.length c0_0) := (blk_cell BK197.out 0).trans rfl
              have hcz47_1 : wr.cell? ⟨gb197, 1, none⟩ = some (.slice A0_1 l0_1.length c0_1) := (blk_cell BK197.out 1).trans rfl
              have hcz47_2 : wr.cell? ⟨gb197, 2, none⟩ = some (.slice A0_2 l0_2.length c0_2) := (blk_cell BK197.out 2).trans rfl
              have hcz47_3 : wr.cell? ⟨gb197, 3, none⟩ = some (.slice A0_3 l0_3.length c0_3) := (blk_cell BK197.out 3).trans rfl
              have hfz47_0 := blk_frozen BK197.out 0
              have hfz47_1 := blk_frozen BK197.out 1
              have hfz47_2 := blk_frozen BK197.out 2
              have hfz47_3 := blk_frozen BK197.out 3
              go_wp2_with (first | ((with_reducible refine gate_callee (f := 61) rfl ?_); refine goesL_ (some 91) rfl rfl Tryd.func61 (by kernel_rfl) rfl #[.int .u64 (IntKind.u64.wrap ((l0_3.length : Int)))] rfl (by (try simp only [List.map_toArray, List.map_cons, List.map_nil]); first | done | rfl | (simp only [List.length_drop, List.length_take]; rfl)) ?_; (with_reducible refine (isthmusref01_Put.calls k3 (IntKind.u64.wrap ((l0_3.length : Int))) t233 _ A45.out).mono ?_); rintro e w48 ⟨rfl, hb⟩; refine ⟨_, rfl, ?_⟩; have n0_ := Aside0.mk (Kd.R_below (by (with_reducible repeat (first | apply Kd.R_alloc | apply Kd.R_drewN | apply Kd.R_drew)); exact HO_3.out) hb); have n1_ := Aside0.mk (blk_below (g := gb197) (o := .cells #[.slice A0_0 l0_0.length c0_0, .slice A0_1 l0_1.length c0_1, .slice A0_2 l0_2.length c0_2, .slice A0_3 l0_3.length c0_3] 26 (0, 0)) (by (with_reducible repeat (first | refine blk_drewN ?_ _ | refine blk_drew ?_ | refine blk_alloc ?_ _)); exact BK197.out) hb); have n2_ := Aside0.mk (below_step (by repeat (first | (with_reducible first | exact HB.out | apply below_alloc | apply pw_below_drewN | apply below_drew1 | refine below_set ?_ GE197.out) | exact HB.out)) hb); clear HO_3; clear BK197; clear HB; have HO_3 := n0_; have BK197 := n1_; have HB := n2_; clear n0_ n1_ n2_; (try clear hb); (try clear hb2); (try clear hk); (try clear hi)) | (at_builtin; refine print_append_str (w0 := w) w.heap.size rfl (.tmp 86) _ 44 9 5 rfl Tryd.underlying44 Tryd.underlying9 info5 u3 x3_3 t233 rfl rfl ?aO ?aB ?aS ?aL ?_; (case aB => exact (by repeat (first | (with_reducible first | exact HB.out | apply below_alloc | apply pw_below_drewN | apply below_drew1 | refine below_set ?_ GE197.out) | exact HB.out))); (case aO => exact (Kd.own_of_R (by (with_reducible repeat (first | apply Kd.R_alloc | apply Kd.R_drewN | apply Kd.R_drew)); exact HO_3.out))); (case aS => exact (below_size (by repeat (first | (with_reducible first | exact HB.out | apply below_alloc | apply pw_below_drewN | apply below_drew1 | refine below_set ?_ GE197.out) | exact HB.out)))); (case aL => have := LMc46.out; omega); intro v235 w49 ho0 hb hg; have ho := Kd.R_of_own (h1 := fun _ => rfl) (ok := fun _ => True) ho0 (fun _ _ => trivial); clear ho0; have hat := True.intro; rw [← Ny234.out] at ho; change Kd.R (Kd.int .u8) 5 w49 w.heap.size (fun _ => True) v235 y234 at ho; have n0_ := Aside0.mk (blk_grown (g := gb197) (o := .cells #[.slice A0_0 l0_0.length c0_0, .slice A0_1 l0_1.length c0_1, .slice A0_2 l0_2.length c0_2, .slice A0_3 l0_3.length c0_3] 26 (0, 0)) (by (with_reducible repeat (first | refine blk_drewN ?_ _ | refine blk_drew ?_ | refine blk_alloc ?_ _)); exact BK197.out) hg (Kd.R_ne HO_3.out BK197.out (by decide))); have n1_ := Aside0.mk (hb); have n2_ := Aside0.mk (ho); clear BK197; clear HB; clear HO_3; have BK197 := n0_; have HB := n1_; have HO236 := n2_; clear n0_ n1_ n2_; clear ho hb hg hat))
              go_loopg [3, 7] k3 (fun kq v3 v7 w' => ∃ (x3_4 : List Int) (x7_4 : Int), v7 = .int .i64 x7_4 ∧ Aside0 (isthmusref18_laid.l3 kq x3_4 x7_4 l0_0 l0_1 l0_2 l0_3 = some r) ∧ Aside0 (kq ≤ k3) ∧ Aside0 (Kd.R (Kd.int .u8) 5 w' w.heap.size (fun _ => True) v3 x3_4) ∧ Aside0 (w'.heap[gb197]? = some (.cells #[(.slice A0_0 l0_0.length c0_0), (.slice A0_1 l0_1.length c0_1), (.slice A0_2 l0_2.length c0_2), (.slice A0_3 l0_3.length c0_3)] 26 (0, 0))) ∧ Aside0 (Below w.heap.size w w'))
              case atStart => exact ⟨(y234), (0), (by first | rfl | (simp; done) | (simp [*]; done)), H', ⟨Nat.le_refl _⟩, ⟨by (with_reducible repeat (first | apply Kd.R_alloc | apply Kd.R_drewN | apply Kd.R_drew)); exact HO236.out⟩, ⟨by (with_reducible repeat (first | refine blk_drewN ?_ _ | refine blk_drew ?_ | refine blk_alloc ?_ _)); exact BK197.out⟩, ⟨by repeat (first | (with_reducible first | exact HB.out | apply below_alloc | apply pw_below_drewN | apply below_drew1 | refine below_set ?_ GE197.out) | exact HB.out)⟩⟩
              case round =>
               clear H'
               try clear c1
               try clear c2
               try clear p2
               try clear q2
               try clear hx2
               try clear c3
               try clear c4
               try clear c6
               try clear p6
               try clear c10
               try clear c10b0
               try clear c11
               try clear c11b0
               try clear c13
               try clear c18
               try clear p20
               try clear q20
               try clear hx20
               try clear p21
               try clear q21
               try clear hx21
               try clear c22
               try clear c22b0
               try clear p22
               try clear q22
               try clear hx22
               try clear c23
               try clear c23b0
               try clear c26
               try clear c31
               try clear c35
               try clear c35b0
               try clear c36
               try clear c36b0
               try clear c37
               try clear c38
               try clear c39
               try clear c46
               try clear hcz14_0
               try clear hcz14_1
               try clear hcz14_2
               try clear hcz14_3
               try clear hcz19_0
               try clear hcz19_1
               try clear hcz19_2
               try clear hcz19_3
               try clear hcz27_0
               try clear hcz27_1
               try clear hcz27_2
               try clear hcz27_3
               try clear hcz32_0
               try clear hcz32_1
               try clear hcz32_2
               try clear hcz32_3
               try clear hcz40_0
               try clear hcz40_1
               try clear hcz40_2
               try clear hcz40_3
               try clear hcz43_0
               try clear hcz43_1
               try clear hcz43_2
               try clear hcz43_3
               try clear hcz47_0
               try clear hcz47_1
               try clear hcz47_2
               try clear hcz47_3
               try clear hcz7_0
               try clear hcz7_1
               try clear hcz7_2
               try clear hcz7_3
               try clear hfz14_0
               try clear hfz14_1
               try clear hfz14_2
               try clear hfz14_3
               try clear hfz19_0
               try clear hfz19_1
               try clear hfz19_2
               try clear hfz19_3
               try clear hfz27_0
               try clear hfz27_1
               try clear hfz27_2
               try clear hfz27_3
               try clear hfz32_0
               try clear hfz32_1
               try clear hfz32_2
               try clear hfz32_3
               try clear hfz40_0
               try clear hfz40_1
               try clear hfz40_2
               try clear hfz40_3
               try clear hfz43_0
               try clear hfz43_1
               try clear hfz43_2
               try clear hfz43_3
               try clear hfz47_0
               try clear hfz47_1
               try clear hfz47_2
               try clear hfz47_3
               try clear hfz7_0
               try clear hfz7_1
               try clear hfz7_2
               try clear hfz7_3
               try clear hx205_0
               try clear hx214_0
               try clear hx224_0
               try clear hx229_0
               try clear p2
               try clear p20
               try clear p205
               try clear p21
               try clear p214
               try clear p224
               try clear p229
               try clear p6
               try clear q2
               try clear q20
               try clear q205
               try clear q21
               try clear q214
               try clear q224
               try clear q229
               obtain ⟨x3_4, x7_4, rfl, HA, HK4, HO_3, BK197, HB⟩ := hrel
               cases gk with
               | zero => exact absurd HA.out (by simp [isthmusref18_laid.l3])
               | succ k4 =>
                have H := HA.out
                clear HA
                simp only [isthmusref18_laid.l3] at H
                by_cases c50 : x7_4 < (l0_3.length : Int)
                ·rw [if_pos c50] at H
                 have c50b0 : decide (x7_4 < (l0_3.length : Int)) = true := decide_eq_true c50
                 clear c50
                 by_cases c51 : 0 ≤ x7_4
                 ·rw [if_pos c51] at H
                  have c51b0 : decide (0 ≤ x7_4) = true := decide_eq_true c51
                  clear c51
                  replace H := Option.bind_eq_some_iff.mp H
                  obtain ⟨t238, A520, H⟩ := H
                  replace H : (if x3_4.length + t238.size < 140737488355328 then (isthmusref18_laid.l3 k4 (x3_4 ++ bytesOf t238) (wrap64 (x7_4 + 1)) l0_0 l0_1 l0_2 l0_3) else (none)) = some r := H
                  have A52 := Aside0.mk A520
                  clear A520
                  by_cases c53 : x3_4.length + t238.size < 140737488355328
                  ·rw [if_pos c53] at H
                   have LMc53 := Aside0.mk c53
                   clear c53
                   obtain ⟨y239, hy239⟩ : ∃ y_ : List Int, y_ = (x3_4 ++ bytesOf t238) := ⟨_, rfl⟩
                   replace H : (isthmusref18_laid.l3 k4 y239 (wrap64 (x7_4 + 1)) l0_0 l0_1 l0_2 l0_3) = some r := by first | (rw [hy239]; with_reducible exact H) | (have H2_ := (Option.bind_some _ _).symm.trans H; rw [hy239]; with_reducible exact H2_) | (have H2_ := (Option.bind_some _ _).symm.trans H; with_reducible exact H2_) | with_reducible exact H | (rw [hy239]; exact H) | exact H
                   have Ny239 := Aside0.mk hy239
                   clear hy239
                   have H' := Aside0.mk H
                   clear H
                   have hcz54_0 : wr.cell? ⟨gb197, 0, none⟩ = some (.slice A0_0 l0_0.length c0_0) := (blk_cell BK197.out 0).trans rfl
                   have hcz54_1 : wr.cell? ⟨gb197, 1, none⟩ = some (.slice A0_1 l0_1.length c0_1) := (blk_cell BK197.out 1).trans rfl
                   have hcz54_2 : wr.cell? ⟨gb197, 2, none⟩ = some (.slice A0_2 l0_2.length c0_2) := (blk_cell BK197.out 2).trans rfl
                   have hcz54_3 : wr.cell? ⟨gb197, 3, none⟩ = some (.slice A0_3 l0_3.length c0_3) := (blk_cell BK197.out 3).trans rfl
                   have hfz54_0 := blk_frozen BK197.out 0
                   have hfz54_1 := blk_frozen BK197.out 1
                   have hfz54_2 := blk_frozen BK197.out 2
                   have hfz54_3 := blk_frozen BK197.out 3
                   have p237 : 0 ≤ (x7_4 : Int) := of_decide_eq_true (by first | (with_reducible assumption) | assumption)
                   have q237 : x7_4 < (l0_3.length : Int) := of_decide_eq_true (by first | (with_reducible assumption) | assumption)
                   obtain ⟨ad237, e237, hx237_0⟩ := Kd.at_int HR0_3.out x7_4 p237 q237
                   cases e237
                   replace hx237_0 := (HB.out.cell (World.block_lt_of_cell? w _ hx237_0)).trans hx237_0
                   replace p237 := eq_true p237
                   replace q237 := eq_true q237
                   go_wp2_with (first | ((with_reducible refine gate_callee (f := 61) rfl ?_); refine goesL_ (some 107) rfl rfl Tryd.func61 (by kernel_rfl) rfl #[.int .u64 (IntKind.u64.wrap (rd l0_3 x7_4))] rfl (by (try simp only [List.map_toArray, List.map_cons, List.map_nil]); first | done | rfl | (simp only [List.length_drop, List.length_take]; rfl)) ?_; (with_reducible refine (isthmusref01_Put.calls k4 (IntKind.u64.wrap (rd l0_3 x7_4)) t238 _ A52.out).mono ?_); rintro e w55 ⟨rfl, hb⟩; refine ⟨_, rfl, ?_⟩; have n0_ := Aside0.mk (Kd.R_below (by (with_reducible repeat (first | apply Kd.R_alloc | apply Kd.R_drewN | apply Kd.R_drew)); exact HO_3.out) hb); have n1_ := Aside0.mk (blk_below (g := gb197) (o := .cells #[.slice A0_0 l0_0.length c0_0, .slice A0_1 l0_1.length c0_1, .slice A0_2 l0_2.length c0_2, .slice (some ad237) l0_3.length c0_3] 26 (0, 0)) (by (with_reducible repeat (first | refine blk_drewN ?_ _ | refine blk_drew ?_ | refine blk_alloc ?_ _)); exact BK197.out) hb); have n2_ := Aside0.mk (below_step (by repeat (first | (with_reducible first | exact HB.out | apply below_alloc | apply pw_below_drewN | apply below_drew1 | refine below_set ?_ GE197.out) | exact HB.out)) hb); clear HO_3; clear BK197; clear HB; have HO_3 := n0_; have BK197 := n1_; have HB := n2_; clear n0_ n1_ n2_; (try clear hb); (try clear hb2); (try clear hk); (try clear hi)) | (at_builtin; refine print_append_str (w0 := w) w.heap.size rfl (.tmp 100) _ 44 9 5 rfl Tryd.underlying44 Tryd.underlying9 info5 u3 x3_4 t238 rfl rfl ?aO ?aB ?aS ?aL ?_; (case aB => exact (by repeat (first | (with_reducible first | exact HB.out | apply below_alloc | apply pw_below_drewN | apply below_drew1 | refine below_set ?_ GE197.out) | exact HB.out))); (case aO => exact (Kd.own_of_R (by (with_reducible repeat (first | apply Kd.R_alloc | apply Kd.R_drewN | apply Kd.R_drew)); exact HO_3.out))); (case aS => exact (below_size (by repeat (first | (with_reducible first | exact HB.out | apply below_alloc | apply pw_below_drewN | apply below_drew1 | refine below_set ?_ GE197.out) | exact HB.out)))); (case aL => have := LMc53.out; omega); intro v240 w56 ho0 hb hg; have ho := Kd.R_of_own (h1 := fun _ => rfl) (ok := fun _ => True) ho0 (fun _ _ => trivial); clear ho0; have hat := True.intro; rw [← Ny239.out] at ho; change Kd.R (Kd.int .u8) 5 w56 w.heap.size (fun _ => True) v240 y239 at ho; have n0_ := Aside0.mk (blk_grown (g := gb197) (o := .cells #[.slice A0_0 l0_0.length c0_0, .slice A0_1 l0_1.length c0_1, .slice A0_2 l0_2.length c0_2, .slice (some ad237) l0_3.length c0_3] 26 (0, 0)) (by (with_reducible repeat (first | refine blk_drewN ?_ _ | refine blk_drew ?_ | refine blk_alloc ?_ _)); exact BK197.out) hg (Kd.R_ne HO_3.out BK197.out (by decide))); have n1_ := Aside0.mk (hb); have n2_ := Aside0.mk (ho); clear BK197; clear HB; clear HO_3; have BK197 := n0_; have HB := n1_; have HO241 := n2_; clear n0_ n1_ n2_; clear ho hb hg hat))
                   go_roundg k4
                   case measure => have := HK1.out; have := HK2.out; have := HK3.out; have := HK4.out; omega
                   case rel => exact ⟨(y239), (wrap64 (x7_4 + 1)), (by first | rfl | (simp; done) | (simp [*]; done)), H', ⟨by have := HK1.out; have := HK2.out; have := HK3.out; have := HK4.out; omega⟩, ⟨by (with_reducible repeat (first | apply Kd.R_alloc | apply Kd.R_drewN | apply Kd.R_drew)); exact HO241.out⟩, ⟨by (with_reducible repeat (first | refine blk_drewN ?_ _ | refine blk_drew ?_ | refine blk_alloc ?_ _)); exact BK197.out⟩, ⟨by repeat (first | (with_reducible first | exact HB.out | apply below_alloc | apply pw_below_drewN | apply below_drew1 | refine below_set ?_ GE197.out) | exact HB.out)⟩⟩
                  ·rw [if_neg c53] at H
                   exact absurd H (by simp)
                 ·rw [if_neg c51] at H
                  exact absurd H (by simp)
                ·rw [if_neg c50] at H
                 have c50b0 : decide (x7_4 < (l0_3.length : Int)) = false := decide_eq_false c50
                 clear c50
                 obtain rfl := Option.some.inj H
                 have hcz57_0 : wr.cell? ⟨gb197, 0, none⟩ = some (.slice A0_0 l0_0.length c0_0) := (blk_cell BK197.out 0).trans rfl
                 have hcz57_1 : wr.cell? ⟨gb197, 1, none⟩ = some (.slice A0_1 l0_1.length c0_1) := (blk_cell BK197.out 1).trans rfl
                 have hcz57_2 : wr.cell? ⟨gb197, 2, none⟩ = some (.slice A0_2 l0_2.length c0_2) := (blk_cell BK197.out 2).trans rfl
                 have hcz57_3 : wr.cell? ⟨gb197, 3, none⟩ = some (.slice A0_3 l0_3.length c0_3) := (blk_cell BK197.out 3).trans rfl
                 have hfz57_0 := blk_frozen BK197.out 0
                 have hfz57_1 := blk_frozen BK197.out 1
                 have hfz57_2 := blk_frozen BK197.out 2
                 have hfz57_3 := blk_frozen BK197.out 3
                 go_wp2
                 go_ret
                 exact ⟨_, by first | rfl | (simp [errW_none, errW_some] <;> rfl) | (simp [*, errW_none, errW_some] <;> rfl), by (with_reducible repeat (first | apply Kd.R_alloc | apply Kd.R_drewN | apply Kd.R_drew)); exact HO_3.out, by repeat (first | (with_reducible first | exact HB.out | apply below_alloc | apply pw_below_drewN | apply below_drew1 | refine below_set ?_ GE197.out) | exact HB.out)⟩
             ·rw [if_neg c46] at H
              exact absurd H (by simp)
         ·rw [if_neg c31] at H
          exact absurd H (by simp)
     ·rw [if_neg c18] at H
      exact absurd H (by simp)
 ·rw [if_neg c3] at H
  exact absurd H (by simp)
end Go.Proofs.YtnlimplbmncdeaaDoor.C
