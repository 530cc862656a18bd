/- The laws CodeBack, CodeBackWords, CodeLists, CodeTail of the program hold, as their cards say: texts put together by a program, 26 of 39. -/
import Derived.Test.YtnlimplbmncdeaaDoorPB12
namespace Go.Proofs.YtnlimplbmncdeaaDoor.C
open Go.RowKit Go.Proofs.YtnlimplbmncdeaaDoorW.PrintWords Go.Proofs.YtnlimplbmncdeaaDoorW.PrintLast Go.Proofs.YtnlimplbmncdeaaDoorW.PrintMore
attribute [local go_sem] max2_int min2_int max_two min_two max_three min_three max_four min_four
set_option linter.unusedVariables false
set_option linter.unusedSimpArgs false
mutual
def isthmusref18_Same.j0 : Nat → Bool → List Int → List Int → List ByteArray → List Int → List Int → List Int → List ByteArray → List Int → Option (Bool)
 | 0, _, _, _, _, _, _, _, _, _ => none
 | k + 1, x42, x154000, x154001, x154002, x154003, x155000, x155001, x155002, x155003 => if x42 = true then (some false) else (isthmusref18_Same.l0 k 0 x154000 x154001 x154002 x154003 x155000 x155001 x155002 x155003)
def isthmusref18_Same.l0 : Nat → Int → List Int → List Int → List ByteArray → List Int → List Int → List Int → List ByteArray → List Int → Option (Bool)
 | 0, _, _, _, _, _, _, _, _, _ => none
 | k + 1, x5, x154000, x154001, x154002, x154003, x155000, x155001, x155002, x155003 => if x5 < (x154000.length : Int) then (if 0 ≤ x5 then (if x5 < (x155000.length : Int) then (if (rd x154000 x5) = (rd x155000 x5) then (isthmusref18_Same.l0 k (wrap64 (x5 + 1)) x154000 x154001 x154002 x154003 x155000 x155001 x155002 x155003) else (some false)) else (none)) else (none)) else (isthmusref18_Same.l1 k 0 x154000 x154001 x154002 x154003 x155000 x155001 x155002 x155003)
def isthmusref18_Same.l1 : Nat → Int → List Int → List Int → List ByteArray → List Int → List Int → List Int → List ByteArray → List Int → Option (Bool)
 | 0, _, _, _, _, _, _, _, _, _ => none
 | k + 1, x6, x154000, x154001, x154002, x154003, x155000, x155001, x155002, x155003 => if x6 < (x154001.length : Int) then (if 0 ≤ x6 then (if x6 < (x155001.length : Int) then (if (rd x154001 x6) = (rd x155001 x6) then (isthmusref18_Same.l1 k (wrap64 (x6 + 1)) x154000 x154001 x154002 x154003 x155000 x155001 x155002 x155003) else (some false)) else (none)) else (none)) else (isthmusref18_Same.l2 k 0 x154000 x154001 x154002 x154003 x155000 x155001 x155002 x155003)
def isthmusref18_Same.l2 : Nat → Int → List Int → List Int → List ByteArray → List Int → List Int → List Int → List ByteArray → List Int → Option (Bool)
 | 0, _, _, _, _, _, _, _, _, _ => none
 | k + 1, x7, x154000, x154001, x154002, x154003, x155000, x155001, x155002, x155003 => if x7 < (x154002.length : Int) then (if 0 ≤ x7 then (if x7 < (x155002.length : Int) then (if (rdOf ByteArray.empty x154002 x7).toList = (rdOf ByteArray.empty x155002 x7).toList then (isthmusref18_Same.l2 k (wrap64 (x7 + 1)) x154000 x154001 x154002 x154003 x155000 x155001 x155002 x155003) else (some false)) else (none)) else (none)) else (isthmusref18_Same.l3 k 0 x154000 x154001 x154002 x154003 x155000 x155001 x155002 x155003)
def isthmusref18_Same.l3 : Nat → Int → List Int → List Int → List ByteArray → List Int → List Int → List Int → List ByteArray → List Int → Option (Bool)
 | 0, _, _, _, _, _, _, _, _, _ => none
 | k + 1, x8, x154000, x154001, x154002, x154003, x155000, x155001, x155002, x155003 => if x8 < (x154003.length : Int) then (if 0 ≤ x8 then (if x8 < (x155003.length : Int) then (if (rd x154003 x8) = (rd x155003 x8) then (isthmusref18_Same.l3 k (wrap64 (x8 + 1)) x154000 x154001 x154002 x154003 x155000 x155001 x155002 x155003) else (some false)) else (none)) else (none)) else (some true)
end
def isthmusref18_Same.f (k : Nat) (l0_0 : List Int) (l0_1 : List Int) (l0_2 : List ByteArray) (l0_3 : List Int) (l1_0 : List Int) (l1_1 : List Int) (l1_2 : List ByteArray) (l1_3 : List Int) : Option (Bool) := if (l0_0.length : Int) = (l1_0.length : Int) then (if (l0_1.length : Int) = (l1_1.length : Int) then (if (l0_2.length : Int) = (l1_2.length : Int) then (isthmusref18_Same.j0 k ((l0_3.length : Int) != (l1_3.length : Int)) l0_0 l0_1 l0_2 l0_3 l1_0 l1_1 l1_2 l1_3) else (isthmusref18_Same.j0 k true l0_0 l0_1 l0_2 l0_3 l1_0 l1_1 l1_2 l1_3)) else (isthmusref18_Same.j0 k true l0_0 l0_1 l0_2 l0_3 l1_0 l1_1 l1_2 l1_3)) else (isthmusref18_Same.j0 k true l0_0 l0_1 l0_2 l0_3 l1_0 l1_1 l1_2 l1_3)
set_option maxHeartbeats 8000000 in
set_option maxRecDepth 100000 in
theorem isthmusref18_Same.calls (k : Nat) (A0_0 : Option Addr) (c0_0 : Nat) (l0_0 : List Int) (A0_1 : Option Addr) (c0_1 : Nat) (l0_1 : List Int) (A0_2 : Option Addr) (c0_2 : Nat) (l0_2 : List ByteArray) (A0_3 : Option Addr) (c0_3 : Nat) (l0_3 : List Int) (A1_0 : Option Addr) (c1_0 : Nat) (l1_0 : List Int) (A1_1 : Option Addr) (c1_1 : Nat) (l1_1 : List Int) (A1_2 : Option Addr) (c1_2 : Nat) (l1_2 : List ByteArray) (A1_3 : Option Addr) (c1_3 : Nat) (l1_3 : List Int) (r : Bool) (w : World) (hr0_0 : Kd.C (Kd.int .u64) w A0_0 l0_0.length l0_0) (hc0_0 : l0_0.length ≤ c0_0) (hr0_1 : Kd.C (Kd.int .i64) w A0_1 l0_1.length l0_1) (hc0_1 : l0_1.length ≤ c0_1) (hr0_2 : Kd.C Kd.string w A0_2 l0_2.length l0_2) (hc0_2 : l0_2.length ≤ c0_2) (hr0_3 : Kd.C (Kd.int .i64) w A0_3 l0_3.length l0_3) (hc0_3 : l0_3.length ≤ c0_3) (hr1_0 : Kd.C (Kd.int .u64) w A1_0 l1_0.length l1_0) (hc1_0 : l1_0.length ≤ c1_0) (hr1_1 : Kd.C (Kd.int .i64) w A1_1 l1_1.length l1_1) (hc1_1 : l1_1.length ≤ c1_1) (hr1_2 : Kd.C Kd.string w A1_2 l1_2.length l1_2) (hc1_2 : l1_2.length ≤ c1_2) (hr1_3 : Kd.C (Kd.int .i64) w A1_3 l1_3.length l1_3) (hc1_3 : l1_3.length ≤ c1_3) (h : isthmusref18_Same.f k l0_0 l0_1 l0_2 l0_3 l1_0 l1_1 l1_2 l1_3 = some r) :
  Calls Tryd.prog 23 #[.agg #[.slice A0_0 l0_0.length c0_0, .slice A0_1 l0_1.length c0_1, .slice A0_2 l0_2.length c0_2, .slice A0_3 l0_3.length c0_3], .agg #[.slice A1_0 l1_0.length c1_0, .slice A1_1 l1_1.length c1_1, .slice A1_2 l1_2.length c1_2, .slice A1_3 l1_3.length c1_3]] w fun e w' => e = .returned (.bool r) ∧ Below w.heap.size w w' := by
 have hu26 := Tryd.underlying26
 have HR0_0 := Aside0.mk hr0_0
 have HC0_0 := Aside0.mk hc0_0
 clear hr0_0 hc0_0
 have HR0_1 := Aside0.mk hr0_1
 have HC0_1 := Aside0.mk hc0_1
 clear hr0_1 hc0_1
 have HR0_2 := Aside0.mk hr0_2
 have HC0_2 := Aside0.mk hc0_2
 clear hr0_2 hc0_2
 have HR0_3 := Aside0.mk hr0_3
 have HC0_3 := Aside0.mk hc0_3
 clear hr0_3 hc0_3
 have HR1_0 := Aside0.mk hr1_0
 have HC1_0 := Aside0.mk hc1_0
 clear hr1_0 hc1_0
 have HR1_1 := Aside0.mk hr1_1
 have HC1_1 := Aside0.mk hc1_1
 clear hr1_1 hc1_1
 have HR1_2 := Aside0.mk hr1_2
 have HC1_2 := Aside0.mk hc1_2
 clear hr1_2 hc1_2
 have HR1_3 := Aside0.mk hr1_3
 have HC1_3 := Aside0.mk hc1_3
 clear hr1_3 hc1_3
 have HB := Aside0.mk (Below.refl w.heap.size w)
 have H : (if (l0_0.length : Int) = (l1_0.length : Int) then (if (l0_1.length : Int) = (l1_1.length : Int) then (if (l0_2.length : Int) = (l1_2.length : Int) then (isthmusref18_Same.j0 k ((l0_3.length : Int) != (l1_3.length : Int)) l0_0 l0_1 l0_2 l0_3 l1_0 l1_1 l1_2 l1_3) else (isthmusref18_Same.j0 k true l0_0 l0_1 l0_2 l0_3 l1_0 l1_1 l1_2 l1_3)) else (isthmusref18_Same.j0 k true l0_0 l0_1 l0_2 l0_3 l1_0 l1_1 l1_2 l1_3)) else (isthmusref18_Same.j0 k true l0_0 l0_1 l0_2 l0_3 l1_0 l1_1 l1_2 l1_3)) = some r := h
 clear h
 have HC3 := Aside0.mk H
 clear H
 go_enter Tryd.func23, Tryd.ntmps23
 go_upto_region 1 with (first | ((with_reducible refine gate_dst (N := 2) rfl ?_); (try (refine gate_guard (by rfl) ?_; dsimp only)); refine box_event ?hg (N := 2) ?hd (cs := #[.slice A0_0 l0_0.length c0_0, .slice A0_1 l0_1.length c0_1, .slice A0_2 l0_2.length c0_2, .slice A0_3 l0_3.length c0_3]) (t := 26) ?hr ?_; (case hd => rfl); (case hg => rfl); (case hr => first | (go_simp; done) | (go_simp; rfl)); intro gb153 hg w4 hbox hb; have n0_ := Aside0.mk (below_step (by repeat (first | (with_reducible first | exact HB.out | apply below_alloc | apply pw_below_drewN | apply below_drew1) | exact HB.out)) hb); have n1_ := Aside0.mk (hbox); have n2_ := Aside0.mk ((by rw [hg]; exact (below_size (by repeat (first | (with_reducible first | exact HB.out | apply below_alloc | apply pw_below_drewN | apply below_drew1) | exact HB.out))) : w.heap.size ≤ gb153)); have n3_ := Aside0.mk ((by rw [hg]; exact (below_size (by repeat (first | (with_reducible first | exact HB.out | apply below_alloc | apply pw_below_drewN | apply below_drew1) | exact HB.out))) : w.heap.size ≤ gb153)); clear HB; have HB := n0_; have BK153 := n1_; have GW153 := n2_; have GE153 := n3_; clear n0_ n1_ n2_ n3_; clear hb hbox hg) | ((with_reducible refine gate_dst (N := 3) rfl ?_); (try (refine gate_guard (by rfl) ?_; dsimp only)); refine box_event ?hg (N := 3) ?hd (cs := #[.slice A1_0 l1_0.length c1_0, .slice A1_1 l1_1.length c1_1, .slice A1_2 l1_2.length c1_2, .slice A1_3 l1_3.length c1_3]) (t := 26) ?hr ?_; (case hd => rfl); (case hg => rfl); (case hr => first | (go_simp; done) | (go_simp; rfl)); intro gb154 hg w5 hbox hb; have n0_ := Aside0.mk (blk_below (g := gb153) (o := .cells #[.slice A0_0 l0_0.length c0_0, .slice A0_1 l0_1.length c0_1, .slice A0_2 l0_2.length c0_2, .slice A0_3 l0_3.length c0_3] 26 (0, 0)) (by (with_reducible repeat (first | refine blk_drewN ?_ _ | refine blk_drew ?_ | refine blk_alloc ?_ _)); exact BK153.out) hb); have n1_ := Aside0.mk (below_step (by repeat (first | (with_reducible first | exact HB.out | apply below_alloc | apply pw_below_drewN | apply below_drew1 | refine below_set ?_ GE153.out) | exact HB.out)) hb); have n2_ := Aside0.mk (hbox); have n3_ := Aside0.mk ((by rw [hg]; exact (below_size (by repeat (first | (with_reducible first | exact HB.out | apply below_alloc | apply pw_below_drewN | apply below_drew1 | refine below_set ?_ GE153.out) | exact HB.out))) : w.heap.size ≤ gb154)); have n4_ := Aside0.mk ((by rw [hg]; exact (below_size (by repeat (first | (with_reducible first | exact HB.out | apply below_alloc | apply pw_below_drewN | apply below_drew1 | refine below_set ?_ GE153.out) | exact HB.out))) : w.heap.size ≤ gb154)); have n5_ := Aside0.mk ((by rw [hg]; exact Nat.ne_of_lt (blk_lt (g := gb153) (o := .cells #[.slice A0_0 l0_0.length c0_0, .slice A0_1 l0_1.length c0_1, .slice A0_2 l0_2.length c0_2, .slice A0_3 l0_3.length c0_3] 26 (0, 0)) (by (with_reducible repeat (first | refine blk_drewN ?_ _ | refine blk_drew ?_ | refine blk_alloc ?_ _)); exact BK153.out)) : gb153 ≠ gb154)); have n6_ := Aside0.mk ((by rw [hg]; exact Nat.ne_of_gt (blk_lt (g := gb153) (o := .cells #[.slice A0_0 l0_0.length c0_0, .slice A0_1 l0_1.length c0_1, .slice A0_2 l0_2.length c0_2, .slice A0_3 l0_3.length c0_3] 26 (0, 0)) (by (with_reducible repeat (first | refine blk_drewN ?_ _ | refine blk_drew ?_ | refine blk_alloc ?_ _)); exact BK153.out)) : gb154 ≠ gb153)); clear BK153; clear HB; have BK153 := n0_; have HB := n1_; have BK154 := n2_; have GW154 := n3_; have GE154 := n4_; have NB153_154 := n5_; have NB154_153 := n6_; clear n0_ n1_ n2_ n3_ n4_ n5_ n6_; clear hb hbox hg))
 repeat (go_quiet (first | ((with_reducible refine gate_dst (N := 2) rfl ?_); (try (refine gate_guard (by rfl) ?_; dsimp only)); refine box_event ?hg (N := 2) ?hd (cs := #[.slice A0_0 l0_0.length c0_0, .slice A0_1 l0_1.length c0_1, .slice A0_2 l0_2.length c0_2, .slice A0_3 l0_3.length c0_3]) (t := 26) ?hr ?_; (case hd => rfl); (case hg => rfl); (case hr => first | (go_simp; done) | (go_simp; rfl)); intro gb153 hg w4 hbox hb; have n0_ := Aside0.mk (below_step (by repeat (first | (with_reducible first | exact HB.out | apply below_alloc | apply pw_below_drewN | apply below_drew1) | exact HB.out)) hb); have n1_ := Aside0.mk (hbox); have n2_ := Aside0.mk ((by rw [hg]; exact (below_size (by repeat (first | (with_reducible first | exact HB.out | apply below_alloc | apply pw_below_drewN | apply below_drew1) | exact HB.out))) : w.heap.size ≤ gb153)); have n3_ := Aside0.mk ((by rw [hg]; exact (below_size (by repeat (first | (with_reducible first | exact HB.out | apply below_alloc | apply pw_below_drewN | apply below_drew1) | exact HB.out))) : w.heap.size ≤ gb153)); clear HB; have HB := n0_; have BK153 := n1_; have GW153 := n2_; have GE153 := n3_; clear n0_ n1_ n2_ n3_; clear hb hbox hg) | ((with_reducible refine gate_dst (N := 3) rfl ?_); (try (refine gate_guard (by rfl) ?_; dsimp only)); refine box_event ?hg (N := 3) ?hd (cs := #[.slice A1_0 l1_0.length c1_0, .slice A1_1 l1_1.length c1_1, .slice A1_2 l1_2.length c1_2, .slice A1_3 l1_3.length c1_3]) (t := 26) ?hr ?_; (case hd => rfl); (case hg => rfl); (case hr => first | (go_simp; done) | (go_simp; rfl)); intro gb154 hg w5 hbox hb; have n0_ := Aside0.mk (blk_below (g := gb153) (o := .cells #[.slice A0_0 l0_0.length c0_0, .slice A0_1 l0_1.length c0_1, .slice A0_2 l0_2.length c0_2, .slice A0_3 l0_3.length c0_3] 26 (0, 0)) (by (with_reducible repeat (first | refine blk_drewN ?_ _ | refine blk_drew ?_ | refine blk_alloc ?_ _)); exact BK153.out) hb); have n1_ := Aside0.mk (below_step (by repeat (first | (with_reducible first | exact HB.out | apply below_alloc | apply pw_below_drewN | apply below_drew1 | refine below_set ?_ GE153.out) | exact HB.out)) hb); have n2_ := Aside0.mk (hbox); have n3_ := Aside0.mk ((by rw [hg]; exact (below_size (by repeat (first | (with_reducible first | exact HB.out | apply below_alloc | apply pw_below_drewN | apply below_drew1 | refine below_set ?_ GE153.out) | exact HB.out))) : w.heap.size ≤ gb154)); have n4_ := Aside0.mk ((by rw [hg]; exact (below_size (by repeat (first | (with_reducible first | exact HB.out | apply below_alloc | apply pw_below_drewN | apply below_drew1 | refine below_set ?_ GE153.out) | exact HB.out))) : w.heap.size ≤ gb154)); have n5_ := Aside0.mk ((by rw [hg]; exact Nat.ne_of_lt (blk_lt (g := gb153) (o := .cells #[.slice A0_0 l0_0.length c0_0, .slice A0_1 l0_1.length c0_1, .slice A0_2 l0_2.length c0_2, .slice A0_3 l0_3.length c0_3] 26 (0, 0)) (by (with_reducible repeat (first | refine blk_drewN ?_ _ | refine blk_drew ?_ | refine blk_alloc ?_ _)); exact BK153.out)) : gb153 ≠ gb154)); have n6_ := Aside0.mk ((by rw [hg]; exact Nat.ne_of_gt (blk_lt (g := gb153) (o := .cells #[.slice A0_0 l0_0.length c0_0, .slice A0_1 l0_1.length c0_1, .slice A0_2 l0_2.length c0_2, .slice A0_3 l0_3.length c0_3] 26 (0, 0)) (by (with_reducible repeat (first | refine blk_drewN ?_ _ | refine blk_drew ?_ | refine blk_alloc ?_ _)); exact BK153.out)) : gb154 ≠ gb153)); clear BK153; clear HB; have BK153 := n0_; have HB := n1_; have BK154 := n2_; have GW154 := n3_; have GE154 := n4_; have NB153_154 := n5_; have NB154_153 := n6_; clear n0_ n1_ n2_ n3_ n4_ n5_ n6_; clear hb hbox hg)); go_upto_region 1 with (first | ((with_reducible refine gate_dst (N := 2) rfl ?_); (try (refine gate_guard (by rfl) ?_; dsimp only)); refine box_event ?hg (N := 2) ?hd (cs := #[.slice A0_0 l0_0.length c0_0, .slice A0_1 l0_1.length c0_1, .slice A0_2 l0_2.length c0_2, .slice A0_3 l0_3.length c0_3]) (t := 26) ?hr ?_; (case hd => rfl); (case hg => rfl); (case hr => first | (go_simp; done) | (go_simp; rfl)); intro gb153 hg w4 hbox hb; have n0_ := Aside0.mk (below_step (by repeat (first | (with_reducible first | exact HB.out | apply below_alloc | apply pw_below_drewN | apply below_drew1) | exact HB.out)) hb); have n1_ := Aside0.mk (hbox); have n2_ := Aside0.mk ((by rw [hg]; exact (below_size (by repeat (first | (with_reducible first | exact HB.out | apply below_alloc | apply pw_below_drewN | apply below_drew1) | exact HB.out))) : w.heap.size ≤ gb153)); have n3_ := Aside0.mk ((by rw [hg]; exact (below_size (by repeat (first | (with_reducible first | exact HB.out | apply below_alloc | apply pw_below_drewN | apply below_drew1) | exact HB.out))) : w.heap.size ≤ gb153)); clear HB; have HB := n0_; have BK153 := n1_; have GW153 := n2_; have GE153 := n3_; clear n0_ n1_ n2_ n3_; clear hb hbox hg) | ((with_reducible refine gate_dst (N := 3) rfl ?_); (try (refine gate_guard (by rfl) ?_; dsimp only)); refine box_event ?hg (N := 3) ?hd (cs := #[.slice A1_0 l1_0.length c1_0, .slice A1_1 l1_1.length c1_1, .slice A1_2 l1_2.length c1_2, .slice A1_3 l1_3.length c1_3]) (t := 26) ?hr ?_; (case hd => rfl); (case hg => rfl); (case hr => first | (go_simp; done) | (go_simp; rfl)); intro gb154 hg w5 hbox hb; have n0_ := Aside0.mk (blk_below (g := gb153) (o := .cells #[.slice A0_0 l0_0.length c0_0, .slice A0_1 l0_1.length c0_1, .slice A0_2 l0_2.length c0_2, .slice A0_3 l0_3.length c0_3] 26 (0, 0)) (by (with_reducible repeat (first | refine blk_drewN ?_ _ | refine blk_drew ?_ | refine blk_alloc ?_ _)); exact BK153.out) hb); have n1_ := Aside0.mk (below_step (by repeat (first | (with_reducible first | exact HB.out | apply below_alloc | apply pw_below_drewN | apply below_drew1 | refine below_set ?_ GE153.out) | exact HB.out)) hb); have n2_ := Aside0.mk (hbox); have n3_ := Aside0.mk ((by rw [hg]; exact (below_size (by repeat (first | (with_reducible first | exact HB.out | apply below_alloc | apply pw_below_drewN | apply below_drew1 | refine below_set ?_ GE153.out) | exact HB.out))) : w.heap.size ≤ gb154)); have n4_ := Aside0.mk ((by rw [hg]; exact (below_size (by repeat (first | (with_reducible first | exact HB.out | apply below_alloc | apply pw_below_drewN | apply below_drew1 | refine below_set ?_ GE153.out) | exact HB.out))) : w.heap.size ≤ gb154)); have n5_ := Aside0.mk ((by rw [hg]; exact Nat.ne_of_lt (blk_lt (g := gb153) (o := .cells #[.slice A0_0 l0_0.length c0_0, .slice A0_1 l0_1.length c0_1, .slice A0_2 l0_2.length c0_2, .slice A0_3 l0_3.length c0_3] 26 (0, 0)) (by (with_reducible repeat (first | refine blk_drewN ?_ _ | refine blk_drew ?_ | refine blk_alloc ?_ _)); exact BK153.out)) : gb153 ≠ gb154)); have n6_ := Aside0.mk ((by rw [hg]; exact Nat.ne_of_gt (blk_lt (g := gb153) (o := .cells #[.slice A0_0 l0_0.length c0_0, .slice A0_1 l0_1.length c0_1, .slice A0_2 l0_2.length c0_2, .slice A0_3 l0_3.length c0_3] 26 (0, 0)) (by (with_reducible repeat (first | refine blk_drewN ?_ _ | refine blk_drew ?_ | refine blk_alloc ?_ _)); exact BK153.out)) : gb154 ≠ gb153)); clear BK153; clear HB; have BK153 := n0_; have HB := n1_; have BK154 := n2_; have GW154 := n3_; have GE154 := n4_; have NB153_154 := n5_; have NB154_153 := n6_; clear n0_ n1_ n2_ n3_ n4_ n5_ n6_; clear hb hbox hg)))
 (try simp only [Act.put, List.setIfInBounds_toArray, List.set_cons_zero, List.set_cons_succ])
 go_cut [42] (fun v42 wc => ∃ (kq : Nat) (x42_2 : Bool), v42 = .bool x42_2 ∧ Aside0 (isthmusref18_Same.j0 kq x42_2 l0_0 l0_1 l0_2 l0_3 l1_0 l1_1 l1_2 l1_3 = some r) ∧ Aside0 (kq ≤ k) ∧ Aside0 (wc.heap[gb153]? = some (.cells #[(.slice A0_0 l0_0.length c0_0), (.slice A0_1 l0_1.length c0_1), (.slice A0_2 l0_2.length c0_2), (.slice A0_3 l0_3.length c0_3)] 26 (0, 0))) ∧ Aside0 (wc.heap[gb154]? = some (.cells #[(.slice A1_0 l1_0.length c1_0), (.slice A1_1 l1_1.length c1_1), (.slice A1_2 l1_2.length c1_2), (.slice A1_3 l1_3.length c1_3)] 26 (0, 0))) ∧ Aside0 (Below w.heap.size w wc))
 case first =>
  have H := HC3.out
  clear HC3
  by_cases c6 : (l0_0.length : Int) = (l1_0.length : Int)
  ·rw [if_pos c6] at H
   have c6b0 : ((l0_0.length : Int) == (l1_0.length : Int)) = true := beq_iff_eq.mpr c6
   have c6b1 : ((l0_0.length : Int) != (l1_0.length : Int)) = false := bne_eq_false_iff_eq.mpr c6
   have c6b2 : (l0_0.length == l1_0.length) = true := by first | simpa using c6 | (simp at c6 ⊢; omega)
   clear c6
   (first | rw [c6b0] | (simp only [i64_w, i32_w]; rw [c6b0]) | skip)
   by_cases c7 : (l0_1.length : Int) = (l1_1.length : Int)
   ·rw [if_pos c7] at H
    have c7b0 : ((l0_1.length : Int) == (l1_1.length : Int)) = true := beq_iff_eq.mpr c7
    have c7b1 : ((l0_1.length : Int) != (l1_1.length : Int)) = false := bne_eq_false_iff_eq.mpr c7
    have c7b2 : (l0_1.length == l1_1.length) = true := by first | simpa using c7 | (simp at c7 ⊢; omega)
    clear c7
    by_cases c8 : (l0_2.length : Int) = (l1_2.length : Int)
    ·rw [if_pos c8] at H
     have c8b0 : ((l0_2.length : Int) == (l1_2.length : Int)) = true := beq_iff_eq.mpr c8
     have c8b1 : ((l0_2.length : Int) != (l1_2.length : Int)) = false := bne_eq_false_iff_eq.mpr c8
     have c8b2 : (l0_2.length == l1_2.length) = true := by first | simpa using c8 | (simp at c8 ⊢; omega)
     clear c8
     have H' := Aside0.mk H
     clear H
     have hnb9 := NB153_154.out
     have hnc9 := NB154_153.out
     have hcz10_0 : w5.cell? ⟨gb153, 0, none⟩ = some (.slice A0_0 l0_0.length c0_0) := (blk_cell BK153.out 0).trans rfl
     have hcz10_1 : w5.cell? ⟨gb153, 1, none⟩ = some (.slice A0_1 l0_1.length c0_1) := (blk_cell BK153.out 1).trans rfl
     have hcz10_2 : w5.cell? ⟨gb153, 2, none⟩ = some (.slice A0_2 l0_2.length c0_2) := (blk_cell BK153.out 2).trans rfl
     have hcz10_3 : w5.cell? ⟨gb153, 3, none⟩ = some (.slice A0_3 l0_3.length c0_3) := (blk_cell BK153.out 3).trans rfl
     have hfz10_0 := blk_frozen BK153.out 0
     have hfz10_1 := blk_frozen BK153.out 1
     have hfz10_2 := blk_frozen BK153.out 2
     have hfz10_3 := blk_frozen BK153.out 3
     have hcz11_0 : w5.cell? ⟨gb154, 0, none⟩ = some (.slice A1_0 l1_0.length c1_0) := (blk_cell BK154.out 0).trans rfl
     have hcz11_1 : w5.cell? ⟨gb154, 1, none⟩ = some (.slice A1_1 l1_1.length c1_1) := (blk_cell BK154.out 1).trans rfl
     have hcz11_2 : w5.cell? ⟨gb154, 2, none⟩ = some (.slice A1_2 l1_2.length c1_2) := (blk_cell BK154.out 2).trans rfl
     have hcz11_3 : w5.cell? ⟨gb154, 3, none⟩ = some (.slice A1_3 l1_3.length c1_3) := (blk_cell BK154.out 3).trans rfl
     have hfz11_0 := blk_frozen BK154.out 0
     have hfz11_1 := blk_frozen BK154.out 1
     have hfz11_2 := blk_frozen BK154.out 2
     have hfz11_3 := blk_frozen BK154.out 3
     go_wp2
     repeat (go_quiet (fail); try go_wp2)
     go_meet
     case rel => exact ⟨_, (((l0_3.length : Int) != (l1_3.length : Int))), (by first | rfl | (simp; done) | (simp [*]; done)), H', ⟨by first | omega | exact Nat.le_refl _⟩, ⟨by (with_reducible repeat (first | refine blk_drewN ?_ _ | refine blk_drew ?_ | refine blk_alloc ?_ _)); exact BK153.out⟩, ⟨by (with_reducible repeat (first | refine blk_drewN ?_ _ | refine blk_drew ?_ | refine blk_alloc ?_ _)); exact BK154.out⟩, ⟨by repeat (first | (with_reducible first | exact HB.out | apply below_alloc | apply pw_below_drewN | apply below_drew1 | refine below_set ?_ GE153.out | refine below_set ?_ GE154.out) | exact HB.out)⟩⟩
    ·rw [if_neg c8] at H
     have c8b0 : ((l0_2.length : Int) == (l1_2.length : Int)) = false := beq_eq_false_iff_ne.mpr c8
     have c8b1 : ((l0_2.length : Int) != (l1_2.length : Int)) = true := bne_iff_ne.mpr c8
     have c8b2 : (l0_2.length == l1_2.length) = false := by first | simpa using c8 | (simp at c8 ⊢; omega)
     have H' := Aside0.mk H
     clear H
     have hnb12 := NB153_154.out
     have hnc12 := NB154_153.out
     have hcz13_0 : w5.cell? ⟨gb153, 0, none⟩ = some (.slice A0_0 l0_0.length c0_0) := (blk_cell BK153.out 0).trans rfl
     have hcz13_1 : w5.cell? ⟨gb153, 1, none⟩ = some (.slice A0_1 l0_1.length c0_1) := (blk_cell BK153.out 1).trans rfl
     have hcz13_2 : w5.cell? ⟨gb153, 2, none⟩ = some (.slice A0_2 l0_2.length c0_2) := (blk_cell BK153.out 2).trans rfl
     have hcz13_3 : w5.cell? ⟨gb153, 3, none⟩ = some (.slice A0_3 l0_3.length c0_3) := (blk_cell BK153.out 3).trans rfl
     have hfz13_0 := blk_frozen BK153.out 0
     have hfz13_1 := blk_frozen BK153.out 1
     have hfz13_2 := blk_frozen BK153.out 2
     have hfz13_3 := blk_frozen BK153.out 3
     have hcz14_0 : w5.cell? ⟨gb154, 0, none⟩ = some (.slice A1_0 l1_0.length c1_0) := (blk_cell BK154.out 0).trans rfl
     have hcz14_1 : w5.cell? ⟨gb154, 1, none⟩ = some (.slice A1_1 l1_1.length c1_1) := (blk_cell BK154.out 1).trans rfl
     have hcz14_2 : w5.cell? ⟨gb154, 2, none⟩ = some (.slice A1_2 l1_2.length c1_2) := (blk_cell BK154.out 2).trans rfl
     have hcz14_3 : w5.cell? ⟨gb154, 3, none⟩ = some (.slice A1_3 l1_3.length c1_3) := (blk_cell BK154.out 3).trans rfl
     have hfz14_0 := blk_frozen BK154.out 0
     have hfz14_1 := blk_frozen BK154.out 1
     have hfz14_2 := blk_frozen BK154.out 2
     have hfz14_3 := blk_frozen BK154.out 3
     go_wp2
     repeat (go_quiet (fail); try go_wp2)
     go_meet
     case rel => exact ⟨_, (true), (by first | rfl | (simp; done) | (simp [*]; done)), H', ⟨by first | omega | exact Nat.le_refl _⟩, ⟨by (with_reducible repeat (first | refine blk_drewN ?_ _ | refine blk_drew ?_ | refine blk_alloc ?_ _)); exact BK153.out⟩, ⟨by (with_reducible repeat (first | refine blk_drewN ?_ _ | refine blk_drew ?_ | refine blk_alloc ?_ _)); exact BK154.out⟩, ⟨by repeat (first | (with_reducible first | exact HB.out | apply below_alloc | apply pw_below_drewN | apply below_drew1 | refine below_set ?_ GE153.out | refine below_set ?_ GE154.out) | exact HB.out)⟩⟩
   ·rw [if_neg c7] at H
    have c7b0 : ((l0_1.length : Int) == (l1_1.length : Int)) = false := beq_eq_false_iff_ne.mpr c7
    have c7b1 : ((l0_1.length : Int) != (l1_1.length : Int)) = true := bne_iff_ne.mpr c7
    have c7b2 : (l0_1.length == l1_1.length) = false := by first | simpa using c7 | (simp at c7 ⊢; omega)
    have H' := Aside0.mk H
    clear H
    have hnb15 := NB153_154.out
    have hnc15 := NB154_153.out
    have hcz16_0 : w5.cell? ⟨gb153, 0, none⟩ = some (.slice A0_0 l0_0.length c0_0) := (blk_cell BK153.out 0).trans rfl
    have hcz16_1 : w5.cell? ⟨gb153, 1, none⟩ = some (.slice A0_1 l0_1.length c0_1) := (blk_cell BK153.out 1).trans rfl
    have hcz16_2 : w5.cell? ⟨gb153, 2, none⟩ = some (.slice A0_2 l0_2.length c0_2) := (blk_cell BK153.out 2).trans rfl
    have hcz16_3 : w5.cell? ⟨gb153, 3, none⟩ = some (.slice A0_3 l0_3.length c0_3) := (blk_cell BK153.out 3).trans rfl
    have hfz16_0 := blk_frozen BK153.out 0
    have hfz16_1 := blk_frozen BK153.out 1
    have hfz16_2 := blk_frozen BK153.out 2
    have hfz16_3 := blk_frozen BK153.out 3
    have hcz17_0 : w5.cell? ⟨gb154, 0, none⟩ = some (.slice A1_0 l1_0.length c1_0) := (blk_cell BK154.out 0).trans rfl
    have hcz17_1 : w5.cell? ⟨gb154, 1, none⟩ = some (.slice A1_1 l1_1.length c1_1) := (blk_cell BK154.out 1).trans rfl
    have hcz17_2 : w5.cell? ⟨gb154, 2, none⟩ = some (.slice A1_2 l1_2.length c1_2) := (blk_cell BK154.out 2).trans rfl
    have hcz17_3 : w5.cell? ⟨gb154, 3, none⟩ = some (.slice A1_3 l1_3.length c1_3) := (blk_cell BK154.out 3).trans rfl
    have hfz17_0 := blk_frozen BK154.out 0
    have hfz17_1 := blk_frozen BK154.out 1
    have hfz17_2 := blk_frozen BK154.out 2
    have hfz17_3 := blk_frozen BK154.out 3
    go_wp2
    repeat (go_quiet (fail); try go_wp2)
    go_meet
    case rel => exact ⟨_, (true), (by first | rfl | (simp; done) | (simp [*]; done)), H', ⟨by first | omega | exact Nat.le_refl _⟩, ⟨by (with_reducible repeat (first | refine blk_drewN ?_ _ | refine blk_drew ?_ | refine blk_alloc ?_ _)); exact BK153.out⟩, ⟨by (with_reducible repeat (first | refine blk_drewN ?_ _ | refine blk_drew ?_ | refine blk_alloc ?_ _)); exact BK154.out⟩, ⟨by repeat (first | (with_reducible first | exact HB.out | apply below_alloc | apply pw_below_drewN | apply below_drew1 | refine below_set ?_ GE153.out | refine below_set ?_ GE154.out) | exact HB.out)⟩⟩
  ·rw [if_neg c6] at H
   have c6b0 : ((l0_0.length : Int) == (l1_0.length : Int)) = false := beq_eq_false_iff_ne.mpr c6
   have c6b1 : ((l0_0.length : Int) != (l1_0.length : Int)) = true := bne_iff_ne.mpr c6
   have c6b2 : (l0_0.length == l1_0.length) = false := by first | simpa using c6 | (simp at c6 ⊢; omega)
   (first | rw [c6b0] | (simp only [i64_w, i32_w]; rw [c6b0]) | skip)
   have H' := Aside0.mk H
   clear H
   have hnb18 := NB153_154.out
   have hnc18 := NB154_153.out
   have hcz19_0 : w5.cell? ⟨gb153, 0, none⟩ = some (.slice A0_0 l0_0.length c0_0) := (blk_cell BK153.out 0).trans rfl
   have hcz19_1 : w5.cell? ⟨gb153, 1, none⟩ = some (.slice A0_1 l0_1.length c0_1) := (blk_cell BK153.out 1).trans rfl
   have hcz19_2 : w5.cell? ⟨gb153, 2, none⟩ = some (.slice A0_2 l0_2.length c0_2) := (blk_cell BK153.out 2).trans rfl
   have hcz19_3 : w5.cell? ⟨gb153, 3, none⟩ = some (.slice A0_3 l0_3.length c0_3) := (blk_cell BK153.out 3).trans rfl
   have hfz19_0 := blk_frozen BK153.out 0
   have hfz19_1 := blk_frozen BK153.out 1
   have hfz19_2 := blk_frozen BK153.out 2
   have hfz19_3 := blk_frozen BK153.out 3
   have hcz20_0 : w5.cell? ⟨gb154, 0, none⟩ = some (.slice A1_0 l1_0.length c1_0) := (blk_cell BK154.out 0).trans rfl
   have hcz20_1 : w5.cell? ⟨gb154, 1, none⟩ = some (.slice A1_1 l1_1.length c1_1) := (blk_cell BK154.out 1).trans rfl
   have hcz20_2 : w5.cell? ⟨gb154, 2, none⟩ = some (.slice A1_2 l1_2.length c1_2) := (blk_cell BK154.out 2).trans rfl
   have hcz20_3 : w5.cell? ⟨gb154, 3, none⟩ = some (.slice A1_3 l1_3.length c1_3) := (blk_cell BK154.out 3).trans rfl
   have hfz20_0 := blk_frozen BK154.out 0
   have hfz20_1 := blk_frozen BK154.out 1
   have hfz20_2 := blk_frozen BK154.out 2
   have hfz20_3 := blk_frozen BK154.out 3
   go_wp2
   repeat (go_quiet (fail); try go_wp2)
   go_meet
   case rel => exact ⟨_, (true), (by first | rfl | (simp; done) | (simp [*]; done)), H', ⟨by first | omega | exact Nat.le_refl _⟩, ⟨by (with_reducible repeat (first | refine blk_drewN ?_ _ | refine blk_drew ?_ | refine blk_alloc ?_ _)); exact BK153.out⟩, ⟨by (with_reducible repeat (first | refine blk_drewN ?_ _ | refine blk_drew ?_ | refine blk_alloc ?_ _)); exact BK154.out⟩, ⟨by repeat (first | (with_reducible first | exact HB.out | apply below_alloc | apply pw_below_drewN | apply below_drew1 | refine below_set ?_ GE153.out | refine below_set ?_ GE154.out) | exact HB.out)⟩⟩
 case rest =>
  clear HC3
  try clear c1
  try clear c2
  try clear p2
  try clear c6
  try clear c6b0
  try clear c6b1
  try clear c6b2
  try clear c7
  try clear c7b0
  try clear c7b1
  try clear c7b2
  try clear c8
  try clear c8b0
  try clear c8b1
  try clear c8b2
  try clear c9
  try clear c12
  try clear c15
  try clear c18
  try clear hcz10_0
  try clear hcz10_1
  try clear hcz10_2
  try clear hcz10_3
  try clear hcz11_0
  try clear hcz11_1
  try clear hcz11_2
  try clear hcz11_3
  try clear hcz13_0
  try clear hcz13_1
  try clear hcz13_2
  try clear hcz13_3
  try clear hcz14_0
  try clear hcz14_1
  try clear hcz14_2
  try clear hcz14_3
  try clear hcz16_0
  try clear hcz16_1
  try clear hcz16_2
  try clear hcz16_3
  try clear hcz17_0
  try clear hcz17_1
  try clear hcz17_2
  try clear hcz17_3
  try clear hcz19_0
  try clear hcz19_1
  try clear hcz19_2
  try clear hcz19_3
  try clear hcz20_0
  try clear hcz20_1
  try clear hcz20_2
  try clear hcz20_3
  try clear hfz10_0
  try clear hfz10_1
  try clear hfz10_2
  try clear hfz10_3
  try clear hfz11_0
  try clear hfz11_1
  try clear hfz11_2
  try clear hfz11_3
  try clear hfz13_0
  try clear hfz13_1
  try clear hfz13_2
  try clear hfz13_3
  try clear hfz14_0
  try clear hfz14_1
  try clear hfz14_2
  try clear hfz14_3
  try clear hfz16_0
  try clear hfz16_1
  try clear hfz16_2
  try clear hfz16_3
  try clear hfz17_0
  try clear hfz17_1
  try clear hfz17_2
  try clear hfz17_3
  try clear hfz19_0
  try clear hfz19_1
  try clear hfz19_2
  try clear hfz19_3
  try clear hfz20_0
  try clear hfz20_1
  try clear hfz20_2
  try clear hfz20_3
  obtain ⟨kq, x42_2, rfl, HA, HJ2, BK153, BK154, HB⟩ := hcut
  cases kq with
  | zero => exact absurd HA.out (by simp [isthmusref18_Same.j0])
  | succ kj2 =>
   have H := HA.out
   clear HA
   simp only [isthmusref18_Same.j0] at H
   by_cases c21 : x42_2 = true
   ·subst c21
    have H1 : (some false) = some r := by rw [if_pos rfl] at H; exact H
    clear H
    have H := H1
    clear H1
    obtain rfl := Option.some.inj H
    go_wp2
    repeat (go_quiet (fail); try go_wp2)
    go_ret
    exact ⟨by first | rfl | (simp [errW_none, errW_some] <;> rfl) | (simp [*, errW_none, errW_some] <;> rfl), by repeat (first | (with_reducible first | exact HB.out | apply below_alloc | apply pw_below_drewN | apply below_drew1 | refine below_set ?_ GE153.out | refine below_set ?_ GE154.out) | exact HB.out)⟩
   ·replace c21 := Bool.eq_false_iff.mpr c21
    subst c21
    have H1 : (isthmusref18_Same.l0 kj2 0 l0_0 l0_1 l0_2 l0_3 l1_0 l1_1 l1_2 l1_3) = some r := by rw [if_neg (show ¬ (false = true) by decide)] at H; exact H
    clear H
    have H := H1
    clear H1
    have H' := Aside0.mk H
    clear H
    go_wp2
    repeat (go_quiet (fail); try go_wp2)
    go_loopg [5] kj2 (fun kq v5 w' => ∃ (x5_2 : Int), v5 = .int .i64 x5_2 ∧ Aside0 (isthmusref18_Same.l0 kq x5_2 l0_0 l0_1 l0_2 l0_3 l1_0 l1_1 l1_2 l1_3 = some r) ∧ Aside0 (kq ≤ kj2) ∧ Aside0 (w'.heap[gb153]? = some (.cells #[(.slice A0_0 l0_0.length c0_0), (.slice A0_1 l0_1.length c0_1), (.slice A0_2 l0_2.length c0_2), (.slice A0_3 l0_3.length c0_3)] 26 (0, 0))) ∧ Aside0 (w'.heap[gb154]? = some (.cells #[(.slice A1_0 l1_0.length c1_0), (.slice A1_1 l1_1.length c1_1), (.slice A1_2 l1_2.length c1_2), (.slice A1_3 l1_3.length c1_3)] 26 (0, 0))) ∧ Aside0 (Below w.heap.size w w'))
    case atStart => exact ⟨(0), (by first | rfl | (simp; done) | (simp [*]; done)), H', ⟨Nat.le_refl _⟩, ⟨by (with_reducible repeat (first | refine blk_drewN ?_ _ | refine blk_drew ?_ | refine blk_alloc ?_ _)); exact BK153.out⟩, ⟨by (with_reducible repeat (first | refine blk_drewN ?_ _ | refine blk_drew ?_ | refine blk_alloc ?_ _)); exact BK154.out⟩, ⟨by repeat (first | (with_reducible first | exact HB.out | apply below_alloc | apply pw_below_drewN | apply below_drew1 | refine below_set ?_ GE153.out | refine below_set ?_ GE154.out) | exact HB.out)⟩⟩
    case round =>
     clear H'
     try clear c1
     try clear c2
     try clear p2
     try clear c6
     try clear c6b0
     try clear c6b1
     try clear c6b2
     try clear c7
     try clear c7b0
     try clear c7b1
     try clear c7b2
     try clear c8
     try clear c8b0
     try clear c8b1
     try clear c8b2
     try clear c9
     try clear c12
     try clear c15
     try clear c18
     try clear c21
     try clear hcz10_0
     try clear hcz10_1
     try clear hcz10_2
     try clear hcz10_3
     try clear hcz11_0
     try clear hcz11_1
     try clear hcz11_2
     try clear hcz11_3
     try clear hcz13_0
     try clear hcz13_1
     try clear hcz13_2
     try clear hcz13_3
     try clear hcz14_0
     try clear hcz14_1
     try clear hcz14_2
     try clear hcz14_3
     try clear hcz16_0
     try clear hcz16_1
     try clear hcz16_2
     try clear hcz16_3
     try clear hcz17_0
     try clear hcz17_1
     try clear hcz17_2
     try clear hcz17_3
     try clear hcz19_0
     try clear hcz19_1
     try clear hcz19_2
     try clear hcz19_3
     try clear hcz20_0
     try clear hcz20_1
     try clear hcz20_2
     try clear hcz20_3
     try clear hfz10_0
     try clear hfz10_1
     try clear hfz10_2
     try clear hfz10_3
     try clear hfz11_0
     try clear hfz11_1
     try clear hfz11_2
     try clear hfz11_3
     try clear hfz13_0
     try clear hfz13_1
     try clear hfz13_2
     try clear hfz13_3
     try clear hfz14_0
     try clear hfz14_1
     try clear hfz14_2
     try clear hfz14_3
     try clear hfz16_0
     try clear hfz16_1
     try clear hfz16_2
     try clear hfz16_3
     try clear hfz17_0
     try clear hfz17_1
     try clear hfz17_2
     try clear hfz17_3
     try clear hfz19_0
     try clear hfz19_1
     try clear hfz19_2
     try clear hfz19_3
     try clear hfz20_0
     try clear hfz20_1
     try clear hfz20_2
     try clear hfz20_3
     try clear p2
     obtain ⟨x5_2, rfl, HA, HK2, BK153, BK154, HB⟩ := hrel
     cases gk with
     | zero => exact absurd HA.out (by simp [isthmusref18_Same.l0])
     | succ k2 =>
      have H := HA.out
      clear HA
      simp only [isthmusref18_Same.l0] at H
      by_cases c22 : x5_2 < (l0_0.length : Int)
      ·rw [if_pos c22] at H
       have c22b0 : decide (x5_2 < (l0_0.length : Int)) = true := decide_eq_true c22
       clear c22
       by_cases c23 : 0 ≤ x5_2
       ·rw [if_pos c23] at H
        have c23b0 : decide (0 ≤ x5_2) = true := decide_eq_true c23
        clear c23
        by_cases c24 : x5_2 < (l1_0.length : Int)
        ·rw [if_pos c24] at H
         have c24b0 : decide (x5_2 < (l1_0.length : Int)) = true := decide_eq_true c24
         clear c24
         by_cases c25 : (rd l0_0 x5_2) = (rd l1_0 x5_2)
         ·rw [if_pos c25] at H
          have c25b0 : ((rd l0_0 x5_2) == (rd l1_0 x5_2)) = true := beq_iff_eq.mpr c25
          have c25b1 : ((rd l0_0 x5_2) != (rd l1_0 x5_2)) = false := bne_eq_false_iff_eq.mpr c25
          clear c25
          have H' := Aside0.mk H
          clear H
          have hnb26 := NB153_154.out
          have hnc26 := NB154_153.out
          have hcz27_0 : wr.cell? ⟨gb153, 0, none⟩ = some (.slice A0_0 l0_0.length c0_0) := (blk_cell BK153.out 0).trans rfl
          have hcz27_1 : wr.cell? ⟨gb153, 1, none⟩ = some (.slice A0_1 l0_1.length c0_1) := (blk_cell BK153.out 1).trans rfl
          have hcz27_2 : wr.cell? ⟨gb153, 2, none⟩ = some (.slice A0_2 l0_2.length c0_2) := (blk_cell BK153.out 2).trans rfl
          have hcz27_3 : wr.cell? ⟨gb153, 3, none⟩ = some (.slice A0_3 l0_3.length c0_3) := (blk_cell BK153.out 3).trans rfl
          have hfz27_0 := blk_frozen BK153.out 0
          have hfz27_1 := blk_frozen BK153.out 1
          have hfz27_2 := blk_frozen BK153.out 2
          have hfz27_3 := blk_frozen BK153.out 3
          have p155 : 0 ≤ (x5_2 : Int) := of_decide_eq_true (by first | (with_reducible assumption) | assumption)
          have q155 : x5_2 < (l0_0.length : Int) := of_decide_eq_true (by first | (with_reducible assumption) | assumption)
          obtain ⟨ad155, e155, hx155_0⟩ := Kd.at_int HR0_0.out x5_2 p155 q155
          cases e155
          replace hx155_0 := (HB.out.cell (World.block_lt_of_cell? w _ hx155_0)).trans hx155_0
          replace p155 := eq_true p155
          replace q155 := eq_true q155
          have hcz28_0 : wr.cell? ⟨gb154, 0, none⟩ = some (.slice A1_0 l1_0.length c1_0) := (blk_cell BK154.out 0).trans rfl
          have hcz28_1 : wr.cell? ⟨gb154, 1, none⟩ = some (.slice A1_1 l1_1.length c1_1) := (blk_cell BK154.out 1).trans rfl
          have hcz28_2 : wr.cell? ⟨gb154, 2, none⟩ = some (.slice A1_2 l1_2.length c1_2) := (blk_cell BK154.out 2).trans rfl
          have hcz28_3 : wr.cell? ⟨gb154, 3, none⟩ = some (.slice A1_3 l1_3.length c1_3) := (blk_cell BK154.out 3).trans rfl
          have hfz28_0 := blk_frozen BK154.out 0
          have hfz28_1 := blk_frozen BK154.out 1
          have hfz28_2 := blk_frozen BK154.out 2
          have hfz28_3 := blk_frozen BK154.out 3
          have p156 : 0 ≤ (x5_2 : Int) := of_decide_eq_true (by first | (with_reducible assumption) | assumption)
          have q156 : x5_2 < (l1_0.length : Int) := of_decide_eq_true (by first | (with_reducible assumption) | assumption)
          obtain ⟨ad156, e156, hx156_0⟩ := Kd.at_int HR1_0.out x5_2 p156 q156
          cases e156
          replace hx156_0 := (HB.out.cell (World.block_lt_of_cell? w _ hx156_0)).trans hx156_0
          replace p156 := eq_true p156
          replace q156 := eq_true q156
          go_wp2
          repeat (go_quiet (fail); try go_wp2)
          go_roundg k2
          case measure => have := HJ2.out; have := HK2.out; omega
          case rel => exact ⟨(wrap64 (x5_2 + 1)), (by first | rfl | (simp; done) | (simp [*]; done)), H', ⟨by have := HJ2.out; have := HK2.out; omega⟩, ⟨by (with_reducible repeat (first | refine blk_drewN ?_ _ | refine blk_drew ?_ | refine blk_alloc ?_ _)); exact BK153.out⟩, ⟨by (with_reducible repeat (first | refine blk_drewN ?_ _ | refine blk_drew ?_ | refine blk_alloc ?_ _)); exact BK154.out⟩, ⟨by repeat (first | (with_reducible first | exact HB.out | apply below_alloc | apply pw_below_drewN | apply below_drew1 | refine below_set ?_ GE153.out | refine below_set ?_ GE154.out) | exact HB.out)⟩⟩
         ·rw [if_neg c25] at H
          have c25b0 : ((rd l0_0 x5_2) == (rd l1_0 x5_2)) = false := beq_eq_false_iff_ne.mpr c25
          have c25b1 : ((rd l0_0 x5_2) != (rd l1_0 x5_2)) = true := bne_iff_ne.mpr c25
          obtain rfl := Option.some.inj H
          have hnb29 := NB153_154.out
          have hnc29 := NB154_153.out
          have hcz30_0 : wr.cell? ⟨gb153, 0, none⟩ = some (.slice A0_0 l0_0.length c0_0) := (blk_cell BK153.out 0).trans rfl
          have hcz30_1 : wr.cell? ⟨gb153, 1, none⟩ = some (.slice A0_1 l0_1.length c0_1) := (blk_cell BK153.out 1).trans rfl
          have hcz30_2 : wr.cell? ⟨gb153, 2, none⟩ = some (.slice A0_2 l0_2.length c0_2) := (blk_cell BK153.out 2).trans rfl
          have hcz30_3 : wr.cell? ⟨gb153, 3, none⟩ = some (.slice A0_3 l0_3.length c0_3) := (blk_cell BK153.out 3).trans rfl
          have hfz30_0 := blk_frozen BK153.out 0
          have hfz30_1 := blk_frozen BK153.out 1
          have hfz30_2 := blk_frozen BK153.out 2
          have hfz30_3 := blk_frozen BK153.out 3
          have p155 : 0 ≤ (x5_2 : Int) := of_decide_eq_true (by first | (with_reducible assumption) | assumption)
          have q155 : x5_2 < (l0_0.length : Int) := of_decide_eq_true (by first | (with_reducible assumption) | assumption)
          obtain ⟨ad155, e155, hx155_0⟩ := Kd.at_int HR0_0.out x5_2 p155 q155
          cases e155
          replace hx155_0 := (HB.out.cell (World.block_lt_of_cell? w _ hx155_0)).trans hx155_0
          replace p155 := eq_true p155
          replace q155 := eq_true q155
          have hcz31_0 : wr.cell? ⟨gb154, 0, none⟩ = some (.slice A1_0 l1_0.length c1_0) := (blk_cell BK154.out 0).trans rfl
          have hcz31_1 : wr.cell? ⟨gb154, 1, none⟩ = some (.slice A1_1 l1_1.length c1_1) := (blk_cell BK154.out 1).trans rfl
          have hcz31_2 : wr.cell? ⟨gb154, 2, none⟩ = some (.slice A1_2 l1_2.length c1_2) := (blk_cell BK154.out 2).trans rfl
          have hcz31_3 : wr.cell? ⟨gb154, 3, none⟩ = some (.slice A1_3 l1_3.length c1_3) := (blk_cell BK154.out 3).trans rfl
          have hfz31_0 := blk_frozen BK154.out 0
          have hfz31_1 := blk_frozen BK154.out 1
          have hfz31_2 := blk_frozen BK154.out 2
          have hfz31_3 := blk_frozen BK154.out 3
          have p156 : 0 ≤ (x5_2 : Int) := of_decide_eq_true (by first | (with_reducible assumption) | assumption)
          have q156 : x5_2 < (l1_0.length : Int) := of_decide_eq_true (by first | (with_reducible assumption) | assumption)
          obtain ⟨ad156, e156, hx156_0⟩ := Kd.at_int HR1_0.out x5_2 p156 q156
          cases e156
          replace hx156_0 := (HB.out.cell (World.block_lt_of_cell? w _ hx156_0)).trans hx156_0
          replace p156 := eq_true p156
          replace q156 := eq_true q156
          go_wp2
          repeat (go_quiet (fail); try go_wp2)
          go_ret
          exact ⟨by first | rfl | (simp [errW_none, errW_some] <;> rfl) | (simp [*, errW_none, errW_some] <;> rfl), by repeat (first | (with_reducible first | exact HB.out | apply below_alloc | apply pw_below_drewN | apply below_drew1 | refine below_set ?_ GE153.out | refine below_set ?_ GE154.out) | exact HB.out)⟩
        ·rw [if_neg c24] at H
         exact absurd H (by simp)
       ·rw [if_neg c23] at H
        exact absurd H (by simp)
      ·rw [if_neg c22] at H
       have c22b0 : decide (x5_2 < (l0_0.length : Int)) = false := decide_eq_false c22
       clear c22
       have H' := Aside0.mk H
       clear H
       have hnb32 := NB153_154.out
       have hnc32 := NB154_153.out
       have hcz33_0 : wr.cell? ⟨gb153, 0, none⟩ = some (.slice A0_0 l0_0.length c0_0) := (blk_cell BK153.out 0).trans rfl
       have hcz33_1 : wr.cell? ⟨gb153, 1, none⟩ = some (.slice A0_1 l0_1.length c0_1) := (blk_cell BK153.out 1).trans rfl
       have hcz33_2 : wr.cell? ⟨gb153, 2, none⟩ = some (.slice A0_2 l0_2.length c0_2) := (blk_cell BK153.out 2).trans rfl
       have hcz33_3 : wr.cell? ⟨gb153, 3, none⟩ = some (.slice A0_3 l0_3.length c0_3) := (blk_cell BK153.out 3).trans rfl
       have hfz33_0 := blk_frozen BK153.out 0
       have hfz33_1 := blk_frozen BK153.out 1
       have hfz33_2 := blk_frozen BK153.out 2
       have hfz33_3 := blk_frozen BK153.out 3
       go_wp2
       repeat (go_quiet (fail); try go_wp2)
       go_loopg [6] k2 (fun kq v6 w' => ∃ (x6_3 : Int), v6 = .int .i64 x6_3 ∧ Aside0 (isthmusref18_Same.l1 kq x6_3 l0_0 l0_1 l0_2 l0_3 l1_0 l1_1 l1_2 l1_3 = some r) ∧ Aside0 (kq ≤ k2) ∧ Aside0 (w'.heap[gb153]? = some (.cells #[(.slice A0_0 l0_0.length c0_0), (.slice A0_1 l0_1.length c0_1), (.slice A0_2 l0_2.length c0_2), (.slice A0_3 l0_3.length c0_3)] 26 (0, 0))) ∧ Aside0 (w'.heap[gb154]? = some (.cells #[(.slice A1_0 l1_0.length c1_0), (.slice A1_1 l1_1.length c1_1), (.slice A1_2 l1_2.length c1_2), (.slice A1_3 l1_3.length c1_3)] 26 (0, 0))) ∧ Aside0 (Below w.heap.size w w'))
       case atStart => exact ⟨(0), (by first | rfl | (simp; done) | (simp [*]; done)), H', ⟨Nat.le_refl _⟩, ⟨by (with_reducible repeat (first | refine blk_drewN ?_ _ | refine blk_drew ?_ | refine blk_alloc ?_ _)); exact BK153.out⟩, ⟨by (with_reducible repeat (first | refine blk_drewN ?_ _ | refine blk_drew ?_ | refine blk_alloc ?_ _)); exact BK154.out⟩, ⟨by repeat (first | (with_reducible first | exact HB.out | apply below_alloc | apply pw_below_drewN | apply below_drew1 | refine below_set ?_ GE153.out | refine below_set ?_ GE154.out) | exact HB.out)⟩⟩
       case round =>
        clear H'
        try clear c1
        try clear p1
        try clear q1
        try clear hx1
        try clear c2
        try clear p2
        try clear c3
        try clear c6
        try clear c6b0
        try clear c6b1
        try clear c6b2
        try clear p6
        try clear c7
        try clear c7b0
        try clear c7b1
        try clear c7b2
        try clear c8
        try clear c8b0
        try clear c8b1
        try clear c8b2
        try clear c9
        try clear c12
        try clear c15
        try clear p15
        try clear q15
        try clear hx15
        try clear c18
        try clear c21
        try clear c22
        try clear c22b0
        try clear c23
        try clear c23b0
        try clear c24
        try clear c24b0
        try clear c25
        try clear c25b0
        try clear c25b1
        try clear c26
        try clear c29
        try clear c32
        try clear hcz10_0
        try clear hcz10_1
        try clear hcz10_2
        try clear hcz10_3
        try clear hcz11_0
        try clear hcz11_1
        try clear hcz11_2
        try clear hcz11_3
        try clear hcz13_0
        try clear hcz13_1
        try clear hcz13_2
        try clear hcz13_3
        try clear hcz14_0
        try clear hcz14_1
        try clear hcz14_2
        try clear hcz14_3
        try clear hcz16_0
        try clear hcz16_1
        try clear hcz16_2
        try clear hcz16_3
        try clear hcz17_0
        try clear hcz17_1
        try clear hcz17_2
        try clear hcz17_3
        try clear hcz19_0
        try clear hcz19_1
        try clear hcz19_2
        try clear hcz19_3
        try clear hcz20_0
        try clear hcz20_1
        try clear hcz20_2
        try clear hcz20_3
        try clear hcz27_0
        try clear hcz27_1
        try clear hcz27_2
        try clear hcz27_3
        try clear hcz28_0
        try clear hcz28_1
        try clear hcz28_2
        try clear hcz28_3
        try clear hcz30_0
        try clear hcz30_1
        try clear hcz30_2
        try clear hcz30_3
        try clear hcz31_0
        try clear hcz31_1
        try clear hcz31_2
        try clear hcz31_3
        try clear hcz33_0
        try clear hcz33_1
        try clear hcz33_2
        try clear hcz33_3
        try clear hfz10_0
        try clear hfz10_1
        try clear hfz10_2
        try clear hfz10_3
        try clear hfz11_0
        try clear hfz11_1
        try clear hfz11_2
        try clear hfz11_3
        try clear hfz13_0
        try clear hfz13_1
        try clear hfz13_2
        try clear hfz13_3
        try clear hfz14_0
        try clear hfz14_1
        try clear hfz14_2
        try clear hfz14_3
        try clear hfz16_0
        try clear hfz16_1
        try clear hfz16_2
        try clear hfz16_3
        try clear hfz17_0
        try clear hfz17_1
        try clear hfz17_2
        try clear hfz17_3
        try clear hfz19_0
        try clear hfz19_1
        try clear hfz19_2
        try clear hfz19_3
        try clear hfz20_0
        try clear hfz20_1
        try clear hfz20_2
        try clear hfz20_3
        try clear hfz27_0
        try clear hfz27_1
        try clear hfz27_2
        try clear hfz27_3
        try clear hfz28_0
        try clear hfz28_1
        try clear hfz28_2
        try clear hfz28_3
        try clear hfz30_0
        try clear hfz30_1
        try clear hfz30_2
        try clear hfz30_3
        try clear hfz31_0
        try clear hfz31_1
        try clear hfz31_2
        try clear hfz31_3
        try clear hfz33_0
        try clear hfz33_1
        try clear hfz33_2
        try clear hfz33_3
        try clear hx155_0
        try clear hx156_0
        try clear p155
        try clear p156
        try clear p2
        try clear q155
        try clear q156
        obtain ⟨x6_3, rfl, HA, HK3, BK153, BK154, HB⟩ := hrel
        cases gk with
        | zero => exact absurd HA.out (by simp [isthmusref18_Same.l1])
        | succ k3 =>
         have H := HA.out
         clear HA
         simp only [isthmusref18_Same.l1] at H
         by_cases c34 : x6_3 < (l0_1.length : Int)
         ·rw [if_pos c34] at H
          have c34b0 : decide (x6_3 < (l0_1.length : Int)) = true := decide_eq_true c34
          clear c34
          by_cases c35 : 0 ≤ x6_3
          ·rw [if_pos c35] at H
           have c35b0 : decide (0 ≤ x6_3) = true := decide_eq_true c35
           clear c35
           by_cases c36 : x6_3 < (l1_1.length : Int)
           ·rw [if_pos c36] at H
            have c36b0 : decide (x6_3 < (l1_1.length : Int)) = true := decide_eq_true c36
            clear c36
            by_cases c37 : (rd l0_1 x6_3) = (rd l1_1 x6_3)
            ·rw [if_pos c37] at H
             have c37b0 : ((rd l0_1 x6_3) == (rd l1_1 x6_3)) = true := beq_iff_eq.mpr c37
             have c37b1 : ((rd l0_1 x6_3) != (rd l1_1 x6_3)) = false := bne_eq_false_iff_eq.mpr c37
             clear c37
             have H' := Aside0.mk H
             clear H
             have hnb38 := NB153_154.out
             have hnc38 := NB154_153.out
             have hcz39_0 : wr.cell? ⟨gb153, 0, none⟩ = some (.slice A0_0 l0_0.length c0_0) := (blk_cell BK153.out 0).trans rfl
             have hcz39_1 : wr.cell? ⟨gb153, 1, none⟩ = some (.slice A0_1 l0_1.length c0_1) := (blk_cell BK153.out 1).trans rfl
             have hcz39_2 : wr.cell? ⟨gb153, 2, none⟩ = some (.slice A0_2 l0_2.length c0_2) := (blk_cell BK153.out 2).trans rfl
             have hcz39_3 : wr.cell? ⟨gb153, 3, none⟩ = some (.slice A0_3 l0_3.length c0_3) := (blk_cell BK153.out 3).trans rfl
             have hfz39_0 := blk_frozen BK153.out 0
             have hfz39_1 := blk_frozen BK153.out 1
             have hfz39_2 := blk_frozen BK153.out 2
             have hfz39_3 := blk_frozen BK153.out 3
             have p157 : 0 ≤ (x6_3 : Int) := of_decide_eq_true (by first | (with_reducible assumption) | assumption)
             have q157 : x6_3 < (l0_1.length : Int) := of_decide_eq_true (by first | (with_reducible assumption) | assumption)
             obtain ⟨ad157, e157, hx157_0⟩ := Kd.at_int HR0_1.out x6_3 p157 q157
             cases e157
             replace hx157_0 := (HB.out.cell (World.block_lt_of_cell? w _ hx157_0)).trans hx157_0
             replace p157 := eq_true p157
             replace q157 := eq_true q157
             have hcz40_0 : wr.cell? ⟨gb154, 0, none⟩ = some (.slice A1_0 l1_0.length c1_0) := (blk_cell BK154.out 0).trans rfl
             have hcz40_1 : wr.cell? ⟨gb154, 1, none⟩ = some (.slice A1_1 l1_1.length c1_1) := (blk_cell BK154.out 1).trans rfl
             have hcz40_2 : wr.cell? ⟨gb154, 2, none⟩ = some (.slice A1_2 l1_2.length c1_2) := (blk_cell BK154.out 2).trans rfl
             have hcz40_3 : wr.cell? ⟨gb154, 3, none⟩ = some (.slice A1_3 l1_3.length c1_3) := (blk_cell BK154.out 3).trans rfl
             have hfz40_0 := blk_frozen BK154.out 0
             have hfz40_1 := blk_frozen BK154.out 1
             have hfz40_2 := blk_frozen BK154.out 2
             have hfz40_3 := blk_frozen BK154.out 3
             have p158 : 0 ≤ (x6_3 : Int) := of_decide_eq_true (by first | (with_reducible assumption) | assumption)
             have q158 : x6_3 < (l1_1.length : Int) := of_decide_eq_true (by first | (with_reducible assumption) | assumption)
             obtain ⟨ad158, e158, hx158_0⟩ := Kd.at_int HR1_1.out x6_3 p158 q158
             cases e158
             replace hx158_0 := (HB.out.cell (World.block_lt_of_cell? w _ hx158_0)).trans hx158_0
             replace p158 := eq_true p158
             replace q158 := eq_true q158
             go_wp2
             repeat (go_quiet (fail); try go_wp2)
             go_roundg k3
             case measure => have := HJ2.out; have := HK2.out; have := HK3.out; omega
             case rel => exact ⟨(wrap64 (x6_3 + 1)), (by first | rfl | (simp; done) | (simp [*]; done)), H', ⟨by have := HJ2.out; have := HK2.out; have := HK3.out; omega⟩, ⟨by (with_reducible repeat (first | refine blk_drewN ?_ _ | refine blk_drew ?_ | refine blk_alloc ?_ _)); exact BK153.out⟩, ⟨by (with_reducible repeat (first | refine blk_drewN ?_ _ | refine blk_drew ?_ | refine blk_alloc ?_ _)); exact BK154.out⟩, ⟨by repeat (first | (with_reducible first | exact HB.out | apply below_alloc | apply pw_below_drewN | apply below_drew1 | refine below_set ?_ GE153.out | refine below_set ?_ GE154.out) | exact HB.out)⟩⟩
            ·rw [if_neg c37] at H
             have c37b0 : ((rd l0_1 x6_3) == (rd l1_1 x6_3)) = false := beq_eq_false_iff_ne.mpr c37
             have c37b1 : ((rd l0_1 x6_3) != (rd l1_1 x6_3)) = true := bne_iff_ne.mpr c37
             obtain rfl := Option.some.inj H
             have hnb41 := NB153_154.out
             have hnc41 := NB154_153.out
             have hcz42_0 : wr.cell? ⟨gb153, 0, none⟩ = some (.slice A0_0 l0_0.length c0_0) := (blk_cell BK153.out 0).trans rfl
             have hcz42_1 : wr.cell? ⟨gb153, 1, none⟩ = some (.slice A0_1 l0_1.length c0_1) := (blk_cell BK153.out 1).trans rfl
             have hcz42_2 : wr.cell? ⟨gb153, 2, none⟩ = some (.slice A0_2 l0_2.length c0_2) := (blk_cell BK153.out 2).trans rfl
             have hcz42_3 : wr.cell? ⟨gb153, 3, none⟩ = some (.slice A0_3 l0_3.length c0_3) := (blk_cell BK153.out 3).trans rfl
             have hfz42_0 := blk_frozen BK153.out 0
             have hfz42_1 := blk_frozen BK153.out 1
             have hfz42_2 := blk_frozen BK153.out 2
             have hfz42_3 := blk_frozen BK153.out 3
             have p157 : 0 ≤ (x6_3 : Int) := of_decide_eq_true (by first | (with_reducible assumption) | assumption)
             have q157 : x6_3 < (l0_1.length : Int) := of_decide_eq_true (by first | (with_reducible assumption) | assumption)
             obtain ⟨ad157, e157, hx157_0⟩ := Kd.at_int HR0_1.out x6_3 p157 q157
             cases e157
             replace hx157_0 := (HB.out.cell (World.block_lt_of_cell? w _ hx157_0)).trans hx157_0
             replace p157 := eq_true p157
             replace q157 := eq_true q157
             have hcz43_0 : wr.cell? ⟨gb154, 0, none⟩ = some (.slice A1_0 l1_0.length c1_0) := (blk_cell BK154.out 0).trans rfl
             have hcz43_1 : wr.cell? ⟨gb154, 1, none⟩ = some (.slice A1_1 l1_1.length c1_1) := (blk_cell BK154.out 1).trans rfl
             have hcz43_2 : wr.cell? ⟨gb154, 2, none⟩ = some (.slice A1_2 l1_2.length c1_2) := (blk_cell BK154.out 2).trans rfl
             have hcz43_3 : wr.cell? ⟨gb154, 3, none⟩ = some (.slice A1_3 l1_3.length c1_3) := (blk_cell BK154.out 3).trans rfl
             have hfz43_0 := blk_frozen BK154.out 0
             have hfz43_1 := blk_frozen BK154.out 1
             have hfz43_2 := blk_frozen BK154.out 2
             have hfz43_3 := blk_frozen BK154.out 3
             have p158 : 0 ≤ (x6_3 : Int) := of_decide_eq_true (by first | (with_reducible assumption) | assumption)
             have q158 : x6_3 < (l1_1.length : Int) := of_decide_eq_true (by first | (with_reducible assumption) | assumption)
             obtain ⟨ad158, e158, hx158_0⟩ := Kd.at_int HR1_1.out x6_3 p158 q158
             cases e158
             replace hx158_0 := (HB.out.cell (World.block_lt_of_cell? w _ hx158_0)).trans hx158_0
             replace p158 := eq_true p158
             replace q158 := eq_true q158
             go_wp2
             repeat (go_quiet (fail); try go_wp2)
             go_ret
             exact ⟨by first | rfl | (simp [errW_none, errW_some] <;> rfl) | (simp [*, errW_none, errW_some] <;> rfl), by repeat (first | (with_reducible first | exact HB.out | apply below_alloc | apply pw_below_drewN | apply below_drew1 | refine below_set ?_ GE153.out | refine below_set ?_ GE154.out) | exact HB.out)⟩
           ·rw [if_neg c36] at H
            exact absurd H (by simp)
          ·rw [if_neg c35] at H
           exact absurd H (by simp)
         ·rw [if_neg c34] at H
          have c34b0 : decide (x6_3 < (l0_1.length : Int)) = false := decide_eq_false c34
          clear c34
          have H' := Aside0.mk H
          clear H
          have hnb44 := NB153_154.out
          have hnc44 := NB154_153.out
          have hcz45_0 : wr.cell? ⟨gb153, 0, none⟩ = some (.slice A0_0 l0_0.length c0_0) := (blk_cell BK153.out 0).trans rfl
          have hcz45_1 : wr.cell? ⟨gb153, 1, none⟩ = some (.slice A0_1 l0_1.length c0_1) := (blk_cell BK153.out 1).trans rfl
          have hcz45_2 : wr.cell? ⟨gb153, 2, none⟩ = some (.slice A0_2 l0_2.length c0_2) := (blk_cell BK153.out 2).trans rfl
          have hcz45_3 : wr.cell? ⟨gb153, 3, none⟩ = some (.slice A0_3 l0_3.length c0_3) := (blk_cell BK153.out 3).trans rfl
          have hfz45_0 := blk_frozen BK153.out 0
          have hfz45_1 := blk_frozen BK153.out 1
          have hfz45_2 := blk_frozen BK153.out 2
          have hfz45_3 := blk_frozen BK153.out 3
          go_wp2
          repeat (go_quiet (fail); try go_wp2)
          go_loopg [7] k3 (fun kq v7 w' => ∃ (x7_4 : Int), v7 = .int .i64 x7_4 ∧ Aside0 (isthmusref18_Same.l2 kq x7_4 l0_0 l0_1 l0_2 l0_3 l1_0 l1_1 l1_2 l1_3 = some r) ∧ Aside0 (kq ≤ k3) ∧ Aside0 (w'.heap[gb153]? = some (.cells #[(.slice A0_0 l0_0.length c0_0), (.slice A0_1 l0_1.length c0_1), (.slice A0_2 l0_2.length c0_2), (.slice A0_3 l0_3.length c0_3)] 26 (0, 0))) ∧ Aside0 (w'.heap[gb154]? = some (.cells #[(.slice A1_0 l1_0.length c1_0), (.slice A1_1 l1_1.length c1_1), (.slice A1_2 l1_2.length c1_2), (.slice A1_3 l1_3.length c1_3)] 26 (0, 0))) ∧ Aside0 (Below w.heap.size w w'))
          case atStart => exact ⟨(0), (by first | rfl | (simp; done) | (simp [*]; done)), H', ⟨Nat.le_refl _⟩, ⟨by (with_reducible repeat (first | refine blk_drewN ?_ _ | refine blk_drew ?_ | refine blk_alloc ?_ _)); exact BK153.out⟩, ⟨by (with_reducible repeat (first | refine blk_drewN ?_ _ | refine blk_drew ?_ | refine blk_alloc ?_ _)); exact BK154.out⟩, ⟨by repeat (first | (with_reducible first | exact HB.out | apply below_alloc | apply pw_below_drewN | apply below_drew1 | refine below_set ?_ GE153.out | refine below_set ?_ GE154.out) | exact HB.out)⟩⟩
          case round =>
           clear H'
           try clear c1
           try clear p1
           try clear q1
           try clear hx1
           try clear c2
           try clear p2
           try clear c3
           try clear c4
           try clear c6
           try clear c6b0
           try clear c6b1
           try clear c6b2
           try clear p6
           try clear c7
           try clear c7b0
           try clear c7b1
           try clear c7b2
           try clear c8
           try clear c8b0
           try clear c8b1
           try clear c8b2
           try clear c9
           try clear c12
           try clear c15
           try clear p15
           try clear q15
           try clear hx15
           try clear c18
           try clear c21
           try clear c22
           try clear c22b0
           try clear c23
           try clear c23b0
           try clear c24
           try clear c24b0
           try clear c25
           try clear c25b0
           try clear c25b1
           try clear c26
           try clear c29
           try clear c32
           try clear c34
           try clear c34b0
           try clear c35
           try clear c35b0
           try clear c36
           try clear c36b0
           try clear c37
           try clear c37b0
           try clear c37b1
           try clear c38
           try clear c41
           try clear c44
           try clear hcz10_0
           try clear hcz10_1
           try clear hcz10_2
           try clear hcz10_3
           try clear hcz11_0
           try clear hcz11_1
           try clear hcz11_2
           try clear hcz11_3
           try clear hcz13_0
           try clear hcz13_1
           try clear hcz13_2
           try clear hcz13_3
           try clear hcz14_0
           try clear hcz14_1
           try clear hcz14_2
           try clear hcz14_3
           try clear hcz16_0
           try clear hcz16_1
           try clear hcz16_2
           try clear hcz16_3
           try clear hcz17_0
           try clear hcz17_1
           try clear hcz17_2
           try clear hcz17_3
           try clear hcz19_0
           try clear hcz19_1
           try clear hcz19_2
           try clear hcz19_3
           try clear hcz20_0
           try clear hcz20_1
           try clear hcz20_2
           try clear hcz20_3
           try clear hcz27_0
           try clear hcz27_1
           try clear hcz27_2
           try clear hcz27_3
           try clear hcz28_0
           try clear hcz28_1
           try clear hcz28_2
           try clear hcz28_3
           try clear hcz30_0
           try clear hcz30_1
           try clear hcz30_2
           try clear hcz30_3
           try clear hcz31_0
           try clear hcz31_1
           try clear hcz31_2
           try clear hcz31_3
           try clear hcz33_0
           try clear hcz33_1
           try clear hcz33_2
           try clear hcz33_3
           try clear hcz39_0
           try clear hcz39_1
           try clear hcz39_2
           try clear hcz39_3
           try clear hcz40_0
           try clear hcz40_1
           try clear hcz40_2
           try clear hcz40_3
           try clear hcz42_0
           try clear hcz42_1
           try clear hcz42_2
           try clear hcz42_3
           try clear hcz43_0
           try clear hcz43_1
           try clear hcz43_2
           try clear hcz43_3
           try clear hcz45_0
           try clear hcz45_1
           try clear hcz45_2
           try clear hcz45_3
           try clear hfz10_0
           try clear hfz10_1
           try clear hfz10_2
           try clear hfz10_3
           try clear hfz11_0
           try clear hfz11_1
           try clear hfz11_2
           try clear hfz11_3
           try clear hfz13_0
           try clear hfz13_1
           try clear hfz13_2
           try clear hfz13_3
           try clear hfz14_0
           try clear hfz14_1
           try clear hfz14_2
           try clear hfz14_3
           try clear hfz16_0
           try clear hfz16_1
           try clear hfz16_2
           try clear hfz16_3
           try clear hfz17_0
           try clear hfz17_1
           try clear hfz17_2
           try clear hfz17_3
           try clear hfz19_0
           try clear hfz19_1
           try clear hfz19_2
           try clear hfz19_3
           try clear hfz20_0
           try clear hfz20_1
           try clear hfz20_2
           try clear hfz20_3
           try clear hfz27_0
           try clear hfz27_1
           try clear hfz27_2
           try clear hfz27_3
           try clear hfz28_0
           try clear hfz28_1
           try clear hfz28_2
           try clear hfz28_3
           try clear hfz30_0
           try clear hfz30_1
           try clear hfz30_2
           try clear hfz30_3
           try clear hfz31_0
           try clear hfz31_1
           try clear hfz31_2
           try clear hfz31_3
           try clear hfz33_0
           try clear hfz33_1
           try clear hfz33_2
           try clear hfz33_3
           try clear hfz39_0
           try clear hfz39_1
           try clear hfz39_2
           try clear hfz39_3
           try clear hfz40_0
           try clear hfz40_1
           try clear hfz40_2
           try clear hfz40_3
           try clear hfz42_0
           try clear hfz42_1
           try clear hfz42_2
           try clear hfz42_3
           try clear hfz43_0
           try clear hfz43_1
           try clear hfz43_2
           try clear hfz43_3
           try clear hfz45_0
           try clear hfz45_1
           try clear hfz45_2
           try clear hfz45_3
           try clear hx155_0
           try clear hx156_0
           try clear hx157_0
           try clear hx158_0
           try clear p1
           try clear p15
           try clear p155
           try clear p156
           try clear p157
           try clear p158
           try clear p2
           try clear p6
           try clear q1
           try clear q15
           try clear q155
           try clear q156
           try clear q157
           try clear q158
           obtain ⟨x7_4, rfl, HA, HK4, BK153, BK154, HB⟩ := hrel
           cases gk with
           | zero => exact absurd HA.out (by simp [isthmusref18_Same.l2])
           | succ k4 =>
            have H := HA.out
            clear HA
            simp only [isthmusref18_Same.l2] at H
            by_cases c46 : x7_4 < (l0_2.length : Int)
            ·rw [if_pos c46] at H
             have c46b0 : decide (x7_4 < (l0_2.length : Int)) = true := decide_eq_true c46
             clear c46
             by_cases c47 : 0 ≤ x7_4
             ·rw [if_pos c47] at H
              have c47b0 : decide (0 ≤ x7_4) = true := decide_eq_true c47
              clear c47
              by_cases c48 : x7_4 < (l1_2.length : Int)
              ·rw [if_pos c48] at H
               have c48b0 : decide (x7_4 < (l1_2.length : Int)) = true := decide_eq_true c48
               clear c48
               by_cases c49 : (rdOf ByteArray.empty l0_2 x7_4).toList = (rdOf ByteArray.empty l1_2 x7_4).toList
               ·rw [if_pos c49] at H
                have c49b0 : ((rdOf ByteArray.empty l0_2 x7_4).toList == (rdOf ByteArray.empty l1_2 x7_4).toList) = true := beq_iff_eq.mpr c49
                have c49b1 : ((rdOf ByteArray.empty l0_2 x7_4).toList != (rdOf ByteArray.empty l1_2 x7_4).toList) = false := bne_eq_false_iff_eq.mpr c49
                clear c49
                have H' := Aside0.mk H
                clear H
                have hnb50 := NB153_154.out
                have hnc50 := NB154_153.out
                have hcz51_0 : wr.cell? ⟨gb153, 0, none⟩ = some (.slice A0_0 l0_0.length c0_0) := (blk_cell BK153.out 0).trans rfl
                have hcz51_1 : wr.cell? ⟨gb153, 1, none⟩ = some (.slice A0_1 l0_1.length c0_1) := (blk_cell BK153.out 1).trans rfl
                have hcz51_2 : wr.cell? ⟨gb153, 2, none⟩ = some (.slice A0_2 l0_2.length c0_2) := (blk_cell BK153.out 2).trans rfl
                have hcz51_3 : wr.cell? ⟨gb153, 3, none⟩ = some (.slice A0_3 l0_3.length c0_3) := (blk_cell BK153.out 3).trans rfl
                have hfz51_0 := blk_frozen BK153.out 0
                have hfz51_1 := blk_frozen BK153.out 1
                have hfz51_2 := blk_frozen BK153.out 2
                have hfz51_3 := blk_frozen BK153.out 3
                have p159 : 0 ≤ (x7_4 : Int) := of_decide_eq_true (by first | (with_reducible assumption) | assumption)
                have q159 : x7_4 < (l0_2.length : Int) := of_decide_eq_true (by first | (with_reducible assumption) | assumption)
                obtain ⟨ad159, e159, hx159_0⟩ := Kd.at_string HR0_2.out x7_4 p159 q159
                cases e159
                replace hx159_0 := (HB.out.cell (World.block_lt_of_cell? w _ hx159_0)).trans hx159_0
                replace p159 := eq_true p159
                replace q159 := eq_true q159
                have hcz52_0 : wr.cell? ⟨gb154, 0, none⟩ = some (.slice A1_0 l1_0.length c1_0) := (blk_cell BK154.out 0).trans rfl
                have hcz52_1 : wr.cell? ⟨gb154, 1, none⟩ = some (.slice A1_1 l1_1.length c1_1) := (blk_cell BK154.out 1).trans rfl
                have hcz52_2 : wr.cell? ⟨gb154, 2, none⟩ = some (.slice A1_2 l1_2.length c1_2) := (blk_cell BK154.out 2).trans rfl
                have hcz52_3 : wr.cell? ⟨gb154, 3, none⟩ = some (.slice A1_3 l1_3.length c1_3) := (blk_cell BK154.out 3).trans rfl
                have hfz52_0 := blk_frozen BK154.out 0
                have hfz52_1 := blk_frozen BK154.out 1
                have hfz52_2 := blk_frozen BK154.out 2
                have hfz52_3 := blk_frozen BK154.out 3
                have p160 : 0 ≤ (x7_4 : Int) := of_decide_eq_true (by first | (with_reducible assumption) | assumption)
                have q160 : x7_4 < (l1_2.length : Int) := of_decide_eq_true (by first | (with_reducible assumption) | assumption)
                obtain ⟨ad160, e160, hx160_0⟩ := Kd.at_string HR1_2.out x7_4 p160 q160
                cases e160
                replace hx160_0 := (HB.out.cell (World.block_lt_of_cell? w _ hx160_0)).trans hx160_0
                replace p160 := eq_true p160
                replace q160 := eq_true q160
                go_wp2
                repeat (go_quiet (fail); try go_wp2)
                go_roundg k4
                case measure => have := HJ2.out; have := HK2.out; have := HK3.out; have := HK4.out; omega
                case rel => exact ⟨(wrap64 (x7_4 + 1)), (by first | rfl | (simp; done) | (simp [*]; done)), H', ⟨by have := HJ2.out; have := HK2.out; have := HK3.out; have := HK4.out; omega⟩, ⟨by (with_reducible repeat (first | refine blk_drewN ?_ _ | refine blk_drew ?_ | refine blk_alloc ?_ _)); exact BK153.out⟩, ⟨by (with_reducible repeat (first | refine blk_drewN ?_ _ | refine blk_drew ?_ | refine blk_alloc ?_ _)); exact BK154.out⟩, ⟨by repeat (first | (with_reducible first | exact HB.out | apply below_alloc | apply pw_below_drewN | apply below_drew1 | refine below_set ?_ GE153.out | refine below_set ?_ GE154.out) | exact HB.out)⟩⟩
               ·rw [if_neg c49] at H
                have c49b0 : ((rdOf ByteArray.empty l0_2 x7_4).toList == (rdOf ByteArray.empty l1_2 x7_4).toList) = false := beq_eq_false_iff_ne.mpr c49
                have c49b1 : ((rdOf ByteArray.empty l0_2 x7_4).toList != (rdOf ByteArray.empty l1_2 x7_4).toList) = true := bne_iff_ne.mpr c49
                obtain rfl := Option.some.inj H
                have hnb53 := NB153_154.out
                have hnc53 := NB154_153.out
                have hcz54_0 : wr.cell? ⟨gb153, 0, none⟩ = some (.slice A0_0 l0_0.length c0_0) := (blk_cell BK153.out 0).trans rfl
                have hcz54_1 : wr.cell? ⟨gb153, 1, none⟩ = some (.slice A0_1 l0_1.length c0_1) := (blk_cell BK153.out 1).trans rfl
                have hcz54_2 : wr.cell? ⟨gb153, 2, none⟩ = some (.slice A0_2 l0_2.length c0_2) := (blk_cell BK153.out 2).trans rfl
                have hcz54_3 : wr.cell? ⟨gb153, 3, none⟩ = some (.slice A0_3 l0_3.length c0_3) := (blk_cell BK153.out 3).trans rfl
                have hfz54_0 := blk_frozen BK153.out 0
                have hfz54_1 := blk_frozen BK153.out 1
                have hfz54_2 := blk_frozen BK153.out 2
                have hfz54_3 := blk_frozen BK153.out 3
                have p159 : 0 ≤ (x7_4 : Int) := of_decide_eq_true (by first | (with_reducible assumption) | assumption)
                have q159 : x7_4 < (l0_2.length : Int) := of_decide_eq_true (by first | (with_reducible assumption) | assumption)
                obtain ⟨ad159, e159, hx159_0⟩ := Kd.at_string HR0_2.out x7_4 p159 q159
                cases e159
                replace hx159_0 := (HB.out.cell (World.block_lt_of_cell? w _ hx159_0)).trans hx159_0
                replace p159 := eq_true p159
                replace q159 := eq_true q159
                have hcz55_0 : wr.cell? ⟨gb154, 0, none⟩ = some (.slice A1_0 l1_0.length c1_0) := (blk_cell BK154.out 0).trans rfl
                have hcz55_1 : wr.cell? ⟨gb154, 1, none⟩ = some (.slice A1_1 l1_1.length c1_1) := (blk_cell BK154.out 1).trans rfl
                have hcz55_2 : wr.cell? ⟨gb154, 2, none⟩ = some (.slice A1_2 l1_2.length c1_2) := (blk_cell BK154.out 2).trans rfl
                have hcz55_3 : wr.cell? ⟨gb154, 3, none⟩ = some (.slice A1_3 l1_3.length c1_3) := (blk_cell BK154.out 3).trans rfl
                have hfz55_0 := blk_frozen BK154.out 0
                have hfz55_1 := blk_frozen BK154.out 1
                have hfz55_2 := blk_frozen BK154.out 2
                have hfz55_3 := blk_frozen BK154.out 3
                have p160 : 0 ≤ (x7_4 : Int) := of_decide_eq_true (by first | (with_reducible assumption) | assumption)
                have q160 : x7_4 < (l1_2.length : Int) := of_decide_eq_true (by first | (with_reducible assumption) | assumption)
                obtain ⟨ad160, e160, hx160_0⟩ := Kd.at_string HR1_2.out x7_4 p160 q160
                cases e160
                replace hx160_0 := (HB.out.cell (World.block_lt_of_cell? w _ hx160_0)).trans hx160_0
                replace p160 := eq_true p160
                replace q160 := eq_true q160
                go_wp2
                repeat (go_quiet (fail); try go_wp2)
                go_ret
                exact ⟨by first | rfl | (simp [errW_none, errW_some] <;> rfl) | (simp [*, errW_none, errW_some] <;> rfl), by repeat (first | (with_reducible first | exact HB.out | apply below_alloc | apply pw_below_drewN | apply below_drew1 | refine below_set ?_ GE153.out | refine below_set ?_ GE154.out) | exact HB.out)⟩
              ·rw [if_neg c48] at H
               exact absurd H (by simp)
             ·rw [if_neg c47] at H
              exact absurd H (by simp)
            ·rw [if_neg c46] at H
             have c46b0 : decide (x7_4 < (l0_2.length : Int)) = false := decide_eq_false c46
             clear c46
             have H' := Aside0.mk H
             clear H
             have hnb56 := NB153_154.out
             have hnc56 := NB154_153.out
             have hcz57_0 : wr.cell? ⟨gb153, 0, none⟩ = some (.slice A0_0 l0_0.length c0_0) := (blk_cell BK153.out 0).trans rfl
             have hcz57_1 : wr.cell? ⟨gb153, 1, none⟩ = some (.slice A0_1 l0_1.length c0_1) := (blk_cell BK153.out 1).trans rfl
             have hcz57_2 : wr.cell? ⟨gb153, 2, none⟩ = some (.slice A0_2 l0_2.length c0_2) := (blk_cell BK153.out 2).trans rfl
             have hcz57_3 : wr.cell? ⟨gb153, 3, none⟩ = some (.slice A0_3 l0_3.length c0_3) := (blk_cell BK153.out 3).trans rfl
             have hfz57_0 := blk_frozen BK153.out 0
             have hfz57_1 := blk_frozen BK153.out 1
             have hfz57_2 := blk_frozen BK153.out 2
             have hfz57_3 := blk_frozen BK153.out 3
             go_wp2
             repeat (go_quiet (fail); try go_wp2)
             go_loopg [8] k4 (fun kq v8 w' => ∃ (x8_5 : Int), v8 = .int .i64 x8_5 ∧ Aside0 (isthmusref18_Same.l3 kq x8_5 l0_0 l0_1 l0_2 l0_3 l1_0 l1_1 l1_2 l1_3 = some r) ∧ Aside0 (kq ≤ k4) ∧ Aside0 (w'.heap[gb153]? = some (.cells #[(.slice A0_0 l0_0.length c0_0), (.slice A0_1 l0_1.length c0_1), (.slice A0_2 l0_2.length c0_2), (.slice A0_3 l0_3.length c0_3)] 26 (0, 0))) ∧ Aside0 (w'.heap[gb154]? = some (.cells #[(.slice A1_0 l1_0.length c1_0), (.slice A1_1 l1_1.length c1_1), (.slice A1_2 l1_2.length c1_2), (.slice A1_3 l1_3.length c1_3)] 26 (0, 0))) ∧ Aside0 (Below w.heap.size w w'))
             case atStart => exact ⟨(0), (by first | rfl | (simp; done) | (simp [*]; done)), H', ⟨Nat.le_refl _⟩, ⟨by (with_reducible repeat (first | refine blk_drewN ?_ _ | refine blk_drew ?_ | refine blk_alloc ?_ _)); exact BK153.out⟩, ⟨by (with_reducible repeat (first | refine blk_drewN ?_ _ | refine blk_drew ?_ | refine blk_alloc ?_ _)); exact BK154.out⟩, ⟨by repeat (first | (with_reducible first | exact HB.out | apply below_alloc | apply pw_below_drewN | apply below_drew1 | refine below_set ?_ GE153.out | refine below_set ?_ GE154.out) | exact HB.out)⟩⟩
             case round =>
              clear H'
              try clear c1
              try clear p1
              try clear q1
              try clear hx1
              try clear c2
              try clear p2
              try clear c3
              try clear c4
              try clear c5
              try clear c6
              try clear c6b0
              try clear c6b1
              try clear c6b2
              try clear p6
              try clear c7
              try clear c7b0
              try clear c7b1
              try clear c7b2
              try clear c8
              try clear c8b0
              try clear c8b1
              try clear c8b2
              try clear c9
              try clear c12
              try clear c15
              try clear p15
              try clear q15
              try clear hx15
              try clear p16
              try clear q16
              try clear hx16
              try clear c18
              try clear c21
              try clear c22
              try clear c22b0
              try clear c23
              try clear c23b0
              try clear c24
              try clear c24b0
              try clear c25
              try clear c25b0
              try clear c25b1
              try clear c26
              try clear c29
              try clear c32
              try clear c34
              try clear c34b0
              try clear c35
              try clear c35b0
              try clear c36
              try clear c36b0
              try clear c37
              try clear c37b0
              try clear c37b1
              try clear c38
              try clear c41
              try clear c44
              try clear c46
              try clear c46b0
              try clear c47
              try clear c47b0
              try clear c48
              try clear c48b0
              try clear c49
              try clear c49b0
              try clear c49b1
              try clear c50
              try clear c53
              try clear c56
              try clear hcz10_0
              try clear hcz10_1
              try clear hcz10_2
              try clear hcz10_3
              try clear hcz11_0
              try clear hcz11_1
              try clear hcz11_2
              try clear hcz11_3
              try clear hcz13_0
              try clear hcz13_1
              try clear hcz13_2
              try clear hcz13_3
              try clear hcz14_0
              try clear hcz14_1
              try clear hcz14_2
              try clear hcz14_3
              try clear hcz16_0
              try clear hcz16_1
              try clear hcz16_2
              try clear hcz16_3
              try clear hcz17_0
              try clear hcz17_1
              try clear hcz17_2
              try clear hcz17_3
              try clear hcz19_0
              try clear hcz19_1
              try clear hcz19_2
              try clear hcz19_3
              try clear hcz20_0
              try clear hcz20_1
              try clear hcz20_2
              try clear hcz20_3
              try clear hcz27_0
              try clear hcz27_1
              try clear hcz27_2
              try clear hcz27_3
              try clear hcz28_0
              try clear hcz28_1
              try clear hcz28_2
              try clear hcz28_3
              try clear hcz30_0
              try clear hcz30_1
              try clear hcz30_2
              try clear hcz30_3
              try clear hcz31_0
              try clear hcz31_1
              try clear hcz31_2
              try clear hcz31_3
              try clear hcz33_0
              try clear hcz33_1
              try clear hcz33_2
              try clear hcz33_3
              try clear hcz39_0
              try clear hcz39_1
              try clear hcz39_2
              try clear hcz39_3
              try clear hcz40_0
              try clear hcz40_1
              try clear hcz40_2
              try clear hcz40_3
              try clear hcz42_0
              try clear hcz42_1
              try clear hcz42_2
              try clear hcz42_3
              try clear hcz43_0
              try clear hcz43_1
              try clear hcz43_2
              try clear hcz43_3
              try clear hcz45_0
              try clear hcz45_1
              try clear hcz45_2
              try clear hcz45_3
              try clear hcz51_0
              try clear hcz51_1
              try clear hcz51_2
              try clear hcz51_3
              try clear hcz52_0
              try clear hcz52_1
              try clear hcz52_2
              try clear hcz52_3
              try clear hcz54_0
              try clear hcz54_1
              try clear hcz54_2
              try clear hcz54_3
              try clear hcz55_0
              try clear hcz55_1
              try clear hcz55_2
              try clear hcz55_3
              try clear hcz57_0
              try clear hcz57_1
              try clear hcz57_2
              try clear hcz57_3
              try clear hfz10_0
              try clear hfz10_1
              try clear hfz10_2
              try clear hfz10_3
              try clear hfz11_0
              try clear hfz11_1
              try clear hfz11_2
              try clear hfz11_3
              try clear hfz13_0
              try clear hfz13_1
              try clear hfz13_2
              try clear hfz13_3
              try clear hfz14_0
              try clear hfz14_1
              try clear hfz14_2
              try clear hfz14_3
              try clear hfz16_0
              try clear hfz16_1
              try clear hfz16_2
              try clear hfz16_3
              try clear hfz17_0
              try clear hfz17_1
              try clear hfz17_2
              try clear hfz17_3
              try clear hfz19_0
              try clear hfz19_1
              try clear hfz19_2
              try clear hfz19_3
              try clear hfz20_0
              try clear hfz20_1
              try clear hfz20_2
              try clear hfz20_3
              try clear hfz27_0
              try clear hfz27_1
              try clear hfz27_2
              try clear hfz27_3
              try clear hfz28_0
              try clear hfz28_1
              try clear hfz28_2
              try clear hfz28_3
              try clear hfz30_0
              try clear hfz30_1
              try clear hfz30_2
              try clear hfz30_3
              try clear hfz31_0
              try clear hfz31_1
              try clear hfz31_2
              try clear hfz31_3
              try clear hfz33_0
              try clear hfz33_1
              try clear hfz33_2
              try clear hfz33_3
              try clear hfz39_0
              try clear hfz39_1
              try clear hfz39_2
              try clear hfz39_3
              try clear hfz40_0
              try clear hfz40_1
              try clear hfz40_2
              try clear hfz40_3
              try clear hfz42_0
              try clear hfz42_1
              try clear hfz42_2
              try clear hfz42_3
              try clear hfz43_0
              try clear hfz43_1
              try clear hfz43_2
              try clear hfz43_3
              try clear hfz45_0
              try clear hfz45_1
              try clear hfz45_2
              try clear hfz45_3
              try clear hfz51_0
              try clear hfz51_1
              try clear hfz51_2
              try clear hfz51_3
              try clear hfz52_0
              try clear hfz52_1
              try clear hfz52_2
              try clear hfz52_3
              try clear hfz54_0
              try clear hfz54_1
              try clear hfz54_2
              try clear hfz54_3
              try clear hfz55_0
              try clear hfz55_1
              try clear hfz55_2
              try clear hfz55_3
              try clear hfz57_0
              try clear hfz57_1
              try clear hfz57_2
              try clear hfz57_3
              try clear hx155_0
              try clear hx156_0
              try clear hx157_0
              try clear hx158_0
              try clear hx159_0
              try clear hx160_0
              try clear p1
              try clear p15
              try clear p155
              try clear p156
              try clear p157
              try clear p158
              try clear p159
              try clear p160
              try clear p2
              try clear p6
              try clear q1
              try clear q15
              try clear q155
              try clear q156
              try clear q157
              try clear q158
              try clear q159
              try clear q160
              obtain ⟨x8_5, rfl, HA, HK5, BK153, BK154, HB⟩ := hrel
              cases gk with
              | zero => exact absurd HA.out (by simp [isthmusref18_Same.l3])
              | succ k5 =>
               have H := HA.out
               clear HA
               simp only [isthmusref18_Same.l3] at H
               by_cases c58 : x8_5 < (l0_3.length : Int)
               ·rw [if_pos c58] at H
                have c58b0 : decide (x8_5 < (l0_3.length : Int)) = true := decide_eq_true c58
                clear c58
                by_cases c59 : 0 ≤ x8_5
                ·rw [if_pos c59] at H
                 have c59b0 : decide (0 ≤ x8_5) = true := decide_eq_true c59
                 clear c59
                 by_cases c60 : x8_5 < (l1_3.length : Int)
                 ·rw [if_pos c60] at H
                  have c60b0 : decide (x8_5 < (l1_3.length : Int)) = true := decide_eq_true c60
                  clear c60
                  by_cases c61 : (rd l0_3 x8_5) = (rd l1_3 x8_5)
                  ·rw [if_pos c61] at H
                   have c61b0 : ((rd l0_3 x8_5) == (rd l1_3 x8_5)) = true := beq_iff_eq.mpr c61
                   have c61b1 : ((rd l0_3 x8_5) != (rd l1_3 x8_5)) = false := bne_eq_false_iff_eq.mpr c61
                   clear c61
                   have H' := Aside0.mk H
                   clear H
                   have hnb62 := NB153_154.out
                   have hnc62 := NB154_153.out
                   have hcz63_0 : wr.cell? ⟨gb153, 0, none⟩ = some (.slice A0_0 l0_0.length c0_0) := (blk_cell BK153.out 0).trans rfl
                   have hcz63_1 : wr.cell? ⟨gb153, 1, none⟩ = some (.slice A0_1 l0_1.length c0_1) := (blk_cell BK153.out 1).trans rfl
                   have hcz63_2 : wr.cell? ⟨gb153, 2, none⟩ = some (.slice A0_2 l0_2.length c0_2) := (blk_cell BK153.out 2).trans rfl
                   have hcz63_3 : wr.cell? ⟨gb153, 3, none⟩ = some (.slice A0_3 l0_3.length c0_3) := (blk_cell BK153.out 3).trans rfl
                   have hfz63_0 := blk_frozen BK153.out 0
                   have hfz63_1 := blk_frozen BK153.out 1
                   have hfz63_2 := blk_frozen BK153.out 2
                   have hfz63_3 := blk_frozen BK153.out 3
                   have p161 : 0 ≤ (x8_5 : Int) := of_decide_eq_true (by first | (with_reducible assumption) | assumption)
                   have q161 : x8_5 < (l0_3.length : Int) := of_decide_eq_true (by first | (with_reducible assumption) | assumption)
                   obtain ⟨ad161, e161, hx161_0⟩ := Kd.at_int HR0_3.out x8_5 p161 q161
                   cases e161
                   replace hx161_0 := (HB.out.cell (World.block_lt_of_cell? w _ hx161_0)).trans hx161_0
                   replace p161 := eq_true p161
                   replace q161 := eq_true q161
                   have hcz64_0 : wr.cell? ⟨gb154, 0, none⟩ = some (.slice A1_0 l1_0.length c1_0) := (blk_cell BK154.out 0).trans rfl
                   have hcz64_1 : wr.cell? ⟨gb154, 1, none⟩ = some (.slice A1_1 l1_1.length c1_1) := (blk_cell BK154.out 1).trans rfl
                   have hcz64_2 : wr.cell? ⟨gb154, 2, none⟩ = some (.slice A1_2 l1_2.length c1_2) := (blk_cell BK154.out 2).trans rfl
                   have hcz64_3 : wr.cell? ⟨gb154, 3, none⟩ = some (.slice A1_3 l1_3.length c1_3) := (blk_cell BK154.out 3).trans rfl
                   have hfz64_0 := blk_frozen BK154.out 0
                   have hfz64_1 := blk_frozen BK154.out 1
                   have hfz64_2 := blk_frozen BK154.out 2
                   have hfz64_3 := blk_frozen BK154.out 3
                   have p162 : 0 ≤ (x8_5 : Int) := of_decide_eq_true (by first | (with_reducible assumption) | assumption)
                   have q162 : x8_5 < (l1_3.length : Int) := of_decide_eq_true (by first | (with_reducible assumption) | assumption)
                   obtain ⟨ad162, e162, hx162_0⟩ := Kd.at_int HR1_3.out x8_5 p162 q162
                   cases e162
                   replace hx162_0 := (HB.out.cell (World.block_lt_of_cell? w _ hx162_0)).trans hx162_0
                   replace p162 := eq_true p162
                   replace q162 := eq_true q162
                   go_wp2
                   repeat (go_quiet (fail); try go_wp2)
                   go_roundg k5
                   case measure => have := HJ2.out; have := HK2.out; have := HK3.out; have := HK4.out; have := HK5.out; omega
                   case rel => exact ⟨(wrap64 (x8_5 + 1)), (by first | rfl | (simp; done) | (simp [*]; done)), H', ⟨by have := HJ2.out; have := HK2.out; have := HK3.out; have := HK4.out; have := HK5.out; omega⟩, ⟨by (with_reducible repeat (first | refine blk_drewN ?_ _ | refine blk_drew ?_ | refine blk_alloc ?_ _)); exact BK153.out⟩, ⟨by (with_reducible repeat (first | refine blk_drewN ?_ _ | refine blk_drew ?_ | refine blk_alloc ?_ _)); exact BK154.out⟩, ⟨by repeat (first | (with_reducible first | exact HB.out | apply below_alloc | apply pw_below_drewN | apply below_drew1 | refine below_set ?_ GE153.out | refine below_set ?_ GE154.out) | exact HB.out)⟩⟩
                  ·rw [if_neg c61] at H
                   have c61b0 : ((rd l0_3 x8_5) == (rd l1_3 x8_5)) = false := beq_eq_false_iff_ne.mpr c61
                   have c61b1 : ((rd l0_3 x8_5) != (rd l1_3 x8_5)) = true := bne_iff_ne.mpr c61
                   obtain rfl := Option.some.inj H
                   have hnb65 := NB153_154.out
                   have hnc65 := NB154_153.out
                   have hcz66_0 : wr.cell? ⟨gb153, 0, none⟩ = some (.slice A0_0 l0_0.length c0_0) := (blk_cell BK153.out 0).trans rfl
                   have hcz66_1 : wr.cell? ⟨gb153, 1, none⟩ = some (.slice A0_1 l0_1.length c0_1) := (blk_cell BK153.out 1).trans rfl
                   have hcz66_2 : wr.cell? ⟨gb153, 2, none⟩ = some (.slice A0_2 l0_2.length c0_2) := (blk_cell BK153.out 2).trans rfl
                   have hcz66_3 : wr.cell? ⟨gb153, 3, none⟩ = some (.slice A0_3 l0_3.length c0_3) := (blk_cell BK153.out 3).trans rfl
                   have hfz66_0 := blk_frozen BK153.out 0
                   have hfz66_1 := blk_frozen BK153.out 1
                   have hfz66_2 := blk_frozen BK153.out 2
                   have hfz66_3 := blk_frozen BK153.out 3
                   have p161 : 0 ≤ (x8_5 : Int) := of_decide_eq_true (by first | (with_reducible assumption) | assumption)
                   have q161 : x8_5 < (l0_3.length : Int) := of_decide_eq_true (by first | (with_reducible assumption) | assumption)
                   obtain ⟨ad161, e161, hx161_0⟩ := Kd.at_int HR0_3.out x8_5 p161 q161
                   cases e161
                   replace hx161_0 := (HB.out.cell (World.block_lt_of_cell? w _ hx161_0)).trans hx161_0
                   replace p161 := eq_true p161
                   replace q161 := eq_true q161
                   have hcz67_0 : wr.cell? ⟨gb154, 0, none⟩ = some (.slice A1_0 l1_0.length c1_0) := (blk_cell BK154.out 0).trans rfl
                   have hcz67_1 : wr.cell? ⟨gb154, 1, none⟩ = some (.slice A1_1 l1_1.length c1_1) := (blk_cell BK154.out 1).trans rfl
                   have hcz67_2 : wr.cell? ⟨gb154, 2, none⟩ = some (.slice A1_2 l1_2.length c1_2) := (blk_cell BK154.out 2).trans rfl
                   have hcz67_3 : wr.cell? ⟨gb154, 3, none⟩ = some (.slice A1_3 l1_3.length c1_3) := (blk_cell BK154.out 3).trans rfl
                   have hfz67_0 := blk_frozen BK154.out 0
                   have hfz67_1 := blk_frozen BK154.out 1
                   have hfz67_2 := blk_frozen BK154.out 2
                   have hfz67_3 := blk_frozen BK154.out 3
                   have p162 : 0 ≤ (x8_5 : Int) := of_decide_eq_true (by first | (with_reducible assumption) | assumption)
                   have q162 : x8_5 < (l1_3.length : Int) := of_decide_eq_true (by first | (with_reducible assumption) | assumption)
                   obtain ⟨ad162, e162, hx162_0⟩ := Kd.at_int HR1_3.out x8_5 p162 q162
                   cases e162
                   replace hx162_0 := (HB.out.cell (World.block_lt_of_cell? w _ hx162_0)).trans hx162_0
                   replace p162 := eq_true p162
                   replace q162 := eq_true q162
                   go_wp2
                   repeat (go_quiet (fail); try go_wp2)
                   go_ret
                   exact ⟨by first | rfl | (simp [errW_none, errW_some] <;> rfl) | (simp [*, errW_none, errW_some] <;> rfl), by repeat (first | (with_reducible first | exact HB.out | apply below_alloc | apply pw_below_drewN | apply below_drew1 | refine below_set ?_ GE153.out | refine below_set ?_ GE154.out) | exact HB.out)⟩
                 ·rw [if_neg c60] at H
                  exact absurd H (by simp)
                ·rw [if_neg c59] at H
                 exact absurd H (by simp)
               ·rw [if_neg c58] at H
                have c58b0 : decide (x8_5 < (l0_3.length : Int)) = false := decide_eq_false c58
                clear c58
                obtain rfl := Option.some.inj H
                have hnb68 := NB153_154.out
                have hnc68 := NB154_153.out
                have hcz69_0 : wr.cell? ⟨gb153, 0, none⟩ = some (.slice A0_0 l0_0.length c0_0) := (blk_cell BK153.out 0).trans rfl
                have hcz69_1 : wr.cell? ⟨gb153, 1, none⟩ = some (.slice A0_1 l0_1.length c0_1) := (blk_cell BK153.out 1).trans rfl
                have hcz69_2 : wr.cell? ⟨gb153, 2, none⟩ = some (.slice A0_2 l0_2.length c0_2) := (blk_cell BK153.out 2).trans rfl
                have hcz69_3 : wr.cell? ⟨gb153, 3, none⟩ = some (.slice A0_3 l0_3.length c0_3) := (blk_cell BK153.out 3).trans rfl
                have hfz69_0 := blk_frozen BK153.out 0
                have hfz69_1 := blk_frozen BK153.out 1
                have hfz69_2 := blk_frozen BK153.out 2
                have hfz69_3 := blk_frozen BK153.out 3
                go_wp2
                repeat (go_quiet (fail); try go_wp2)
                go_ret
                exact ⟨by first | rfl | (simp [errW_none, errW_some] <;> rfl) | (simp [*, errW_none, errW_some] <;> rfl), by repeat (first | (with_reducible first | exact HB.out | apply below_alloc | apply pw_below_drewN | apply below_drew1 | refine below_set ?_ GE153.out | refine below_set ?_ GE154.out) | exact HB.out)⟩
end Go.Proofs.YtnlimplbmncdeaaDoor.C
