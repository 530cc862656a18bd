/- The laws CodeRights, CodeWords, CodeReads, CodeTurned of the program hold, as their cards say: texts put together by a program, 38 of 44. -/
import Derived.Test.YtnlimplbmncdeaaDoorPA13
namespace Go.Proofs.YtnlimplbmncdeaaDoor.C
open Go.RowKit Go.Proofs.YtnlimplbmncdeaaDoorW.PrintWords Go.Proofs.YtnlimplbmncdeaaDoorW.PrintLast Go.Proofs.YtnlimplbmncdeaaDoorW.PrintMore
attribute [local go_sem] max2_int min2_int max_two min_two max_three min_three max_four min_four
set_option linter.unusedVariables false
set_option linter.unusedSimpArgs false
mutual
def isthmuslaw18_Over.l0 : Nat → Int → List Int → List Int → List ByteArray → List Int → Option (Unit)
 | 0, _, _, _, _, _ => none
 | k + 1, x2, x323000, x323001, x323002, x323003 => if x2 < (x323000.length : Int) then (if 0 ≤ x2 then (isthmuslaw18_Over.l0 k (wrap64 (x2 + 1)) (x323000.set (x2 : Int).toNat 9) x323001 x323002 x323003) else (none)) else (isthmuslaw18_Over.l1 k 0 x323000 x323001 x323002 x323003)
def isthmuslaw18_Over.l1 : Nat → Int → List Int → List Int → List ByteArray → List Int → Option (Unit)
 | 0, _, _, _, _, _ => none
 | k + 1, x3, x323000, x323001, x323002, x323003 => if x3 < (x323001.length : Int) then (if 0 ≤ x3 then (isthmuslaw18_Over.l1 k (wrap64 (x3 + 1)) x323000 (x323001.set (x3 : Int).toNat (-9)) x323002 x323003) else (none)) else (isthmuslaw18_Over.l2 k 0 x323000 x323001 x323002 x323003)
def isthmuslaw18_Over.l2 : Nat → Int → List Int → List Int → List ByteArray → List Int → Option (Unit)
 | 0, _, _, _, _, _ => none
 | k + 1, x4, x323000, x323001, x323002, x323003 => if x4 < (x323002.length : Int) then (if 0 ≤ x4 then (isthmuslaw18_Over.l2 k (wrap64 (x4 + 1)) x323000 x323001 (x323002.set (x4 : Int).toNat (⟨#[111, 118, 101, 114]⟩ : ByteArray)) x323003) else (none)) else (isthmuslaw18_Over.l3 k 0 x323000 x323001 x323002 x323003)
def isthmuslaw18_Over.l3 : Nat → Int → List Int → List Int → List ByteArray → List Int → Option (Unit)
 | 0, _, _, _, _, _ => none
 | k + 1, x5, x323000, x323001, x323002, x323003 => if x5 < (x323003.length : Int) then (if 0 ≤ x5 then (isthmuslaw18_Over.l3 k (wrap64 (x5 + 1)) x323000 x323001 x323002 (x323003.set (x5 : Int).toNat (-9))) else (none)) else (if x323000.length < 17592186044416 then ((some (x323000 ++ [8] : List Int)).bind fun y327 => (if x323001.length < 17592186044416 then ((some (x323001 ++ [8] : List Int)).bind fun y330 => (if x323002.length < 8796093022208 then ((some (x323002 ++ [(⟨#[109, 111, 114, 101]⟩ : ByteArray)] : List ByteArray)).bind fun y333 => (if x323003.length < 17592186044416 then ((some (x323003 ++ [8] : List Int)).bind fun y336 => (if 0 ≤ (wrap64 ((y327.length : Int) - 1)) then (if (wrap64 ((y327.length : Int) - 1)) < (y327.length : Int) then (if 0 ≤ (wrap64 ((y330.length : Int) - 1)) then (if (wrap64 ((y330.length : Int) - 1)) < (y330.length : Int) then (if 0 ≤ (wrap64 ((y333.length : Int) - 1)) then (if (wrap64 ((y333.length : Int) - 1)) < (y333.length : Int) then (if 0 ≤ (wrap64 ((y336.length : Int) - 1)) then (if (wrap64 ((y336.length : Int) - 1)) < (y336.length : Int) then (some ()) else (none)) else (none)) else (none)) else (none)) else (none)) else (none)) else (none)) else (none))) else (none))) else (none))) else (none))) else (none))
end
def isthmuslaw18_Over.f (k : Nat) (l0_0 : List Int) (l0_1 : List Int) (l0_2 : List ByteArray) (l0_3 : List Int) : Option (Unit) := isthmuslaw18_Over.l0 k 0 l0_0 l0_1 l0_2 l0_3
set_option maxHeartbeats 8000000 in
set_option maxRecDepth 100000 in
theorem isthmuslaw18_Over.calls (k : Nat) (P0_0_ : Nat → Prop) (u9000_ : Value) (l0_0 : List Int) (P0_1_ : Nat → Prop) (u9001_ : Value) (l0_1 : List Int) (P0_2_ : Nat → Prop) (u9002_ : Value) (l0_2 : List ByteArray) (P0_3_ : Nat → Prop) (u9003_ : Value) (l0_3 : List Int) (w0 w : World) (hB : Below w0.heap.size w0 w) (ho0_0 : Kd.R (Kd.int .u64) 33 w w0.heap.size P0_0_ u9000_ l0_0) (ho0_1 : Kd.R (Kd.int .i64) 3 w w0.heap.size P0_1_ u9001_ l0_1) (hp0_1_0_3 : ∀ k_, P0_1_ k_ → ¬ P0_3_ k_) (ho0_2 : Kd.R Kd.string 9 w w0.heap.size P0_2_ u9002_ l0_2) (ho0_3 : Kd.R (Kd.int .i64) 3 w w0.heap.size P0_3_ u9003_ l0_3) (hp0_3_0_1 : ∀ k_, P0_3_ k_ → ¬ P0_1_ k_) (h : isthmuslaw18_Over.f k l0_0 l0_1 l0_2 l0_3 = some ()) :
  Calls Tryd.prog 24 #[.agg #[u9000_, u9001_, u9002_, u9003_]] w fun e w' => e = .returned (.tuple #[]) ∧ Below w0.heap.size w0 w' ∧ Kept w w' (fun k_ => P0_0_ k_ ∨ P0_1_ k_ ∨ P0_2_ k_ ∨ P0_3_ k_) := by
 have hu26 := Tryd.underlying26
 have HO0_0 := Aside0.mk (show Kd.R (Kd.int .u64) 33 w w0.heap.size (fun k_ => ((P0_0_ k_ ∨ P0_1_ k_ ∨ P0_2_ k_ ∨ P0_3_ k_) ∨ w.heap.size ≤ k_)) u9000_ l0_0 from Kd.R_mono ho0_0 (fun k_ hk => (.inl (.inl hk))))
 have HO0_1 := Aside0.mk (show Kd.R (Kd.int .i64) 3 w w0.heap.size (fun k_ => ((P0_0_ k_ ∨ P0_1_ k_ ∨ P0_2_ k_ ∨ P0_3_ k_) ∨ w.heap.size ≤ k_) ∧ some k_ ≠ (u9003_ : Value).ownBlock) u9001_ l0_1 from Kd.R_mono ho0_1 (fun k_ hk => ⟨(.inl (.inr (.inl hk))), fun e_ => hp0_1_0_3 k_ hk (ho0_3.1 k_ e_.symm)⟩))
 have HO0_2 := Aside0.mk (show Kd.R Kd.string 9 w w0.heap.size (fun k_ => ((P0_0_ k_ ∨ P0_1_ k_ ∨ P0_2_ k_ ∨ P0_3_ k_) ∨ w.heap.size ≤ k_)) u9002_ l0_2 from Kd.R_mono ho0_2 (fun k_ hk => (.inl (.inr (.inr (.inl hk))))))
 have HO0_3 := Aside0.mk (show Kd.R (Kd.int .i64) 3 w w0.heap.size (fun k_ => ((P0_0_ k_ ∨ P0_1_ k_ ∨ P0_2_ k_ ∨ P0_3_ k_) ∨ w.heap.size ≤ k_) ∧ some k_ ≠ (u9001_ : Value).ownBlock) u9003_ l0_3 from Kd.R_mono ho0_3 (fun k_ hk => ⟨(.inl (.inr (.inr (.inr hk)))), fun e_ => hp0_3_0_1 k_ hk (ho0_1.1 k_ e_.symm)⟩))
 have HK := Aside0.mk (Kept.refl w (fun k_ => P0_0_ k_ ∨ P0_1_ k_ ∨ P0_2_ k_ ∨ P0_3_ k_))
 have HW0 := Aside0.mk hB.size
 have HB := Aside0.mk hB
 clear hB
 have H : (isthmuslaw18_Over.l0 k 0 l0_0 l0_1 l0_2 l0_3) = some () := h
 clear h
 have H' := Aside0.mk H
 clear H
 obtain ⟨Ao2, co2, eo2⟩ := Kd.R_slice HO0_0.out
 subst eo2
 obtain ⟨Ao3, co3, eo3⟩ := Kd.R_slice HO0_1.out
 subst eo3
 obtain ⟨Ao4, co4, eo4⟩ := Kd.R_slice HO0_2.out
 subst eo4
 obtain ⟨Ao5, co5, eo5⟩ := Kd.R_slice HO0_3.out
 subst eo5
 go_enter Tryd.func24, Tryd.ntmps24
 go_wp2_with (first | ((with_reducible refine gate_dst (N := 1) rfl ?_); refine box_event ?hg (N := 1) ?hd (cs := #[.slice Ao2 l0_0.length co2, .slice Ao3 l0_1.length co3, .slice Ao4 l0_2.length co4, .slice Ao5 l0_3.length co5]) (t := 26) ?hr ?_; (case hd => rfl); (case hg => rfl); (case hr => first | (go_simp; done) | (go_simp; rfl)); intro gb322 hg w6 hbox hb; have n0_ := Aside0.mk (Kd.R_below (by (with_reducible repeat (first | apply Kd.R_alloc | apply Kd.R_drewN | apply Kd.R_drew)); exact HO0_0.out) hb); have n1_ := Aside0.mk (Kd.R_below (by (with_reducible repeat (first | apply Kd.R_alloc | apply Kd.R_drewN | apply Kd.R_drew)); exact HO0_1.out) hb); have n2_ := Aside0.mk (Kd.R_below (by (with_reducible repeat (first | apply Kd.R_alloc | apply Kd.R_drewN | apply Kd.R_drew)); exact HO0_2.out) hb); have n3_ := Aside0.mk (Kd.R_below (by (with_reducible repeat (first | apply Kd.R_alloc | apply Kd.R_drewN | apply Kd.R_drew)); exact HO0_3.out) hb); have n4_ := Aside0.mk (Kept.below (S := (fun k_ => P0_0_ k_ ∨ P0_1_ k_ ∨ P0_2_ k_ ∨ P0_3_ k_)) (by repeat (first | (with_reducible first | exact HK.out | apply Kept.alloc | apply Kept.drewN | apply Kept.drew) | exact HK.out)) hb); have n5_ := Aside0.mk (below_step (by repeat (first | (with_reducible first | exact HB.out | apply below_alloc | apply pw_below_drewN | apply below_drew1) | exact HB.out)) hb); have n6_ := Aside0.mk (hbox); have n7_ := Aside0.mk ((by rw [hg]; exact (by first | exact HK.out.1 | exact (show Kept w _ (fun k_ => P0_0_ k_ ∨ P0_1_ k_ ∨ P0_2_ k_ ∨ P0_3_ k_) from by repeat (first | (with_reducible first | exact HK.out | apply Kept.alloc | apply Kept.drewN | apply Kept.drew) | exact HK.out)).1) : w.heap.size ≤ gb322)); have n8_ := Aside0.mk ((by rw [hg]; exact (below_size (by repeat (first | (with_reducible first | exact HB.out | apply below_alloc | apply pw_below_drewN | apply below_drew1) | exact HB.out))) : w0.heap.size ≤ gb322)); clear HO0_0; clear HO0_1; clear HO0_2; clear HO0_3; clear HK; clear HB; have HO0_0 := n0_; have HO0_1 := n1_; have HO0_2 := n2_; have HO0_3 := n3_; have HK := n4_; have HB := n5_; have BK322 := n6_; have GW322 := n7_; have GE322 := n8_; clear n0_ n1_ n2_ n3_ n4_ n5_ n6_ n7_ n8_; clear hb hbox hg))
 go_loopg [2] k (fun kq v2 w' => ∃ (x2_1 : Int) (x323000_1 : List Int) (u323000 : Value), v2 = .int .i64 x2_1 ∧ Aside0 (isthmuslaw18_Over.l0 kq x2_1 x323000_1 l0_1 l0_2 l0_3 = some ()) ∧ Aside0 (kq ≤ k) ∧ Aside0 (Kd.R (Kd.int .u64) 33 w' w0.heap.size (fun k_ => ((P0_0_ k_ ∨ P0_1_ k_ ∨ P0_2_ k_ ∨ P0_3_ k_) ∨ w.heap.size ≤ k_)) u323000 x323000_1) ∧ Aside0 (Kd.R (Kd.int .i64) 3 w' w0.heap.size (fun k_ => ((P0_0_ k_ ∨ P0_1_ k_ ∨ P0_2_ k_ ∨ P0_3_ k_) ∨ w.heap.size ≤ k_) ∧ some k_ ≠ ((.slice Ao5 l0_3.length co5) : Value).ownBlock) (.slice Ao3 l0_1.length co3) l0_1) ∧ Aside0 (Kd.R Kd.string 9 w' w0.heap.size (fun k_ => ((P0_0_ k_ ∨ P0_1_ k_ ∨ P0_2_ k_ ∨ P0_3_ k_) ∨ w.heap.size ≤ k_)) (.slice Ao4 l0_2.length co4) l0_2) ∧ Aside0 (Kd.R (Kd.int .i64) 3 w' w0.heap.size (fun k_ => ((P0_0_ k_ ∨ P0_1_ k_ ∨ P0_2_ k_ ∨ P0_3_ k_) ∨ w.heap.size ≤ k_) ∧ some k_ ≠ ((.slice Ao3 l0_1.length co3) : Value).ownBlock) (.slice Ao5 l0_3.length co5) l0_3) ∧ Aside0 (w'.heap[gb322]? = some (.cells #[u323000, (.slice Ao3 l0_1.length co3), (.slice Ao4 l0_2.length co4), (.slice Ao5 l0_3.length co5)] 26 (0, 0))) ∧ Aside0 (Kept w w' (fun k_ => P0_0_ k_ ∨ P0_1_ k_ ∨ P0_2_ k_ ∨ P0_3_ k_)) ∧ Aside0 (Below w0.heap.size w0 w'))
 case atStart => exact ⟨(0), (l0_0), (.slice Ao2 l0_0.length co2), (by first | rfl | (simp; done) | (simp [*]; done)), H', ⟨Nat.le_refl _⟩, ⟨by (with_reducible repeat (first | apply Kd.R_alloc | apply Kd.R_drewN | apply Kd.R_drew)); exact HO0_0.out⟩, ⟨by (with_reducible repeat (first | apply Kd.R_alloc | apply Kd.R_drewN | apply Kd.R_drew)); exact HO0_1.out⟩, ⟨by (with_reducible repeat (first | apply Kd.R_alloc | apply Kd.R_drewN | apply Kd.R_drew)); exact HO0_2.out⟩, ⟨by (with_reducible repeat (first | apply Kd.R_alloc | apply Kd.R_drewN | apply Kd.R_drew)); exact HO0_3.out⟩, ⟨by (with_reducible repeat (first | refine blk_drewN ?_ _ | refine blk_drew ?_ | refine blk_alloc ?_ _)); exact BK322.out⟩, ⟨by repeat (first | (with_reducible first | exact HK.out | apply Kept.alloc | apply Kept.drewN | apply Kept.drew | refine Kept.setCell ?_ (.inr GW322.out) _) | exact HK.out)⟩, ⟨by repeat (first | (with_reducible first | exact HB.out | apply below_alloc | apply pw_below_drewN | apply below_drew1 | refine below_set ?_ GE322.out) | exact HB.out)⟩⟩
 case round =>
  clear H'
  try clear c2
  try clear p2
  obtain ⟨x2_1, x323000_1, u323000, rfl, HA, HK1, HO_323000, HO_323001, HO_323002, HO_323003, BK322, HK, HB⟩ := hrel
  cases gk with
  | zero => exact absurd HA.out (by simp [isthmuslaw18_Over.l0])
  | succ k1 =>
   have H := HA.out
   clear HA
   simp only [isthmuslaw18_Over.l0] at H
   by_cases c7 : x2_1 < (x323000_1.length : Int)
   ·rw [if_pos c7] at H
    have c7b0 : decide (x2_1 < (x323000_1.length : Int)) = true := decide_eq_true c7
    clear c7
    by_cases c8 : 0 ≤ x2_1
    ·rw [if_pos c8] at H
     have c8b0 : decide (0 ≤ x2_1) = true := decide_eq_true c8
     clear c8
     obtain ⟨y323, hy323⟩ : ∃ y_ : List Int, y_ = (x323000_1.set (x2_1 : Int).toNat 9) := ⟨_, rfl⟩
     replace H : (isthmuslaw18_Over.l0 k1 (wrap64 (x2_1 + 1)) y323 l0_1 l0_2 l0_3) = some () := by first | (rw [hy323]; with_reducible exact H) | (have H2_ := (Option.bind_some _ _).symm.trans H; rw [hy323]; with_reducible exact H2_) | (have H2_ := (Option.bind_some _ _).symm.trans H; with_reducible exact H2_) | with_reducible exact H | (rw [hy323]; exact H) | exact H
     have Ny323 := Aside0.mk hy323
     clear hy323
     have H' := Aside0.mk H
     clear H
     have hcz10_0 : wr.cell? ⟨gb322, 0, none⟩ = some (u323000) := (blk_cell BK322.out 0).trans rfl
     have hcz10_1 : wr.cell? ⟨gb322, 1, none⟩ = some (.slice Ao3 l0_1.length co3) := (blk_cell BK322.out 1).trans rfl
     have hcz10_2 : wr.cell? ⟨gb322, 2, none⟩ = some (.slice Ao4 l0_2.length co4) := (blk_cell BK322.out 2).trans rfl
     have hcz10_3 : wr.cell? ⟨gb322, 3, none⟩ = some (.slice Ao5 l0_3.length co5) := (blk_cell BK322.out 3).trans rfl
     have hfz10_0 := blk_frozen BK322.out 0
     have hfz10_1 := blk_frozen BK322.out 1
     have hfz10_2 := blk_frozen BK322.out 2
     have hfz10_3 := blk_frozen BK322.out 3
     obtain ⟨Ao11, co11, eo11⟩ := Kd.R_slice HO_323000.out
     subst eo11
     have p9 : 0 ≤ (x2_1 : Int) := of_decide_eq_true (by first | (with_reducible assumption) | assumption)
     have q9 : (x2_1 : Int) < ((x323000_1.length : Int) : Int) := of_decide_eq_true (by first | (with_reducible assumption) | assumption)
     obtain ⟨go9, co9, eo9, gb9, gl9, cl9, HG9⟩ := Kd.R_form HO_323000.out (by omega)
     (first | cases eo9 | (injection eo9 with ea_ en_ ec_; (first | subst ea_ | (injection ea_ with ea_; subst ea_)); subst ec_; clear en_))
     have GB9 := Aside0.mk gb9
     have GG9 := Aside0.mk HG9
     clear gb9 gl9 HG9
     have HMgo9 := Aside0.mk (show ((P0_0_ go9 ∨ P0_1_ go9 ∨ P0_2_ go9 ∨ P0_3_ go9) ∨ w.heap.size ≤ go9) from (HO_323000.out.1 _ rfl))
     obtain ⟨hx9_0, hf9_0⟩ := Kd.R_celln 0 HO_323000.out (x2_1 : Int) p9 q9
     replace p9 := eq_true p9
     replace q9 := eq_true q9
     have HP12 := Kd.R_putg HO_323000.out (x2_1 : Int) 9
     go_wp2_with (first | ((with_reducible refine gate_store (t := 33) (p := 20) rfl ?_); refine store_event (t := 33) (p := 20) (v := ?vo_w13) (w1 := (wr.setCell ⟨go9, (x2_1 : Int).toNat, none⟩ (.int .u64 9))) ?hg ?ho ?hn ?hr ?_; (case ho => rfl); (case hg => rfl); (case hn => rfl); (case hr => first | (go_simp; done) | (go_simp; rfl)); intro w13 hw; have hg : wr.grownBy w13 (some go9) := (by rw [hw]; exact HP12.2); have hp_ : Kd.R (Kd.int .u64) 33 w13 w0.heap.size (fun k_ => ((P0_0_ k_ ∨ P0_1_ k_ ∨ P0_2_ k_ ∨ P0_3_ k_) ∨ w.heap.size ≤ k_)) (.slice (some ⟨go9, 0, none⟩) x323000_1.length co11) y323 := (by rw [hw, Ny323.out]; exact HP12.1); clear HP12; have n0_ := Aside0.mk (hp_); have n1_ := Aside0.mk (Kd.R_over' (v := (.slice (some ⟨go9, 0, none⟩) x323000_1.length co11)) (by (with_reducible repeat (first | apply Kd.R_alloc | apply Kd.R_drewN | apply Kd.R_drew)); exact HO_323001.out) (Kd.R_typed HO_323000.out) (by decide) hg); have n2_ := Aside0.mk (Kd.R_over' (v := (.slice (some ⟨go9, 0, none⟩) x323000_1.length co11)) (by (with_reducible repeat (first | apply Kd.R_alloc | apply Kd.R_drewN | apply Kd.R_drew)); exact HO_323002.out) (Kd.R_typed HO_323000.out) (by decide) hg); have n3_ := Aside0.mk (Kd.R_over' (v := (.slice (some ⟨go9, 0, none⟩) x323000_1.length co11)) (by (with_reducible repeat (first | apply Kd.R_alloc | apply Kd.R_drewN | apply Kd.R_drew)); exact HO_323003.out) (Kd.R_typed HO_323000.out) (by decide) hg); have n4_ := Aside0.mk (blk_grown (g := gb322) (o := .cells #[.slice (some ⟨go9, 0, none⟩) x323000_1.length co11, .slice Ao3 l0_1.length co3, .slice Ao4 l0_2.length co4, .slice Ao5 l0_3.length co5] 26 (0, 0)) (by (with_reducible repeat (first | refine blk_drewN ?_ _ | refine blk_drew ?_ | refine blk_alloc ?_ _)); exact BK322.out) hg (Kd.R_ne HO_323000.out BK322.out (by decide))); have n5_ := Aside0.mk ((by rw [hw]; exact below_set (HB.out) GB9.out : Below w0.heap.size w0 w13)); have n6_ := Aside0.mk (Kept.of_grown (S := (fun k_ => P0_0_ k_ ∨ P0_1_ k_ ∨ P0_2_ k_ ∨ P0_3_ k_)) hg (by repeat (first | (with_reducible first | exact HK.out | apply Kept.alloc | apply Kept.drewN | apply Kept.drew | refine Kept.setCell ?_ (.inr GW322.out) _) | exact HK.out)) (fun k_ e_ => (HO_323000.out.1 k_ e_))); clear HO_323000; clear HO_323001; clear HO_323002; clear HO_323003; clear BK322; clear HB; clear HK; have HO_323000 := n0_; have HO_323001 := n1_; have HO_323002 := n2_; have HO_323003 := n3_; have BK322 := n4_; have HB := n5_; have HK := n6_; clear n0_ n1_ n2_ n3_ n4_ n5_ n6_; clear hg hw hp_))
     go_roundg k1
     case measure => have := HK1.out; omega
     case rel => exact ⟨(wrap64 (x2_1 + 1)), (y323), (.slice (some ⟨go9, 0, none⟩) x323000_1.length co11), (by first | rfl | (simp; done) | (simp [*]; done)), H', ⟨by have := HK1.out; omega⟩, ⟨by (with_reducible repeat (first | apply Kd.R_alloc | apply Kd.R_drewN | apply Kd.R_drew)); exact HO_323000.out⟩, ⟨by (with_reducible repeat (first | apply Kd.R_alloc | apply Kd.R_drewN | apply Kd.R_drew)); exact HO_323001.out⟩, ⟨by (with_reducible repeat (first | apply Kd.R_alloc | apply Kd.R_drewN | apply Kd.R_drew)); exact HO_323002.out⟩, ⟨by (with_reducible repeat (first | apply Kd.R_alloc | apply Kd.R_drewN | apply Kd.R_drew)); exact HO_323003.out⟩, ⟨by (with_reducible repeat (first | refine blk_drewN ?_ _ | refine blk_drew ?_ | refine blk_alloc ?_ _)); exact BK322.out⟩, ⟨by repeat (first | (with_reducible first | exact HK.out | apply Kept.alloc | apply Kept.drewN | apply Kept.drew | refine Kept.setCell ?_ (.inr GW322.out) _) | exact HK.out)⟩, ⟨by repeat (first | (with_reducible first | exact HB.out | apply below_alloc | apply pw_below_drewN | apply below_drew1 | refine below_set ?_ GE322.out) | exact HB.out)⟩⟩
    ·rw [if_neg c8] at H
     exact absurd H (by simp)
   ·rw [if_neg c7] at H
    have c7b0 : decide (x2_1 < (x323000_1.length : Int)) = false := decide_eq_false c7
    clear c7
    have H' := Aside0.mk H
    clear H
    have hcz14_0 : wr.cell? ⟨gb322, 0, none⟩ = some (u323000) := (blk_cell BK322.out 0).trans rfl
    have hcz14_1 : wr.cell? ⟨gb322, 1, none⟩ = some (.slice Ao3 l0_1.length co3) := (blk_cell BK322.out 1).trans rfl
    have hcz14_2 : wr.cell? ⟨gb322, 2, none⟩ = some (.slice Ao4 l0_2.length co4) := (blk_cell BK322.out 2).trans rfl
    have hcz14_3 : wr.cell? ⟨gb322, 3, none⟩ = some (.slice Ao5 l0_3.length co5) := (blk_cell BK322.out 3).trans rfl
    have hfz14_0 := blk_frozen BK322.out 0
    have hfz14_1 := blk_frozen BK322.out 1
    have hfz14_2 := blk_frozen BK322.out 2
    have hfz14_3 := blk_frozen BK322.out 3
    obtain ⟨Ao15, co15, eo15⟩ := Kd.R_slice HO_323000.out
    subst eo15
    go_wp2
    go_loopg [3] k1 (fun kq v3 w' => ∃ (x3_2 : Int) (x323001_2 : List Int) (x323003_2 : List Int) (u323001 : Value) (u323003 : Value), v3 = .int .i64 x3_2 ∧ Aside0 (isthmuslaw18_Over.l1 kq x3_2 x323000_1 x323001_2 l0_2 x323003_2 = some ()) ∧ Aside0 (kq ≤ k1) ∧ Aside0 (Kd.R (Kd.int .u64) 33 w' w0.heap.size (fun k_ => ((P0_0_ k_ ∨ P0_1_ k_ ∨ P0_2_ k_ ∨ P0_3_ k_) ∨ w.heap.size ≤ k_)) (.slice Ao15 x323000_1.length co15) x323000_1) ∧ Aside0 (Kd.R (Kd.int .i64) 3 w' w0.heap.size (fun k_ => ((P0_0_ k_ ∨ P0_1_ k_ ∨ P0_2_ k_ ∨ P0_3_ k_) ∨ w.heap.size ≤ k_) ∧ some k_ ≠ (u323003 : Value).ownBlock) u323001 x323001_2) ∧ Aside0 (Kd.R Kd.string 9 w' w0.heap.size (fun k_ => ((P0_0_ k_ ∨ P0_1_ k_ ∨ P0_2_ k_ ∨ P0_3_ k_) ∨ w.heap.size ≤ k_)) (.slice Ao4 l0_2.length co4) l0_2) ∧ Aside0 (Kd.R (Kd.int .i64) 3 w' w0.heap.size (fun k_ => ((P0_0_ k_ ∨ P0_1_ k_ ∨ P0_2_ k_ ∨ P0_3_ k_) ∨ w.heap.size ≤ k_) ∧ some k_ ≠ (u323001 : Value).ownBlock) u323003 x323003_2) ∧ Aside0 (w'.heap[gb322]? = some (.cells #[(.slice Ao15 x323000_1.length co15), u323001, (.slice Ao4 l0_2.length co4), u323003] 26 (0, 0))) ∧ Aside0 (Kept w w' (fun k_ => P0_0_ k_ ∨ P0_1_ k_ ∨ P0_2_ k_ ∨ P0_3_ k_)) ∧ Aside0 (Below w0.heap.size w0 w'))
    case atStart => exact ⟨(0), (l0_1), (l0_3), (.slice Ao3 l0_1.length co3), (.slice Ao5 l0_3.length co5), (by first | rfl | (simp; done) | (simp [*]; done)), H', ⟨Nat.le_refl _⟩, ⟨by (with_reducible repeat (first | apply Kd.R_alloc | apply Kd.R_drewN | apply Kd.R_drew)); exact HO_323000.out⟩, ⟨by (with_reducible repeat (first | apply Kd.R_alloc | apply Kd.R_drewN | apply Kd.R_drew)); exact HO_323001.out⟩, ⟨by (with_reducible repeat (first | apply Kd.R_alloc | apply Kd.R_drewN | apply Kd.R_drew)); exact HO_323002.out⟩, ⟨by (with_reducible repeat (first | apply Kd.R_alloc | apply Kd.R_drewN | apply Kd.R_drew)); exact HO_323003.out⟩, ⟨by (with_reducible repeat (first | refine blk_drewN ?_ _ | refine blk_drew ?_ | refine blk_alloc ?_ _)); exact BK322.out⟩, ⟨by repeat (first | (with_reducible first | exact HK.out | apply Kept.alloc | apply Kept.drewN | apply Kept.drew | refine Kept.setCell ?_ (.inr GW322.out) _) | exact HK.out)⟩, ⟨by repeat (first | (with_reducible first | exact HB.out | apply below_alloc | apply pw_below_drewN | apply below_drew1 | refine below_set ?_ GE322.out) | exact HB.out)⟩⟩
    case round =>
     clear H'
     try clear c2
     try clear p2
     try clear p6
     try clear c7
     try clear c7b0
     try clear c8
     try clear c8b0
     try clear p9
     try clear q9
     try clear hx9
     try clear hf9
     try clear hcz10_0
     try clear hcz10_1
     try clear hcz10_2
     try clear hcz10_3
     try clear hcz14_0
     try clear hcz14_1
     try clear hcz14_2
     try clear hcz14_3
     try clear hfz10_0
     try clear hfz10_1
     try clear hfz10_2
     try clear hfz10_3
     try clear hfz14_0
     try clear hfz14_1
     try clear hfz14_2
     try clear hfz14_3
     try clear hx9_0
     try clear p2
     try clear p9
     try clear q9
     obtain ⟨x3_2, x323001_2, x323003_2, u323001, u323003, rfl, HA, HK2, HO_323000, HO_323001, HO_323002, HO_323003, BK322, HK, HB⟩ := hrel
     cases gk with
     | zero => exact absurd HA.out (by simp [isthmuslaw18_Over.l1])
     | succ k2 =>
      have H := HA.out
      clear HA
      simp only [isthmuslaw18_Over.l1] at H
      by_cases c16 : x3_2 < (x323001_2.length : Int)
      ·rw [if_pos c16] at H
       have c16b0 : decide (x3_2 < (x323001_2.length : Int)) = true := decide_eq_true c16
       clear c16
       by_cases c17 : 0 ≤ x3_2
       ·rw [if_pos c17] at H
        have c17b0 : decide (0 ≤ x3_2) = true := decide_eq_true c17
        clear c17
        obtain ⟨y324, hy324⟩ : ∃ y_ : List Int, y_ = (x323001_2.set (x3_2 : Int).toNat (-9)) := ⟨_, rfl⟩
        replace H : (isthmuslaw18_Over.l1 k2 (wrap64 (x3_2 + 1)) x323000_1 y324 l0_2 x323003_2) = some () := by first | (rw [hy324]; with_reducible exact H) | (have H2_ := (Option.bind_some _ _).symm.trans H; rw [hy324]; with_reducible exact H2_) | (have H2_ := (Option.bind_some _ _).symm.trans H; with_reducible exact H2_) | with_reducible exact H | (rw [hy324]; exact H) | exact H
        have Ny324 := Aside0.mk hy324
        clear hy324
        have H' := Aside0.mk H
        clear H
        have hcz19_0 : wr.cell? ⟨gb322, 0, none⟩ = some (.slice Ao15 x323000_1.length co15) := (blk_cell BK322.out 0).trans rfl
        have hcz19_1 : wr.cell? ⟨gb322, 1, none⟩ = some (u323001) := (blk_cell BK322.out 1).trans rfl
        have hcz19_2 : wr.cell? ⟨gb322, 2, none⟩ = some (.slice Ao4 l0_2.length co4) := (blk_cell BK322.out 2).trans rfl
        have hcz19_3 : wr.cell? ⟨gb322, 3, none⟩ = some (u323003) := (blk_cell BK322.out 3).trans rfl
        have hfz19_0 := blk_frozen BK322.out 0
        have hfz19_1 := blk_frozen BK322.out 1
        have hfz19_2 := blk_frozen BK322.out 2
        have hfz19_3 := blk_frozen BK322.out 3
        obtain ⟨Ao20, co20, eo20⟩ := Kd.R_slice HO_323001.out
        subst eo20
        have p18 : 0 ≤ (x3_2 : Int) := of_decide_eq_true (by first | (with_reducible assumption) | assumption)
        have q18 : (x3_2 : Int) < ((x323001_2.length : Int) : Int) := of_decide_eq_true (by first | (with_reducible assumption) | assumption)
        obtain ⟨go18, co18, eo18, gb18, gl18, cl18, HG18⟩ := Kd.R_form HO_323001.out (by omega)
        (first | cases eo18 | (injection eo18 with ea_ en_ ec_; (first | subst ea_ | (injection ea_ with ea_; subst ea_)); subst ec_; clear en_))
        have GB18 := Aside0.mk gb18
        have GG18 := Aside0.mk HG18
        clear gb18 gl18 HG18
        have HMgo18 := Aside0.mk (show ((P0_0_ go18 ∨ P0_1_ go18 ∨ P0_2_ go18 ∨ P0_3_ go18) ∨ w.heap.size ≤ go18) from (HO_323001.out.1 _ rfl).1)
        obtain ⟨hx18_0, hf18_0⟩ := Kd.R_celln 0 HO_323001.out (x3_2 : Int) p18 q18
        replace p18 := eq_true p18
        replace q18 := eq_true q18
        have HP21 := Kd.R_putg HO_323001.out (x3_2 : Int) (-9)
        go_wp2_with (first | ((with_reducible refine gate_store (t := 3) (p := 31) rfl ?_); refine store_event (t := 3) (p := 31) (v := ?vo_w22) (w1 := (wr.setCell ⟨go18, (x3_2 : Int).toNat, none⟩ (.int .i64 (-9)))) ?hg ?ho ?hn ?hr ?_; (case ho => rfl); (case hg => rfl); (case hn => rfl); (case hr => first | (go_simp; done) | (go_simp; rfl)); intro w22 hw; have hg : wr.grownBy w22 (some go18) := (by rw [hw]; exact HP21.2); have hp_ : Kd.R (Kd.int .i64) 3 w22 w0.heap.size (fun k_ => ((P0_0_ k_ ∨ P0_1_ k_ ∨ P0_2_ k_ ∨ P0_3_ k_) ∨ w.heap.size ≤ k_) ∧ some k_ ≠ (u323003 : Value).ownBlock) (.slice (some ⟨go18, 0, none⟩) x323001_2.length co20) y324 := (by rw [hw, Ny324.out]; exact HP21.1); clear HP21; have n0_ := Aside0.mk (Kd.R_over' (v := (.slice (some ⟨go18, 0, none⟩) x323001_2.length co20)) (by (with_reducible repeat (first | apply Kd.R_alloc | apply Kd.R_drewN | apply Kd.R_drew)); exact HO_323000.out) (Kd.R_typed HO_323001.out) (by decide) hg); have n1_ := Aside0.mk (hp_); have n2_ := Aside0.mk (Kd.R_over' (v := (.slice (some ⟨go18, 0, none⟩) x323001_2.length co20)) (by (with_reducible repeat (first | apply Kd.R_alloc | apply Kd.R_drewN | apply Kd.R_drew)); exact HO_323002.out) (Kd.R_typed HO_323001.out) (by decide) hg); have n3_ := Aside0.mk (Kd.R_after (v := (.slice (some ⟨go18, 0, none⟩) x323001_2.length co20)) (v1 := (.slice (some ⟨go18, 0, none⟩) x323001_2.length co20)) (ok := (fun k_ => ((P0_0_ k_ ∨ P0_1_ k_ ∨ P0_2_ k_ ∨ P0_3_ k_) ∨ w.heap.size ≤ k_))) (by (with_reducible repeat (first | apply Kd.R_alloc | apply Kd.R_drewN | apply Kd.R_drew)); exact HO_323003.out) hg (.inl rfl)); have n4_ := Aside0.mk (blk_grown (g := gb322) (o := .cells #[.slice Ao15 x323000_1.length co15, .slice (some ⟨go18, 0, none⟩) x323001_2.length co20, .slice Ao4 l0_2.length co4, u323003] 26 (0, 0)) (by (with_reducible repeat (first | refine blk_drewN ?_ _ | refine blk_drew ?_ | refine blk_alloc ?_ _)); exact BK322.out) hg (Kd.R_ne HO_323001.out BK322.out (by decide))); have n5_ := Aside0.mk ((by rw [hw]; exact below_set (HB.out) GB18.out : Below w0.heap.size w0 w22)); have n6_ := Aside0.mk (Kept.of_grown (S := (fun k_ => P0_0_ k_ ∨ P0_1_ k_ ∨ P0_2_ k_ ∨ P0_3_ k_)) hg (by repeat (first | (with_reducible first | exact HK.out | apply Kept.alloc | apply Kept.drewN | apply Kept.drew | refine Kept.setCell ?_ (.inr GW322.out) _) | exact HK.out)) (fun k_ e_ => (HO_323001.out.1 k_ e_).1)); clear HO_323000; clear HO_323001; clear HO_323002; clear HO_323003; clear BK322; clear HB; clear HK; have HO_323000 := n0_; have HO_323001 := n1_; have HO_323002 := n2_; have HO_323003 := n3_; have BK322 := n4_; have HB := n5_; have HK := n6_; clear n0_ n1_ n2_ n3_ n4_ n5_ n6_; clear hg hw hp_))
        go_roundg k2
        case measure => have := HK1.out; have := HK2.out; omega
        case rel => exact ⟨(wrap64 (x3_2 + 1)), (y324), (x323003_2), (.slice (some ⟨go18, 0, none⟩) x323001_2.length co20), (u323003), (by first | rfl | (simp; done) | (simp [*]; done)), H', ⟨by have := HK1.out; have := HK2.out; omega⟩, ⟨by (with_reducible repeat (first | apply Kd.R_alloc | apply Kd.R_drewN | apply Kd.R_drew)); exact HO_323000.out⟩, ⟨by (with_reducible repeat (first | apply Kd.R_alloc | apply Kd.R_drewN | apply Kd.R_drew)); exact HO_323001.out⟩, ⟨by (with_reducible repeat (first | apply Kd.R_alloc | apply Kd.R_drewN | apply Kd.R_drew)); exact HO_323002.out⟩, ⟨by (with_reducible repeat (first | apply Kd.R_alloc | apply Kd.R_drewN | apply Kd.R_drew)); exact HO_323003.out⟩, ⟨by (with_reducible repeat (first | refine blk_drewN ?_ _ | refine blk_drew ?_ | refine blk_alloc ?_ _)); exact BK322.out⟩, ⟨by repeat (first | (with_reducible first | exact HK.out | apply Kept.alloc | apply Kept.drewN | apply Kept.drew | refine Kept.setCell ?_ (.inr GW322.out) _) | exact HK.out)⟩, ⟨by repeat (first | (with_reducible first | exact HB.out | apply below_alloc | apply pw_below_drewN | apply below_drew1 | refine below_set ?_ GE322.out) | exact HB.out)⟩⟩
       ·rw [if_neg c17] at H
        exact absurd H (by simp)
      ·rw [if_neg c16] at H
       have c16b0 : decide (x3_2 < (x323001_2.length : Int)) = false := decide_eq_false c16
       clear c16
       have H' := Aside0.mk H
       clear H
       have hcz23_0 : wr.cell? ⟨gb322, 0, none⟩ = some (.slice Ao15 x323000_1.length co15) := (blk_cell BK322.out 0).trans rfl
       have hcz23_1 : wr.cell? ⟨gb322, 1, none⟩ = some (u323001) := (blk_cell BK322.out 1).trans rfl
       have hcz23_2 : wr.cell? ⟨gb322, 2, none⟩ = some (.slice Ao4 l0_2.length co4) := (blk_cell BK322.out 2).trans rfl
       have hcz23_3 : wr.cell? ⟨gb322, 3, none⟩ = some (u323003) := (blk_cell BK322.out 3).trans rfl
       have hfz23_0 := blk_frozen BK322.out 0
       have hfz23_1 := blk_frozen BK322.out 1
       have hfz23_2 := blk_frozen BK322.out 2
       have hfz23_3 := blk_frozen BK322.out 3
       obtain ⟨Ao24, co24, eo24⟩ := Kd.R_slice HO_323001.out
       subst eo24
       go_wp2
       go_loopg [4] k2 (fun kq v4 w' => ∃ (x4_3 : Int) (x323002_3 : List ByteArray) (u323002 : Value), v4 = .int .i64 x4_3 ∧ Aside0 (isthmuslaw18_Over.l2 kq x4_3 x323000_1 x323001_2 x323002_3 x323003_2 = some ()) ∧ Aside0 (kq ≤ k2) ∧ Aside0 (Kd.R (Kd.int .u64) 33 w' w0.heap.size (fun k_ => ((P0_0_ k_ ∨ P0_1_ k_ ∨ P0_2_ k_ ∨ P0_3_ k_) ∨ w.heap.size ≤ k_)) (.slice Ao15 x323000_1.length co15) x323000_1) ∧ Aside0 (Kd.R (Kd.int .i64) 3 w' w0.heap.size (fun k_ => ((P0_0_ k_ ∨ P0_1_ k_ ∨ P0_2_ k_ ∨ P0_3_ k_) ∨ w.heap.size ≤ k_) ∧ some k_ ≠ (u323003 : Value).ownBlock) (.slice Ao24 x323001_2.length co24) x323001_2) ∧ Aside0 (Kd.R Kd.string 9 w' w0.heap.size (fun k_ => ((P0_0_ k_ ∨ P0_1_ k_ ∨ P0_2_ k_ ∨ P0_3_ k_) ∨ w.heap.size ≤ k_)) u323002 x323002_3) ∧ Aside0 (Kd.R (Kd.int .i64) 3 w' w0.heap.size (fun k_ => ((P0_0_ k_ ∨ P0_1_ k_ ∨ P0_2_ k_ ∨ P0_3_ k_) ∨ w.heap.size ≤ k_) ∧ some k_ ≠ ((.slice Ao24 x323001_2.length co24) : Value).ownBlock) u323003 x323003_2) ∧ Aside0 (w'.heap[gb322]? = some (.cells #[(.slice Ao15 x323000_1.length co15), (.slice Ao24 x323001_2.length co24), u323002, u323003] 26 (0, 0))) ∧ Aside0 (Kept w w' (fun k_ => P0_0_ k_ ∨ P0_1_ k_ ∨ P0_2_ k_ ∨ P0_3_ k_)) ∧ Aside0 (Below w0.heap.size w0 w'))
       case atStart => exact ⟨(0), (l0_2), (.slice Ao4 l0_2.length co4), (by first | rfl | (simp; done) | (simp [*]; done)), H', ⟨Nat.le_refl _⟩, ⟨by (with_reducible repeat (first | apply Kd.R_alloc | apply Kd.R_drewN | apply Kd.R_drew)); exact HO_323000.out⟩, ⟨by (with_reducible repeat (first | apply Kd.R_alloc | apply Kd.R_drewN | apply Kd.R_drew)); exact HO_323001.out⟩, ⟨by (with_reducible repeat (first | apply Kd.R_alloc | apply Kd.R_drewN | apply Kd.R_drew)); exact HO_323002.out⟩, ⟨by (with_reducible repeat (first | apply Kd.R_alloc | apply Kd.R_drewN | apply Kd.R_drew)); exact HO_323003.out⟩, ⟨by (with_reducible repeat (first | refine blk_drewN ?_ _ | refine blk_drew ?_ | refine blk_alloc ?_ _)); exact BK322.out⟩, ⟨by repeat (first | (with_reducible first | exact HK.out | apply Kept.alloc | apply Kept.drewN | apply Kept.drew | refine Kept.setCell ?_ (.inr GW322.out) _) | exact HK.out)⟩, ⟨by repeat (first | (with_reducible first | exact HB.out | apply below_alloc | apply pw_below_drewN | apply below_drew1 | refine below_set ?_ GE322.out) | exact HB.out)⟩⟩
       case round =>
        clear H'
        try clear c1
        try clear p1
        try clear q1
        try clear hx1
        try clear hf1
        try clear c2
        try clear p2
        try clear p6
        try clear c7
        try clear c7b0
        try clear c8
        try clear c8b0
        try clear p9
        try clear q9
        try clear hx9
        try clear hf9
        try clear c16
        try clear c16b0
        try clear c17
        try clear c17b0
        try clear p18
        try clear q18
        try clear hx18
        try clear hf18
        try clear c24
        try clear hcz10_0
        try clear hcz10_1
        try clear hcz10_2
        try clear hcz10_3
        try clear hcz14_0
        try clear hcz14_1
        try clear hcz14_2
        try clear hcz14_3
        try clear hcz19_0
        try clear hcz19_1
        try clear hcz19_2
        try clear hcz19_3
        try clear hcz23_0
        try clear hcz23_1
        try clear hcz23_2
        try clear hcz23_3
        try clear hfz10_0
        try clear hfz10_1
        try clear hfz10_2
        try clear hfz10_3
        try clear hfz14_0
        try clear hfz14_1
        try clear hfz14_2
        try clear hfz14_3
        try clear hfz19_0
        try clear hfz19_1
        try clear hfz19_2
        try clear hfz19_3
        try clear hfz23_0
        try clear hfz23_1
        try clear hfz23_2
        try clear hfz23_3
        try clear hx18_0
        try clear hx9_0
        try clear p18
        try clear p2
        try clear p6
        try clear p9
        try clear q18
        try clear q9
        obtain ⟨x4_3, x323002_3, u323002, rfl, HA, HK3, HO_323000, HO_323001, HO_323002, HO_323003, BK322, HK, HB⟩ := hrel
        cases gk with
        | zero => exact absurd HA.out (by simp [isthmuslaw18_Over.l2])
        | succ k3 =>
         have H := HA.out
         clear HA
         simp only [isthmuslaw18_Over.l2] at H
         by_cases c25 : x4_3 < (x323002_3.length : Int)
         ·rw [if_pos c25] at H
          have c25b0 : decide (x4_3 < (x323002_3.length : Int)) = true := decide_eq_true c25
          clear c25
          by_cases c26 : 0 ≤ x4_3
          ·rw [if_pos c26] at H
           have c26b0 : decide (0 ≤ x4_3) = true := decide_eq_true c26
           clear c26
           obtain ⟨y325, hy325⟩ : ∃ y_ : List ByteArray, y_ = (x323002_3.set (x4_3 : Int).toNat (⟨#[111, 118, 101, 114]⟩ : ByteArray)) := ⟨_, rfl⟩
           replace H : (isthmuslaw18_Over.l2 k3 (wrap64 (x4_3 + 1)) x323000_1 x323001_2 y325 x323003_2) = some () := by first | (rw [hy325]; with_reducible exact H) | (have H2_ := (Option.bind_some _ _).symm.trans H; rw [hy325]; with_reducible exact H2_) | (have H2_ := (Option.bind_some _ _).symm.trans H; with_reducible exact H2_) | with_reducible exact H | (rw [hy325]; exact H) | exact H
           have Ny325 := Aside0.mk hy325
           clear hy325
           have H' := Aside0.mk H
           clear H
           have hcz28_0 : wr.cell? ⟨gb322, 0, none⟩ = some (.slice Ao15 x323000_1.length co15) := (blk_cell BK322.out 0).trans rfl
           have hcz28_1 : wr.cell? ⟨gb322, 1, none⟩ = some (.slice Ao24 x323001_2.length co24) := (blk_cell BK322.out 1).trans rfl
           have hcz28_2 : wr.cell? ⟨gb322, 2, none⟩ = some (u323002) := (blk_cell BK322.out 2).trans rfl
           have hcz28_3 : wr.cell? ⟨gb322, 3, none⟩ = some (u323003) := (blk_cell BK322.out 3).trans rfl
           have hfz28_0 := blk_frozen BK322.out 0
           have hfz28_1 := blk_frozen BK322.out 1
           have hfz28_2 := blk_frozen BK322.out 2
           have hfz28_3 := blk_frozen BK322.out 3
           obtain ⟨Ao29, co29, eo29⟩ := Kd.R_slice HO_323002.out
           subst eo29
           have p27 : 0 ≤ (x4_3 : Int) := of_decide_eq_true (by first | (with_reducible assumption) | assumption)
           have q27 : (x4_3 : Int) < ((x323002_3.length : Int) : Int) := of_decide_eq_true (by first | (with_reducible assumption) | assumption)
           obtain ⟨go27, co27, eo27, gb27, gl27, cl27, HG27⟩ := Kd.R_form HO_323002.out (by omega)
           (first | cases eo27 | (injection eo27 with ea_ en_ ec_; (first | subst ea_ | (injection ea_ with ea_; subst ea_)); subst ec_; clear en_))
           have GB27 := Aside0.mk gb27
           have GG27 := Aside0.mk HG27
           clear gb27 gl27 HG27
           have HMgo27 := Aside0.mk (show ((P0_0_ go27 ∨ P0_1_ go27 ∨ P0_2_ go27 ∨ P0_3_ go27) ∨ w.heap.size ≤ go27) from (HO_323002.out.1 _ rfl))
           obtain ⟨hx27_0, hf27_0⟩ := Kd.R_celln (⟨#[]⟩ : ByteArray) HO_323002.out (x4_3 : Int) p27 q27
           replace p27 := eq_true p27
           replace q27 := eq_true q27
           have HP30 := Kd.R_putg HO_323002.out (x4_3 : Int) (⟨#[111, 118, 101, 114]⟩ : ByteArray)
           go_wp2_with (first | ((with_reducible refine gate_store (t := 9) (p := 42) rfl ?_); refine store_event (t := 9) (p := 42) (v := ?vo_w31) (w1 := (wr.setCell ⟨go27, (x4_3 : Int).toNat, none⟩ (.string (⟨#[111, 118, 101, 114]⟩ : ByteArray)))) ?hg ?ho ?hn ?hr ?_; (case ho => rfl); (case hg => rfl); (case hn => rfl); (case hr => first | (go_simp; done) | (go_simp; rfl)); intro w31 hw; have hg : wr.grownBy w31 (some go27) := (by rw [hw]; exact HP30.2); have hp_ : Kd.R Kd.string 9 w31 w0.heap.size (fun k_ => ((P0_0_ k_ ∨ P0_1_ k_ ∨ P0_2_ k_ ∨ P0_3_ k_) ∨ w.heap.size ≤ k_)) (.slice (some ⟨go27, 0, none⟩) x323002_3.length co29) y325 := (by rw [hw, Ny325.out]; exact HP30.1); clear HP30; have n0_ := Aside0.mk (Kd.R_over' (v := (.slice (some ⟨go27, 0, none⟩) x323002_3.length co29)) (by (with_reducible repeat (first | apply Kd.R_alloc | apply Kd.R_drewN | apply Kd.R_drew)); exact HO_323000.out) (Kd.R_typed HO_323002.out) (by decide) hg); have n1_ := Aside0.mk (Kd.R_over' (v := (.slice (some ⟨go27, 0, none⟩) x323002_3.length co29)) (by (with_reducible repeat (first | apply Kd.R_alloc | apply Kd.R_drewN | apply Kd.R_drew)); exact HO_323001.out) (Kd.R_typed HO_323002.out) (by decide) hg); have n2_ := Aside0.mk (hp_); have n3_ := Aside0.mk (Kd.R_over' (v := (.slice (some ⟨go27, 0, none⟩) x323002_3.length co29)) (by (with_reducible repeat (first | apply Kd.R_alloc | apply Kd.R_drewN | apply Kd.R_drew)); exact HO_323003.out) (Kd.R_typed HO_323002.out) (by decide) hg); have n4_ := Aside0.mk (blk_grown (g := gb322) (o := .cells #[.slice Ao15 x323000_1.length co15, .slice Ao24 x323001_2.length co24, .slice (some ⟨go27, 0, none⟩) x323002_3.length co29, u323003] 26 (0, 0)) (by (with_reducible repeat (first | refine blk_drewN ?_ _ | refine blk_drew ?_ | refine blk_alloc ?_ _)); exact BK322.out) hg (Kd.R_ne HO_323002.out BK322.out (by decide))); have n5_ := Aside0.mk ((by rw [hw]; exact below_set (HB.out) GB27.out : Below w0.heap.size w0 w31)); have n6_ := Aside0.mk (Kept.of_grown (S := (fun k_ => P0_0_ k_ ∨ P0_1_ k_ ∨ P0_2_ k_ ∨ P0_3_ k_)) hg (by repeat (first | (with_reducible first | exact HK.out | apply Kept.alloc | apply Kept.drewN | apply Kept.drew | refine Kept.setCell ?_ (.inr GW322.out) _) | exact HK.out)) (fun k_ e_ => (HO_323002.out.1 k_ e_))); clear HO_323000; clear HO_323001; clear HO_323002; clear HO_323003; clear BK322; clear HB; clear HK; have HO_323000 := n0_; have HO_323001 := n1_; have HO_323002 := n2_; have HO_323003 := n3_; have BK322 := n4_; have HB := n5_; have HK := n6_; clear n0_ n1_ n2_ n3_ n4_ n5_ n6_; clear hg hw hp_))
           go_roundg k3
           case measure => have := HK1.out; have := HK2.out; have := HK3.out; omega
           case rel => exact ⟨(wrap64 (x4_3 + 1)), (y325), (.slice (some ⟨go27, 0, none⟩) x323002_3.length co29), (by first | rfl | (simp; done) | (simp [*]; done)), H', ⟨by have := HK1.out; have := HK2.out; have := HK3.out; omega⟩, ⟨by (with_reducible repeat (first | apply Kd.R_alloc | apply Kd.R_drewN | apply Kd.R_drew)); exact HO_323000.out⟩, ⟨by (with_reducible repeat (first | apply Kd.R_alloc | apply Kd.R_drewN | apply Kd.R_drew)); exact HO_323001.out⟩, ⟨by (with_reducible repeat (first | apply Kd.R_alloc | apply Kd.R_drewN | apply Kd.R_drew)); exact HO_323002.out⟩, ⟨by (with_reducible repeat (first | apply Kd.R_alloc | apply Kd.R_drewN | apply Kd.R_drew)); exact HO_323003.out⟩, ⟨by (with_reducible repeat (first | refine blk_drewN ?_ _ | refine blk_drew ?_ | refine blk_alloc ?_ _)); exact BK322.out⟩, ⟨by repeat (first | (with_reducible first | exact HK.out | apply Kept.alloc | apply Kept.drewN | apply Kept.drew | refine Kept.setCell ?_ (.inr GW322.out) _) | exact HK.out)⟩, ⟨by repeat (first | (with_reducible first | exact HB.out | apply below_alloc | apply pw_below_drewN | apply below_drew1 | refine below_set ?_ GE322.out) | exact HB.out)⟩⟩
          ·rw [if_neg c26] at H
           exact absurd H (by simp)
         ·rw [if_neg c25] at H
          have c25b0 : decide (x4_3 < (x323002_3.length : Int)) = false := decide_eq_false c25
          clear c25
          have H' := Aside0.mk H
          clear H
          have hcz32_0 : wr.cell? ⟨gb322, 0, none⟩ = some (.slice Ao15 x323000_1.length co15) := (blk_cell BK322.out 0).trans rfl
          have hcz32_1 : wr.cell? ⟨gb322, 1, none⟩ = some (.slice Ao24 x323001_2.length co24) := (blk_cell BK322.out 1).trans rfl
          have hcz32_2 : wr.cell? ⟨gb322, 2, none⟩ = some (u323002) := (blk_cell BK322.out 2).trans rfl
          have hcz32_3 : wr.cell? ⟨gb322, 3, none⟩ = some (u323003) := (blk_cell BK322.out 3).trans rfl
          have hfz32_0 := blk_frozen BK322.out 0
          have hfz32_1 := blk_frozen BK322.out 1
          have hfz32_2 := blk_frozen BK322.out 2
          have hfz32_3 := blk_frozen BK322.out 3
          obtain ⟨Ao33, co33, eo33⟩ := Kd.R_slice HO_323002.out
          subst eo33
          go_wp2
          go_loopg [5] k3 (fun kq v5 w' => ∃ (x5_4 : Int) (x323001_4 : List Int) (x323003_4 : List Int) (u323001 : Value) (u323003 : Value), v5 = .int .i64 x5_4 ∧ Aside0 (isthmuslaw18_Over.l3 kq x5_4 x323000_1 x323001_4 x323002_3 x323003_4 = some ()) ∧ Aside0 (kq ≤ k3) ∧ Aside0 (Kd.R (Kd.int .u64) 33 w' w0.heap.size (fun k_ => ((P0_0_ k_ ∨ P0_1_ k_ ∨ P0_2_ k_ ∨ P0_3_ k_) ∨ w.heap.size ≤ k_)) (.slice Ao15 x323000_1.length co15) x323000_1) ∧ Aside0 (Kd.R (Kd.int .i64) 3 w' w0.heap.size (fun k_ => ((P0_0_ k_ ∨ P0_1_ k_ ∨ P0_2_ k_ ∨ P0_3_ k_) ∨ w.heap.size ≤ k_) ∧ some k_ ≠ (u323003 : Value).ownBlock) u323001 x323001_4) ∧ Aside0 (Kd.R Kd.string 9 w' w0.heap.size (fun k_ => ((P0_0_ k_ ∨ P0_1_ k_ ∨ P0_2_ k_ ∨ P0_3_ k_) ∨ w.heap.size ≤ k_)) (.slice Ao33 x323002_3.length co33) x323002_3) ∧ Aside0 (Kd.R (Kd.int .i64) 3 w' w0.heap.size (fun k_ => ((P0_0_ k_ ∨ P0_1_ k_ ∨ P0_2_ k_ ∨ P0_3_ k_) ∨ w.heap.size ≤ k_) ∧ some k_ ≠ (u323001 : Value).ownBlock) u323003 x323003_4) ∧ Aside0 (w'.heap[gb322]? = some (.cells #[(.slice Ao15 x323000_1.length co15), u323001, (.slice Ao33 x323002_3.length co33), u323003] 26 (0, 0))) ∧ Aside0 (Kept w w' (fun k_ => P0_0_ k_ ∨ P0_1_ k_ ∨ P0_2_ k_ ∨ P0_3_ k_)) ∧ Aside0 (Below w0.heap.size w0 w'))
          case atStart => exact ⟨(0), (x323001_2), (x323003_2), (.slice Ao24 x323001_2.length co24), (u323003), (by first | rfl | (simp; done) | (simp [*]; done)), H', ⟨Nat.le_refl _⟩, ⟨by (with_reducible repeat (first | apply Kd.R_alloc | apply Kd.R_drewN | apply Kd.R_drew)); exact HO_323000.out⟩, ⟨by (with_reducible repeat (first | apply Kd.R_alloc | apply Kd.R_drewN | apply Kd.R_drew)); exact HO_323001.out⟩, ⟨by (with_reducible repeat (first | apply Kd.R_alloc | apply Kd.R_drewN | apply Kd.R_drew)); exact HO_323002.out⟩, ⟨by (with_reducible repeat (first | apply Kd.R_alloc | apply Kd.R_drewN | apply Kd.R_drew)); exact HO_323003.out⟩, ⟨by (with_reducible repeat (first | refine blk_drewN ?_ _ | refine blk_drew ?_ | refine blk_alloc ?_ _)); exact BK322.out⟩, ⟨by repeat (first | (with_reducible first | exact HK.out | apply Kept.alloc | apply Kept.drewN | apply Kept.drew | refine Kept.setCell ?_ (.inr GW322.out) _) | exact HK.out)⟩, ⟨by repeat (first | (with_reducible first | exact HB.out | apply below_alloc | apply pw_below_drewN | apply below_drew1 | refine below_set ?_ GE322.out) | exact HB.out)⟩⟩
          case round =>
           clear H'
           try clear c1
           try clear p1
           try clear q1
           try clear hx1
           try clear hf1
           try clear c2
           try clear p2
           try clear q2
           try clear hx2
           try clear hf2
           try clear p6
           try clear c7
           try clear c7b0
           try clear c8
           try clear c8b0
           try clear p9
           try clear q9
           try clear hx9
           try clear hf9
           try clear c16
           try clear c16b0
           try clear c17
           try clear c17b0
           try clear p18
           try clear q18
           try clear hx18
           try clear hf18
           try clear c24
           try clear c25
           try clear c25b0
           try clear c26
           try clear c26b0
           try clear p27
           try clear q27
           try clear hx27
           try clear hf27
           try clear hcz10_0
           try clear hcz10_1
           try clear hcz10_2
           try clear hcz10_3
           try clear hcz14_0
           try clear hcz14_1
           try clear hcz14_2
           try clear hcz14_3
           try clear hcz19_0
           try clear hcz19_1
           try clear hcz19_2
           try clear hcz19_3
           try clear hcz23_0
           try clear hcz23_1
           try clear hcz23_2
           try clear hcz23_3
           try clear hcz28_0
           try clear hcz28_1
           try clear hcz28_2
           try clear hcz28_3
           try clear hcz32_0
           try clear hcz32_1
           try clear hcz32_2
           try clear hcz32_3
           try clear hfz10_0
           try clear hfz10_1
           try clear hfz10_2
           try clear hfz10_3
           try clear hfz14_0
           try clear hfz14_1
           try clear hfz14_2
           try clear hfz14_3
           try clear hfz19_0
           try clear hfz19_1
           try clear hfz19_2
           try clear hfz19_3
           try clear hfz23_0
           try clear hfz23_1
           try clear hfz23_2
           try clear hfz23_3
           try clear hfz28_0
           try clear hfz28_1
           try clear hfz28_2
           try clear hfz28_3
           try clear hfz32_0
           try clear hfz32_1
           try clear hfz32_2
           try clear hfz32_3
           try clear hx18_0
           try clear hx27_0
           try clear hx9_0
           try clear p1
           try clear p18
           try clear p2
           try clear p27
           try clear p6
           try clear p9
           try clear q1
           try clear q18
           try clear q27
           try clear q9
           obtain ⟨x5_4, x323001_4, x323003_4, u323001, u323003, rfl, HA, HK4, HO_323000, HO_323001, HO_323002, HO_323003, BK322, HK, HB⟩ := hrel
           cases gk with
           | zero => exact absurd HA.out (by simp [isthmuslaw18_Over.l3])
           | succ k4 =>
            have H := HA.out
            clear HA
            simp only [isthmuslaw18_Over.l3] at H
            by_cases c34 : x5_4 < (x323003_4.length : Int)
            ·rw [if_pos c34] at H
             have c34b0 : decide (x5_4 < (x323003_4.length : Int)) = true := decide_eq_true c34
             clear c34
             by_cases c35 : 0 ≤ x5_4
             ·rw [if_pos c35] at H
              have c35b0 : decide (0 ≤ x5_4) = true := decide_eq_true c35
              clear c35
              obtain ⟨y326, hy326⟩ : ∃ y_ : List Int, y_ = (x323003_4.set (x5_4 : Int).toNat (-9)) := ⟨_, rfl⟩
              replace H : (isthmuslaw18_Over.l3 k4 (wrap64 (x5_4 + 1)) x323000_1 x323001_4 x323002_3 y326) = some () := by first | (rw [hy326]; with_reducible exact H) | (have H2_ := (Option.bind_some _ _).symm.trans H; rw [hy326]; with_reducible exact H2_) | (have H2_ := (Option.bind_some _ _).symm.trans H; with_reducible exact H2_) | with_reducible exact H | (rw [hy326]; exact H) | exact H
              have Ny326 := Aside0.mk hy326
              clear hy326
              have H' := Aside0.mk H
              clear H
              have hcz37_0 : wr.cell? ⟨gb322, 0, none⟩ = some (.slice Ao15 x323000_1.length co15) := (blk_cell BK322.out 0).trans rfl
              have hcz37_1 : wr.cell? ⟨gb322, 1, none⟩ = some (u323001) := (blk_cell BK322.out 1).trans rfl
              have hcz37_2 : wr.cell? ⟨gb322, 2, none⟩ = some (.slice Ao33 x323002_3.length co33) := (blk_cell BK322.out 2).trans rfl
              have hcz37_3 : wr.cell? ⟨gb322, 3, none⟩ = some (u323003) := (blk_cell BK322.out 3).trans rfl
              have hfz37_0 := blk_frozen BK322.out 0
              have hfz37_1 := blk_frozen BK322.out 1
              have hfz37_2 := blk_frozen BK322.out 2
              have hfz37_3 := blk_frozen BK322.out 3
              obtain ⟨Ao38, co38, eo38⟩ := Kd.R_slice HO_323003.out
              subst eo38
              have p36 : 0 ≤ (x5_4 : Int) := of_decide_eq_true (by first | (with_reducible assumption) | assumption)
              have q36 : (x5_4 : Int) < ((x323003_4.length : Int) : Int) := of_decide_eq_true (by first | (with_reducible assumption) | assumption)
              obtain ⟨go36, co36, eo36, gb36, gl36, cl36, HG36⟩ := Kd.R_form HO_323003.out (by omega)
              (first | cases eo36 | (injection eo36 with ea_ en_ ec_; (first | subst ea_ | (injection ea_ with ea_; subst ea_)); subst ec_; clear en_))
              have GB36 := Aside0.mk gb36
              have GG36 := Aside0.mk HG36
              clear gb36 gl36 HG36
              have HMgo36 := Aside0.mk (show ((P0_0_ go36 ∨ P0_1_ go36 ∨ P0_2_ go36 ∨ P0_3_ go36) ∨ w.heap.size ≤ go36) from (HO_323003.out.1 _ rfl).1)
              obtain ⟨hx36_0, hf36_0⟩ := Kd.R_celln 0 HO_323003.out (x5_4 : Int) p36 q36
              replace p36 := eq_true p36
              replace q36 := eq_true q36
              have HP39 := Kd.R_putg HO_323003.out (x5_4 : Int) (-9)
              go_wp2_with (first | ((with_reducible refine gate_store (t := 3) (p := 53) rfl ?_); refine store_event (t := 3) (p := 53) (v := ?vo_w40) (w1 := (wr.setCell ⟨go36, (x5_4 : Int).toNat, none⟩ (.int .i64 (-9)))) ?hg ?ho ?hn ?hr ?_; (case ho => rfl); (case hg => rfl); (case hn => rfl); (case hr => first | (go_simp; done) | (go_simp; rfl)); intro w40 hw; have hg : wr.grownBy w40 (some go36) := (by rw [hw]; exact HP39.2); have hp_ : Kd.R (Kd.int .i64) 3 w40 w0.heap.size (fun k_ => ((P0_0_ k_ ∨ P0_1_ k_ ∨ P0_2_ k_ ∨ P0_3_ k_) ∨ w.heap.size ≤ k_) ∧ some k_ ≠ (u323001 : Value).ownBlock) (.slice (some ⟨go36, 0, none⟩) x323003_4.length co38) y326 := (by rw [hw, Ny326.out]; exact HP39.1); clear HP39; have n0_ := Aside0.mk (Kd.R_over' (v := (.slice (some ⟨go36, 0, none⟩) x323003_4.length co38)) (by (with_reducible repeat (first | apply Kd.R_alloc | apply Kd.R_drewN | apply Kd.R_drew)); exact HO_323000.out) (Kd.R_typed HO_323003.out) (by decide) hg); have n1_ := Aside0.mk (Kd.R_after (v := (.slice (some ⟨go36, 0, none⟩) x323003_4.length co38)) (v1 := (.slice (some ⟨go36, 0, none⟩) x323003_4.length co38)) (ok := (fun k_ => ((P0_0_ k_ ∨ P0_1_ k_ ∨ P0_2_ k_ ∨ P0_3_ k_) ∨ w.heap.size ≤ k_))) (by (with_reducible repeat (first | apply Kd.R_alloc | apply Kd.R_drewN | apply Kd.R_drew)); exact HO_323001.out) hg (.inl rfl)); have n2_ := Aside0.mk (Kd.R_over' (v := (.slice (some ⟨go36, 0, none⟩) x323003_4.length co38)) (by (with_reducible repeat (first | apply Kd.R_alloc | apply Kd.R_drewN | apply Kd.R_drew)); exact HO_323002.out) (Kd.R_typed HO_323003.out) (by decide) hg); have n3_ := Aside0.mk (hp_); have n4_ := Aside0.mk (blk_grown (g := gb322) (o := .cells #[.slice Ao15 x323000_1.length co15, u323001, .slice Ao33 x323002_3.length co33, .slice (some ⟨go36, 0, none⟩) x323003_4.length co38] 26 (0, 0)) (by (with_reducible repeat (first | refine blk_drewN ?_ _ | refine blk_drew ?_ | refine blk_alloc ?_ _)); exact BK322.out) hg (Kd.R_ne HO_323003.out BK322.out (by decide))); have n5_ := Aside0.mk ((by rw [hw]; exact below_set (HB.out) GB36.out : Below w0.heap.size w0 w40)); have n6_ := Aside0.mk (Kept.of_grown (S := (fun k_ => P0_0_ k_ ∨ P0_1_ k_ ∨ P0_2_ k_ ∨ P0_3_ k_)) hg (by repeat (first | (with_reducible first | exact HK.out | apply Kept.alloc | apply Kept.drewN | apply Kept.drew | refine Kept.setCell ?_ (.inr GW322.out) _) | exact HK.out)) (fun k_ e_ => (HO_323003.out.1 k_ e_).1)); clear HO_323000; clear HO_323001; clear HO_323002; clear HO_323003; clear BK322; clear HB; clear HK; have HO_323000 := n0_; have HO_323001 := n1_; have HO_323002 := n2_; have HO_323003 := n3_; have BK322 := n4_; have HB := n5_; have HK := n6_; clear n0_ n1_ n2_ n3_ n4_ n5_ n6_; clear hg hw hp_))
              go_roundg k4
              case measure => have := HK1.out; have := HK2.out; have := HK3.out; have := HK4.out; omega
              case rel => exact ⟨(wrap64 (x5_4 + 1)), (x323001_4), (y326), (u323001), (.slice (some ⟨go36, 0, none⟩) x323003_4.length co38), (by first | rfl | (simp; done) | (simp [*]; done)), H', ⟨by have := HK1.out; have := HK2.out; have := HK3.out; have := HK4.out; omega⟩, ⟨by (with_reducible repeat (first | apply Kd.R_alloc | apply Kd.R_drewN | apply Kd.R_drew)); exact HO_323000.out⟩, ⟨by (with_reducible repeat (first | apply Kd.R_alloc | apply Kd.R_drewN | apply Kd.R_drew)); exact HO_323001.out⟩, ⟨by (with_reducible repeat (first | apply Kd.R_alloc | apply Kd.R_drewN | apply Kd.R_drew)); exact HO_323002.out⟩, ⟨by (with_reducible repeat (first | apply Kd.R_alloc | apply Kd.R_drewN | apply Kd.R_drew)); exact HO_323003.out⟩, ⟨by (with_reducible repeat (first | refine blk_drewN ?_ _ | refine blk_drew ?_ | refine blk_alloc ?_ _)); exact BK322.out⟩, ⟨by repeat (first | (with_reducible first | exact HK.out | apply Kept.alloc | apply Kept.drewN | apply Kept.drew | refine Kept.setCell ?_ (.inr GW322.out) _) | exact HK.out)⟩, ⟨by repeat (first | (with_reducible first | exact HB.out | apply below_alloc | apply pw_below_drewN | apply below_drew1 | refine below_set ?_ GE322.out) | exact HB.out)⟩⟩
             ·rw [if_neg c35] at H
              exact absurd H (by simp)
            ·rw [if_neg c34] at H
             have c34b0 : decide (x5_4 < (x323003_4.length : Int)) = false := decide_eq_false c34
             clear c34
             by_cases c41 : x323000_1.length < 17592186044416
             ·rw [if_pos c41] at H
              have LMc41 := Aside0.mk c41
              clear c41
              obtain ⟨y327, hy327⟩ : ∃ y_ : List Int, y_ = (x323000_1 ++ [8]) := ⟨_, rfl⟩
              replace H : (if x323001_4.length < 17592186044416 then ((some (x323001_4 ++ [8] : List Int)).bind fun y330 => (if x323002_3.length < 8796093022208 then ((some (x323002_3 ++ [(⟨#[109, 111, 114, 101]⟩ : ByteArray)] : List ByteArray)).bind fun y333 => (if x323003_4.length < 17592186044416 then ((some (x323003_4 ++ [8] : List Int)).bind fun y336 => (if 0 ≤ (wrap64 ((y327.length : Int) - 1)) then (if (wrap64 ((y327.length : Int) - 1)) < (y327.length : Int) then (if 0 ≤ (wrap64 ((y330.length : Int) - 1)) then (if (wrap64 ((y330.length : Int) - 1)) < (y330.length : Int) then (if 0 ≤ (wrap64 ((y333.length : Int) - 1)) then (if (wrap64 ((y333.length : Int) - 1)) < (y333.length : Int) then (if 0 ≤ (wrap64 ((y336.length : Int) - 1)) then (if (wrap64 ((y336.length : Int) - 1)) < (y336.length : Int) then (some ()) else (none)) else (none)) else (none)) else (none)) else (none)) else (none)) else (none)) else (none))) else (none))) else (none))) else (none)) = some () := by first | (rw [hy327]; with_reducible exact H) | (have H2_ := (Option.bind_some _ _).symm.trans H; rw [hy327]; with_reducible exact H2_) | (have H2_ := (Option.bind_some _ _).symm.trans H; with_reducible exact H2_) | with_reducible exact H | (rw [hy327]; exact H) | exact H
              have Ny327 := Aside0.mk hy327
              clear hy327
              by_cases c42 : x323001_4.length < 17592186044416
              ·rw [if_pos c42] at H
               have LMc42 := Aside0.mk c42
               clear c42
               obtain ⟨y330, hy330⟩ : ∃ y_ : List Int, y_ = (x323001_4 ++ [8]) := ⟨_, rfl⟩
               replace H : (if x323002_3.length < 8796093022208 then ((some (x323002_3 ++ [(⟨#[109, 111, 114, 101]⟩ : ByteArray)] : List ByteArray)).bind fun y333 => (if x323003_4.length < 17592186044416 then ((some (x323003_4 ++ [8] : List Int)).bind fun y336 => (if 0 ≤ (wrap64 ((y327.length : Int) - 1)) then (if (wrap64 ((y327.length : Int) - 1)) < (y327.length : Int) then (if 0 ≤ (wrap64 ((y330.length : Int) - 1)) then (if (wrap64 ((y330.length : Int) - 1)) < (y330.length : Int) then (if 0 ≤ (wrap64 ((y333.length : Int) - 1)) then (if (wrap64 ((y333.length : Int) - 1)) < (y333.length : Int) then (if 0 ≤ (wrap64 ((y336.length : Int) - 1)) then (if (wrap64 ((y336.length : Int) - 1)) < (y336.length : Int) then (some ()) else (none)) else (none)) else (none)) else (none)) else (none)) else (none)) else (none)) else (none))) else (none))) else (none)) = some () := by first | (rw [hy330]; with_reducible exact H) | (have H2_ := (Option.bind_some _ _).symm.trans H; rw [hy330]; with_reducible exact H2_) | (have H2_ := (Option.bind_some _ _).symm.trans H; with_reducible exact H2_) | with_reducible exact H | (rw [hy330]; exact H) | exact H
               have Ny330 := Aside0.mk hy330
               clear hy330
               by_cases c43 : x323002_3.length < 8796093022208
               ·rw [if_pos c43] at H
                have LMc43 := Aside0.mk c43
                clear c43
                obtain ⟨y333, hy333⟩ : ∃ y_ : List ByteArray, y_ = (x323002_3 ++ [(⟨#[109, 111, 114, 101]⟩ : ByteArray)]) := ⟨_, rfl⟩
                replace H : (if x323003_4.length < 17592186044416 then ((some (x323003_4 ++ [8] : List Int)).bind fun y336 => (if 0 ≤ (wrap64 ((y327.length : Int) - 1)) then (if (wrap64 ((y327.length : Int) - 1)) < (y327.length : Int) then (if 0 ≤ (wrap64 ((y330.length : Int) - 1)) then (if (wrap64 ((y330.length : Int) - 1)) < (y330.length : Int) then (if 0 ≤ (wrap64 ((y333.length : Int) - 1)) then (if (wrap64 ((y333.length : Int) - 1)) < (y333.length : Int) then (if 0 ≤ (wrap64 ((y336.length : Int) - 1)) then (if (wrap64 ((y336.length : Int) - 1)) < (y336.length : Int) then (some ()) else (none)) else (none)) else (none)) else (none)) else (none)) else (none)) else (none)) else (none))) else (none)) = some () := by first | (rw [hy333]; with_reducible exact H) | (have H2_ := (Option.bind_some _ _).symm.trans H; rw [hy333]; with_reducible exact H2_) | (have H2_ := (Option.bind_some _ _).symm.trans H; with_reducible exact H2_) | with_reducible exact H | (rw [hy333]; exact H) | exact H
                have Ny333 := Aside0.mk hy333
                clear hy333
                by_cases c44 : x323003_4.length < 17592186044416
                ·rw [if_pos c44] at H
                 have LMc44 := Aside0.mk c44
                 clear c44
                 obtain ⟨y336, hy336⟩ : ∃ y_ : List Int, y_ = (x323003_4 ++ [8]) := ⟨_, rfl⟩
                 replace H : (if 0 ≤ (wrap64 ((y327.length : Int) - 1)) then (if (wrap64 ((y327.length : Int) - 1)) < (y327.length : Int) then (if 0 ≤ (wrap64 ((y330.length : Int) - 1)) then (if (wrap64 ((y330.length : Int) - 1)) < (y330.length : Int) then (if 0 ≤ (wrap64 ((y333.length : Int) - 1)) then (if (wrap64 ((y333.length : Int) - 1)) < (y333.length : Int) then (if 0 ≤ (wrap64 ((y336.length : Int) - 1)) then (if (wrap64 ((y336.length : Int) - 1)) < (y336.length : Int) then (some ()) else (none)) else (none)) else (none)) else (none)) else (none)) else (none)) else (none)) else (none)) = some () := by first | (rw [hy336]; with_reducible exact H) | (have H2_ := (Option.bind_some _ _).symm.trans H; rw [hy336]; with_reducible exact H2_) | (have H2_ := (Option.bind_some _ _).symm.trans H; with_reducible exact H2_) | with_reducible exact H | (rw [hy336]; exact H) | exact H
                 have Ny336 := Aside0.mk hy336
                 clear hy336
                 obtain ⟨ji45, hji45⟩ : ∃ j_ : Int, (wrap64 ((y327.length : Int) - 1)) = j_ := ⟨_, rfl⟩
                 replace H : (if 0 ≤ (ji45) then (if (ji45) < (y327.length : Int) then (if 0 ≤ (wrap64 ((y330.length : Int) - 1)) then (if (wrap64 ((y330.length : Int) - 1)) < (y330.length : Int) then (if 0 ≤ (wrap64 ((y333.length : Int) - 1)) then (if (wrap64 ((y333.length : Int) - 1)) < (y333.length : Int) then (if 0 ≤ (wrap64 ((y336.length : Int) - 1)) then (if (wrap64 ((y336.length : Int) - 1)) < (y336.length : Int) then (some ()) else (none)) else (none)) else (none)) else (none)) else (none)) else (none)) else (none)) else (none)) = some () := by first | (rw [hji45] at H; exact H) | (simp only [hji45] at H ⊢; exact H)
                 have hji45w : (IntKind.i64.wrap ((y327.length : Int) - 1)) = ji45 := (i64_w _).trans hji45
                 by_cases c46 : 0 ≤ (ji45)
                 ·rw [if_pos c46] at H
                  have c46b0 : decide (0 ≤ (ji45)) = true := decide_eq_true c46
                  clear c46
                  by_cases c47 : (ji45) < (y327.length : Int)
                  ·rw [if_pos c47] at H
                   have c47b0 : decide ((ji45) < (y327.length : Int)) = true := decide_eq_true c47
                   clear c47
                   obtain ⟨y339, hy339⟩ : ∃ y_ : List Int, y_ = (y327.set ((ji45) : Int).toNat 1) := ⟨_, rfl⟩
                   replace H : (if 0 ≤ (wrap64 ((y330.length : Int) - 1)) then (if (wrap64 ((y330.length : Int) - 1)) < (y330.length : Int) then (if 0 ≤ (wrap64 ((y333.length : Int) - 1)) then (if (wrap64 ((y333.length : Int) - 1)) < (y333.length : Int) then (if 0 ≤ (wrap64 ((y336.length : Int) - 1)) then (if (wrap64 ((y336.length : Int) - 1)) < (y336.length : Int) then (some ()) else (none)) else (none)) else (none)) else (none)) else (none)) else (none)) = some () := by first | (rw [hy339]; with_reducible exact H) | (have H2_ := (Option.bind_some _ _).symm.trans H; rw [hy339]; with_reducible exact H2_) | (have H2_ := (Option.bind_some _ _).symm.trans H; with_reducible exact H2_) | with_reducible exact H | (rw [hy339]; exact H) | exact H
                   have Ny339 := Aside0.mk hy339
                   clear hy339
                   obtain ⟨ji49, hji49⟩ : ∃ j_ : Int, (wrap64 ((y330.length : Int) - 1)) = j_ := ⟨_, rfl⟩
                   replace H : (if 0 ≤ (ji49) then (if (ji49) < (y330.length : Int) then (if 0 ≤ (wrap64 ((y333.length : Int) - 1)) then (if (wrap64 ((y333.length : Int) - 1)) < (y333.length : Int) then (if 0 ≤ (wrap64 ((y336.length : Int) - 1)) then (if (wrap64 ((y336.length : Int) - 1)) < (y336.length : Int) then (some ()) else (none)) else (none)) else (none)) else (none)) else (none)) else (none)) = some () := by first | (rw [hji49] at H; exact H) | (simp only [hji49] at H ⊢; exact H)
                   have hji49w : (IntKind.i64.wrap ((y330.length : Int) - 1)) = ji49 := (i64_w _).trans hji49
                   by_cases c50 : 0 ≤ (ji49)
                   ·rw [if_pos c50] at H
                    have c50b0 : decide (0 ≤ (ji49)) = true := decide_eq_true c50
                    clear c50
                    by_cases c51 : (ji49) < (y330.length : Int)
                    ·rw [if_pos c51] at H
                     have c51b0 : decide ((ji49) < (y330.length : Int)) = true := decide_eq_true c51
                     clear c51
                     obtain ⟨y340, hy340⟩ : ∃ y_ : List Int, y_ = (y330.set ((ji49) : Int).toNat 1) := ⟨_, rfl⟩
                     replace H : (if 0 ≤ (wrap64 ((y333.length : Int) - 1)) then (if (wrap64 ((y333.length : Int) - 1)) < (y333.length : Int) then (if 0 ≤ (wrap64 ((y336.length : Int) - 1)) then (if (wrap64 ((y336.length : Int) - 1)) < (y336.length : Int) then (some ()) else (none)) else (none)) else (none)) else (none)) = some () := by first | (rw [hy340]; with_reducible exact H) | (have H2_ := (Option.bind_some _ _).symm.trans H; rw [hy340]; with_reducible exact H2_) | (have H2_ := (Option.bind_some _ _).symm.trans H; with_reducible exact H2_) | with_reducible exact H | (rw [hy340]; exact H) | exact H
                     have Ny340 := Aside0.mk hy340
                     clear hy340
                     obtain ⟨ji53, hji53⟩ : ∃ j_ : Int, (wrap64 ((y333.length : Int) - 1)) = j_ := ⟨_, rfl⟩
                     replace H : (if 0 ≤ (ji53) then (if (ji53) < (y333.length : Int) then (if 0 ≤ (wrap64 ((y336.length : Int) - 1)) then (if (wrap64 ((y336.length : Int) - 1)) < (y336.length : Int) then (some ()) else (none)) else (none)) else (none)) else (none)) = some () := by first | (rw [hji53] at H; exact H) | (simp only [hji53] at H ⊢; exact H)
                     have hji53w : (IntKind.i64.wrap ((y333.length : Int) - 1)) = ji53 := (i64_w _).trans hji53
                     by_cases c54 : 0 ≤ (ji53)
                     ·rw [if_pos c54] at H
                      have c54b0 : decide (0 ≤ (ji53)) = true := decide_eq_true c54
                      clear c54
                      by_cases c55 : (ji53) < (y333.length : Int)
                      ·rw [if_pos c55] at H
                       have c55b0 : decide ((ji53) < (y333.length : Int)) = true := decide_eq_true c55
                       clear c55
                       obtain ⟨y341, hy341⟩ : ∃ y_ : List ByteArray, y_ = (y333.set ((ji53) : Int).toNat (⟨#[103, 114, 111, 119, 110]⟩ : ByteArray)) := ⟨_, rfl⟩
                       replace H : (if 0 ≤ (wrap64 ((y336.length : Int) - 1)) then (if (wrap64 ((y336.length : Int) - 1)) < (y336.length : Int) then (some ()) else (none)) else (none)) = some () := by first | (rw [hy341]; with_reducible exact H) | (have H2_ := (Option.bind_some _ _).symm.trans H; rw [hy341]; with_reducible exact H2_) | (have H2_ := (Option.bind_some _ _).symm.trans H; with_reducible exact H2_) | with_reducible exact H | (rw [hy341]; exact H) | exact H
                       have Ny341 := Aside0.mk hy341
                       clear hy341
                       obtain ⟨ji57, hji57⟩ : ∃ j_ : Int, (wrap64 ((y336.length : Int) - 1)) = j_ := ⟨_, rfl⟩
                       replace H : (if 0 ≤ (ji57) then (if (ji57) < (y336.length : Int) then (some ()) else (none)) else (none)) = some () := by first | (rw [hji57] at H; exact H) | (simp only [hji57] at H ⊢; exact H)
                       have hji57w : (IntKind.i64.wrap ((y336.length : Int) - 1)) = ji57 := (i64_w _).trans hji57
                       by_cases c58 : 0 ≤ (ji57)
                       ·rw [if_pos c58] at H
                        have c58b0 : decide (0 ≤ (ji57)) = true := decide_eq_true c58
                        clear c58
                        by_cases c59 : (ji57) < (y336.length : Int)
                        ·rw [if_pos c59] at H
                         have c59b0 : decide ((ji57) < (y336.length : Int)) = true := decide_eq_true c59
                         clear c59
                         obtain ⟨y342, hy342⟩ : ∃ y_ : List Int, y_ = (y336.set ((ji57) : Int).toNat 1) := ⟨_, rfl⟩
                         replace H : (some ()) = some () := by first | (rw [hy342]; with_reducible exact H) | (have H2_ := (Option.bind_some _ _).symm.trans H; rw [hy342]; with_reducible exact H2_) | (have H2_ := (Option.bind_some _ _).symm.trans H; with_reducible exact H2_) | with_reducible exact H | (rw [hy342]; exact H) | exact H
                         have Ny342 := Aside0.mk hy342
                         clear hy342
                         have hcz61_0 : wr.cell? ⟨gb322, 0, none⟩ = some (.slice Ao15 x323000_1.length co15) := (blk_cell BK322.out 0).trans rfl
                         have hcz61_1 : wr.cell? ⟨gb322, 1, none⟩ = some (u323001) := (blk_cell BK322.out 1).trans rfl
                         have hcz61_2 : wr.cell? ⟨gb322, 2, none⟩ = some (.slice Ao33 x323002_3.length co33) := (blk_cell BK322.out 2).trans rfl
                         have hcz61_3 : wr.cell? ⟨gb322, 3, none⟩ = some (u323003) := (blk_cell BK322.out 3).trans rfl
                         have hfz61_0 := blk_frozen BK322.out 0
                         have hfz61_1 := blk_frozen BK322.out 1
                         have hfz61_2 := blk_frozen BK322.out 2
                         have hfz61_3 := blk_frozen BK322.out 3
                         obtain ⟨Ao62, co62, eo62⟩ := Kd.R_slice HO_323003.out
                         subst eo62
                         go_wp2_with (first | ((with_reducible refine gate_builtin (b := .append) (xs := #[.tmp 55, .tmp 56]) rfl ?_); at_builtin; refine Kd.R_append (Kd.int .u64) (w0 := w0) w0.heap.size rfl (.tmp 55) (.tmp 56) 22 33 (.int .u64 0) 8 rfl Tryd.underlying22 info33 rfl (by decide) (by omega) (.slice Ao15 x323000_1.length co15) x323000_1 8 [.int .u64 8] (fun k_ => ((P0_0_ k_ ∨ P0_1_ k_ ∨ P0_2_ k_ ∨ P0_3_ k_) ∨ w.heap.size ≤ k_)) (fun _ => False) rfl rfl ?aP (fun _ hk => hk.elim) ?aF ?aO ?aB ?aS ?aL ?_; (case aP => exact rfl); (case aB => exact (by repeat (first | (with_reducible first | exact HB.out | apply below_alloc | apply pw_below_drewN | apply below_drew1 | refine below_set ?_ GE322.out) | exact HB.out))); (case aF => exact (fun k_ hk => (.inr (Nat.le_trans (by first | exact HK.out.1 | exact (show Kept w _ (fun k_ => P0_0_ k_ ∨ P0_1_ k_ ∨ P0_2_ k_ ∨ P0_3_ k_) from by repeat (first | (with_reducible first | exact HK.out | apply Kept.alloc | apply Kept.drewN | apply Kept.drew | refine Kept.setCell ?_ (.inr GW322.out) _) | exact HK.out)).1) hk)))); (case aO => exact (by (with_reducible repeat (first | apply Kd.R_alloc | apply Kd.R_drewN | apply Kd.R_drew)); exact HO_323000.out)); (case aS => exact (below_size (by repeat (first | (with_reducible first | exact HB.out | apply below_alloc | apply pw_below_drewN | apply below_drew1 | refine below_set ?_ GE322.out) | exact HB.out)))); (case aL => have := LMc41.out; omega); intro v328 w63 ho hb hg hat; rw [← Ny327.out] at ho; have n0_ := Aside0.mk (Kd.R_over' (by (with_reducible repeat (first | apply Kd.R_alloc | apply Kd.R_drewN | apply Kd.R_drew)); exact HO_323001.out) (Kd.R_typed (by (with_reducible repeat (first | apply Kd.R_alloc | apply Kd.R_drewN | apply Kd.R_drew)); exact HO_323000.out)) (by decide) hg); have n1_ := Aside0.mk (Kd.R_over' (by (with_reducible repeat (first | apply Kd.R_alloc | apply Kd.R_drewN | apply Kd.R_drew)); exact HO_323002.out) (Kd.R_typed (by (with_reducible repeat (first | apply Kd.R_alloc | apply Kd.R_drewN | apply Kd.R_drew)); exact HO_323000.out)) (by decide) hg); have n2_ := Aside0.mk (Kd.R_over' (by (with_reducible repeat (first | apply Kd.R_alloc | apply Kd.R_drewN | apply Kd.R_drew)); exact HO_323003.out) (Kd.R_typed (by (with_reducible repeat (first | apply Kd.R_alloc | apply Kd.R_drewN | apply Kd.R_drew)); exact HO_323000.out)) (by decide) hg); have n3_ := Aside0.mk (blk_grown (g := gb322) (o := .cells #[.slice Ao15 x323000_1.length co15, u323001, .slice Ao33 x323002_3.length co33, .slice Ao62 x323003_4.length co62] 26 (0, 0)) (by (with_reducible repeat (first | refine blk_drewN ?_ _ | refine blk_drew ?_ | refine blk_alloc ?_ _)); exact BK322.out) hg (Kd.R_ne HO_323000.out BK322.out (by decide))); have n4_ := Aside0.mk (hb); have n5_ := Aside0.mk (Kept.of_grown (S := (fun k_ => P0_0_ k_ ∨ P0_1_ k_ ∨ P0_2_ k_ ∨ P0_3_ k_)) hg (by repeat (first | (with_reducible first | exact HK.out | apply Kept.alloc | apply Kept.drewN | apply Kept.drew | refine Kept.setCell ?_ (.inr GW322.out) _) | exact HK.out)) (fun k_ e_ => (HO_323000.out.1 k_ e_))); have n6_ := Aside0.mk (ho); clear HO_323001; clear HO_323002; clear HO_323003; clear BK322; clear HB; clear HK; clear HO_323000; have HO_323001 := n0_; have HO_323002 := n1_; have HO_323003 := n2_; have BK322 := n3_; have HB := n4_; have HK := n5_; have HO329 := n6_; clear n0_ n1_ n2_ n3_ n4_ n5_ n6_; clear ho hb hg hat; have hcz64_0 : w63.cell? ⟨gb322, 0, none⟩ = some (.slice Ao15 x323000_1.length co15) := (blk_cell BK322.out 0).trans rfl; have hcz64_1 : w63.cell? ⟨gb322, 1, none⟩ = some (u323001) := (blk_cell BK322.out 1).trans rfl; have hcz64_2 : w63.cell? ⟨gb322, 2, none⟩ = some (.slice Ao33 x323002_3.length co33) := (blk_cell BK322.out 2).trans rfl; have hcz64_3 : w63.cell? ⟨gb322, 3, none⟩ = some (.slice Ao62 x323003_4.length co62) := (blk_cell BK322.out 3).trans rfl; have hfz64_0 := blk_frozen BK322.out 0; have hfz64_1 := blk_frozen BK322.out 1; have hfz64_2 := blk_frozen BK322.out 2; have hfz64_3 := blk_frozen BK322.out 3) | ((with_reducible refine gate_builtin (b := .append) (xs := #[.tmp 59, .tmp 60]) rfl ?_); at_builtin; refine Kd.R_append (Kd.int .i64) (w0 := w0) w0.heap.size rfl (.tmp 59) (.tmp 60) 23 3 (.int .i64 0) 8 rfl Tryd.underlying23 info3 rfl (by decide) (by omega) u323001 x323001_4 8 [.int .i64 8] (fun k_ => ((P0_0_ k_ ∨ P0_1_ k_ ∨ P0_2_ k_ ∨ P0_3_ k_) ∨ w.heap.size ≤ k_) ∧ some k_ ≠ (.slice Ao62 x323003_4.length co62 : Value).ownBlock) (fun _ => False) rfl rfl ?aP (fun _ hk => hk.elim) ?aF ?aO ?aB ?aS ?aL ?_; (case aP => exact rfl); (case aB => exact (by repeat (first | (with_reducible first | exact HB.out | apply below_alloc | apply pw_below_drewN | apply below_drew1 | refine below_set ?_ GE322.out) | exact HB.out))); (case aF => exact (fun k_ hk => ⟨(.inr (Nat.le_trans (by first | exact HK.out.1 | exact (show Kept w _ (fun k_ => P0_0_ k_ ∨ P0_1_ k_ ∨ P0_2_ k_ ∨ P0_3_ k_) from by repeat (first | (with_reducible first | exact HK.out | apply Kept.alloc | apply Kept.drewN | apply Kept.drew | refine Kept.setCell ?_ (.inr GW322.out) _) | exact HK.out)).1) hk)), Kd.fresh' (Kd.R_lt (by (with_reducible repeat (first | apply Kd.R_alloc | apply Kd.R_drewN | apply Kd.R_drew)); exact HO_323003.out)) k_ hk⟩)); (case aO => exact (by (with_reducible repeat (first | apply Kd.R_alloc | apply Kd.R_drewN | apply Kd.R_drew)); exact HO_323001.out)); (case aS => exact (below_size (by repeat (first | (with_reducible first | exact HB.out | apply below_alloc | apply pw_below_drewN | apply below_drew1 | refine below_set ?_ GE322.out) | exact HB.out)))); (case aL => have := LMc42.out; omega); intro v331 w65 ho hb hg hat; rw [← Ny330.out] at ho; have n0_ := Aside0.mk (Kd.R_over' (by (with_reducible repeat (first | apply Kd.R_alloc | apply Kd.R_drewN | apply Kd.R_drew)); exact HO_323002.out) (Kd.R_typed (by (with_reducible repeat (first | apply Kd.R_alloc | apply Kd.R_drewN | apply Kd.R_drew)); exact HO_323001.out)) (by decide) hg); have n1_ := Aside0.mk (Kd.R_after (ok := (fun k_ => ((P0_0_ k_ ∨ P0_1_ k_ ∨ P0_2_ k_ ∨ P0_3_ k_) ∨ w.heap.size ≤ k_))) (by (with_reducible repeat (first | apply Kd.R_alloc | apply Kd.R_drewN | apply Kd.R_drew)); exact HO_323003.out) hg hat); have n2_ := Aside0.mk (blk_grown (g := gb322) (o := .cells #[.slice Ao15 x323000_1.length co15, u323001, .slice Ao33 x323002_3.length co33, .slice Ao62 x323003_4.length co62] 26 (0, 0)) (by (with_reducible repeat (first | refine blk_drewN ?_ _ | refine blk_drew ?_ | refine blk_alloc ?_ _)); exact BK322.out) hg (Kd.R_ne HO_323001.out BK322.out (by decide))); have n3_ := Aside0.mk (Kd.R_over' (by (with_reducible repeat (first | apply Kd.R_alloc | apply Kd.R_drewN | apply Kd.R_drew)); exact HO329.out) (Kd.R_typed (by (with_reducible repeat (first | apply Kd.R_alloc | apply Kd.R_drewN | apply Kd.R_drew)); exact HO_323001.out)) (by decide) hg); have n4_ := Aside0.mk (hb); have n5_ := Aside0.mk (Kept.of_grown (S := (fun k_ => P0_0_ k_ ∨ P0_1_ k_ ∨ P0_2_ k_ ∨ P0_3_ k_)) hg (by repeat (first | (with_reducible first | exact HK.out | apply Kept.alloc | apply Kept.drewN | apply Kept.drew | refine Kept.setCell ?_ (.inr GW322.out) _) | exact HK.out)) (fun k_ e_ => (HO_323001.out.1 k_ e_).1)); have n6_ := Aside0.mk (ho); clear HO_323002; clear HO_323003; clear BK322; clear HO329; clear HB; clear HK; clear HO_323001; have HO_323002 := n0_; have HO_323003 := n1_; have BK322 := n2_; have HO329 := n3_; have HB := n4_; have HK := n5_; have HO332 := n6_; clear n0_ n1_ n2_ n3_ n4_ n5_ n6_; clear ho hb hg hat; have hcz66_0 : w65.cell? ⟨gb322, 0, none⟩ = some (.slice Ao15 x323000_1.length co15) := (blk_cell BK322.out 0).trans rfl; have hcz66_1 : w65.cell? ⟨gb322, 1, none⟩ = some (u323001) := (blk_cell BK322.out 1).trans rfl; have hcz66_2 : w65.cell? ⟨gb322, 2, none⟩ = some (.slice Ao33 x323002_3.length co33) := (blk_cell BK322.out 2).trans rfl; have hcz66_3 : w65.cell? ⟨gb322, 3, none⟩ = some (.slice Ao62 x323003_4.length co62) := (blk_cell BK322.out 3).trans rfl; have hfz66_0 := blk_frozen BK322.out 0; have hfz66_1 := blk_frozen BK322.out 1; have hfz66_2 := blk_frozen BK322.out 2; have hfz66_3 := blk_frozen BK322.out 3) | ((with_reducible refine gate_builtin (b := .append) (xs := #[.tmp 63, .tmp 64]) rfl ?_); at_builtin; refine Kd.R_append Kd.string (w0 := w0) w0.heap.size rfl (.tmp 63) (.tmp 64) 24 9 (.string ⟨#[]⟩) 16 rfl Tryd.underlying24 info9 rfl (by decide) (by omega) (.slice Ao33 x323002_3.length co33) x323002_3 (⟨#[109, 111, 114, 101]⟩ : ByteArray) [.string (⟨#[109, 111, 114, 101]⟩ : ByteArray)] (fun k_ => ((P0_0_ k_ ∨ P0_1_ k_ ∨ P0_2_ k_ ∨ P0_3_ k_) ∨ w.heap.size ≤ k_)) (fun _ => False) rfl rfl ?aP (fun _ hk => hk.elim) ?aF ?aO ?aB ?aS ?aL ?_; (case aP => exact rfl); (case aB => exact (by repeat (first | (with_reducible first | exact HB.out | apply below_alloc | apply pw_below_drewN | apply below_drew1 | refine below_set ?_ GE322.out) | exact HB.out))); (case aF => exact (fun k_ hk => (.inr (Nat.le_trans (by first | exact HK.out.1 | exact (show Kept w _ (fun k_ => P0_0_ k_ ∨ P0_1_ k_ ∨ P0_2_ k_ ∨ P0_3_ k_) from by repeat (first | (with_reducible first | exact HK.out | apply Kept.alloc | apply Kept.drewN | apply Kept.drew | refine Kept.setCell ?_ (.inr GW322.out) _) | exact HK.out)).1) hk)))); (case aO => exact (by (with_reducible repeat (first | apply Kd.R_alloc | apply Kd.R_drewN | apply Kd.R_drew)); exact HO_323002.out)); (case aS => exact (below_size (by repeat (first | (with_reducible first | exact HB.out | apply below_alloc | apply pw_below_drewN | apply below_drew1 | refine below_set ?_ GE322.out) | exact HB.out)))); (case aL => have := LMc43.out; omega); intro v334 w67 ho hb hg hat; rw [← Ny333.out] at ho; have n0_ := Aside0.mk (Kd.R_over' (by (with_reducible repeat (first | apply Kd.R_alloc | apply Kd.R_drewN | apply Kd.R_drew)); exact HO_323003.out) (Kd.R_typed (by (with_reducible repeat (first | apply Kd.R_alloc | apply Kd.R_drewN | apply Kd.R_drew)); exact HO_323002.out)) (by decide) hg); have n1_ := Aside0.mk (blk_grown (g := gb322) (o := .cells #[.slice Ao15 x323000_1.length co15, u323001, .slice Ao33 x323002_3.length co33, .slice Ao62 x323003_4.length co62] 26 (0, 0)) (by (with_reducible repeat (first | refine blk_drewN ?_ _ | refine blk_drew ?_ | refine blk_alloc ?_ _)); exact BK322.out) hg (Kd.R_ne HO_323002.out BK322.out (by decide))); have n2_ := Aside0.mk (Kd.R_over' (by (with_reducible repeat (first | apply Kd.R_alloc | apply Kd.R_drewN | apply Kd.R_drew)); exact HO329.out) (Kd.R_typed (by (with_reducible repeat (first | apply Kd.R_alloc | apply Kd.R_drewN | apply Kd.R_drew)); exact HO_323002.out)) (by decide) hg); have n3_ := Aside0.mk (Kd.R_over' (by (with_reducible repeat (first | apply Kd.R_alloc | apply Kd.R_drewN | apply Kd.R_drew)); exact HO332.out) (Kd.R_typed (by (with_reducible repeat (first | apply Kd.R_alloc | apply Kd.R_drewN | apply Kd.R_drew)); exact HO_323002.out)) (by decide) hg); have n4_ := Aside0.mk (hb); have n5_ := Aside0.mk (Kept.of_grown (S := (fun k_ => P0_0_ k_ ∨ P0_1_ k_ ∨ P0_2_ k_ ∨ P0_3_ k_)) hg (by repeat (first | (with_reducible first | exact HK.out | apply Kept.alloc | apply Kept.drewN | apply Kept.drew | refine Kept.setCell ?_ (.inr GW322.out) _) | exact HK.out)) (fun k_ e_ => (HO_323002.out.1 k_ e_))); have n6_ := Aside0.mk (ho); clear HO_323003; clear BK322; clear HO329; clear HO332; clear HB; clear HK; clear HO_323002; have HO_323003 := n0_; have BK322 := n1_; have HO329 := n2_; have HO332 := n3_; have HB := n4_; have HK := n5_; have HO335 := n6_; clear n0_ n1_ n2_ n3_ n4_ n5_ n6_; clear ho hb hg hat; have hcz68_0 : w67.cell? ⟨gb322, 0, none⟩ = some (.slice Ao15 x323000_1.length co15) := (blk_cell BK322.out 0).trans rfl; have hcz68_1 : w67.cell? ⟨gb322, 1, none⟩ = some (u323001) := (blk_cell BK322.out 1).trans rfl; have hcz68_2 : w67.cell? ⟨gb322, 2, none⟩ = some (.slice Ao33 x323002_3.length co33) := (blk_cell BK322.out 2).trans rfl; have hcz68_3 : w67.cell? ⟨gb322, 3, none⟩ = some (.slice Ao62 x323003_4.length co62) := (blk_cell BK322.out 3).trans rfl; have hfz68_0 := blk_frozen BK322.out 0; have hfz68_1 := blk_frozen BK322.out 1; have hfz68_2 := blk_frozen BK322.out 2; have hfz68_3 := blk_frozen BK322.out 3) | ((with_reducible refine gate_builtin (b := .append) (xs := #[.tmp 67, .tmp 68]) rfl ?_); at_builtin; refine Kd.R_append (Kd.int .i64) (w0 := w0) w0.heap.size rfl (.tmp 67) (.tmp 68) 23 3 (.int .i64 0) 8 rfl Tryd.underlying23 info3 rfl (by decide) (by omega) (.slice Ao62 x323003_4.length co62) x323003_4 8 [.int .i64 8] (fun k_ => ((P0_0_ k_ ∨ P0_1_ k_ ∨ P0_2_ k_ ∨ P0_3_ k_) ∨ w.heap.size ≤ k_) ∧ some k_ ≠ (v331 : Value).ownBlock) (fun _ => False) rfl rfl ?aP (fun _ hk => hk.elim) ?aF ?aO ?aB ?aS ?aL ?_; (case aP => exact rfl); (case aB => exact (by repeat (first | (with_reducible first | exact HB.out | apply below_alloc | apply pw_below_drewN | apply below_drew1 | refine below_set ?_ GE322.out) | exact HB.out))); (case aF => exact (fun k_ hk => ⟨(.inr (Nat.le_trans (by first | exact HK.out.1 | exact (show Kept w _ (fun k_ => P0_0_ k_ ∨ P0_1_ k_ ∨ P0_2_ k_ ∨ P0_3_ k_) from by repeat (first | (with_reducible first | exact HK.out | apply Kept.alloc | apply Kept.drewN | apply Kept.drew | refine Kept.setCell ?_ (.inr GW322.out) _) | exact HK.out)).1) hk)), Kd.fresh' (Kd.R_lt (by (with_reducible repeat (first | apply Kd.R_alloc | apply Kd.R_drewN | apply Kd.R_drew)); exact HO332.out)) k_ hk⟩)); (case aO => exact (by (with_reducible repeat (first | apply Kd.R_alloc | apply Kd.R_drewN | apply Kd.R_drew)); exact HO_323003.out)); (case aS => exact (below_size (by repeat (first | (with_reducible first | exact HB.out | apply below_alloc | apply pw_below_drewN | apply below_drew1 | refine below_set ?_ GE322.out) | exact HB.out)))); (case aL => have := LMc44.out; omega); intro v337 w69 ho hb hg hat; rw [← Ny336.out] at ho; have n0_ := Aside0.mk (blk_grown (g := gb322) (o := .cells #[.slice Ao15 x323000_1.length co15, u323001, .slice Ao33 x323002_3.length co33, .slice Ao62 x323003_4.length co62] 26 (0, 0)) (by (with_reducible repeat (first | refine blk_drewN ?_ _ | refine blk_drew ?_ | refine blk_alloc ?_ _)); exact BK322.out) hg (Kd.R_ne HO_323003.out BK322.out (by decide))); have n1_ := Aside0.mk (Kd.R_over' (by (with_reducible repeat (first | apply Kd.R_alloc | apply Kd.R_drewN | apply Kd.R_drew)); exact HO329.out) (Kd.R_typed (by (with_reducible repeat (first | apply Kd.R_alloc | apply Kd.R_drewN | apply Kd.R_drew)); exact HO_323003.out)) (by decide) hg); have n2_ := Aside0.mk (Kd.R_after (ok := (fun k_ => ((P0_0_ k_ ∨ P0_1_ k_ ∨ P0_2_ k_ ∨ P0_3_ k_) ∨ w.heap.size ≤ k_))) (by (with_reducible repeat (first | apply Kd.R_alloc | apply Kd.R_drewN | apply Kd.R_drew)); exact HO332.out) hg hat); have n3_ := Aside0.mk (Kd.R_over' (by (with_reducible repeat (first | apply Kd.R_alloc | apply Kd.R_drewN | apply Kd.R_drew)); exact HO335.out) (Kd.R_typed (by (with_reducible repeat (first | apply Kd.R_alloc | apply Kd.R_drewN | apply Kd.R_drew)); exact HO_323003.out)) (by decide) hg); have n4_ := Aside0.mk (hb); have n5_ := Aside0.mk (Kept.of_grown (S := (fun k_ => P0_0_ k_ ∨ P0_1_ k_ ∨ P0_2_ k_ ∨ P0_3_ k_)) hg (by repeat (first | (with_reducible first | exact HK.out | apply Kept.alloc | apply Kept.drewN | apply Kept.drew | refine Kept.setCell ?_ (.inr GW322.out) _) | exact HK.out)) (fun k_ e_ => (HO_323003.out.1 k_ e_).1)); have n6_ := Aside0.mk (ho); clear BK322; clear HO329; clear HO332; clear HO335; clear HB; clear HK; clear HO_323003; have BK322 := n0_; have HO329 := n1_; have HO332 := n2_; have HO335 := n3_; have HB := n4_; have HK := n5_; have HO338 := n6_; clear n0_ n1_ n2_ n3_ n4_ n5_ n6_; clear ho hb hg hat; obtain ⟨Ao70, co70, eo70⟩ := Kd.R_slice HO329.out; subst eo70; have p48 : 0 ≤ ((ji45) : Int) := of_decide_eq_true (by first | (with_reducible assumption) | assumption); have q48 : ((ji45) : Int) < ((y327.length : Int) : Int) := of_decide_eq_true (by first | (with_reducible assumption) | assumption); obtain ⟨go48, co48, eo48, gb48, gl48, cl48, HG48⟩ := Kd.R_form HO329.out (by omega); (first | cases eo48 | (injection eo48 with ea_ en_ ec_; (first | subst ea_ | (injection ea_ with ea_; subst ea_)); subst ec_; clear en_)); have GB48 := Aside0.mk gb48; have GG48 := Aside0.mk HG48; clear gb48 gl48 HG48; have HMgo48 := Aside0.mk (show ((P0_0_ go48 ∨ P0_1_ go48 ∨ P0_2_ go48 ∨ P0_3_ go48) ∨ w.heap.size ≤ go48) from (HO329.out.1 _ rfl)); obtain ⟨hx48_0, hf48_0⟩ := Kd.R_celln 0 HO329.out ((ji45) : Int) p48 q48; replace p48 := eq_true p48; replace q48 := eq_true q48; obtain ⟨hy71_, hz71_⟩ := Kd.R_celln 0 HO329.out ((ji45) : Int) (of_decide_eq_true (by first | (with_reducible assumption) | assumption)) (of_decide_eq_true (by first | (with_reducible assumption) | assumption)); have HP71 := Kd.R_putg HO329.out ((ji45) : Int) 1) | ((with_reducible refine gate_store (t := 33) (p := 74) rfl ?_); refine store_event (t := 33) (p := 74) (v := ?vo_w72) (w1 := (w69.setCell ⟨go48, ((ji45) : Int).toNat, none⟩ (.int .u64 1))) ?hg ?ho ?hn ?hr ?_; (case ho => rfl); (case hg => rfl); (case hn => rfl); (case hr => first | (go_simp; done) | (go_simp; rfl)); intro w72 hw; have hg : w69.grownBy w72 (some go48) := (by rw [hw]; exact HP71.2); have hp_ : Kd.R (Kd.int .u64) 33 w72 w0.heap.size (fun k_ => ((P0_0_ k_ ∨ P0_1_ k_ ∨ P0_2_ k_ ∨ P0_3_ k_) ∨ w.heap.size ≤ k_)) (.slice (some ⟨go48, 0, none⟩) y327.length co70) y339 := (by rw [hw, Ny339.out]; exact HP71.1); clear HP71; have n0_ := Aside0.mk (blk_grown (g := gb322) (o := .cells #[.slice Ao15 x323000_1.length co15, u323001, .slice Ao33 x323002_3.length co33, .slice Ao62 x323003_4.length co62] 26 (0, 0)) (by (with_reducible repeat (first | refine blk_drewN ?_ _ | refine blk_drew ?_ | refine blk_alloc ?_ _)); exact BK322.out) hg (Kd.R_ne HO329.out BK322.out (by decide))); have n1_ := Aside0.mk (hp_); have n2_ := Aside0.mk (Kd.R_over' (v := (.slice (some ⟨go48, 0, none⟩) y327.length co70)) (by (with_reducible repeat (first | apply Kd.R_alloc | apply Kd.R_drewN | apply Kd.R_drew)); exact HO332.out) (Kd.R_typed HO329.out) (by decide) hg); have n3_ := Aside0.mk (Kd.R_over' (v := (.slice (some ⟨go48, 0, none⟩) y327.length co70)) (by (with_reducible repeat (first | apply Kd.R_alloc | apply Kd.R_drewN | apply Kd.R_drew)); exact HO335.out) (Kd.R_typed HO329.out) (by decide) hg); have n4_ := Aside0.mk (Kd.R_over' (v := (.slice (some ⟨go48, 0, none⟩) y327.length co70)) (by (with_reducible repeat (first | apply Kd.R_alloc | apply Kd.R_drewN | apply Kd.R_drew)); exact HO338.out) (Kd.R_typed HO329.out) (by decide) hg); have n5_ := Aside0.mk ((by rw [hw]; exact below_set (HB.out) GB48.out : Below w0.heap.size w0 w72)); have n6_ := Aside0.mk (Kept.of_grown (S := (fun k_ => P0_0_ k_ ∨ P0_1_ k_ ∨ P0_2_ k_ ∨ P0_3_ k_)) hg (by repeat (first | (with_reducible first | exact HK.out | apply Kept.alloc | apply Kept.drewN | apply Kept.drew | refine Kept.setCell ?_ (.inr GW322.out) _) | exact HK.out)) (fun k_ e_ => (HO329.out.1 k_ e_))); clear BK322; clear HO329; clear HO332; clear HO335; clear HO338; clear HB; clear HK; have BK322 := n0_; have HO329 := n1_; have HO332 := n2_; have HO335 := n3_; have HO338 := n4_; have HB := n5_; have HK := n6_; clear n0_ n1_ n2_ n3_ n4_ n5_ n6_; clear hg hw hp_; obtain ⟨Ao73, co73, eo73⟩ := Kd.R_slice HO332.out; subst eo73; have p52 : 0 ≤ ((ji49) : Int) := of_decide_eq_true (by first | (with_reducible assumption) | assumption); have q52 : ((ji49) : Int) < ((y330.length : Int) : Int) := of_decide_eq_true (by first | (with_reducible assumption) | assumption); obtain ⟨go52, co52, eo52, gb52, gl52, cl52, HG52⟩ := Kd.R_form HO332.out (by omega); (first | cases eo52 | (injection eo52 with ea_ en_ ec_; (first | subst ea_ | (injection ea_ with ea_; subst ea_)); subst ec_; clear en_)); have GB52 := Aside0.mk gb52; have GG52 := Aside0.mk HG52; clear gb52 gl52 HG52; have HMgo52 := Aside0.mk (show ((P0_0_ go52 ∨ P0_1_ go52 ∨ P0_2_ go52 ∨ P0_3_ go52) ∨ w.heap.size ≤ go52) from (HO332.out.1 _ rfl).1); obtain ⟨hx52_0, hf52_0⟩ := Kd.R_celln 0 HO332.out ((ji49) : Int) p52 q52; replace p52 := eq_true p52; replace q52 := eq_true q52; obtain ⟨hy74_, hz74_⟩ := Kd.R_celln 0 HO332.out ((ji49) : Int) (of_decide_eq_true (by first | (with_reducible assumption) | assumption)) (of_decide_eq_true (by first | (with_reducible assumption) | assumption)); have HP74 := Kd.R_putg HO332.out ((ji49) : Int) 1) | ((with_reducible refine gate_store (t := 3) (p := 79) rfl ?_); refine store_event (t := 3) (p := 79) (v := ?vo_w75) (w1 := (w72.setCell ⟨go52, ((ji49) : Int).toNat, none⟩ (.int .i64 1))) ?hg ?ho ?hn ?hr ?_; (case ho => rfl); (case hg => rfl); (case hn => rfl); (case hr => first | (go_simp; done) | (go_simp; rfl)); intro w75 hw; have hg : w72.grownBy w75 (some go52) := (by rw [hw]; exact HP74.2); have hp_ : Kd.R (Kd.int .i64) 3 w75 w0.heap.size (fun k_ => ((P0_0_ k_ ∨ P0_1_ k_ ∨ P0_2_ k_ ∨ P0_3_ k_) ∨ w.heap.size ≤ k_) ∧ some k_ ≠ (v337 : Value).ownBlock) (.slice (some ⟨go52, 0, none⟩) y330.length co73) y340 := (by rw [hw, Ny340.out]; exact HP74.1); clear HP74; have n0_ := Aside0.mk (blk_grown (g := gb322) (o := .cells #[.slice Ao15 x323000_1.length co15, u323001, .slice Ao33 x323002_3.length co33, .slice Ao62 x323003_4.length co62] 26 (0, 0)) (by (with_reducible repeat (first | refine blk_drewN ?_ _ | refine blk_drew ?_ | refine blk_alloc ?_ _)); exact BK322.out) hg (Kd.R_ne HO332.out BK322.out (by decide))); have n1_ := Aside0.mk (Kd.R_over' (v := (.slice (some ⟨go52, 0, none⟩) y330.length co73)) (by (with_reducible repeat (first | apply Kd.R_alloc | apply Kd.R_drewN | apply Kd.R_drew)); exact HO329.out) (Kd.R_typed HO332.out) (by decide) hg); have n2_ := Aside0.mk (hp_); have n3_ := Aside0.mk (Kd.R_over' (v := (.slice (some ⟨go52, 0, none⟩) y330.length co73)) (by (with_reducible repeat (first | apply Kd.R_alloc | apply Kd.R_drewN | apply Kd.R_drew)); exact HO335.out) (Kd.R_typed HO332.out) (by decide) hg); have n4_ := Aside0.mk (Kd.R_after (v := (.slice (some ⟨go52, 0, none⟩) y330.length co73)) (v1 := (.slice (some ⟨go52, 0, none⟩) y330.length co73)) (ok := (fun k_ => ((P0_0_ k_ ∨ P0_1_ k_ ∨ P0_2_ k_ ∨ P0_3_ k_) ∨ w.heap.size ≤ k_))) (by (with_reducible repeat (first | apply Kd.R_alloc | apply Kd.R_drewN | apply Kd.R_drew)); exact HO338.out) hg (.inl rfl)); have n5_ := Aside0.mk ((by rw [hw]; exact below_set (HB.out) GB52.out : Below w0.heap.size w0 w75)); have n6_ := Aside0.mk (Kept.of_grown (S := (fun k_ => P0_0_ k_ ∨ P0_1_ k_ ∨ P0_2_ k_ ∨ P0_3_ k_)) hg (by repeat (first | (with_reducible first | exact HK.out | apply Kept.alloc | apply Kept.drewN | apply Kept.drew | refine Kept.setCell ?_ (.inr GW322.out) _) | exact HK.out)) (fun k_ e_ => (HO332.out.1 k_ e_).1)); clear BK322; clear HO329; clear HO332; clear HO335; clear HO338; clear HB; clear HK; have BK322 := n0_; have HO329 := n1_; have HO332 := n2_; have HO335 := n3_; have HO338 := n4_; have HB := n5_; have HK := n6_; clear n0_ n1_ n2_ n3_ n4_ n5_ n6_; clear hg hw hp_; obtain ⟨Ao76, co76, eo76⟩ := Kd.R_slice HO335.out; subst eo76; have p56 : 0 ≤ ((ji53) : Int) := of_decide_eq_true (by first | (with_reducible assumption) | assumption); have q56 : ((ji53) : Int) < ((y333.length : Int) : Int) := of_decide_eq_true (by first | (with_reducible assumption) | assumption); obtain ⟨go56, co56, eo56, gb56, gl56, cl56, HG56⟩ := Kd.R_form HO335.out (by omega); (first | cases eo56 | (injection eo56 with ea_ en_ ec_; (first | subst ea_ | (injection ea_ with ea_; subst ea_)); subst ec_; clear en_)); have GB56 := Aside0.mk gb56; have GG56 := Aside0.mk HG56; clear gb56 gl56 HG56; have HMgo56 := Aside0.mk (show ((P0_0_ go56 ∨ P0_1_ go56 ∨ P0_2_ go56 ∨ P0_3_ go56) ∨ w.heap.size ≤ go56) from (HO335.out.1 _ rfl)); obtain ⟨hx56_0, hf56_0⟩ := Kd.R_celln (⟨#[]⟩ : ByteArray) HO335.out ((ji53) : Int) p56 q56; replace p56 := eq_true p56; replace q56 := eq_true q56; obtain ⟨hy77_, hz77_⟩ := Kd.R_celln (⟨#[]⟩ : ByteArray) HO335.out ((ji53) : Int) (of_decide_eq_true (by first | (with_reducible assumption) | assumption)) (of_decide_eq_true (by first | (with_reducible assumption) | assumption)); have HP77 := Kd.R_putg HO335.out ((ji53) : Int) (⟨#[103, 114, 111, 119, 110]⟩ : ByteArray)) | ((with_reducible refine gate_store (t := 9) (p := 84) rfl ?_); refine store_event (t := 9) (p := 84) (v := ?vo_w78) (w1 := (w75.setCell ⟨go56, ((ji53) : Int).toNat, none⟩ (.string (⟨#[103, 114, 111, 119, 110]⟩ : ByteArray)))) ?hg ?ho ?hn ?hr ?_; (case ho => rfl); (case hg => rfl); (case hn => rfl); (case hr => first | (go_simp; done) | (go_simp; rfl)); intro w78 hw; have hg : w75.grownBy w78 (some go56) := (by rw [hw]; exact HP77.2); have hp_ : Kd.R Kd.string 9 w78 w0.heap.size (fun k_ => ((P0_0_ k_ ∨ P0_1_ k_ ∨ P0_2_ k_ ∨ P0_3_ k_) ∨ w.heap.size ≤ k_)) (.slice (some ⟨go56, 0, none⟩) y333.length co76) y341 := (by rw [hw, Ny341.out]; exact HP77.1); clear HP77; have n0_ := Aside0.mk (blk_grown (g := gb322) (o := .cells #[.slice Ao15 x323000_1.length co15, u323001, .slice Ao33 x323002_3.length co33, .slice Ao62 x323003_4.length co62] 26 (0, 0)) (by (with_reducible repeat (first | refine blk_drewN ?_ _ | refine blk_drew ?_ | refine blk_alloc ?_ _)); exact BK322.out) hg (Kd.R_ne HO335.out BK322.out (by decide))); have n1_ := Aside0.mk (Kd.R_over' (v := (.slice (some ⟨go56, 0, none⟩) y333.length co76)) (by (with_reducible repeat (first | apply Kd.R_alloc | apply Kd.R_drewN | apply Kd.R_drew)); exact HO329.out) (Kd.R_typed HO335.out) (by decide) hg); have n2_ := Aside0.mk (Kd.R_over' (v := (.slice (some ⟨go56, 0, none⟩) y333.length co76)) (by (with_reducible repeat (first | apply Kd.R_alloc | apply Kd.R_drewN | apply Kd.R_drew)); exact HO332.out) (Kd.R_typed HO335.out) (by decide) hg); have n3_ := Aside0.mk (hp_); have n4_ := Aside0.mk (Kd.R_over' (v := (.slice (some ⟨go56, 0, none⟩) y333.length co76)) (by (with_reducible repeat (first | apply Kd.R_alloc | apply Kd.R_drewN | apply Kd.R_drew)); exact HO338.out) (Kd.R_typed HO335.out) (by decide) hg); have n5_ := Aside0.mk ((by rw [hw]; exact below_set (HB.out) GB56.out : Below w0.heap.size w0 w78)); have n6_ := Aside0.mk (Kept.of_grown (S := (fun k_ => P0_0_ k_ ∨ P0_1_ k_ ∨ P0_2_ k_ ∨ P0_3_ k_)) hg (by repeat (first | (with_reducible first | exact HK.out | apply Kept.alloc | apply Kept.drewN | apply Kept.drew | refine Kept.setCell ?_ (.inr GW322.out) _) | exact HK.out)) (fun k_ e_ => (HO335.out.1 k_ e_))); clear BK322; clear HO329; clear HO332; clear HO335; clear HO338; clear HB; clear HK; have BK322 := n0_; have HO329 := n1_; have HO332 := n2_; have HO335 := n3_; have HO338 := n4_; have HB := n5_; have HK := n6_; clear n0_ n1_ n2_ n3_ n4_ n5_ n6_; clear hg hw hp_; obtain ⟨Ao79, co79, eo79⟩ := Kd.R_slice HO338.out; subst eo79; have p60 : 0 ≤ ((ji57) : Int) := of_decide_eq_true (by first | (with_reducible assumption) | assumption); have q60 : ((ji57) : Int) < ((y336.length : Int) : Int) := of_decide_eq_true (by first | (with_reducible assumption) | assumption); obtain ⟨go60, co60, eo60, gb60, gl60, cl60, HG60⟩ := Kd.R_form HO338.out (by omega); (first | cases eo60 | (injection eo60 with ea_ en_ ec_; (first | subst ea_ | (injection ea_ with ea_; subst ea_)); subst ec_; clear en_)); have GB60 := Aside0.mk gb60; have GG60 := Aside0.mk HG60; clear gb60 gl60 HG60; have HMgo60 := Aside0.mk (show ((P0_0_ go60 ∨ P0_1_ go60 ∨ P0_2_ go60 ∨ P0_3_ go60) ∨ w.heap.size ≤ go60) from (HO338.out.1 _ rfl).1); obtain ⟨hx60_0, hf60_0⟩ := Kd.R_celln 0 HO338.out ((ji57) : Int) p60 q60; replace p60 := eq_true p60; replace q60 := eq_true q60; obtain ⟨hy80_, hz80_⟩ := Kd.R_celln 0 HO338.out ((ji57) : Int) (of_decide_eq_true (by first | (with_reducible assumption) | assumption)) (of_decide_eq_true (by first | (with_reducible assumption) | assumption)); have HP80 := Kd.R_putg HO338.out ((ji57) : Int) 1) | ((with_reducible refine gate_store (t := 3) (p := 89) rfl ?_); refine store_event (t := 3) (p := 89) (v := ?vo_w81) (w1 := (w78.setCell ⟨go60, ((ji57) : Int).toNat, none⟩ (.int .i64 1))) ?hg ?ho ?hn ?hr ?_; (case ho => rfl); (case hg => rfl); (case hn => rfl); (case hr => first | (go_simp; done) | (go_simp; rfl)); intro w81 hw; have hg : w78.grownBy w81 (some go60) := (by rw [hw]; exact HP80.2); have hp_ : Kd.R (Kd.int .i64) 3 w81 w0.heap.size (fun k_ => ((P0_0_ k_ ∨ P0_1_ k_ ∨ P0_2_ k_ ∨ P0_3_ k_) ∨ w.heap.size ≤ k_) ∧ some k_ ≠ (.slice (some ⟨go52, 0, none⟩) y330.length co73 : Value).ownBlock) (.slice (some ⟨go60, 0, none⟩) y336.length co79) y342 := (by rw [hw, Ny342.out]; exact HP80.1); clear HP80; have n0_ := Aside0.mk (blk_grown (g := gb322) (o := .cells #[.slice Ao15 x323000_1.length co15, u323001, .slice Ao33 x323002_3.length co33, .slice Ao62 x323003_4.length co62] 26 (0, 0)) (by (with_reducible repeat (first | refine blk_drewN ?_ _ | refine blk_drew ?_ | refine blk_alloc ?_ _)); exact BK322.out) hg (Kd.R_ne HO338.out BK322.out (by decide))); have n1_ := Aside0.mk (Kd.R_over' (v := (.slice (some ⟨go60, 0, none⟩) y336.length co79)) (by (with_reducible repeat (first | apply Kd.R_alloc | apply Kd.R_drewN | apply Kd.R_drew)); exact HO329.out) (Kd.R_typed HO338.out) (by decide) hg); have n2_ := Aside0.mk (Kd.R_after (v := (.slice (some ⟨go60, 0, none⟩) y336.length co79)) (v1 := (.slice (some ⟨go60, 0, none⟩) y336.length co79)) (ok := (fun k_ => ((P0_0_ k_ ∨ P0_1_ k_ ∨ P0_2_ k_ ∨ P0_3_ k_) ∨ w.heap.size ≤ k_))) (by (with_reducible repeat (first | apply Kd.R_alloc | apply Kd.R_drewN | apply Kd.R_drew)); exact HO332.out) hg (.inl rfl)); have n3_ := Aside0.mk (Kd.R_over' (v := (.slice (some ⟨go60, 0, none⟩) y336.length co79)) (by (with_reducible repeat (first | apply Kd.R_alloc | apply Kd.R_drewN | apply Kd.R_drew)); exact HO335.out) (Kd.R_typed HO338.out) (by decide) hg); have n4_ := Aside0.mk (hp_); have n5_ := Aside0.mk ((by rw [hw]; exact below_set (HB.out) GB60.out : Below w0.heap.size w0 w81)); have n6_ := Aside0.mk (Kept.of_grown (S := (fun k_ => P0_0_ k_ ∨ P0_1_ k_ ∨ P0_2_ k_ ∨ P0_3_ k_)) hg (by repeat (first | (with_reducible first | exact HK.out | apply Kept.alloc | apply Kept.drewN | apply Kept.drew | refine Kept.setCell ?_ (.inr GW322.out) _) | exact HK.out)) (fun k_ e_ => (HO338.out.1 k_ e_).1)); clear BK322; clear HO329; clear HO332; clear HO335; clear HO338; clear HB; clear HK; have BK322 := n0_; have HO329 := n1_; have HO332 := n2_; have HO335 := n3_; have HO338 := n4_; have HB := n5_; have HK := n6_; clear n0_ n1_ n2_ n3_ n4_ n5_ n6_; clear hg hw hp_))
                         first | go_end0 | ((try simp only [Exit.inBlock, Exit.then]); refine bodyPost_ret (results_none rfl _ _ _) rfl ?_)
                         exact ⟨by first | rfl | (simp [errW_none, errW_some] <;> rfl) | (simp only [← hji45, ← hji49, ← hji53, ← hji57]; first | rfl | (simp [errW_none, errW_some] <;> rfl)) | (simp [*, errW_none, errW_some] <;> rfl), by repeat (first | (with_reducible first | exact HB.out | apply below_alloc | apply pw_below_drewN | apply below_drew1 | refine below_set ?_ GE322.out) | exact HB.out), by repeat (first | (with_reducible first | exact HK.out | apply Kept.alloc | apply Kept.drewN | apply Kept.drew | refine Kept.setCell ?_ (.inr GW322.out) _) | exact HK.out)⟩
                        ·rw [if_neg c59] at H
                         exact absurd H (by simp)
                       ·rw [if_neg c58] at H
                        exact absurd H (by simp)
                      ·rw [if_neg c55] at H
                       exact absurd H (by simp)
                     ·rw [if_neg c54] at H
                      exact absurd H (by simp)
                    ·rw [if_neg c51] at H
                     exact absurd H (by simp)
                   ·rw [if_neg c50] at H
                    exact absurd H (by simp)
                  ·rw [if_neg c47] at H
                   exact absurd H (by simp)
                 ·rw [if_neg c46] at H
                  exact absurd H (by simp)
                ·rw [if_neg c44] at H
                 exact absurd H (by simp)
               ·rw [if_neg c43] at H
                exact absurd H (by simp)
              ·rw [if_neg c42] at H
               exact absurd H (by simp)
             ·rw [if_neg c41] at H
              exact absurd H (by simp)
end Go.Proofs.YtnlimplbmncdeaaDoor.C
