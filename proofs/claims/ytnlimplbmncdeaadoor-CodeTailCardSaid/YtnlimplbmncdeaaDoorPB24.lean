/- The laws CodeBack, CodeBackWords, CodeLists, CodeTail of the program hold, as their cards say: texts put together by a program, 25 of 39. -/
import Derived.Test.YtnlimplbmncdeaaDoorPB12
import Derived.Test.YtnlimplbmncdeaaDoorPB18
import Derived.Test.YtnlimplbmncdeaaDoorPB20
import Derived.Test.YtnlimplbmncdeaaDoorPB21
import Derived.Test.YtnlimplbmncdeaaDoorPB23
namespace Go.Proofs.YtnlimplbmncdeaaDoor.C
open Go.RowKit Go.Proofs.YtnlimplbmncdeaaDoorW.PrintWords Go.Proofs.YtnlimplbmncdeaaDoorW.PrintLast Go.Proofs.YtnlimplbmncdeaaDoorW.PrintMore
attribute [local go_sem] max2_int min2_int max_two min_two max_three min_three max_four min_four
set_option linter.unusedVariables false
set_option linter.unusedSimpArgs false
def DRows (w0 W : World) (v0 v1 v2 v3 : Value) (ws cs : List Int) (ns : List ByteArray) (ks : List Int) : Prop :=
 W.ownsRow w0.heap.size 33 1 v0 ws.length (nums .u64 ws) ∧ W.ownsRow w0.heap.size 3 1 v1 cs.length (nums .i64 cs) ∧ W.ownsRow w0.heap.size 9 1 v2 ns.length (encs Value.string ns) ∧ W.ownsRow w0.heap.size 3 1 v3 ks.length (nums .i64 ks) ∧ (∀ k, v1.ownBlock = some k → v3.ownBlock ≠ some k)
def DI (w0 : World) (R0 g Bb Bc : Nat) (W : World) (bs : List Int) (bad : Bool) (v0 v1 v2 v3 : Value) (ws cs : List Int) (ns : List ByteArray) (ks : List Int) : Prop :=
 RI w0 g Bb W bs bad ∧ W.heap[R0]? = some (.cells #[.slice none 0 0, .slice none 0 0, .slice none 0 0, .slice none 0 0] 26 (0, 0)) ∧ (∃ C m, W.heap[Bb]? = some (.cells C 5 m)) ∧ W.heap[Bc]? = some (.cells #[v0, v1, v2, v3] 26 (0, 0)) ∧ DRows w0 W v0 v1 v2 v3 ws cs ns ks ∧ (w0.heap.size ≤ R0 ∧ w0.heap.size ≤ Bc ∧ R0 ≠ Bc ∧ Bb ≠ Bc)
theorem DI.keep {w0 W W1 : World} {R0 g Bb Bc : Nat} {bs bs' : List Int} {bad bad' : Bool} {v0 v1 v2 v3 : Value} {ws cs : List Int} {ns : List ByteArray} {ks : List Int} (h : DI w0 R0 g Bb Bc W bs bad v0 v1 v2 v3 ws cs ns ks) (hI' : RI w0 g Bb W1 bs' bad') (hK : KeepBut W W1 g none) : DI w0 R0 g Bb Bc W1 bs' bad' v0 v1 v2 v3 ws cs ns ks := by
 obtain ⟨hI, hR, ⟨C, m, hB⟩, hc, ⟨r0, r1, r2, r3, hs⟩, b1, b2, b3, b4⟩ := h
 obtain ⟨A, cc, i1, i2, i3, i4, i5, i6⟩ := hI
 have kp : ∀ k o, W.heap[k]? = some o → k ≠ g → W1.heap[k]? = some o := fun k o hk hn => (hK.2 k (blk_lt hk) hn (by simp)).trans hk
 have nG : ∀ (k t : Nat) (C : Array Value) (m : Nat × Nat), t ≠ 69 → W.heap[k]? = some (.cells C t m) → k ≠ g := fun k t C m ht hk he => by
  rw [he, i1] at hk
  injection hk with hk
  injection hk with _ hk _
  exact ht hk.symm
 have mv : ∀ (e n : Nat) (v : Value) (xs : List Value), e ≠ 69 → W.ownsRow w0.heap.size e 1 v n xs → W1.ownsRow w0.heap.size e 1 v n xs := fun e n v xs he ho => own_move ho (fun k hk => hK.2 k (own_lt ho hk) (own_ne ho (fun z => he z.symm) i1 hk) (by simp))
 exact ⟨hI', kp _ _ hR (nG _ _ _ _ (by decide) hR), ⟨C, m, kp _ _ hB (nG _ _ _ _ (by decide) hB)⟩, kp _ _ hc (nG _ _ _ _ (by decide) hc), ⟨mv _ _ _ _ (by decide) r0, mv _ _ _ _ (by decide) r1, mv _ _ _ _ (by decide) r2, mv _ _ _ _ (by decide) r3, hs⟩, b1, b2, b3, b4⟩
theorem DI.push0 {w0 W W1 : World} {R0 g Bb Bc : Nat} {bs : List Int} {bad : Bool} {v0 v1 v2 v3 v : Value} {ws cs : List Int} {ns : List ByteArray} {ks : List Int} {u : Int} (h : DI w0 R0 g Bb Bc W bs bad v0 v1 v2 v3 ws cs ns ks) (ho : W1.ownsRow w0.heap.size 33 1 v (ws.length + 1) (nums .u64 ws ++ [Value.int .u64 u])) (hb : Below w0.heap.size w0 W1) (hg : W.grownBy W1 v0.ownBlock)
  (hat : v.ownBlock = v0.ownBlock ∨ ∃ b, v.ownBlock = some b ∧ W.heap.size ≤ b) : DI w0 R0 g Bb Bc (W1.setCell ⟨Bc, 0, none⟩ v) bs bad v v1 v2 v3 (ws ++ [u]) cs ns ks := by
 obtain ⟨hI, hR, ⟨C, m, hB⟩, hc, ⟨r0, r1, r2, r3, hs⟩, b1, b2, b3, b4⟩ := h
 have hgg := hI
 obtain ⟨A, cc, i1, i2, i3, i4, i5, i6⟩ := hgg
 have gC := blk_grown hc hg (fun he => own_ne r0 (by decide) hc he.symm rfl)
 have gG := blk_grown i1 hg (fun he => own_ne r0 (by decide) i1 he.symm rfl)
 have gR := blk_grown hR hg (fun he => own_ne r0 (by decide) hR he.symm rfl)
 have gB := blk_grown hB hg (fun he => own_ne r0 (by decide) hB he.symm rfl)
 have hs_ : ∀ k, k ≠ Bc → (W1.setCell ⟨Bc, 0, none⟩ v).heap[k]? = W1.heap[k]? := fun k hk => Below.heap_setCell W1 _ _ k hk
 have nG : g ≠ Bc := fun he => by rw [he, hc] at i1; injection i1 with i1; injection i1 with _ i1 _; cases i1
 have ho' : W1.ownsRow w0.heap.size 33 1 v (ws ++ [u]).length (nums .u64 (ws ++ [u])) := by
  have e1 : (ws ++ [u]).length = ws.length + 1 := by simp
  have e2 : nums .u64 (ws ++ [u]) = nums .u64 ws ++ [Value.int .u64 u] := by simp [nums]
  rw [e1, e2]
  exact ho
 exact ⟨hI.move ((hs_ g nG).trans (gG.trans i1.symm)) ((hs_ Bb b4).trans (gB.trans hB.symm)) (below_set hb b2), (hs_ R0 b3).trans gR, ⟨C, m, (hs_ Bb b4).trans gB⟩, blk_put gC 0 v rfl,
  ⟨own_move ho' (fun k hk => hs_ k (own_ne ho' (by decide) gC hk)), own_move r1 (fun k hk => (hs_ k (own_ne r1 (by decide) hc hk)).trans (hg.block k (own_lt r1 hk) (own_ne' r1 r0 (by decide) hk))), own_move r2 (fun k hk => (hs_ k (own_ne r2 (by decide) hc hk)).trans (hg.block k (own_lt r2 hk) (own_ne' r2 r0 (by decide) hk))), own_move r3 (fun k hk => (hs_ k (own_ne r3 (by decide) hc hk)).trans (hg.block k (own_lt r3 hk) (own_ne' r3 r0 (by decide) hk))), hs⟩, b1, b2, b3, b4⟩
theorem DI.push1 {w0 W W1 : World} {R0 g Bb Bc : Nat} {bs : List Int} {bad : Bool} {v0 v1 v2 v3 v : Value} {ws cs : List Int} {ns : List ByteArray} {ks : List Int} {u : Int} (h : DI w0 R0 g Bb Bc W bs bad v0 v1 v2 v3 ws cs ns ks) (ho : W1.ownsRow w0.heap.size 3 1 v (cs.length + 1) (nums .i64 cs ++ [Value.int .i64 u])) (hb : Below w0.heap.size w0 W1) (hg : W.grownBy W1 v1.ownBlock)
  (hat : v.ownBlock = v1.ownBlock ∨ ∃ b, v.ownBlock = some b ∧ W.heap.size ≤ b) : DI w0 R0 g Bb Bc (W1.setCell ⟨Bc, 1, none⟩ v) bs bad v0 v v2 v3 ws (cs ++ [u]) ns ks := by
 obtain ⟨hI, hR, ⟨C, m, hB⟩, hc, ⟨r0, r1, r2, r3, hs⟩, b1, b2, b3, b4⟩ := h
 have hgg := hI
 obtain ⟨A, cc, i1, i2, i3, i4, i5, i6⟩ := hgg
 have gC := blk_grown hc hg (fun he => own_ne r1 (by decide) hc he.symm rfl)
 have gG := blk_grown i1 hg (fun he => own_ne r1 (by decide) i1 he.symm rfl)
 have gR := blk_grown hR hg (fun he => own_ne r1 (by decide) hR he.symm rfl)
 have gB := blk_grown hB hg (fun he => own_ne r1 (by decide) hB he.symm rfl)
 have hs_ : ∀ k, k ≠ Bc → (W1.setCell ⟨Bc, 1, none⟩ v).heap[k]? = W1.heap[k]? := fun k hk => Below.heap_setCell W1 _ _ k hk
 have nG : g ≠ Bc := fun he => by rw [he, hc] at i1; injection i1 with i1; injection i1 with _ i1 _; cases i1
 have ho' : W1.ownsRow w0.heap.size 3 1 v (cs ++ [u]).length (nums .i64 (cs ++ [u])) := by
  have e1 : (cs ++ [u]).length = cs.length + 1 := by simp
  have e2 : nums .i64 (cs ++ [u]) = nums .i64 cs ++ [Value.int .i64 u] := by simp [nums]
  rw [e1, e2]
  exact ho
 exact ⟨hI.move ((hs_ g nG).trans (gG.trans i1.symm)) ((hs_ Bb b4).trans (gB.trans hB.symm)) (below_set hb b2), (hs_ R0 b3).trans gR, ⟨C, m, (hs_ Bb b4).trans gB⟩, blk_put gC 1 v rfl,
  ⟨own_move r0 (fun k hk => (hs_ k (own_ne r0 (by decide) hc hk)).trans (hg.block k (own_lt r0 hk) (own_ne' r0 r1 (by decide) hk))), own_move ho' (fun k hk => hs_ k (own_ne ho' (by decide) gC hk)), own_move r2 (fun k hk => (hs_ k (own_ne r2 (by decide) hc hk)).trans (hg.block k (own_lt r2 hk) (own_ne' r2 r1 (by decide) hk))), own_move r3 (fun k hk => (hs_ k (own_ne r3 (by decide) hc hk)).trans (hg.block k (own_lt r3 hk) (fun he => hs _ he.symm hk))), fun k h1 h3 => Or.elim hat (fun e => hs k (e ▸ h1) h3) (fun ⟨b, e, hb⟩ => by rw [e] at h1; cases h1; have := own_lt r3 h3; omega)⟩, b1, b2, b3, b4⟩
theorem DI.push2 {w0 W W1 : World} {R0 g Bb Bc : Nat} {bs : List Int} {bad : Bool} {v0 v1 v2 v3 v : Value} {ws cs : List Int} {ns : List ByteArray} {ks : List Int} {u : ByteArray} (h : DI w0 R0 g Bb Bc W bs bad v0 v1 v2 v3 ws cs ns ks) (ho : W1.ownsRow w0.heap.size 9 1 v (ns.length + 1) (encs Value.string ns ++ [Value.string u])) (hb : Below w0.heap.size w0 W1) (hg : W.grownBy W1 v2.ownBlock)
  (hat : v.ownBlock = v2.ownBlock ∨ ∃ b, v.ownBlock = some b ∧ W.heap.size ≤ b) : DI w0 R0 g Bb Bc (W1.setCell ⟨Bc, 2, none⟩ v) bs bad v0 v1 v v3 ws cs (ns ++ [u]) ks := by
 obtain ⟨hI, hR, ⟨C, m, hB⟩, hc, ⟨r0, r1, r2, r3, hs⟩, b1, b2, b3, b4⟩ := h
 have hgg := hI
 obtain ⟨A, cc, i1, i2, i3, i4, i5, i6⟩ := hgg
 have gC := blk_grown hc hg (fun he => own_ne r2 (by decide) hc he.symm rfl)
 have gG := blk_grown i1 hg (fun he => own_ne r2 (by decide) i1 he.symm rfl)
 have gR := blk_grown hR hg (fun he => own_ne r2 (by decide) hR he.symm rfl)
 have gB := blk_grown hB hg (fun he => own_ne r2 (by decide) hB he.symm rfl)
 have hs_ : ∀ k, k ≠ Bc → (W1.setCell ⟨Bc, 2, none⟩ v).heap[k]? = W1.heap[k]? := fun k hk => Below.heap_setCell W1 _ _ k hk
 have nG : g ≠ Bc := fun he => by rw [he, hc] at i1; injection i1 with i1; injection i1 with _ i1 _; cases i1
 have ho' : W1.ownsRow w0.heap.size 9 1 v (ns ++ [u]).length (encs Value.string (ns ++ [u])) := by
  have e1 : (ns ++ [u]).length = ns.length + 1 := by simp
  have e2 : encs Value.string (ns ++ [u]) = encs Value.string ns ++ [Value.string u] := by simp [encs]
  rw [e1, e2]
  exact ho
 exact ⟨hI.move ((hs_ g nG).trans (gG.trans i1.symm)) ((hs_ Bb b4).trans (gB.trans hB.symm)) (below_set hb b2), (hs_ R0 b3).trans gR, ⟨C, m, (hs_ Bb b4).trans gB⟩, blk_put gC 2 v rfl,
  ⟨own_move r0 (fun k hk => (hs_ k (own_ne r0 (by decide) hc hk)).trans (hg.block k (own_lt r0 hk) (own_ne' r0 r2 (by decide) hk))), own_move r1 (fun k hk => (hs_ k (own_ne r1 (by decide) hc hk)).trans (hg.block k (own_lt r1 hk) (own_ne' r1 r2 (by decide) hk))), own_move ho' (fun k hk => hs_ k (own_ne ho' (by decide) gC hk)), own_move r3 (fun k hk => (hs_ k (own_ne r3 (by decide) hc hk)).trans (hg.block k (own_lt r3 hk) (own_ne' r3 r2 (by decide) hk))), hs⟩, b1, b2, b3, b4⟩
theorem DI.push3 {w0 W W1 : World} {R0 g Bb Bc : Nat} {bs : List Int} {bad : Bool} {v0 v1 v2 v3 v : Value} {ws cs : List Int} {ns : List ByteArray} {ks : List Int} {u : Int} (h : DI w0 R0 g Bb Bc W bs bad v0 v1 v2 v3 ws cs ns ks) (ho : W1.ownsRow w0.heap.size 3 1 v (ks.length + 1) (nums .i64 ks ++ [Value.int .i64 u])) (hb : Below w0.heap.size w0 W1) (hg : W.grownBy W1 v3.ownBlock)
  (hat : v.ownBlock = v3.ownBlock ∨ ∃ b, v.ownBlock = some b ∧ W.heap.size ≤ b) : DI w0 R0 g Bb Bc (W1.setCell ⟨Bc, 3, none⟩ v) bs bad v0 v1 v2 v ws cs ns (ks ++ [u]) := by
 obtain ⟨hI, hR, ⟨C, m, hB⟩, hc, ⟨r0, r1, r2, r3, hs⟩, b1, b2, b3, b4⟩ := h
 have hgg := hI
 obtain ⟨A, cc, i1, i2, i3, i4, i5, i6⟩ := hgg
 have gC := blk_grown hc hg (fun he => own_ne r3 (by decide) hc he.symm rfl)
 have gG := blk_grown i1 hg (fun he => own_ne r3 (by decide) i1 he.symm rfl)
 have gR := blk_grown hR hg (fun he => own_ne r3 (by decide) hR he.symm rfl)
 have gB := blk_grown hB hg (fun he => own_ne r3 (by decide) hB he.symm rfl)
 have hs_ : ∀ k, k ≠ Bc → (W1.setCell ⟨Bc, 3, none⟩ v).heap[k]? = W1.heap[k]? := fun k hk => Below.heap_setCell W1 _ _ k hk
 have nG : g ≠ Bc := fun he => by rw [he, hc] at i1; injection i1 with i1; injection i1 with _ i1 _; cases i1
 have ho' : W1.ownsRow w0.heap.size 3 1 v (ks ++ [u]).length (nums .i64 (ks ++ [u])) := by
  have e1 : (ks ++ [u]).length = ks.length + 1 := by simp
  have e2 : nums .i64 (ks ++ [u]) = nums .i64 ks ++ [Value.int .i64 u] := by simp [nums]
  rw [e1, e2]
  exact ho
 exact ⟨hI.move ((hs_ g nG).trans (gG.trans i1.symm)) ((hs_ Bb b4).trans (gB.trans hB.symm)) (below_set hb b2), (hs_ R0 b3).trans gR, ⟨C, m, (hs_ Bb b4).trans gB⟩, blk_put gC 3 v rfl,
  ⟨own_move r0 (fun k hk => (hs_ k (own_ne r0 (by decide) hc hk)).trans (hg.block k (own_lt r0 hk) (own_ne' r0 r3 (by decide) hk))), own_move r1 (fun k hk => (hs_ k (own_ne r1 (by decide) hc hk)).trans (hg.block k (own_lt r1 hk) (fun he => hs _ hk he.symm))), own_move r2 (fun k hk => (hs_ k (own_ne r2 (by decide) hc hk)).trans (hg.block k (own_lt r2 hk) (own_ne' r2 r3 (by decide) hk))), own_move ho' (fun k hk => hs_ k (own_ne ho' (by decide) gC hk)), fun k h1 h3 => Or.elim hat (fun e => hs k h1 (e ▸ h3)) (fun ⟨b, e, hb⟩ => by rw [e] at h3; cases h3; have := own_lt r1 h1; omega)⟩, b1, b2, b3, b4⟩
theorem DI.box {w0 W W1 : World} {R0 g Bb Bc : Nat} {bs : List Int} {bad : Bool} {v0 v1 v2 v3 : Value} {ws cs : List Int} {ns : List ByteArray} {ks : List Int} (h : DI w0 R0 g Bb Bc W bs bad v0 v1 v2 v3 ws cs ns ks) {r : Option Nat} (hg : W.grownBy W1 r) (hr : r = v0.ownBlock ∨ r = v1.ownBlock ∨ r = v2.ownBlock ∨ r = v3.ownBlock) : W1.heap[Bc]? = some (.cells #[v0, v1, v2, v3] 26 (0, 0)) := by
 obtain ⟨hI, hR, hB, hc, ⟨r0, r1, r2, r3, hs⟩, b⟩ := h
 refine blk_grown hc hg (fun he => ?_)
 rcases hr with rfl | rfl | rfl | rfl
 ·exact own_ne r0 (by decide) hc he.symm rfl
 ·exact own_ne r1 (by decide) hc he.symm rfl
 ·exact own_ne r2 (by decide) hc he.symm rfl
 ·exact own_ne r3 (by decide) hc he.symm rfl
def code_Decode.dl {α : Type} (step : List Int → Bool → Option (α × List Int × Bool)) : Nat → List α → List Int → Bool → Option (List α × List Int × Bool)
 | 0, acc, bs, bad => some (acc, bs, bad)
 | j + 1, acc, bs, bad => if bad = true then some (acc, bs, bad) else (step bs bad).bind fun t => code_Decode.dl step j (acc ++ [t.1]) t.2.1 t.2.2
def code_Decode.cst (k : Nat) (bs : List Int) (bad : Bool) : Option (Int × List Int × Bool) := (code_reader_number.g k bs bad).bind fun t => (pack_Zag.f t.1).bind fun z => some (z, t.2.1, t.2.2)
def code_Decode.nst (k : Nat) (bs : List Int) (bad : Bool) : Option (ByteArray × List Int × Bool) := (code_reader_count.g k bs bad 12).bind fun t => code_reader_text.g t.2.1 t.2.2 t.1
def code_Decode.cnt (k : Nat) (bs : List Int) (bad : Bool) (most : Int) : Option (Nat × List Int × Bool) := (code_reader_count.g k bs bad most).bind fun t => if 0 ≤ t.1 ∧ t.1 ≤ 32768 then some (t.1.toNat, t.2.1, t.2.2) else none
def code_Decode.les : Nat → Int → List Int → Int
 | _, h, [] => h
 | j, h, b :: t => code_Decode.les (j + 1) (Go.bits .or .u64 h (shl .u64 (IntKind.u64.wrap b) (wrap64 (8 * (j : Int))))) t
def code_Decode.fin (k : Nat) (ws cs : List Int) (ns : List ByteArray) (ks bs : List Int) (bad : Bool) : Option (List Int × List Int × List ByteArray × List Int × Int) :=
 if bad = true then some ([], [], [], [], 180) else if (bs.length : Int) = 8 then (code_Right.f k ws cs ns ks).bind fun r => if r = false then some ([], [], [], [], 180) else (code_Sum.f k ws cs ns ks).bind fun s => if code_Decode.les 0 0 bs = s then some (ws, cs, ns, ks, 0) else some ([], [], [], [], 180) else some ([], [], [], [], 180)
def code_Decode.f (k : Nat) (a0 : ByteArray) : Option (List Int × List Int × List ByteArray × List Int × Int) :=
 if a0.size ≤ 9223372036854775807 then (code_reader_text.g (bytesOf a0) false 3).bind fun t0 => if t0.1.toList = [73, 67, 49] then
  (code_Decode.cnt k t0.2.1 t0.2.2 32768).bind fun n1 => (code_Decode.dl (code_reader_number.g k) n1.1 [] n1.2.1 n1.2.2).bind fun t1 =>
  (code_Decode.cnt k t1.2.1 t1.2.2 32768).bind fun n2 => (code_Decode.dl (code_Decode.cst k) n2.1 [] n2.2.1 n2.2.2).bind fun t2 =>
  (code_Decode.cnt k t2.2.1 t2.2.2 2000).bind fun n3 => (code_Decode.dl (code_Decode.nst k) n3.1 [] n3.2.1 n3.2.2).bind fun t3 =>
  (code_Decode.cnt k t3.2.1 t3.2.2 256).bind fun n4 => (code_Decode.dl (fun b e => code_reader_count.g k b e 3) n4.1 [] n4.2.1 n4.2.2).bind fun t4 =>
  code_Decode.fin k t1.1 t2.1 t3.1 t4.1 t4.2.1 t4.2.2
 else some ([], [], [], [], 180) else none
theorem DI.below {w0 W W1 : World} {R0 g Bb Bc : Nat} {bs : List Int} {bad : Bool} {v0 v1 v2 v3 : Value} {ws cs : List Int} {ns : List ByteArray} {ks : List Int} (h : DI w0 R0 g Bb Bc W bs bad v0 v1 v2 v3 ws cs ns ks) (hb : Below W.heap.size W W1) : DI w0 R0 g Bb Bc W1 bs bad v0 v1 v2 v3 ws cs ns ks := by
 obtain ⟨hI, hR, ⟨C, m, hB⟩, hc, ⟨r0, r1, r2, r3, hs⟩, b⟩ := h
 have hI0 := hI
 obtain ⟨A, cc, i1, i2, i3, i4, i5⟩ := hI0
 have mv : ∀ (e n : Nat) (v : Value) (xs : List Value), W.ownsRow w0.heap.size e 1 v n xs → W1.ownsRow w0.heap.size e 1 v n xs := fun e n v xs ho => own_move ho (fun k hk => hb.block k (own_lt ho hk))
 exact ⟨hI.move (hb.block _ (blk_lt i1)) (hb.block _ (blk_lt hB)) (below_then i4 i4.size hb), blk_below hR hb, ⟨C, m, blk_below hB hb⟩, blk_below hc hb, ⟨mv _ _ _ _ r0, mv _ _ _ _ r1, mv _ _ _ _ r2, mv _ _ _ _ r3, hs⟩, b⟩
theorem DI.call {w0 W : World} {R0 g Bb Bc : Nat} {bs bs' : List Int} {bad bad' : Bool} {v0 v1 v2 v3 : Value} {ws cs : List Int} {ns : List ByteArray} {ks : List Int} {f : FuncId} {args : Array Value} {v : Value} (h : DI w0 R0 g Bb Bc W bs bad v0 v1 v2 v3 ws cs ns ks)
  (hC : RI w0 g Bb W bs bad → Calls Tryd.prog f args W fun e W' => e = .returned v ∧ RI w0 g Bb W' bs' bad' ∧ KeepBut W W' g none) : Calls Tryd.prog f args W fun e W' => e = .returned v ∧ DI w0 R0 g Bb Bc W' bs' bad' v0 v1 v2 v3 ws cs ns ks :=
 (hC h.1).mono fun _ _ z => ⟨z.1, h.keep z.2.1 z.2.2⟩
theorem cnt_calls {w0 W : World} {R0 g Bb Bc : Nat} {bs bs' : List Int} {bad bad' : Bool} {v0 v1 v2 v3 : Value} {ws cs : List Int} {ns : List ByteArray} {ks : List Int} {k j : Nat} {most : Int} (hN : code_Decode.cnt k bs bad most = some (j, bs', bad')) (h : DI w0 R0 g Bb Bc W bs bad v0 v1 v2 v3 ws cs ns ks) :
  Calls Tryd.prog 47 #[.pointer (some ⟨g, 0, none⟩), .int .i64 most] W fun e W' => e = .returned (.int .i64 (j : Int)) ∧ DI w0 R0 g Bb Bc W' bs' bad' v0 v1 v2 v3 ws cs ns ks ∧ j ≤ 32768 := by
 unfold code_Decode.cnt at hN
 obtain ⟨⟨u, b1, e1⟩, h1, h2⟩ := Option.bind_eq_some_iff.mp hN
 by_cases hu : 0 ≤ u ∧ u ≤ 32768
 ·rw [if_pos hu] at h2
  simp only [Option.some.injEq, Prod.mk.injEq] at h2
  obtain ⟨rfl, rfl, rfl⟩ := h2
  have hu' : ((u.toNat : Nat) : Int) = u := Int.toNat_of_nonneg hu.1
  rw [hu']
  exact (h.call (fun hI => code_reader_count.callsG k g bs b1 bad e1 most u Bb w0 W h1 hI)).mono fun _ _ z => ⟨z.1, z.2, by omega⟩
 ·rw [if_neg hu] at h2
  cases h2
theorem txt_calls {w0 W : World} {R0 g Bb Bc : Nat} {bs bs' : List Int} {bad bad' : Bool} {v0 v1 v2 v3 : Value} {ws cs : List Int} {ns : List ByteArray} {ks : List Int} {m : Int} {s : ByteArray} (hN : code_reader_text.g bs bad m = some (s, bs', bad')) (h : DI w0 R0 g Bb Bc W bs bad v0 v1 v2 v3 ws cs ns ks) :
  Calls Tryd.prog 46 #[.pointer (some ⟨g, 0, none⟩), .int .i64 m] W fun e W' => e = .returned (.string s) ∧ DI w0 R0 g Bb Bc W' bs' bad' v0 v1 v2 v3 ws cs ns ks :=
 h.call (fun hI => code_reader_text.callsG g bs bs' bad bad' m s Bb w0 W hN hI)
theorem num_calls {w0 W : World} {R0 g Bb Bc : Nat} {bs bs' : List Int} {bad bad' : Bool} {v0 v1 v2 v3 : Value} {ws cs : List Int} {ns : List ByteArray} {ks : List Int} {k : Nat} {u : Int} (hN : code_reader_number.g k bs bad = some (u, bs', bad')) (h : DI w0 R0 g Bb Bc W bs bad v0 v1 v2 v3 ws cs ns ks) :
  Calls Tryd.prog 48 #[.pointer (some ⟨g, 0, none⟩)] W fun e W' => e = .returned (.int .u64 u) ∧ DI w0 R0 g Bb Bc W' bs' bad' v0 v1 v2 v3 ws cs ns ks :=
 h.call (fun hI => code_reader_number.callsG k g bs bs' bad bad' u Bb w0 W hN hI)
theorem cn_calls {w0 W : World} {R0 g Bb Bc : Nat} {bs bs' : List Int} {bad bad' : Bool} {v0 v1 v2 v3 : Value} {ws cs : List Int} {ns : List ByteArray} {ks : List Int} {k : Nat} {most u : Int} (hN : code_reader_count.g k bs bad most = some (u, bs', bad')) (h : DI w0 R0 g Bb Bc W bs bad v0 v1 v2 v3 ws cs ns ks) :
  Calls Tryd.prog 47 #[.pointer (some ⟨g, 0, none⟩), .int .i64 most] W fun e W' => e = .returned (.int .i64 u) ∧ DI w0 R0 g Bb Bc W' bs' bad' v0 v1 v2 v3 ws cs ns ks :=
 h.call (fun hI => code_reader_count.callsG k g bs bs' bad bad' most u Bb w0 W hN hI)
theorem DI.fin {w0 W : World} {R0 g Bb Bc : Nat} {bs : List Int} {bad : Bool} {v0 v1 v2 v3 : Value} {ws cs : List Int} {ns : List ByteArray} {ks : List Int} (h : DI w0 R0 g Bb Bc W bs bad v0 v1 v2 v3 ws cs ns ks) (u0 u1 u2 u3 : Value) :
  ((((W.setCell ⟨R0, 0, none⟩ u0).setCell ⟨R0, 1, none⟩ u1).setCell ⟨R0, 2, none⟩ u2).setCell ⟨R0, 3, none⟩ u3).heap[R0]? = some (.cells #[u0, u1, u2, u3] 26 (0, 0)) ∧ Below w0.heap.size w0 ((((W.setCell ⟨R0, 0, none⟩ u0).setCell ⟨R0, 1, none⟩ u1).setCell ⟨R0, 2, none⟩ u2).setCell ⟨R0, 3, none⟩ u3) ∧
  DRows w0 ((((W.setCell ⟨R0, 0, none⟩ u0).setCell ⟨R0, 1, none⟩ u1).setCell ⟨R0, 2, none⟩ u2).setCell ⟨R0, 3, none⟩ u3) v0 v1 v2 v3 ws cs ns ks := by
 obtain ⟨⟨A, cc, i1, i2, i3, i4, i5⟩, hR, hB, hc, ⟨r0, r1, r2, r3, hs⟩, b1, b2, b3, b4⟩ := h
 have far : ∀ k, k ≠ R0 → ((((W.setCell ⟨R0, 0, none⟩ u0).setCell ⟨R0, 1, none⟩ u1).setCell ⟨R0, 2, none⟩ u2).setCell ⟨R0, 3, none⟩ u3).heap[k]? = W.heap[k]? := fun k hk =>
  ((Below.heap_setCell _ _ _ k hk).trans (Below.heap_setCell _ _ _ k hk)).trans ((Below.heap_setCell _ _ _ k hk).trans (Below.heap_setCell _ _ _ k hk))
 exact ⟨blk_put (blk_put (blk_put (blk_put hR 0 u0 rfl) 1 u1 rfl) 2 u2 rfl) 3 u3 rfl, below_set (below_set (below_set (below_set i4 b1) b1) b1) b1,
  own_move r0 (fun k hk => far k (own_ne r0 (by decide) hR hk)), own_move r1 (fun k hk => far k (own_ne r1 (by decide) hR hk)), own_move r2 (fun k hk => far k (own_ne r2 (by decide) hR hk)), own_move r3 (fun k hk => far k (own_ne r3 (by decide) hR hk)), hs⟩
theorem DI.low {w0 W : World} {R0 g Bb Bc : Nat} {bs : List Int} {bad : Bool} {v0 v1 v2 v3 : Value} {ws cs : List Int} {ns : List ByteArray} {ks : List Int} (h : DI w0 R0 g Bb Bc W bs bad v0 v1 v2 v3 ws cs ns ks) : Below w0.heap.size w0 W := by
 obtain ⟨⟨A, cc, i1, i2, i3, i4, i5⟩, _⟩ := h
 exact i4
theorem DI.forms {w0 W : World} {R0 g Bb Bc : Nat} {bs : List Int} {bad : Bool} {v0 v1 v2 v3 : Value} {ws cs : List Int} {ns : List ByteArray} {ks : List Int} (h : DI w0 R0 g Bb Bc W bs bad v0 v1 v2 v3 ws cs ns ks) :
  (∃ A c, v0 = .slice A ws.length c ∧ ws.length ≤ c ∧ Kd.C (Kd.int .u64) W A ws.length ws) ∧ (∃ A c, v1 = .slice A cs.length c ∧ cs.length ≤ c ∧ Kd.C (Kd.int .i64) W A cs.length cs) ∧ (∃ A c, v2 = .slice A ns.length c ∧ ns.length ≤ c ∧ Kd.C Kd.string W A ns.length ns) ∧ (∃ A c, v3 = .slice A ks.length c ∧ ks.length ≤ c ∧ Kd.C (Kd.int .i64) W A ks.length ks) := by
 obtain ⟨_, _, _, _, ⟨r0, r1, r2, r3, hs⟩, _⟩ := h
 exact ⟨Kd.R_reads (Kd.R_of_own (h1 := fun _ => rfl) (ok := fun _ => True) r0 (fun _ _ => trivial)), Kd.R_reads (Kd.R_of_own (h1 := fun _ => rfl) (ok := fun _ => True) r1 (fun _ _ => trivial)), Kd.R_reads (Kd.R_of_own (h1 := fun _ => rfl) (ok := fun _ => True) r2 (fun _ _ => trivial)), Kd.R_reads (Kd.R_of_own (h1 := fun _ => rfl) (ok := fun _ => True) r3 (fun _ _ => trivial))⟩
theorem DI.bad {w0 W : World} {R0 g Bb Bc : Nat} {bs : List Int} {bad : Bool} {v0 v1 v2 v3 : Value} {ws cs : List Int} {ns : List ByteArray} {ks : List Int} (h : DI w0 R0 g Bb Bc W bs bad v0 v1 v2 v3 ws cs ns ks) : W.cell? ⟨g, 1, none⟩ = some (.bool bad) := by
 obtain ⟨⟨A, cc, i1, _⟩, _⟩ := h
 exact blk_cell i1 1
theorem DI.cells {w0 W : World} {R0 g Bb Bc : Nat} {bs : List Int} {bad : Bool} {v0 v1 v2 v3 : Value} {ws cs : List Int} {ns : List ByteArray} {ks : List Int} (h : DI w0 R0 g Bb Bc W bs bad v0 v1 v2 v3 ws cs ns ks) (i : Nat) {u : Value} (hu : #[v0, v1, v2, v3][i]? = some u) : W.cell? ⟨Bc, i, none⟩ = some u := by
 obtain ⟨_, _, _, hc, _⟩ := h
 exact (blk_cell hc i).trans hu
set_option maxHeartbeats 8000000 in
set_option maxRecDepth 100000 in
theorem code_Decode.calls (k : Nat) (a0 : ByteArray) (r1 r2 : List Int) (r3 : List ByteArray) (r4 : List Int) (r5 : Int) (w : World) (hG : Glob w) (h : code_Decode.f k a0 = some (r1, r2, r3, r4, r5)) :
  Calls Tryd.prog 22 #[.string a0] w fun e w' => ∃ v0_ v1_ v2_ v3_ : Value, e = .returned (.tuple #[.agg #[v0_, v1_, v2_, v3_], .int .i64 r5]) ∧ Kd.R (Kd.int .u64) 33 w' w.heap.size (fun _ => True) v0_ r1 ∧ Kd.R (Kd.int .i64) 3 w' w.heap.size (fun k_ => some k_ ≠ (v3_ : Value).ownBlock) v1_ r2 ∧ Kd.R Kd.string 9 w' w.heap.size (fun _ => True) v2_ r3 ∧ Kd.R (Kd.int .i64) 3 w' w.heap.size (fun k_ => some k_ ≠ (v1_ : Value).ownBlock) v3_ r4 ∧ Below w.heap.size w w' := by
 unfold code_Decode.f at h
 by_cases hs0 : a0.size ≤ 9223372036854775807
 case neg => rw [if_neg hs0] at h; cases h
 rw [if_pos hs0] at h
 obtain ⟨⟨s0, b0, e0⟩, h0, h⟩ := Option.bind_eq_some_iff.mp h
 have kb := Lib.run_convert_string_bytes (P := Tryd.prog) (w.alloc (.cells #[.slice none 0 0, .slice none 0 0, .slice none 0 0, .slice none 0 0] 26)) 9 44 5 a0 Tryd.underlying9 Tryd.underlying44 Tryd.underlying5
 have z1 : (w.alloc (.cells #[.slice none 0 0, .slice none 0 0, .slice none 0 0, .slice none 0 0] 26)).heap.size = w.heap.size + 1 := by simp
 rw [z1] at kb
 generalize hW1 : Lib.bytesWorld (w.alloc (.cells #[.slice none 0 0, .slice none 0 0, .slice none 0 0, .slice none 0 0] 26)) 5 a0 = W1 at kb
 have z2 : W1.heap.size = w.heap.size + 1 + 1 := by rw [← hW1, Lib.bytesWorld_size, z1]
 generalize hC0 : grownCap (w.alloc (.cells #[.slice none 0 0, .slice none 0 0, .slice none 0 0, .slice none 0 0] 26)) a0.size 0 5 = c0 at kb
 have HI := Aside0.mk (show DI w w.heap.size (w.heap.size + 1 + 1) (w.heap.size + 1) (w.heap.size + 1 + 1 + 1) ((W1.alloc (.cells #[.slice (some ⟨w.heap.size + 1, 0, none⟩) a0.size c0, .bool false] 69)).alloc (.cells #[.slice none 0 0, .slice none 0 0, .slice none 0 0, .slice none 0 0] 26)) (bytesOf a0) false (.slice none 0 0) (.slice none 0 0) (.slice none 0 0) (.slice none 0 0) [] [] [] [] by
  have z3 : (W1.alloc (.cells #[.slice (some ⟨w.heap.size + 1, 0, none⟩) a0.size c0, .bool false] 69)).heap.size = w.heap.size + 1 + 1 + 1 := by simp [z2]
  have g1 := heap_alloc_new W1 (.cells #[.slice (some ⟨w.heap.size + 1, 0, none⟩) a0.size c0, .bool false] 69)
  have g2 := heap_alloc_new (W1.alloc (.cells #[.slice (some ⟨w.heap.size + 1, 0, none⟩) a0.size c0, .bool false] 69)) (.cells #[.slice none 0 0, .slice none 0 0, .slice none 0 0, .slice none 0 0] 26)
  rw [z2] at g1
  rw [z3] at g2
  have gR := heap_alloc_new w (.cells #[.slice none 0 0, .slice none 0 0, .slice none 0 0, .slice none 0 0] 26)
  have gR1 : W1.heap[w.heap.size]? = some (.cells #[.slice none 0 0, .slice none 0 0, .slice none 0 0, .slice none 0 0] 26 (0, 0)) := by rw [← hW1, Lib.bytesWorld_at_old _ _ _ _ (by omega)]; exact gR
  have gB1 := Lib.bytesWorld_at_new (w.alloc (.cells #[.slice none 0 0, .slice none 0 0, .slice none 0 0, .slice none 0 0] 26)) 5 a0
  rw [hW1, z1] at gB1
  have up : Below W1.heap.size W1 ((W1.alloc (.cells #[.slice (some ⟨w.heap.size + 1, 0, none⟩) a0.size c0, .bool false] 69)).alloc (.cells #[.slice none 0 0, .slice none 0 0, .slice none 0 0, .slice none 0 0] 26)) := below_alloc (below_alloc (Below.refl _ _) _) _
  have lo : Below w.heap.size w W1 := by rw [← hW1]; exact bytes_below (below_alloc (Below.refl _ _) _) (by rw [z1]; omega) 5 a0
  have rd := bytes_reads (w.alloc (.cells #[.slice none 0 0, .slice none 0 0, .slice none 0 0, .slice none 0 0] 26)) 5 a0 hs0
  rw [hW1, z1] at rd
  have hlb : (bytesOf a0).length = a0.size := bytesOf_length a0
  refine ⟨⟨some ⟨w.heap.size + 1, 0, none⟩, c0, ?_, ?_, ?_, below_then lo lo.size up, by omega, by omega⟩, blk_below gR1 up, ⟨_, _, blk_below gB1 up⟩, g2, ⟨⟨rfl, .inl ⟨rfl, rfl⟩⟩, ⟨rfl, .inl ⟨rfl, rfl⟩⟩, ⟨rfl, .inl ⟨rfl, rfl⟩⟩, ⟨rfl, .inl ⟨rfl, rfl⟩⟩, fun k hk => by simp [Value.ownBlock] at hk⟩, by omega, by omega, by omega, by omega⟩
  ·rw [hlb]
   exact blk_below g1 (below_alloc (Below.refl _ _) _)
  ·rw [hlb, ← hC0]
   exact grownCap_ge _ _ _ _
  ·intro W' hW'
   have e1 := hW'.trans (up.block (w.heap.size + 1) (by omega))
   refine ⟨rfl, by rw [hlb]; exact hs0, fun hp => ?_⟩
   obtain ⟨ad, ea, hc⟩ := rd.2.2 (by rw [← hlb]; exact hp)
   refine ⟨ad, ea, fun j hj => ?_⟩
   cases ea
   rw [← hc j (by rw [← hlb]; exact hj)]
   unfold World.cell?
   have eb : ((⟨w.heap.size + 1, 0, none⟩ : Addr).add j).block = w.heap.size + 1 := by unfold Addr.add; split <;> rfl
   rw [eb, e1])
 have H0 := Aside0.mk h0
 clear h0 hW1 hC0 z1
 by_cases hm : s0.toList = [73, 67, 49]
 ·rw [if_pos hm] at h
  have hm1 : (s0.toList == [73, 67, 49]) = true := beq_iff_eq.mpr hm
  have hm2 : (!(s0.toList == [73, 67, 49])) = false := by rw [hm1]; rfl
  clear hm
  obtain ⟨⟨n1, b1, e1⟩, h1, h⟩ := Option.bind_eq_some_iff.mp h
  obtain ⟨⟨ws, b2, e2⟩, h2, h⟩ := Option.bind_eq_some_iff.mp h
  obtain ⟨⟨n2, b3, e3⟩, h3, h⟩ := Option.bind_eq_some_iff.mp h
  obtain ⟨⟨cs, b4, e4⟩, h4, h⟩ := Option.bind_eq_some_iff.mp h
  obtain ⟨⟨n3, b5, e5⟩, h5, h⟩ := Option.bind_eq_some_iff.mp h
  obtain ⟨⟨ns, b6, e6⟩, h6, h⟩ := Option.bind_eq_some_iff.mp h
  obtain ⟨⟨n4, b7, e7⟩, h7, h⟩ := Option.bind_eq_some_iff.mp h
  obtain ⟨⟨ks, b8, e8⟩, h8, h⟩ := Option.bind_eq_some_iff.mp h
  have H1 := Aside0.mk h1
  have H2 := Aside0.mk h2
  have H3 := Aside0.mk h3
  have H4 := Aside0.mk h4
  have H5 := Aside0.mk h5
  have H6 := Aside0.mk h6
  have H7 := Aside0.mk h7
  have H8 := Aside0.mk h8
  have HH := Aside0.mk h
  clear h1 h2 h3 h4 h5 h6 h7 h8 h
  go_enter Tryd.func22, Tryd.ntmps22
  go_upto_block 0 with (first | (go_at_call 46; (with_reducible refine (txt_calls H0.out HI.out).mono ?_); rintro e W2 ⟨rfl, hI2⟩; have HI2 := Aside0.mk hI2; clear hI2) | (go_at_call 47; (with_reducible refine (cnt_calls H1.out HI2.out).mono ?_); rintro e W3 ⟨rfl, hI3, hj3⟩; have HI3 := Aside0.mk hI3; have HJ3 := Aside0.mk hj3; clear hI3 hj3))
  go_cut [6] from 24 to 41 (fun s6 wx => ∃ u0 : Value, Aside0 (DI w w.heap.size (w.heap.size + 1 + 1) (w.heap.size + 1) (w.heap.size + 1 + 1 + 1) wx b2 e2 u0 (.slice none 0 0) (.slice none 0 0) (.slice none 0 0) ws [] [] []))
  case first =>
   go_wp2_with fail
   go_loopw [6] (fun v w' => ∃ (j : Nat) (b : List Int) (e : Bool) (acc : List Int) (u : Value), v = .int .i64 j ∧ Aside0 (code_Decode.dl (code_reader_number.g k) j acc b e = some (ws, b2, e2)) ∧ acc.length + j ≤ 32768 ∧ Aside0 (DI w w.heap.size (w.heap.size + 1 + 1) (w.heap.size + 1) (w.heap.size + 1 + 1 + 1) w' b e u (.slice none 0 0) (.slice none 0 0) (.slice none 0 0) acc [] [] [])) (fun v _ => (intOf v).toNat)
   case atStart => exact ⟨n1, b1, e1, [], _, rfl, H2, by simpa using HJ3.out, HI3⟩
   case round =>
    clear HI3 H2 HJ3 HI2 HI
    obtain ⟨j, b, e, acc, u, rfl, HD, hj, HL⟩ := hrel
    have gb := DI.bad HL.out
    cases j with
    | zero =>
     have hd := Option.some.inj HD.out
     simp only [Prod.mk.injEq] at hd
     obtain ⟨rfl, rfl, rfl⟩ := hd
     go_wp2_with fail
     go_meet
     exact ⟨_, HL⟩
    | succ j =>
     have f1 : decide ((0 : Int) < (j : Int) + 1) = true := decide_eq_true (by omega)
     have f2 : decide ((0 : Int) < ((j + 1 : Nat) : Int)) = true := decide_eq_true (by omega)
     cases e with
     | true =>
      have hd := Option.some.inj HD.out
      simp only [Prod.mk.injEq] at hd
      obtain ⟨rfl, rfl, rfl⟩ := hd
      go_wp2_with fail
      go_meet
      exact ⟨_, HL⟩
     | false =>
      have hd : ((code_reader_number.g k) b false).bind (fun t => code_Decode.dl (code_reader_number.g k) j (acc ++ [t.1]) t.2.1 t.2.2) = some (ws, b2, e2) := HD.out
      obtain ⟨⟨y, b', e'⟩, hd1, hd2⟩ := Option.bind_eq_some_iff.mp hd
      have NY := Aside0.mk hd2
      have NX := Aside0.mk hd1
      clear hd hd1 hd2 HD
      go_wp2_with fail
      have hc0 := DI.cells HL.out 0 rfl
      refine start_ (n := 8) (S := fun w' => w'.cell? ⟨w.heap.size + 1 + 1 + 1, 0, none⟩ = some u) (ds := [7]) #[false, false, false, false, false, false, false, false] (by kernel_rfl) rfl rfl hc0 (fun hHeld => ?_)
      have HL1 := Aside0.mk (DI.below HL.out (Below.refl wr.heap.size wr).drew)
      generalize wr.drew = w1 at HL1 hHeld ⊢
      clear HL hc0 gb
      refine pure_ (i := 0) (N := some 35) (v := ?_) (a' := ?_) #[true, false, false, false, false, false, false, false] rfl rfl (by kernel_rfl) (fun _ _ _ h => h) (Or.inl ⟨by rfl, ?_⟩) ?_ ?_
      rotate_left
      ·intro w'
       go_simp
       with_reducible rfl
      rotate_left
      ·simp only [Act.put, List.setIfInBounds_toArray, List.set_cons_zero, List.set_cons_succ, i64_w, i32_w]
       rfl
      refine take_ (i := 1) (N := some 36) (v := ?_) (a' := ?_) #[true, true, false, false, false, false, false, false] rfl rfl (by kernel_rfl) (fun _ _ _ h => h) (Or.inl ⟨by rfl, ?_⟩) hHeld ?_ ?_
      rotate_left
      ·rintro w' s0
       go_simp
       with_reducible rfl
      rotate_left
      ·simp only [Act.put, List.setIfInBounds_toArray, List.set_cons_zero, List.set_cons_succ, i64_w, i32_w]
       rfl
      refine pure_ (i := 2) (N := some 37) (v := ?_) (a' := ?_) #[true, true, true, false, false, false, false, false] rfl rfl (by kernel_rfl) (fun _ _ _ h => h) (Or.inl ⟨by rfl, ?_⟩) ?_ ?_
      rotate_left
      ·intro w'
       go_simp
       with_reducible rfl
      rotate_left
      ·simp only [Act.put, List.setIfInBounds_toArray, List.set_cons_zero, List.set_cons_succ, i64_w, i32_w]
       rfl
      refine one_ (i := 3) (N := some 38) #[true, true, true, true, false, false, false, false] rfl rfl (by kernel_rfl) (by decide) (fun K hK => ?_)
      refine goes_ Tryd.func48 (by kernel_rfl) rfl #[.pointer (some ⟨w.heap.size + 1 + 1, 0, none⟩)] (by rfl) rfl rfl (by (try simp only [List.map_toArray, List.map_cons, List.map_nil]); first | done | rfl) ?_
      with_reducible refine (num_calls NX.out HL1.out).mono ?_
      rintro e w2 ⟨rfl, hI2⟩
      refine ⟨_, rfl, ?_⟩
      have HL2 := Aside0.mk hI2
      refine hK.out _ _ (DI.cells HL2.out 0 rfl) (fun hHeld2 => ?_)
      clear hK K hHeld hI2
      refine norm_ (a' := ?_) ?_ ?_
      rotate_left
      ·show Act.put _ (some 38) _ = _
       simp only [Act.put, List.setIfInBounds_toArray, List.set_cons_zero, List.set_cons_succ, i64_w, i32_w]
       rfl
      refine one_ (i := 4) (N := some 39) #[true, true, true, true, true, false, false, false] rfl rfl (by kernel_rfl) (by decide) (fun K hK => ?_)
      refine value_ (v := .slice (some ⟨w2.heap.size, 0, none⟩) 1 1) (w1 := w2.alloc (.cells [Value.int .u64 y].toArray 33)) (by rfl) rfl (by go_simp) ?_
      refine hK.out _ _ (DI.cells (DI.below HL2.out (below_alloc (Below.refl _ _) _)) 0 rfl) (fun hHeldb => ?_)
      clear hK K hHeld2
      refine norm_ (a' := ?_) ?_ ?_
      rotate_left
      ·show Act.put _ (some 39) _ = _
       simp only [Act.put, List.setIfInBounds_toArray, List.set_cons_zero, List.set_cons_succ, i64_w, i32_w]
       rfl
      have hown := HL2.out.2.2.2.2.1.1
      have hbl : Below w.heap.size w w2 := by
       obtain ⟨⟨_, _, _, _, _, i4, _⟩, _⟩ := HL2.out
       exact i4
      refine one_ (i := 5) (N := some 40) #[true, true, true, true, true, true, false, false] rfl rfl (by kernel_rfl) (by decide) (fun K hK => ?_)
      refine step_append_cells w.heap.size (by rfl) (.tmp 36) (.tmp 39) 22 33 (.int .u64 0) 1 8 rfl Tryd.underlying22 info33 rfl (by omega) (by omega) u acc.length (nums .u64 acc) [Value.int .u64 y] (by rfl) (by rfl) rfl (by intro z_ hz_; obtain rfl := List.mem_singleton.mp hz_; rfl) hown hbl hbl.size (by omega) ?_
      intro v1 w9 ho9 hb9 hg9 hat9
      obtain ⟨g1, c1, rfl, _, _⟩ := ho9.form (by omega)
      have HP := Aside0.mk (DI.push0 HL2.out ho9 hb9 hg9 hat9)
      have hbx := DI.box HL2.out hg9 (.inl rfl)
      have hcB := (blk_cell hbx 0).trans (rfl : _ = some u)
      have hfB := blk_frozen hbx 0
      refine hK.out _ _ hcB (fun hHeld9 => ?_)
      clear hK K hHeldb hHeld9 hbx ho9 hb9 hg9 hat9 hown hbl
      refine norm_ (a' := ?_) ?_ ?_
      rotate_left
      ·show Act.put _ (some 40) _ = _
       simp only [Act.put, List.setIfInBounds_toArray, List.set_cons_zero, List.set_cons_succ, i64_w, i32_w]
       rfl
      refine pure_ (i := 6) (N := some 41) (v := ?_) (a' := ?_) #[true, true, true, true, true, true, true, false] rfl rfl (by kernel_rfl) (fun _ _ _ h => h) (Or.inl ⟨by rfl, ?_⟩) ?_ ?_
      rotate_left
      ·intro w'
       go_simp
       with_reducible rfl
      rotate_left
      ·simp only [Act.put, List.setIfInBounds_toArray, List.set_cons_zero, List.set_cons_succ, i64_w, i32_w]
       rfl
      refine last_ (i := 7) (N := none) #[true, true, true, true, true, true, true, true] rfl rfl (by kernel_rfl) (by decide) (fun K hK => ?_)
      refine skip_ (w1 := w9.setCell ⟨w.heap.size + 1 + 1 + 1, 0, none⟩ (.slice (some ⟨g1, 0, none⟩) (acc.length + 1) c1)) (by rfl) rfl ?_ ?_
      ·go_simp
      refine hK.out _ _ ?_
      refine done_ (by kernel_rfl) ?_
      have fj : wrap64 (((j + 1 : Nat) : Int) - 1) = (j : Int) := by unfold wrap64; omega
      go_wp2_with fail
      go_roundw
      case rel => exact ⟨j, b', e', acc ++ [y], _, (by first | rfl | (simp only [fj]; done) | simp), NY, (by rw [List.length_append, List.length_singleton]; omega), HP⟩
      case measure => simp [intOf]; try omega
  case rest =>
   obtain ⟨u1, HLa⟩ := hcut
   go_upto_block 2 with (go_at_call 47; (with_reducible refine (cnt_calls H3.out HLa.out).mono ?_); rintro e W5 ⟨rfl, hI5, hj5⟩; have HI5 := Aside0.mk hI5; have HJ5 := Aside0.mk hj5; clear hI5 hj5)
   go_cut [7] from 44 to 62 (fun s6 wx => ∃ u0 : Value, Aside0 (DI w w.heap.size (w.heap.size + 1 + 1) (w.heap.size + 1) (w.heap.size + 1 + 1 + 1) wx b4 e4 u1 u0 (.slice none 0 0) (.slice none 0 0) ws cs [] []))
   case first =>
    go_wp2_with fail
    go_loopw [7] (fun v w' => ∃ (j : Nat) (b : List Int) (e : Bool) (acc : List Int) (u : Value), v = .int .i64 j ∧ Aside0 (code_Decode.dl (code_Decode.cst k) j acc b e = some (cs, b4, e4)) ∧ acc.length + j ≤ 32768 ∧ Aside0 (DI w w.heap.size (w.heap.size + 1 + 1) (w.heap.size + 1) (w.heap.size + 1 + 1 + 1) w' b e u1 u (.slice none 0 0) (.slice none 0 0) ws acc [] [])) (fun v _ => (intOf v).toNat)
    case atStart => exact ⟨n2, b3, e3, [], _, rfl, H4, by simpa using HJ5.out, HI5⟩
    case round =>
     clear HI5 H4 HJ5 HLa
     obtain ⟨j, b, e, acc, u, rfl, HD, hj, HL⟩ := hrel
     have gb := DI.bad HL.out
     cases j with
     | zero =>
      have hd := Option.some.inj HD.out
      simp only [Prod.mk.injEq] at hd
      obtain ⟨rfl, rfl, rfl⟩ := hd
      go_wp2_with fail
      go_meet
      exact ⟨_, HL⟩
     | succ j =>
      have f1 : decide ((0 : Int) < (j : Int) + 1) = true := decide_eq_true (by omega)
      have f2 : decide ((0 : Int) < ((j + 1 : Nat) : Int)) = true := decide_eq_true (by omega)
      cases e with
      | true =>
       have hd := Option.some.inj HD.out
       simp only [Prod.mk.injEq] at hd
       obtain ⟨rfl, rfl, rfl⟩ := hd
       go_wp2_with fail
       go_meet
       exact ⟨_, HL⟩
      | false =>
       have hd : ((code_Decode.cst k) b false).bind (fun t => code_Decode.dl (code_Decode.cst k) j (acc ++ [t.1]) t.2.1 t.2.2) = some (cs, b4, e4) := HD.out
       obtain ⟨⟨y, b', e'⟩, hd1, hd2⟩ := Option.bind_eq_some_iff.mp hd
       have NY := Aside0.mk hd2
       obtain ⟨⟨y0, b0', e0'⟩, hx, hz⟩ := Option.bind_eq_some_iff.mp hd1
       obtain ⟨z, hz1, hz2⟩ := Option.bind_eq_some_iff.mp hz
       simp only [Option.some.injEq, Prod.mk.injEq] at hz2
       obtain ⟨ha_, hb_, hc_⟩ := hz2
       rw [ha_] at hz1
       rw [hb_, hc_] at hx
       clear ha_ hb_ hc_
       have NX := Aside0.mk hx
       have NZ := Aside0.mk hz1
       clear hx hz hz1
       clear hd hd1 hd2 HD
       go_wp2_with fail
       have hc0 := DI.cells HL.out 1 rfl
       refine start_ (n := 9) (S := fun w' => w'.cell? ⟨w.heap.size + 1 + 1 + 1, 1, none⟩ = some u) (ds := [8]) #[false, false, false, false, false, false, false, false, false] (by kernel_rfl) rfl rfl hc0 (fun hHeld => ?_)
       have HL1 := Aside0.mk (DI.below HL.out (Below.refl wr.heap.size wr).drew)
       generalize wr.drew = w1 at HL1 hHeld ⊢
       clear HL hc0 gb
       refine pure_ (i := 0) (N := some 55) (v := ?_) (a' := ?_) #[true, false, false, false, false, false, false, false, false] rfl rfl (by kernel_rfl) (fun _ _ _ h => h) (Or.inl ⟨by rfl, ?_⟩) ?_ ?_
       rotate_left
       ·intro w'
        go_simp
        with_reducible rfl
       rotate_left
       ·simp only [Act.put, List.setIfInBounds_toArray, List.set_cons_zero, List.set_cons_succ, i64_w, i32_w]
        rfl
       refine take_ (i := 1) (N := some 56) (v := ?_) (a' := ?_) #[true, true, false, false, false, false, false, false, false] rfl rfl (by kernel_rfl) (fun _ _ _ h => h) (Or.inl ⟨by rfl, ?_⟩) hHeld ?_ ?_
       rotate_left
       ·rintro w' s0
        go_simp
        with_reducible rfl
       rotate_left
       ·simp only [Act.put, List.setIfInBounds_toArray, List.set_cons_zero, List.set_cons_succ, i64_w, i32_w]
        rfl
       refine pure_ (i := 2) (N := some 57) (v := ?_) (a' := ?_) #[true, true, true, false, false, false, false, false, false] rfl rfl (by kernel_rfl) (fun _ _ _ h => h) (Or.inl ⟨by rfl, ?_⟩) ?_ ?_
       rotate_left
       ·intro w'
        go_simp
        with_reducible rfl
       rotate_left
       ·simp only [Act.put, List.setIfInBounds_toArray, List.set_cons_zero, List.set_cons_succ, i64_w, i32_w]
        rfl
       refine one_ (i := 3) (N := some 58) #[true, true, true, true, false, false, false, false, false] rfl rfl (by kernel_rfl) (by decide) (fun K hK => ?_)
       refine goes_ Tryd.func48 (by kernel_rfl) rfl #[.pointer (some ⟨w.heap.size + 1 + 1, 0, none⟩)] (by rfl) rfl rfl (by (try simp only [List.map_toArray, List.map_cons, List.map_nil]); first | done | rfl) ?_
       with_reducible refine (num_calls NX.out HL1.out).mono ?_
       rintro e w2 ⟨rfl, hI2⟩
       refine ⟨_, rfl, ?_⟩
       have HL2 := Aside0.mk hI2
       refine hK.out _ _ (DI.cells HL2.out 1 rfl) (fun hHeld2 => ?_)
       clear hK K hHeld hI2
       refine norm_ (a' := ?_) ?_ ?_
       rotate_left
       ·show Act.put _ (some 58) _ = _
        simp only [Act.put, List.setIfInBounds_toArray, List.set_cons_zero, List.set_cons_succ, i64_w, i32_w]
        rfl
       refine one_ (i := 4) (N := some 59) #[true, true, true, true, true, false, false, false, false] rfl rfl (by kernel_rfl) (by decide) (fun K hK => ?_)
       refine goes_ Tryd.func49 (by kernel_rfl) rfl #[.int .u64 y0] (by rfl) rfl rfl (by (try simp only [List.map_toArray, List.map_cons, List.map_nil]); first | done | rfl) ?_
       with_reducible refine (pack_Zag.calls y0 y _ NZ.out).mono ?_
       rintro e w3 ⟨rfl, ⟨nd, rfl⟩⟩
       refine ⟨_, rfl, ?_⟩
       have HL3 := Aside0.mk (DI.below HL2.out (pw_below_drewN (Below.refl _ _) nd))
       refine hK.out _ _ (DI.cells HL3.out 1 rfl) (fun hHeld3 => ?_)
       clear hK K hHeld2
       refine norm_ (a' := ?_) ?_ ?_
       rotate_left
       ·show Act.put _ (some 59) _ = _
        simp only [Act.put, List.setIfInBounds_toArray, List.set_cons_zero, List.set_cons_succ, i64_w, i32_w]
        rfl
       generalize hWn : w2.drewN nd = w3 at HL3 hHeld3 ⊢
       clear hWn
       refine one_ (i := 5) (N := some 60) #[true, true, true, true, true, true, false, false, false] rfl rfl (by kernel_rfl) (by decide) (fun K hK => ?_)
       refine value_ (v := .slice (some ⟨w3.heap.size, 0, none⟩) 1 1) (w1 := w3.alloc (.cells [Value.int .i64 y].toArray 3)) (by rfl) rfl (by go_simp) ?_
       refine hK.out _ _ (DI.cells (DI.below HL3.out (below_alloc (Below.refl _ _) _)) 1 rfl) (fun hHeldb => ?_)
       clear hK K hHeld3
       refine norm_ (a' := ?_) ?_ ?_
       rotate_left
       ·show Act.put _ (some 60) _ = _
        simp only [Act.put, List.setIfInBounds_toArray, List.set_cons_zero, List.set_cons_succ, i64_w, i32_w]
        rfl
       have hown := HL3.out.2.2.2.2.1.2.1
       have hbl : Below w.heap.size w w3 := by
        obtain ⟨⟨_, _, _, _, _, i4, _⟩, _⟩ := HL3.out
        exact i4
       refine one_ (i := 6) (N := some 61) #[true, true, true, true, true, true, true, false, false] rfl rfl (by kernel_rfl) (by decide) (fun K hK => ?_)
       refine step_append_cells w.heap.size (by rfl) (.tmp 56) (.tmp 60) 23 3 (.int .i64 0) 1 8 rfl Tryd.underlying23 info3 rfl (by omega) (by omega) u acc.length (nums .i64 acc) [Value.int .i64 y] (by rfl) (by rfl) rfl (by intro z_ hz_; obtain rfl := List.mem_singleton.mp hz_; rfl) hown hbl hbl.size (by omega) ?_
       intro v1 w9 ho9 hb9 hg9 hat9
       obtain ⟨g1, c1, rfl, _, _⟩ := ho9.form (by omega)
       have HP := Aside0.mk (DI.push1 HL3.out ho9 hb9 hg9 hat9)
       have hbx := DI.box HL3.out hg9 (.inr (.inl rfl))
       have hcB := (blk_cell hbx 1).trans (rfl : _ = some u)
       have hfB := blk_frozen hbx 1
       refine hK.out _ _ hcB (fun hHeld9 => ?_)
       clear hK K hHeldb hHeld9 hbx ho9 hb9 hg9 hat9 hown hbl
       refine norm_ (a' := ?_) ?_ ?_
       rotate_left
       ·show Act.put _ (some 61) _ = _
        simp only [Act.put, List.setIfInBounds_toArray, List.set_cons_zero, List.set_cons_succ, i64_w, i32_w]
        rfl
       refine pure_ (i := 7) (N := some 62) (v := ?_) (a' := ?_) #[true, true, true, true, true, true, true, true, false] rfl rfl (by kernel_rfl) (fun _ _ _ h => h) (Or.inl ⟨by rfl, ?_⟩) ?_ ?_
       rotate_left
       ·intro w'
        go_simp
        with_reducible rfl
       rotate_left
       ·simp only [Act.put, List.setIfInBounds_toArray, List.set_cons_zero, List.set_cons_succ, i64_w, i32_w]
        rfl
       refine last_ (i := 8) (N := none) #[true, true, true, true, true, true, true, true, true] rfl rfl (by kernel_rfl) (by decide) (fun K hK => ?_)
       refine skip_ (w1 := w9.setCell ⟨w.heap.size + 1 + 1 + 1, 1, none⟩ (.slice (some ⟨g1, 0, none⟩) (acc.length + 1) c1)) (by rfl) rfl ?_ ?_
       ·go_simp
       refine hK.out _ _ ?_
       refine done_ (by kernel_rfl) ?_
       have fj : wrap64 (((j + 1 : Nat) : Int) - 1) = (j : Int) := by unfold wrap64; omega
       go_wp2_with fail
       go_roundw
       case rel => exact ⟨j, b', e', acc ++ [y], _, (by first | rfl | (simp only [fj]; done) | simp), NY, (by rw [List.length_append, List.length_singleton]; omega), HP⟩
       case measure => simp [intOf]; try omega
   case rest =>
    obtain ⟨u2, HLb⟩ := hcut
    go_upto_block 4 with (go_at_call 47; (with_reducible refine (cnt_calls H5.out HLb.out).mono ?_); rintro e W7 ⟨rfl, hI7, hj7⟩; have HI7 := Aside0.mk hI7; have HJ7 := Aside0.mk hj7; clear hI7 hj7)
    go_cut [8] from 65 to 84 (fun s6 wx => ∃ u0 : Value, Aside0 (DI w w.heap.size (w.heap.size + 1 + 1) (w.heap.size + 1) (w.heap.size + 1 + 1 + 1) wx b6 e6 u1 u2 u0 (.slice none 0 0) ws cs ns []))
    case first =>
     go_wp2_with fail
     go_loopw [8] (fun v w' => ∃ (j : Nat) (b : List Int) (e : Bool) (acc : List ByteArray) (u : Value), v = .int .i64 j ∧ Aside0 (code_Decode.dl (code_Decode.nst k) j acc b e = some (ns, b6, e6)) ∧ acc.length + j ≤ 32768 ∧ Aside0 (DI w w.heap.size (w.heap.size + 1 + 1) (w.heap.size + 1) (w.heap.size + 1 + 1 + 1) w' b e u1 u2 u (.slice none 0 0) ws cs acc [])) (fun v _ => (intOf v).toNat)
     case atStart => exact ⟨n3, b5, e5, [], _, rfl, H6, by simpa using HJ7.out, HI7⟩
     case round =>
      clear HI7 H6 HJ7 HLb
      obtain ⟨j, b, e, acc, u, rfl, HD, hj, HL⟩ := hrel
      have gb := DI.bad HL.out
      cases j with
      | zero =>
       have hd := Option.some.inj HD.out
       simp only [Prod.mk.injEq] at hd
       obtain ⟨rfl, rfl, rfl⟩ := hd
       go_wp2_with fail
       go_meet
       exact ⟨_, HL⟩
      | succ j =>
       have f1 : decide ((0 : Int) < (j : Int) + 1) = true := decide_eq_true (by omega)
       have f2 : decide ((0 : Int) < ((j + 1 : Nat) : Int)) = true := decide_eq_true (by omega)
       cases e with
       | true =>
        have hd := Option.some.inj HD.out
        simp only [Prod.mk.injEq] at hd
        obtain ⟨rfl, rfl, rfl⟩ := hd
        go_wp2_with fail
        go_meet
        exact ⟨_, HL⟩
       | false =>
        have hd : ((code_Decode.nst k) b false).bind (fun t => code_Decode.dl (code_Decode.nst k) j (acc ++ [t.1]) t.2.1 t.2.2) = some (ns, b6, e6) := HD.out
        obtain ⟨⟨y, b', e'⟩, hd1, hd2⟩ := Option.bind_eq_some_iff.mp hd
        have NY := Aside0.mk hd2
        obtain ⟨⟨m, b0', e0'⟩, hx, hz⟩ := Option.bind_eq_some_iff.mp hd1
        have NX := Aside0.mk hx
        have NZ := Aside0.mk hz
        clear hx hz
        clear hd hd1 hd2 HD
        go_wp2_with fail
        have hc0 := DI.cells HL.out 2 rfl
        refine start_ (n := 10) (S := fun w' => w'.cell? ⟨w.heap.size + 1 + 1 + 1, 2, none⟩ = some u) (ds := [9]) #[false, false, false, false, false, false, false, false, false, false] (by kernel_rfl) rfl rfl hc0 (fun hHeld => ?_)
        have HL1 := Aside0.mk (DI.below HL.out (Below.refl wr.heap.size wr).drew)
        generalize wr.drew = w1 at HL1 hHeld ⊢
        clear HL hc0 gb
        refine pure_ (i := 0) (N := some 76) (v := ?_) (a' := ?_) #[true, false, false, false, false, false, false, false, false, false] rfl rfl (by kernel_rfl) (fun _ _ _ h => h) (Or.inl ⟨by rfl, ?_⟩) ?_ ?_
        rotate_left
        ·intro w'
         go_simp
         with_reducible rfl
        rotate_left
        ·simp only [Act.put, List.setIfInBounds_toArray, List.set_cons_zero, List.set_cons_succ, i64_w, i32_w]
         rfl
        refine take_ (i := 1) (N := some 77) (v := ?_) (a' := ?_) #[true, true, false, false, false, false, false, false, false, false] rfl rfl (by kernel_rfl) (fun _ _ _ h => h) (Or.inl ⟨by rfl, ?_⟩) hHeld ?_ ?_
        rotate_left
        ·rintro w' s0
         go_simp
         with_reducible rfl
        rotate_left
        ·simp only [Act.put, List.setIfInBounds_toArray, List.set_cons_zero, List.set_cons_succ, i64_w, i32_w]
         rfl
        refine pure_ (i := 2) (N := some 78) (v := ?_) (a' := ?_) #[true, true, true, false, false, false, false, false, false, false] rfl rfl (by kernel_rfl) (fun _ _ _ h => h) (Or.inl ⟨by rfl, ?_⟩) ?_ ?_
        rotate_left
        ·intro w'
         go_simp
         with_reducible rfl
        rotate_left
        ·simp only [Act.put, List.setIfInBounds_toArray, List.set_cons_zero, List.set_cons_succ, i64_w, i32_w]
         rfl
        refine pure_ (i := 3) (N := some 79) (v := ?_) (a' := ?_) #[true, true, true, true, false, false, false, false, false, false] rfl rfl (by kernel_rfl) (fun _ _ _ h => h) (Or.inl ⟨by rfl, ?_⟩) ?_ ?_
        rotate_left
        ·intro w'
         go_simp
         with_reducible rfl
        rotate_left
        ·simp only [Act.put, List.setIfInBounds_toArray, List.set_cons_zero, List.set_cons_succ, i64_w, i32_w]
         rfl
        refine one_ (i := 4) (N := some 80) #[true, true, true, true, true, false, false, false, false, false] rfl rfl (by kernel_rfl) (by decide) (fun K hK => ?_)
        refine goes_ Tryd.func47 (by kernel_rfl) rfl #[.pointer (some ⟨w.heap.size + 1 + 1, 0, none⟩), .int .i64 12] (by rfl) rfl rfl (by (try simp only [List.map_toArray, List.map_cons, List.map_nil]); first | done | rfl) ?_
        with_reducible refine (cn_calls NX.out HL1.out).mono ?_
        rintro e w2 ⟨rfl, hI2⟩
        refine ⟨_, rfl, ?_⟩
        have HL2 := Aside0.mk hI2
        refine hK.out _ _ (DI.cells HL2.out 2 rfl) (fun hHeld2 => ?_)
        clear hK K hHeld hI2
        refine norm_ (a' := ?_) ?_ ?_
        rotate_left
        ·show Act.put _ (some 80) _ = _
         simp only [Act.put, List.setIfInBounds_toArray, List.set_cons_zero, List.set_cons_succ, i64_w, i32_w]
         rfl
        refine one_ (i := 5) (N := some 81) #[true, true, true, true, true, true, false, false, false, false] rfl rfl (by kernel_rfl) (by decide) (fun K hK => ?_)
        refine goes_ Tryd.func46 (by kernel_rfl) rfl #[.pointer (some ⟨w.heap.size + 1 + 1, 0, none⟩), .int .i64 m] (by rfl) rfl rfl (by (try simp only [List.map_toArray, List.map_cons, List.map_nil]); first | done | rfl) ?_
        with_reducible refine (txt_calls NZ.out HL2.out).mono ?_
        rintro e w3 ⟨rfl, hI2⟩
        refine ⟨_, rfl, ?_⟩
        have HL3 := Aside0.mk hI2
        refine hK.out _ _ (DI.cells HL3.out 2 rfl) (fun hHeld3 => ?_)
        clear hK K hHeld2 hI2
        refine norm_ (a' := ?_) ?_ ?_
        rotate_left
        ·show Act.put _ (some 81) _ = _
         simp only [Act.put, List.setIfInBounds_toArray, List.set_cons_zero, List.set_cons_succ, i64_w, i32_w]
         rfl
        refine one_ (i := 6) (N := some 82) #[true, true, true, true, true, true, true, false, false, false] rfl rfl (by kernel_rfl) (by decide) (fun K hK => ?_)
        refine value_ (v := .slice (some ⟨w3.heap.size, 0, none⟩) 1 1) (w1 := w3.alloc (.cells [Value.string y].toArray 9)) (by rfl) rfl (by go_simp) ?_
        refine hK.out _ _ (DI.cells (DI.below HL3.out (below_alloc (Below.refl _ _) _)) 2 rfl) (fun hHeldb => ?_)
        clear hK K hHeld3
        refine norm_ (a' := ?_) ?_ ?_
        rotate_left
        ·show Act.put _ (some 82) _ = _
         simp only [Act.put, List.setIfInBounds_toArray, List.set_cons_zero, List.set_cons_succ, i64_w, i32_w]
         rfl
        have hown := HL3.out.2.2.2.2.1.2.2.1
        have hbl : Below w.heap.size w w3 := by
         obtain ⟨⟨_, _, _, _, _, i4, _⟩, _⟩ := HL3.out
         exact i4
        refine one_ (i := 7) (N := some 83) #[true, true, true, true, true, true, true, true, false, false] rfl rfl (by kernel_rfl) (by decide) (fun K hK => ?_)
        refine step_append_cells w.heap.size (by rfl) (.tmp 77) (.tmp 82) 24 9 (.string ByteArray.empty) 1 16 rfl Tryd.underlying24 info9 rfl (by omega) (by omega) u acc.length (encs Value.string acc) [Value.string y] (by rfl) (by rfl) rfl (by intro z_ hz_; obtain rfl := List.mem_singleton.mp hz_; rfl) hown hbl hbl.size (by omega) ?_
        intro v1 w9 ho9 hb9 hg9 hat9
        obtain ⟨g1, c1, rfl, _, _⟩ := ho9.form (by omega)
        have HP := Aside0.mk (DI.push2 HL3.out ho9 hb9 hg9 hat9)
        have hbx := DI.box HL3.out hg9 (.inr (.inr (.inl rfl)))
        have hcB := (blk_cell hbx 2).trans (rfl : _ = some u)
        have hfB := blk_frozen hbx 2
        refine hK.out _ _ hcB (fun hHeld9 => ?_)
        clear hK K hHeldb hHeld9 hbx ho9 hb9 hg9 hat9 hown hbl
        refine norm_ (a' := ?_) ?_ ?_
        rotate_left
        ·show Act.put _ (some 83) _ = _
         simp only [Act.put, List.setIfInBounds_toArray, List.set_cons_zero, List.set_cons_succ, i64_w, i32_w]
         rfl
        refine pure_ (i := 8) (N := some 84) (v := ?_) (a' := ?_) #[true, true, true, true, true, true, true, true, true, false] rfl rfl (by kernel_rfl) (fun _ _ _ h => h) (Or.inl ⟨by rfl, ?_⟩) ?_ ?_
        rotate_left
        ·intro w'
         go_simp
         with_reducible rfl
        rotate_left
        ·simp only [Act.put, List.setIfInBounds_toArray, List.set_cons_zero, List.set_cons_succ, i64_w, i32_w]
         rfl
        refine last_ (i := 9) (N := none) #[true, true, true, true, true, true, true, true, true, true] rfl rfl (by kernel_rfl) (by decide) (fun K hK => ?_)
        refine skip_ (w1 := w9.setCell ⟨w.heap.size + 1 + 1 + 1, 2, none⟩ (.slice (some ⟨g1, 0, none⟩) (acc.length + 1) c1)) (by rfl) rfl ?_ ?_
        ·go_simp
        refine hK.out _ _ ?_
        refine done_ (by kernel_rfl) ?_
        have fj : wrap64 (((j + 1 : Nat) : Int) - 1) = (j : Int) := by unfold wrap64; omega
        go_wp2_with fail
        go_roundw
        case rel => exact ⟨j, b', e', acc ++ [y], _, (by first | rfl | (simp only [fj]; done) | simp), NY, (by rw [List.length_append, List.length_singleton]; omega), HP⟩
        case measure => simp [intOf]; try omega
    case rest =>
     obtain ⟨u3, HLc⟩ := hcut
     go_upto_block 6 with (go_at_call 47; (with_reducible refine (cnt_calls H7.out HLc.out).mono ?_); rintro e W9 ⟨rfl, hI9, hj9⟩; have HI9 := Aside0.mk hI9; have HJ9 := Aside0.mk hj9; clear hI9 hj9)
     go_cut [9] from 87 to 104 (fun s6 wx => ∃ u0 : Value, Aside0 (DI w w.heap.size (w.heap.size + 1 + 1) (w.heap.size + 1) (w.heap.size + 1 + 1 + 1) wx b8 e8 u1 u2 u3 u0 ws cs ns ks))
     case first =>
      go_wp2_with fail
      go_loopw [9] (fun v w' => ∃ (j : Nat) (b : List Int) (e : Bool) (acc : List Int) (u : Value), v = .int .i64 j ∧ Aside0 (code_Decode.dl (fun b e => code_reader_count.g k b e 3) j acc b e = some (ks, b8, e8)) ∧ acc.length + j ≤ 32768 ∧ Aside0 (DI w w.heap.size (w.heap.size + 1 + 1) (w.heap.size + 1) (w.heap.size + 1 + 1 + 1) w' b e u1 u2 u3 u ws cs ns acc)) (fun v _ => (intOf v).toNat)
      case atStart => exact ⟨n4, b7, e7, [], _, rfl, H8, by simpa using HJ9.out, HI9⟩
      case round =>
       clear HI9 H8 HJ9 HLc
       obtain ⟨j, b, e, acc, u, rfl, HD, hj, HL⟩ := hrel
       have gb := DI.bad HL.out
       cases j with
       | zero =>
        have hd := Option.some.inj HD.out
        simp only [Prod.mk.injEq] at hd
        obtain ⟨rfl, rfl, rfl⟩ := hd
        go_wp2_with fail
        go_meet
        exact ⟨_, HL⟩
       | succ j =>
        have f1 : decide ((0 : Int) < (j : Int) + 1) = true := decide_eq_true (by omega)
        have f2 : decide ((0 : Int) < ((j + 1 : Nat) : Int)) = true := decide_eq_true (by omega)
        cases e with
        | true =>
         have hd := Option.some.inj HD.out
         simp only [Prod.mk.injEq] at hd
         obtain ⟨rfl, rfl, rfl⟩ := hd
         go_wp2_with fail
         go_meet
         exact ⟨_, HL⟩
        | false =>
         have hd : ((fun b e => code_reader_count.g k b e 3) b false).bind (fun t => code_Decode.dl (fun b e => code_reader_count.g k b e 3) j (acc ++ [t.1]) t.2.1 t.2.2) = some (ks, b8, e8) := HD.out
         obtain ⟨⟨y, b', e'⟩, hd1, hd2⟩ := Option.bind_eq_some_iff.mp hd
         have NY := Aside0.mk hd2
         have NX := Aside0.mk hd1
         clear hd hd1 hd2 HD
         go_wp2_with fail
         have hc0 := DI.cells HL.out 3 rfl
         refine start_ (n := 8) (S := fun w' => w'.cell? ⟨w.heap.size + 1 + 1 + 1, 3, none⟩ = some u) (ds := [7]) #[false, false, false, false, false, false, false, false] (by kernel_rfl) rfl rfl hc0 (fun hHeld => ?_)
         have HL1 := Aside0.mk (DI.below HL.out (Below.refl wr.heap.size wr).drew)
         generalize wr.drew = w1 at HL1 hHeld ⊢
         clear HL hc0 gb
         refine pure_ (i := 0) (N := some 98) (v := ?_) (a' := ?_) #[true, false, false, false, false, false, false, false] rfl rfl (by kernel_rfl) (fun _ _ _ h => h) (Or.inl ⟨by rfl, ?_⟩) ?_ ?_
         rotate_left
         ·intro w'
          go_simp
          with_reducible rfl
         rotate_left
         ·simp only [Act.put, List.setIfInBounds_toArray, List.set_cons_zero, List.set_cons_succ, i64_w, i32_w]
          rfl
         refine take_ (i := 1) (N := some 99) (v := ?_) (a' := ?_) #[true, true, false, false, false, false, false, false] rfl rfl (by kernel_rfl) (fun _ _ _ h => h) (Or.inl ⟨by rfl, ?_⟩) hHeld ?_ ?_
         rotate_left
         ·rintro w' s0
          go_simp
          with_reducible rfl
         rotate_left
         ·simp only [Act.put, List.setIfInBounds_toArray, List.set_cons_zero, List.set_cons_succ, i64_w, i32_w]
          rfl
         refine pure_ (i := 2) (N := some 100) (v := ?_) (a' := ?_) #[true, true, true, false, false, false, false, false] rfl rfl (by kernel_rfl) (fun _ _ _ h => h) (Or.inl ⟨by rfl, ?_⟩) ?_ ?_
         rotate_left
         ·intro w'
          go_simp
          with_reducible rfl
         rotate_left
         ·simp only [Act.put, List.setIfInBounds_toArray, List.set_cons_zero, List.set_cons_succ, i64_w, i32_w]
          rfl
         refine one_ (i := 3) (N := some 101) #[true, true, true, true, false, false, false, false] rfl rfl (by kernel_rfl) (by decide) (fun K hK => ?_)
         refine goes_ Tryd.func47 (by kernel_rfl) rfl #[.pointer (some ⟨w.heap.size + 1 + 1, 0, none⟩), .int .i64 3] (by rfl) rfl rfl (by (try simp only [List.map_toArray, List.map_cons, List.map_nil]); first | done | rfl) ?_
         with_reducible refine (cn_calls NX.out HL1.out).mono ?_
         rintro e w2 ⟨rfl, hI2⟩
         refine ⟨_, rfl, ?_⟩
         have HL2 := Aside0.mk hI2
         refine hK.out _ _ (DI.cells HL2.out 3 rfl) (fun hHeld2 => ?_)
         clear hK K hHeld hI2
         refine norm_ (a' := ?_) ?_ ?_
         rotate_left
         ·show Act.put _ (some 101) _ = _
          simp only [Act.put, List.setIfInBounds_toArray, List.set_cons_zero, List.set_cons_succ, i64_w, i32_w]
          rfl
         refine one_ (i := 4) (N := some 102) #[true, true, true, true, true, false, false, false] rfl rfl (by kernel_rfl) (by decide) (fun K hK => ?_)
         refine value_ (v := .slice (some ⟨w2.heap.size, 0, none⟩) 1 1) (w1 := w2.alloc (.cells [Value.int .i64 y].toArray 3)) (by rfl) rfl (by go_simp) ?_
         refine hK.out _ _ (DI.cells (DI.below HL2.out (below_alloc (Below.refl _ _) _)) 3 rfl) (fun hHeldb => ?_)
         clear hK K hHeld2
         refine norm_ (a' := ?_) ?_ ?_
         rotate_left
         ·show Act.put _ (some 102) _ = _
          simp only [Act.put, List.setIfInBounds_toArray, List.set_cons_zero, List.set_cons_succ, i64_w, i32_w]
          rfl
         have hown := HL2.out.2.2.2.2.1.2.2.2.1
         have hbl : Below w.heap.size w w2 := by
          obtain ⟨⟨_, _, _, _, _, i4, _⟩, _⟩ := HL2.out
          exact i4
         refine one_ (i := 5) (N := some 103) #[true, true, true, true, true, true, false, false] rfl rfl (by kernel_rfl) (by decide) (fun K hK => ?_)
         refine step_append_cells w.heap.size (by rfl) (.tmp 99) (.tmp 102) 23 3 (.int .i64 0) 1 8 rfl Tryd.underlying23 info3 rfl (by omega) (by omega) u acc.length (nums .i64 acc) [Value.int .i64 y] (by rfl) (by rfl) rfl (by intro z_ hz_; obtain rfl := List.mem_singleton.mp hz_; rfl) hown hbl hbl.size (by omega) ?_
         intro v1 w9 ho9 hb9 hg9 hat9
         obtain ⟨g1, c1, rfl, _, _⟩ := ho9.form (by omega)
         have HP := Aside0.mk (DI.push3 HL2.out ho9 hb9 hg9 hat9)
         have hbx := DI.box HL2.out hg9 (.inr (.inr (.inr rfl)))
         have hcB := (blk_cell hbx 3).trans (rfl : _ = some u)
         have hfB := blk_frozen hbx 3
         refine hK.out _ _ hcB (fun hHeld9 => ?_)
         clear hK K hHeldb hHeld9 hbx ho9 hb9 hg9 hat9 hown hbl
         refine norm_ (a' := ?_) ?_ ?_
         rotate_left
         ·show Act.put _ (some 103) _ = _
          simp only [Act.put, List.setIfInBounds_toArray, List.set_cons_zero, List.set_cons_succ, i64_w, i32_w]
          rfl
         refine pure_ (i := 6) (N := some 104) (v := ?_) (a' := ?_) #[true, true, true, true, true, true, true, false] rfl rfl (by kernel_rfl) (fun _ _ _ h => h) (Or.inl ⟨by rfl, ?_⟩) ?_ ?_
         rotate_left
         ·intro w'
          go_simp
          with_reducible rfl
         rotate_left
         ·simp only [Act.put, List.setIfInBounds_toArray, List.set_cons_zero, List.set_cons_succ, i64_w, i32_w]
          rfl
         refine last_ (i := 7) (N := none) #[true, true, true, true, true, true, true, true] rfl rfl (by kernel_rfl) (by decide) (fun K hK => ?_)
         refine skip_ (w1 := w9.setCell ⟨w.heap.size + 1 + 1 + 1, 3, none⟩ (.slice (some ⟨g1, 0, none⟩) (acc.length + 1) c1)) (by rfl) rfl ?_ ?_
         ·go_simp
         refine hK.out _ _ ?_
         refine done_ (by kernel_rfl) ?_
         have fj : wrap64 (((j + 1 : Nat) : Int) - 1) = (j : Int) := by unfold wrap64; omega
         go_wp2_with fail
         go_roundw
         case rel => exact ⟨j, b', e', acc ++ [y], _, (by first | rfl | (simp only [fj]; done) | simp), NY, (by rw [List.length_append, List.length_singleton]; omega), HP⟩
         case measure => simp [intOf]; try omega
     case rest =>
      obtain ⟨u4, HLd⟩ := hcut
      have hh := HH.out
      unfold code_Decode.fin at hh
      obtain ⟨⟨A1, c1, rfl, hl1, hC1⟩, ⟨A2, c2, rfl, hl2, hC2⟩, ⟨A3, c3, rfl, hl3, hC3⟩, ⟨A4, c4, rfl, hl4, hC4⟩⟩ := DI.forms HLd.out
      have HC := Aside0.mk (And.intro hC1 (And.intro hC2 (And.intro hC3 hC4)))
      have HX := Aside0.mk (And.intro hl1 (And.intro hl2 (And.intro hl3 hl4)))
      clear hC1 hC2 hC3 hC4 hl1 hl2 hl3 hl4
      obtain ⟨⟨AQ, cQ, q1, q2, q3, q4, q5⟩, qR, qB, qC, qW, qb⟩ := HLd.out
      have hg0 := blk_cell q1 0
      have hg1 := blk_cell q1 1
      have hR0 := blk_cell qR 0
      have hR1 := blk_cell qR 1
      have hR2 := blk_cell qR 2
      have hR3 := blk_cell qR 3
      have hF0 := blk_frozen qR 0
      have hF1 := blk_frozen qR 1
      have hF2 := blk_frozen qR 2
      have hF3 := blk_frozen qR 3
      have hc0 := blk_cell qC 0
      have hc1 := blk_cell qC 1
      have hc2 := blk_cell qC 2
      have hc3 := blk_cell qC 3
      have HQ := Aside0.mk q3
      have hlQ := q3.now.2.1
      clear q1 q2 q3 q4 q5 qR qB qC qW qb
      cases e8 with
      | true =>
       rw [if_pos rfl] at hh
       simp only [Option.some.injEq, Prod.mk.injEq] at hh
       obtain ⟨rfl, rfl, rfl, rfl, rfl⟩ := hh
       go_wp2_with fail
       obtain ⟨y1, y2, y3⟩ := DI.fin HLd.out (.slice none 0 0) (.slice none 0 0) (.slice none 0 0) (.slice none 0 0)
       refine bodyPost_ret (results_ct rfl _ _ w.heap.size 26 #[.slice none 0 0, .slice none 0 0, .slice none 0 0, .slice none 0 0] (0, 0) _ rfl y1 Tryd.underlying26 rfl (by kernel_rfl)) rfl ?_
       exact ⟨_, _, _, _, rfl, Kd.R_nil _ _ _ _ _, Kd.R_nil _ _ _ _ _, Kd.R_nil _ _ _ _ _, Kd.R_nil _ _ _ _ _, y2⟩
      | false =>
       rw [if_neg (by decide)] at hh
       by_cases h8 : (b8.length : Int) = 8
       ·rw [if_pos h8] at hh
        obtain ⟨rr, hR, hh⟩ := Option.bind_eq_some_iff.mp hh
        have HRt := Aside0.mk hR
        have hne : ((b8.length : Int) != 8) = false := by rw [h8]; rfl
        have hne' : ((b8.length : Int) == 8) = true := by rw [h8]; rfl
        clear hR
        cases rr with
        | false =>
         rw [if_pos rfl] at hh
         simp only [Option.some.injEq, Prod.mk.injEq] at hh
         obtain ⟨rfl, rfl, rfl, rfl, rfl⟩ := hh
         go_wp2_with (go_at_call 13; (with_reducible refine (code_Right.calls k _ _ _ _ _ _ _ _ _ _ _ _ _ _ HC.out.1 HX.out.1 HC.out.2.1 HX.out.2.1 HC.out.2.2.1 HX.out.2.2.1 HC.out.2.2.2 HX.out.2.2.2 (hG.below (DI.low HLd.out)) HRt.out).mono ?_); rintro e W10 ⟨rfl, hb10⟩; have HLe := Aside0.mk (DI.below HLd.out hb10); have HBe := Aside0.mk hb10; clear hb10; obtain ⟨⟨AQe, cQe, q1, q2, q3, q4, q5⟩, qR, qB, qC, qW, qb⟩ := HLe.out; have hg0e := blk_cell q1 0; have hg1e := blk_cell q1 1; have hR0e := blk_cell qR 0; have hR1e := blk_cell qR 1; have hR2e := blk_cell qR 2; have hR3e := blk_cell qR 3; have hF0e := blk_frozen qR 0; have hF1e := blk_frozen qR 1; have hF2e := blk_frozen qR 2; have hF3e := blk_frozen qR 3; have hc0e := blk_cell qC 0; have hc1e := blk_cell qC 1; have hc2e := blk_cell qC 2; have hc3e := blk_cell qC 3; have HQe := Aside0.mk q3; have hlQe := q3.now.2.1; clear q1 q2 q3 q4 q5 qR qB qC qW qb)
         obtain ⟨y1, y2, y3⟩ := DI.fin HLe.out (.slice none 0 0) (.slice none 0 0) (.slice none 0 0) (.slice none 0 0)
         refine bodyPost_ret (results_ct rfl _ _ w.heap.size 26 #[.slice none 0 0, .slice none 0 0, .slice none 0 0, .slice none 0 0] (0, 0) _ rfl y1 Tryd.underlying26 rfl (by kernel_rfl)) rfl ?_
         exact ⟨_, _, _, _, rfl, Kd.R_nil _ _ _ _ _, Kd.R_nil _ _ _ _ _, Kd.R_nil _ _ _ _ _, Kd.R_nil _ _ _ _ _, y2⟩
        | true =>
         rw [if_neg (by decide)] at hh
         go_wp2_with (go_at_call 13; (with_reducible refine (code_Right.calls k _ _ _ _ _ _ _ _ _ _ _ _ _ _ HC.out.1 HX.out.1 HC.out.2.1 HX.out.2.1 HC.out.2.2.1 HX.out.2.2.1 HC.out.2.2.2 HX.out.2.2.2 (hG.below (DI.low HLd.out)) HRt.out).mono ?_); rintro e W10 ⟨rfl, hb10⟩; have HLe := Aside0.mk (DI.below HLd.out hb10); have HBe := Aside0.mk hb10; clear hb10; obtain ⟨⟨AQe, cQe, q1, q2, q3, q4, q5⟩, qR, qB, qC, qW, qb⟩ := HLe.out; have hg0e := blk_cell q1 0; have hg1e := blk_cell q1 1; have hR0e := blk_cell qR 0; have hR1e := blk_cell qR 1; have hR2e := blk_cell qR 2; have hR3e := blk_cell qR 3; have hF0e := blk_frozen qR 0; have hF1e := blk_frozen qR 1; have hF2e := blk_frozen qR 2; have hF3e := blk_frozen qR 3; have hc0e := blk_cell qC 0; have hc1e := blk_cell qC 1; have hc2e := blk_cell qC 2; have hc3e := blk_cell qC 3; have HQe := Aside0.mk q3; have hlQe := q3.now.2.1; clear q1 q2 q3 q4 q5 qR qB qC qW qb)
         go_loopw [10, 128] (fun h v w' => ∃ (j : Nat) (x : Int), h = .int .u64 x ∧ v = .int .i64 j ∧ j ≤ b8.length ∧ Aside0 (code_Decode.les j x (b8.drop j) = code_Decode.les 0 0 b8) ∧ w' = W10) (fun _ v _ => b8.length - (intOf v).toNat)
         case atStart => exact ⟨0, 0, rfl, rfl, Nat.zero_le _, ⟨rfl⟩, rfl⟩
         case round =>
          obtain ⟨j, x, rfl, rfl, hj, HN, rfl⟩ := hrel
          by_cases hlt : j < b8.length
          ·obtain ⟨ad, ea, hx⟩ := HQe.out.now.2.2 (by omega)
           have hx1 := hx j hlt
           have hrd : b8.getD j 0 = b8[j] := by simp [List.getD, hlt]
           have hn := HN.out
           rw [show b8.drop j = _ from List.drop_eq_getElem_cons hlt] at hn
           rw [hrd] at hx1
           obtain ⟨y, hy⟩ : ∃ y, y = b8[j] := ⟨_, rfl⟩
           rw [← hy] at hx1 hn
           replace hn : code_Decode.les (j + 1) (Go.bits .or .u64 x (shl .u64 (IntKind.u64.wrap y) (wrap64 (8 * (j : Int))))) (b8.drop (j + 1)) = code_Decode.les 0 0 b8 := hn
           obtain ⟨ji, hji⟩ : ∃ ji : Int, wrap64 (8 * (j : Int)) = ji := ⟨_, rfl⟩
           rw [hji] at hn
           have hjiw : IntKind.i64.wrap (8 * (j : Int)) = ji := (i64_w _).trans hji
           have cv : ji = 8 * (j : Int) := by rw [← hji]; unfold wrap64; omega
           have c0_ : 0 ≤ ji := by omega
           have c0b0 := eq_true c0_
           have c0b1 : decide (0 ≤ ji) = true := decide_eq_true c0_
           obtain ⟨sh, hsh⟩ : ∃ sh : Int, shl .u64 (IntKind.u64.wrap y) ji = sh := ⟨_, rfl⟩
           have hsh_ : IntKind.u64.wrap ((IntKind.u64.wrap y) * 2 ^ min ji.toNat 64) = sh := hsh
           have hshz : IntKind.u64.wrap ((IntKind.u64.wrap y) * 2 ^ ji.toNat) = sh := shl_small hsh (by show ji ≤ 64; omega)
           have hshv : IntKind.u64.wrap ((IntKind.u64.wrap y) * 2 ^ (8 * j)) = sh := by rw [← hshz, cv]; rfl
           rw [hsh] at hn
           have NN := Aside0.mk hn
           clear hn hy hrd hx HN hsh
           cases ea
           go_wp2_with fail
           go_roundw
           case rel => exact ⟨j + 1, Go.bits .or .u64 x sh, (by first | rfl | (simp only [hsh_, hshz, hshv]; rfl) | simp [*]), (by first | rfl | simp), by omega, NN, (by first | trivial | rfl)⟩
           case measure => simp [intOf]; try omega
          ·have hn := HN.out
           rw [List.drop_eq_nil_of_le (by omega)] at hn
           replace hn : x = code_Decode.les 0 0 b8 := hn
           obtain ⟨ss, hS, hh⟩ := Option.bind_eq_some_iff.mp hh
           have HS := Aside0.mk hS
           rw [← hn] at hh
           clear hn HN hS
           by_cases hq : x = ss
           ·rw [if_pos hq] at hh
            have fq : (x == ss) = true := beq_iff_eq.mpr hq
            have fq' : (x != ss) = false := bne_eq_false_iff_eq.mpr hq
            simp only [Option.some.injEq, Prod.mk.injEq] at hh
            obtain ⟨rfl, rfl, rfl, rfl, rfl⟩ := hh
            go_wp2_with (go_at_call 15; (with_reducible refine (code_Sum.calls k _ _ _ _ _ _ _ _ _ _ _ _ _ _ (Kd.C_below HC.out.1 HBe.out) HX.out.1 (Kd.C_below HC.out.2.1 HBe.out) HX.out.2.1 (Kd.C_below HC.out.2.2.1 HBe.out) HX.out.2.2.1 (Kd.C_below HC.out.2.2.2 HBe.out) HX.out.2.2.2 (hG.below (DI.low HLe.out)) HS.out).mono ?_); rintro e W11 ⟨rfl, hb11⟩; have HLs := Aside0.mk (DI.below HLe.out hb11); clear hb11; obtain ⟨⟨AQs, cQs, q1, q2, q3, q4, q5⟩, qR, qB, qC, qW, qb⟩ := HLs.out; have hg0s := blk_cell q1 0; have hg1s := blk_cell q1 1; have hR0s := blk_cell qR 0; have hR1s := blk_cell qR 1; have hR2s := blk_cell qR 2; have hR3s := blk_cell qR 3; have hF0s := blk_frozen qR 0; have hF1s := blk_frozen qR 1; have hF2s := blk_frozen qR 2; have hF3s := blk_frozen qR 3; have hc0s := blk_cell qC 0; have hc1s := blk_cell qC 1; have hc2s := blk_cell qC 2; have hc3s := blk_cell qC 3; have HQs := Aside0.mk q3; have hlQs := q3.now.2.1; clear q1 q2 q3 q4 q5 qR qB qC qW qb)
            obtain ⟨y1, y2, y3⟩ := DI.fin HLs.out (.slice A1 ws.length c1) (.slice A2 cs.length c2) (.slice A3 ns.length c3) (.slice A4 ks.length c4)
            refine bodyPost_ret (results_ct rfl _ _ w.heap.size 26 #[.slice A1 ws.length c1, .slice A2 cs.length c2, .slice A3 ns.length c3, .slice A4 ks.length c4] (0, 0) _ rfl y1 Tryd.underlying26 rfl (by kernel_rfl)) rfl ?_
            exact ⟨_, _, _, _, rfl, Kd.R_of_own (h1 := fun _ => rfl) y3.1 (fun _ _ => trivial), Kd.R_of_own (h1 := fun _ => rfl) y3.2.1 (fun k_ hk_ he_ => y3.2.2.2.2 k_ hk_ he_.symm), Kd.R_of_own (h1 := fun _ => rfl) y3.2.2.1 (fun _ _ => trivial), Kd.R_of_own (h1 := fun _ => rfl) y3.2.2.2.1 (fun k_ hk_ he_ => y3.2.2.2.2 k_ he_.symm hk_), y2⟩
           ·rw [if_neg hq] at hh
            have fq : (x == ss) = false := beq_eq_false_iff_ne.mpr hq
            have fq' : (x != ss) = true := bne_iff_ne.mpr hq
            simp only [Option.some.injEq, Prod.mk.injEq] at hh
            obtain ⟨rfl, rfl, rfl, rfl, rfl⟩ := hh
            go_wp2_with (go_at_call 15; (with_reducible refine (code_Sum.calls k _ _ _ _ _ _ _ _ _ _ _ _ _ _ (Kd.C_below HC.out.1 HBe.out) HX.out.1 (Kd.C_below HC.out.2.1 HBe.out) HX.out.2.1 (Kd.C_below HC.out.2.2.1 HBe.out) HX.out.2.2.1 (Kd.C_below HC.out.2.2.2 HBe.out) HX.out.2.2.2 (hG.below (DI.low HLe.out)) HS.out).mono ?_); rintro e W11 ⟨rfl, hb11⟩; have HLs := Aside0.mk (DI.below HLe.out hb11); clear hb11; obtain ⟨⟨AQs, cQs, q1, q2, q3, q4, q5⟩, qR, qB, qC, qW, qb⟩ := HLs.out; have hg0s := blk_cell q1 0; have hg1s := blk_cell q1 1; have hR0s := blk_cell qR 0; have hR1s := blk_cell qR 1; have hR2s := blk_cell qR 2; have hR3s := blk_cell qR 3; have hF0s := blk_frozen qR 0; have hF1s := blk_frozen qR 1; have hF2s := blk_frozen qR 2; have hF3s := blk_frozen qR 3; have hc0s := blk_cell qC 0; have hc1s := blk_cell qC 1; have hc2s := blk_cell qC 2; have hc3s := blk_cell qC 3; have HQs := Aside0.mk q3; have hlQs := q3.now.2.1; clear q1 q2 q3 q4 q5 qR qB qC qW qb)
            obtain ⟨y1, y2, y3⟩ := DI.fin HLs.out (.slice none 0 0) (.slice none 0 0) (.slice none 0 0) (.slice none 0 0)
            refine bodyPost_ret (results_ct rfl _ _ w.heap.size 26 #[.slice none 0 0, .slice none 0 0, .slice none 0 0, .slice none 0 0] (0, 0) _ rfl y1 Tryd.underlying26 rfl (by kernel_rfl)) rfl ?_
            exact ⟨_, _, _, _, rfl, Kd.R_nil _ _ _ _ _, Kd.R_nil _ _ _ _ _, Kd.R_nil _ _ _ _ _, Kd.R_nil _ _ _ _ _, y2⟩
       ·rw [if_neg h8] at hh
        have hne : ((b8.length : Int) != 8) = true := bne_iff_ne.mpr h8
        have hne' : ((b8.length : Int) == 8) = false := beq_eq_false_iff_ne.mpr h8
        simp only [Option.some.injEq, Prod.mk.injEq] at hh
        obtain ⟨rfl, rfl, rfl, rfl, rfl⟩ := hh
        go_wp2_with fail
        obtain ⟨y1, y2, y3⟩ := DI.fin HLd.out (.slice none 0 0) (.slice none 0 0) (.slice none 0 0) (.slice none 0 0)
        refine bodyPost_ret (results_ct rfl _ _ w.heap.size 26 #[.slice none 0 0, .slice none 0 0, .slice none 0 0, .slice none 0 0] (0, 0) _ rfl y1 Tryd.underlying26 rfl (by kernel_rfl)) rfl ?_
        exact ⟨_, _, _, _, rfl, Kd.R_nil _ _ _ _ _, Kd.R_nil _ _ _ _ _, Kd.R_nil _ _ _ _ _, Kd.R_nil _ _ _ _ _, y2⟩
 ·rw [if_neg hm] at h
  have hm1 : (s0.toList == [73, 67, 49]) = false := beq_eq_false_iff_ne.mpr hm
  have hm2 : (!(s0.toList == [73, 67, 49])) = true := by rw [hm1]; rfl
  have hh := h
  clear h
  simp only [Option.some.injEq, Prod.mk.injEq] at hh
  obtain ⟨rfl, rfl, rfl, rfl, rfl⟩ := hh
  go_enter Tryd.func22, Tryd.ntmps22
  go_wp2_with (go_at_call 46; (with_reducible refine (txt_calls H0.out HI.out).mono ?_); rintro e W2 ⟨rfl, hI2⟩; have HI2 := Aside0.mk hI2; clear hI2; obtain ⟨⟨AQt, cQt, q1, q2, q3, q4, q5⟩, qR, qB, qC, qW, qb⟩ := HI2.out; have hg0t := blk_cell q1 0; have hg1t := blk_cell q1 1; have hR0t := blk_cell qR 0; have hR1t := blk_cell qR 1; have hR2t := blk_cell qR 2; have hR3t := blk_cell qR 3; have hF0t := blk_frozen qR 0; have hF1t := blk_frozen qR 1; have hF2t := blk_frozen qR 2; have hF3t := blk_frozen qR 3; have hc0t := blk_cell qC 0; have hc1t := blk_cell qC 1; have hc2t := blk_cell qC 2; have hc3t := blk_cell qC 3; have HQt := Aside0.mk q3; have hlQt := q3.now.2.1; clear q1 q2 q3 q4 q5 qR qB qC qW qb)
  obtain ⟨y1, y2, y3⟩ := DI.fin HI2.out (.slice none 0 0) (.slice none 0 0) (.slice none 0 0) (.slice none 0 0)
  refine bodyPost_ret (results_ct rfl _ _ w.heap.size 26 #[.slice none 0 0, .slice none 0 0, .slice none 0 0, .slice none 0 0] (0, 0) _ rfl y1 Tryd.underlying26 rfl (by kernel_rfl)) rfl ?_
  exact ⟨_, _, _, _, rfl, Kd.R_nil _ _ _ _ _, Kd.R_nil _ _ _ _ _, Kd.R_nil _ _ _ _ _, Kd.R_nil _ _ _ _ _, y2⟩
end Go.Proofs.YtnlimplbmncdeaaDoor.C
