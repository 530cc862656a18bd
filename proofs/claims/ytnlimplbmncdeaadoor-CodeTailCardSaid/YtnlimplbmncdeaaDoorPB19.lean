/- The laws CodeBack, CodeBackWords, CodeLists, CodeTail of the program hold, as their cards say: texts put together by a program, 20 of 39. -/
import Derived.Test.YtnlimplbmncdeaaDoorPB12
import Derived.Test.YtnlimplbmncdeaaDoorPB18
namespace Go.Proofs.YtnlimplbmncdeaaDoor.C
open Go.RowKit Go.Proofs.YtnlimplbmncdeaaDoorW.PrintWords Go.Proofs.YtnlimplbmncdeaaDoorW.PrintLast Go.Proofs.YtnlimplbmncdeaaDoorW.PrintMore
attribute [local go_sem] max2_int min2_int max_two min_two max_three min_three max_four min_four
set_option linter.unusedVariables false
set_option linter.unusedSimpArgs false
def LRow (W : World) (base : Nat) (v : Value) (bs : List Int) : Prop :=
 W.ownsRow base 5 1 v bs.length (nums .u8 bs) ∨ (bs.length = 3 ∧ ∃ g m, v = .slice (some ⟨g, 0, none⟩) bs.length bs.length ∧ base ≤ g ∧ W.heap[g]? = some (.cells (nums .u8 bs).toArray 5 m))
theorem LRow.typed {W : World} {base : Nat} {v : Value} {bs : List Int} (h : LRow W base v bs) (k : Nat) (hk : v.ownBlock = some k) : base ≤ k ∧ ∃ cells m, W.heap[k]? = some (.cells cells 5 m) := by
 rcases h with h | ⟨h3, g, m, rfl, hg, hh⟩
 ·obtain ⟨cells, hc⟩ := own_typed h k hk
  exact ⟨own_base h k hk, cells, _, hc⟩
 ·have : g = k := by simpa [Value.ownBlock] using hk
  subst this
  exact ⟨hg, _, _, hh⟩
theorem LRow.move {W W1 : World} {base : Nat} {v : Value} {bs : List Int} (h : LRow W base v bs) (hm : ∀ k, v.ownBlock = some k → W1.heap[k]? = W.heap[k]?) : LRow W1 base v bs := by
 rcases h with h | ⟨h3, g, m, rfl, hg, hh⟩
 ·exact .inl (own_move h hm)
 ·exact .inr ⟨h3, g, m, rfl, hg, (hm g (by simp [Value.ownBlock])).trans hh⟩
theorem LRow.below {W W1 : World} {base : Nat} {v : Value} {bs : List Int} (h : LRow W base v bs) (hb : Below W.heap.size W W1) : LRow W1 base v bs :=
 h.move (fun k hk => by
  obtain ⟨_, cells, m, hc⟩ := h.typed k hk
  exact hb.block k (Array.getElem?_eq_some_iff.1 hc).1)
theorem app_bytes {W : World} {base : Nat} {v : Value} {bs : List Int} (h : LRow W base v bs) (s : ByteArray) (h0 : 0 < s.size) (hl : bs.length + s.size ≤ 140737488355328) (hbase : base ≤ W.heap.size) :
  ∃ v' W', (Builtin.append_ #[44, 9] 44 #[v, .string s]).run Tryd.prog W = .ok v' W' ∧ W'.ownsRow base 5 1 v' (bs ++ bytesOf s).length (nums .u8 (bs ++ bytesOf s)) ∧ W.grownBy W' v.ownBlock := by
 obtain ⟨i0, hi, hz0, hz1, hz2⟩ := info_parts info5
 have hln : (bs ++ bytesOf s).length = bs.length + s.size := by rw [List.length_append, bytesOf_length]
 have hcs : nums .u8 (bs ++ bytesOf s) = nums .u8 bs ++ Lib.strCells s := by
  rw [nums_append]
  congr 1
  simp [nums, bytesOf, Lib.strCells]
 rw [hln, hcs]
 rcases h with h | ⟨h3, g, m, rfl, hg, hh⟩
 ·obtain ⟨v', w', hr, h2, h3, _⟩ := Lib.run_append_own_string (P := Tryd.prog) W base 44 9 44 5 i0 Tryd.underlying44 Tryd.underlying9 hi hz0 hz1 hz2 v bs.length (nums .u8 bs) h s (by simp only [maxLen]; omega) hl hbase
  exact ⟨v', w', hr, h2, h3⟩
 ·have hnl : (nums .u8 bs).length = bs.length := by simp [nums]
  have hcell : ∀ j u, (nums .u8 bs)[j]? = some u → W.cell? ((⟨g, 0, none⟩ : Addr).add j) = some u := by
   intro j u hu
   have e : (⟨g, 0, none⟩ : Addr).add j = ⟨g, j, none⟩ := by unfold Addr.add; split <;> simp_all
   rw [e]
   simp [World.cell?, hh, hu]
  have hr := Lib.run_append_grow_string (P := Tryd.prog) W 44 9 44 5 i0 (.int .u8 0) Tryd.underlying44 Tryd.underlying9 hi hz0 ⟨g, 0, none⟩ bs.length bs.length (nums .u8 bs) (by rw [hz1, hnl]; omega) hcell s (by omega) (by omega) (by rw [hz2]; exact growslice_fits (by omega) (by omega))
  refine ⟨_, _, hr, ⟨by rw [List.length_append, hnl, Lib.strCells_length]; omega, .inr ⟨W.heap.size, _, _, rfl, hbase, heap_alloc_new W.drew _, grownCap_ge W _ _ _, grownCap_le_maxLen W _ _ _ (by simp only [maxLen]; omega), ?_, ?_⟩⟩, ⟨rfl, rfl, rfl, by simp, fun j hj _ => by
   show (W.heap.push _)[j]? = _
   rw [Array.getElem?_push, if_neg (by omega)]⟩⟩
  ·have hz : (Value.int IntKind.u8 0).cells.size = 1 := rfl
   have := grownCap_ge W (bs.length + s.size) bs.length 5
   simp only [Array.size_append, List.size_toArray, size_zeroCells, hz, hnl, Lib.strCells_length]
   omega
  ·simp only [Array.toList_append, List.append_assoc]
   rw [← List.append_assoc, show (bs.length + s.size) * 1 = (nums .u8 bs ++ Lib.strCells s).length by rw [List.length_append, hnl, Lib.strCells_length]; omega]
   exact List.take_left
def LI (w0 : World) (B Bc : Nat) (cs : Array Value) (W : World) (bs : List Int) : Prop :=
 ∃ v, W.heap[B]? = some (.cells #[v] 44 (0, 0)) ∧ LRow W w0.heap.size v bs ∧ W.heap[Bc]? = some (.cells cs 26 (0, 0)) ∧ Below w0.heap.size w0 W ∧ w0.heap.size ≤ B ∧ w0.heap.size ≤ Bc ∧ B ≠ Bc
theorem LI.below {w0 W W1 : World} {B Bc : Nat} {cs : Array Value} {bs : List Int} (h : LI w0 B Bc cs W bs) (hb : Below W.heap.size W W1) : LI w0 B Bc cs W1 bs := by
 obtain ⟨v, h1, h2, h3, h4, h5, h6, h7⟩ := h
 exact ⟨v, blk_below h1 hb, h2.below hb, blk_below h3 hb, below_then h4 h4.size hb, h5, h6, h7⟩
theorem LI.put {w0 W W1 : World} {B Bc : Nat} {cs : Array Value} {bs bs' : List Int} {v v' : Value} (h1 : W.heap[B]? = some (.cells #[v] 44 (0, 0))) (h2 : LRow W w0.heap.size v bs) (h3 : W.heap[Bc]? = some (.cells cs 26 (0, 0))) (h4 : Below w0.heap.size w0 W) (h5 : w0.heap.size ≤ B) (h6 : w0.heap.size ≤ Bc) (h7 : B ≠ Bc)
  (ho : W1.ownsRow w0.heap.size 5 1 v' bs'.length (nums .u8 bs')) (hg : W.grownBy W1 v.ownBlock) : LI w0 B Bc cs (W1.setCell ⟨B, 0, none⟩ v') bs' := by
 have nB : ∀ (k t : Nat) (C : Array Value), t ≠ 5 → W.heap[k]? = some (.cells C t (0, 0)) → some k ≠ v.ownBlock := by
  intro k t C ht hk he
  obtain ⟨_, cells, m, hc⟩ := h2.typed k he.symm
  rw [hk] at hc
  injection hc with hc
  injection hc with _ hc _
  exact ht hc
 have g1 : W1.heap[B]? = some (.cells #[v] 44 (0, 0)) := blk_grown h1 hg (nB B 44 _ (by decide) h1)
 have g3 : W1.heap[Bc]? = some (.cells cs 26 (0, 0)) := blk_grown h3 hg (nB Bc 26 _ (by decide) h3)
 have gB := Below.grown h4 hg h4.size (fun k hk => (h2.typed k hk).1)
 have oB : ∀ k, v'.ownBlock = some k → k ≠ B := by
  intro k hk he
  subst he
  obtain ⟨cells, hc⟩ := own_typed ho k hk
  rw [g1] at hc
  injection hc with hc
  injection hc with _ hc _
  cases hc
 exact ⟨v', blk_put g1 0 v' rfl, .inl (own_move ho (fun k hk => Below.heap_setCell W1 _ _ k (oB k hk))), (Below.heap_setCell W1 _ _ Bc h7.symm).trans g3, below_set gB h5, h5, h6, h7⟩
theorem LI.cell {w0 W : World} {B Bc : Nat} {cs : Array Value} {bs : List Int} (h : LI w0 B Bc cs W bs) (i : Nat) (u : Value) (hu : cs[i]? = some u) : W.cell? ⟨Bc, i, none⟩ = some u := by
 obtain ⟨v, _, _, h3, _⟩ := h
 exact (blk_cell h3 i).trans hu
theorem LI.low {w0 W : World} {B Bc : Nat} {cs : Array Value} {bs : List Int} (h : LI w0 B Bc cs W bs) : Below w0.heap.size w0 W := by
 obtain ⟨v, _, _, _, h4, _⟩ := h
 exact h4
theorem LI.own {w0 W : World} {B Bc : Nat} {cs : Array Value} {bs : List Int} (h : LI w0 B Bc cs W bs) (hn : bs.length ≠ 3) : ∃ v, W.cell? ⟨B, 0, none⟩ = some v ∧ W.ownsRow w0.heap.size 5 1 v bs.length (nums .u8 bs) ∧ Below w0.heap.size w0 W := by
 obtain ⟨v, h1, h2, h3, h4, _⟩ := h
 rcases h2 with h2 | ⟨h2, _⟩
 ·exact ⟨v, blk_cell h1 0, h2, h4⟩
 ·exact absurd h2 hn
theorem blk_new (w : World) (o : Obj) : (w.alloc o).heap[w.heap.size]? = some o := by
 show (w.heap.push o)[w.heap.size]? = some o
 rw [Array.getElem?_push, if_pos rfl]
theorem exec_app {a : Act} {W W' : World} {v v' : Value} {s : ByteArray} {oi : Oper} {x y : Operand} (ho : oi.op = .call { callee := .builtin .append, args := #[x, y], argTypes := #[44, 9] }) (ht : oi.type = 44) (hx : a.eval x = v) (hy : a.eval y = .string s)
  (hr : (Builtin.append_ #[44, 9] 44 #[v, .string s]).run Tryd.prog W = .ok v' W') : (execOp a.eval oi).run Tryd.prog W = .ok (.value v') W' := by
 unfold execOp
 simp only [ho, ht, resolve, invoke, builtin, Sem.run_bind, Sem.run_pure, Result.andThen_ok, List.map_toArray, List.map_cons, List.map_nil, hx, hy, hr]
theorem LRow.box {W W1 : World} {base B : Nat} {v v0 : Value} {bs : List Int} (h1 : W.heap[B]? = some (.cells #[v0] 44 (0, 0))) (h2 : LRow W base v bs) (hg : W.grownBy W1 v.ownBlock) : W1.cell? ⟨B, 0, none⟩ = some v0 ∧ W1.frozen? ⟨B, 0, none⟩ = false := by
 have nB : some B ≠ v.ownBlock := by
  intro he
  obtain ⟨_, cells, m, hc⟩ := h2.typed B he.symm
  rw [h1] at hc
  injection hc with hc
  injection hc with _ hc _
  cases hc
 have := blk_grown h1 hg nB
 exact ⟨blk_cell this 0, blk_frozen this 0⟩
theorem wpl_app {ops : Array Oper} {rest : List Oper} {o : Oper} {a : Act} {Q : Exit → Act → World → Prop} {W : World} {base : Nat} (hgd : o.guard = none) (x y : Operand) (ho : o.op = .call { callee := .builtin .append, args := #[x, y], argTypes := #[44, 9] }) (ht : o.type = 44)
  (v : Value) (bs : List Int) (s : ByteArray) (hx : a.eval x = v) (hy : a.eval y = .string s) (h : LRow W base v bs) (h0 : 0 < s.size) (hl : bs.length + s.size ≤ 140737488355328) (hbase : base ≤ W.heap.size)
  (hK : ∀ g' c' n' W', W'.ownsRow base 5 1 (.slice (some ⟨g', 0, none⟩) n' c') (bs ++ bytesOf s).length (nums .u8 (bs ++ bytesOf s)) → W.grownBy W' v.ownBlock → wpList Tryd.prog ops Q rest (a.put o.dst (.slice (some ⟨g', 0, none⟩) n' c')) W') : wpList Tryd.prog ops Q (o :: rest) a W := by
 refine wpList_plain hgd fun K hK' => ?_
 obtain ⟨v', W', hr, h2, h3⟩ := app_bytes h s h0 hl hbase
 obtain ⟨g', c', rfl, _, _⟩ := h2.form (by rw [List.length_append, bytesOf_length]; omega)
 unfold Oper.wp
 rw [exec_app ho ht hx hy hr]
 exact hK' _ _ (hK g' c' _ W' h2 h3)
set_option maxHeartbeats 8000000 in
set_option maxRecDepth 100000 in
theorem num_any (k : Nat) (u : Int) (s : ByteArray) (B Bc : Nat) (cs : Array Value) (bs : List Int) (w0 W : World) (hs : pack_Put.f k u = some s) (h0 : 0 < s.size) (hl : bs.length + s.size < 140737488355328) (hI : LI w0 B Bc cs W bs) :
  Calls Tryd.prog 57 #[.int .u64 u, .pointer (some ⟨B, 0, none⟩)] W fun e W' => e = .returned (.tuple #[]) ∧ LI w0 B Bc cs W' (bs ++ bytesOf s) := by
 obtain ⟨v, i1, i2, i3, i4, i5, i6, i7⟩ := hI
 have HS := Aside0.mk hs
 have HI := Aside0.mk (⟨i1, i2, i3, i4, i5, i6, i7⟩ : W.heap[B]? = some (.cells #[v] 44 (0, 0)) ∧ LRow W w0.heap.size v bs ∧ W.heap[Bc]? = some (.cells cs 26 (0, 0)) ∧ Below w0.heap.size w0 W ∧ w0.heap.size ≤ B ∧ w0.heap.size ≤ Bc ∧ B ≠ Bc)
 have hc0 : W.cell? ⟨B, 0, none⟩ = some v := blk_cell i1 0
 clear hs i1 i2 i3 i4 i5 i6 i7
 go_enter Tryd.func57, Tryd.ntmps57
 go_wp2
 refine start_ (n := 5) (S := fun w' => w'.cell? ⟨B, 0, none⟩ = some v) (ds := [4]) #[false, false, false, false, false] (by kernel_rfl) rfl rfl hc0 (fun hHeld => ?_)
 have HW := Aside0.mk (Below.refl W.heap.size W).drew
 generalize W.drew = w1 at HW hHeld ⊢
 refine take_ (i := 0) (N := some 3) (v := ?_) (a' := ?_) #[true, false, false, false, false] rfl rfl (by kernel_rfl) (fun _ _ _ h => h) (Or.inl ⟨by rfl, ?_⟩) hHeld ?_ ?_
 rotate_left
 ·rintro w' s0
  go_simp
  with_reducible rfl
 rotate_left
 ·simp only [Act.put, List.setIfInBounds_toArray, List.set_cons_zero, List.set_cons_succ, i64_w, i32_w]
  rfl
 refine pure_ (i := 1) (N := some 4) (v := ?_) (a' := ?_) #[true, true, false, false, false] rfl rfl (by kernel_rfl) (fun _ _ _ h => h) (Or.inl ⟨by rfl, ?_⟩) ?_ ?_
 rotate_left
 ·intro w'
  go_simp
  with_reducible rfl
 rotate_left
 ·simp only [Act.put, List.setIfInBounds_toArray, List.set_cons_zero, List.set_cons_succ, i64_w, i32_w]
  rfl
 refine one_ (i := 2) (N := some 5) #[true, true, true, false, false] rfl rfl (by kernel_rfl) (by decide) (fun K hK => ?_)
 refine goes_ Tryd.func58 (by kernel_rfl) rfl #[.int .u64 u] (by rfl) rfl rfl (by (try simp only [List.map_toArray, List.map_cons, List.map_nil]); first | done | rfl) ?_
 with_reducible refine (pack_Put.calls k u s _ HS.out).mono ?_
 rintro e w2 ⟨rfl, hb⟩
 refine ⟨_, rfl, ?_⟩
 have HB2 := Aside0.mk (below_then HW.out HW.out.size hb)
 clear hb
 refine hK.out _ _ (blk_cell (blk_below HI.out.1 HB2.out) 0) (fun hHeld2 => ?_)
 clear hK K HW hHeld
 refine norm_ (a' := ?_) ?_ ?_
 rotate_left
 ·show Act.put _ (some 5) _ = _
  simp only [Act.put, List.setIfInBounds_toArray, List.set_cons_zero, List.set_cons_succ, i64_w, i32_w]
  rfl
 obtain ⟨j1, j2, j3, j4, j5, j6, j7⟩ := HI.out
 obtain ⟨v', W3, hr, ho, hg⟩ := app_bytes (j2.below HB2.out) s h0 (Nat.le_of_lt hl) (Nat.le_trans j4.size HB2.out.size)
 obtain ⟨g', c', rfl, _, _⟩ := ho.form (by rw [List.length_append, bytesOf_length]; omega)
 have HP := Aside0.mk (LI.put (blk_below j1 HB2.out) (j2.below HB2.out) (blk_below j3 HB2.out) (below_then j4 j4.size HB2.out) j5 j6 j7 ho hg)
 have hcB : W3.cell? ⟨B, 0, none⟩ = some v ∧ W3.frozen? ⟨B, 0, none⟩ = false := by
  have nB : some B ≠ v.ownBlock := by
   intro he
   obtain ⟨_, cells, m, hc⟩ := j2.typed B he.symm
   rw [j1] at hc
   injection hc with hc
   injection hc with _ hc _
   cases hc
  have := blk_grown (blk_below j1 HB2.out) hg nB
  exact ⟨blk_cell this 0, blk_frozen this 0⟩
 obtain ⟨hcB, hfB⟩ := hcB
 refine one_ (i := 3) (N := some 6) #[true, true, true, true, false] rfl rfl (by kernel_rfl) (by decide) (fun K hK => ?_)
 refine value_ (v := _) (w1 := W3) (by rfl) rfl (exec_app rfl rfl (by rfl) (by rfl) hr) ?_
 refine hK.out _ _ hcB (fun hHeld3 => ?_)
 clear hK K hHeld2 hr ho hg j1 j2 j3 j4 j5 j6 j7 HI hc0
 refine norm_ (a' := ?_) ?_ ?_
 rotate_left
 ·show Act.put _ (some 6) _ = _
  simp only [Act.put, List.setIfInBounds_toArray, List.set_cons_zero, List.set_cons_succ, i64_w, i32_w]
  rfl
 refine last_ (i := 4) (N := none) #[true, true, true, true, true] rfl rfl (by kernel_rfl) (by decide) (fun K hK => ?_)
 refine skip_ (w1 := W3.setCell ⟨B, 0, none⟩ (.slice (some ⟨g', 0, none⟩) (bs ++ bytesOf s).length c')) (by rfl) rfl ?_ ?_
 ·go_simp
 refine hK.out _ _ ?_
 refine done_ (by kernel_rfl) ?_
 go_wp2
 go_end0
 exact ⟨rfl, HP.out⟩
def numO (k : Nat) (b : List Int) (u : Int) : Option (List Int) := (pack_Put.f k u).bind fun s => if 0 < s.size ∧ b.length + s.size < 140737488355328 then some (b ++ bytesOf s) else none
def numsO (k : Nat) (b : List Int) : List Int → Option (List Int)
 | [] => some b
 | x :: t => (numO k b x).bind fun b' => numsO k b' t
def strsO (k : Nat) (b : List Int) : List ByteArray → Option (List Int)
 | [] => some b
 | s :: t => (numO k b (IntKind.u64.wrap (s.size : Int))).bind fun b1 => if 0 < s.size ∧ b1.length + s.size < 140737488355328 then strsO k (b1 ++ bytesOf s) t else none
def zigV (x : Int) : Int := (pack_Zig.f x).getD 0
def code_laid.f (k : Nat) (l0_0 : List Int) (l0_1 : List Int) (l0_2 : List ByteArray) (l0_3 : List Int) : Option (List Int) :=
 (numO k [73, 67, 49] (l0_0.length : Int)).bind fun b1 => (numsO k b1 l0_0).bind fun b2 => (numO k b2 (l0_1.length : Int)).bind fun b3 => (numsO k b3 (l0_1.map zigV)).bind fun b4 =>
 (numO k b4 (l0_2.length : Int)).bind fun b5 => (strsO k b5 l0_2).bind fun b6 => (numO k b6 (l0_3.length : Int)).bind fun b7 => numsO k b7 (l0_3.map fun x => IntKind.u64.wrap x)
theorem numO.mono (b : List Int) (u : Int) (k : Nat) : LeO (numO k b u) (numO (k + 1) b u) := LeO.bind (pack_Put.mono u k) (fun _ => LeO.refl _)
theorem numsO.mono : ∀ (l b : List Int) (k : Nat), LeO (numsO k b l) (numsO (k + 1) b l)
 | [], _, _ => LeO.refl _
 | x :: t, b, k => LeO.bind (numO.mono b x k) (fun b' => numsO.mono t b' k)
theorem strsO.mono : ∀ (l : List ByteArray) (b : List Int) (k : Nat), LeO (strsO k b l) (strsO (k + 1) b l)
 | [], _, _ => LeO.refl _
 | s :: t, b, k => LeO.bind (numO.mono b _ k) (fun b' => by
  show LeO (if _ then _ else _) (if _ then _ else _)
  exact LeO.ite (strsO.mono t _ k) (LeO.refl _))
theorem numO_len {k : Nat} {b b' : List Int} {u : Int} (h : numO k b u = some b') : b.length < b'.length := by
 unfold numO at h
 obtain ⟨s, hs, h⟩ := Option.bind_eq_some_iff.mp h
 by_cases c : 0 < s.size ∧ b.length + s.size < 140737488355328
 ·rw [if_pos c] at h
  obtain rfl := Option.some.inj h
  rw [List.length_append, bytesOf_length]
  omega
 ·rw [if_neg c] at h; cases h
theorem numsO_len {k : Nat} : ∀ (l : List Int) {b b' : List Int}, numsO k b l = some b' → b.length ≤ b'.length
 | [], b, b', h => by obtain rfl := Option.some.inj h; exact Nat.le_refl _
 | x :: t, b, b', h => by
  obtain ⟨b1, h1, h2⟩ := Option.bind_eq_some_iff.mp h
  exact Nat.le_trans (Nat.le_of_lt (numO_len h1)) (numsO_len t h2)
theorem strsO_len {k : Nat} : ∀ (l : List ByteArray) {b b' : List Int}, strsO k b l = some b' → b.length ≤ b'.length
 | [], b, b', h => by obtain rfl := Option.some.inj h; exact Nat.le_refl _
 | s :: t, b, b', h => by
  obtain ⟨b1, h1, h2⟩ := Option.bind_eq_some_iff.mp h
  by_cases c : 0 < s.size ∧ b1.length + s.size < 140737488355328
  ·rw [if_pos c] at h2
   have := strsO_len t h2
   have := numO_len h1
   rw [List.length_append] at *
   omega
  ·rw [if_neg c] at h2; cases h2
theorem num_step {k : Nat} {b b' : List Int} {u : Int} (h : numO k b u = some b') (B Bc : Nat) (cs : Array Value) (w0 W : World) (hI : LI w0 B Bc cs W b) :
  Calls Tryd.prog 57 #[.int .u64 u, .pointer (some ⟨B, 0, none⟩)] W fun e W' => e = .returned (.tuple #[]) ∧ LI w0 B Bc cs W' b' := by
 unfold numO at h
 obtain ⟨s, hs, h⟩ := Option.bind_eq_some_iff.mp h
 by_cases c : 0 < s.size ∧ b.length + s.size < 140737488355328
 ·rw [if_pos c] at h
  obtain rfl := Option.some.inj h
  exact num_any k u s B Bc cs b w0 W hs c.1 c.2 hI
 ·rw [if_neg c] at h; cases h
theorem zig_some (y : Int) : pack_Zig.f y = some (zigV y) := rfl
set_option maxHeartbeats 8000000 in
set_option maxRecDepth 100000 in
theorem code_laid.calls (k : Nat) (A0_0 : Option Addr) (c0_0 : Nat) (l0_0 : List Int) (A0_1 : Option Addr) (c0_1 : Nat) (l0_1 : List Int) (A0_2 : Option Addr) (c0_2 : Nat) (l0_2 : List ByteArray) (A0_3 : Option Addr) (c0_3 : Nat) (l0_3 : List Int) (r : List Int) (w : World) (hr0_0 : Kd.C (Kd.int .u64) w A0_0 l0_0.length l0_0) (hc0_0 : l0_0.length ≤ c0_0) (hr0_1 : Kd.C (Kd.int .i64) w A0_1 l0_1.length l0_1) (hc0_1 : l0_1.length ≤ c0_1) (hr0_2 : Kd.C Kd.string w A0_2 l0_2.length l0_2) (hc0_2 : l0_2.length ≤ c0_2) (hr0_3 : Kd.C (Kd.int .i64) w A0_3 l0_3.length l0_3) (hc0_3 : l0_3.length ≤ c0_3) (h : code_laid.f k l0_0 l0_1 l0_2 l0_3 = some r) :
  Calls Tryd.prog 35 #[.agg #[.slice A0_0 l0_0.length c0_0, .slice A0_1 l0_1.length c0_1, .slice A0_2 l0_2.length c0_2, .slice A0_3 l0_3.length c0_3]] w fun e w' => ∃ v0_ : Value, e = .returned v0_ ∧ Kd.R (Kd.int .u8) 5 w' w.heap.size (fun _ => True) v0_ r ∧ Below w.heap.size w w' := by
 unfold code_laid.f at h
 have HR0 := Aside0.mk hr0_0
 have HC0 := Aside0.mk hc0_0
 clear hr0_0 hc0_0
 have HR1 := Aside0.mk hr0_1
 have HC1 := Aside0.mk hc0_1
 clear hr0_1 hc0_1
 have HR2 := Aside0.mk hr0_2
 have HC2 := Aside0.mk hc0_2
 clear hr0_2 hc0_2
 have HR3 := Aside0.mk hr0_3
 have HC3 := Aside0.mk hc0_3
 clear hr0_3 hc0_3
 obtain ⟨b1, h1, h⟩ := Option.bind_eq_some_iff.mp h
 obtain ⟨b2, h2, h⟩ := Option.bind_eq_some_iff.mp h
 obtain ⟨b3, h3, h⟩ := Option.bind_eq_some_iff.mp h
 obtain ⟨b4, h4, h⟩ := Option.bind_eq_some_iff.mp h
 obtain ⟨b5, h5, h⟩ := Option.bind_eq_some_iff.mp h
 obtain ⟨b6, h6, h⟩ := Option.bind_eq_some_iff.mp h
 obtain ⟨b7, h7, h8⟩ := Option.bind_eq_some_iff.mp h
 have N1 := Aside0.mk h1
 have N2 := Aside0.mk h2
 have N3 := Aside0.mk h3
 have N4 := Aside0.mk h4
 have N5 := Aside0.mk h5
 have N6 := Aside0.mk h6
 have N7 := Aside0.mk h7
 have N8 := Aside0.mk h8
 have HLEN := Aside0.mk (show r.length ≠ 3 by
  have := numO_len h1
  have := numsO_len _ h2
  have := numO_len h3
  have := numsO_len _ h4
  have := numO_len h5
  have := strsO_len _ h6
  have := numO_len h7
  have := numsO_len _ h8
  simp only [List.length_cons, List.length_nil] at *
  omega)
 clear h1 h2 h3 h4 h5 h6 h7 h8 h
 have hsz : (w.alloc (.cells #[.slice A0_0 l0_0.length c0_0, .slice A0_1 l0_1.length c0_1, .slice A0_2 l0_2.length c0_2, .slice A0_3 l0_3.length c0_3] 26)).heap.size = w.heap.size + 1 := by simp
 have kc := Lib.run_convert_bytes_const (P := Tryd.prog) (w.alloc (.cells #[.slice A0_0 l0_0.length c0_0, .slice A0_1 l0_1.length c0_1, .slice A0_2 l0_2.length c0_2, .slice A0_3 l0_3.length c0_3] 26)) 44 5 #[.int .u8 73, .int .u8 67, .int .u8 49] 3 3 Tryd.underlying44 Tryd.underlying5
 rw [hsz] at kc
 have hsz3 : (#[.int .u8 73, .int .u8 67, .int .u8 49] : Array Value).size = 3 := rfl
 rw [hsz3] at kc
 clear hsz hsz3
 have z1 : (w.alloc (.cells #[.slice A0_0 l0_0.length c0_0, .slice A0_1 l0_1.length c0_1, .slice A0_2 l0_2.length c0_2, .slice A0_3 l0_3.length c0_3] 26)).heap.size = w.heap.size + 1 := by simp
 have z2 : ((w.alloc (.cells #[.slice A0_0 l0_0.length c0_0, .slice A0_1 l0_1.length c0_1, .slice A0_2 l0_2.length c0_2, .slice A0_3 l0_3.length c0_3] 26)).alloc (.cells #[.int .u8 73, .int .u8 67, .int .u8 49] 5 (3, 4))).heap.size = w.heap.size + 1 + 1 := by simp
 have e0 := blk_new w (.cells #[.slice A0_0 l0_0.length c0_0, .slice A0_1 l0_1.length c0_1, .slice A0_2 l0_2.length c0_2, .slice A0_3 l0_3.length c0_3] 26)
 have e1 := blk_new (w.alloc (.cells #[.slice A0_0 l0_0.length c0_0, .slice A0_1 l0_1.length c0_1, .slice A0_2 l0_2.length c0_2, .slice A0_3 l0_3.length c0_3] 26)) (.cells #[.int .u8 73, .int .u8 67, .int .u8 49] 5 (3, 4))
 have e2 := blk_new ((w.alloc (.cells #[.slice A0_0 l0_0.length c0_0, .slice A0_1 l0_1.length c0_1, .slice A0_2 l0_2.length c0_2, .slice A0_3 l0_3.length c0_3] 26)).alloc (.cells #[.int .u8 73, .int .u8 67, .int .u8 49] 5 (3, 4))) (.cells #[.slice (some ⟨w.heap.size + 1, 0, none⟩) 3 3] 44)
 rw [z1] at e1
 rw [z2] at e2
 have HI := Aside0.mk (show LI w (w.heap.size + 1 + 1) w.heap.size #[.slice A0_0 l0_0.length c0_0, .slice A0_1 l0_1.length c0_1, .slice A0_2 l0_2.length c0_2, .slice A0_3 l0_3.length c0_3] (((w.alloc (.cells #[.slice A0_0 l0_0.length c0_0, .slice A0_1 l0_1.length c0_1, .slice A0_2 l0_2.length c0_2, .slice A0_3 l0_3.length c0_3] 26)).alloc (.cells #[.int .u8 73, .int .u8 67, .int .u8 49] 5 (3, 4))).alloc (.cells #[.slice (some ⟨w.heap.size + 1, 0, none⟩) 3 3] 44)) [73, 67, 49] from
  ⟨_, e2, .inr ⟨rfl, w.heap.size + 1, (3, 4), rfl, by omega, blk_below e1 (below_alloc (Below.refl _ _) _)⟩, blk_below e0 (below_alloc (below_alloc (Below.refl _ _) _) _), below_alloc (below_alloc (below_alloc (Below.refl _ _) _) _) _, by omega, Nat.le_refl _, by omega⟩)
 clear z1 z2 e0 e1 e2
 have hm0 := HR0.out.2.1
 have hm1 := HR1.out.2.1
 have hm2 := HR2.out.2.1
 have hm3 := HR3.out.2.1
 go_enter Tryd.func35, Tryd.ntmps35
 go_wp2_with (go_at_call 57; (with_reducible refine (num_step N1.out _ _ _ w _ HI.out).mono ?_); rintro e w1 ⟨rfl, hI1⟩; have HI1 := Aside0.mk hI1; have g0 := LI.cell hI1 0 _ rfl; have g1 := LI.cell hI1 1 _ rfl; have g2 := LI.cell hI1 2 _ rfl; have g3 := LI.cell hI1 3 _ rfl; clear hI1)
 clear HI kc
 go_loopw [25] (fun v w' => ∃ (j : Nat) (b : List Int), v = .int .i64 j ∧ j ≤ l0_0.length ∧ Aside0 (numsO k b ((l0_0).drop j) = some b2) ∧ Aside0 (LI w (w.heap.size + 1 + 1) w.heap.size #[.slice A0_0 l0_0.length c0_0, .slice A0_1 l0_1.length c0_1, .slice A0_2 l0_2.length c0_2, .slice A0_3 l0_3.length c0_3] w' b)) (fun v _ => l0_0.length - (intOf v).toNat)
 case atStart => exact ⟨0, b1, rfl, Nat.zero_le _, N2, HI1⟩
 case round =>
  clear HI1 N2
  obtain ⟨j, b, rfl, hj, HN, HL⟩ := hrel
  have hmax := HR0.out.2.1
  have g0 := LI.cell HL.out 0 _ rfl
  have g1 := LI.cell HL.out 1 _ rfl
  have g2 := LI.cell HL.out 2 _ rfl
  have g3 := LI.cell HL.out 3 _ rfl
  by_cases hlt : j < l0_0.length
  ·have hb : Below w.heap.size w wr := LI.low HL.out
   obtain ⟨ad, ea, hx⟩ := Kd.at_int (Kd.C_below HR0.out hb) (j : Int) (Int.natCast_nonneg j) (by omega)
   have hrd : rd l0_0 (j : Int) = l0_0[j] := by
    simp [rd, rdOf, List.getD, hlt]
   have hn := HN.out
   rw [show (l0_0).drop j = _ from List.drop_eq_getElem_cons (by first | exact hlt | simpa using hlt)] at hn
   try simp only [List.getElem_map] at hn
   obtain ⟨b', hb1, hb2⟩ := Option.bind_eq_some_iff.mp hn
   have NX := Aside0.mk hb1
   have NY := Aside0.mk hb2
   rw [hrd] at hx
   have hx' : wr.cell? (ad.add j) = _ := hx
   obtain ⟨y, hy⟩ : ∃ y, y = l0_0[j] := ⟨_, rfl⟩
   rw [← hy] at hx' NX
   clear hy hx hrd hn hb1 hb2 hb HN
   cases ea
   go_wp2_with (go_at_call 57; (with_reducible refine (num_step NX.out _ _ _ w _ HL.out).mono ?_); rintro e w2 ⟨rfl, hI2⟩; have HI2 := Aside0.mk hI2; clear hI2)
   go_roundw
   case rel => exact ⟨j + 1, b', (by first | rfl | simp), by omega, NY, HI2⟩
   case measure => simp [intOf]; omega
  ·have hn := HN.out
   rw [List.drop_eq_nil_of_le (by first | omega | (simp; omega))] at hn
   obtain rfl : b = b2 := Option.some.inj hn
   clear hn HN
   go_wp2_with (go_at_call 57; (with_reducible refine (num_step N3.out _ _ _ w _ HL.out).mono ?_); rintro e w1 ⟨rfl, hI1⟩; have HI1 := Aside0.mk hI1; have g0 := LI.cell hI1 0 _ rfl; have g1 := LI.cell hI1 1 _ rfl; have g2 := LI.cell hI1 2 _ rfl; have g3 := LI.cell hI1 3 _ rfl; clear hI1)
   clear HL
   go_loopw [42] (fun v w' => ∃ (j : Nat) (b : List Int), v = .int .i64 j ∧ j ≤ l0_1.length ∧ Aside0 (numsO k b ((l0_1.map zigV).drop j) = some b4) ∧ Aside0 (LI w (w.heap.size + 1 + 1) w.heap.size #[.slice A0_0 l0_0.length c0_0, .slice A0_1 l0_1.length c0_1, .slice A0_2 l0_2.length c0_2, .slice A0_3 l0_3.length c0_3] w' b)) (fun v _ => l0_1.length - (intOf v).toNat)
   case atStart => exact ⟨0, b3, rfl, Nat.zero_le _, N4, HI1⟩
   case round =>
    clear HI1 N4
    obtain ⟨j, b, rfl, hj, HN, HL⟩ := hrel
    have hmax := HR1.out.2.1
    have g0 := LI.cell HL.out 0 _ rfl
    have g1 := LI.cell HL.out 1 _ rfl
    have g2 := LI.cell HL.out 2 _ rfl
    have g3 := LI.cell HL.out 3 _ rfl
    by_cases hlt : j < l0_1.length
    ·have hb : Below w.heap.size w wr := LI.low HL.out
     obtain ⟨ad, ea, hx⟩ := Kd.at_int (Kd.C_below HR1.out hb) (j : Int) (Int.natCast_nonneg j) (by omega)
     have hrd : rd l0_1 (j : Int) = l0_1[j] := by
      simp [rd, rdOf, List.getD, hlt]
     have hn := HN.out
     rw [show (l0_1.map zigV).drop j = _ from List.drop_eq_getElem_cons (by first | exact hlt | simpa using hlt)] at hn
     try simp only [List.getElem_map] at hn
     obtain ⟨b', hb1, hb2⟩ := Option.bind_eq_some_iff.mp hn
     have NX := Aside0.mk hb1
     have NY := Aside0.mk hb2
     rw [hrd] at hx
     have hx' : wr.cell? (ad.add j) = _ := hx
     obtain ⟨y, hy⟩ : ∃ y, y = l0_1[j] := ⟨_, rfl⟩
     rw [← hy] at hx' NX
     clear hy hx hrd hn hb1 hb2 hb HN
     cases ea
     go_wp2_with (first | (go_at_call 59; (with_reducible refine (pack_Zig.calls y (zigV y) _ (zig_some y)).mono ?_); rintro e w2 ⟨rfl, ⟨nd, rfl⟩⟩; have HL2 := Aside0.mk (LI.below HL.out (pw_below_drewN (Below.refl _ _) nd))) | (go_at_call 57; (with_reducible refine (num_step NX.out _ _ _ w _ HL2.out).mono ?_); rintro e w3 ⟨rfl, hI2⟩; have HI2 := Aside0.mk hI2; clear hI2))
     go_roundw
     case rel => exact ⟨j + 1, b', (by first | rfl | simp), by omega, NY, HI2⟩
     case measure => simp [intOf]; omega
    ·have hn := HN.out
     rw [List.drop_eq_nil_of_le (by first | omega | (simp; omega))] at hn
     obtain rfl : b = b4 := Option.some.inj hn
     clear hn HN
     go_wp2_with (go_at_call 57; (with_reducible refine (num_step N5.out _ _ _ w _ HL.out).mono ?_); rintro e w1 ⟨rfl, hI1⟩; have HI1 := Aside0.mk hI1; have g0 := LI.cell hI1 0 _ rfl; have g1 := LI.cell hI1 1 _ rfl; have g2 := LI.cell hI1 2 _ rfl; have g3 := LI.cell hI1 3 _ rfl; clear hI1)
     clear HL
     go_loopw [60] (fun v w' => ∃ (j : Nat) (b : List Int), v = .int .i64 j ∧ j ≤ l0_2.length ∧ Aside0 (strsO k b (l0_2.drop j) = some b6) ∧ Aside0 (LI w (w.heap.size + 1 + 1) w.heap.size #[.slice A0_0 l0_0.length c0_0, .slice A0_1 l0_1.length c0_1, .slice A0_2 l0_2.length c0_2, .slice A0_3 l0_3.length c0_3] w' b)) (fun v _ => l0_2.length - (intOf v).toNat)
     case atStart => exact ⟨0, b5, rfl, Nat.zero_le _, N6, HI1⟩
     case round =>
      clear HI1 N6
      obtain ⟨j, b, rfl, hj, HN, HL⟩ := hrel
      have hmax := HR2.out.2.1
      have g0 := LI.cell HL.out 0 _ rfl
      have g1 := LI.cell HL.out 1 _ rfl
      have g2 := LI.cell HL.out 2 _ rfl
      have g3 := LI.cell HL.out 3 _ rfl
      by_cases hlt : j < l0_2.length
      ·have hb : Below w.heap.size w wr := LI.low HL.out
       obtain ⟨ad, ea, hx⟩ := Kd.at_string (Kd.C_below HR2.out hb) (j : Int) (Int.natCast_nonneg j) (by omega)
       have hrd : rdOf ByteArray.empty l0_2 (j : Int) = l0_2[j] := by
        simp [rdOf, List.getD, hlt]
       have hn := HN.out
       rw [show l0_2.drop j = _ from List.drop_eq_getElem_cons hlt] at hn
       obtain ⟨b', hb1, hb2⟩ := Option.bind_eq_some_iff.mp hn
       rw [hrd] at hx
       have hx' : wr.cell? (ad.add j) = _ := hx
       obtain ⟨y, hy⟩ : ∃ y, y = l0_2[j] := ⟨_, rfl⟩
       rw [← hy] at hx' hb1 hb2
       by_cases hc : 0 < y.size ∧ b'.length + y.size < 140737488355328
       ·rw [if_pos hc] at hb2
        have NX := Aside0.mk hb1
        have NY := Aside0.mk hb2
        have NC := Aside0.mk hc
        clear hy hx hrd hn hb1 hb2 hb HN hc
        cases ea
        go_wp2_with (first
         | (go_at_call 57; (with_reducible refine (num_step NX.out _ _ _ w _ HL.out).mono ?_); rintro e w2 ⟨rfl, hI2⟩; obtain ⟨v, i1, i2, i3, i4, i5, i6, i7⟩ := hI2; have hcB := blk_cell i1 0; have HI2 := Aside0.mk (And.intro i1 (And.intro i2 (And.intro i3 (And.intro i4 (And.intro i5 (And.intro i6 i7)))))); clear i1 i2 i3 i4 i5 i6 i7)
         | (at_builtin; refine wpl_app rfl (.tmp 69) (.tmp 70) rfl rfl v b' y rfl rfl HI2.out.2.1 NC.out.1 (Nat.le_of_lt NC.out.2) HI2.out.2.2.2.1.size ?_; intro g' c' n' W3 ho hg; have HP := Aside0.mk (LI.put HI2.out.1 HI2.out.2.1 HI2.out.2.2.1 HI2.out.2.2.2.1 HI2.out.2.2.2.2.1 HI2.out.2.2.2.2.2.1 HI2.out.2.2.2.2.2.2 ho hg); obtain ⟨hcC, hfC⟩ := LRow.box HI2.out.1 HI2.out.2.1 hg; clear ho hg))
        go_roundw
        case rel => exact ⟨j + 1, b' ++ bytesOf y, (by first | rfl | simp), by omega, NY, HP⟩
        case measure => simp [intOf]; omega
       ·rw [if_neg hc] at hb2; cases hb2
      ·have hn := HN.out
       rw [List.drop_eq_nil_of_le (by omega)] at hn
       obtain rfl : b = b6 := Option.some.inj hn
       clear hn HN
       go_wp2_with (go_at_call 57; (with_reducible refine (num_step N7.out _ _ _ w _ HL.out).mono ?_); rintro e w1 ⟨rfl, hI1⟩; have HI1 := Aside0.mk hI1; have g0 := LI.cell hI1 0 _ rfl; have g1 := LI.cell hI1 1 _ rfl; have g2 := LI.cell hI1 2 _ rfl; have g3 := LI.cell hI1 3 _ rfl; clear hI1)
       clear HL
       go_loopw [82] (fun v w' => ∃ (j : Nat) (b : List Int), v = .int .i64 j ∧ j ≤ l0_3.length ∧ Aside0 (numsO k b ((l0_3.map fun x => IntKind.u64.wrap x).drop j) = some r) ∧ Aside0 (LI w (w.heap.size + 1 + 1) w.heap.size #[.slice A0_0 l0_0.length c0_0, .slice A0_1 l0_1.length c0_1, .slice A0_2 l0_2.length c0_2, .slice A0_3 l0_3.length c0_3] w' b)) (fun v _ => l0_3.length - (intOf v).toNat)
       case atStart => exact ⟨0, b7, rfl, Nat.zero_le _, N8, HI1⟩
       case round =>
        clear HI1 N8
        obtain ⟨j, b, rfl, hj, HN, HL⟩ := hrel
        have hmax := HR3.out.2.1
        have g0 := LI.cell HL.out 0 _ rfl
        have g1 := LI.cell HL.out 1 _ rfl
        have g2 := LI.cell HL.out 2 _ rfl
        have g3 := LI.cell HL.out 3 _ rfl
        by_cases hlt : j < l0_3.length
        ·have hb : Below w.heap.size w wr := LI.low HL.out
         obtain ⟨ad, ea, hx⟩ := Kd.at_int (Kd.C_below HR3.out hb) (j : Int) (Int.natCast_nonneg j) (by omega)
         have hrd : rd l0_3 (j : Int) = l0_3[j] := by
          simp [rd, rdOf, List.getD, hlt]
         have hn := HN.out
         rw [show (l0_3.map fun x => IntKind.u64.wrap x).drop j = _ from List.drop_eq_getElem_cons (by first | exact hlt | simpa using hlt)] at hn
         try simp only [List.getElem_map] at hn
         obtain ⟨b', hb1, hb2⟩ := Option.bind_eq_some_iff.mp hn
         have NX := Aside0.mk hb1
         have NY := Aside0.mk hb2
         rw [hrd] at hx
         have hx' : wr.cell? (ad.add j) = _ := hx
         obtain ⟨y, hy⟩ : ∃ y, y = l0_3[j] := ⟨_, rfl⟩
         rw [← hy] at hx' NX
         clear hy hx hrd hn hb1 hb2 hb HN
         cases ea
         go_wp2_with (go_at_call 57; (with_reducible refine (num_step NX.out _ _ _ w _ HL.out).mono ?_); rintro e w2 ⟨rfl, hI2⟩; have HI2 := Aside0.mk hI2; clear hI2)
         go_roundw
         case rel => exact ⟨j + 1, b', (by first | rfl | simp), by omega, NY, HI2⟩
         case measure => simp [intOf]; omega
        ·have hn := HN.out
         rw [List.drop_eq_nil_of_le (by first | omega | (simp; omega))] at hn
         obtain rfl : b = r := Option.some.inj hn
         clear hn HN
         obtain ⟨v, hcB, e2, e4⟩ := LI.own HL.out HLEN.out
         have HE := Aside0.mk e2
         have HF := Aside0.mk e4
         clear e2 e4
         go_wp2
         go_ret
         exact ⟨_, rfl, Kd.R_of_own (h1 := fun _ => rfl) (ok := fun _ => True) HE.out (fun _ _ => trivial), HF.out⟩
end Go.Proofs.YtnlimplbmncdeaaDoor.C
