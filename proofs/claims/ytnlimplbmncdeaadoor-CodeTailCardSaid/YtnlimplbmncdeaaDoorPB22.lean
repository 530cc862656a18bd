/- The laws CodeBack, CodeBackWords, CodeLists, CodeTail of the program hold, as their cards say: texts put together by a program, 23 of 39. -/
import Derived.Test.YtnlimplbmncdeaaDoorPB1
import Derived.Test.YtnlimplbmncdeaaDoorPB21
import Derived.Laws.BytesArg
import Derived.WalkKit
import Derived.ProofKit
import Derived.OpenShut
import Derived.ShutString
import Derived.ChangeOld
import Derived.Below
import Derived.SizedLaws
import Derived.Deep.Strs
import Derived.Lib.SmallJoins
namespace Go.Proofs.YtnlimplbmncdeaaDoor.Str
open Go.RowKit Go.Proofs.YtnlimplbmncdeaaDoorW.PrintWords
theorem bs {α β : Type} (a : α) (f : α → Option β) : (some a).bind f = f a := by rw [Option.bind_some]
theorem wf_i64 {x : Int} (h : (Lit.int .i64 x).wf = true) : -9223372036854775808 ≤ x ∧ x ≤ 9223372036854775807 := by
 simp only [Lit.wf, IntKind.min, IntKind.max, IntKind.signed, IntKind.bits, Bool.and_eq_true, decide_eq_true_eq, if_true] at h
 omega
theorem wf_u64 {x : Int} (h : (Lit.int .u64 x).wf = true) : 0 ≤ x ∧ x ≤ 18446744073709551615 := by
 simp [Lit.wf, IntKind.min, IntKind.max, IntKind.signed, IntKind.bits] at h
 omega
theorem toList_data (s : ByteArray) : s.toList = s.data.toList := by
 have h : ∀ (l : List UInt8), (⟨l.toArray⟩ : ByteArray).toList = l := by
  intro l
  have hl : ∀ (n i : Nat) (r : List UInt8), l.length - i = n → ByteArray.toList.loop (⟨l.toArray⟩ : ByteArray) i r = r.reverse ++ l.drop i := by
   intro n
   induction n with
   | zero =>
    intro i r h
    unfold ByteArray.toList.loop
    rw [if_neg (show ¬ i < (⟨l.toArray⟩ : ByteArray).size by show ¬ i < l.length; omega)]
    rw [List.drop_eq_nil_of_le (by omega), List.append_nil]
   | succ n ih =>
    intro i r h
    unfold ByteArray.toList.loop
    have hlt : i < l.length := by omega
    rw [if_pos (show i < (⟨l.toArray⟩ : ByteArray).size from hlt), ih (i + 1) _ (by omega)]
    have hg : (⟨l.toArray⟩ : ByteArray).get! i = l[i] := by
     show l.toArray[i]! = l[i]
     rw [getElem!_pos _ _ (by simpa using hlt)]
     simp
    rw [hg, List.reverse_cons, List.append_assoc, List.singleton_append, List.getElem_cons_drop]
  exact hl l.length 0 [] rfl
 have := h s.data.toList
 simpa using this
theorem ext_bytes {s t : ByteArray} (h : bytesOf s = bytesOf t) : s = t := by
 have back : ∀ l : List UInt8, (l.map fun b => (b.toNat : Int)).map (fun n => UInt8.ofNat n.toNat) = l := by
  intro l
  rw [List.map_map]
  conv => rhs; rw [← List.map_id l]
  apply List.map_congr_left
  intro x _
  simp
 have h2 : s.data.toList = t.data.toList := by
  unfold bytesOf at h
  rw [← back s.data.toList, h, back]
 have : s.data = t.data := Array.toList_inj.1 h2
 cases s; cases t; simp_all
theorem toList_iff {s t : ByteArray} : s.toList = t.toList ↔ s = t := by
 constructor
 ·intro h
  rw [toList_data, toList_data] at h
  have : s.data = t.data := Array.toList_inj.1 h
  cases s; cases t; simp_all
 ·rintro rfl; rfl
theorem bytes_append (s t : ByteArray) : bytesOf (s ++ t) = bytesOf s ++ bytesOf t := by
 unfold bytesOf
 rw [show (s ++ t).data = s.data ++ t.data from ByteArray.data_append .., Array.toList_append, List.map_append]
theorem bytes_extract (s : ByteArray) (i j : Nat) : bytesOf (s.extract i j) = ((bytesOf s).drop i).take (j - i) := by
 unfold bytesOf
 rw [show (s.extract i j).data = s.data.extract i j from ByteArray.data_extract .., Array.toList_extract, List.extract_eq_take_drop, List.map_take, List.map_drop]
theorem bytes_range (s : ByteArray) : ∀ x ∈ bytesOf s, 0 ≤ x ∧ x < 256 := by
 intro x hx
 unfold bytesOf at hx
 obtain ⟨b, _, rfl⟩ := List.mem_map.1 hx
 have := b.toNat_lt
 omega
theorem bytes_nums {l : List Int} (h : ∀ x ∈ l, 0 ≤ x ∧ x < 256) : bytesOf (strOfNums l) = l := by
 unfold bytesOf
 rw [strOfNums_data, List.map_map]
 conv => rhs; rw [← List.map_id l]
 apply List.map_congr_left
 intro x hx
 obtain ⟨h0, h1⟩ := h x hx
 show ((UInt8.ofNat x.toNat).toNat : Int) = x
 rw [UInt8.toNat_ofNat_of_lt' (by show x.toNat < 256; omega)]
 omega
theorem bt_drop {s : ByteArray} {i : Nat} (h : i < s.size) : (bytesOf s).drop i = bt s i :: (bytesOf s).drop (i + 1) := by
 have hl : i < (bytesOf s).length := by rw [bytesOf_length]; exact h
 rw [List.drop_eq_getElem_cons hl]
 congr 1
 have := rd_bytesOf s (i : Int)
 rw [← this]
 unfold rd
 rw [show ((i : Int)).toNat = i from rfl]
 simp [List.getD, hl]
end Go.Proofs.YtnlimplbmncdeaaDoor.Str
namespace Go.Proofs.YtnlimplbmncdeaaDoor.Open
open Go.ChangeShapes Go.WideShapes Go.ChangeAt Go.RowKit Go.Proofs.YtnlimplbmncdeaaDoorW.PrintWords Go.Proofs.YtnlimplbmncdeaaDoor.C
open Go.ChangeMaps (open_string shut_string)
section
variable {H : Type} {enc : TypeId × Value → H} {P : Program} {w : World} {base : Nat} {spare : Nat → Bool} {held : Bool}
theorem choose_list {α : Type} (p : Nat → α → Prop) : ∀ n : Nat, (∀ i, i < n → ∃ x, p i x) → ∃ l : List α, l.length = n ∧ ∀ (i : Nat) (x : α), l[i]? = some x → p i x
 | 0, _ => ⟨[], rfl, fun i x hx => by simp at hx⟩
 | n + 1, h => by
  obtain ⟨l, hl, hp⟩ := choose_list p n (fun i hi => h i (by omega))
  obtain ⟨y, hy⟩ := h n (by omega)
  refine ⟨l ++ [y], by simp [hl], fun i x hx => ?_⟩
  rw [List.getElem?_append] at hx
  split at hx
  ·exact hp i x hx
  ·next hge =>
   have : i - l.length = 0 := by
    rcases Nat.eq_zero_or_pos (i - l.length) with h0 | h0
    ·exact h0
    ·rw [List.getElem?_eq_none (by simp; omega)] at hx; cases hx
   rw [this] at hx
   simp at hx
   subst hx
   have : i = n := by omega
   rw [this]
   exact hy
theorem open_row {α : Type} (d : Kd α) (Q : α → Prop) {t e : TypeId} {fuel : Nat} {A : Option Addr} {len cap : Nat} {x : DataW H × List MemPlace} (ht : P.underlying t = some (.slice e)) (hc : P.cellsOf e = d.sz)
  (hE : ∀ (n : Nat) (cs : List Value) (y : DataW H × List MemPlace), cs.length = d.sz → DataW.trod enc P w base spare held n e cs = some y → ∃ p, d.K w p cs ∧ Q p)
  (h : DataW.trod enc P w base spare held fuel t [.slice A len cap] = some x) (hw : ∀ m ∈ x.1.weights P t, m ≤ reachBytes) :
  ∃ l : List α, len = l.length ∧ l.length ≤ cap ∧ d.C w A l.length l ∧ (∀ p ∈ l, Q p) ∧ l.length * P.bytesOf e ≤ 140737488351232 := by
 rcases DataW.trod_slice ht h with ⟨h0, _⟩ | ⟨a, len', cap', elems, rest, n, _, h0, rfl, hb, hl, hm, hlen, hel, _, _⟩
 ·simp at h0
  obtain ⟨rfl, rfl, rfl⟩ := h0
  exact ⟨[], rfl, Nat.le_refl _, Kd.C_nil _ _, by simp, by simp⟩
 ·simp at h0
  obtain ⟨rfl, rfl, rfl⟩ := h0
  obtain ⟨l, hll, hp⟩ := choose_list (α := α) (fun i p => Q p ∧ ∃ c, c.length = d.sz ∧ d.K w p c ∧ ∀ (i' : Nat) (u : Value), c[i']? = some u → w.cell? (a.add (i * d.sz + i')) = some u) len (fun i hi => by
   have hk := hel i hi
   rw [List.getElem?_eq_getElem (by omega), Option.bind_eq_some_iff] at hk
   obtain ⟨cs', h1, h2⟩ := hk
   rw [hc] at h1
   obtain ⟨_, h3, h4⟩ := World.cells?_some h1
   obtain ⟨p, hk, hq⟩ := hE n cs' _ h3 h2
   refine ⟨p, hq, cs', h3, hk, fun i' u hu => ?_⟩
   have hlt : i' < d.sz := by rw [← h3]; exact (List.getElem?_eq_some_iff.1 hu).1
   have := h4 i' hlt
   rw [hu] at this
   rw [← this]
   congr 1
   unfold Addr.add
   by_cases z1 : i * d.sz = 0 <;> by_cases z2 : i' = 0 <;> simp [z1, z2, Nat.add_assoc])
  refine ⟨l, hll.symm, by omega, ⟨rfl, by unfold maxLen at hm; omega, fun hpos => ⟨a, rfl, fun j p hj => (hp j p hj).2⟩⟩, fun p hpm => ?_, ?_⟩
  ·obtain ⟨i, hi⟩ := List.getElem?_of_mem hpm
   exact (hp i p hi).1
  ·have := hw ((elems.map (·.1)).length + (rest.map (·.1)).length |> (· * P.bytesOf e)) (by simp [DataW.weights, ht])
   have h2 : l.length ≤ (elems.map (·.1)).length + (rest.map (·.1)).length := by simp; omega
   exact Nat.le_trans (Nat.mul_le_mul_right _ h2) this
end
theorem weight_of {H : Type} {P : Program} {ts : List TypeId} {ds : List (DataW H)} (h : (DataW.weightsEach P ts ds).all (· ≤ reachBytes) = true) {j : Nat} {t : TypeId} {d : DataW H} (ht : ts[j]? = some t) (hd : ds[j]? = some d) : ∀ m ∈ d.weights P t, m ≤ reachBytes := fun m hm => by
 have := List.all_eq_true.1 h m (DataW.weights_mem_each ht hd m hm)
 simpa using this
section
variable {H : Type} {enc : TypeId × Value → H} {w : World} {base : Nat} {spare : Nat → Bool} {held : Bool} {A : Option Addr} {len cap : Nat} {d : DataW H} {ps : List MemPlace}
theorem u64s {t : TypeId} (ht : Tryd.prog.underlying t = some (.slice 33)) (h : DataW.Trod enc Tryd.prog w base spare held t (.slice A len cap) d ps) (hw : ∀ m ∈ d.weights Tryd.prog t, m ≤ reachBytes) :
  ∃ l : List Int, len = l.length ∧ l.length ≤ cap ∧ Kd.C (Kd.int .u64) w A l.length l ∧ (∀ x ∈ l, 0 ≤ x ∧ x ≤ 18446744073709551615) ∧ l.length * 8 ≤ 140737488351232 := by
 obtain ⟨fuel, hf⟩ := h
 obtain ⟨l, h1, h2, h3, h4, h5⟩ := open_row (Kd.int .u64) (fun x => (Lit.int .u64 x).wf = true) ht (by kernel_rfl) (fun n cs y _ hy => by
  obtain ⟨m, rfl, _, hwf⟩ := DataW.trod_int Tryd.underlying33 hy
  exact ⟨m, rfl, hwf⟩) hf hw
 rw [show Tryd.prog.bytesOf 33 = 8 by kernel_rfl] at h5
 exact ⟨l, h1, h2, h3, fun x hx => Str.wf_u64 (h4 x hx), h5⟩
theorem i64s {t : TypeId} (ht : Tryd.prog.underlying t = some (.slice 3)) (h : DataW.Trod enc Tryd.prog w base spare held t (.slice A len cap) d ps) (hw : ∀ m ∈ d.weights Tryd.prog t, m ≤ reachBytes) :
  ∃ l : List Int, len = l.length ∧ l.length ≤ cap ∧ Kd.C (Kd.int .i64) w A l.length l ∧ (∀ x ∈ l, -9223372036854775808 ≤ x ∧ x ≤ 9223372036854775807) ∧ l.length * 8 ≤ 140737488351232 := by
 obtain ⟨fuel, hf⟩ := h
 obtain ⟨l, h1, h2, h3, h4, h5⟩ := open_row (Kd.int .i64) (fun x => (Lit.int .i64 x).wf = true) ht (by kernel_rfl) (fun n cs y _ hy => by
  obtain ⟨m, rfl, _, hwf⟩ := DataW.trod_int Tryd.underlying3 hy
  exact ⟨m, rfl, hwf⟩) hf hw
 rw [show Tryd.prog.bytesOf 3 = 8 by kernel_rfl] at h5
 exact ⟨l, h1, h2, h3, fun x hx => Str.wf_i64 (h4 x hx), h5⟩
theorem strs {t : TypeId} (ht : Tryd.prog.underlying t = some (.slice 9)) (h : DataW.Trod enc Tryd.prog w base spare held t (.slice A len cap) d ps) (hw : ∀ m ∈ d.weights Tryd.prog t, m ≤ reachBytes) :
  ∃ l : List ByteArray, len = l.length ∧ l.length ≤ cap ∧ Kd.C Kd.string w A l.length l ∧ l.length * 16 ≤ 140737488351232 := by
 obtain ⟨fuel, hf⟩ := h
 obtain ⟨l, h1, h2, h3, h4, h5⟩ := open_row Kd.string (fun _ => True) ht (by kernel_rfl) (fun n cs y _ hy => by
  obtain ⟨s, rfl, _, _⟩ := DataW.trod_string Tryd.underlying9 hy
  exact ⟨s, rfl, trivial⟩) hf hw
 rw [show Tryd.prog.bytesOf 9 = 16 by kernel_rfl] at h5
 exact ⟨l, h1, h2, h3, h5⟩
theorem raws {t : TypeId} (ht : Tryd.prog.underlying t = some (.slice 50)) (h : DataW.Trod enc Tryd.prog w base spare held t (.slice A len cap) d ps) (hw : ∀ m ∈ d.weights Tryd.prog t, m ≤ reachBytes) :
  ∃ l : List SRaw, len = l.length ∧ l.length ≤ cap ∧ Kd.C kRaw w A l.length l ∧ (∀ x ∈ l, (-9223372036854775808 ≤ x.f0 ∧ x.f0 ≤ 9223372036854775807) ∧ (-9223372036854775808 ≤ x.f1 ∧ x.f1 ≤ 9223372036854775807) ∧ (-9223372036854775808 ≤ x.f2 ∧ x.f2 ≤ 9223372036854775807)) ∧ l.length * 24 ≤ 140737488351232 := by
 obtain ⟨fuel, hf⟩ := h
 have hi : ∀ n cs (y : DataW H × List MemPlace), DataW.trod enc Tryd.prog w base spare held n 3 cs = some y → ∃ m : Int, cs = [.int .i64 m] ∧ (-9223372036854775808 ≤ m ∧ m ≤ 9223372036854775807) := fun n cs y hy => by
  obtain ⟨m, rfl, _, hwf⟩ := DataW.trod_int Tryd.underlying3 hy
  exact ⟨m, rfl, Str.wf_i64 hwf⟩
 obtain ⟨l, h1, h2, h3, h4, h5⟩ := open_row kRaw (fun x : SRaw => (-9223372036854775808 ≤ x.f0 ∧ x.f0 ≤ 9223372036854775807) ∧ (-9223372036854775808 ≤ x.f1 ∧ x.f1 ≤ 9223372036854775807) ∧ (-9223372036854775808 ≤ x.f2 ∧ x.f2 ≤ 9223372036854775807)) ht (by kernel_rfl) (fun n cs y hl hy => by
  obtain ⟨y0, y1, y2, m, _, _, g0, g1, g2⟩ := Deep.trod_struct3 Tryd.underlying50 hy
  have c3 : Tryd.prog.cellsOf 3 = 1 := by kernel_rfl
  simp only [c3] at g0 g1 g2
  match cs, hl with
  | [c0, c1, c2], _ =>
   obtain ⟨a0, e0, r0⟩ := hi _ _ _ g0
   obtain ⟨a1, e1, r1⟩ := hi _ _ _ g1
   obtain ⟨a2, e2, r2⟩ := hi _ _ _ g2
   simp at e0 e1 e2
   subst e0 e1 e2
   exact ⟨⟨a0, a1, a2⟩, kRaw_mk w ⟨a0, a1, a2⟩, r0, r1, r2⟩) hf hw
 rw [show Tryd.prog.bytesOf 50 = 24 by kernel_rfl] at h5
 exact ⟨l, h1, h2, h3, h4, h5⟩
end
theorem code {H : Type} {enc : TypeId × Value → H} {w : World} {base b0 : Nat} {spare : Nat → Bool} {held : Bool} {r : Reach} {v : Value} {d : DataW H} {ps : List MemPlace} (hv : Value.okWide Tryd.prog w r b0 26 v) (h : DataW.Trod enc Tryd.prog w base spare held 26 v d ps) (hw : ∀ m ∈ d.weights Tryd.prog 26, m ≤ reachBytes) :
  ∃ (A0 : Option Addr) (c0 : Nat) (l0 : List Int) (A1 : Option Addr) (c1 : Nat) (l1 : List Int) (A2 : Option Addr) (c2 : Nat) (l2 : List ByteArray) (A3 : Option Addr) (c3 : Nat) (l3 : List Int),
   v = .agg #[.slice A0 l0.length c0, .slice A1 l1.length c1, .slice A2 l2.length c2, .slice A3 l3.length c3] ∧
   (l0.length ≤ c0 ∧ Kd.C (Kd.int .u64) w A0 l0.length l0 ∧ (∀ x ∈ l0, 0 ≤ x ∧ x ≤ 18446744073709551615) ∧ l0.length * 8 ≤ 140737488351232) ∧
   (l1.length ≤ c1 ∧ Kd.C (Kd.int .i64) w A1 l1.length l1 ∧ (∀ x ∈ l1, -9223372036854775808 ≤ x ∧ x ≤ 9223372036854775807) ∧ l1.length * 8 ≤ 140737488351232) ∧
   (l2.length ≤ c2 ∧ Kd.C Kd.string w A2 l2.length l2 ∧ l2.length * 16 ≤ 140737488351232) ∧
   (l3.length ≤ c3 ∧ Kd.C (Kd.int .i64) w A3 l3.length l3 ∧ l3.length * 8 ≤ 140737488351232) := by
 obtain ⟨v0, v1, v2, v3, y0, y1, y2, y3, n, rfl, rfl, rfl, h0, h1, h2, h3⟩ := Joins.open_agg4 Tryd.underlying26 (by kernel_rfl) (by kernel_rfl) hv h
 have ww : ∀ (j : Nat) (t : TypeId) (y : DataW H), ([22, 23, 24, 23] : List TypeId)[j]? = some t → [y0.1, y1.1, y2.1, y3.1][j]? = some y → ∀ m ∈ y.weights Tryd.prog t, m ≤ reachBytes := fun j t y ht hy m hm => hw m (by
  unfold DataW.weights
  rw [Tryd.underlying26]
  exact DataW.weights_mem_each (ts := [22, 23, 24, 23]) ht hy m hm)
 have sl : ∀ (t e : TypeId) (v : Value) (y : DataW H × List MemPlace), Tryd.prog.underlying t = some (.slice e) → DataW.trod enc Tryd.prog w base spare held n t [v] = some y → ∃ A len cap, v = .slice A len cap := fun t e v y ht hy => by
  rcases DataW.trod_slice ht hy with ⟨g, _⟩ | ⟨a, len, cap, _, _, _, _, g, _⟩
  ·simp at g; exact ⟨_, _, _, g⟩
  ·simp at g; exact ⟨_, _, _, g⟩
 obtain ⟨A0, n0, c0, rfl⟩ := sl 22 33 v0 y0 Tryd.underlying22 h0
 obtain ⟨A1, n1, c1, rfl⟩ := sl 23 3 v1 y1 Tryd.underlying23 h1
 obtain ⟨A2, n2, c2, rfl⟩ := sl 24 9 v2 y2 Tryd.underlying24 h2
 obtain ⟨A3, n3, c3, rfl⟩ := sl 23 3 v3 y3 Tryd.underlying23 h3
 have T : ∀ (t : TypeId) (v : Value) (y : DataW H × List MemPlace), v.cells = #[v] → DataW.trod enc Tryd.prog w base spare held n t [v] = some y → DataW.Trod enc Tryd.prog w base spare held t v y.1 y.2 := fun t v y hc hy => ⟨n, by rw [hc]; exact hy⟩
 obtain ⟨l0, rfl, p0, q0, r0, s0⟩ := u64s Tryd.underlying22 (T 22 _ y0 rfl h0) (ww 0 22 _ rfl rfl)
 obtain ⟨l1, rfl, p1, q1, r1, s1⟩ := i64s Tryd.underlying23 (T 23 _ y1 rfl h1) (ww 1 23 _ rfl rfl)
 obtain ⟨l2, rfl, p2, q2, s2⟩ := strs Tryd.underlying24 (T 24 _ y2 rfl h2) (ww 2 24 _ rfl rfl)
 obtain ⟨l3, rfl, p3, q3, r3, s3⟩ := i64s Tryd.underlying23 (T 23 _ y3 rfl h3) (ww 3 23 _ rfl rfl)
 exact ⟨A0, c0, l0, A1, c1, l1, A2, c2, l2, A3, c3, l3, rfl, ⟨p0, q0, r0, s0⟩, ⟨p1, q1, r1, s1⟩, ⟨p2, q2, s2⟩, ⟨p3, q3, s3⟩⟩
end Go.Proofs.YtnlimplbmncdeaaDoor.Open
