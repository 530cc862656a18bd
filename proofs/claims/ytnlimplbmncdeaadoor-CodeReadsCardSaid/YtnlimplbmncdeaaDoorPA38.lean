/- The laws CodeRights, CodeWords, CodeReads, CodeTurned of the program hold, as their cards say: texts put together by a program, 39 of 44. -/
import Derived.Test.YtnlimplbmncdeaaDoorPA13
import Derived.Test.YtnlimplbmncdeaaDoorPA21
import Derived.Test.YtnlimplbmncdeaaDoorPA22
import Derived.Test.YtnlimplbmncdeaaDoorPA26
import Derived.Test.YtnlimplbmncdeaaDoorPA27
import Derived.Test.YtnlimplbmncdeaaDoorPA30
import Derived.Test.YtnlimplbmncdeaaDoorPA33
import Derived.Test.YtnlimplbmncdeaaDoorPA36
import Derived.Test.YtnlimplbmncdeaaDoorPA37
import Derived.Outline
import Derived.Test.YtnlimplbmncdeaaDoorRows
import Derived.ProofKit
import Derived.LaidMore
import Derived.OpenShut
import Derived.Stop.Joined
namespace Go.Proofs.YtnlimplbmncdeaaDoor.Code
open Go.RowKit Go.Proofs.YtnlimplbmncdeaaDoorW.PrintWords Go.Proofs.YtnlimplbmncdeaaDoorW.PrintMore Go.Proofs.YtnlimplbmncdeaaDoor.C Go.Proofs.YtnlimplbmncdeaaDoor.PackBits Go.Proofs.YtnlimplbmncdeaaDoor.Sevens Go.Proofs.YtnlimplbmncdeaaDoor.Pack Go.Proofs.YtnlimplbmncdeaaDoor.Lex Go.Proofs.YtnlimplbmncdeaaDoor.Str
theorem w2 {i : Nat} (h : i < 9223372036854775800) : wrap64 ((i : Int) + 1) = ((i + 1 : Nat) : Int) := by rw [Lex.w64_id (by omega) (by omega)]; omega
section
variable (a : List Int) (b : List Int) (c : List ByteArray) (d : List Int)
theorem same3 (hd : d.length < 9223372036854775800) : ∀ (e i k : Nat), i + e = d.length → e < k → isthmusref18_Same.l3 k (i : Int) a b c d a b c d = some true := by
 intro e
 induction e with
 | zero =>
  intro i k hi hk
  obtain ⟨k, rfl⟩ : ∃ m, k = m + 1 := ⟨k - 1, by omega⟩
  rw [isthmusref18_Same.l3, if_neg (by omega)]
 | succ e ih =>
  intro i k hi hk
  obtain ⟨k, rfl⟩ : ∃ m, k = m + 1 := ⟨k - 1, by omega⟩
  rw [isthmusref18_Same.l3, if_pos (by omega), if_pos (Int.natCast_nonneg i), if_pos (by omega), if_pos rfl, w2 (by omega), ih (i + 1) k (by omega) (by omega)]
theorem same2 (hc : c.length < 9223372036854775800) (hd : d.length < 9223372036854775800) : ∀ (e i k : Nat), i + e = c.length → e + d.length + 1 < k → isthmusref18_Same.l2 k (i : Int) a b c d a b c d = some true := by
 intro e
 induction e with
 | zero =>
  intro i k hi hk
  obtain ⟨k, rfl⟩ : ∃ m, k = m + 1 := ⟨k - 1, by omega⟩
  rw [isthmusref18_Same.l2, if_neg (by omega), show (0 : Int) = ((0 : Nat) : Int) from rfl, same3 a b c d hd d.length 0 k (by omega) (by omega)]
 | succ e ih =>
  intro i k hi hk
  obtain ⟨k, rfl⟩ : ∃ m, k = m + 1 := ⟨k - 1, by omega⟩
  rw [isthmusref18_Same.l2, if_pos (by omega), if_pos (Int.natCast_nonneg i), if_pos (by omega), if_pos rfl, w2 (by omega), ih (i + 1) k (by omega) (by omega)]
theorem same1 (hb : b.length < 9223372036854775800) (hc : c.length < 9223372036854775800) (hd : d.length < 9223372036854775800) : ∀ (e i k : Nat), i + e = b.length → e + c.length + d.length + 2 < k → isthmusref18_Same.l1 k (i : Int) a b c d a b c d = some true := by
 intro e
 induction e with
 | zero =>
  intro i k hi hk
  obtain ⟨k, rfl⟩ : ∃ m, k = m + 1 := ⟨k - 1, by omega⟩
  rw [isthmusref18_Same.l1, if_neg (by omega), show (0 : Int) = ((0 : Nat) : Int) from rfl, same2 a b c d hc hd c.length 0 k (by omega) (by omega)]
 | succ e ih =>
  intro i k hi hk
  obtain ⟨k, rfl⟩ : ∃ m, k = m + 1 := ⟨k - 1, by omega⟩
  rw [isthmusref18_Same.l1, if_pos (by omega), if_pos (Int.natCast_nonneg i), if_pos (by omega), if_pos rfl, w2 (by omega), ih (i + 1) k (by omega) (by omega)]
theorem same0 (ha : a.length < 9223372036854775800) (hb : b.length < 9223372036854775800) (hc : c.length < 9223372036854775800) (hd : d.length < 9223372036854775800) : ∀ (e i k : Nat), i + e = a.length → e + b.length + c.length + d.length + 3 < k → isthmusref18_Same.l0 k (i : Int) a b c d a b c d = some true := by
 intro e
 induction e with
 | zero =>
  intro i k hi hk
  obtain ⟨k, rfl⟩ : ∃ m, k = m + 1 := ⟨k - 1, by omega⟩
  rw [isthmusref18_Same.l0, if_neg (by omega), show (0 : Int) = ((0 : Nat) : Int) from rfl, same1 a b c d hb hc hd b.length 0 k (by omega) (by omega)]
 | succ e ih =>
  intro i k hi hk
  obtain ⟨k, rfl⟩ : ∃ m, k = m + 1 := ⟨k - 1, by omega⟩
  rw [isthmusref18_Same.l0, if_pos (by omega), if_pos (Int.natCast_nonneg i), if_pos (by omega), if_pos rfl, w2 (by omega), ih (i + 1) k (by omega) (by omega)]
theorem same_f (ha : a.length < 9223372036854775800) (hb : b.length < 9223372036854775800) (hc : c.length < 9223372036854775800) (hd : d.length < 9223372036854775800) {k : Nat} (hk : a.length + b.length + c.length + d.length + 5 < k) : isthmusref18_Same.f k a b c d a b c d = some true := by
 obtain ⟨k, rfl⟩ : ∃ m, k = m + 1 := ⟨k - 1, by omega⟩
 unfold isthmusref18_Same.f
 rw [if_pos rfl, if_pos rfl, if_pos rfl, isthmusref18_Same.j0, if_neg (by simp), show (0 : Int) = ((0 : Nat) : Int) from rfl, same0 a b c d ha hb hc hd a.length 0 k (by omega) (by omega)]
end
theorem over3 : ∀ (e i k : Nat) (a b : List Int) (c : List ByteArray) (d : List Int), a.length < 1000000 → b.length < 1000000 → c.length < 1000000 → d.length < 1000000 → i + e = d.length → e < k → isthmuslaw18_Over.l3 k (i : Int) a b c d = some () := by
 intro e
 induction e with
 | zero =>
  intro i k a b c d ha hb hc hd hi hk
  obtain ⟨k, rfl⟩ : ∃ m, k = m + 1 := ⟨k - 1, by omega⟩
  rw [isthmuslaw18_Over.l3, if_neg (by omega), if_pos (by omega), bs, if_pos (by omega), bs, if_pos (by omega), bs, if_pos (by omega), bs]
  have z : ∀ m : Nat, m < 1000000 → wrap64 (((m + 1 : Nat) : Int) - 1) = (m : Int) := fun m h => by rw [Lex.w64_id (by omega) (by omega)]; omega
  simp only [List.length_append, List.length_singleton]
  rw [z _ ha, z _ hb, z _ hc, z _ hd, if_pos (by omega), if_pos (by omega), if_pos (by omega), if_pos (by omega), if_pos (by omega), if_pos (by omega), if_pos (by omega), if_pos (by omega)]
 | succ e ih =>
  intro i k a b c d ha hb hc hd hi hk
  obtain ⟨k, rfl⟩ : ∃ m, k = m + 1 := ⟨k - 1, by omega⟩
  rw [isthmuslaw18_Over.l3, if_pos (by omega), if_pos (Int.natCast_nonneg i), w2 (by omega), ih (i + 1) k a b c _ ha hb hc (by simpa using hd) (by simp; omega) (by omega)]
theorem over2 : ∀ (e i k : Nat) (a b : List Int) (c : List ByteArray) (d : List Int), a.length < 1000000 → b.length < 1000000 → c.length < 1000000 → d.length < 1000000 → i + e = c.length → e + 1000000 < k → isthmuslaw18_Over.l2 k (i : Int) a b c d = some () := by
 intro e
 induction e with
 | zero =>
  intro i k a b c d ha hb hc hd hi hk
  obtain ⟨k, rfl⟩ : ∃ m, k = m + 1 := ⟨k - 1, by omega⟩
  rw [isthmuslaw18_Over.l2, if_neg (by omega), show (0 : Int) = ((0 : Nat) : Int) from rfl, over3 d.length 0 k a b c d ha hb hc hd (by omega) (by omega)]
 | succ e ih =>
  intro i k a b c d ha hb hc hd hi hk
  obtain ⟨k, rfl⟩ : ∃ m, k = m + 1 := ⟨k - 1, by omega⟩
  rw [isthmuslaw18_Over.l2, if_pos (by omega), if_pos (Int.natCast_nonneg i), w2 (by omega), ih (i + 1) k a b _ d ha hb (by simpa using hc) hd (by simp; omega) (by omega)]
theorem over1 : ∀ (e i k : Nat) (a b : List Int) (c : List ByteArray) (d : List Int), a.length < 1000000 → b.length < 1000000 → c.length < 1000000 → d.length < 1000000 → i + e = b.length → e + 2000010 < k → isthmuslaw18_Over.l1 k (i : Int) a b c d = some () := by
 intro e
 induction e with
 | zero =>
  intro i k a b c d ha hb hc hd hi hk
  obtain ⟨k, rfl⟩ : ∃ m, k = m + 1 := ⟨k - 1, by omega⟩
  rw [isthmuslaw18_Over.l1, if_neg (by omega), show (0 : Int) = ((0 : Nat) : Int) from rfl, over2 c.length 0 k a b c d ha hb hc hd (by omega) (by omega)]
 | succ e ih =>
  intro i k a b c d ha hb hc hd hi hk
  obtain ⟨k, rfl⟩ : ∃ m, k = m + 1 := ⟨k - 1, by omega⟩
  rw [isthmuslaw18_Over.l1, if_pos (by omega), if_pos (Int.natCast_nonneg i), w2 (by omega), ih (i + 1) k a _ c d ha (by simpa using hb) hc hd (by simp; omega) (by omega)]
theorem over0 : ∀ (e i k : Nat) (a b : List Int) (c : List ByteArray) (d : List Int), a.length < 1000000 → b.length < 1000000 → c.length < 1000000 → d.length < 1000000 → i + e = a.length → e + 3000020 < k → isthmuslaw18_Over.l0 k (i : Int) a b c d = some () := by
 intro e
 induction e with
 | zero =>
  intro i k a b c d ha hb hc hd hi hk
  obtain ⟨k, rfl⟩ : ∃ m, k = m + 1 := ⟨k - 1, by omega⟩
  rw [isthmuslaw18_Over.l0, if_neg (by omega), show (0 : Int) = ((0 : Nat) : Int) from rfl, over1 b.length 0 k a b c d ha hb hc hd (by omega) (by omega)]
 | succ e ih =>
  intro i k a b c d ha hb hc hd hi hk
  obtain ⟨k, rfl⟩ : ∃ m, k = m + 1 := ⟨k - 1, by omega⟩
  rw [isthmuslaw18_Over.l0, if_pos (by omega), if_pos (Int.natCast_nonneg i), w2 (by omega), ih (i + 1) k _ b c d (by simpa using ha) hb hc hd (by simp; omega) (by omega)]
theorem over_f {a b : List Int} {c : List ByteArray} {d : List Int} (ha : a.length < 1000000) (hb : b.length < 1000000) (hc : c.length < 1000000) (hd : d.length < 1000000) {k : Nat} (hk : 4000100 < k) : isthmuslaw18_Over.f k a b c d = some () := by
 unfold isthmuslaw18_Over.f
 rw [show (0 : Int) = ((0 : Nat) : Int) from rfl, over0 a.length 0 k a b c d ha hb hc hd (by omega) (by omega)]
def pk (a n : Int) : Int := if a < 0 then (-(a + 1)) % n else a % n
theorem pick_f {a n : Int} (h0 : -9223372036854775808 ≤ a) (h1 : a ≤ 9223372036854775807) (hn : 0 < n) : isthmuslaw18_pick.f a n = some (pk a n) := by
 unfold isthmuslaw18_pick.f pk
 by_cases h : a < 0
 ·rw [if_pos h, if_pos h, if_neg (by omega), Lex.w64_id (n := a + 1) (by omega) (by omega), Lex.w64_id (by omega) (by omega), Int.tmod_eq_emod_of_nonneg (by omega)]
 ·rw [if_neg h, if_neg h, if_neg (by omega), Int.tmod_eq_emod_of_nonneg (by omega)]
theorem pk_range (a : Int) {n : Int} (hn : 0 < n) : 0 ≤ pk a n ∧ pk a n < n := by
 unfold pk
 split
 ·exact ⟨Int.emod_nonneg _ (by omega), Int.emod_lt_of_pos _ hn⟩
 ·exact ⟨Int.emod_nonneg _ (by omega), Int.emod_lt_of_pos _ hn⟩
def RW (x : SRaw) : Prop := (-9223372036854775808 ≤ x.f0 ∧ x.f0 ≤ 9223372036854775807) ∧ (-9223372036854775808 ≤ x.f1 ∧ x.f1 ≤ 9223372036854775807) ∧ (-9223372036854775808 ≤ x.f2 ∧ x.f2 ≤ 9223372036854775807)
def wdV (x : SRaw) : Int := laid (pk x.f0 28) (pk x.f1 12) (pk x.f2 12)
theorem wd_f {x : SRaw} (h : RW x) : isthmuslaw18_Code.wd true x = some (wdV x) ∧ 0 ≤ wdV x ∧ wdV x ≤ 18446744073709551615 := by
 obtain ⟨h0, h1, h2⟩ := h
 have a := pk_range x.f0 (n := 28) (by omega)
 have b := pk_range x.f1 (n := 12) (by omega)
 have c := pk_range x.f2 (n := 12) (by omega)
 unfold isthmuslaw18_Code.wd wdV
 rw [pick_f h0.1 h0.2 (by omega), bs, pick_f h1.1 h1.2 (by omega), bs, pick_f h2.1 h2.2 (by omega), bs, if_pos rfl, pick_f h0.1 h0.2 (by omega), bs, pick_f h1.1 h1.2 (by omega), bs, pick_f h2.1 h2.2 (by omega), bs, Pack.ref_word, if_pos ⟨by omega, by omega, by omega, by omega, by omega, by omega⟩, bs]
 unfold laid
 exact ⟨rfl, by omega, by omega⟩
theorem ws_f : ∀ (l : List SRaw) (acc : List Int), (∀ x ∈ l, RW x) → (acc.length + l.length) * 8 ≤ 140737488355328 → isthmuslaw18_Code.ws true l acc = some (acc ++ l.map wdV)
 | [], acc, _, _ => by rw [isthmuslaw18_Code.ws]; simp
 | x :: t, acc, h, hl => by
  rw [List.length_cons] at hl
  rw [isthmuslaw18_Code.ws, (wd_f (h x (List.mem_cons_self ..))).1, bs, if_pos (by omega), ws_f t _ (fun y hy => h y (List.mem_cons_of_mem _ hy)) (by rw [List.length_append, List.length_singleton]; omega), List.map_cons, List.append_assoc]
  rfl
theorem code_f {l : List SRaw} (h : ∀ x ∈ l, RW x) (hl : l.length * 8 ≤ 140737488355328) : isthmuslaw18_Code.f l true = some (l.map wdV) := by
 unfold isthmuslaw18_Code.f
 rw [ws_f l [] h (by simpa using hl), List.nil_append]
theorem code_u {l : List SRaw} (h : ∀ x ∈ l, RW x) : U64 (l.map wdV) := fun y hy => by
 obtain ⟨x, hx, rfl⟩ := List.mem_map.1 hy
 exact (wd_f (h x hx)).2
def awW : List Int := [72057594037927937, 0]
def awB : List Int := [73, 67, 49, 2, 129, 128, 128, 128, 128, 128, 128, 128, 1, 0, 1, 14, 0, 0]
theorem aw_laid : laidS awW [7] [] [] = awB := by
 have e1 : sev 72057594037927937 = [129, 128, 128, 128, 128, 128, 128, 128, 1] := by
  repeat (first | rw [sev_big (by decide)] | rw [sev_small (by decide)])
  rfl
 have s2 : sv 2 = [2] := sev_small (by decide)
 have s1 : sv 1 = [1] := sev_small (by decide)
 have s0 : sv 0 = [0] := sev_small (by decide)
 have s14 : sv 14 = [14] := sev_small (by decide)
 have sb : sv 72057594037927937 = [129, 128, 128, 128, 128, 128, 128, 128, 1] := e1
 unfold laidS laidT awW awB
 simp [sb, s0, s1, s2, s14, zig]
theorem aw_sum : sumS awB ≠ 0 := by decide +kernel
theorem aw_right : rightS awW [7] [] [] = true := by decide +kernel
theorem awake_f {k : Nat} (hk : 5000000 ≤ k) : isthmuslaw18_awake.f k = some true := by
 have hw : U64 awW := by intro x hx; simp [awW] at hx; omega
 have hc : I64 [7] := by intro x hx; simp at hx; omega
 have hcode : isthmuslaw18_Code.f isthmuslaw18_awake.raws true = some awW := by decide +kernel
 have hB := encS_bytes awW [7] [] []
 have hlen : (encS awW [7] [] []).length = 26 := by
  unfold encS
  rw [aw_laid, List.length_append, le_len]
  rfl
 unfold isthmuslaw18_awake.f
 rw [hcode, bs, encode_f [] [] hw hc (by omega), bs]
 unfold encV
 rw [if_pos aw_right]
 show (code_Decode.f k (strOfNums (encS awW [7] [] []))).bind _ = _
 rw [dec_enc hw hc aw_right (by omega), bs]
 show (isthmusref18_Same.f k awW [7] [] [] awW [7] [] []).bind _ = _
 rw [same_f _ _ _ _ (by decide) (by decide) (by decide) (by decide) (by show 2 + 1 + 0 + 0 + 5 < k; omega), bs, right_f _ _ _ _ hw (by omega), bs, aw_right, sumc_f _ _ hw hc (by omega), bs]
 unfold sumV
 rw [if_pos aw_right, aw_laid]
 refine if_pos ⟨rfl, rfl, rfl, rfl, ?_, ?_, aw_sum⟩
 ·show (4 : Int) < ((strOfNums (encS awW [7] [] [])).size : Int)
  rw [strOfNums_size, hlen]
  decide
 ·show ((strOfNums (encS awW [7] [] [])).extract 0 4).toList = [73, 67, 49, 2]
  have : (strOfNums (encS awW [7] [] [])).extract 0 4 = strOfNums [73, 67, 49, 2] := by
   apply ext_bytes
   rw [bytes_extract, bytes_nums hB, bytes_nums (by intro x hx; simp at hx; omega)]
   unfold encS
   rw [aw_laid]
   rfl
  rw [this, toList_data]
  rfl
end Go.Proofs.YtnlimplbmncdeaaDoor.Code
namespace Go.Proofs.YtnlimplbmncdeaaDoor.C
open Go.RowKit Go.Proofs.YtnlimplbmncdeaaDoorW.PrintWords Go.Proofs.YtnlimplbmncdeaaDoorW.PrintLast Go.Proofs.YtnlimplbmncdeaaDoorW.PrintMore
attribute [local go_sem] max2_int min2_int max_two min_two max_three min_three max_four min_four
set_option linter.unusedVariables false
set_option linter.unusedSimpArgs false
theorem cut2 {P : Program} (t e : TypeId) {i : TypeInfo} (ht : P.underlying t = some (.slice e)) (hi : P.info? e = some i) (A : Option Addr) (n c m : Nat) (h : m ≤ c) :
  ∀ W : World, (Instr.slice t (.slice A n c) none (some (.int .i64 (m : Int))) none).run P W = .ok (.slice A m c) W := by
 have hel : P.elem t = e := by simp [Program.elem, ht]
 have hu : P.underlying t = some (.slice (P.elem t)) := by rw [hel]; exact ht
 have ha : (A.map fun x => x.add 0) = A := by cases A <;> simp [Addr.add]
 intro W
 simp [Instr.slice, run_underlying hu, Instr.sliceBounds, run_sliceBound, sliced, hel, sizeOf, typeInfo, hi, Result.andThen, ha, h]
theorem lent_row {α : Type} (enc : α → Value) (h1 : ∀ x, (enc x).oneCell' = true) {e base : Nat} {w : World} {v : Value} {l : List α} {x : α} (ho : w.ownsRow base e 1 v (l.length + 1) (encs enc l ++ [enc x])) :
  ∃ g c, v = .slice (some ⟨g, 0, none⟩) (l.length + 1) c ∧ base ≤ g ∧ l.length + 1 ≤ c ∧ (Kd.scalar enc h1).C w (some ⟨g, 0, none⟩) (l ++ [x]).length (l ++ [x]) := by
 obtain ⟨g, c, rfl, _, _⟩ := ho.form (by omega)
 have e1 : (l ++ [x]).length = l.length + 1 := by simp
 have e2 : encs enc (l ++ [x]) = encs enc l ++ [enc x] := by simp [encs]
 have ho' : w.ownsRow base e 1 (.slice (some ⟨g, 0, none⟩) (l.length + 1) c) (l ++ [x]).length (encs enc (l ++ [x])) := by rw [e1, e2]; exact ho
 obtain ⟨A, c', ev, hl, hC⟩ := Kd.R_reads (Kd.R_of_own (h1 := h1) (ok := fun _ => True) ho' (fun _ _ => trivial))
 injection ev with ea en ec
 subst ea ec
 exact ⟨g, c, rfl, own_base ho g rfl, by omega, hC⟩
theorem keep_set4 (W : World) (g : Nat) (v0 v1 v2 v3 : Value) : KeepBut W ((((W.setCell ⟨g, 0, none⟩ v0).setCell ⟨g, 1, none⟩ v1).setCell ⟨g, 2, none⟩ v2).setCell ⟨g, 3, none⟩ v3) g none :=
 ⟨by simp [World.setCell], fun k _ hk _ => ((Below.heap_setCell _ _ _ k hk).trans (Below.heap_setCell _ _ _ k hk)).trans ((Below.heap_setCell _ _ _ k hk).trans (Below.heap_setCell _ _ _ k hk))⟩
theorem C_init {α : Type} {d : Kd α} {w : World} {A : Option Addr} {l : List α} {x : α} (h : d.C w A (l ++ [x]).length (l ++ [x])) : d.C w A l.length l := by
 have := Kd.C_take (m := l.length) h (by simp)
 rwa [List.take_left' rfl] at this
theorem C_last {α : Type} {enc : α → Value} {h1 : ∀ x, (enc x).oneCell' = true} {w : World} {A : Option Addr} {l : List α} {x : α} (h : (Kd.scalar enc h1).C w A (l ++ [x]).length (l ++ [x])) : ∃ ad, A = some ad ∧ w.cell? (ad.add l.length) = some (enc x) := by
 obtain ⟨ad, e, hc⟩ := (Kd.reads_of_C (d := x) h).2.2 (by simp)
 refine ⟨ad, e, ?_⟩
 have := hc l.length (by simp)
 simpa [List.getD] using this
set_option maxHeartbeats 8000000 in
set_option maxRecDepth 100000 in
theorem isthmuslaw18_Lent.calls (A0_0 : Option Addr) (c0_0 : Nat) (l0_0 : List Int) (A0_1 : Option Addr) (c0_1 : Nat) (l0_1 : List Int) (A0_2 : Option Addr) (c0_2 : Nat) (l0_2 : List ByteArray) (A0_3 : Option Addr) (c0_3 : Nat) (l0_3 : List Int) (w : World) (hr0_0 : Kd.C (Kd.int .u64) w A0_0 l0_0.length l0_0) (hc0_0 : l0_0.length ≤ c0_0) (hr0_1 : Kd.C (Kd.int .i64) w A0_1 l0_1.length l0_1) (hc0_1 : l0_1.length ≤ c0_1) (hr0_2 : Kd.C Kd.string w A0_2 l0_2.length l0_2) (hc0_2 : l0_2.length ≤ c0_2) (hr0_3 : Kd.C (Kd.int .i64) w A0_3 l0_3.length l0_3) (hc0_3 : l0_3.length ≤ c0_3) (hz : l0_0.length * 8 ≤ 140737488351232 ∧ l0_1.length * 8 ≤ 140737488351232 ∧ l0_2.length * 16 ≤ 140737488351232 ∧ l0_3.length * 8 ≤ 140737488351232) :
  Calls Tryd.prog 12 #[.agg #[.slice A0_0 l0_0.length c0_0, .slice A0_1 l0_1.length c0_1, .slice A0_2 l0_2.length c0_2, .slice A0_3 l0_3.length c0_3]] w fun e w' => ∃ g0 d0 g1 d1 g2 d2 g3 d3, e = .returned (.agg #[.slice (some ⟨g0, 0, none⟩) l0_0.length d0, .slice (some ⟨g1, 0, none⟩) l0_1.length d1, .slice (some ⟨g2, 0, none⟩) l0_2.length d2, .slice (some ⟨g3, 0, none⟩) l0_3.length d3]) ∧ l0_0.length + 1 ≤ d0 ∧ Kd.C (Kd.int .u64) w' (some ⟨g0, 0, none⟩) (l0_0 ++ [7]).length (l0_0 ++ [7]) ∧ l0_1.length + 1 ≤ d1 ∧ Kd.C (Kd.int .i64) w' (some ⟨g1, 0, none⟩) (l0_1 ++ [(-7)]).length (l0_1 ++ [(-7)]) ∧ l0_2.length + 1 ≤ d2 ∧ Kd.C Kd.string w' (some ⟨g2, 0, none⟩) (l0_2 ++ [(⟨#[98, 101, 104, 105, 110, 100]⟩ : ByteArray)]).length (l0_2 ++ [(⟨#[98, 101, 104, 105, 110, 100]⟩ : ByteArray)]) ∧ l0_3.length + 1 ≤ d3 ∧ Kd.C (Kd.int .i64) w' (some ⟨g3, 0, none⟩) (l0_3 ++ [(-7)]).length (l0_3 ++ [(-7)]) ∧ Below w.heap.size w w' := by
 have HR0 := Aside0.mk hr0_0
 clear hr0_0
 have hz0 := Aside0.mk hz.1
 have HR1 := Aside0.mk hr0_1
 clear hr0_1
 have hz1 := Aside0.mk hz.2.1
 have HR2 := Aside0.mk hr0_2
 clear hr0_2
 have hz2 := Aside0.mk hz.2.2.1
 have HR3 := Aside0.mk hr0_3
 clear hr0_3
 have hz3 := Aside0.mk hz.2.2.2
 clear hz
 have hB0 : Aside0 (Below w.heap.size w ((w.alloc (.cells #[.slice A0_0 l0_0.length c0_0, .slice A0_1 l0_1.length c0_1, .slice A0_2 l0_2.length c0_2, .slice A0_3 l0_3.length c0_3] 26)).alloc (.cells #[.slice none 0 0, .slice none 0 0, .slice none 0 0, .slice none 0 0] 26))) := ⟨below_alloc (below_alloc (Below.refl _ _) _) _⟩
 have HBX : Aside0 (((w.alloc (.cells #[.slice A0_0 l0_0.length c0_0, .slice A0_1 l0_1.length c0_1, .slice A0_2 l0_2.length c0_2, .slice A0_3 l0_3.length c0_3] 26)).alloc (.cells #[.slice none 0 0, .slice none 0 0, .slice none 0 0, .slice none 0 0] 26)).heap[w.heap.size]? = some (.cells #[.slice A0_0 l0_0.length c0_0, .slice A0_1 l0_1.length c0_1, .slice A0_2 l0_2.length c0_2, .slice A0_3 l0_3.length c0_3] 26 (0, 0))) := ⟨blk_below (heap_alloc_new w _) (below_alloc (Below.refl _ _) _)⟩
 have HRES : Aside0 (((w.alloc (.cells #[.slice A0_0 l0_0.length c0_0, .slice A0_1 l0_1.length c0_1, .slice A0_2 l0_2.length c0_2, .slice A0_3 l0_3.length c0_3] 26)).alloc (.cells #[.slice none 0 0, .slice none 0 0, .slice none 0 0, .slice none 0 0] 26)).heap[w.heap.size + 1]? = some (.cells #[.slice none 0 0, .slice none 0 0, .slice none 0 0, .slice none 0 0] 26 (0, 0))) := ⟨by
  have := heap_alloc_new (w.alloc (.cells #[.slice A0_0 l0_0.length c0_0, .slice A0_1 l0_1.length c0_1, .slice A0_2 l0_2.length c0_2, .slice A0_3 l0_3.length c0_3] 26)) (.cells #[.slice none 0 0, .slice none 0 0, .slice none 0 0, .slice none 0 0] 26)
  rwa [show (w.alloc (.cells #[.slice A0_0 l0_0.length c0_0, .slice A0_1 l0_1.length c0_1, .slice A0_2 l0_2.length c0_2, .slice A0_3 l0_3.length c0_3] 26)).heap.size = w.heap.size + 1 by simp] at this⟩
 have y0 := blk_cell HBX.out 0
 go_enter Tryd.func12, Tryd.ntmps12
 go_wp2_with (first
  | ((with_reducible refine gate_dst (N := 10) rfl ?_); at_builtin; refine Kd.R_append_row (Value.int .u64) (0 : Int) (w0 := ((w.alloc (.cells #[.slice A0_0 l0_0.length c0_0, .slice A0_1 l0_1.length c0_1, .slice A0_2 l0_2.length c0_2, .slice A0_3 l0_3.length c0_3] 26)).alloc (.cells #[.slice none 0 0, .slice none 0 0, .slice none 0 0, .slice none 0 0] 26))) ((w.alloc (.cells #[.slice A0_0 l0_0.length c0_0, .slice A0_1 l0_1.length c0_1, .slice A0_2 l0_2.length c0_2, .slice A0_3 l0_3.length c0_3] 26)).alloc (.cells #[.slice none 0 0, .slice none 0 0, .slice none 0 0, .slice none 0 0] 26)).heap.size rfl (.tmp 7) (.tmp 9) 22 33 (.int .u64 0) 8 rfl Tryd.underlying22 info33 rfl (by decide) (.slice none 0 0) [] l0_0 A0_0 l0_0.length c0_0 (fun _ => True) rfl rfl (fun _ _ => trivial) (Kd.R_nil _ _ _ _ _) (Kd.C_below HR0.out hB0.out) (Below.refl _ _) (Nat.le_refl _) (by have := hz0.out; simp only [List.length_nil]; omega) ?_; intro va0 wa0 hR_ hb_ hg_ hat_; have hO0 := Aside0.mk (Kd.own_of_R hR_); have hb0 := Aside0.mk hb_; clear hR_ hb_ hg_ hat_)
  | ((with_reducible refine gate_dst (N := 12) rfl ?_); at_builtin; refine print_append_cells ((w.alloc (.cells #[.slice A0_0 l0_0.length c0_0, .slice A0_1 l0_1.length c0_1, .slice A0_2 l0_2.length c0_2, .slice A0_3 l0_3.length c0_3] 26)).alloc (.cells #[.slice none 0 0, .slice none 0 0, .slice none 0 0, .slice none 0 0] 26)).heap.size rfl (.tmp 10) (.tmp 11) 22 33 (.int .u64 0) 1 8 rfl Tryd.underlying22 info33 rfl (by omega) (by omega) va0 l0_0.length (nums .u64 l0_0) [Value.int .u64 7] rfl rfl rfl (by intro z_ hz_; obtain rfl := List.mem_singleton.mp hz_; rfl) (by exact hO0.out) hb0.out hb0.out.size (by have := hz0.out; omega) ?_; intro vb0 w1 ho_ hb_ hg_ hat_; obtain ⟨g0, d0, rfl, hbs_, hl_, hC_⟩ := lent_row (Value.int .u64) (fun _ => rfl) (x := 7) ho_; have hl0 := hl_; have hn0 : g0 ≠ w.heap.size + 1 := (by have := blk_lt HRES.out; omega); have hD0 := Aside0.mk hC_; have hB1 := Aside0.mk (below_then hB0.out hB0.out.size hb_); have HBX := Aside0.mk (blk_below HBX.out hb_); have HRES := Aside0.mk (blk_below HRES.out hb_); have y1 := blk_cell HBX.out 1; clear ho_ hb_ hg_ hat_ hl_ hC_)
  | ((with_reducible refine gate_dst (N := 16) rfl ?_); at_builtin; refine Kd.R_append_row (Value.int .i64) (0 : Int) (w0 := w1) w1.heap.size rfl (.tmp 13) (.tmp 15) 23 3 (.int .i64 0) 8 rfl Tryd.underlying23 info3 rfl (by decide) (.slice none 0 0) [] l0_1 A0_1 l0_1.length c0_1 (fun _ => True) rfl rfl (fun _ _ => trivial) (Kd.R_nil _ _ _ _ _) (Kd.C_below HR1.out hB1.out) (Below.refl _ _) (Nat.le_refl _) (by have := hz1.out; simp only [List.length_nil]; omega) ?_; intro va1 wa1 hR_ hb_ hg_ hat_; have hO1 := Aside0.mk (Kd.own_of_R hR_); have hb1 := Aside0.mk hb_; clear hR_ hb_ hg_ hat_)
  | ((with_reducible refine gate_dst (N := 18) rfl ?_); at_builtin; refine print_append_cells w1.heap.size rfl (.tmp 16) (.tmp 17) 23 3 (.int .i64 0) 1 8 rfl Tryd.underlying23 info3 rfl (by omega) (by omega) va1 l0_1.length (nums .i64 l0_1) [Value.int .i64 (-7)] rfl rfl rfl (by intro z_ hz_; obtain rfl := List.mem_singleton.mp hz_; rfl) (by exact hO1.out) hb1.out hb1.out.size (by have := hz1.out; omega) ?_; intro vb1 w2 ho_ hb_ hg_ hat_; obtain ⟨g1, d1, rfl, hbs_, hl_, hC_⟩ := lent_row (Value.int .i64) (fun _ => rfl) (x := (-7)) ho_; have hl1 := hl_; have hn1 : g1 ≠ w.heap.size + 1 := (by have := blk_lt HRES.out; omega); have hD1 := Aside0.mk hC_; have hB2 := Aside0.mk (below_then hB1.out hB1.out.size hb_); have hD0 := Aside0.mk (Kd.C_below hD0.out hb_); have HBX := Aside0.mk (blk_below HBX.out hb_); have HRES := Aside0.mk (blk_below HRES.out hb_); have y2 := blk_cell HBX.out 2; clear ho_ hb_ hg_ hat_ hl_ hC_)
  | ((with_reducible refine gate_dst (N := 22) rfl ?_); at_builtin; refine Kd.R_append_row (Value.string) ByteArray.empty (w0 := w2) w2.heap.size rfl (.tmp 19) (.tmp 21) 24 9 (.string ByteArray.empty) 16 rfl Tryd.underlying24 info9 rfl (by decide) (.slice none 0 0) [] l0_2 A0_2 l0_2.length c0_2 (fun _ => True) rfl rfl (fun _ _ => trivial) (Kd.R_nil _ _ _ _ _) (Kd.C_below HR2.out hB2.out) (Below.refl _ _) (Nat.le_refl _) (by have := hz2.out; simp only [List.length_nil]; omega) ?_; intro va2 wa2 hR_ hb_ hg_ hat_; have hO2 := Aside0.mk (Kd.own_of_R hR_); have hb2 := Aside0.mk hb_; clear hR_ hb_ hg_ hat_)
  | ((with_reducible refine gate_dst (N := 24) rfl ?_); at_builtin; refine print_append_cells w2.heap.size rfl (.tmp 22) (.tmp 23) 24 9 (.string ByteArray.empty) 1 16 rfl Tryd.underlying24 info9 rfl (by omega) (by omega) va2 l0_2.length (encs Value.string l0_2) [Value.string (⟨#[98, 101, 104, 105, 110, 100]⟩ : ByteArray)] rfl rfl rfl (by intro z_ hz_; obtain rfl := List.mem_singleton.mp hz_; rfl) (by exact hO2.out) hb2.out hb2.out.size (by have := hz2.out; omega) ?_; intro vb2 w3 ho_ hb_ hg_ hat_; obtain ⟨g2, d2, rfl, hbs_, hl_, hC_⟩ := lent_row (Value.string) (fun _ => rfl) (x := (⟨#[98, 101, 104, 105, 110, 100]⟩ : ByteArray)) ho_; have hl2 := hl_; have hn2 : g2 ≠ w.heap.size + 1 := (by have := blk_lt HRES.out; omega); have hD2 := Aside0.mk hC_; have hB3 := Aside0.mk (below_then hB2.out hB2.out.size hb_); have hD0 := Aside0.mk (Kd.C_below hD0.out hb_); have hD1 := Aside0.mk (Kd.C_below hD1.out hb_); have HBX := Aside0.mk (blk_below HBX.out hb_); have HRES := Aside0.mk (blk_below HRES.out hb_); have y3 := blk_cell HBX.out 3; clear ho_ hb_ hg_ hat_ hl_ hC_)
  | ((with_reducible refine gate_dst (N := 28) rfl ?_); at_builtin; refine Kd.R_append_row (Value.int .i64) (0 : Int) (w0 := w3) w3.heap.size rfl (.tmp 25) (.tmp 27) 23 3 (.int .i64 0) 8 rfl Tryd.underlying23 info3 rfl (by decide) (.slice none 0 0) [] l0_3 A0_3 l0_3.length c0_3 (fun _ => True) rfl rfl (fun _ _ => trivial) (Kd.R_nil _ _ _ _ _) (Kd.C_below HR3.out hB3.out) (Below.refl _ _) (Nat.le_refl _) (by have := hz3.out; simp only [List.length_nil]; omega) ?_; intro va3 wa3 hR_ hb_ hg_ hat_; have hO3 := Aside0.mk (Kd.own_of_R hR_); have hb3 := Aside0.mk hb_; clear hR_ hb_ hg_ hat_)
  | ((with_reducible refine gate_dst (N := 30) rfl ?_); at_builtin; refine print_append_cells w3.heap.size rfl (.tmp 28) (.tmp 29) 23 3 (.int .i64 0) 1 8 rfl Tryd.underlying23 info3 rfl (by omega) (by omega) va3 l0_3.length (nums .i64 l0_3) [Value.int .i64 (-7)] rfl rfl rfl (by intro z_ hz_; obtain rfl := List.mem_singleton.mp hz_; rfl) (by exact hO3.out) hb3.out hb3.out.size (by have := hz3.out; omega) ?_; intro vb3 w4 ho_ hb_ hg_ hat_; obtain ⟨g3, d3, rfl, hbs_, hl_, hC_⟩ := lent_row (Value.int .i64) (fun _ => rfl) (x := (-7)) ho_; have hl3 := hl_; have hn3 : g3 ≠ w.heap.size + 1 := (by have := blk_lt HRES.out; omega); have hD3 := Aside0.mk hC_; have hB4 := Aside0.mk (below_then hB3.out hB3.out.size hb_); have hD0 := Aside0.mk (Kd.C_below hD0.out hb_); have hD1 := Aside0.mk (Kd.C_below hD1.out hb_); have hD2 := Aside0.mk (Kd.C_below hD2.out hb_); have HBX := Aside0.mk (blk_below HBX.out hb_); have HRES := Aside0.mk (blk_below HRES.out hb_); have y0 := blk_cell HBX.out 0; clear ho_ hb_ hg_ hat_ hl_ hC_))
 have hk0 := cut2 22 33 Tryd.underlying22 (info_parts info33).choose_spec.1 (some ⟨g0, 0, none⟩) (l0_0.length + 1) d0 l0_0.length (by omega)
 have hk1 := cut2 23 3 Tryd.underlying23 (info_parts info3).choose_spec.1 (some ⟨g1, 0, none⟩) (l0_1.length + 1) d1 l0_1.length (by omega)
 have hk2 := cut2 24 9 Tryd.underlying24 (info_parts info9).choose_spec.1 (some ⟨g2, 0, none⟩) (l0_2.length + 1) d2 l0_2.length (by omega)
 have hk3 := cut2 23 3 Tryd.underlying23 (info_parts info3).choose_spec.1 (some ⟨g3, 0, none⟩) (l0_3.length + 1) d3 l0_3.length (by omega)
 refine start_ (n := 22) (S := fun w' => w'.cell? ⟨w.heap.size, 0, none⟩ = some (.slice A0_0 l0_0.length c0_0) ∧ w'.cell? ⟨w.heap.size, 1, none⟩ = some (.slice A0_1 l0_1.length c0_1) ∧ w'.cell? ⟨w.heap.size, 2, none⟩ = some (.slice A0_2 l0_2.length c0_2) ∧ w'.cell? ⟨w.heap.size, 3, none⟩ = some (.slice A0_3 l0_3.length c0_3)) (ds := [21]) #[false, false, false, false, false, false, false, false, false, false, false, false, false, false, false, false, false, false, false, false, false, false] (by kernel_rfl) rfl rfl ⟨(blk_cell HBX.out 0), (blk_cell HBX.out 1), (blk_cell HBX.out 2), (blk_cell HBX.out 3)⟩ (fun hHeld => ?_)
 have hB5 := hB4.out.drew
 have hD0_ := Kd.C_drew hD0.out
 have hD1_ := Kd.C_drew hD1.out
 have hD2_ := Kd.C_drew hD2.out
 have hD3_ := Kd.C_drew hD3.out
 have hRS : w4.drew.heap[w.heap.size + 1]? = _ := HRES.out
 generalize w4.drew = w5 at hHeld hB5 hD0_ hD1_ hD2_ hD3_ hRS ⊢
 have r0 : w5.cell? ⟨w.heap.size + 1, 0, none⟩ = some (.slice none 0 0) := blk_cell hRS 0
 have f0 := blk_frozen hRS 0
 have r1 : w5.cell? ⟨w.heap.size + 1, 1, none⟩ = some (.slice none 0 0) := blk_cell hRS 1
 have f1 := blk_frozen hRS 1
 have r2 : w5.cell? ⟨w.heap.size + 1, 2, none⟩ = some (.slice none 0 0) := blk_cell hRS 2
 have f2 := blk_frozen hRS 2
 have r3 : w5.cell? ⟨w.heap.size + 1, 3, none⟩ = some (.slice none 0 0) := blk_cell hRS 3
 have f3 := blk_frozen hRS 3
 refine pure_ (i := 0) (N := some 31) (v := ?_) (a' := ?_) #[true, false, false, false, false, false, false, false, false, false, false, false, false, false, false, false, false, false, false, false, false, false] rfl rfl (by kernel_rfl) (fun _ _ _ h => h) (Or.inl ⟨by rfl, ?_⟩) ?_ ?_
 rotate_left
 ·intro w'
  go_simp
  with_reducible rfl
 rotate_left
 ·simp only [Act.put, List.setIfInBounds_toArray, List.set_cons_zero, List.set_cons_succ, i64_w, i32_w]
  rfl
 refine pure_ (i := 1) (N := some 32) (v := ?_) (a' := ?_) #[true, true, false, false, false, false, false, false, false, false, false, false, false, false, false, false, false, false, false, false, false, false] rfl rfl (by kernel_rfl) (fun _ _ _ h => h) (Or.inl ⟨by rfl, ?_⟩) ?_ ?_
 rotate_left
 ·intro w'
  go_simp
  with_reducible rfl
 rotate_left
 ·simp only [Act.put, List.setIfInBounds_toArray, List.set_cons_zero, List.set_cons_succ, i64_w, i32_w]
  rfl
 refine pure_ (i := 5) (N := some 36) (v := ?_) (a' := ?_) #[true, true, false, false, false, true, false, false, false, false, false, false, false, false, false, false, false, false, false, false, false, false] rfl rfl (by kernel_rfl) (fun _ _ _ h => h) (Or.inl ⟨by rfl, ?_⟩) ?_ ?_
 rotate_left
 ·intro w'
  go_simp
  with_reducible rfl
 rotate_left
 ·simp only [Act.put, List.setIfInBounds_toArray, List.set_cons_zero, List.set_cons_succ, i64_w, i32_w]
  rfl
 refine pure_ (i := 6) (N := some 37) (v := ?_) (a' := ?_) #[true, true, false, false, false, true, true, false, false, false, false, false, false, false, false, false, false, false, false, false, false, false] rfl rfl (by kernel_rfl) (fun _ _ _ h => h) (Or.inl ⟨by rfl, ?_⟩) ?_ ?_
 rotate_left
 ·intro w'
  go_simp
  with_reducible rfl
 rotate_left
 ·simp only [Act.put, List.setIfInBounds_toArray, List.set_cons_zero, List.set_cons_succ, i64_w, i32_w]
  rfl
 refine pure_ (i := 10) (N := some 41) (v := ?_) (a' := ?_) #[true, true, false, false, false, true, true, false, false, false, true, false, false, false, false, false, false, false, false, false, false, false] rfl rfl (by kernel_rfl) (fun _ _ _ h => h) (Or.inl ⟨by rfl, ?_⟩) ?_ ?_
 rotate_left
 ·intro w'
  go_simp
  with_reducible rfl
 rotate_left
 ·simp only [Act.put, List.setIfInBounds_toArray, List.set_cons_zero, List.set_cons_succ, i64_w, i32_w]
  rfl
 refine pure_ (i := 11) (N := some 42) (v := ?_) (a' := ?_) #[true, true, false, false, false, true, true, false, false, false, true, true, false, false, false, false, false, false, false, false, false, false] rfl rfl (by kernel_rfl) (fun _ _ _ h => h) (Or.inl ⟨by rfl, ?_⟩) ?_ ?_
 rotate_left
 ·intro w'
  go_simp
  with_reducible rfl
 rotate_left
 ·simp only [Act.put, List.setIfInBounds_toArray, List.set_cons_zero, List.set_cons_succ, i64_w, i32_w]
  rfl
 refine pure_ (i := 15) (N := some 46) (v := ?_) (a' := ?_) #[true, true, false, false, false, true, true, false, false, false, true, true, false, false, false, true, false, false, false, false, false, false] rfl rfl (by kernel_rfl) (fun _ _ _ h => h) (Or.inl ⟨by rfl, ?_⟩) ?_ ?_
 rotate_left
 ·intro w'
  go_simp
  with_reducible rfl
 rotate_left
 ·simp only [Act.put, List.setIfInBounds_toArray, List.set_cons_zero, List.set_cons_succ, i64_w, i32_w]
  rfl
 refine pure_ (i := 16) (N := some 47) (v := ?_) (a' := ?_) #[true, true, false, false, false, true, true, false, false, false, true, true, false, false, false, true, true, false, false, false, false, false] rfl rfl (by kernel_rfl) (fun _ _ _ h => h) (Or.inl ⟨by rfl, ?_⟩) ?_ ?_
 rotate_left
 ·intro w'
  go_simp
  with_reducible rfl
 rotate_left
 ·simp only [Act.put, List.setIfInBounds_toArray, List.set_cons_zero, List.set_cons_succ, i64_w, i32_w]
  rfl
 refine take_ (i := 2) (N := some 33) (v := ?_) (a' := ?_) #[true, true, true, false, false, true, true, false, false, false, true, true, false, false, false, true, true, false, false, false, false, false] rfl rfl (by kernel_rfl) (fun _ _ _ h => h) (Or.inl ⟨by rfl, ?_⟩) hHeld ?_ ?_
 rotate_left
 ·rintro w' ⟨s0, s1, s2, s3⟩
  go_simp
  with_reducible rfl
 rotate_left
 ·simp only [Act.put, List.setIfInBounds_toArray, List.set_cons_zero, List.set_cons_succ, i64_w, i32_w]
  rfl
 refine pure_ (i := 3) (N := some 34) (v := ?_) (a' := ?_) #[true, true, true, true, false, true, true, false, false, false, true, true, false, false, false, true, true, false, false, false, false, false] rfl rfl (by kernel_rfl) (fun _ _ _ h => h) (Or.inl ⟨by rfl, ?_⟩) ?_ ?_
 rotate_left
 ·intro w'
  go_simp
  with_reducible rfl
 rotate_left
 ·simp only [Act.put, List.setIfInBounds_toArray, List.set_cons_zero, List.set_cons_succ, i64_w, i32_w]
  rfl
 refine pure_ (i := 4) (N := some 35) (v := ?_) (a' := ?_) #[true, true, true, true, true, true, true, false, false, false, true, true, false, false, false, true, true, false, false, false, false, false] rfl rfl (by kernel_rfl) (fun _ _ _ h => h) (Or.inl ⟨by rfl, ?_⟩) ?_ ?_
 rotate_left
 ·intro w'
  go_simp
  with_reducible rfl
 rotate_left
 ·simp only [Act.put, List.setIfInBounds_toArray, List.set_cons_zero, List.set_cons_succ, i64_w, i32_w]
  rfl
 refine take_ (i := 7) (N := some 38) (v := ?_) (a' := ?_) #[true, true, true, true, true, true, true, true, false, false, true, true, false, false, false, true, true, false, false, false, false, false] rfl rfl (by kernel_rfl) (fun _ _ _ h => h) (Or.inl ⟨by rfl, ?_⟩) hHeld ?_ ?_
 rotate_left
 ·rintro w' ⟨s0, s1, s2, s3⟩
  go_simp
  with_reducible rfl
 rotate_left
 ·simp only [Act.put, List.setIfInBounds_toArray, List.set_cons_zero, List.set_cons_succ, i64_w, i32_w]
  rfl
 refine pure_ (i := 8) (N := some 39) (v := ?_) (a' := ?_) #[true, true, true, true, true, true, true, true, true, false, true, true, false, false, false, true, true, false, false, false, false, false] rfl rfl (by kernel_rfl) (fun _ _ _ h => h) (Or.inl ⟨by rfl, ?_⟩) ?_ ?_
 rotate_left
 ·intro w'
  go_simp
  with_reducible rfl
 rotate_left
 ·simp only [Act.put, List.setIfInBounds_toArray, List.set_cons_zero, List.set_cons_succ, i64_w, i32_w]
  rfl
 refine pure_ (i := 9) (N := some 40) (v := ?_) (a' := ?_) #[true, true, true, true, true, true, true, true, true, true, true, true, false, false, false, true, true, false, false, false, false, false] rfl rfl (by kernel_rfl) (fun _ _ _ h => h) (Or.inl ⟨by rfl, ?_⟩) ?_ ?_
 rotate_left
 ·intro w'
  go_simp
  with_reducible rfl
 rotate_left
 ·simp only [Act.put, List.setIfInBounds_toArray, List.set_cons_zero, List.set_cons_succ, i64_w, i32_w]
  rfl
 refine take_ (i := 12) (N := some 43) (v := ?_) (a' := ?_) #[true, true, true, true, true, true, true, true, true, true, true, true, true, false, false, true, true, false, false, false, false, false] rfl rfl (by kernel_rfl) (fun _ _ _ h => h) (Or.inl ⟨by rfl, ?_⟩) hHeld ?_ ?_
 rotate_left
 ·rintro w' ⟨s0, s1, s2, s3⟩
  go_simp
  with_reducible rfl
 rotate_left
 ·simp only [Act.put, List.setIfInBounds_toArray, List.set_cons_zero, List.set_cons_succ, i64_w, i32_w]
  rfl
 refine pure_ (i := 13) (N := some 44) (v := ?_) (a' := ?_) #[true, true, true, true, true, true, true, true, true, true, true, true, true, true, false, true, true, false, false, false, false, false] rfl rfl (by kernel_rfl) (fun _ _ _ h => h) (Or.inl ⟨by rfl, ?_⟩) ?_ ?_
 rotate_left
 ·intro w'
  go_simp
  with_reducible rfl
 rotate_left
 ·simp only [Act.put, List.setIfInBounds_toArray, List.set_cons_zero, List.set_cons_succ, i64_w, i32_w]
  rfl
 refine pure_ (i := 14) (N := some 45) (v := ?_) (a' := ?_) #[true, true, true, true, true, true, true, true, true, true, true, true, true, true, true, true, true, false, false, false, false, false] rfl rfl (by kernel_rfl) (fun _ _ _ h => h) (Or.inl ⟨by rfl, ?_⟩) ?_ ?_
 rotate_left
 ·intro w'
  go_simp
  with_reducible rfl
 rotate_left
 ·simp only [Act.put, List.setIfInBounds_toArray, List.set_cons_zero, List.set_cons_succ, i64_w, i32_w]
  rfl
 refine take_ (i := 17) (N := some 48) (v := ?_) (a' := ?_) #[true, true, true, true, true, true, true, true, true, true, true, true, true, true, true, true, true, true, false, false, false, false] rfl rfl (by kernel_rfl) (fun _ _ _ h => h) (Or.inl ⟨by rfl, ?_⟩) hHeld ?_ ?_
 rotate_left
 ·rintro w' ⟨s0, s1, s2, s3⟩
  go_simp
  with_reducible rfl
 rotate_left
 ·simp only [Act.put, List.setIfInBounds_toArray, List.set_cons_zero, List.set_cons_succ, i64_w, i32_w]
  rfl
 refine pure_ (i := 18) (N := some 49) (v := ?_) (a' := ?_) #[true, true, true, true, true, true, true, true, true, true, true, true, true, true, true, true, true, true, true, false, false, false] rfl rfl (by kernel_rfl) (fun _ _ _ h => h) (Or.inl ⟨by rfl, ?_⟩) ?_ ?_
 rotate_left
 ·intro w'
  go_simp
  with_reducible rfl
 rotate_left
 ·simp only [Act.put, List.setIfInBounds_toArray, List.set_cons_zero, List.set_cons_succ, i64_w, i32_w]
  rfl
 refine pure_ (i := 19) (N := some 50) (v := ?_) (a' := ?_) #[true, true, true, true, true, true, true, true, true, true, true, true, true, true, true, true, true, true, true, true, false, false] rfl rfl (by kernel_rfl) (fun _ _ _ h => h) (Or.inl ⟨by rfl, ?_⟩) ?_ ?_
 rotate_left
 ·intro w'
  go_simp
  with_reducible rfl
 rotate_left
 ·simp only [Act.put, List.setIfInBounds_toArray, List.set_cons_zero, List.set_cons_succ, i64_w, i32_w]
  rfl
 refine pure_ (i := 20) (N := some 51) (v := ?_) (a' := ?_) #[true, true, true, true, true, true, true, true, true, true, true, true, true, true, true, true, true, true, true, true, true, false] rfl rfl (by kernel_rfl) (fun _ _ _ h => h) (Or.inl ⟨by rfl, ?_⟩) ?_ ?_
 rotate_left
 ·intro w'
  go_simp
  with_reducible rfl
 rotate_left
 ·simp only [Act.put, List.setIfInBounds_toArray, List.set_cons_zero, List.set_cons_succ, i64_w, i32_w]
  rfl
 refine last_ (i := 21) (N := none) #[true, true, true, true, true, true, true, true, true, true, true, true, true, true, true, true, true, true, true, true, true, true] rfl rfl (by kernel_rfl) (by decide) (fun K hK => ?_)
 refine skip_ (w1 := ((((w5.setCell ⟨w.heap.size + 1, 0, none⟩ (.slice (some ⟨g0, 0, none⟩) l0_0.length d0)).setCell ⟨w.heap.size + 1, 1, none⟩ (.slice (some ⟨g1, 0, none⟩) l0_1.length d1)).setCell ⟨w.heap.size + 1, 2, none⟩ (.slice (some ⟨g2, 0, none⟩) l0_2.length d2)).setCell ⟨w.heap.size + 1, 3, none⟩ (.slice (some ⟨g3, 0, none⟩) l0_3.length d3))) (by rfl) rfl (by go_simp) ?_
 refine hK.out _ _ ?_
 clear hK K
 refine done_ (by kernel_rfl) ?_
 go_wp2_with fail
 have hK := keep_set4 w5 (w.heap.size + 1) (.slice (some ⟨g0, 0, none⟩) l0_0.length d0) (.slice (some ⟨g1, 0, none⟩) l0_1.length d1) (.slice (some ⟨g2, 0, none⟩) l0_2.length d2) (.slice (some ⟨g3, 0, none⟩) l0_3.length d3)
 refine bodyPost_ret (results_cell_row rfl _ _ (w.heap.size + 1) 26 #[.slice (some ⟨g0, 0, none⟩) l0_0.length d0, .slice (some ⟨g1, 0, none⟩) l0_1.length d1, .slice (some ⟨g2, 0, none⟩) l0_2.length d2, .slice (some ⟨g3, 0, none⟩) l0_3.length d3] (0, 0) _ rfl (blk_put (blk_put (blk_put (blk_put hRS 0 _ rfl) 1 _ rfl) 2 _ rfl) 3 _ rfl) Tryd.underlying26 rfl (by kernel_rfl)) rfl ?_
 exact ⟨g0, d0, g1, d1, g2, d2, g3, d3, rfl, hl0, Kd.C_keep (0 : Int) hD0_ hK (fun ad e _ => by injection e with e; subst e; exact hn0), hl1, Kd.C_keep (0 : Int) hD1_ hK (fun ad e _ => by injection e with e; subst e; exact hn1), hl2, Kd.C_keep ByteArray.empty hD2_ hK (fun ad e _ => by injection e with e; subst e; exact hn2), hl3, Kd.C_keep (0 : Int) hD3_ hK (fun ad e _ => by injection e with e; subst e; exact hn3), below_set (below_set (below_set (below_set hB5 (Nat.le_succ _)) (Nat.le_succ _)) (Nat.le_succ _)) (Nat.le_succ _)⟩
set_option maxHeartbeats 8000000 in
set_option maxRecDepth 100000 in
theorem isthmuslaw18_Kept.calls (k : Nat) (A0_0 : Option Addr) (c0_0 : Nat) (l0_0 : List Int) (A0_1 : Option Addr) (c0_1 : Nat) (l0_1 : List Int) (A0_2 : Option Addr) (c0_2 : Nat) (l0_2 : List ByteArray) (A0_3 : Option Addr) (c0_3 : Nat) (l0_3 : List Int) (A1_0 : Option Addr) (c1_0 : Nat) (l1_0 : List Int) (A1_1 : Option Addr) (c1_1 : Nat) (l1_1 : List Int) (A1_2 : Option Addr) (c1_2 : Nat) (l1_2 : List ByteArray) (A1_3 : Option Addr) (c1_3 : Nat) (l1_3 : List Int) (w : World) (hr0_0 : Kd.C (Kd.int .u64) w A0_0 (l0_0 ++ [7]).length (l0_0 ++ [7])) (hc0_0 : l0_0.length + 1 ≤ c0_0) (hr0_1 : Kd.C (Kd.int .i64) w A0_1 (l0_1 ++ [(-7)]).length (l0_1 ++ [(-7)])) (hc0_1 : l0_1.length + 1 ≤ c0_1) (hr0_2 : Kd.C Kd.string w A0_2 (l0_2 ++ [(⟨#[98, 101, 104, 105, 110, 100]⟩ : ByteArray)]).length (l0_2 ++ [(⟨#[98, 101, 104, 105, 110, 100]⟩ : ByteArray)])) (hc0_2 : l0_2.length + 1 ≤ c0_2) (hr0_3 : Kd.C (Kd.int .i64) w A0_3 (l0_3 ++ [(-7)]).length (l0_3 ++ [(-7)])) (hc0_3 : l0_3.length + 1 ≤ c0_3) (hr1_0 : Kd.C (Kd.int .u64) w A1_0 l1_0.length l1_0) (hc1_0 : l1_0.length ≤ c1_0) (hr1_1 : Kd.C (Kd.int .i64) w A1_1 l1_1.length l1_1) (hc1_1 : l1_1.length ≤ c1_1) (hr1_2 : Kd.C Kd.string w A1_2 l1_2.length l1_2) (hc1_2 : l1_2.length ≤ c1_2) (hr1_3 : Kd.C (Kd.int .i64) w A1_3 l1_3.length l1_3) (hc1_3 : l1_3.length ≤ c1_3) (h : isthmusref18_Same.f k l0_0 l0_1 l0_2 l0_3 l1_0 l1_1 l1_2 l1_3 = some true) :
  Calls Tryd.prog 17 #[.agg #[.slice A0_0 l0_0.length c0_0, .slice A0_1 l0_1.length c0_1, .slice A0_2 l0_2.length c0_2, .slice A0_3 l0_3.length c0_3], .agg #[.slice A1_0 l1_0.length c1_0, .slice A1_1 l1_1.length c1_1, .slice A1_2 l1_2.length c1_2, .slice A1_3 l1_3.length c1_3]] w fun e w' => e = .returned (.bool true) ∧ Below w.heap.size w w' := by
 obtain ⟨ad0, rfl, hx0⟩ := C_last hr0_0
 obtain ⟨ad1, rfl, hx1⟩ := C_last hr0_1
 obtain ⟨ad2, rfl, hx2⟩ := C_last hr0_2
 obtain ⟨ad3, rfl, hx3⟩ := C_last hr0_3
 have hB := below_alloc (below_alloc (Below.refl w.heap.size w) (.cells #[.slice (some ad0) l0_0.length c0_0, .slice (some ad1) l0_1.length c0_1, .slice (some ad2) l0_2.length c0_2, .slice (some ad3) l0_3.length c0_3] 26)) (.cells #[.slice A1_0 l1_0.length c1_0, .slice A1_1 l1_1.length c1_1, .slice A1_2 l1_2.length c1_2, .slice A1_3 l1_3.length c1_3] 26)
 have bx : ((w.alloc (.cells #[.slice (some ad0) l0_0.length c0_0, .slice (some ad1) l0_1.length c0_1, .slice (some ad2) l0_2.length c0_2, .slice (some ad3) l0_3.length c0_3] 26)).alloc (.cells #[.slice A1_0 l1_0.length c1_0, .slice A1_1 l1_1.length c1_1, .slice A1_2 l1_2.length c1_2, .slice A1_3 l1_3.length c1_3] 26)).heap[w.heap.size]? = some (.cells #[.slice (some ad0) l0_0.length c0_0, .slice (some ad1) l0_1.length c0_1, .slice (some ad2) l0_2.length c0_2, .slice (some ad3) l0_3.length c0_3] 26 (0, 0)) := blk_below (heap_alloc_new w _) (below_alloc (Below.refl _ _) _)
 have by_ : ((w.alloc (.cells #[.slice (some ad0) l0_0.length c0_0, .slice (some ad1) l0_1.length c0_1, .slice (some ad2) l0_2.length c0_2, .slice (some ad3) l0_3.length c0_3] 26)).alloc (.cells #[.slice A1_0 l1_0.length c1_0, .slice A1_1 l1_1.length c1_1, .slice A1_2 l1_2.length c1_2, .slice A1_3 l1_3.length c1_3] 26)).heap[w.heap.size + 1]? = some (.cells #[.slice A1_0 l1_0.length c1_0, .slice A1_1 l1_1.length c1_1, .slice A1_2 l1_2.length c1_2, .slice A1_3 l1_3.length c1_3] 26 (0, 0)) := by
  have := heap_alloc_new (w.alloc (.cells #[.slice (some ad0) l0_0.length c0_0, .slice (some ad1) l0_1.length c0_1, .slice (some ad2) l0_2.length c0_2, .slice (some ad3) l0_3.length c0_3] 26)) (.cells #[.slice A1_0 l1_0.length c1_0, .slice A1_1 l1_1.length c1_1, .slice A1_2 l1_2.length c1_2, .slice A1_3 l1_3.length c1_3] 26)
  rwa [show (w.alloc (.cells #[.slice (some ad0) l0_0.length c0_0, .slice (some ad1) l0_1.length c0_1, .slice (some ad2) l0_2.length c0_2, .slice (some ad3) l0_3.length c0_3] 26)).heap.size = w.heap.size + 1 by simp] at this
 have hX0 := Aside0.mk (pw_cell_below hB hx0)
 have hR0 := Aside0.mk (Kd.C_below (C_init hr0_0) hB)
 have hS0 := Aside0.mk (Kd.C_below hr1_0 hB)
 have hm0 : l0_0.length + 1 ≤ 9223372036854775807 := by have := hr0_0.2.1; simpa using this
 have hk0 := cut2 22 33 Tryd.underlying22 (info_parts info33).choose_spec.1 (some ad0) l0_0.length c0_0 (l0_0.length + 1) hc0_0
 clear hx0 hr0_0 hr1_0
 have hX1 := Aside0.mk (pw_cell_below hB hx1)
 have hR1 := Aside0.mk (Kd.C_below (C_init hr0_1) hB)
 have hS1 := Aside0.mk (Kd.C_below hr1_1 hB)
 have hm1 : l0_1.length + 1 ≤ 9223372036854775807 := by have := hr0_1.2.1; simpa using this
 have hk1 := cut2 23 3 Tryd.underlying23 (info_parts info3).choose_spec.1 (some ad1) l0_1.length c0_1 (l0_1.length + 1) hc0_1
 clear hx1 hr0_1 hr1_1
 have hX2 := Aside0.mk (pw_cell_below hB hx2)
 have hR2 := Aside0.mk (Kd.C_below (C_init hr0_2) hB)
 have hS2 := Aside0.mk (Kd.C_below hr1_2 hB)
 have hm2 : l0_2.length + 1 ≤ 9223372036854775807 := by have := hr0_2.2.1; simpa using this
 have hk2 := cut2 24 9 Tryd.underlying24 (info_parts info9).choose_spec.1 (some ad2) l0_2.length c0_2 (l0_2.length + 1) hc0_2
 clear hx2 hr0_2 hr1_2
 have hX3 := Aside0.mk (pw_cell_below hB hx3)
 have hR3 := Aside0.mk (Kd.C_below (C_init hr0_3) hB)
 have hS3 := Aside0.mk (Kd.C_below hr1_3 hB)
 have hm3 : l0_3.length + 1 ≤ 9223372036854775807 := by have := hr0_3.2.1; simpa using this
 have hk3 := cut2 23 3 Tryd.underlying23 (info_parts info3).choose_spec.1 (some ad3) l0_3.length c0_3 (l0_3.length + 1) hc0_3
 clear hx3 hr0_3 hr1_3
 have y0 := blk_cell bx 0
 have z0 := blk_cell by_ 0
 have y1 := blk_cell bx 1
 have z1 := blk_cell by_ 1
 have y2 := blk_cell bx 2
 have z2 := blk_cell by_ 2
 have y3 := blk_cell bx 3
 have z3 := blk_cell by_ 3
 have BX := Aside0.mk bx
 have BY := Aside0.mk by_
 clear bx by_
 go_enter Tryd.func17, Tryd.ntmps17
 go_wp2_with (go_at_call 23; (refine (isthmusref18_Same.calls k _ _ l0_0 _ _ l0_1 _ _ l0_2 _ _ l0_3 _ _ l1_0 _ _ l1_1 _ _ l1_2 _ _ l1_3 true _ hR0.out (by omega) hR1.out (by omega) hR2.out (by omega) hR3.out (by omega) hS0.out hc1_0 hS1.out hc1_1 hS2.out hc1_2 hS3.out hc1_3 h).mono ?_); rintro e w1 ⟨rfl, hq⟩; have hb : Below ((w.alloc (.cells #[.slice (some ad0) l0_0.length c0_0, .slice (some ad1) l0_1.length c0_1, .slice (some ad2) l0_2.length c0_2, .slice (some ad3) l0_3.length c0_3] 26)).alloc (.cells #[.slice A1_0 l1_0.length c1_0, .slice A1_1 l1_1.length c1_1, .slice A1_2 l1_2.length c1_2, .slice A1_3 l1_3.length c1_3] 26)).heap.size ((w.alloc (.cells #[.slice (some ad0) l0_0.length c0_0, .slice (some ad1) l0_1.length c0_1, .slice (some ad2) l0_2.length c0_2, .slice (some ad3) l0_3.length c0_3] 26)).alloc (.cells #[.slice A1_0 l1_0.length c1_0, .slice A1_1 l1_1.length c1_1, .slice A1_2 l1_2.length c1_2, .slice A1_3 l1_3.length c1_3] 26)) w1 := (by first | exact hq | (obtain ⟨nd, rfl⟩ := hq; exact pw_below_drewN (Below.refl _ _) nd)); clear hq; have x0 := pw_cell_below hb hX0.out; have x1 := pw_cell_below hb hX1.out; have x2 := pw_cell_below hb hX2.out; have x3 := pw_cell_below hb hX3.out; have bx := blk_below BX.out hb; have y0 := blk_cell bx 0; have y1 := blk_cell bx 1; have y2 := blk_cell bx 2; have y3 := blk_cell bx 3; have hB1 := below_step hB hb)
 go_quiet (fail)
 go_wp2_with fail
 go_ret
 exact ⟨rfl, pw_below_drewN hB1 nq⟩
end Go.Proofs.YtnlimplbmncdeaaDoor.C
namespace Go.Proofs.YtnlimplbmncdeaaDoor.C
open Go.RowKit Go.Proofs.YtnlimplbmncdeaaDoorW.PrintWords Go.Proofs.YtnlimplbmncdeaaDoorW.PrintLast Go.Proofs.YtnlimplbmncdeaaDoorW.PrintMore
attribute [local go_sem] max2_int min2_int max_two min_two max_three min_three max_four min_four
set_option linter.unusedVariables false
set_option linter.unusedSimpArgs false
def isthmuslaw18_CodeRights.f (k : Nat) (l0 : List Int) (l1 : List Int) (l2 : List ByteArray) (l3 : List Int) : Option Bool :=
 (isthmuslaw18_awake.f k).bind fun a => (code_Right.f k l0 l1 l2 l3).bind fun rt => (code_Encode.f k l0 l1 l2 l3).bind fun t => (code_Sum.f k l0 l1 l2 l3).bind fun h => (isthmusref18_Encode.f k l0 l1 l2 l3).bind fun u => (isthmusref18_Same.f k l0 l1 l2 l3 l0 l1 l2 l3).bind fun is => (isthmusref18_Right.f k l0 l1 l2 l3).bind fun rr => (isthmusref18_Sum.f k l0 l1 l2 l3).bind fun rh =>
 if a = true ∧ is = true ∧ rt = rr ∧ t = u ∧ h = rh then some true else none
set_option maxHeartbeats 8000000 in
set_option maxRecDepth 100000 in
theorem isthmuslaw18_CodeRights.calls (k : Nat) (A0_0 : Option Addr) (c0_0 : Nat) (l0_0 : List Int) (A0_1 : Option Addr) (c0_1 : Nat) (l0_1 : List Int) (A0_2 : Option Addr) (c0_2 : Nat) (l0_2 : List ByteArray) (A0_3 : Option Addr) (c0_3 : Nat) (l0_3 : List Int) (r : Bool) (w : World) (hr0_0 : Kd.C (Kd.int .u64) w A0_0 l0_0.length l0_0) (hc0_0 : l0_0.length ≤ c0_0) (hr0_1 : Kd.C (Kd.int .i64) w A0_1 l0_1.length l0_1) (hc0_1 : l0_1.length ≤ c0_1) (hr0_2 : Kd.C Kd.string w A0_2 l0_2.length l0_2) (hc0_2 : l0_2.length ≤ c0_2) (hr0_3 : Kd.C (Kd.int .i64) w A0_3 l0_3.length l0_3) (hc0_3 : l0_3.length ≤ c0_3) (hz : l0_0.length * 8 ≤ 140737488351232 ∧ l0_1.length * 8 ≤ 140737488351232 ∧ l0_2.length * 16 ≤ 140737488351232 ∧ l0_3.length * 8 ≤ 140737488351232) (hG : Glob w) (h : isthmuslaw18_CodeRights.f k l0_0 l0_1 l0_2 l0_3 = some r) :
  Calls Tryd.prog 3 #[.agg #[.slice A0_0 l0_0.length c0_0, .slice A0_1 l0_1.length c0_1, .slice A0_2 l0_2.length c0_2, .slice A0_3 l0_3.length c0_3]] w fun e w' => e = .returned (.bool r) ∧ Below w.heap.size w w' := by
 unfold isthmuslaw18_CodeRights.f at h
 obtain ⟨a, h0, t0⟩ := Option.bind_eq_some_iff.mp h
 obtain ⟨rt, h1, t1⟩ := Option.bind_eq_some_iff.mp t0
 obtain ⟨⟨s, er⟩, h2, t2⟩ := Option.bind_eq_some_iff.mp t1
 obtain ⟨hs, h3, t3⟩ := Option.bind_eq_some_iff.mp t2
 obtain ⟨⟨s', er'⟩, h4, t4⟩ := Option.bind_eq_some_iff.mp t3
 obtain ⟨is, h5, t5⟩ := Option.bind_eq_some_iff.mp t4
 obtain ⟨rr, h6, t6⟩ := Option.bind_eq_some_iff.mp t5
 obtain ⟨rh, h7, t7⟩ := Option.bind_eq_some_iff.mp t6
 clear h t0 t1 t2 t3 t4 t5 t6
 by_cases hc : a = true ∧ is = true ∧ rt = rr ∧ ((s, er) : ByteArray × Int) = (s', er') ∧ hs = rh
 case neg => rw [if_neg hc] at t7; cases t7
 rw [if_pos hc] at t7
 obtain rfl := Option.some.inj t7
 obtain ⟨rfl, rfl, rfl, he, rfl⟩ := hc
 injection he with he1 he2
 subst he1 he2
 clear t7
 have HR0 := Aside0.mk hr0_0
 clear hr0_0
 have HR1 := Aside0.mk hr0_1
 clear hr0_1
 have HR2 := Aside0.mk hr0_2
 clear hr0_2
 have HR3 := Aside0.mk hr0_3
 clear hr0_3
 have hW0 := below_alloc (Below.refl w.heap.size w) (.cells #[.slice A0_0 l0_0.length c0_0, .slice A0_1 l0_1.length c0_1, .slice A0_2 l0_2.length c0_2, .slice A0_3 l0_3.length c0_3] 26)
 have bx0 := heap_alloc_new w (.cells #[.slice A0_0 l0_0.length c0_0, .slice A0_1 l0_1.length c0_1, .slice A0_2 l0_2.length c0_2, .slice A0_3 l0_3.length c0_3] 26)
 have y0 := blk_cell bx0 0
 have y1 := blk_cell bx0 1
 have y2 := blk_cell bx0 2
 have y3 := blk_cell bx0 3
 have q1 : (s.toList == s.toList) = true := beq_self_eq_true _
 have q2 : (er == er) = true := beq_self_eq_true _
 have q3 : (hs == hs) = true := beq_self_eq_true _
 have q4 : (rt == rt) = true := beq_self_eq_true _
 go_enter Tryd.func3, Tryd.ntmps3
 go_wp2_with (first
  | (go_at_call 11; (refine (isthmuslaw18_awake.calls k true _ (hG.below hW0) h0).mono ?_); rintro e w1 ⟨rfl, hb⟩; have bx1 := blk_below bx0 hb; have y0 := blk_cell bx1 0; have y1 := blk_cell bx1 1; have y2 := blk_cell bx1 2; have y3 := blk_cell bx1 3; have hW1 := below_then hW0 hW0.size hb; clear hb)
  | (go_at_call 12; (refine (isthmuslaw18_Lent.calls _ _ l0_0 _ _ l0_1 _ _ l0_2 _ _ l0_3 _ (Kd.C_below HR0.out hW1) hc0_0 (Kd.C_below HR1.out hW1) hc0_1 (Kd.C_below HR2.out hW1) hc0_2 (Kd.C_below HR3.out hW1) hc0_3 hz).mono ?_); rintro e w2 ⟨g0, d0, g1, d1, g2, d2, g3, d3, rfl, hl0, e0, hl1, e1, hl2, e2, hl3, e3, hb⟩; have HD0 := Aside0.mk e0; have HD1 := Aside0.mk e1; have HD2 := Aside0.mk e2; have HD3 := Aside0.mk e3; have hO3 := below_alloc (Below.refl w2.heap.size w2) (.cells #[.slice (some ⟨g0, 0, none⟩) l0_0.length d0, .slice (some ⟨g1, 0, none⟩) l0_1.length d1, .slice (some ⟨g2, 0, none⟩) l0_2.length d2, .slice (some ⟨g3, 0, none⟩) l0_3.length d3] 26); have bx3 := blk_below (blk_below bx1 hb) hO3; have by3 := heap_alloc_new w2 (.cells #[.slice (some ⟨g0, 0, none⟩) l0_0.length d0, .slice (some ⟨g1, 0, none⟩) l0_1.length d1, .slice (some ⟨g2, 0, none⟩) l0_2.length d2, .slice (some ⟨g3, 0, none⟩) l0_3.length d3] 26); have y0 := blk_cell bx3 0; have y1 := blk_cell bx3 1; have y2 := blk_cell bx3 2; have y3 := blk_cell bx3 3; have z0 := blk_cell by3 0; have z1 := blk_cell by3 1; have z2 := blk_cell by3 2; have z3 := blk_cell by3 3; have hW2 := below_then hW1 hW1.size hb; have hW3 := below_then hW2 hW2.size hO3; clear hb e0 e1 e2 e3)
  | (go_at_call 13; (refine (code_Right.calls k _ _ l0_0 _ _ l0_1 _ _ l0_2 _ _ l0_3 rt _ (C_init (Kd.C_below HD0.out hO3)) (Nat.le_of_succ_le hl0) (C_init (Kd.C_below HD1.out hO3)) (Nat.le_of_succ_le hl1) (C_init (Kd.C_below HD2.out hO3)) (Nat.le_of_succ_le hl2) (C_init (Kd.C_below HD3.out hO3)) (Nat.le_of_succ_le hl3) (hG.below hW3) h1).mono ?_); rintro e w4 ⟨rfl, hb⟩; have bx4 := blk_below bx3 hb; have by4 := blk_below by3 hb; have y0 := blk_cell bx4 0; have y1 := blk_cell bx4 1; have y2 := blk_cell bx4 2; have y3 := blk_cell bx4 3; have z0 := blk_cell by4 0; have z1 := blk_cell by4 1; have z2 := blk_cell by4 2; have z3 := blk_cell by4 3; have hO4 := below_step hO3 hb; have hW4 := below_then hW3 hW3.size hb; clear hb)
  | (go_at_call 14; (refine (code_Encode.calls k _ _ l0_0 _ _ l0_1 _ _ l0_2 _ _ l0_3 s er _ (C_init (Kd.C_below HD0.out hO4)) (Nat.le_of_succ_le hl0) (C_init (Kd.C_below HD1.out hO4)) (Nat.le_of_succ_le hl1) (C_init (Kd.C_below HD2.out hO4)) (Nat.le_of_succ_le hl2) (C_init (Kd.C_below HD3.out hO4)) (Nat.le_of_succ_le hl3) (hG.below hW4) h2).mono ?_); rintro e w5 ⟨rfl, hb⟩; have bx5 := blk_below bx4 hb; have by5 := blk_below by4 hb; have y0 := blk_cell bx5 0; have y1 := blk_cell bx5 1; have y2 := blk_cell bx5 2; have y3 := blk_cell bx5 3; have z0 := blk_cell by5 0; have z1 := blk_cell by5 1; have z2 := blk_cell by5 2; have z3 := blk_cell by5 3; have hO5 := below_step hO4 hb; have hW5 := below_then hW4 hW4.size hb; clear hb)
  | (go_at_call 15; (refine (code_Sum.calls k _ _ l0_0 _ _ l0_1 _ _ l0_2 _ _ l0_3 hs _ (C_init (Kd.C_below HD0.out hO5)) (Nat.le_of_succ_le hl0) (C_init (Kd.C_below HD1.out hO5)) (Nat.le_of_succ_le hl1) (C_init (Kd.C_below HD2.out hO5)) (Nat.le_of_succ_le hl2) (C_init (Kd.C_below HD3.out hO5)) (Nat.le_of_succ_le hl3) (hG.below hW5) h3).mono ?_); rintro e w6 ⟨rfl, hb⟩; have bx6 := blk_below bx5 hb; have by6 := blk_below by5 hb; have y0 := blk_cell bx6 0; have y1 := blk_cell bx6 1; have y2 := blk_cell bx6 2; have y3 := blk_cell bx6 3; have z0 := blk_cell by6 0; have z1 := blk_cell by6 1; have z2 := blk_cell by6 2; have z3 := blk_cell by6 3; have hO6 := below_step hO5 hb; have hW6 := below_then hW5 hW5.size hb; clear hb)
  | (go_at_call 16; (refine (isthmusref18_Encode.calls k _ _ l0_0 _ _ l0_1 _ _ l0_2 _ _ l0_3 s er _ (Kd.C_below HR0.out hW6) hc0_0 (Kd.C_below HR1.out hW6) hc0_1 (Kd.C_below HR2.out hW6) hc0_2 (Kd.C_below HR3.out hW6) hc0_3 h4).mono ?_); rintro e w7 ⟨rfl, hb⟩; have bx7 := blk_below bx6 hb; have by7 := blk_below by6 hb; have y0 := blk_cell bx7 0; have y1 := blk_cell bx7 1; have y2 := blk_cell bx7 2; have y3 := blk_cell bx7 3; have z0 := blk_cell by7 0; have z1 := blk_cell by7 1; have z2 := blk_cell by7 2; have z3 := blk_cell by7 3; have hO7 := below_step hO6 hb; have hW7 := below_then hW6 hW6.size hb; clear hb)
  | (go_at_call 17; (refine (isthmuslaw18_Kept.calls k (some ⟨g0, 0, none⟩) d0 l0_0 (some ⟨g1, 0, none⟩) d1 l0_1 (some ⟨g2, 0, none⟩) d2 l0_2 (some ⟨g3, 0, none⟩) d3 l0_3 _ _ l0_0 _ _ l0_1 _ _ l0_2 _ _ l0_3 _ (Kd.C_below HD0.out hO7) hl0 (Kd.C_below HD1.out hO7) hl1 (Kd.C_below HD2.out hO7) hl2 (Kd.C_below HD3.out hO7) hl3 (Kd.C_below HR0.out hW7) hc0_0 (Kd.C_below HR1.out hW7) hc0_1 (Kd.C_below HR2.out hW7) hc0_2 (Kd.C_below HR3.out hW7) hc0_3 h5).mono ?_); rintro e w8 ⟨rfl, hb⟩; have bx8 := blk_below bx7 hb; have y0 := blk_cell bx8 0; have y1 := blk_cell bx8 1; have y2 := blk_cell bx8 2; have y3 := blk_cell bx8 3; have hW8 := below_then hW7 hW7.size hb; clear hb)
  | (go_at_call 18; (refine (isthmusref18_Right.calls k _ _ l0_0 _ _ l0_1 _ _ l0_2 _ _ l0_3 rt _ (Kd.C_below HR0.out hW8) hc0_0 (Kd.C_below HR1.out hW8) hc0_1 (Kd.C_below HR2.out hW8) hc0_2 (Kd.C_below HR3.out hW8) hc0_3 h6).mono ?_); rintro e w9 ⟨rfl, hb⟩; have bx9 := blk_below bx8 hb; have y0 := blk_cell bx9 0; have y1 := blk_cell bx9 1; have y2 := blk_cell bx9 2; have y3 := blk_cell bx9 3; have hW9 := below_then hW8 hW8.size hb; clear hb)
  | (go_at_call 19; (refine (isthmusref18_Sum.calls k _ _ l0_0 _ _ l0_1 _ _ l0_2 _ _ l0_3 hs _ (Kd.C_below HR0.out hW9) hc0_0 (Kd.C_below HR1.out hW9) hc0_1 (Kd.C_below HR2.out hW9) hc0_2 (Kd.C_below HR3.out hW9) hc0_3 h7).mono ?_); rintro e w10 ⟨rfl, hb⟩; have hW10 := below_then hW9 hW9.size hb; clear hb))
 go_ret
 exact ⟨by first | rfl | simp, hW10⟩
def isthmuslaw18_CodeWords.f (k : Nat) (l0 : List SRaw) (l1 : List Int) (l2 : List ByteArray) : Option Bool := (isthmuslaw18_Code.f l0 true).bind fun ws => if ws.length * 8 ≤ 140737488351232 then isthmuslaw18_CodeRights.f k ws l1 l2 [1, 2, 3] else none
set_option maxHeartbeats 8000000 in
set_option maxRecDepth 100000 in
theorem isthmuslaw18_CodeWords.calls (k : Nat) (A0 : Option Addr) (c0 : Nat) (l0 : List SRaw) (A1 : Option Addr) (c1 : Nat) (l1 : List Int) (A2 : Option Addr) (c2 : Nat) (l2 : List ByteArray) (r : Bool) (w : World) (hr0 : Kd.C kRaw w A0 l0.length l0) (hc0 : l0.length ≤ c0) (hr1 : Kd.C (Kd.int .i64) w A1 l1.length l1) (hc1 : l1.length ≤ c1) (hr2 : Kd.C Kd.string w A2 l2.length l2) (hc2 : l2.length ≤ c2) (hz1 : l1.length * 8 ≤ 140737488351232) (hz2 : l2.length * 16 ≤ 140737488351232) (hG : Glob w) (h : isthmuslaw18_CodeWords.f k l0 l1 l2 = some r) :
  Calls Tryd.prog 4 #[.slice A0 l0.length c0, .slice A1 l1.length c1, .slice A2 l2.length c2] w fun e w' => e = .returned (.bool r) ∧ Below w.heap.size w w' := by
 unfold isthmuslaw18_CodeWords.f at h
 obtain ⟨ws, h1, h2⟩ := Option.bind_eq_some_iff.mp h
 clear h
 by_cases hz0 : ws.length * 8 ≤ 140737488351232
 case neg => rw [if_neg hz0] at h2; cases h2
 rw [if_pos hz0] at h2
 have hl3 : (w.alloc (.cells #[.int .i64 1, .int .i64 2, .int .i64 3] 3)).ownsRow w.heap.size 3 1 (.slice (some ⟨w.heap.size, 0, none⟩) 3 3) ([1, 2, 3] : List Int).length (nums .i64 [1, 2, 3]) := ⟨rfl, .inr ⟨_, 3, _, rfl, Nat.le_refl _, heap_alloc_new _ _, Nat.le_refl _, by decide, rfl, rfl⟩⟩
 obtain ⟨A3, c3, ev3, hlc3, hC3⟩ := Kd.R_reads (Kd.R_of_own (h1 := fun _ => rfl) (ok := fun _ => True) hl3 (fun _ _ => trivial))
 injection ev3 with ea3 en3 ec3
 subst ea3 ec3
 clear hl3 en3
 have hb := below_alloc (Below.refl w.heap.size w) (.cells #[.int .i64 1, .int .i64 2, .int .i64 3] 3)
 have hr0' := Kd.C_below hr0 hb
 go_enter Tryd.func4, Tryd.ntmps4
 go_wp2_with (first
  | (go_at_call 20; (refine (isthmuslaw18_Code.calls A0 c0 l0 A1 c1 l1 A2 c2 l2 (some ⟨w.heap.size, 0, none⟩) 3 [1, 2, 3] true ws _ hr0' hc0 h1).mono ?_); rintro e w2 ⟨v0, rfl, hR, hb2⟩; obtain ⟨A4, c4, rfl, hl4, hC4⟩ := Kd.R_reads hR; have hb3 := below_step hb hb2; have bx3 := heap_alloc_new w2 (.cells #[.slice A4 ws.length c4, .slice A1 l1.length c1, .slice A2 l2.length c2, .slice (some ⟨w.heap.size, 0, none⟩) 3 3] 26); have y0 := blk_cell bx3 0; have y1 := blk_cell bx3 1; have y2 := blk_cell bx3 2; have y3 := blk_cell bx3 3)
  | (go_at_call 3; (refine (isthmuslaw18_CodeRights.calls k _ _ ws _ _ l1 _ _ l2 _ _ [1, 2, 3] r _ (Kd.C_alloc hC4 _) hl4 (Kd.C_alloc (Kd.C_below hr1 hb3) _) hc1 (Kd.C_alloc (Kd.C_below hr2 hb3) _) hc2 (Kd.C_alloc (Kd.C_below hC3 hb2) _) hlc3 ⟨hz0, hz1, hz2, by decide⟩ (hG.below (below_alloc hb3 _)) h2).mono ?_); rintro e w3 ⟨rfl, hb4⟩; have hb5 := below_step (below_alloc hb3 _) hb4))
 go_ret
 exact ⟨rfl, hb5⟩
end Go.Proofs.YtnlimplbmncdeaaDoor.C
namespace Go.Proofs.YtnlimplbmncdeaaDoor.Code
open Go.RowKit Go.Proofs.YtnlimplbmncdeaaDoorW.PrintWords Go.Proofs.YtnlimplbmncdeaaDoorW.PrintMore Go.Proofs.YtnlimplbmncdeaaDoor.C Go.Proofs.YtnlimplbmncdeaaDoor.PackBits Go.Proofs.YtnlimplbmncdeaaDoor.Sevens Go.Proofs.YtnlimplbmncdeaaDoor.Pack Go.Proofs.YtnlimplbmncdeaaDoor.Lex Go.Proofs.YtnlimplbmncdeaaDoor.Str
theorem CodeRights {l0 l1 : List Int} {l2 : List ByteArray} {l3 : List Int} (hw : U64 l0) (hc : I64 l1) (z0 : l0.length * 8 ≤ 140737488351232) (z1 : l1.length * 8 ≤ 140737488351232) (z2 : l2.length * 16 ≤ 140737488351232) (z3 : l3.length * 8 ≤ 140737488351232) :
  ∃ k, isthmuslaw18_CodeRights.f k l0 l1 l2 l3 = some true := by
 obtain ⟨k, hk⟩ : ∃ k, k = 5000000 + (l0.length + l1.length + l2.length + l3.length) := ⟨_, rfl⟩
 refine ⟨k, ?_⟩
 unfold isthmuslaw18_CodeRights.f
 rw [awake_f (by omega), bs, right_f _ _ _ _ hw (by omega), bs, encode_f _ _ hw hc (by omega), bs, sumc_f _ _ hw hc (by omega), bs, ref_encode _ _ hw hc (by omega), bs, same_f _ _ _ _ (by omega) (by omega) (by omega) (by omega) (by omega), bs, ref_right _ _ _ _ hw (by omega), bs, ref_sumc _ _ hw hc (by omega), bs]
 exact if_pos ⟨rfl, rfl, rfl, rfl, rfl⟩
theorem CodeWords {l0 : List SRaw} {l1 : List Int} {l2 : List ByteArray} (h : ∀ x ∈ l0, RW x) (hc : I64 l1) (z0 : l0.length * 8 ≤ 140737488351232) (z1 : l1.length * 8 ≤ 140737488351232) (z2 : l2.length * 16 ≤ 140737488351232) :
  ∃ k, isthmuslaw18_CodeWords.f k l0 l1 l2 = some true := by
 obtain ⟨k, hk⟩ := CodeRights (l0 := l0.map wdV) (l1 := l1) (l2 := l2) (l3 := [1, 2, 3]) (code_u h) hc (by simpa using z0) z1 z2 (by decide)
 refine ⟨k, ?_⟩
 unfold isthmuslaw18_CodeWords.f
 rw [code_f h (by omega), bs, if_pos (by simpa using z0), hk]
end Go.Proofs.YtnlimplbmncdeaaDoor.Code
namespace Go.Proofs.YtnlimplbmncdeaaDoor
open Go.ChangeShapes Go.WideShapes Go.ChangeAt Go.RowKit
namespace Laid
theorem gF : Tryd.prog.globalNamed "isthmus/pack.fields" = some 0 := by kernel_rfl
theorem tF : (Tryd.prog.globals[0]?).map (·.type) = some 92 := by kernel_rfl
abbrev laid1 : List (String × DataW Unit) := [("isthmus/pack.fields", Rows.laid_isthmus_pack_fields)]
theorem door_met (os : Os) (args : Array Value) : laidMetH Tryd.prog laid1 ((World.doorLaid Tryd.prog 400 os).forCall (fun _ _ => 0) ⟨#[], args, []⟩).memory :=
 laidMetH_of_parts3 (fuel := 8) (laidMet_of_run' 8 (by kernel_rfl) (by kernel_rfl)) (by kernel_rfl) (by kernel_rfl)
theorem one_int {H : Type} {enc : TypeId × Value → H} {w : World} {m : Nat} {cs : List Value} {x : DataW H × List MemPlace} {k : Int} (h : DataW.trod enc Tryd.prog w 0 (fun _ => true) false m 85 cs = some x) (e : x.1 = .lit (.int .u64 k)) : cs = [.int .u64 k] := by
 obtain ⟨n, e1, e2, _⟩ := DataW.trod_int Tryd.underlying85 h
 subst e2
 simp only [DataW.lit.injEq, Lit.int.injEq, true_and] at e
 subst e
 exact e1
theorem one_field {w : World} {m : Nat} {cs : List Value} {x : DataW Unit × List MemPlace} {a b : Int} {enc : TypeId × Value → Unit} (h : DataW.trod enc Tryd.prog w 0 (fun _ => true) false m 91 cs = some x) (e : x.1 = .agg [.lit (.int .u64 a), .lit (.int .u64 b)]) : cs = [.int .u64 a, .int .u64 b] := by
 obtain ⟨y0, y1, n, rfl, hl, h0, h1⟩ := trod_struct2 Tryd.underlying91 h
 have c42 : Tryd.prog.cellsOf 85 = 1 := by kernel_rfl
 have c46 : Tryd.prog.cellsOf 91 = 2 := by kernel_rfl
 rw [c46] at hl
 rw [c42] at h0 h1
 simp only [DataW.agg.injEq, List.cons.injEq, and_true] at e
 match cs, hl with
 | [c0, c1], _ =>
  have e0 := one_int h0 e.1
  have e1 := one_int h1 e.2
  simp at e0 e1
  rw [e0, e1]
theorem of_laid {W : World} (h : laidMetH Tryd.prog laid1 W) : C.Glob W := by
 rw [MakeChecks.laidMetH_plain _ _ _ (by kernel_rfl)] at h
 obtain ⟨ps, ⟨g0, t0, cs0, f0, p0, q0, hg0, ht0, hv0, hd0, _, _⟩, _⟩ := h
 obtain rfl := Option.some.inj (gF.symm.trans hg0)
 obtain rfl := Option.some.inj (tF.symm.trans ht0)
 obtain ⟨xs, m1, rfl, hx1, hlen, hn3, hel⟩ := DataW.trod_array Tryd.underlying92 hd0
 have c46 : Tryd.prog.cellsOf 91 = 2 := by kernel_rfl
 have c47 : Tryd.prog.cellsOf 92 = 6 := by kernel_rfl
 rw [c46] at hel
 rw [c47] at hlen
 have e0 := hel 0 (by decide)
 have e1 := hel 1 (by decide)
 have e2 := hel 2 (by decide)
 have hc : ∀ i, W.cell? ⟨0, i, none⟩ = cs0[i]? := fun i => World.var?_cell hg0 hv0 i
 obtain ⟨l⟩ := cs0
 simp only [Prod.mk.injEq, Rows.laid_isthmus_pack_fields, DataW.agg.injEq] at hx1
 obtain ⟨c0, c1, c2, c3, c4, c5, rfl⟩ : ∃ c0 c1 c2 c3 c4 c5, l = [c0, c1, c2, c3, c4, c5] := by
  match l, hlen with
  | [c0, c1, c2, c3, c4, c5], _ => exact ⟨_, _, _, _, _, _, rfl⟩
 match xs, hn3, hx1, e0, e1, e2 with
 | [x0, x1, x2], _, hx1, e0, e1, e2 =>
  simp only [List.map_cons, List.map_nil, List.cons.injEq, and_true] at hx1
  have a0 := one_field e0 hx1.1.1.symm
  have a1 := one_field e1 hx1.1.2.1.symm
  have a2 := one_field e2 hx1.1.2.2.symm
  simp at a0 a1 a2
  obtain ⟨rfl, rfl⟩ := a0
  obtain ⟨rfl, rfl⟩ := a1
  obtain ⟨rfl, rfl⟩ := a2
  exact ⟨hc 0, hc 1, hc 2, hc 3, hc 4, hc 5⟩
end Laid
end Go.Proofs.YtnlimplbmncdeaaDoor
