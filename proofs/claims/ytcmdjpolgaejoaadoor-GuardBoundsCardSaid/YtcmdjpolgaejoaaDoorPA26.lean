/- The laws GuardBounds, GuardShifts, GuardCut of the program hold, as their cards say: texts put together by a program, 27 of 35. -/
import Derived.Test.YtcmdjpolgaejoaaDoorPA11
import Derived.Test.YtcmdjpolgaejoaaDoorPA16
import Derived.Test.YtcmdjpolgaejoaaDoorPA17
import Derived.Test.YtcmdjpolgaejoaaDoorPA21
import Derived.Test.YtcmdjpolgaejoaaDoorPA23
import Derived.Test.YtcmdjpolgaejoaaDoorPA24
import Derived.Test.YtcmdjpolgaejoaaDoorPA25
namespace Go.Proofs.YtcmdjpolgaejoaaDoor.Code
open Go.RowKit Go.Proofs.YtcmdjpolgaejoaaDoorW.PrintWords Go.Proofs.YtcmdjpolgaejoaaDoorW.PrintMore Go.Proofs.YtcmdjpolgaejoaaDoor.C Go.Proofs.YtcmdjpolgaejoaaDoor.Pack Go.Proofs.YtcmdjpolgaejoaaDoor.Lex Go.Proofs.YtcmdjpolgaejoaaDoor.Str
theorem place_f (a n : Int) : code_place.f a n = some (decide (0 ≤ a ∧ a < n)) := by
 unfold code_place.f
 by_cases h : 0 ≤ a
 ·rw [if_pos h]; congr 1; simp [h]
 ·rw [if_neg h]; congr 1; simp [h]
theorem within_f (a n : Int) : isthmusref18_within.f a n = some (decide (0 ≤ a ∧ a < n)) := by
 unfold isthmusref18_within.f
 by_cases h : 0 ≤ a
 ·rw [if_pos h]; congr 1; simp [h]
 ·rw [if_neg h]; congr 1; simp [h]
def kdOK (x : Int) : Bool := decide (1 ≤ x ∧ x ≤ 3)
theorem kind_f (x : Int) : code_kind.f x = some (kdOK x) := by
 unfold code_kind.f kdOK
 by_cases h : 1 ≤ x
 ·rw [if_pos h]; congr 1; simp [h]
 ·rw [if_neg h]; congr 1; simp [h]
theorem ref_kind (x : Int) : isthmusref18_kind.f x = some (kdOK x) := by
 unfold isthmusref18_kind.f kdOK
 by_cases h : 1 ≤ x
 ·rw [if_pos h]; congr 1; simp [h]
 ·rw [if_neg h]; congr 1; simp [h]
def opOK (cs : List Int) (n2 n3 : Int) (op a b : Int) : Bool :=
 if op = 1 then decide (0 ≤ a ∧ a < (cs.length : Int)) && (decide (b = 1) || (decide (b = 2) && decide (0 ≤ rd cs a ∧ rd cs a < 2)))
 else if op = 2 then decide (0 ≤ a ∧ a < (cs.length : Int)) && (decide (0 ≤ rd cs a) && decide (b = 0))
 else if op = 3 then decide (a ≤ 3) && decide (b = 0)
 else if op = 11 then decide (a = 0) && kdOK b
 else if op = 12 then decide (a = 0) && decide (b ≤ 1)
 else if op = 13 then decide (b = 0) else if op = 14 then decide (b = 0) else if op = 15 then decide (b = 0) else if op = 24 then decide (b = 0)
 else if op = 16 then decide (1 ≤ a ∧ a ≤ 10) && decide (b = 0)
 else if op = 17 then decide (0 ≤ a ∧ a < n3)
 else if op = 18 then decide (0 ≤ a ∧ a < n3) && decide (b = 0) else if op = 19 then decide (0 ≤ a ∧ a < n3) && decide (b = 0)
 else if op = 21 then decide (0 ≤ a ∧ a < n2) && decide (b = 0)
 else if op = 23 then decide (a ≤ 1024) && decide (b = 0)
 else if op = 26 then decide (a ≤ 1) && decide (b = 0)
 else decide (op ≤ 27) && (decide (a = 0) && decide (b = 0))
def wOK (cs : List Int) (ns : List ByteArray) (ks : List Int) (x : Int) : Bool := opOK cs ns.length ks.length (x / 72057594037927936) (x / 268435456 % 268435456) (x % 268435456)
theorem may_f (ws cs : List Int) (ns : List ByteArray) (ks : List Int) {x : Int} (h0 : 0 ≤ x) (h1 : x ≤ 18446744073709551615) {k : Nat} (hk : 3 ≤ k) : code_may.f k ws cs ns ks x = some (wOK cs ns ks x) := by
 unfold code_may.f wOK
 rw [parts_f h0 h1, bs]
 have ha0 : 0 ≤ x / 268435456 % 268435456 := by omega
 have hb0 : 0 ≤ x % 268435456 := by omega
 have hop : 0 ≤ x / 72057594037927936 := by omega
 generalize x / 72057594037927936 = op at *
 generalize x / 268435456 % 268435456 = a at *
 generalize x % 268435456 = b at *
 clear h0 h1
 obtain ⟨k, rfl⟩ : ∃ m, k = m + 2 := ⟨k - 2, by omega⟩
 simp only [place_f, kind_f, Option.bind_some]
 unfold opOK
 by_cases c1 : op = 1
 ·subst c1
  simp only [if_true]
  by_cases d : 0 ≤ a ∧ a < (cs.length : Int)
  ·simp only [d, decide_true, if_true, and_self, Bool.true_and]
   by_cases e1 : b = 1
   ·subst e1; simp
   ·by_cases e2 : b = 2
    ·subst e2; simp
    ·simp [e1, e2]
  ·simp [d]
 rw [if_neg c1, if_neg c1]
 by_cases c11 : op = 11
 ·subst c11
  by_cases d : a = 0 <;> simp [d]
 rw [if_neg c11]
 by_cases c12 : op = 12
 ·subst c12
  by_cases d : a = 0 <;> simp [d]
 rw [if_neg c12]
 by_cases c17 : op = 17
 ·subst c17
  simp
 rw [if_neg c17]
 by_cases hb : b = 0
 case neg =>
  rw [if_neg hb]
  simp [hb, c11, c12, c17]
 rw [if_pos hb]
 subst hb
 by_cases c2 : op = 2
 ·subst c2
  by_cases d : 0 ≤ a ∧ a < (cs.length : Int)
  ·simp [d]
  ·simp [d]
 rw [if_neg c2, if_neg c2]
 by_cases c3 : op = 3
 ·subst c3
  simp only [if_true]
  congr 1
  simp
  omega
 rw [if_neg c3, if_neg c3, if_neg c11, if_neg c12]
 by_cases c13 : op = 13
 ·subst c13; simp [code_may.j0]
 by_cases c14 : op = 14
 ·subst c14; simp [code_may.j0]
 by_cases c15 : op = 15
 ·subst c15; simp [code_may.j0]
 rw [if_neg c13, if_neg c14, if_neg c15, if_neg c13, if_neg c14, if_neg c15]
 simp only [code_may.j0, code_may.j1, place_f, Option.bind_some, beq_iff_eq]
 by_cases c24 : op = 24
 ·subst c24; simp
 rw [if_neg c24, if_neg c24]
 by_cases c16 : op = 16
 ·subst c16
  by_cases d : 1 ≤ a <;> simp [d]
 rw [if_neg c16, if_neg c16, if_neg c17]
 by_cases c18 : op = 18
 ·subst c18; simp
 rw [if_neg c18, if_neg c18]
 by_cases c19 : op = 19
 ·subst c19; simp
 rw [if_neg c19, if_neg c19]
 by_cases c21 : op = 21
 ·subst c21; simp
 rw [if_neg c21, if_neg c21]
 by_cases c23 : op = 23
 ·subst c23; simp
 rw [if_neg c23, if_neg c23]
 by_cases c26 : op = 26
 ·subst c26; simp
 rw [if_neg c26, if_neg c26]
 by_cases d : a = 0 <;> simp [d]
theorem ref_word (ws cs : List Int) (ns : List ByteArray) (ks : List Int) {x : Int} (h0 : 0 ≤ x) (h1 : x ≤ 18446744073709551615) {k : Nat} (hk : 3 ≤ k) : isthmusref18_word.f k ws cs ns ks x = some (wOK cs ns ks x) := by
 unfold isthmusref18_word.f wOK
 rw [ref_parts h0 h1, bs]
 have ha0 : 0 ≤ x / 268435456 % 268435456 := by omega
 have hb0 : 0 ≤ x % 268435456 := by omega
 have hop : 0 ≤ x / 72057594037927936 := by omega
 generalize x / 72057594037927936 = op at *
 generalize x / 268435456 % 268435456 = a at *
 generalize x % 268435456 = b at *
 clear h0 h1
 obtain ⟨k, rfl⟩ : ∃ m, k = m + 2 := ⟨k - 2, by omega⟩
 simp only [within_f, ref_kind, Option.bind_some]
 unfold opOK
 by_cases c1 : op = 1
 ·subst c1
  simp only [if_true]
  by_cases d : 0 ≤ a ∧ a < (cs.length : Int)
  ·simp only [d, decide_true, if_true, and_self, Bool.true_and]
   by_cases e1 : b = 1
   ·subst e1; simp
   ·by_cases e2 : b = 2
    ·subst e2; simp
    ·simp [e1, e2]
  ·simp [d]
 rw [if_neg c1, if_neg c1]
 by_cases c2 : op = 2
 ·subst c2
  by_cases d : 0 ≤ a ∧ a < (cs.length : Int)
  ·by_cases e : 0 ≤ rd cs a <;> simp [d, e] <;> rfl
  ·simp [d]
 rw [if_neg c2, if_neg c2]
 by_cases c3 : op = 3
 ·subst c3
  by_cases d : a ≤ 3 <;> simp [d] <;> rfl
 rw [if_neg c3, if_neg c3]
 by_cases c11 : op = 11
 ·subst c11
  by_cases d : a = 0 <;> simp [d]
 rw [if_neg c11, if_neg c11]
 by_cases c12 : op = 12
 ·subst c12
  by_cases d : a = 0 <;> simp [d]
 rw [if_neg c12, if_neg c12]
 by_cases c13 : op = 13
 ·subst c13; simp [isthmusref18_word.j0] <;> rfl
 by_cases c14 : op = 14
 ·subst c14; simp [isthmusref18_word.j0] <;> rfl
 by_cases c15 : op = 15
 ·subst c15; simp [isthmusref18_word.j0] <;> rfl
 rw [if_neg c13, if_neg c14, if_neg c15, if_neg c13, if_neg c14, if_neg c15]
 simp only [isthmusref18_word.j0, isthmusref18_word.j1, within_f, Option.bind_some, beq_iff_eq]
 have hbb : (b == 0) = decide (b = 0) := rfl
 rw [hbb]
 by_cases c24 : op = 24
 ·subst c24; simp
 rw [if_neg c24, if_neg c24]
 by_cases c16 : op = 16
 ·subst c16
  by_cases d : 1 ≤ a <;> by_cases e : a ≤ 10 <;> simp [d, e]
 rw [if_neg c16, if_neg c16]
 by_cases c17 : op = 17
 ·subst c17; simp
 rw [if_neg c17, if_neg c17]
 by_cases c18 : op = 18
 ·subst c18
  by_cases d : 0 ≤ a ∧ a < (ks.length : Int) <;> simp [d]
 rw [if_neg c18, if_neg c18]
 by_cases c19 : op = 19
 ·subst c19
  by_cases d : 0 ≤ a ∧ a < (ks.length : Int) <;> simp [d]
 rw [if_neg c19, if_neg c19]
 by_cases c21 : op = 21
 ·subst c21
  by_cases d : 0 ≤ a ∧ a < (ns.length : Int) <;> simp [d]
 rw [if_neg c21, if_neg c21]
 by_cases c23 : op = 23
 ·subst c23
  by_cases d : a ≤ 1024 <;> simp [d]
 rw [if_neg c23, if_neg c23]
 by_cases c26 : op = 26
 ·subst c26
  by_cases d : a ≤ 1 <;> simp [d]
 rw [if_neg c26, if_neg c26]
 by_cases d : a = 0 <;> by_cases e : op ≤ 27
 ·simp [d, e, show op < 28 by omega]
 ·simp [d, e, show ¬ op < 28 by omega]
 ·simp [d, e, show op < 28 by omega]
 ·simp [d, e, show ¬ op < 28 by omega]
end Go.Proofs.YtcmdjpolgaejoaaDoor.Code
namespace Go.Proofs.YtcmdjpolgaejoaaDoor.Code
open Go.RowKit Go.Proofs.YtcmdjpolgaejoaaDoorW.PrintWords Go.Proofs.YtcmdjpolgaejoaaDoorW.PrintMore Go.Proofs.YtcmdjpolgaejoaaDoor.C Go.Proofs.YtcmdjpolgaejoaaDoor.Pack Go.Proofs.YtcmdjpolgaejoaaDoor.Lex Go.Proofs.YtcmdjpolgaejoaaDoor.Str
def U64 (l : List Int) : Prop := ∀ x ∈ l, 0 ≤ x ∧ x ≤ 18446744073709551615
def rightS (ws cs : List Int) (ns : List ByteArray) (ks : List Int) : Bool :=
 decide (1 ≤ ws.length ∧ ws.length ≤ 32768 ∧ cs.length ≤ 32768 ∧ ns.length ≤ 2000 ∧ ks.length ≤ 256) && (ns.all nameOK && (ks.all kdOK && ws.all (wOK cs ns ks)))
theorem right_f (ws cs : List Int) (ns : List ByteArray) (ks : List Int) (hw : U64 ws) {k : Nat} (hk : 30 ≤ k) : code_Right.f k ws cs ns ks = some (rightS ws cs ns ks) := by
 unfold code_Right.f rightS
 by_cases c : 1 ≤ ws.length ∧ ws.length ≤ 32768 ∧ cs.length ≤ 32768 ∧ ns.length ≤ 2000 ∧ ks.length ≤ 256
 ·rw [if_pos c]
  have e1 : (ns.all fun s => (lex_IsName.f k s).isSome) = true := List.all_eq_true.2 fun s _ => by rw [isName_f s hk]; rfl
  have e2 : (ws.all fun x => (code_may.f k ws cs ns ks x).isSome) = true := List.all_eq_true.2 fun x hx => by rw [may_f ws cs ns ks (hw x hx).1 (hw x hx).2 (by omega)]; rfl
  rw [if_pos ⟨e1, e2⟩]
  have f1 : ns.any (nmP k) = !ns.all nameOK := by
   rw [List.not_all_eq_any_not]
   congr 1
   funext s
   unfold nmP
   rw [isName_f s hk]
   rfl
  have f2 : ks.any kdP = !ks.all kdOK := by
   rw [List.not_all_eq_any_not]
   congr 1
   funext s
   unfold kdP
   rw [kind_f]
   rfl
  have f3 : ws.any (wdP k ws cs ns ks) = !ws.all (wOK cs ns ks) := by
   rw [List.not_all_eq_any_not, Bool.eq_iff_iff, List.any_eq_true, List.any_eq_true]
   constructor <;> rintro ⟨x, hx, hp⟩ <;> refine ⟨x, hx, ?_⟩ <;> unfold wdP at * <;> rw [may_f ws cs ns ks (hw x hx).1 (hw x hx).2 (by omega)] at * <;> exact hp
  rw [f1, f2, f3]
  simp [c]
 ·rw [if_neg c]
  simp [c]
theorem rdi (l : List Int) (i : Nat) (h : i < l.length) : rd l (i : Int) = l[i] := by simp [rd, List.getD, h]
theorem w1 {i : Nat} (h : i < 1000000) : wrap64 ((i : Int) + 1) = ((i + 1 : Nat) : Int) := by rw [w64_id (by omega) (by omega)]; omega
end Go.Proofs.YtcmdjpolgaejoaaDoor.Code
namespace Go.Proofs.YtcmdjpolgaejoaaDoor.Gd
open Go.RowKit Go.Proofs.YtcmdjpolgaejoaaDoorW.PrintWords Go.Proofs.YtcmdjpolgaejoaaDoorW.PrintLast Go.Proofs.YtcmdjpolgaejoaaDoorW.PrintMore Go.Proofs.YtcmdjpolgaejoaaDoor.Code Go.Proofs.YtcmdjpolgaejoaaDoor.C
set_option linter.unusedVariables false
set_option linter.unusedSimpArgs false
def ptx (x : Int) : Nat × Nat × Nat := ((x / 72057594037927936).toNat, (x / 268435456 % 268435456).toNat, (x % 268435456).toNat)
def cellOf (ks : List Int) (a : Nat) : Nat := (rd ks (a : Int)).toNat
def pto (ws : List Int) (a : Nat) : Nat × Nat × Nat := ptx (rd ws (a : Int))
def start (n : Nat) : Lk := { L0 n with left := (L0 n).left.set 0 true }
def verR (ws ks : List Int) : Except (Int × Nat) Lk := (run ws.length (cellOf ks) (pto ws) (mu ws.length (start ws.length) + 1) (start ws.length)).getD (.error (0, 0))
def verifyS (ws cs : List Int) (ns : List ByteArray) (ks : List Int) : Int × Int × Int × Int × Int :=
 if rightS ws cs ns ks = true then outOf (verR ws ks) else (0, 0, 0, 180, 0)
theorem verR_run (ws ks : List Int) : run ws.length (cellOf ks) (pto ws) (mu ws.length (start ws.length) + 1) (start ws.length) = some (verR ws ks) := by
 have h := run_some ws.length (cellOf ks) (pto ws) (mu ws.length (start ws.length) + 1) (start ws.length) (Nat.lt_succ_self _)
 unfold verR
 cases e : run ws.length (cellOf ks) (pto ws) (mu ws.length (start ws.length) + 1) (start ws.length) with
 | none => rw [e] at h; cases h
 | some r => rfl
theorem run_le {n : Nat} {cell : Nat → Nat} {pt : Nat → Nat × Nat × Nat} {L : Lk} {r} : ∀ (d f : Nat), run n cell pt f L = some r → run n cell pt (f + d) L = some r
 | 0, f, h => h
 | d + 1, f, h => run_mono n cell pt (f + d) L r (run_le d f h)
theorem run_one {n : Nat} {cell : Nat → Nat} {pt : Nat → Nat × Nat × Nat} {L : Lk} {f g : Nat} {r s} (h : run n cell pt f L = some r) (k : run n cell pt g L = some s) : r = s := by
 have h1 := run_le g f h
 have k1 := run_le f g k
 rw [Nat.add_comm] at k1
 rw [h1] at k1
 exact Option.some.inj k1
theorem verR_of {ws ks : List Int} {f : Nat} {r} (h : run ws.length (cellOf ks) (pto ws) f (start ws.length) = some r) : verR ws ks = r := run_one (verR_run ws ks) h
theorem ite_or {c : Prop} [Decidable c] {a b : Bool} (h : (if c then a else b) = true) : (c ∧ a = true) ∨ (¬ c ∧ b = true) := by
 by_cases e : c
 ·rw [if_pos e] at h; exact Or.inl ⟨e, h⟩
 ·rw [if_neg e] at h; exact Or.inr ⟨e, h⟩
theorem ops_of {cs : List Int} {n2 : Int} {n3 op a b : Nat} (h : opOK cs n2 n3 op a b = true) : OpsOk n3 op a b := by
 unfold opOK at h
 unfold OpsOk
 repeat (rcases ite_or h with ⟨c, h⟩ | ⟨c, h⟩; · (simp only [kdOK, Bool.and_eq_true, Bool.or_eq_true, decide_eq_true_eq] at h; refine ⟨?_, ?_, ?_, ?_⟩ <;> omega))
 simp only [kdOK, Bool.and_eq_true, Bool.or_eq_true, decide_eq_true_eq] at h
 refine ⟨?_, ?_, ?_, ?_⟩ <;> omega
theorem right_parts {ws cs : List Int} {ns : List ByteArray} {ks : List Int} (h : rightS ws cs ns ks = true) :
  (1 ≤ ws.length ∧ ws.length ≤ 32768 ∧ cs.length ≤ 32768 ∧ ns.length ≤ 2000 ∧ ks.length ≤ 256) ∧ (∀ s ∈ ns, Lex.nameOK s = true) ∧ (∀ x ∈ ks, kdOK x = true) ∧ (∀ x ∈ ws, wOK cs ns ks x = true) := by
 unfold rightS at h
 simp only [Bool.and_eq_true, decide_eq_true_eq, List.all_eq_true] at h
 exact ⟨h.1, h.2.1, h.2.2.1, h.2.2.2⟩
theorem rd_mem {l : List Int} {a : Nat} (h : a < l.length) : rd l (a : Int) ∈ l := by
 rw [rdi l a h]
 exact List.getElem_mem h
theorem ptx_cast {x : Int} (h0 : 0 ≤ x) : ((ptx x).1 : Int) = x / 72057594037927936 ∧ ((ptx x).2.1 : Int) = x / 268435456 % 268435456 ∧ ((ptx x).2.2 : Int) = x % 268435456 := by
 unfold ptx
 refine ⟨?_, ?_, ?_⟩ <;> simp only <;> omega
theorem ops_at {ws cs : List Int} {ns : List ByteArray} {ks : List Int} (hw : U64 ws) (h : rightS ws cs ns ks = true) (a : Nat) (ha : a < ws.length) : OpsOk ks.length (pto ws a).1 (pto ws a).2.1 (pto ws a).2.2 := by
 have hm := rd_mem ha
 have h1 := (right_parts h).2.2.2 _ hm
 obtain ⟨e1, e2, e3⟩ := ptx_cast (hw _ hm).1
 unfold wOK at h1
 rw [← e1, ← e2, ← e3] at h1
 exact ops_of h1
theorem cell_at {ws cs : List Int} {ns : List ByteArray} {ks : List Int} (h : rightS ws cs ns ks = true) (a : Nat) (ha : a < ks.length) : rd ks (a : Int) = (cellOf ks a : Nat) ∧ 1 ≤ cellOf ks a ∧ cellOf ks a < 4 := by
 have h1 := (right_parts h).2.2.1 _ (rd_mem ha)
 unfold kdOK at h1
 simp at h1
 unfold cellOf
 omega
theorem Cv.Reads.below {C : Cv} {w w' : World} (h : C.Reads w) (hb : Below w.heap.size w w') : C.Reads w' :=
 ⟨Kd.C_below h.r0 hb, h.h0, Kd.C_below h.r1 hb, h.h1, Kd.C_below h.r2 hb, h.h2, Kd.C_below h.r3 hb, h.h3⟩
theorem right_at (C : Cv) (w : World) (hr : C.Reads w) (hw : U64 C.l0) (hG : Glob w) : RightAt w C (rightS C.l0 C.l1 C.l2 C.l3) := fun W hb => by
 have h := hr.below hb
 exact code_Right.calls 30 C.A0 C.c0 C.l0 C.A1 C.c1 C.l1 C.A2 C.c2 C.l2 C.A3 C.c3 C.l3 _ W h.r0 h.h0 h.r1 h.h1 h.r2 h.h2 h.r3 h.h3 (Glob.below hG hb) (right_f _ _ _ _ hw (Nat.le_refl _))
end Go.Proofs.YtcmdjpolgaejoaaDoor.Gd
namespace Go.Proofs.YtcmdjpolgaejoaaDoor.Gd
open Go.RowKit Go.Proofs.YtcmdjpolgaejoaaDoorW.PrintWords Go.Proofs.YtcmdjpolgaejoaaDoorW.PrintLast Go.Proofs.YtcmdjpolgaejoaaDoorW.PrintMore Go.Proofs.YtcmdjpolgaejoaaDoor.Code
set_option linter.unusedVariables false
set_option linter.unusedSimpArgs false
def Lk.ext (m : Nat) (L : Lk) : Lk := { L with left := L.left ++ List.replicate m false }
theorem comes_ext {n m : Nat} {L L' : Lk} {a : Nat} {s : St} (hl : L.left.length = n) (e : comes n L a s = .ok L') : comes (n + m) (L.ext m) a s = .ok (L'.ext m) := by
 unfold comes at e ⊢
 split at e
 ·rename_i ha
  rw [if_pos (Nat.lt_of_lt_of_le ha (Nat.le_add_right n m))]
  cases hk : look a L.tab with
  | some s' =>
   have hk' : look a (L.ext m).tab = some s' := hk
   rw [hk] at e
   simp only [hk']
   simp only at e
   split at e
   ·rename_i h; cases e; rw [if_pos h]; rfl
   ·cases e
  | none =>
   have hk' : look a (L.ext m).tab = none := hk
   rw [hk] at e
   simp only [hk']
   simp only at e
   cases e
   congr 1
   simp only [Lk.lim, Lk.put, Lk.ext]
   rw [List.set_append_left _ _ (by omega)]
 ·cases e
theorem looks_ext {n m : Nat} {cell : Nat → Nat} {L L' : Lk} {a op A B : Nat} (hl : L.left.length = n) (e : looks n cell L a op A B = .ok L') : looks (n + m) cell (L.ext m) a op A B = .ok (L'.ext m) := by
 unfold looks at e ⊢
 show (if op = 0 then haltOf (L.ext m) ((look a L.tab).getD ([], 0)) else (behind cell ((look a L.tab).getD ([], 0)) A B op).bind fun s => (farOf cell op A s).bind fun far => (nextOf (n + m) (L.ext m) a op s).bind fun L1 => jumpOf (n + m) L1 op A B far) = _
 split at e
 ·rename_i h0
  rw [if_pos h0]
  unfold haltOf at e ⊢
  split at e
  ·rename_i h1
   rw [if_pos h1]
   split at e
   ·rename_i h2
    cases e
    exact if_pos h2
   ·cases e
  ·cases e
 ·rename_i h0
  rw [if_neg h0]
  generalize behind cell ((look a L.tab).getD ([], 0)) A B op = b at e
  cases b with
  | error x => cases e
  | ok t =>
   replace e : (farOf cell op A t).bind (fun far => (nextOf n L a op t).bind fun L1 => jumpOf n L1 op A B far) = .ok L' := e
   show (farOf cell op A t).bind (fun far => (nextOf (n + m) (L.ext m) a op t).bind fun L1 => jumpOf (n + m) L1 op A B far) = _
   cases e2 : farOf cell op A t with
   | error x => rw [e2] at e; cases e
   | ok far =>
    rw [e2] at e
    replace e : (nextOf n L a op t).bind (fun L1 => jumpOf n L1 op A B far) = .ok L' := e
    show (nextOf (n + m) (L.ext m) a op t).bind (fun L1 => jumpOf (n + m) L1 op A B far) = _
    cases e3 : nextOf n L a op t with
    | error x => rw [e3] at e; cases e
    | ok L1 =>
     rw [e3] at e
     replace e : jumpOf n L1 op A B far = .ok L' := e
     have h1 : L1.left.length = n ∧ nextOf (n + m) (L.ext m) a op t = .ok (L1.ext m) := by
      unfold nextOf at e3 ⊢
      split at e3
      ·rename_i h; cases e3; exact ⟨hl, if_pos h⟩
      ·rename_i h; rw [if_neg h]; exact ⟨(comes_key e3).2.trans hl, comes_ext hl e3⟩
     rw [h1.2]
     show jumpOf (n + m) (L1.ext m) op A B far = _
     unfold jumpOf at e ⊢
     split at e
     ·rename_i h; rw [if_pos h]; exact comes_ext h1.1 e
     ·rename_i h
      rw [if_neg h]
      split at e
      ·rename_i h; rw [if_pos h]; exact comes_ext h1.1 e
      ·rename_i h; rw [if_neg h]; cases e; rfl
structure SameLim (L L' : Lk) : Prop where
 s : L'.stack = L.stack
 r : L'.rounds = L.rounds
 k : L'.kind = L.kind
theorem out_same {L L' : Lk} (h : SameLim L L') : outOf (.ok L') = outOf (.ok L) := by
 unfold outOf
 simp only [h.s, h.r, h.k]
theorem run_tail (N : Nat) (cell : Nat → Nat) (pt : Nat → Nat × Nat × Nat) : ∀ (d : Nat) (L : Lk), N ≤ L.at_ + d → (∀ i, L.at_ ≤ i → L.left.getD i false = false) → ∃ L', run N cell pt (d + 1) L = some (.ok L') ∧ SameLim L L'
 | 0, L, h, hl => ⟨L, by unfold run; rw [if_neg (by omega)], rfl, rfl, rfl⟩
 | d + 1, L, h, hl => by
  unfold run
  by_cases h1 : L.at_ < N
  ·rw [if_pos h1, if_neg (by rw [hl _ (Nat.le_refl _)]; decide)]
   obtain ⟨L', h2, h3⟩ := run_tail N cell pt d L.skip (by show N ≤ L.at_ + 1 + d; omega) (fun i hi => hl i (by have : L.at_ + 1 ≤ i := hi; omega))
   exact ⟨L', h2, h3.s, h3.r, h3.k⟩
  ·rw [if_neg h1]
   exact ⟨L, rfl, rfl, rfl, rfl⟩
theorem run_ext {n : Nat} (m : Nat) {cell : Nat → Nat} {pt pt' : Nat → Nat × Nat × Nat} (hp : ∀ a, a < n → pt' a = pt a) : ∀ (f : Nat) (L L' : Lk), L.left.length = n → run n cell pt f L = some (.ok L') → ∃ g L'', run (n + m) cell pt' g (L.ext m) = some (.ok L'') ∧ SameLim L' L''
 | 0, _, _, _, h => by cases h
 | f + 1, L, L', hl, h => by
  unfold run at h
  by_cases h1 : L.at_ < n
  ·rw [if_pos h1] at h
   have hg : (L.ext m).left.getD (L.ext m).at_ false = L.left.getD L.at_ false := by
    show (L.left ++ List.replicate m false).getD L.at_ false = _
    rw [List.getD_eq_getElem?_getD, List.getElem?_append_left (by omega), ← List.getD_eq_getElem?_getD]
   by_cases h2 : L.left.getD L.at_ false = true
   ·rw [if_pos h2] at h
    split at h
    ·cases h
    ·rename_i L1 e
     have hl1 : L1.left.length = n := (looks_key e).2.trans (by simpa [Lk.take] using hl)
     obtain ⟨g, L2, h3, h4⟩ := run_ext m hp f L1 L' hl1 h
     refine ⟨g + 1, L2, ?_, h4⟩
     unfold run
     rw [if_pos (show (L.ext m).at_ < n + m by show L.at_ < n + m; omega), if_pos (hg.trans h2)]
     have ht : (L.ext m).take = L.take.ext m := by
      simp only [Lk.take, Lk.ext]
      rw [List.set_append_left _ _ (by omega)]
     have e' := looks_ext (m := m) (L := L.take) (by simpa [Lk.take] using hl) e
     rw [ht]
     show (match looks (n + m) cell (L.take.ext m) L.at_ (pt' L.at_).1 (pt' L.at_).2.1 (pt' L.at_).2.2 with
      | .error e => some (Except.error (e, L.at_))
      | .ok L' => run (n + m) cell pt' g L') = _
     rw [hp _ h1, e']
     exact h3
   ·rw [if_neg h2] at h
    obtain ⟨g, L2, h3, h4⟩ := run_ext m hp f L.skip L' hl h
    refine ⟨g + 1, L2, ?_, h4⟩
    unfold run
    rw [if_pos (show (L.ext m).at_ < n + m by show L.at_ < n + m; omega), if_neg (by rw [hg]; exact h2)]
    exact h3
  ·rw [if_neg h1] at h
   cases h
   obtain ⟨L2, h3, h4⟩ := run_tail (n + m) cell pt' m (L.ext m) (by show n + m ≤ L.at_ + m; omega) (fun i hi => by
    have hi' : L.at_ ≤ i := hi
    show (L.left ++ List.replicate m false).getD i false = false
    rw [List.getD_eq_getElem?_getD, List.getElem?_append_right (by omega), List.getElem?_replicate]
    split <;> rfl)
   exact ⟨m + 1, L2, h3, h4.s, h4.r, h4.k⟩
theorem looks_congr {n : Nat} {cell cell' : Nat → Nat} {L : Lk} {a op A B : Nat} (h : op = 17 ∨ op = 18 → cell A = cell' A) : looks n cell L a op A B = looks n cell' L a op A B := by
 have h1 : ∀ s, behind cell s A B op = behind cell' s A B op := fun s => by
  unfold behind
  split <;> first | rfl | (rw [h (Or.inr rfl)])
 have h2 : ∀ s, farOf cell op A s = farOf cell' op A s := fun s => by
  unfold farOf
  by_cases e : op = 17
  ·rw [if_pos e, if_pos e, h (Or.inl e)]
  ·rw [if_neg e, if_neg e]
 unfold looks
 simp only [h1, h2]
theorem run_congr {n : Nat} {cell cell' : Nat → Nat} {pt pt' : Nat → Nat × Nat × Nat} (hp : ∀ a, a < n → pt a = pt' a) (hc : ∀ a, a < n → (pt a).1 = 17 ∨ (pt a).1 = 18 → cell (pt a).2.1 = cell' (pt a).2.1) : ∀ (f : Nat) (L : Lk), run n cell pt f L = run n cell' pt' f L
 | 0, _ => rfl
 | f + 1, L => by
  unfold run
  by_cases h1 : L.at_ < n
  ·rw [if_pos h1, if_pos h1, ← hp _ h1, looks_congr (hc _ h1)]
   have ih := run_congr hp hc f
   simp only [ih]
  ·rw [if_neg h1, if_neg h1]
theorem start_ext (n m : Nat) (hn : 1 ≤ n) : (start n).ext m = start (n + m) := by
 unfold start L0 Lk.ext
 simp only
 rw [← List.replicate_append_replicate, List.set_append_left _ _ (by simp; omega)]
theorem rd_append_left {l m : List Int} {a : Nat} (h : a < l.length) : rd (l ++ m) (a : Int) = rd l (a : Int) := by
 rw [rdi _ _ h, rdi _ _ (by simp; omega)]
 exact List.getElem_append_left h
theorem ver_ext {ws ks : List Int} {L : Lk} (hn : 1 ≤ ws.length) (h : verR ws ks = .ok L) (more : List Int) : outOf (verR (ws ++ more) ks) = outOf (.ok L) := by
 have h1 := verR_run ws ks
 rw [h] at h1
 obtain ⟨g, L', h2, h3⟩ := run_ext (pt' := pto (ws ++ more)) more.length (fun a ha => by unfold pto; rw [rd_append_left ha]) _ _ _ (by simp [start, L0]) h1
 rw [start_ext _ _ hn, ← List.length_append] at h2
 rw [verR_of h2]
 exact out_same h3
def Bad {α : Type} (f : Except Int α) : Prop := ∀ e, f = .error e → e ≠ 0
theorem Bad.bind {α β : Type} {f : Except Int α} {g : α → Except Int β} (hf : Bad f) (hg : ∀ x, Bad (g x)) : Bad (f.bind g) := by
 intro e h
 cases f with
 | error x => cases h; exact hf _ rfl
 | ok t => exact hg t e h
theorem Bad.ok {α : Type} {x : α} : Bad (Except.ok x : Except Int α) := fun e h => by cases h
theorem Bad.err {α : Type} {e : Int} (h : e ≠ 0) : Bad (Except.error e : Except Int α) := fun x h2 => by cases h2; exact h
theorem Bad.ite {α : Type} {c : Prop} [Decidable c] {f g : Except Int α} (hf : Bad f) (hg : Bad g) : Bad (if c then f else g) := by split <;> assumption
theorem bad_needs (k : Nat) (s : St) : Bad (needs k s) := by
 obtain ⟨ks, r⟩ := s
 cases ks with
 | nil => exact Bad.err (by decide)
 | cons a t => exact Bad.ite Bad.ok (Bad.err (by decide))
theorem bad_gets (k : Nat) (s : St) : Bad (gets k s) := Bad.ite Bad.ok (Bad.err (by decide))
theorem bad_opened (s : St) : Bad (opened s) := Bad.ite Bad.ok (Bad.err (by decide))
theorem bad_many : ∀ (n : Nat) (s : St), Bad (many n s)
 | 0, s => Bad.ok
 | n + 1, s => Bad.bind (bad_needs 3 s) (bad_many n)
theorem bad_call (k : Nat) (s : St) : Bad (call k s) := by
 unfold call
 exact Bad.bind (bad_needs 3 s) fun t => Bad.bind (Bad.ite (bad_needs _ _) Bad.ok) fun u => Bad.ite (bad_gets _ _) (Bad.ite (bad_gets _ _) (bad_gets _ _))
theorem bad_behind (cell : Nat → Nat) (s : St) (a b op : Nat) : Bad (behind cell s a b op) := by
 unfold behind
 split <;> first
  | exact Bad.ok
  | exact bad_gets _ _
  | exact bad_needs _ _
  | exact bad_call _ _
  | exact bad_opened _
  | exact Bad.ite (bad_gets _ _) (Bad.err (by decide))
  | exact Bad.ite Bad.ok (Bad.err (by decide))
  | exact Bad.bind (bad_needs _ _) fun t => bad_gets _ _
  | exact Bad.bind (bad_needs _ _) fun t => bad_opened _
  | exact Bad.bind (bad_many _ _) fun t => bad_opened _
  | exact Bad.bind (bad_needs _ _) fun t => Bad.bind (bad_needs _ _) fun u => bad_gets _ _
  | exact Bad.bind (bad_needs _ _) fun t => Bad.bind (bad_needs _ _) fun u => Bad.bind (bad_needs _ _) fun v => Bad.bind (bad_gets _ _) fun x => bad_gets _ _
  | (unfold keeps; split; exact Bad.err (by decide); exact Bad.ite Bad.ok (Bad.err (by decide)))
theorem bad_comes (n : Nat) (L : Lk) (a : Nat) (s : St) : Bad (comes n L a s) := by
 unfold comes
 refine Bad.ite ?_ (Bad.err (by decide))
 split
 ·exact Bad.ite Bad.ok (Bad.err (by decide))
 ·exact Bad.ok
theorem bad_looks (n : Nat) (cell : Nat → Nat) (L : Lk) (a op A B : Nat) : Bad (looks n cell L a op A B) := by
 unfold looks
 refine Bad.ite ?_ ?_
 ·unfold haltOf
  exact Bad.ite (Bad.ite Bad.ok (Bad.err (by decide))) (Bad.err (by decide))
 ·refine Bad.bind (bad_behind _ _ _ _ _) fun s => Bad.bind ?_ fun far => Bad.bind ?_ fun L1 => ?_
  ·unfold farOf
   exact Bad.ite (bad_gets _ _) (Bad.ite Bad.ok Bad.ok)
  ·unfold nextOf
   exact Bad.ite Bad.ok (bad_comes _ _ _ _)
  ·unfold jumpOf
   exact Bad.ite (bad_comes _ _ _ _) (Bad.ite (bad_comes _ _ _ _) Bad.ok)
theorem run_bad {n : Nat} {cell : Nat → Nat} {pt : Nat → Nat × Nat × Nat} : ∀ (f : Nat) (L : Lk) (e : Int) (a : Nat), run n cell pt f L = some (.error (e, a)) → e ≠ 0
 | 0, _, _, _, h => by cases h
 | f + 1, L, e, a, h => by
  unfold run at h
  split at h
  ·split at h
   ·split at h
    ·rename_i x hx
     cases h
     exact bad_looks _ _ _ _ _ _ _ _ hx
    ·exact run_bad f _ e a h
   ·exact run_bad f _ e a h
  ·cases h
theorem bind_err {α β : Type} {f : Except Int α} {g : α → Except Int β} (h : ∀ x, f = .ok x → ∃ e, g x = .error e) : ∃ e, f.bind g = .error e := by
 cases f with
 | error e => exact ⟨e, rfl⟩
 | ok x => exact h x rfl
theorem one_err (cell : Nat → Nat) (L : Lk) (op A B : Nat) (h0 : look 0 L.tab = some ([], 0)) (h : op ≠ 13) : ∃ e, looks 1 cell L 0 op A B = .error e := by
 unfold looks
 rw [h0]
 by_cases e : op = 0
 ·rw [if_pos e]
  exact ⟨201, rfl⟩
 ·rw [if_neg e]
  refine bind_err fun s _ => bind_err fun far _ => ?_
  have : nextOf 1 L 0 op s = .error 200 := by
   unfold nextOf
   rw [if_neg h]
   rfl
  rw [this]
  exact ⟨200, rfl⟩
theorem verR_one (w : Int) (ks : List Int) : ∃ e, verR [w] ks = .error (e, 0) ∧ e ≠ 0 ∨ ∃ L, verR [w] ks = .ok L ∧ L.kind = 0 := by
 have hr : ∀ {f r}, run 1 (cellOf ks) (pto [w]) f (start 1) = some r → verR [w] ks = r := fun {f r} h => verR_of (ws := [w]) h
 cases e : looks 1 (cellOf ks) (start 1).take 0 (pto [w] 0).1 (pto [w] 0).2.1 (pto [w] 0).2.2 with
 | error x =>
  refine ⟨x, Or.inl ⟨hr (f := 1) ?_, bad_looks _ _ _ _ _ _ _ _ e⟩⟩
  unfold run
  rw [if_pos (by decide), if_pos (by decide)]
  show (match looks 1 (cellOf ks) (start 1).take 0 (pto [w] 0).1 (pto [w] 0).2.1 (pto [w] 0).2.2 with
   | .error e => some (Except.error (e, 0))
   | .ok L' => run 1 (cellOf ks) (pto [w]) 0 L') = _
  rw [e]
 | ok L =>
  refine ⟨0, Or.inr ?_⟩
  by_cases h : (pto [w] 0).1 = 13
  ·have hL : L.kind = 0 ∧ L.at_ = 0 ∧ L.left = [false] := by
    rw [h] at e
    unfold looks at e
    rw [if_neg (by decide)] at e
    replace e : jumpOf 1 (start 1).take 13 (pto [w] 0).2.1 (pto [w] 0).2.2 ([], 0) = .ok L := e
    unfold jumpOf at e
    rw [if_pos (Or.inl rfl)] at e
    unfold comes at e
    split at e
    ·rename_i ha
     rw [show (pto [w] 0).2.1 = 0 by omega] at e
     cases e
     exact ⟨rfl, rfl, rfl⟩
    ·cases e
   refine ⟨L.skip, hr (f := 3) ?_, hL.1⟩
   unfold run
   rw [if_pos (by decide), if_pos (by decide)]
   show (match looks 1 (cellOf ks) (start 1).take 0 (pto [w] 0).1 (pto [w] 0).2.1 (pto [w] 0).2.2 with
    | .error e => some (Except.error (e, 0))
    | .ok L' => run 1 (cellOf ks) (pto [w]) 2 L') = _
   rw [e]
   show run 1 (cellOf ks) (pto [w]) 2 L = _
   unfold run
   rw [if_pos (by rw [hL.2.1]; decide), if_neg (by rw [hL.2.1, hL.2.2]; decide)]
   unfold run
   rw [if_neg (by show ¬ L.at_ + 1 < 1; omega)]
  ·obtain ⟨x, hx⟩ := one_err (cellOf ks) (start 1).take _ (pto [w] 0).2.1 (pto [w] 0).2.2 rfl h
   rw [hx] at e
   cases e
theorem out_one (w : Int) (ks : List Int) : (outOf (verR [w] ks)).2.2.2.1 ≠ 0 ∧ (outOf (verR [w] ks)).2.2.2.2 = 0 := by
 obtain ⟨e, h | ⟨L, h1, h2⟩⟩ := verR_one w ks
 ·rw [h.1]
  exact ⟨h.2, rfl⟩
 ·rw [h1]
  have e : outOf (.ok L) = (0, 0, 0, 201, 0) := if_pos h2
  rw [e]
  exact ⟨by decide, rfl⟩
end Go.Proofs.YtcmdjpolgaejoaaDoor.Gd
namespace Go.Proofs.YtcmdjpolgaejoaaDoor.Gd
open Go.RowKit Go.Proofs.YtcmdjpolgaejoaaDoorW.PrintWords Go.Proofs.YtcmdjpolgaejoaaDoorW.PrintLast Go.Proofs.YtcmdjpolgaejoaaDoorW.PrintMore Go.Proofs.YtcmdjpolgaejoaaDoor.Code
set_option linter.unusedVariables false
set_option linter.unusedSimpArgs false
abbrev limsOf (o : Int × Int × Int × Int × Int) : Int × Int × Int := (o.1, o.2.1, o.2.2.1)
abbrev errOf (o : Int × Int × Int × Int × Int) : Int := o.2.2.2.1
abbrev atOf (o : Int × Int × Int × Int × Int) : Int := o.2.2.2.2
theorem cut_law {ws cs : List Int} {ns : List ByteArray} {ks : List Int} (h : errOf (verifyS ws cs ns ks) = 0) (more : List Int) :
  (errOf (verifyS (ws ++ more) cs ns ks) = 0 ∨ errOf (verifyS (ws ++ more) cs ns ks) = 180) ∧ (errOf (verifyS (ws ++ more) cs ns ks) = 0 → limsOf (verifyS (ws ++ more) cs ns ks) = limsOf (verifyS ws cs ns ks)) := by
 unfold verifyS at h ⊢
 by_cases hr : rightS ws cs ns ks = true
 ·rw [if_pos hr] at h ⊢
  cases e : verR ws ks with
  | error x =>
   exfalso
   obtain ⟨x, a⟩ := x
   have h1 := verR_run ws ks
   rw [e] at h1 h
   exact run_bad _ _ _ _ h1 h
  | ok L =>
   have h1 := ver_ext (right_parts hr).1.1 e more
   rw [e] at h
   by_cases h2 : rightS (ws ++ more) cs ns ks = true
   ·rw [if_pos h2, h1]
    exact ⟨Or.inl h, fun _ => rfl⟩
   ·rw [if_neg h2]
    exact ⟨Or.inr rfl, fun h => absurd h (by decide)⟩
 ·rw [if_neg hr] at h
  exact absurd h (by decide)
theorem first_law {ws cs : List Int} {ns : List ByteArray} {ks : List Int} (h : errOf (verifyS ws cs ns ks) = 0) : errOf (verifyS (ws.take 1) cs ns ks) ≠ 0 ∧ atOf (verifyS (ws.take 1) cs ns ks) = 0 := by
 have hn : 1 ≤ ws.length := by
  by_cases hr : rightS ws cs ns ks = true
  ·exact (right_parts hr).1.1
  ·unfold verifyS at h
   rw [if_neg hr] at h
   exact absurd h (by decide)
 cases ws with
 | nil => simp at hn
 | cons w t =>
  have e : verifyS [w] cs ns ks = outOf (verR [w] ks) ∨ verifyS [w] cs ns ks = (0, 0, 0, 180, 0) := by
   unfold verifyS
   by_cases hr : rightS [w] cs ns ks = true
   ·exact Or.inl (if_pos hr)
   ·exact Or.inr (if_neg hr)
  show errOf (verifyS [w] cs ns ks) ≠ 0 ∧ atOf (verifyS [w] cs ns ks) = 0
  rcases e with e | e <;> rw [e]
  ·exact out_one w ks
  ·exact ⟨by decide, rfl⟩
theorem opOK_more {cs : List Int} {n2 n3 n2' n3' : Int} (h2 : n2 ≤ n2') (h3 : n3 ≤ n3') (more : List Int) {op a b : Int} (h : opOK cs n2 n3 op a b = true) : opOK (cs ++ more) n2' n3' op a b = true := by
 unfold opOK at h ⊢
 have hrd : 0 ≤ a → a < (cs.length : Int) → rd (cs ++ more) a = rd cs a := fun h0 h1 => by
  obtain ⟨k, rfl⟩ : ∃ k : Nat, a = (k : Int) := ⟨a.toNat, by omega⟩
  exact rd_append_left (by omega)
 have hlen : ((cs ++ more).length : Int) = cs.length + more.length := by simp
 repeat (rcases ite_or h with ⟨c, h⟩ | ⟨c, h⟩; · (rw [if_pos c]; simp only [Bool.and_eq_true, Bool.or_eq_true, decide_eq_true_eq] at h ⊢; first | (rw [hrd h.1.1 h.1.2]; omega) | omega)); rw [if_neg c]
 exact h
theorem wOK_more {cs : List Int} {ns ns' : List ByteArray} {ks ks' : List Int} (h2 : ns.length ≤ ns'.length) (h3 : ks.length ≤ ks'.length) (more : List Int) {x : Int} (h : wOK cs ns ks x = true) : wOK (cs ++ more) ns' ks' x = true :=
 opOK_more (by omega) (by omega) more h
theorem shift_law {ws cs : List Int} {ns ns' : List ByteArray} {ks ks' : List Int} (hw : U64 ws) (more : List Int) (h : errOf (verifyS ws cs ns ks) ≠ 180) (hl : cs.length + more.length ≤ 32768) (hn : ns.length ≤ ns'.length) (hn' : ns'.length ≤ 2000) (hN : ∀ s ∈ ns', Lex.nameOK s = true)
  (hk' : (ks ++ ks').length ≤ 256) (hK : ∀ x ∈ ks', kdOK x = true) : verifyS ws (cs ++ more) ns' (ks ++ ks') = verifyS ws cs ns ks := by
 unfold verifyS at h ⊢
 by_cases hr : rightS ws cs ns ks = true
 ·have hp := right_parts hr
  have hr' : rightS ws (cs ++ more) ns' (ks ++ ks') = true := by
   unfold rightS
   simp only [Bool.and_eq_true, decide_eq_true_eq, List.all_eq_true]
   refine ⟨⟨hp.1.1, hp.1.2.1, by rw [List.length_append]; exact hl, hn', hk'⟩, hN, ?_, fun x hx => wOK_more hn (by simp) more (hp.2.2.2 x hx)⟩
   intro x hx
   rcases List.mem_append.1 hx with hx | hx
   ·exact hp.2.2.1 x hx
   ·exact hK x hx
  rw [if_pos hr, if_pos hr']
  congr 1
  refine verR_of (f := mu ws.length (start ws.length) + 1) ?_
  rw [← verR_run ws ks]
  refine run_congr (fun _ _ => rfl) (fun a ha hop => ?_) _ _
  have h1 := (ops_at hw hr a ha).2.2.1 hop
  unfold cellOf
  rw [rd_append_left h1]
 ·rw [if_neg hr] at h
  exact absurd rfl h
end Go.Proofs.YtcmdjpolgaejoaaDoor.Gd
namespace Go.Proofs.YtcmdjpolgaejoaaDoor.Gd
open Go.RowKit Go.Proofs.YtcmdjpolgaejoaaDoorW.PrintWords Go.Proofs.YtcmdjpolgaejoaaDoorW.PrintLast Go.Proofs.YtcmdjpolgaejoaaDoorW.PrintMore Go.Proofs.YtcmdjpolgaejoaaDoor.Code Go.Proofs.YtcmdjpolgaejoaaDoor.C Go.Proofs.YtcmdjpolgaejoaaDoor.Pack
set_option linter.unusedVariables false
set_option linter.unusedSimpArgs false
theorem parts_at {w : World} (hG : Glob w) {x : Int} (h0 : 0 ≤ x) (h1 : x ≤ 18446744073709551615) : PartsAt w x (ptx x).1 (ptx x).2.1 (ptx x).2.2 := fun W hb => by
 obtain ⟨e1, e2, e3⟩ := ptx_cast h0
 rw [e1, e2, e3]
 exact pack_Parts.calls x _ _ _ W (hG.below hb) (parts_f h0 h1)
theorem code_ok {C : Cv} {w : World} (hr : C.Reads w) (h : rightS C.l0 C.l1 C.l2 C.l3 = true) : CodeOk C (cellOf C.l3) w :=
 ⟨hr, (right_parts h).1.2.2.2.2, (right_parts h).1.2.1, fun a ha => (cell_at h a ha).1, fun a ha => (cell_at h a ha).2⟩
theorem verify_all (C : Cv) (w : World) (hr : C.Reads w) (hU : U64 C.l0) (hG : Glob w) :
  Calls Tryd.prog 12 #[.agg #[.slice C.A0 C.l0.length C.c0, .slice C.A1 C.l1.length C.c1, .slice C.A2 C.l2.length C.c2, .slice C.A3 C.l3.length C.c3]] w fun e w' => e = .returned (outV (verifyS C.l0 C.l1 C.l2 C.l3)) ∧ Below w.heap.size w w' := by
 have hR := right_at C w hr hU hG
 unfold verifyS
 by_cases h : rightS C.l0 C.l1 C.l2 C.l3 = true
 ·rw [if_pos h]
  rw [h] at hR
  exact verify_calls C (cellOf C.l3) (pto C.l0) w (code_ok hr h) (right_parts h).1.1 (fun a ha => parts_at hG (hU _ (rd_mem ha)).1 (hU _ (rd_mem ha)).2) (fun a ha => ops_at hU h a ha) hR _ _ (verR_run C.l0 C.l3)
 ·rw [if_neg h]
  rw [Bool.eq_false_iff.2 h] at hR
  exact verify_form C w hR
theorem verify_at (A0 : Option Addr) (c0 : Nat) (l0 : List Int) (A1 : Option Addr) (c1 : Nat) (l1 : List Int) (A2 : Option Addr) (c2 : Nat) (l2 : List ByteArray) (A3 : Option Addr) (c3 : Nat) (l3 : List Int) (s r k e a : Int) (w : World)
  (hr0 : Kd.C (Kd.int .u64) w A0 l0.length l0) (hc0 : l0.length ≤ c0) (hr1 : Kd.C (Kd.int .i64) w A1 l1.length l1) (hc1 : l1.length ≤ c1) (hr2 : Kd.C Kd.string w A2 l2.length l2) (hc2 : l2.length ≤ c2) (hr3 : Kd.C (Kd.int .i64) w A3 l3.length l3) (hc3 : l3.length ≤ c3)
  (hU : U64 l0) (hG : Glob w) (hv : verifyS l0 l1 l2 l3 = (s, r, k, e, a)) :
  Calls Tryd.prog 12 #[.agg #[.slice A0 l0.length c0, .slice A1 l1.length c1, .slice A2 l2.length c2, .slice A3 l3.length c3]] w fun x w' => x = .returned (.tuple #[.agg #[.int .i64 s, .int .i64 r, .int .i64 k], .int .i64 e, .int .i64 a]) ∧ Below w.heap.size w w' := by
 have h := verify_all ⟨A0, c0, l0, A1, c1, l1, A2, c2, l2, A3, c3, l3⟩ w ⟨hr0, hc0, hr1, hc1, hr2, hc2, hr3, hc3⟩ hU hG
 simp only at h
 rw [hv] at h
 exact h
def awRaws : List SRaw := [⟨1, 0, 1⟩, ⟨1, 1, 1⟩, ⟨6, 0, 0⟩, ⟨0, 0, 0⟩]
def awWs : List Int := [72057594037927937, 72057594306363393, 432345564227567616, 0]
def awRaws2 : List SRaw := [⟨6, 0, 0⟩, ⟨0, 0, 0⟩]
def awWs2 : List Int := [432345564227567616, 0]
theorem aw1 : verifyS awWs [1, 2] [] [] = (2, 0, 1, 0, 0) := by decide +kernel
theorem aw2 : verifyS awWs2 [] [] [] = (0, 0, 0, 201, 0) := by decide +kernel
theorem awc1 : isthmuslaw18_Code.f awRaws true = some awWs := by decide +kernel
theorem awc2 : isthmuslaw18_Code.f awRaws2 true = some awWs2 := by decide +kernel
theorem awu1 : U64 awWs := by unfold U64 awWs; intro x hx; simp at hx; omega
theorem awu2 : U64 awWs2 := by unfold U64 awWs2; intro x hx; simp at hx; omega
end Go.Proofs.YtcmdjpolgaejoaaDoor.Gd
