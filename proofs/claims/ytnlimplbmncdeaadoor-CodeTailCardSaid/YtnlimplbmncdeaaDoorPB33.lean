/- The laws CodeBack, CodeBackWords, CodeLists, CodeTail of the program hold, as their cards say: texts put together by a program, 34 of 39. -/
import Derived.Test.YtnlimplbmncdeaaDoorPB12
import Derived.Test.YtnlimplbmncdeaaDoorPB30
import Derived.Test.YtnlimplbmncdeaaDoorPB31
import Derived.Test.YtnlimplbmncdeaaDoorPB32
import Derived.Test.YtnlimplbmncdeaaDoorRows
import Derived.ProofKit
import Derived.LaidMore
import Derived.OpenShut
import Derived.Stop.Joined
namespace Go.Proofs.YtnlimplbmncdeaaDoor.Code
open Go.RowKit Go.Proofs.YtnlimplbmncdeaaDoorW.PrintWords Go.Proofs.YtnlimplbmncdeaaDoorW.PrintMore Go.Proofs.YtnlimplbmncdeaaDoor.C Go.Proofs.YtnlimplbmncdeaaDoor.PackBits Go.Proofs.YtnlimplbmncdeaaDoor.Sevens Go.Proofs.YtnlimplbmncdeaaDoor.Pack Go.Proofs.YtnlimplbmncdeaaDoor.Lex Go.Proofs.YtnlimplbmncdeaaDoor.Str
theorem one_less {ws cs : List Int} {ns : List ByteArray} {ks : List Int} (s : ByteArray) (hs : s.size ≤ 800008) (h : bytesOf s = encS ws cs ns ks) {k : Nat} (hk : 1000000 ≤ k) : code_Decode.f k (s.extract 1 s.size) = some bad5 := by
 rcases dec_cases (s.extract 1 s.size) (by rw [ByteArray.size_extract]; omega) hk with g | ⟨ws', cs', ns', ks', _, _, _, _, g⟩
 ·exact g
 ·exfalso
  have e1 := congrArg bytesOf g
  rw [ext_take, bytes_nums (encS_bytes _ _ _ _), h] at e1
  unfold encS laidS at e1
  simp at e1
theorem CodeBack_f {l0 l1 : List Int} {l2 : List ByteArray} {l3 : List Int} (hw : U64 l0) (hc : I64 l1) (s : ByteArray) (hs : s.size ≤ 140737488351232) {k : Nat} (hk : 5000010 ≤ k) :
  isthmuslaw18_CodeBack.f k l0 l1 l2 l3 s = some true := by
 obtain ⟨k, rfl⟩ : ∃ m, k = m + 3 := ⟨k - 3, by omega⟩
 have J2 : ∀ j, 5000000 ≤ j → isthmuslaw18_CodeBack.j2 (j + 1) s = some true := fun j hj => by
  rw [isthmuslaw18_CodeBack.j2]
  rcases dec_cases s (by omega) (k := j) (by omega) with h | ⟨ws, cs, ns, ks, h, hw', hc', hR, e⟩
  ·rw [h, bs]
   exact if_neg (by decide)
  ·rw [h, bs]
   refine (if_pos rfl).trans ?_
   show (code_Encode.f j ws cs ns ks).bind _ = _
   rw [encode_f ns ks hw' hc' (by omega), bs]
   unfold encV
   rw [if_pos hR]
   refine (if_pos rfl).trans ?_
   show some ((strOfNums (encS ws cs ns ks)).toList == s.toList) = some true
   rw [← e, beq_self_eq_true]
 unfold isthmuslaw18_CodeBack.f
 rw [awake_f (by omega), bs, encode_f l2 l3 hw hc (by omega), bs, right_f _ _ _ _ hw (by omega), bs, if_pos rfl]
 unfold encV
 by_cases hR : rightS l0 l1 l2 l3 = true
 ·have hL := right_lays hw hc hR
  have hlen := enc_len hw hc hR
  have hB := encS_bytes l0 l1 l2 l3
  rw [if_pos hR, hR]
  refine (if_neg (by show ¬ (true != ((0 : Int) == 0)) = true; decide)).trans ?_
  refine (if_pos rfl).trans ?_
  show isthmuslaw18_CodeBack.j0 (k + 3) s (strOfNums (encS l0 l1 l2 l3)) 0 false l0 l1 l2 l3 = some true
  rw [isthmuslaw18_CodeBack.j0, if_neg (by decide), if_pos rfl, dec_enc hw hc hR (by omega), bs]
  show (isthmusref18_Same.f (k + 2) l0 l1 l2 l3 l0 l1 l2 l3).bind _ = _
  have a0 := hL.l0; have a1 := hL.l1; have a2 := hL.l2; have a3 := hL.l3
  rw [same_f _ _ _ _ (by omega) (by omega) (by omega) (by omega) (by omega), bs]
  refine (if_pos rfl).trans ?_
  show isthmuslaw18_CodeBack.j1 (k + 2) s (strOfNums (encS l0 l1 l2 l3)) false = some true
  have hz : (strOfNums (encS l0 l1 l2 l3)).size = (encS l0 l1 l2 l3).length := strOfNums_size _
  have hb : bytesOf (strOfNums (encS l0 l1 l2 l3)) = encS l0 l1 l2 l3 := bytes_nums hB
  have e1 : strOfNums (encS l0 l1 l2 l3) ++ (⟨#[48]⟩ : ByteArray) = strOfNums (laidS l0 l1 l2 l3 ++ (le 8 (sumS (laidS l0 l1 l2 l3)) ++ [48])) := by
   apply ext_bytes
   rw [bytes_append, hb, bytes_nums (BY.app (laidS_bytes _ _ _ _) (BY.app (le_bytes _ _) (by intro x hx; simp at hx; omega)))]
   unfold encS
   rw [List.append_assoc]
   rfl
  rw [isthmuslaw18_CodeBack.j1, if_neg (by decide), if_pos (by omega), e1, bad_more hw hc hR (by omega) (BY.app (le_bytes _ _) (by intro x hx; simp at hx; omega)) (by rw [List.length_append, le_len]; decide) (fun h => by
   have := congrArg List.length h
   rw [List.length_append, le_len] at this
   simp at this), bs, if_pos (by omega), one_less _ (by omega) hb (by omega), bs]
  refine (if_pos rfl).trans ((if_pos rfl).trans ?_)
  exact J2 k (by omega)
 ·rw [if_neg hR]
  have hR' : rightS l0 l1 l2 l3 = false := by simpa using hR
  rw [hR']
  refine (if_neg (by decide)).trans ((if_neg (by decide)).trans ((if_pos rfl).trans ?_))
  have hne : ((⟨#[]⟩ : ByteArray).toList != ([] : List UInt8)) = false := by rw [toList_data]; rfl
  show isthmuslaw18_CodeBack.j0 (k + 3) s ⟨#[]⟩ 180 ((⟨#[]⟩ : ByteArray).toList != ([] : List UInt8)) l0 l1 l2 l3 = some true
  rw [hne, isthmuslaw18_CodeBack.j0, if_neg (by decide), if_neg (by decide)]
  exact J2 (k + 1) (by omega)
theorem CodeBack {l0 l1 : List Int} {l2 : List ByteArray} {l3 : List Int} (hw : U64 l0) (hc : I64 l1) {s : ByteArray} (hs : s.size ≤ 140737488351232) : ∃ k, isthmuslaw18_CodeBack.f k l0 l1 l2 l3 s = some true := ⟨5000010, CodeBack_f hw hc s hs (Nat.le_refl _)⟩
theorem CodeBackWords {l0 : List SRaw} {l1 : List Int} {l2 : List ByteArray} (h : ∀ x ∈ l0, RW x) (hc : I64 l1) (z0 : l0.length * 8 ≤ 140737488351232) : ∃ k, isthmuslaw18_CodeBackWords.f k l0 l1 l2 = some true := by
 refine ⟨5000010, ?_⟩
 unfold isthmuslaw18_CodeBackWords.f
 rw [code_f h (by omega), bs]
 exact CodeBack_f (code_u h) hc _ (by show (0 : Nat) ≤ _; omega) (Nat.le_refl _)
theorem CodeLists {l0 : List SRaw} (h : ∀ x ∈ l0, RW x) (z0 : l0.length * 8 ≤ 140737488351232) : ∃ k, isthmuslaw18_CodeLists.f k l0 = some true := by
 obtain ⟨k, hk⟩ : ∃ k : Nat, k = 5000000 := ⟨_, rfl⟩
 refine ⟨k, ?_⟩
 have hw := code_u h
 have hc : I64 [] := fun x hx => by simp at hx
 unfold isthmuslaw18_CodeLists.f
 rw [awake_f (by omega), bs, code_f h (by omega), bs, encode_f [] [] hw hc (by omega), bs, sumc_f [] [] hw hc (by omega), bs, right_f _ _ _ _ hw (by omega), bs, if_pos rfl]
 unfold encV
 by_cases hR : rightS (l0.map wdV) [] [] [] = true
 ·rw [if_pos hR]
  refine (if_pos rfl).trans ?_
  show (code_Decode.f k (strOfNums (encS (l0.map wdV) [] [] []))).bind _ = _
  rw [dec_enc hw hc hR (by omega), bs]
  exact if_pos ⟨rfl, by simp, rfl, rfl, rfl⟩
 ·rw [if_neg hR]
  exact (if_neg (by decide)).trans (if_pos rfl)
end Go.Proofs.YtnlimplbmncdeaaDoor.Code
namespace Go.Proofs.YtnlimplbmncdeaaDoor
open Go.ChangeShapes Go.WideShapes Go.ChangeAt Go.RowKit
namespace Laid
theorem gF : Tryd.prog.globalNamed "isthmus/pack.fields" = some 0 := by kernel_rfl
theorem tF : (Tryd.prog.globals[0]?).map (·.type) = some 92 := by kernel_rfl
abbrev laid1 : List (String × DataW Unit) := [("isthmus/pack.fields", Rows.laid_isthmus_pack_fields)]
theorem door_met (os : Os) (args : Array Value) : laidMetH Tryd.prog laid1 ((World.doorLaid Tryd.prog 400 os).forCall (fun _ _ => 0) ⟨#[], args, []⟩).memory :=
 laidMetH_of_parts3 (fuel := 8) (laidMet_of_run' 8 (by kernel_rfl) (by kernel_rfl)) (by kernel_rfl) (by kernel_rfl)
theorem one_int {H : Type} {enc : TypeId × Value → H} {w : World} {m : Nat} {cs : List Value} {x : DataW H × List MemPlace} {k : Int} (h : DataW.trod enc Tryd.prog w 0 (fun _ => true) false m 85 cs = some x) (e : x.1 = .lit (.int .u64 k)) : cs = [.int .u64 k] := by
 obtain ⟨n, e1, e2, _⟩ := DataW.trod_int Tryd.underlying85 h
 subst e2
 simp only [DataW.lit.injEq, Lit.int.injEq, true_and] at e
 subst e
 exact e1
theorem one_field {w : World} {m : Nat} {cs : List Value} {x : DataW Unit × List MemPlace} {a b : Int} {enc : TypeId × Value → Unit} (h : DataW.trod enc Tryd.prog w 0 (fun _ => true) false m 91 cs = some x) (e : x.1 = .agg [.lit (.int .u64 a), .lit (.int .u64 b)]) : cs = [.int .u64 a, .int .u64 b] := by
 obtain ⟨y0, y1, n, rfl, hl, h0, h1⟩ := trod_struct2 Tryd.underlying91 h
 have c42 : Tryd.prog.cellsOf 85 = 1 := by kernel_rfl
 have c46 : Tryd.prog.cellsOf 91 = 2 := by kernel_rfl
 rw [c46] at hl
 rw [c42] at h0 h1
 simp only [DataW.agg.injEq, List.cons.injEq, and_true] at e
 match cs, hl with
 | [c0, c1], _ =>
  have e0 := one_int h0 e.1
  have e1 := one_int h1 e.2
  simp at e0 e1
  rw [e0, e1]
theorem of_laid {W : World} (h : laidMetH Tryd.prog laid1 W) : C.Glob W := by
 rw [MakeChecks.laidMetH_plain _ _ _ (by kernel_rfl)] at h
 obtain ⟨ps, ⟨g0, t0, cs0, f0, p0, q0, hg0, ht0, hv0, hd0, _, _⟩, _⟩ := h
 obtain rfl := Option.some.inj (gF.symm.trans hg0)
 obtain rfl := Option.some.inj (tF.symm.trans ht0)
 obtain ⟨xs, m1, rfl, hx1, hlen, hn3, hel⟩ := DataW.trod_array Tryd.underlying92 hd0
 have c46 : Tryd.prog.cellsOf 91 = 2 := by kernel_rfl
 have c47 : Tryd.prog.cellsOf 92 = 6 := by kernel_rfl
 rw [c46] at hel
 rw [c47] at hlen
 have e0 := hel 0 (by decide)
 have e1 := hel 1 (by decide)
 have e2 := hel 2 (by decide)
 have hc : ∀ i, W.cell? ⟨0, i, none⟩ = cs0[i]? := fun i => World.var?_cell hg0 hv0 i
 obtain ⟨l⟩ := cs0
 simp only [Prod.mk.injEq, Rows.laid_isthmus_pack_fields, DataW.agg.injEq] at hx1
 obtain ⟨c0, c1, c2, c3, c4, c5, rfl⟩ : ∃ c0 c1 c2 c3 c4 c5, l = [c0, c1, c2, c3, c4, c5] := by
  match l, hlen with
  | [c0, c1, c2, c3, c4, c5], _ => exact ⟨_, _, _, _, _, _, rfl⟩
 match xs, hn3, hx1, e0, e1, e2 with
 | [x0, x1, x2], _, hx1, e0, e1, e2 =>
  simp only [List.map_cons, List.map_nil, List.cons.injEq, and_true] at hx1
  have a0 := one_field e0 hx1.1.1.symm
  have a1 := one_field e1 hx1.1.2.1.symm
  have a2 := one_field e2 hx1.1.2.2.symm
  simp at a0 a1 a2
  obtain ⟨rfl, rfl⟩ := a0
  obtain ⟨rfl, rfl⟩ := a1
  obtain ⟨rfl, rfl⟩ := a2
  exact ⟨hc 0, hc 1, hc 2, hc 3, hc 4, hc 5⟩
end Laid
end Go.Proofs.YtnlimplbmncdeaaDoor
