/- Scan as one plain function: the program's and the document's compute it. -/
import Derived.Test.YtijcoddbkefmlaaLexScan
namespace Go.Proofs.Ytijcoddbkefmlaa.Lex
open Go.RowKit Go.Proofs.YtijcoddbkefmlaaW.PrintWords Go.Proofs.YtijcoddbkefmlaaW.PrintMore Go.Proofs.Ytijcoddbkefmlaa.L Go.Proofs.Ytijcoddbkefmlaa.Str

theorem ref_token {s : ByteArray} (hs : s.size ≤ 100000) {i k : Nat} (hi : i < s.size) (hk : s.size + 60 < k) :
    isthmusref11_token.f k s (i : Int) = some ((tokV (sub s i)).1, (tokV (sub s i)).2.1, (tokV (sub s i)).2.2.1, (if (tokV (sub s i)).2.2.2.2 = 0 then (i : Int) else 0), (if (tokV (sub s i)).2.2.2.2 = 0 then ((i + (tokV (sub s i)).2.2.2.1 : Nat) : Int) else 0), (tokV (sub s i)).2.2.2.2) := by
  obtain ⟨k, rfl⟩ : ∃ m, k = m + 1 := ⟨k - 1, by omega⟩
  have hy : 0 < (sub s i).size := by rw [size_sub]; omega
  have hb := bt_range (sub s i) 0
  have h0 := bt_sub0 hi
  have hi0 : (0 : Int) ≤ (i : Int) := Int.natCast_nonneg i
  have hi1 : (i : Int) < (s.size : Int) := Int.ofNat_lt.2 hi
  unfold isthmusref11_token.f tokV
  rw [if_pos hi0, if_pos hi1, digit_f, bs, small_f, great_f, bs, bs, ← h0, ref_ends hs hi (by omega), ← h0]
  by_cases hd : dg (bt (sub s i) 0) = true
  · rw [if_pos hd, if_pos hd, if_pos hd, bs]
    have hfl := fr_le dg (sub s i)
    rw [size_sub] at hfl
    have hfp := fr_pos (p := dg) hy hd
    rw [if_pos (by omega), if_pos (by omega), show ((i : Nat) : Int).toNat = i from rfl, show ((i + fr dg (sub s i) : Nat) : Int).toNat = i + fr dg (sub s i) from rfl, ext_sub]
    have hsz : ((sub s i).extract 0 (fr dg (sub s i))).size = fr dg (sub s i) := by rw [ByteArray.size_extract, size_sub]; omega
    have hdg : ∀ j, j < ((sub s i).extract 0 (fr dg (sub s i))).size → 48 ≤ bt ((sub s i).extract 0 (fr dg (sub s i))) j ∧ bt ((sub s i).extract 0 (fr dg (sub s i))) j ≤ 57 := by
      intro j hj
      have h1 := bytes_at ((sub s i).extract 0 (fr dg (sub s i))) j hj
      have hbe : bytesOf ((sub s i).extract 0 (fr dg (sub s i))) = (bytesOf (sub s i)).takeWhile dg := by
        rw [bytes_extract, List.drop_zero, Nat.sub_zero]
        unfold fr
        exact (List.prefix_iff_eq_take.1 (List.takeWhile_prefix dg)).symm
      have hm : bt ((sub s i).extract 0 (fr dg (sub s i))) j ∈ (bytesOf (sub s i)).takeWhile dg := by
        rw [← h1, ← hbe]
        exact List.getElem_mem _
      have := mem_tw dg _ _ hm
      unfold dg at this
      exact of_decide_eq_true this
    obtain ⟨m, b, e1, e2, e3⟩ := ref_number (by omega) hdg (show 30 ≤ k + 1 by omega)
    rw [e1, bs]
    cases b with
    | true => rw [if_pos rfl, e2 rfl]; rfl
    | false => rw [if_neg (by simp), e3 rfl]; rfl
  · rw [if_neg hd, if_neg hd]
    by_cases hl : (sm (bt (sub s i) 0) || gr (bt (sub s i) 0)) = true
    · rw [if_pos hl]
      have e : (if sm (bt (sub s i) 0) = true then isthmusref11_token.j0 (k + 1) s (i : Int) true else isthmusref11_token.j0 (k + 1) s (i : Int) (gr (bt (sub s i) 0))) = isthmusref11_token.j0 (k + 1) s (i : Int) true := by
        by_cases h3 : sm (bt (sub s i) 0) = true
        · rw [if_pos h3]
        · have h4 : gr (bt (sub s i) 0) = true := by simpa [h3] using hl
          rw [if_neg h3, h4]
      rw [e]
      have hfl := fr_le wd (sub s i)
      rw [size_sub] at hfl
      simp only [isthmusref11_token.j0]
      rw [if_pos trivial, ref_ends hs hi (by omega), ← h0, if_neg hd, bs, if_pos hi0, if_pos (by omega), if_pos (by omega), show ((i : Nat) : Int).toNat = i from rfl, show ((i + fr wd (sub s i) : Nat) : Int).toNat = i + fr wd (sub s i) from rfl, ext_sub, ref_word _ (by omega), bs, ref_isName _ (by omega)]
      by_cases hw : isW ((sub s i).extract 0 (fr wd (sub s i))) = true
      · rw [if_pos hw, if_pos hw]
        rfl
      · rw [if_neg hw, if_neg hw, bs]
        by_cases hn : nameOK ((sub s i).extract 0 (fr wd (sub s i))) = true
        · rw [if_pos hn, if_pos hn]
          rfl
        · rw [if_neg hn, if_neg hn]
          rfl
    · rw [if_neg hl]
      have h3 : ¬ sm (bt (sub s i) 0) = true := fun h => hl (by rw [h]; rfl)
      have h4 : gr (bt (sub s i) 0) = false := by
        cases h : gr (bt (sub s i) 0) with
        | false => rfl
        | true => exact absurd (by rw [h]; simp) hl
      rw [if_neg h3, h4]
      simp only [isthmusref11_token.j0]
      have hsub : s.extract ((i : Nat) : Int).toNat s.size = sub s i := rfl
      rw [if_neg (by simp), if_pos hi0, if_pos (by omega), hsub, ref_sign hy (by omega), bs]
      have hemp : (emp.toList = ([] : List UInt8)) := by rw [toList_data]; rfl
      by_cases ht : two (sub s i) = true
      · have h2 : 2 ≤ (sub s i).size := by unfold two at ht; exact (of_decide_eq_true ht).1
        have hsz : ((sub s i).extract 0 2).size = 2 := by rw [ByteArray.size_extract]; omega
        have hne : ¬ ((sub s i).extract 0 2).toList = ([] : List UInt8) := by
          intro hh
          have := congrArg List.length hh
          rw [toList_data, data_length, hsz] at this
          simp at this
        rw [size_sub] at h2
        rw [if_pos ht, if_pos ht, if_neg hne, hsz, show wrap64 ((i : Int) + ((2 : Nat) : Int)) = ((i + 2 : Nat) : Int) from (w64_id (by omega) (by omega)).trans (by omega)]
        rfl
      · rw [if_neg ht, if_neg ht]
        by_cases hg : sg (bt (sub s i) 0) = true
        · have hsz : ((sub s i).extract 0 1).size = 1 := by rw [ByteArray.size_extract]; omega
          have hne : ¬ ((sub s i).extract 0 1).toList = ([] : List UInt8) := by
            intro hh
            have := congrArg List.length hh
            rw [toList_data, data_length, hsz] at this
            simp at this
          rw [if_pos hg, if_pos hg, if_neg hne, hsz, show wrap64 ((i : Int) + ((1 : Nat) : Int)) = ((i + 1 : Nat) : Int) from (w64_id (by omega) (by omega)).trans (by omega)]
          rfl
        · rw [if_neg hg, if_neg hg, if_pos hemp]
          rfl

/-- A token that is one takes a byte at least, and no more than there are. -/
theorem tok_len {x : ByteArray} (h : 0 < x.size) (e : (tokV x).2.2.2.2 = 0) : 0 < (tokV x).2.2.2.1 ∧ (tokV x).2.2.2.1 ≤ x.size := by
  unfold tokV at e ⊢
  by_cases hd : dg (bt x 0) = true
  · rw [if_pos hd] at e ⊢
    cases hn : numV (x.extract 0 (fr dg x)) with
    | none => rw [hn] at e; simp at e
    | some v => exact ⟨fr_pos (p := dg) h hd, fr_le dg x⟩
  · rw [if_neg hd] at e ⊢
    by_cases hl : (sm (bt x 0) || gr (bt x 0)) = true
    · rw [if_pos hl] at e ⊢
      have hw : wd (bt x 0) = true := by
        unfold wd
        simp only [Bool.or_eq_true] at hl ⊢
        rcases hl with h | h
        · exact .inl (.inl (.inr h))
        · exact .inl (.inr h)
      by_cases hi : isW (x.extract 0 (fr wd x)) = true
      · rw [if_pos hi]; exact ⟨fr_pos h hw, fr_le wd x⟩
      · rw [if_neg hi] at e ⊢
        by_cases hn : nameOK (x.extract 0 (fr wd x)) = true
        · rw [if_pos hn]; exact ⟨fr_pos h hw, fr_le wd x⟩
        · rw [if_neg hn] at e; simp at e
    · rw [if_neg hl] at e ⊢
      by_cases ht : two x = true
      · rw [if_pos ht]
        have h2 : 2 ≤ x.size := by unfold two at ht; exact (of_decide_eq_true ht).1
        exact ⟨by show 0 < 2; omega, h2⟩
      · rw [if_neg ht] at e ⊢
        by_cases hg : sg (bt x 0) = true
        · rw [if_pos hg]; exact ⟨by show 0 < 1; omega, h⟩
        · rw [if_neg hg] at e; simp at e

/-- What Scan does, from a place on. -/
def scanV (s : ByteArray) : Nat → Nat → List S29 → List S29 × Int × Int
  | 0, _, _ => ([], 0, 0)
  | f + 1, i, acc =>
    if i < s.size then (if blk (bt s i) = true then scanV s f (i + 1) acc
      else if (tokV (sub s i)).2.2.2.2 = 0 then scanV s f (i + (tokV (sub s i)).2.2.2.1) (acc ++ [⟨(tokV (sub s i)).1, (tokV (sub s i)).2.1, (tokV (sub s i)).2.2.1, (i : Int)⟩])
      else ([], (tokV (sub s i)).2.2.2.2, (i : Int)))
    else (acc ++ [⟨0, 0, emp, (s.size : Int)⟩], 0, 0)
def scanS (s : ByteArray) : List S29 × Int × Int := if s.size > 2000 then ([], 113, 0) else scanV s (s.size + 1) 0 []
theorem cls_one (c : Int) : clsv c = 1 ↔ blk c = true := by
  unfold clsv cls0 cls1 cls2 cls3 blk
  rw [decide_eq_true_iff]
  repeat' split
  all_goals omega

theorem scan_l0 (s : ByteArray) (hs : s.size ≤ 2000) : ∀ (f i k : Nat) (acc : List S29), s.size < i + f → i ≤ s.size → acc.length ≤ i → f + 50 < k →
    lex_Scan.l0 k s acc (i : Int) = some (scanV s f i acc) := by
  intro f
  induction f with
  | zero => intro i k acc h1 h2 _ _; omega
  | succ f ih =>
    intro i k acc h1 h2 h3 hk
    obtain ⟨k, rfl⟩ : ∃ m, k = m + 1 := ⟨k - 1, by omega⟩
    simp only [lex_Scan.l0, scanV]
    by_cases hlt : i < s.size
    · have hb := bt_range s i
      have hw : wrap32 (bt s i) = bt s i := by unfold wrap32; omega
      have hcl : lex_class.f k (bt s i) = some (clsv (bt s i)) := by
        obtain ⟨j, rfl⟩ : ∃ j, k = j + 4 := ⟨k - 4, by omega⟩
        exact class_val hb.1 j
      rw [if_pos (Int.ofNat_lt.2 hlt), if_pos (Int.natCast_nonneg i), hw, hcl, bs, if_pos hlt]
      by_cases hc : clsv (bt s i) = 1
      · rw [if_pos hc, if_pos ((cls_one _).1 hc), show wrap64 ((i : Int) + 1) = ((i + 1 : Nat) : Int) from (w64_id (by omega) (by omega)).trans (by omega)]
        exact ih (i + 1) k acc (by omega) (by omega) (by omega) (by omega)
      · rw [if_neg hc, if_neg (fun h => hc ((cls_one _).2 h)), if_pos (Int.ofNat_le.2 h2)]
        have hy : 0 < (sub s i).size := by rw [size_sub]; omega
        have hn : lex_next.f k (s.extract ((i : Nat) : Int).toNat s.size) = _ := next_f hy (show 40 ≤ k by omega)
        rw [hn, bs]
        by_cases he : (tokV (sub s i)).2.2.2.2 = 0
        · rw [if_pos he, if_pos he, if_pos (by omega)]
          obtain ⟨l1, l2⟩ := tok_len hy he
          rw [size_sub] at l2
          rw [show wrap64 ((i : Int) + ((tokV (sub s i)).2.2.2.1 : Int)) = ((i + (tokV (sub s i)).2.2.2.1 : Nat) : Int) from (w64_id (by omega) (by omega)).trans (by omega)]
          exact ih (i + (tokV (sub s i)).2.2.2.1) k _ (by omega) (by omega) (by simp; omega) (by omega)
        · rw [if_neg he, if_neg he]
    · rw [if_neg (fun h => hlt (Int.ofNat_lt.1 h)), if_neg hlt, if_pos (by omega)]
      simp only [api_Token.f, bs]
      rfl
theorem scan_f (s : ByteArray) {k : Nat} (hk : 2100 ≤ k) : lex_Scan.f k s = some (scanS s) := by
  unfold lex_Scan.f scanS
  by_cases h : s.size > 2000
  · rw [if_pos (by omega), if_pos h]
  · rw [if_neg (by omega), if_neg h]
    exact scan_l0 s (by omega) (s.size + 1) 0 k [] (by omega) (by omega) (by simp) (by omega)
theorem refScan_l0 (s : ByteArray) (hs : s.size ≤ 2000) : ∀ (f i k : Nat) (acc : List S29), s.size < i + f → i ≤ s.size → acc.length ≤ i → f + 2070 < k →
    isthmusref11_Scan.l0 k s acc (i : Int) = some (scanV s f i acc) := by
  intro f
  induction f with
  | zero => intro i k acc h1 h2 _ _; omega
  | succ f ih =>
    intro i k acc h1 h2 h3 hk
    obtain ⟨k, rfl⟩ : ∃ m, k = m + 1 := ⟨k - 1, by omega⟩
    simp only [isthmusref11_Scan.l0, scanV]
    by_cases hlt : i < s.size
    · rw [if_pos (Int.ofNat_lt.2 hlt), if_pos (Int.natCast_nonneg i), blank_f, bs, if_pos hlt]
      by_cases hc : blk (bt s i) = true
      · rw [if_pos hc, if_pos hc, show wrap64 ((i : Int) + 1) = ((i + 1 : Nat) : Int) from (w64_id (by omega) (by omega)).trans (by omega)]
        exact ih (i + 1) k acc (by omega) (by omega) (by omega) (by omega)
      · rw [if_neg hc, if_neg hc, ref_token (by omega) hlt (by omega), bs]
        have hy : 0 < (sub s i).size := by rw [size_sub]; omega
        by_cases he : (tokV (sub s i)).2.2.2.2 = 0
        · rw [if_pos he, if_pos he, if_pos he, if_pos he, if_pos (by omega)]
          obtain ⟨l1, l2⟩ := tok_len hy he
          rw [size_sub] at l2
          exact ih (i + (tokV (sub s i)).2.2.2.1) k _ (by omega) (by omega) (by simp; omega) (by omega)
        · simp only [if_neg he]
    · rw [if_neg (fun h => hlt (Int.ofNat_lt.1 h)), if_neg hlt, if_pos (by omega)]
      rfl
theorem ref_scan (s : ByteArray) {k : Nat} (hk : 4100 ≤ k) : isthmusref11_Scan.f k s = some (scanS s) := by
  unfold isthmusref11_Scan.f scanS
  by_cases h : s.size > 2000
  · rw [if_pos (by omega), if_pos h]
  · rw [if_neg (by omega), if_neg h]
    exact refScan_l0 s (by omega) (s.size + 1) 0 k [] (by omega) (by omega) (by simp) (by omega)
end Go.Proofs.Ytijcoddbkefmlaa.Lex
