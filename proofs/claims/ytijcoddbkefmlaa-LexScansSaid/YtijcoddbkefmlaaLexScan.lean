/- The tokens of a text: what Scan computes, the program's and the document's: the same. -/
import Derived.Test.YtijcoddbkefmlaaLexTok
import Derived.Test.YtijcoddbkefmlaaLx8
import Derived.Test.YtijcoddbkefmlaaLx15
namespace Go.Proofs.Ytijcoddbkefmlaa.Lex
open Go.RowKit Go.Proofs.YtijcoddbkefmlaaW.PrintWords Go.Proofs.YtijcoddbkefmlaaW.PrintMore Go.Proofs.Ytijcoddbkefmlaa.L Go.Proofs.Ytijcoddbkefmlaa.Str

def sub (s : ByteArray) (i : Nat) : ByteArray := s.extract i s.size
theorem bytes_sub (s : ByteArray) (i : Nat) : bytesOf (sub s i) = (bytesOf s).drop i := by
  unfold sub
  rw [bytes_extract, List.take_of_length_le]
  rw [List.length_drop, bytesOf_length]
  omega
theorem size_sub (s : ByteArray) (i : Nat) : (sub s i).size = s.size - i := by
  rw [size_bytes, bytes_sub, List.length_drop, bytesOf_length]
theorem bt_sub (s : ByteArray) (i j : Nat) (h : i + j < s.size) : bt (sub s i) (j : Int) = bt s ((i + j : Nat) : Int) := by
  have hj : j < (sub s i).size := by rw [size_sub]; omega
  rw [← bytes_at (sub s i) j hj, ← bytes_at s (i + j) h]
  simp only [bytes_sub, List.getElem_drop]
theorem ext_sub (s : ByteArray) (i n : Nat) : s.extract i (i + n) = (sub s i).extract 0 n := by
  apply ext_bytes
  rw [bytes_extract, bytes_extract, bytes_sub, List.drop_zero, Nat.sub_zero]
  congr 1
  omega
theorem bt_sub0 {s : ByteArray} {i : Nat} (h : i < s.size) : bt (sub s i) 0 = bt s (i : Int) := by
  have := bt_sub s i 0 (by omega)
  simpa using this

theorem ends_l0 (s : ByteArray) (hs : s.size ≤ 100000) : ∀ (d i k : Nat), i + d = s.size → d < k → isthmusref11_ends.l0 k s (i : Int) = some ((i + (((bytesOf s).drop i).takeWhile dg).length : Nat) : Int) := by
  intro d
  induction d with
  | zero =>
    intro i k hi hk
    obtain ⟨k, rfl⟩ : ∃ m, k = m + 1 := ⟨k - 1, by omega⟩
    simp only [isthmusref11_ends.l0]
    rw [if_neg (by omega), List.drop_eq_nil_of_le (by rw [bytesOf_length]; omega)]
    simp
  | succ d ih =>
    intro i k hi hk
    obtain ⟨k, rfl⟩ : ∃ m, k = m + 1 := ⟨k - 1, by omega⟩
    simp only [isthmusref11_ends.l0]
    rw [if_pos (by omega), if_pos (by omega), digit_f, bs, show wrap64 ((i : Int) + 1) = ((i + 1 : Nat) : Int) from (w64_id (by omega) (by omega)).trans (by omega), ih (i + 1) k (by omega) (by omega), drop_bytes s i (by omega), List.takeWhile_cons]
    by_cases h : dg (bt s i) = true
    · rw [if_pos h, h, if_pos rfl, List.length_cons]
      congr 1
      omega
    · rw [if_neg h, if_neg h]
      simp
theorem ends_l1 (s : ByteArray) (hs : s.size ≤ 100000) : ∀ (d i k : Nat), i + d = s.size → d < k → isthmusref11_ends.l1 k s (i : Int) = some ((i + (((bytesOf s).drop i).takeWhile wd).length : Nat) : Int) := by
  intro d
  induction d with
  | zero =>
    intro i k hi hk
    obtain ⟨k, rfl⟩ : ∃ m, k = m + 1 := ⟨k - 1, by omega⟩
    simp only [isthmusref11_ends.l1]
    rw [if_neg (by omega), List.drop_eq_nil_of_le (by rw [bytesOf_length]; omega)]
    simp
  | succ d ih =>
    intro i k hi hk
    obtain ⟨k, rfl⟩ : ∃ m, k = m + 1 := ⟨k - 1, by omega⟩
    simp only [isthmusref11_ends.l1]
    rw [if_pos (by omega), if_pos (by omega), digit_f, small_f, great_f, bs, bs, bs, show wrap64 ((i : Int) + 1) = ((i + 1 : Nat) : Int) from (w64_id (by omega) (by omega)).trans (by omega), ih (i + 1) k (by omega) (by omega), drop_bytes s i (by omega), List.takeWhile_cons]
    have hd : wd (bt s i) = (dg (bt s i) || sm (bt s i) || gr (bt s i) || decide (bt s i = 95)) := rfl
    by_cases h : wd (bt s i) = true
    · have hc : (if sm (bt s i) = true then some (((i + 1 + (((bytesOf s).drop (i + 1)).takeWhile wd).length : Nat)) : Int) else if gr (bt s i) = true then some (((i + 1 + (((bytesOf s).drop (i + 1)).takeWhile wd).length : Nat)) : Int) else if dg (bt s i) = true then some (((i + 1 + (((bytesOf s).drop (i + 1)).takeWhile wd).length : Nat)) : Int) else if bt s i = 95 then some (((i + 1 + (((bytesOf s).drop (i + 1)).takeWhile wd).length : Nat)) : Int) else some (i : Int)) = some (((i + 1 + (((bytesOf s).drop (i + 1)).takeWhile wd).length : Nat)) : Int) := by
        rw [hd] at h
        by_cases h1 : sm (bt s i) = true
        · rw [if_pos h1]
        · rw [if_neg h1]
          by_cases h2 : gr (bt s i) = true
          · rw [if_pos h2]
          · rw [if_neg h2]
            by_cases h3 : dg (bt s i) = true
            · rw [if_pos h3]
            · rw [if_neg h3]
              by_cases h4 : bt s i = 95
              · rw [if_pos h4]
              · simp [h1, h2, h3, h4] at h
      rw [hc, h, if_pos rfl, List.length_cons]
      congr 1
      omega
    · rw [if_neg h]
      rw [hd] at h
      simp only [Bool.or_eq_true, decide_eq_true_eq, not_or] at h
      rw [if_neg h.1.1.2, if_neg h.1.2, if_neg h.1.1.1, if_neg h.2]
      simp
theorem ref_ends {s : ByteArray} (hs : s.size ≤ 100000) {i k : Nat} (hi : i < s.size) (hk : s.size < k) :
    isthmusref11_ends.f k s (i : Int) = some ((i + fr (if dg (bt s i) = true then dg else wd) (sub s i) : Nat) : Int) := by
  unfold isthmusref11_ends.f fr
  rw [if_pos (by omega), if_pos (by omega), digit_f, bs, bytes_sub]
  by_cases h : dg (bt s i) = true
  · rw [if_pos h, if_pos h, ends_l0 s hs (s.size - i) i k (by omega) (by omega)]
  · rw [if_neg h, if_neg h, ends_l1 s hs (s.size - i) i k (by omega) (by omega)]

theorem sign_l0 (y : ByteArray) (h : 0 < y.size) (a : ByteArray) (ha : a.size ≤ 1000) : ∀ (d i k : Nat), i + d = a.size → d < k →
    isthmusref11_sign.l0 k y a (i : Int) = some (if (((bytesOf a).drop i).any fun c => decide (c = bt y 0)) = true then y.extract 0 1 else emp) := by
  intro d
  induction d with
  | zero =>
    intro i k hi hk
    obtain ⟨k, rfl⟩ : ∃ m, k = m + 1 := ⟨k - 1, by omega⟩
    simp only [isthmusref11_sign.l0]
    rw [if_neg (by omega), List.drop_eq_nil_of_le (by rw [bytesOf_length]; omega)]
    rfl
  | succ d ih =>
    intro i k hi hk
    obtain ⟨k, rfl⟩ : ∃ m, k = m + 1 := ⟨k - 1, by omega⟩
    simp only [isthmusref11_sign.l0]
    rw [if_pos (by omega), if_pos (by omega), if_pos (by omega), show wrap64 ((i : Int) + 1) = ((i + 1 : Nat) : Int) from (w64_id (by omega) (by omega)).trans (by omega), ih (i + 1) k (by omega) (by omega), drop_bytes a i (by omega), List.any_cons]
    by_cases h1 : bt a i = bt y 0
    · rw [if_pos h1, if_pos (by decide), if_pos (by omega), decide_eq_true h1]
      rfl
    · rw [if_neg h1, decide_eq_false h1, Bool.false_or]
theorem ref_sign {y : ByteArray} (h : 0 < y.size) {k : Nat} (hk : 30 ≤ k) : isthmusref11_sign.f k y = some (if two y = true then y.extract 0 2 else if sg (bt y 0) = true then y.extract 0 1 else emp) := by
  unfold isthmusref11_sign.f
  obtain ⟨k, rfl⟩ : ∃ m, k = m + 1 := ⟨k - 1, by omega⟩
  have e0 := sign_l0 y h ⟨#[40, 41, 123, 125, 44, 58, 64, 43, 45, 42, 47, 37, 61, 60]⟩ (by decide) 14 0 k rfl (by omega)
  have e1 : (((bytesOf (⟨#[40, 41, 123, 125, 44, 58, 64, 43, 45, 42, 47, 37, 61, 60]⟩ : ByteArray)).drop 0).any fun c => decide (c = bt y 0)) = sg (bt y 0) := rfl
  rw [e1] at e0
  have e2 : isthmusref11_sign.l0 k y (⟨#[40, 41, 123, 125, 44, 58, 64, 43, 45, 42, 47, 37, 61, 60]⟩ : ByteArray) 0 = _ := e0
  by_cases h2 : 2 ≤ y.size
  · rw [if_pos (by omega), if_pos (by decide), if_pos (by omega)]
    simp only [isthmusref11_sign.j0]
    have t1 := ext_two h2 33 61
    have t2 := ext_two h2 60 61
    have hw : two y = (decide ((y.extract 0 2).toList = [33, 61]) || decide ((y.extract 0 2).toList = [60, 61])) := by
      unfold two
      rw [Bool.eq_iff_iff]
      simp only [Bool.or_eq_true, decide_eq_true_eq, t1, t2]
      exact ⟨fun h => h.2, fun h => ⟨h2, h⟩⟩
    by_cases p1 : (y.extract 0 2).toList = [33, 61]
    · rw [if_pos p1, if_pos trivial, if_pos (by decide), if_pos (by omega), hw, decide_eq_true p1]
      rfl
    · rw [if_neg p1]
      by_cases p2 : (y.extract 0 2).toList = [60, 61]
      · rw [if_pos (by rw [beq_iff_eq]; exact p2), if_pos (by decide), if_pos (by omega), hw, decide_eq_true p2]
        simp
      · rw [if_neg (by rw [beq_iff_eq]; exact p2), e2, hw, decide_eq_false p1, decide_eq_false p2]
        rfl
  · rw [if_neg (by omega)]
    simp only [isthmusref11_sign.j0]
    have hw : two y = false := by unfold two; rw [decide_eq_false_iff_not]; exact fun hh => h2 hh.1
    rw [if_neg (by simp), e2, hw]
    rfl
end Go.Proofs.Ytijcoddbkefmlaa.Lex
