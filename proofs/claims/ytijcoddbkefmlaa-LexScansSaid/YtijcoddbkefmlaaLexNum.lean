/- Numbers and signs of layer 11: what the functions compute, the program's and the document's. -/
import Derived.Test.YtijcoddbkefmlaaLexFun
namespace Go.Proofs.Ytijcoddbkefmlaa.Lex
open Go.RowKit Go.Proofs.YtijcoddbkefmlaaW.PrintWords Go.Proofs.YtijcoddbkefmlaaW.PrintMore Go.Proofs.Ytijcoddbkefmlaa.L Go.Proofs.Ytijcoddbkefmlaa.Str

/-! ### numbers -/
theorem numL_ge : ∀ (l : List Int) (n v : Int), (∀ c ∈ l, 48 ≤ c ∧ c ≤ 57) → 0 ≤ n → numL n l = some v → n * 10 ^ l.length ≤ v := by
  intro l
  induction l with
  | nil => intro n v _ _ h; simp only [numL, Option.some.injEq] at h; simp [h]
  | cons c t ih =>
    intro n v hc hn h
    rw [numL] at h
    split at h
    · cases h
    · have h0 := hc c (by simp)
      have := ih (10 * n + (c - 48)) v (fun x hx => hc x (by simp [hx])) (by omega) h
      have hp : (0 : Int) < 10 ^ t.length := Int.pow_pos (by decide)
      have h1 : (10 * n) * 10 ^ t.length ≤ (10 * n + (c - 48)) * 10 ^ t.length := Int.mul_le_mul_of_nonneg_right (by omega) (by omega)
      rw [List.length_cons, Int.pow_succ, Int.mul_comm (10 ^ t.length) 10, ← Int.mul_assoc, Int.mul_comm n 10]
      omega
theorem numL_le : ∀ (l : List Int) (n v : Int), (∀ c ∈ l, 48 ≤ c ∧ c ≤ 57) → 0 ≤ n → n ≤ 9223372036854775807 → numL n l = some v → 0 ≤ v ∧ v ≤ 9223372036854775807 := by
  intro l
  induction l with
  | nil => intro n v _ h0 h1 h; simp only [numL, Option.some.injEq] at h; omega
  | cons c t ih =>
    intro n v hc h0 h1 h
    rw [numL] at h
    split at h
    · cases h
    · have hb := hc c (by simp)
      exact ih _ v (fun x hx => hc x (by simp [hx])) (by omega) (by omega) h
/-- The number that digits say, if it may be. -/
def numV (s : ByteArray) : Option Int := if s.size = 1 ∨ bt s 0 ≠ 48 then numL 0 (bytesOf s) else none
theorem number_f {s : ByteArray} (h0 : 0 < s.size) (hd : ∀ i, i < s.size → 48 ≤ bt s i ∧ bt s i ≤ 57) :
    ∃ m b, lex_number.f s = some (m, b) ∧ (b = true → numV s = some m) ∧ (b = false → numV s = none) := by
  unfold lex_number.f numV
  rw [if_pos (by unfold digAll; exact decide_eq_true hd), if_pos h0]
  cases hn : numL 0 (bytesOf s) with
  | none => exact ⟨0, false, rfl, (fun h => by cases h), (fun _ => by split <;> rfl)⟩
  | some v =>
    refine ⟨v, _, rfl, ?_, ?_⟩
    · intro h
      rw [if_pos (by simpa using h)]
    · intro h
      rw [if_neg (by simpa using h)]

def numR : Option Int → Int × Bool
  | none => (0, false)
  | some v => (v, true)
/-- One digit more: the test and the sum, the greatest number under a name. -/
theorem numL_cons (c n M : Int) (t : List Int) (hM : M = 9223372036854775807) : numL n (c :: t) = if n > (M - (c - 48)) / 10 then none else numL (10 * n + (c - 48)) t := by
  subst hM; rw [numL]
theorem refNum_step (k : Nat) (s : ByteArray) (n i M : Int) (hM : M = 9223372036854775807) : isthmusref11_number.l0 (k + 1) s n i =
    if i < (s.size : Int) then (if 0 ≤ i then (if n > (wrap64 (Int.tdiv (wrap64 (M - (wrap64 ((wrap64 (bt s i)) - 48)))) 10)) then (some (0, false)) else (isthmusref11_number.l0 k s (wrap64 ((wrap64 (10 * n)) + (wrap64 ((wrap64 (bt s i)) - 48)))) (wrap64 (i + 1)))) else (none)) else (some (n, true)) := by
  subst hM
  simp only [isthmusref11_number.l0]
theorem refNum_l0 (s : ByteArray) (hs : s.size ≤ 100) (hd : ∀ i, i < s.size → 48 ≤ bt s i ∧ bt s i ≤ 57) (M : Int) (hM : M = 9223372036854775807) : ∀ (d i k : Nat) (n : Int), i + d = s.size → d < k → 0 ≤ n → n ≤ M →
    isthmusref11_number.l0 k s n (i : Int) = some (numR (numL n ((bytesOf s).drop i))) := by
  intro d
  induction d with
  | zero =>
    intro i k n hi hk h0 h1
    obtain ⟨k, rfl⟩ : ∃ m, k = m + 1 := ⟨k - 1, by omega⟩
    rw [refNum_step k s n i M hM, if_neg (by omega), List.drop_eq_nil_of_le (by rw [bytesOf_length]; omega)]
    rfl
  | succ d ih =>
    intro i k n hi hk h0 h1
    obtain ⟨k, rfl⟩ : ∃ m, k = m + 1 := ⟨k - 1, by omega⟩
    have hi1 : (i : Int) < (s.size : Int) := by omega
    have hi0 : (0 : Int) ≤ (i : Int) := Int.natCast_nonneg i
    have hb := hd i (by omega)
    have e1 : wrap64 (bt s i) = bt s i := w64_id (by omega) (by omega)
    have e2 : wrap64 (bt s i - 48) = bt s i - 48 := w64_id (by omega) (by omega)
    have e3 : wrap64 (M - (bt s i - 48)) = M - (bt s i - 48) := w64_id (by omega) (by omega)
    have e4 : wrap64 ((M - (bt s i - 48)) / 10) = (M - (bt s i - 48)) / 10 := w64_id (by omega) (by omega)
    have hw : wrap64 ((i : Int) + 1) = ((i + 1 : Nat) : Int) := (w64_id (by omega) (by omega)).trans (by omega)
    obtain ⟨q, hq⟩ : ∃ q : Int, q = (M - (bt s i - 48)) / 10 := ⟨_, rfl⟩
    rw [refNum_step k s n i M hM, e1, e2, e3, Int.tdiv_eq_ediv_of_nonneg (by omega), e4, hw, ← hq, drop_bytes s i (by omega), numL_cons _ _ M _ hM, ← hq]
    refine (if_pos hi1).trans ((if_pos hi0).trans ?_)
    by_cases hov : n > q
    · refine (if_pos hov).trans ?_
      exact (congrArg (fun z => some (numR z)) (show (if n > q then none else numL (10 * n + (bt s i - 48)) ((bytesOf s).drop (i + 1))) = none from if_pos hov)).symm
    · refine (if_neg hov).trans ?_
      refine Eq.trans ?_ (congrArg (fun z => some (numR z)) (if_neg hov).symm)
      have e5 : wrap64 (wrap64 (10 * n) + (bt s i - 48)) = 10 * n + (bt s i - 48) := by
        rw [w64_id (n := 10 * n) (by omega) (by omega)]
        exact w64_id (by omega) (by omega)
      exact (congrArg (fun z => isthmusref11_number.l0 k s z _) e5).trans (ih (i + 1) k (10 * n + (bt s i - 48)) (by omega) (by omega) (by omega) (by omega))
theorem numV_long {s : ByteArray} (hs : 20 ≤ s.size) (hd : ∀ i, i < s.size → 48 ≤ bt s i ∧ bt s i ≤ 57) : numV s = none := by
  unfold numV
  by_cases h0 : bt s 0 = 48
  · rw [if_neg (by simp [h0]; omega)]
  · rw [if_pos (.inr h0)]
    cases hn : numL 0 (bytesOf s) with
    | none => rfl
    | some v =>
      exfalso
      have hm : ∀ c ∈ bytesOf s, 48 ≤ c ∧ c ≤ 57 := by
        intro c hc
        obtain ⟨i, hi, rfl⟩ := List.mem_iff_getElem.1 hc
        rw [bytes_at s i (by rw [bytesOf_length] at hi; exact hi)]
        exact hd i (by rw [bytesOf_length] at hi; exact hi)
      have hc0 : bytesOf s = bt s 0 :: (bytesOf s).drop 1 := by
        have := drop_bytes s 0 (by omega)
        rw [List.drop_zero] at this
        exact this
      have hb0 := hd 0 (by omega)
      rw [show (((0 : Nat)) : Int) = 0 from rfl] at hb0
      have hle := (numL_le _ _ _ hm (by omega) (by omega) hn).2
      rw [hc0, numL] at hn
      split at hn
      · cases hn
      · have := numL_ge _ _ _ (fun c hc => hm c (List.mem_of_mem_drop hc)) (by omega) hn
        rw [List.length_drop, bytesOf_length] at this
        have hp : (10 : Int) ^ 19 ≤ 10 ^ (s.size - 1) := by
          have h2 : (10 : Nat) ^ 19 ≤ 10 ^ (s.size - 1) := Nat.pow_le_pow_right (by decide) (by omega)
          have h3 : ((10 ^ 19 : Nat) : Int) ≤ ((10 ^ (s.size - 1) : Nat) : Int) := Int.ofNat_le.2 h2
          rw [Int.natCast_pow] at h3
          exact h3
        have h1 : 1 * 10 ^ (s.size - 1) ≤ (10 * 0 + (bt s 0 - 48)) * 10 ^ (s.size - 1) := Int.mul_le_mul_of_nonneg_right (by omega) (by omega)
        omega
theorem ref_number {s : ByteArray} (h0 : 0 < s.size) (hd : ∀ i, i < s.size → 48 ≤ bt s i ∧ bt s i ≤ 57) {k : Nat} (hk : 30 ≤ k) :
    ∃ m b, isthmusref11_number.f k s = some (m, b) ∧ (b = true → numV s = some m) ∧ (b = false → numV s = none) := by
  obtain ⟨k, rfl⟩ : ∃ m, k = m + 1 := ⟨k - 1, by omega⟩
  unfold isthmusref11_number.f
  simp only [isthmusref11_number.j0]
  by_cases h19 : (s.size : Int) > 19
  · rw [if_pos h19, if_pos trivial]
    exact ⟨0, false, rfl, (fun h => by cases h), fun _ => numV_long (by omega) hd⟩
  · rw [if_neg h19]
    have e0 : isthmusref11_number.l0 k s 0 0 = _ := refNum_l0 s (by omega) hd _ rfl s.size 0 k 0 (by omega) (by omega) (by omega) (by omega)
    rw [List.drop_zero] at e0
    have fin : (s.size = 1 ∨ bt s 0 ≠ 48) → ∃ m b, isthmusref11_number.l0 k s 0 0 = some (m, b) ∧ (b = true → numV s = some m) ∧ (b = false → numV s = none) := by
      intro hc
      rw [e0]
      unfold numV
      rw [if_pos hc]
      cases numL 0 (bytesOf s) with
      | none => exact ⟨0, false, rfl, fun h => (by cases h), fun _ => rfl⟩
      | some v => exact ⟨v, true, rfl, fun _ => rfl, fun h => (by cases h)⟩
    by_cases h1 : (s.size : Int) > 1
    · rw [if_pos h1, if_pos (by omega)]
      by_cases h2 : bt s 0 = 48
      · rw [if_pos (by simp [h2])]
        refine ⟨0, false, rfl, fun h => (by cases h), fun _ => ?_⟩
        unfold numV
        rw [if_neg (by simp [h2]; omega)]
      · rw [if_neg (by simp [h2])]
        exact fin (.inr h2)
    · rw [if_neg h1, if_neg (by simp)]
      exact fin (.inl (by omega))
end Go.Proofs.Ytijcoddbkefmlaa.Lex
