/- Names, digits, fronts of texts: what the functions of layer 11 compute, the program's and the document's. -/
import Derived.Test.YtijcoddbkefmlaaLexWords
import Derived.Test.YtijcoddbkefmlaaLx5
import Derived.Test.YtijcoddbkefmlaaLx6
import Derived.Test.YtijcoddbkefmlaaLx10
import Derived.Test.YtijcoddbkefmlaaLx11
import Derived.Test.YtijcoddbkefmlaaLx12
import Derived.Test.YtijcoddbkefmlaaLx13
namespace Go.Proofs.Ytijcoddbkefmlaa.Lex
open Go.RowKit Go.Proofs.YtijcoddbkefmlaaW.PrintWords Go.Proofs.YtijcoddbkefmlaaW.PrintMore Go.Proofs.Ytijcoddbkefmlaa.L Go.Proofs.Ytijcoddbkefmlaa.Str

/-! ### kinds of bytes -/
def dg (c : Int) : Bool := decide (48 ≤ c ∧ c ≤ 57)
def sm (c : Int) : Bool := decide (97 ≤ c ∧ c ≤ 122)
def gr (c : Int) : Bool := decide (65 ≤ c ∧ c ≤ 90)
def wd (c : Int) : Bool := dg c || sm c || gr c || decide (c = 95)
def blk (c : Int) : Bool := decide (c = 32 ∨ c = 9 ∨ c = 10 ∨ c = 13)
theorem small_f (c : Int) : isthmusref11_small.f c = some (sm c) := by
  unfold isthmusref11_small.f sm
  by_cases h : c ≥ 97
  · rw [if_pos h]; simp [show 97 ≤ c from h]
  · rw [if_neg h]; simp; omega
theorem digit_f (c : Int) : isthmusref11_digit.f c = some (dg c) := by
  unfold isthmusref11_digit.f dg
  by_cases h : c ≥ 48
  · rw [if_pos h]; simp [show 48 ≤ c from h]
  · rw [if_neg h]; simp; omega
theorem great_f (c : Int) : isthmusref11_great.f c = some (gr c) := by
  unfold isthmusref11_great.f gr
  by_cases h : c ≥ 65
  · rw [if_pos h]; simp [show 65 ≤ c from h]
  · rw [if_neg h]; simp; omega
theorem blank_f (c : Int) : isthmusref11_blank.f c = some (blk c) := by
  unfold isthmusref11_blank.f blk
  by_cases h1 : c = 32
  · simp [h1]
  · rw [if_neg h1]
    by_cases h2 : c = 9
    · simp [h2]
    · rw [if_neg h2]
      by_cases h3 : c = 10
      · simp [h3]
      · rw [if_neg h3]
        by_cases h4 : c = 13
        · simp [h4]
        · simp [h1, h2, h3, h4]
theorem nmB_iff (i : Nat) (c : Int) : nmB i c ↔ (sm c = true ∨ (i ≠ 0 ∧ (dg c = true ∨ c = 95))) := by
  unfold nmB
  rw [clsv_three, clsv_two, clsv_five]
  simp [sm, dg]

/-! ### names -/
def nameOK (s : ByteArray) : Bool := nmAll s && decide (1 ≤ s.size ∧ s.size ≤ 12) && !isW s
theorem isName_f (s : ByteArray) {k : Nat} (hk : 30 ≤ k) : lex_IsName.f k s = some (nameOK s) := by
  unfold lex_IsName.f nameOK
  rw [isWord_f s hk]
  by_cases h1 : nmAll s = true
  · rw [if_pos h1, h1]
    by_cases h2 : (s.size : Int) ≥ 1
    · rw [if_pos h2]
      by_cases h3 : (s.size : Int) ≤ 12
      · rw [if_pos h3, bs, decide_eq_true (by omega)]; simp
      · rw [if_neg h3, decide_eq_false (by omega)]; simp
    · rw [if_neg h2, decide_eq_false (by omega)]; simp
  · rw [if_neg h1]
    simp only [Bool.not_eq_true] at h1
    rw [h1]; simp

theorem refName_l0 (s : ByteArray) (hs : s.size ≤ 12) : ∀ (d i k : Nat), i + d = s.size → d + 30 < k →
    isthmusref11_IsName.l0 k s (i : Int) = some (decide (∀ j, j < s.size → i ≤ j → (sm (bt s j) = true ∨ dg (bt s j) = true ∨ bt s j = 95)) && !isW s) := by
  intro d
  induction d with
  | zero =>
    intro i k hi hk
    obtain ⟨k, rfl⟩ : ∃ m, k = m + 1 := ⟨k - 1, by omega⟩
    simp only [isthmusref11_IsName.l0]
    rw [if_neg (by omega), ref_word s (by omega), bs, decide_eq_true (fun j h2 h1 => by omega)]
    simp
  | succ d ih =>
    intro i k hi hk
    obtain ⟨k, rfl⟩ : ∃ m, k = m + 1 := ⟨k - 1, by omega⟩
    simp only [isthmusref11_IsName.l0]
    have hw : wrap64 ((i : Int) + 1) = ((i + 1 : Nat) : Int) := (w64_id (by omega) (by omega)).trans (by omega)
    rw [if_pos (by omega), if_pos (by omega), small_f, bs, digit_f, bs, hw, ih (i + 1) k (by omega) (by omega)]
    have key : (sm (bt s i) = true ∨ dg (bt s i) = true ∨ bt s i = 95) → decide (∀ j, j < s.size → i + 1 ≤ j → (sm (bt s j) = true ∨ dg (bt s j) = true ∨ bt s j = 95)) = decide (∀ j, j < s.size → i ≤ j → (sm (bt s j) = true ∨ dg (bt s j) = true ∨ bt s j = 95)) := by
      intro h
      rw [decide_eq_decide]
      constructor
      · intro ha j h2 h1
        by_cases e : j = i
        · subst e; exact h
        · exact ha j h2 (by omega)
      · intro ha j h2 h1
        exact ha j h2 (by omega)
    by_cases h1 : sm (bt s i) = true
    · rw [if_pos h1, key (.inl h1)]
    · rw [if_neg h1]
      by_cases h2 : dg (bt s i) = true
      · rw [if_pos h2, key (.inr (.inl h2))]
      · rw [if_neg h2]
        by_cases h3 : bt s i = 95
        · rw [if_pos h3, key (.inr (.inr h3))]
        · rw [if_neg h3, decide_eq_false (fun ha => by rcases ha i (by omega) (by omega) with h | h | h; exact h1 h; exact h2 h; exact h3 h)]
          simp
theorem ref_isName (s : ByteArray) {k : Nat} (hk : 50 ≤ k) : isthmusref11_IsName.f k s = some (nameOK s) := by
  unfold isthmusref11_IsName.f nameOK
  obtain ⟨k, rfl⟩ : ∃ m, k = m + 1 := ⟨k - 1, by omega⟩
  by_cases h1 : (s.size : Int) < 1
  · rw [if_pos h1, decide_eq_false (by omega)]
    simp [isthmusref11_IsName.j0]
  · rw [if_neg h1]
    by_cases h2 : (s.size : Int) > 12
    · rw [if_pos h2, decide_eq_false (by omega)]
      simp [isthmusref11_IsName.j0]
    · rw [if_neg h2, if_pos (by omega), small_f, bs, decide_eq_true (by omega)]
      simp only [isthmusref11_IsName.j0]
      by_cases h3 : sm (bt s 0) = true
      · have e0 := refName_l0 s (by omega) s.size 0 k (by omega) (by omega)
        rw [if_neg (by simp [h3])]
        have e1 : isthmusref11_IsName.l0 k s 0 = _ := e0
        rw [e1]
        have : nmAll s = decide (∀ j, j < s.size → 0 ≤ j → (sm (bt s j) = true ∨ dg (bt s j) = true ∨ bt s j = 95)) := by
          unfold nmAll
          rw [decide_eq_decide]
          constructor
          · intro ha j hj _
            rcases (nmB_iff j _).1 (ha j hj) with h | ⟨_, h | h⟩
            · exact .inl h
            · exact .inr (.inl h)
            · exact .inr (.inr h)
          · intro ha j hj
            rw [nmB_iff]
            by_cases e : j = 0
            · subst e; exact .inl h3
            · rcases ha j hj (by omega) with h | h
              · exact .inl h
              · exact .inr ⟨e, h⟩
        rw [this]; simp
      · rw [if_pos (by simpa using h3)]
        have : nmAll s = false := by
          unfold nmAll
          rw [decide_eq_false_iff_not]
          intro ha
          rcases (nmB_iff 0 _).1 (ha 0 (by omega)) with h | ⟨h, _⟩
          · exact h3 h
          · exact h rfl
        rw [this]; simp
end Go.Proofs.Ytijcoddbkefmlaa.Lex
