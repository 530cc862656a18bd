/- Is a text one of the words of the language? The program searches by halves, the document one by one: both tell membership. -/
import Derived.Test.YtijcoddbkefmlaaLx4
import Derived.Test.YtijcoddbkefmlaaLx9
import Derived.Test.YtijcoddbkefmlaaStr
namespace Go.Proofs.Ytijcoddbkefmlaa.Lex
open Go.RowKit Go.Proofs.YtijcoddbkefmlaaW.PrintWords Go.Proofs.YtijcoddbkefmlaaW.PrintMore Go.Proofs.Ytijcoddbkefmlaa.L Go.Proofs.Ytijcoddbkefmlaa.Str

theorem w64_id {n : Int} (h0 : -9223372036854775808 ≤ n) (h : n < 9223372036854775808) : wrap64 n = n := by unfold wrap64; omega
theorem wrap_u64 (n : Int) : IntKind.u64.wrap n = n % 18446744073709551616 := by simp [IntKind.wrap, IntKind.bits, IntKind.signed]
theorem u64_id {n : Int} (h0 : 0 ≤ n) (h : n < 18446744073709551616) : IntKind.u64.wrap n = n := by rw [wrap_u64]; omega

instance decBA : DecidableEq ByteArray := fun a b => if h : a.data = b.data then isTrue (by cases a; cases b; simp_all) else isFalse (fun e => h (by rw [e]))
/-- The words of the language. -/
def wordsL : List ByteArray := [(⟨#[97, 108, 108]⟩ : ByteArray), (⟨#[97, 110, 100]⟩ : ByteArray), (⟨#[97, 114, 111, 117, 110, 100]⟩ : ByteArray), (⟨#[98, 108, 111, 99, 107]⟩ : ByteArray), (⟨#[98, 111, 116, 116, 108, 101, 110, 101, 99, 107]⟩ : ByteArray), (⟨#[99, 111, 110, 110, 101, 99, 116, 101, 100]⟩ : ByteArray), (⟨#[99, 111, 117, 110, 116]⟩ : ByteArray), (⟨#[100, 101, 103, 114, 101, 101]⟩ : ByteArray), (⟨#[101, 108, 115, 101]⟩ : ByteArray), (⟨#[102, 97, 108, 115, 101]⟩ : ByteArray), (⟨#[105, 102]⟩ : ByteArray), (⟨#[105, 110]⟩ : ByteArray), (⟨#[108, 101, 97, 115, 116]⟩ : ByteArray), (⟨#[109, 97, 120]⟩ : ByteArray), (⟨#[109, 105, 110]⟩ : ByteArray), (⟨#[109, 111, 115, 116]⟩ : ByteArray), (⟨#[110, 111, 116]⟩ : ByteArray), (⟨#[111, 114]⟩ : ByteArray), (⟨#[114, 101, 112]⟩ : ByteArray), (⟨#[115, 105, 122, 101]⟩ : ByteArray), (⟨#[115, 111, 109, 101]⟩ : ByteArray), (⟨#[115, 117, 109]⟩ : ByteArray), (⟨#[116, 104, 101, 110]⟩ : ByteArray), (⟨#[116, 111, 116, 97, 108]⟩ : ByteArray), (⟨#[116, 114, 117, 101]⟩ : ByteArray), (⟨#[118, 97, 108, 117, 101]⟩ : ByteArray), (⟨#[118, 101, 114, 116, 105, 99, 101, 115]⟩ : ByteArray)]
theorem wordsL_len : wordsL.length = 27 := rfl

theorem isNaN_f (s : ByteArray) : cmp_isNaN_string.f s = some false := by unfold cmp_isNaN_string.f; simp
theorem isNaN_g (s : ByteArray) : slices_isNaN_string.f s = some false := by unfold slices_isNaN_string.f; simp
theorem less_f (a b : ByteArray) : cmp_Less_string.f a b = some (Op.bytesLess a.toList b.toList) := by
  unfold cmp_Less_string.f
  rw [isNaN_f]
  rfl

theorem bs_l0 (l : List ByteArray) (x : ByteArray) (n : Nat) (hn : l.length = n) (hl : n ≤ 1000) : ∀ (d i j k : Nat), i ≤ j → j ≤ n → j - i ≤ d → d < k →
    ∃ (p : Int) (b : Bool), slices_BinarySearch_string_string.l0 k l x (n : Int) (i : Int) (j : Int) = some (p, b) ∧ (b = true → x ∈ l) := by
  intro d
  induction d with
  | zero =>
    intro i j k hij hj hd hk
    obtain ⟨k, rfl⟩ : ∃ m, k = m + 1 := ⟨k - 1, by omega⟩
    simp only [slices_BinarySearch_string_string.l0]
    rw [if_neg (by omega)]
    by_cases h1 : (i : Int) < (n : Int)
    · rw [if_pos h1, if_pos (by omega), if_pos (by omega)]
      by_cases h2 : (rdOf ByteArray.empty l (i : Int)).toList = x.toList
      · rw [if_pos h2]
        refine ⟨_, _, rfl, fun _ => ?_⟩
        rw [toList_iff] at h2
        rw [← h2]
        unfold rdOf
        rw [show ((i : Int)).toNat = i from rfl]
        have hi : i < l.length := by omega
        simp [List.getD, hi]
      · rw [if_neg h2, isNaN_g]
        exact ⟨_, false, rfl, fun h => by cases h⟩
    · rw [if_neg h1]
      exact ⟨_, false, rfl, fun h => by cases h⟩
  | succ d ih =>
    intro i j k hij hj hd hk
    by_cases hlt : i < j
    · obtain ⟨k, rfl⟩ : ∃ m, k = m + 1 := ⟨k - 1, by omega⟩
      simp only [slices_BinarySearch_string_string.l0]
      have e1 : wrap64 ((IntKind.u64.wrap (wrap64 ((i : Int) + (j : Int)))) / 2) = (((i + j) / 2 : Nat) : Int) := by
        rw [w64_id (n := (i : Int) + (j : Int)) (by omega) (by omega), u64_id (by omega) (by omega), w64_id (by omega) (by omega)]; omega
      rw [if_pos (by omega), e1, if_pos (by omega), if_pos (by omega), less_f]
      simp only [Option.bind_some]
      by_cases hb : Op.bytesLess (rdOf ByteArray.empty l (((i + j) / 2 : Nat) : Int)).toList x.toList = true
      · rw [if_pos hb, show wrap64 ((((i + j) / 2 : Nat) : Int) + 1) = (((i + j) / 2 + 1 : Nat) : Int) from (w64_id (by omega) (by omega)).trans (by omega)]
        exact ih ((i + j) / 2 + 1) j k (by omega) (by omega) (by omega) (by omega)
      · rw [if_neg hb]
        exact ih i ((i + j) / 2) k (by omega) (by omega) (by omega) (by omega)
    · exact ih i j k hij hj (by omega) (by omega)

theorem word_yes : ∀ x ∈ wordsL, lex_isWord.f 30 x = some true := by
  intro x hx
  simp only [wordsL, List.mem_cons, List.not_mem_nil, or_false] at hx
  rcases hx with rfl | rfl | rfl | rfl | rfl | rfl | rfl | rfl | rfl | rfl | rfl | rfl | rfl | rfl | rfl | rfl | rfl | rfl | rfl | rfl | rfl | rfl | rfl | rfl | rfl | rfl | rfl
  all_goals decide +kernel
/-- Is it a word? -/
def isW (s : ByteArray) : Bool := wordsL.any fun x => decide (x = s)
theorem isW_iff (s : ByteArray) : isW s = true ↔ s ∈ wordsL := by
  unfold isW
  rw [List.any_eq_true]
  constructor
  · rintro ⟨x, hx, h⟩
    rw [← of_decide_eq_true h]; exact hx
  · intro h
    exact ⟨s, h, decide_eq_true rfl⟩
theorem isWord_f (s : ByteArray) {k : Nat} (hk : 30 ≤ k) : lex_isWord.f k s = some (isW s) := by
  by_cases h : s ∈ wordsL
  · rw [at_rounds (lex_isWord.mono s) hk (word_yes s h), (isW_iff s).2 h]
  · obtain ⟨p, b, hp, hb⟩ := bs_l0 wordsL s 27 wordsL_len (by omega) 27 0 27 k (by omega) (by omega) (by omega) (by omega)
    have e : lex_isWord.f k s = some b := by
      unfold lex_isWord.f slices_BinarySearch_string_string.f
      show (slices_BinarySearch_string_string.l0 k wordsL s (27 : Int) 0 (27 : Int)).bind (fun bt113 => some bt113.2) = some b
      have hp' : slices_BinarySearch_string_string.l0 k wordsL s (27 : Int) 0 (27 : Int) = some (p, b) := hp
      rw [hp', bs]
    have hw : isW s = false := by
      cases hv : isW s with
      | false => rfl
      | true => exact absurd ((isW_iff s).1 hv) h
    rw [e, hw]
    cases b with
    | false => rfl
    | true => exact absurd (hb rfl) h

theorem refWord_l0 (x : ByteArray) (l : List ByteArray) (hl : l.length ≤ 1000) : ∀ (d i k : Nat), i + d = l.length → d < k → isthmusref11_Word.l0 k x l (i : Int) = some ((l.drop i).any fun y => decide (y = x)) := by
  intro d
  induction d with
  | zero =>
    intro i k hi hk
    obtain ⟨k, rfl⟩ : ∃ m, k = m + 1 := ⟨k - 1, by omega⟩
    simp only [isthmusref11_Word.l0]
    rw [if_neg (by omega), List.drop_eq_nil_of_le (by omega)]
    simp
  | succ d ih =>
    intro i k hi hk
    obtain ⟨k, rfl⟩ : ∃ m, k = m + 1 := ⟨k - 1, by omega⟩
    simp only [isthmusref11_Word.l0]
    have hlt : i < l.length := by omega
    have er : rdOf ByteArray.empty l (i : Int) = l[i] := by
      unfold rdOf
      rw [show ((i : Int)).toNat = i from rfl]
      simp [List.getD, hlt]
    rw [if_pos (by omega), if_pos (by omega), er, List.drop_eq_getElem_cons hlt]
    by_cases h : l[i].toList = x.toList
    · rw [if_pos h]
      rw [toList_iff] at h
      simp [List.any_cons, h]
    · rw [if_neg h, show wrap64 ((i : Int) + 1) = ((i + 1 : Nat) : Int) from (w64_id (by omega) (by omega)).trans (by omega), ih (i + 1) k (by omega) (by omega)]
      rw [toList_iff] at h
      rw [List.any_cons, decide_eq_false h, Bool.false_or]
theorem ref_word (s : ByteArray) {k : Nat} (hk : 30 ≤ k) : isthmusref11_Word.f k s = some (isW s) := by
  unfold isthmusref11_Word.f
  exact refWord_l0 s wordsL (by rw [wordsL_len]; omega) 27 0 k (by rw [wordsL_len]) (by omega)
end Go.Proofs.Ytijcoddbkefmlaa.Lex
