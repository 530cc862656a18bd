/- A text that is cut where a token ends: the tokens ahead of the cut stay. -/
import Derived.Test.YtijcoddbkefmlaaLexScan2
namespace Go.Proofs.Ytijcoddbkefmlaa.Lex
open Go.RowKit Go.Proofs.YtijcoddbkefmlaaW.PrintWords Go.Proofs.YtijcoddbkefmlaaW.PrintMore Go.Proofs.Ytijcoddbkefmlaa.L Go.Proofs.Ytijcoddbkefmlaa.Str

/-- Two texts agree on n bytes, and on one more or the second one ends there. -/
def Agree (n : Nat) (x y : ByteArray) : Prop := n ≤ x.size ∧ n ≤ y.size ∧ (∀ i, i < n → bt y i = bt x i) ∧ (y.size = n ∨ (n < x.size ∧ n < y.size ∧ bt y n = bt x n))

theorem fr_spec (p : Int → Bool) (x : ByteArray) : (∀ i, i < fr p x → p (bt x i) = true) ∧ (fr p x < x.size → p (bt x (fr p x)) = false) := by
  have hl := fr_le p x
  have hp : (bytesOf x).takeWhile p = (bytesOf x).take (fr p x) := List.prefix_iff_eq_take.1 (List.takeWhile_prefix p)
  constructor
  · intro i hi
    have hb := bytes_at x i (by omega)
    have hm : bt x i ∈ (bytesOf x).takeWhile p := by
      rw [hp, ← hb]
      rw [List.mem_take_iff_getElem]
      exact ⟨i, by rw [bytesOf_length]; omega, rfl⟩
    exact mem_tw p _ _ hm
  · intro h
    have hsplit := List.takeWhile_append_dropWhile (p := p) (l := bytesOf x)
    have hd : (bytesOf x).dropWhile p = (bytesOf x).drop (fr p x) := by
      have h2 := List.take_append_drop (fr p x) (bytesOf x)
      rw [hp] at hsplit
      exact List.append_cancel_left (hsplit.trans h2.symm)
    have hne : (bytesOf x).dropWhile p ≠ [] := by
      rw [hd]
      intro hh
      have := congrArg List.length hh
      rw [List.length_drop, bytesOf_length] at this
      simp at this
      omega
    have hh := List.head_dropWhile_not p hne
    have he : ((bytesOf x).dropWhile p).head hne = bt x (fr p x) := by
      rw [List.head_eq_getElem]
      simp only [hd, List.getElem_drop, Nat.add_zero]
      exact bytes_at x _ h
    rw [he] at hh
    exact hh
theorem fr_agree {p : Int → Bool} {x y : ByteArray} (h : Agree (fr p x) x y) : fr p y = fr p x := by
  obtain ⟨h1, h2, h3, h4⟩ := h
  obtain ⟨g1, g2⟩ := fr_spec p x
  unfold fr at *
  refine takeWhile_at p (bytesOf y) _ (by rw [bytesOf_length]; exact h2) (fun i hi hlt => ?_) (fun hi => ?_)
  · rw [bytesOf_length] at hi
    rw [bytes_at y i hi, h3 i hlt]
    exact g1 i hlt
  · rw [bytesOf_length] at hi
    rw [bytes_at y _ hi]
    rcases h4 with h | ⟨a, b, c⟩
    · omega
    · rw [c]; exact g2 a
theorem ext_agree {n : Nat} {x y : ByteArray} (h1 : n ≤ x.size) (h2 : n ≤ y.size) (h3 : ∀ i, i < n → bt y i = bt x i) : y.extract 0 n = x.extract 0 n := by
  apply ext_bytes
  rw [bytes_extract, bytes_extract, List.drop_zero, List.drop_zero, Nat.sub_zero]
  apply List.ext_getElem
  · rw [List.length_take, List.length_take, bytesOf_length, bytesOf_length]; omega
  · intro i hi1 hi2
    rw [List.length_take, bytesOf_length] at hi1 hi2
    rw [List.getElem_take, List.getElem_take, bytes_at y i (by omega), bytes_at x i (by omega)]
    exact h3 i (by omega)

/-- A token that is one is that of every text that agrees with its own. -/
theorem tok_agree {x y : ByteArray} (hx : 0 < x.size) (e : (tokV x).2.2.2.2 = 0) (h : Agree (tokV x).2.2.2.1 x y) : tokV y = tokV x := by
  have hlen := tok_len hx e
  have hA := h
  obtain ⟨h1, h2, h3, h4⟩ := h
  have h0 : bt y 0 = bt x 0 := by
    have := h3 0 hlen.1
    simpa using this
  unfold tokV at e hA h1 h2 h3 h4 ⊢
  rw [h0]
  by_cases hd : dg (bt x 0) = true
  · rw [if_pos hd] at e hA h1 h2 h3 h4 ⊢
    rw [if_pos hd]
    have hn : ∃ v, numV (x.extract 0 (fr dg x)) = some v := by
      cases hv : numV (x.extract 0 (fr dg x)) with
      | none => rw [hv] at e; simp at e
      | some v => exact ⟨v, rfl⟩
    obtain ⟨v, hv⟩ := hn
    rw [hv] at hA h1 h2 h3
    have hf := fr_agree (p := dg) hA
    rw [hf, ext_agree h1 h2 h3]
  · rw [if_neg hd] at e hA h1 h2 h3 h4 ⊢
    rw [if_neg hd]
    by_cases hl : (sm (bt x 0) || gr (bt x 0)) = true
    · rw [if_pos hl] at e hA h1 h2 h3 h4 ⊢
      rw [if_pos hl]
      have hA' : Agree (fr wd x) x y := by
        by_cases hi : isW (x.extract 0 (fr wd x)) = true
        · rw [if_pos hi] at hA; exact hA
        · rw [if_neg hi] at e hA
          by_cases hn : nameOK (x.extract 0 (fr wd x)) = true
          · rw [if_pos hn] at hA; exact hA
          · rw [if_neg hn] at e; simp at e
      have hf := fr_agree (p := wd) hA'
      rw [hf, ext_agree hA'.1 hA'.2.1 hA'.2.2.1]
    · rw [if_neg hl] at e hA h1 h2 h3 h4 ⊢
      rw [if_neg hl]
      by_cases ht : two x = true
      · rw [if_pos ht] at e hA h1 h2 h3 h4 ⊢
        have ht1 := ht
        unfold two at ht1
        have ht2 := of_decide_eq_true ht1
        have b1 : bt y 1 = bt x 1 := by
          have := h3 1 (show 1 < 2 by omega)
          simpa using this
        have hy : two y = true := by
          unfold two
          rw [decide_eq_true_iff, h0, b1]
          exact ⟨h2, ht2.2⟩
        rw [if_pos hy, ext_agree h1 h2 h3]
      · rw [if_neg ht] at e hA h1 h2 h3 h4 ⊢
        by_cases hg : sg (bt x 0) = true
        · rw [if_pos hg] at e hA h1 h2 h3 h4 ⊢
          have hy : ¬ two y = true := by
            unfold two
            rw [decide_eq_true_iff, h0]
            rintro ⟨g1, g2⟩
            apply ht
            unfold two
            rw [decide_eq_true_iff]
            rcases h4 with h | ⟨a, _, c⟩
            · have : y.size = 1 := h
              omega
            · have c' : bt y 1 = bt x 1 := by simpa using c
              rw [c'] at g2
              exact ⟨a, g2⟩
          rw [if_neg hy, if_pos hg, ext_agree h1 h2 h3]
        · rw [if_neg hg] at e; simp at e
end Go.Proofs.Ytijcoddbkefmlaa.Lex
