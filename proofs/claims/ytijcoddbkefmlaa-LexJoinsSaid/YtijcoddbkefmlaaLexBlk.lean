/- A token stays one when a blank stands behind it; texts of tokens with blanks between are a chain. -/
import Derived.Test.YtijcoddbkefmlaaLexChain
namespace Go.Proofs.Ytijcoddbkefmlaa.Lex
open Go.RowKit Go.Proofs.YtijcoddbkefmlaaW.PrintWords Go.Proofs.YtijcoddbkefmlaaW.PrintMore Go.Proofs.Ytijcoddbkefmlaa.L Go.Proofs.Ytijcoddbkefmlaa.Str

/-- Two texts agree on n bytes; behind them the second one ends, or a blank stands there. -/
def AgreeB (n : Nat) (x y : ByteArray) : Prop := n ≤ x.size ∧ n ≤ y.size ∧ (∀ i : Nat, i < n → bt y (i : Int) = bt x (i : Int)) ∧ (y.size = n ∨ (n < y.size ∧ blk (bt y (n : Int)) = true))
theorem fr_blank {p : Int → Bool} {x y : ByteArray} (hpb : ∀ c, blk c = true → p c = false) (h : AgreeB (fr p x) x y) : fr p y = fr p x := by
  obtain ⟨h1, h2, h3, h4⟩ := h
  have g1 := (fr_spec p x).1
  unfold fr at *
  refine takeWhile_at p (bytesOf y) _ (by rw [bytesOf_length]; exact h2) (fun i hi hlt => ?_) (fun hi => ?_)
  · rw [bytesOf_length] at hi
    rw [bytes_at y i hi, h3 i hlt]
    exact g1 i hlt
  · rw [bytesOf_length] at hi
    rw [bytes_at y _ hi]
    rcases h4 with h | ⟨a, b⟩
    · omega
    · exact hpb _ b
/-- A token that is one is that of every text that agrees with its own. -/
theorem tok_blank {x y : ByteArray} (hx : 0 < x.size) (e : (tokV x).2.2.2.2 = 0) (h : AgreeB (tokV x).2.2.2.1 x y) : tokV y = tokV x := by
  have hlen := tok_len hx e
  have hA := h
  obtain ⟨h1, h2, h3, h4⟩ := h
  have h0 : bt y 0 = bt x 0 := by
    have := h3 0 hlen.1
    simpa using this
  unfold tokV at e hA h1 h2 h3 h4 ⊢
  rw [h0]
  by_cases hd : dg (bt x 0) = true
  · rw [if_pos hd] at e hA h1 h2 h3 h4 ⊢
    rw [if_pos hd]
    have hn : ∃ v, numV (x.extract 0 (fr dg x)) = some v := by
      cases hv : numV (x.extract 0 (fr dg x)) with
      | none => rw [hv] at e; simp at e
      | some v => exact ⟨v, rfl⟩
    obtain ⟨v, hv⟩ := hn
    rw [hv] at hA h1 h2 h3
    have hf := fr_blank (p := dg) (fun c hc => Bool.eq_false_iff.2 (fun hh => dg_blk hh hc)) hA
    rw [hf, ext_agree h1 h2 h3]
  · rw [if_neg hd] at e hA h1 h2 h3 h4 ⊢
    rw [if_neg hd]
    by_cases hl : (sm (bt x 0) || gr (bt x 0)) = true
    · rw [if_pos hl] at e hA h1 h2 h3 h4 ⊢
      rw [if_pos hl]
      have hA' : AgreeB (fr wd x) x y := by
        by_cases hi : isW (x.extract 0 (fr wd x)) = true
        · rw [if_pos hi] at hA; exact hA
        · rw [if_neg hi] at e hA
          by_cases hn : nameOK (x.extract 0 (fr wd x)) = true
          · rw [if_pos hn] at hA; exact hA
          · rw [if_neg hn] at e; simp at e
      have hf := fr_blank (p := wd) (fun c hc => Bool.eq_false_iff.2 (fun hh => wd_blk hh hc)) hA'
      rw [hf, ext_agree hA'.1 hA'.2.1 hA'.2.2.1]
    · rw [if_neg hl] at e hA h1 h2 h3 h4 ⊢
      rw [if_neg hl]
      by_cases ht : two x = true
      · rw [if_pos ht] at e hA h1 h2 h3 h4 ⊢
        have ht1 := ht
        unfold two at ht1
        have ht2 := of_decide_eq_true ht1
        have b1 : bt y 1 = bt x 1 := by
          have := h3 1 (show 1 < 2 by omega)
          simpa using this
        have hy : two y = true := by
          unfold two
          rw [decide_eq_true_iff, h0, b1]
          exact ⟨h2, ht2.2⟩
        rw [if_pos hy, ext_agree h1 h2 h3]
      · rw [if_neg ht] at e hA h1 h2 h3 h4 ⊢
        by_cases hg : sg (bt x 0) = true
        · rw [if_pos hg] at e hA h1 h2 h3 h4 ⊢
          have hy : ¬ two y = true := by
            unfold two
            rw [decide_eq_true_iff, h0]
            rintro ⟨g1, g2⟩
            apply ht
            unfold two
            rw [decide_eq_true_iff]
            rcases h4 with h | ⟨_, c⟩
            · have : y.size = 1 := h
              omega
            · have c' : blk (bt y 1) = true := by simpa using c
              unfold blk at c'
              rw [decide_eq_true_iff] at c'
              omega
          rw [if_neg hy, if_pos hg, ext_agree h1 h2 h3]
        · rw [if_neg hg] at e; simp at e

/-- A token with a place of its own. -/
def atP (a : S29) (p : Int) : S29 := ⟨a.f0, a.f1, a.f2, p⟩
/-- The text so far: ahead of any chain behind it stand the tokens so far, at their places. -/
def Inv (pre : List S29) (P : List Int) (T : ByteArray) : Prop :=
  P.length = pre.length ∧ ∀ (F : ByteArray) (tail : List S29), T.size ≤ F.size → (∀ j : Nat, j < T.size → bt F (j : Int) = bt T (j : Int)) → (pre = [] ∨ F.size = T.size ∨ (T.size < F.size ∧ blk (bt F (T.size : Int)) = true)) → Chain F T.size tail → Chain F 0 (List.zipWith atP pre P ++ tail)
theorem inv_nil : Inv [] [] (⟨#[]⟩ : ByteArray) := ⟨rfl, fun _ _ _ _ _ h => h⟩
theorem bt_app2 {s t : ByteArray} {j : Nat} (h : j < t.size) : bt (s ++ t) ((s.size + j : Nat) : Int) = bt t (j : Int) := by
  rw [← bytes_at (s ++ t) (s.size + j) (by rw [ByteArray.size_append]; omega), ← bytes_at t j h]
  simp only [bytes_append]
  rw [List.getElem_append_right (by rw [bytesOf_length]; omega)]
  simp only [bytesOf_length, Nat.add_sub_cancel_left]
theorem inv_step {s : ByteArray} {pre : List S29} {P : List Int} {T b : ByteArray} {p : Nat} (h : Inv pre P T) (hp : p < s.size) (e : (tokV (sub s p)).2.2.2.2 = 0) (hn : ¬ blk (bt s (p : Int)) = true)
    (hb : ∀ j : Nat, j < b.size → blk (bt b (j : Int)) = true) (hpre : pre = [] ∨ 0 < b.size) :
    Inv (pre ++ [⟨(tokV (sub s p)).1, (tokV (sub s p)).2.1, (tokV (sub s p)).2.2.1, (p : Int)⟩]) (P ++ [((T ++ b).size : Int)]) ((T ++ b) ++ s.extract p (p + (tokV (sub s p)).2.2.2.1)) := by
  obtain ⟨hlen, h⟩ := h
  have hx : 0 < (sub s p).size := by rw [size_sub]; omega
  have hl := tok_len hx e
  rw [size_sub] at hl
  refine ⟨by rw [List.length_append, List.length_append, hlen]; rfl, ?_⟩
  intro F tail hF hby hend hc
  have hz : (s.extract p (p + (tokV (sub s p)).2.2.2.1)).size = (tokV (sub s p)).2.2.2.1 := by rw [ByteArray.size_extract]; omega
  rw [ByteArray.size_append, hz] at hF hby hend hc
  have hend' : F.size = (T ++ b).size + (tokV (sub s p)).2.2.2.1 ∨ ((T ++ b).size + (tokV (sub s p)).2.2.2.1 < F.size ∧ blk (bt F (((T ++ b).size + (tokV (sub s p)).2.2.2.1 : Nat) : Int)) = true) := by
    rcases hend with h | h
    · simp at h
    · exact h
  have hT1 : (T ++ b).size = T.size + b.size := ByteArray.size_append
  have hb1 : ∀ j : Nat, j < T.size → bt F (j : Int) = bt T (j : Int) := fun j hj => by rw [hby j (by omega), bt_app (by omega), bt_app hj]
  have hb2 : ∀ j : Nat, j < b.size → bt F ((T.size + j : Nat) : Int) = bt b (j : Int) := fun j hj => by rw [hby _ (by omega), bt_app (by omega), bt_app2 hj]
  have hb3 : ∀ j : Nat, j < (tokV (sub s p)).2.2.2.1 → bt F (((T ++ b).size + j : Nat) : Int) = bt s ((p + j : Nat) : Int) := fun j hj => by rw [hby _ (by omega), bt_app2 (by omega), bt_cut s (by omega) (by omega)]
  have hag : tokV (sub F (T ++ b).size) = tokV (sub s p) := by
    refine tok_blank hx e ⟨by rw [size_sub]; omega, by rw [size_sub]; omega, fun j hj => ?_, ?_⟩
    · rw [bt_sub F _ j (by omega), bt_sub s p j (by omega), hb3 j hj]
    · rcases hend' with h | ⟨h1, h2⟩
      · exact .inl (by rw [size_sub]; omega)
      · exact .inr ⟨by rw [size_sub]; omega, by rw [bt_sub F _ _ (by omega)]; exact h2⟩
  have key : Chain F T.size (⟨(tokV (sub F (T ++ b).size)).1, (tokV (sub F (T ++ b).size)).2.1, (tokV (sub F (T ++ b).size)).2.2.1, ((T ++ b).size : Int)⟩ :: tail) := by
    refine .tok (by omega) (by omega) (fun j h1 h2 => ?_) ?_ (by rw [hag]; exact e) (by rw [hag]; exact hc)
    · have := hb2 (j - T.size) (by omega)
      rw [show T.size + (j - T.size) = j by omega] at this
      rw [this]
      exact hb _ (by omega)
    · have := hb3 0 (by omega)
      rw [Nat.add_zero, Nat.add_zero] at this
      rw [this]
      exact hn
  rw [hag] at key
  have res := h F _ (by omega) hb1 (by
    rcases hpre with h | h
    · exact .inl h
    · refine .inr (.inr ⟨by omega, ?_⟩)
      have := hb2 0 h
      rw [Nat.add_zero] at this
      rw [this]
      exact hb 0 h) key
  rw [List.zipWith_append hlen.symm, List.append_assoc]
  exact res
end Go.Proofs.Ytijcoddbkefmlaa.Lex
