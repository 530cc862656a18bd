/- The law on what Scan refuses, over texts alone: what stands behind the place that is refused does not matter. -/
import Derived.Test.YtijcoddbkefmlaaLexCut
import Derived.Test.YtijcoddbkefmlaaPureLexNames
import Derived.Test.YtijcoddbkefmlaaLx18
namespace Go.Proofs.Ytijcoddbkefmlaa.Lex
open Go.RowKit Go.Proofs.YtijcoddbkefmlaaW.PrintWords Go.Proofs.YtijcoddbkefmlaaW.PrintMore Go.Proofs.Ytijcoddbkefmlaa.L Go.Proofs.Ytijcoddbkefmlaa.Str

theorem tok_errs (x : ByteArray) : (tokV x).2.2.2.2 = 0 ∨ (tokV x).2.2.2.2 = 110 ∨ (tokV x).2.2.2.2 = 111 ∨ (tokV x).2.2.2.2 = 112 := by
  unfold tokV
  split
  · cases numV (x.extract 0 (fr dg x)) with
    | none => exact .inr (.inr (.inl rfl))
    | some v => exact .inl rfl
  · split
    · split
      · exact .inl rfl
      · split
        · exact .inl rfl
        · exact .inr (.inr (.inr rfl))
    · split
      · exact .inl rfl
      · split
        · exact .inl rfl
        · exact .inr (.inl rfl)
/-- What Scan refuses: a token's error at its place. -/
theorem scan_err (s : ByteArray) : ∀ (f i : Nat) (acc : List S29), s.size < i + f → i ≤ s.size →
    (∃ l, scanV s f i acc = (l, 0, 0)) ∨ (∃ at_ : Nat, i ≤ at_ ∧ at_ < s.size ∧ (tokV (sub s at_)).2.2.2.2 ≠ 0 ∧ ¬ blk (bt s at_) = true ∧ scanV s f i acc = ([], (tokV (sub s at_)).2.2.2.2, (at_ : Int))) := by
  intro f
  induction f with
  | zero => intro i acc h1 h2; omega
  | succ f ih =>
    intro i acc h1 h2
    rw [scanV]
    by_cases hlt : i < s.size
    · rw [if_pos hlt]
      by_cases hb : blk (bt s i) = true
      · rw [if_pos hb]
        rcases ih (i + 1) acc (by omega) (by omega) with h | ⟨a, h, r⟩
        · exact .inl h
        · exact .inr ⟨a, by omega, r⟩
      · rw [if_neg hb]
        by_cases he : (tokV (sub s i)).2.2.2.2 = 0
        · rw [if_pos he]
          have hl := tok_len (show 0 < (sub s i).size by rw [size_sub]; omega) he
          rw [size_sub] at hl
          rcases ih (i + (tokV (sub s i)).2.2.2.1) _ (by omega) (by omega) with h | ⟨a, h, r⟩
          · exact .inl h
          · exact .inr ⟨a, by omega, r⟩
        · rw [if_neg he]
          exact .inr ⟨i, Nat.le_refl _, hlt, he, hb, rfl⟩
    · rw [if_neg hlt]
      exact .inl ⟨_, rfl⟩

theorem sub_agree {s t : ByteArray} {i n c : Nat} (hic : i + n ≤ c) (hs : c ≤ s.size) (ht : c ≤ t.size) (hb : ∀ j, j < c → bt t j = bt s j) (hc : t.size = c ∨ (c < s.size ∧ c < t.size ∧ bt t c = bt s c)) : Agree n (sub s i) (sub t i) := by
  refine ⟨by rw [size_sub]; omega, by rw [size_sub]; omega, fun j hj => ?_, ?_⟩
  · rw [bt_sub t i j (by omega), bt_sub s i j (by omega)]
    exact hb _ (by omega)
  · by_cases h : i + n < c
    · exact .inr ⟨by rw [size_sub]; omega, by rw [size_sub]; omega, by rw [bt_sub t i n (by omega), bt_sub s i n (by omega)]; exact hb _ (by omega)⟩
    · have e : i + n = c := by omega
      rcases hc with h1 | ⟨h1, h2, h3⟩
      · exact .inl (by rw [size_sub]; omega)
      · exact .inr ⟨by rw [size_sub]; omega, by rw [size_sub]; omega, by rw [bt_sub t i n (by omega), bt_sub s i n (by omega), e]; exact h3⟩

/-- A text that agrees up to the place that is refused. -/
theorem scan_cut (s t : ByteArray) (c : Nat) (hs : c < s.size) (ht : c ≤ t.size) (hb : ∀ j, j < c → bt t j = bt s j) (hc : t.size = c ∨ (c < s.size ∧ c < t.size ∧ bt t c = bt s c)) (he0 : (tokV (sub s c)).2.2.2.2 ≠ 0) :
    ∀ (f i g : Nat) (acc acc' : List S29), s.size < i + f → i ≤ c → t.size < i + g → scanV s f i acc = ([], (tokV (sub s c)).2.2.2.2, (c : Int)) →
      (t.size = c → ∃ l, scanV t g i acc' = (l, 0, 0)) ∧ (c < t.size → (tokV (sub s c)).2.2.2.2 = 110 → bt s c ≠ 33 → scanV t g i acc' = ([], 110, (c : Int))) := by
  intro f
  induction f with
  | zero => intro i g acc acc' h1 h2; omega
  | succ f ih =>
    intro i g acc acc' h1 h2 h3 h
    obtain ⟨g, rfl⟩ : ∃ m, g = m + 1 := ⟨g - 1, by omega⟩
    rw [scanV, if_pos (show i < s.size by omega)] at h
    by_cases hic : i = c
    · subst hic
      have hnb : ¬ blk (bt s i) = true := by
        intro hbk
        rw [if_pos hbk] at h
        rcases scan_err s f (i + 1) acc (by omega) (by omega) with ⟨l, e⟩ | ⟨a, ha, _, _, _, e⟩
        · rw [e] at h
          have := congrArg (fun z => z.2.1) h
          exact he0 this.symm
        · rw [e] at h
          have := congrArg (fun z => z.2.2) h
          simp at this
          omega
      constructor
      · intro hsz
        rw [scanV, if_neg (by omega)]
        exact ⟨_, rfl⟩
      · intro hlt he hx
        have hbt : bt t i = bt s i := by
          rcases hc with h | ⟨_, _, h⟩
          · omega
          · exact h
        rw [scanV, if_pos hlt, hbt, if_neg hnb]
        have h0 : bt (sub s i) 0 = bt s i := bt_sub0 hs
        have h0' : bt (sub t i) 0 = bt s i := (bt_sub0 hlt).trans hbt
        have htok : (tokV (sub t i)).2.2.2.2 = 110 := by
          unfold tokV at he ⊢
          rw [h0] at he
          rw [h0']
          by_cases hd : dg (bt s i) = true
          · rw [if_pos hd] at he
            exfalso
            cases hn : numV ((sub s i).extract 0 (fr dg (sub s i))) with
            | none => rw [hn] at he; simp at he
            | some v => rw [hn] at he; simp at he
          · rw [if_neg hd] at he ⊢
            by_cases hl : (sm (bt s i) || gr (bt s i)) = true
            · rw [if_pos hl] at he
              exfalso
              by_cases hw : isW ((sub s i).extract 0 (fr wd (sub s i))) = true
              · rw [if_pos hw] at he; simp at he
              · rw [if_neg hw] at he
                by_cases hn : nameOK ((sub s i).extract 0 (fr wd (sub s i))) = true
                · rw [if_pos hn] at he; simp at he
                · rw [if_neg hn] at he; simp at he
            · rw [if_neg hl] at he ⊢
              have hsg : ¬ sg (bt s i) = true := by
                intro hg
                by_cases ht2 : two (sub s i) = true
                · rw [if_pos ht2] at he; simp at he
                · rw [if_neg ht2, if_pos hg] at he; simp at he
              have ht2 : ¬ two (sub t i) = true := by
                unfold two
                rw [decide_eq_true_iff, h0']
                rintro ⟨_, ⟨g1, _⟩ | ⟨g1, _⟩⟩
                · exact hx g1
                · apply hsg; rw [g1]; decide
              rw [if_neg ht2, if_neg hsg]
        rw [if_neg (by rw [htok]; decide), htok]
    · have hlt : i < c := by omega
      have hbt : bt t i = bt s i := hb i hlt
      rw [scanV, if_pos (show i < t.size by omega), hbt]
      by_cases hbk : blk (bt s i) = true
      · rw [if_pos hbk] at h ⊢
        exact ih (i + 1) g acc acc' (by omega) (by omega) (by omega) h
      · rw [if_neg hbk] at h ⊢
        have hy : 0 < (sub s i).size := by rw [size_sub]; omega
        by_cases he : (tokV (sub s i)).2.2.2.2 = 0
        · rw [if_pos he] at h
          have hl := tok_len hy he
          rw [size_sub] at hl
          have hin : i + (tokV (sub s i)).2.2.2.1 ≤ c := by
            rcases scan_err s f (i + (tokV (sub s i)).2.2.2.1) _ (by omega) (by omega) with ⟨l, e⟩ | ⟨a, ha, _, _, _, e⟩
            · rw [e] at h
              have := congrArg (fun z => z.2.1) h
              exact absurd this.symm he0
            · rw [e] at h
              have := congrArg (fun z => z.2.2) h
              simp at this
              omega
          have ha := tok_agree hy he (sub_agree hin (by omega) ht hb hc)
          rw [ha, if_pos he]
          exact ih (i + (tokV (sub s i)).2.2.2.1) g _ _ (by omega) hin (by omega) h
        · rw [if_neg he] at h
          have := congrArg (fun z => z.2.2) h
          simp at this
          omega
theorem bt_ext {s : ByteArray} {n j : Nat} (h : j < n) (hn : n ≤ s.size) : bt (s.extract 0 n) j = bt s j := by
  have hsz : (s.extract 0 n).size = n := by rw [ByteArray.size_extract]; omega
  rw [← bytes_at (s.extract 0 n) j (by omega), ← bytes_at s j (by omega)]
  simp only [bytes_extract, List.drop_zero, Nat.sub_zero, List.getElem_take]
theorem bt_app {s t : ByteArray} {j : Nat} (h : j < s.size) : bt (s ++ t) j = bt s j := by
  rw [← bytes_at (s ++ t) j (by rw [ByteArray.size_append]; omega), ← bytes_at s j h]
  simp only [bytes_append]
  rw [List.getElem_append_left]
end Go.Proofs.Ytijcoddbkefmlaa.Lex
namespace Go.Proofs.Ytijcoddbkefmlaa.Pure
open Go.RowKit Go.Proofs.YtijcoddbkefmlaaW.PrintWords Go.Proofs.YtijcoddbkefmlaaW.PrintMore Go.Proofs.Ytijcoddbkefmlaa.L Go.Proofs.Ytijcoddbkefmlaa.Str Go.Proofs.Ytijcoddbkefmlaa.Lex
theorem LexAlone : isthmuslaw11_LexAlone.Pure := by
  intro s t hs ht
  obtain ⟨r, hr⟩ : ∃ r : Nat, 5000 ≤ r := ⟨5000, Nat.le_refl _⟩
  refine ⟨r, ?_⟩
  unfold isthmuslaw11_LexAlone.f
  rw [awake_f (by omega), bs, scan_f s (by omega), bs, if_pos rfl]
  obtain ⟨r, rfl⟩ : ∃ m, r = m + 2 := ⟨r - 2, by omega⟩
  by_cases hlong : s.size > 2000
  · have e : scanS s = ([], 113, 0) := by unfold scanS; rw [if_pos hlong]
    rw [e, if_neg (by decide)]
    simp only [isthmuslaw11_LexAlone.j0]
    rfl
  · have e : scanS s = scanV s (s.size + 1) 0 [] := by unfold scanS; rw [if_neg hlong]
    rcases scan_err s (s.size + 1) 0 [] (by omega) (by omega) with ⟨l, h⟩ | ⟨c, _, hc, he, _, h⟩
    · rw [e, h, if_pos rfl]
      simp only [isthmuslaw11_LexAlone.j0]
      rfl
    · rw [e, h]
      simp only []
      rw [if_neg he]
      have herr := tok_errs (sub s c)
      have hn113 : ((tokV (sub s c)).2.2.2.2 == 113) = false := beq_eq_false_iff_ne.2 (by omega)
      simp only [isthmuslaw11_LexAlone.j0]
      have hci : (c : Int) < (s.size : Int) := Int.ofNat_lt.2 hc
      have hc0 : (0 : Int) ≤ (c : Int) := Int.natCast_nonneg c
      rw [hn113, if_neg (by simp), if_neg (by omega), if_neg (by omega)]
      have e1 : (if (tokV (sub s c)).2.2.2.2 = 110 then isthmuslaw11_LexAlone.j1 (r + 1) s t (tokV (sub s c)).2.2.2.2 (c : Int) false else if (tokV (sub s c)).2.2.2.2 = 111 then isthmuslaw11_LexAlone.j1 (r + 1) s t (tokV (sub s c)).2.2.2.2 (c : Int) false else isthmuslaw11_LexAlone.j1 (r + 1) s t (tokV (sub s c)).2.2.2.2 (c : Int) ((tokV (sub s c)).2.2.2.2 != 112)) = isthmuslaw11_LexAlone.j1 (r + 1) s t (tokV (sub s c)).2.2.2.2 (c : Int) false := by
        by_cases a1 : (tokV (sub s c)).2.2.2.2 = 110
        · rw [if_pos a1]
        · rw [if_neg a1]
          by_cases a2 : (tokV (sub s c)).2.2.2.2 = 111
          · rw [if_pos a2]
          · rw [if_neg a2, show ((tokV (sub s c)).2.2.2.2 != 112) = false from bne_eq_false_iff_eq.2 (by omega)]
      rw [e1]
      simp only [isthmuslaw11_LexAlone.j1]
      rw [if_neg (by simp), if_pos hc0, if_pos (by omega), scan_f _ (by omega), bs, show ((c : Nat) : Int).toNat = c from rfl]
      have hz : (s.extract 0 c).size = c := by rw [ByteArray.size_extract]; omega
      have k1 := (scan_cut s (s.extract 0 c) c hc (by omega) (fun j hj => bt_ext hj (by omega)) (.inl hz) he (s.size + 1) 0 (c + 1) [] [] (by omega) (by omega) (by omega) h).1 hz
      obtain ⟨l, hl⟩ := k1
      have hS : scanS (s.extract 0 c) = (l, 0, 0) := by
        unfold scanS
        rw [hz, if_neg (by omega), hl]
      rw [hS, if_pos rfl]
      by_cases a1 : (tokV (sub s c)).2.2.2.2 = 110
      · rw [if_pos a1, show wrap64 (2000 - (t.size : Int)) = 2000 - (t.size : Int) from w64_id (by omega) (by omega)]
        by_cases a2 : (s.size : Int) > 2000 - (t.size : Int)
        · rw [if_pos a2]
        · rw [if_neg a2, if_pos hci]
          by_cases a3 : bt s (c : Int) = 33
          · rw [if_pos a3]
          · have hw : wrap64 ((c : Int) + 1) = ((c + 1 : Nat) : Int) := (w64_id (by omega) (by omega)).trans (by omega)
            have hz1 : (s.extract 0 (c + 1)).size = c + 1 := by rw [ByteArray.size_extract]; omega
            rw [if_neg a3, hw, if_pos (Int.natCast_nonneg _), if_pos (by omega), show ((c + 1 : Nat) : Int).toNat = c + 1 from rfl, if_pos (by rw [hz1]; omega), scan_f _ (by omega), bs]
            have hz2 : (s.extract 0 (c + 1) ++ t).size = c + 1 + t.size := by rw [ByteArray.size_append, hz1]
            have hbb : ∀ j, j < c + 1 → bt (s.extract 0 (c + 1) ++ t) (j : Int) = bt s (j : Int) := fun j hj => by rw [bt_app (by omega), bt_ext hj (by omega)]
            have k2 := (scan_cut s (s.extract 0 (c + 1) ++ t) c hc (by omega) (fun j hj => hbb j (by omega)) (.inr ⟨hc, by omega, hbb c (by omega)⟩) he (s.size + 1) 0 (c + 1 + t.size + 1) [] [] (by omega) (by omega) (by omega) h).2 (by omega) a1 a3
            have hS2 : scanS (s.extract 0 (c + 1) ++ t) = ([], 110, (c : Int)) := by
              unfold scanS
              rw [hz2, if_neg (by omega), k2]
            rw [hS2, if_pos rfl]
            simp
      · rw [if_neg a1]
end Go.Proofs.Ytijcoddbkefmlaa.Pure
