/- The tokens that Scan gives are a chain: tokens with blanks between, and the end. -/
import Derived.Test.YtijcoddbkefmlaaPureLexAlone
import Derived.Test.YtijcoddbkefmlaaLx16
namespace Go.Proofs.Ytijcoddbkefmlaa.Lex
open Go.RowKit Go.Proofs.YtijcoddbkefmlaaW.PrintWords Go.Proofs.YtijcoddbkefmlaaW.PrintMore Go.Proofs.Ytijcoddbkefmlaa.L Go.Proofs.Ytijcoddbkefmlaa.Str

/-- The tokens from a place on: blanks, a token, and so on; blanks and the end. -/
inductive Chain (s : ByteArray) : Nat → List S29 → Prop
  | done {i : Nat} (hi : i ≤ s.size) (hb : ∀ j : Nat, i ≤ j → j < s.size → blk (bt s (j : Int)) = true) : Chain s i [⟨0, 0, emp, (s.size : Int)⟩]
  | tok {i p : Nat} {l : List S29} (hi : i ≤ p) (hp : p < s.size) (hb : ∀ j : Nat, i ≤ j → j < p → blk (bt s (j : Int)) = true) (hn : ¬ blk (bt s (p : Int)) = true) (he : (tokV (sub s p)).2.2.2.2 = 0) (hc : Chain s (p + (tokV (sub s p)).2.2.2.1) l) : Chain s i (⟨(tokV (sub s p)).1, (tokV (sub s p)).2.1, (tokV (sub s p)).2.2.1, (p : Int)⟩ :: l)

theorem Chain.back {s : ByteArray} {i : Nat} {l : List S29} (h : Chain s (i + 1) l) (hb : blk (bt s (i : Int)) = true) : Chain s i l := by
  cases h with
  | done hi hb' =>
    refine .done (by omega) (fun j h1 h2 => ?_)
    by_cases e : j = i
    · rw [e]; exact hb
    · exact hb' j (by omega) h2
  | tok hi hp hb' hn he hc =>
    refine .tok (by omega) hp (fun j h1 h2 => ?_) hn he hc
    by_cases e : j = i
    · rw [e]; exact hb
    · exact hb' j (by omega) h2
theorem Chain.head {s : ByteArray} {i : Nat} {l : List S29} (h : Chain s i l) : ∃ (a : S29) (r : List S29) (q : Nat), l = a :: r ∧ a.f3 = (q : Int) ∧ i ≤ q ∧ q ≤ s.size ∧ ∀ j : Nat, i ≤ j → j < q → blk (bt s (j : Int)) = true := by
  cases h with
  | done hi hb => exact ⟨_, _, s.size, rfl, rfl, hi, Nat.le_refl _, hb⟩
  | @tok _ p l hi hp hb hn he hc => exact ⟨_, _, p, rfl, rfl, hi, by omega, hb⟩
theorem Chain.len {s : ByteArray} {i : Nat} {l : List S29} (h : Chain s i l) : l.length + i ≤ s.size + 1 := by
  induction h with
  | done hi hb => simp only [List.length_cons, List.length_nil]; omega
  | @tok i p l hi hp hb hn he hc ih =>
    have := tok_len (show 0 < (sub s p).size by rw [size_sub]; omega) he
    rw [List.length_cons]
    omega

theorem scan_chain (s : ByteArray) : ∀ (f i : Nat) (acc l : List S29) (c : Int), s.size < i + f → i ≤ s.size → scanV s f i acc = (l, 0, c) → ∃ l', l = acc ++ l' ∧ Chain s i l' := by
  intro f
  induction f with
  | zero => intro i acc l c h1 h2; omega
  | succ f ih =>
    intro i acc l c h1 h2 h
    rw [scanV] at h
    by_cases hlt : i < s.size
    · rw [if_pos hlt] at h
      by_cases hb : blk (bt s i) = true
      · rw [if_pos hb] at h
        obtain ⟨l', e, hc⟩ := ih (i + 1) acc l c (by omega) (by omega) h
        exact ⟨l', e, hc.back hb⟩
      · rw [if_neg hb] at h
        by_cases he : (tokV (sub s i)).2.2.2.2 = 0
        · rw [if_pos he] at h
          have hl := tok_len (show 0 < (sub s i).size by rw [size_sub]; omega) he
          rw [size_sub] at hl
          obtain ⟨l', e, hc⟩ := ih (i + (tokV (sub s i)).2.2.2.1) _ l c (by omega) (by omega) h
          refine ⟨_ :: l', ?_, .tok (Nat.le_refl i) hlt (fun j _ _ => by omega) hb he hc⟩
          rw [e, List.append_assoc]
          rfl
        · rw [if_neg he] at h
          have := congrArg (fun z => z.2.1) h
          exact absurd this he
    · rw [if_neg hlt] at h
      have e := congrArg (fun z => z.1) h
      exact ⟨_, e.symm, .done h2 (fun j _ _ => by omega)⟩
theorem scan_blanks (t : ByteArray) : ∀ (d f i : Nat) (acc : List S29), i + d ≤ t.size → (∀ j : Nat, i ≤ j → j < i + d → blk (bt t (j : Int)) = true) → scanV t (f + d) i acc = scanV t f (i + d) acc := by
  intro d
  induction d with
  | zero => intro f i acc _ _; rfl
  | succ d ih =>
    intro f i acc h hb
    rw [show f + (d + 1) = (f + d) + 1 by omega, scanV, if_pos (by omega), if_pos (hb i (Nat.le_refl _) (by omega)), ih f (i + 1) acc (by omega) (fun j h1 h2 => hb j (by omega) (by omega)), show i + 1 + d = i + (d + 1) by omega]
/-- And a chain is what Scan gives. -/
theorem chain_scan {t : ByteArray} {i : Nat} {l : List S29} (h : Chain t i l) : ∀ (f : Nat) (acc : List S29), t.size < i + f → scanV t f i acc = (acc ++ l, 0, 0) := by
  induction h with
  | @done i hi hb =>
    intro f acc hf
    obtain ⟨g, rfl⟩ : ∃ g, f = (g + 1) + (t.size - i) := ⟨f - (t.size - i) - 1, by omega⟩
    rw [scan_blanks t (t.size - i) (g + 1) i acc (by omega) (fun j h1 h2 => hb j h1 (by omega)), scanV, if_neg (by omega)]
  | @tok i p l hi hp hb hn he hc ih =>
    intro f acc hf
    obtain ⟨g, rfl⟩ : ∃ g, f = (g + 1) + (p - i) := ⟨f - (p - i) - 1, by omega⟩
    have hl := tok_len (show 0 < (sub t p).size by rw [size_sub]; omega) he
    rw [scan_blanks t (p - i) (g + 1) i acc (by omega) (fun j h1 h2 => hb j h1 (by omega)), show i + (p - i) = p by omega, scanV, if_pos hp, if_neg hn, if_pos he, ih g _ (by omega), List.append_assoc]
    rfl

/-! ### the text of a token -/
theorem dg_blk {c : Int} (h : dg c = true) : ¬ blk c = true := by
  unfold dg at h; unfold blk
  rw [decide_eq_true_iff] at h ⊢
  omega
theorem wd_blk {c : Int} (h : wd c = true) : ¬ blk c = true := by
  unfold wd dg sm gr at h; unfold blk
  simp only [Bool.or_eq_true, decide_eq_true_eq] at h
  rw [decide_eq_true_iff]
  omega
theorem sg_mem {c : Int} (h : sg c = true) : c = 40 ∨ c = 41 ∨ c = 123 ∨ c = 125 ∨ c = 44 ∨ c = 58 ∨ c = 64 ∨ c = 43 ∨ c = 45 ∨ c = 42 ∨ c = 47 ∨ c = 37 ∨ c = 61 ∨ c = 60 := by
  unfold sg at h
  simp only [List.any_cons, List.any_nil, Bool.or_eq_true, decide_eq_true_eq, Bool.or_false] at h
  omega
theorem sg_blk {c : Int} (h : sg c = true) : ¬ blk c = true := by
  have := sg_mem h
  unfold blk
  rw [decide_eq_true_iff]
  omega
theorem two_bytes {x : ByteArray} (h : two x = true) : 2 ≤ x.size ∧ (bt x 0 = 33 ∨ bt x 0 = 60) ∧ bt x 1 = 61 := by
  unfold two at h
  have := of_decide_eq_true h
  omega
/-- No byte of a token is a blank. -/
theorem tok_blk {x : ByteArray} (e : (tokV x).2.2.2.2 = 0) : ∀ j : Nat, j < (tokV x).2.2.2.1 → ¬ blk (bt x (j : Int)) = true := by
  unfold tokV at e ⊢
  by_cases hd : dg (bt x 0) = true
  · rw [if_pos hd] at e ⊢
    cases hn : numV (x.extract 0 (fr dg x)) with
    | none => rw [hn] at e; simp at e
    | some v => exact fun j hj => dg_blk ((fr_spec dg x).1 j hj)
  · rw [if_neg hd] at e ⊢
    by_cases hl : (sm (bt x 0) || gr (bt x 0)) = true
    · rw [if_pos hl] at e ⊢
      by_cases hi : isW (x.extract 0 (fr wd x)) = true
      · rw [if_pos hi]; exact fun j hj => wd_blk ((fr_spec wd x).1 j hj)
      · rw [if_neg hi] at e ⊢
        by_cases hn : nameOK (x.extract 0 (fr wd x)) = true
        · rw [if_pos hn]; exact fun j hj => wd_blk ((fr_spec wd x).1 j hj)
        · rw [if_neg hn] at e; simp at e
    · rw [if_neg hl] at e ⊢
      by_cases ht : two x = true
      · rw [if_pos ht]
        obtain ⟨h2, a, b⟩ := two_bytes ht
        intro j hj
        have hj' : j < 2 := hj
        have hc : j = 0 ∨ j = 1 := by omega
        unfold blk
        rw [decide_eq_true_iff]
        rcases hc with rfl | rfl
        · simp only [Int.ofNat_zero]; omega
        · simp only [Int.natCast_one]; omega
      · rw [if_neg ht] at e ⊢
        by_cases hg : sg (bt x 0) = true
        · rw [if_pos hg]
          intro j hj
          have hj' : j < 1 := hj
          obtain rfl : j = 0 := by omega
          exact sg_blk hg
        · rw [if_neg hg] at e; simp at e
theorem not_name {y : ByteArray} (h : 0 < y.size) (h0 : ¬ sm (bt y 0) = true) : nameOK y = false := by
  have : nmAll y = false := by
    unfold nmAll
    rw [decide_eq_false_iff_not]
    intro hh
    have := (nmB_iff 0 _).1 (hh 0 h)
    rcases this with h1 | h1
    · exact h0 (by simpa using h1)
    · exact h1.1 rfl
  unfold nameOK
  rw [this]
  rfl
theorem bt_cut (s : ByteArray) {p q j : Nat} (h : p + j < q) (hq : q ≤ s.size) : bt (s.extract p q) (j : Int) = bt s ((p + j : Nat) : Int) := by
  have hsz : (s.extract p q).size = q - p := by rw [ByteArray.size_extract]; omega
  rw [← bytes_at (s.extract p q) j (by omega), ← bytes_at s (p + j) (by omega)]
  simp only [bytes_extract, List.getElem_take, List.getElem_drop]
/-- The text of a token is a name when the token is one. -/
theorem tok_name {x : ByteArray} (h : 0 < x.size) (e : (tokV x).2.2.2.2 = 0) : nameOK (x.extract 0 (tokV x).2.2.2.1) = ((tokV x).1 == 2) := by
  have hlen := tok_len h e
  have hb0 : bt (x.extract 0 (tokV x).2.2.2.1) 0 = bt x 0 := by
    have := bt_cut x (p := 0) (q := (tokV x).2.2.2.1) (j := 0) (by omega) hlen.2
    simpa using this
  have hsz : 0 < (x.extract 0 (tokV x).2.2.2.1).size := by rw [ByteArray.size_extract]; omega
  have hno := fun hs => not_name hsz (by rw [hb0]; exact hs)
  clear hb0 hsz
  unfold tokV at e hno ⊢
  by_cases hd : dg (bt x 0) = true
  · rw [if_pos hd] at e hno ⊢
    cases hn : numV (x.extract 0 (fr dg x)) with
    | none => rw [hn] at e; simp at e
    | some v =>
      rw [hn] at hno
      exact hno (by unfold dg at hd; unfold sm; rw [decide_eq_true_iff] at hd ⊢; omega)
  · rw [if_neg hd] at e hno ⊢
    by_cases hl : (sm (bt x 0) || gr (bt x 0)) = true
    · rw [if_pos hl] at e hno ⊢
      by_cases hi : isW (x.extract 0 (fr wd x)) = true
      · rw [if_pos hi]
        show nameOK (x.extract 0 (fr wd x)) = false
        unfold nameOK
        rw [hi]
        simp
      · rw [if_neg hi] at e ⊢
        by_cases hn : nameOK (x.extract 0 (fr wd x)) = true
        · rw [if_pos hn]; exact hn
        · rw [if_neg hn] at e; simp at e
    · rw [if_neg hl] at e hno ⊢
      have hsm : ¬ sm (bt x 0) = true := by
        intro hh
        rw [hh] at hl
        simp at hl
      have hf := hno hsm
      by_cases ht : two x = true
      · rw [if_pos ht] at hf ⊢; exact hf
      · rw [if_neg ht] at e hf ⊢
        by_cases hg : sg (bt x 0) = true
        · rw [if_pos hg] at hf ⊢; exact hf
        · rw [if_neg hg] at e; simp at e

/-! ### said: the text of a token, without the blanks behind -/
theorem said_step (k : Nat) (x : ByteArray) (h0 : 0 < x.size) (hs : x.size ≤ 100000) : isthmuslaw11_said.l0 (k + 1) x = if blk (bt x ((x.size - 1 : Nat) : Int)) = true then isthmuslaw11_said.l0 k (x.extract 0 (x.size - 1)) else some x := by
  have hw : wrap64 ((x.size : Int) - 1) = ((x.size - 1 : Nat) : Int) := (w64_id (by omega) (by omega)).trans (by omega)
  have hn : (0 : Int) ≤ ((x.size - 1 : Nat) : Int) := Int.natCast_nonneg _
  simp only [isthmuslaw11_said.l0]
  rw [hw, if_pos (by omega), if_pos hn, if_pos (by omega), if_pos (show ((x.size - 1 : Nat) : Int) ≤ (x.size : Int) by omega), show ((x.size - 1 : Nat) : Int).toNat = x.size - 1 from rfl]
  obtain ⟨c, hc⟩ : ∃ c, c = bt x ((x.size - 1 : Nat) : Int) := ⟨_, rfl⟩
  rw [← hc]
  by_cases h1 : c = 32
  · rw [if_pos h1, if_pos (by unfold blk; rw [decide_eq_true_iff]; exact .inl h1)]
  · rw [if_neg h1]
    by_cases h2 : c = 9
    · rw [if_pos h2, if_pos (by unfold blk; rw [decide_eq_true_iff]; exact .inr (.inl h2))]
    · rw [if_neg h2]
      by_cases h3 : c = 10
      · rw [if_pos h3, if_pos (by unfold blk; rw [decide_eq_true_iff]; exact .inr (.inr (.inl h3)))]
      · rw [if_neg h3]
        by_cases h4 : c = 13
        · rw [if_pos h4, if_pos (by unfold blk; rw [decide_eq_true_iff]; exact .inr (.inr (.inr h4)))]
        · rw [if_neg h4, if_neg (by unfold blk; rw [decide_eq_true_iff]; omega)]
theorem said_cut (s : ByteArray) (hs : s.size ≤ 100000) (p n : Nat) (hn : 0 < n) (hlast : ¬ blk (bt s ((p + (n - 1) : Nat) : Int)) = true) : ∀ (d k : Nat), p + n + d ≤ s.size → d < k → (∀ j : Nat, p + n ≤ j → j < p + n + d → blk (bt s (j : Int)) = true) →
    isthmuslaw11_said.l0 k (s.extract p (p + n + d)) = some (s.extract p (p + n)) := by
  intro d
  induction d with
  | zero =>
    intro k h1 h2 _
    obtain ⟨k, rfl⟩ : ∃ m, k = m + 1 := ⟨k - 1, by omega⟩
    have hz : (s.extract p (p + n + 0)).size = n := by rw [ByteArray.size_extract]; omega
    rw [said_step k _ (by omega) (by omega), hz, bt_cut s (by omega) (by omega), if_neg hlast]
    rfl
  | succ d ih =>
    intro k h1 h2 hb
    obtain ⟨k, rfl⟩ : ∃ m, k = m + 1 := ⟨k - 1, by omega⟩
    have hz : (s.extract p (p + n + (d + 1))).size = n + d + 1 := by rw [ByteArray.size_extract]; omega
    rw [said_step k _ (by omega) (by omega), hz, bt_cut s (by omega) (by omega), if_pos (hb _ (by omega) (by omega))]
    have e : (s.extract p (p + n + (d + 1))).extract 0 (n + d + 1 - 1) = s.extract p (p + n + d) := by
      apply ext_bytes
      rw [bytes_extract, bytes_extract, bytes_extract, List.drop_zero, List.take_take, show min (n + d + 1 - 1 - 0) (p + n + (d + 1) - p) = p + n + d - p by omega]
    rw [e]
    exact ih k (by omega) (by omega) (fun j h1 h2 => hb j h1 (by omega))
end Go.Proofs.Ytijcoddbkefmlaa.Lex
