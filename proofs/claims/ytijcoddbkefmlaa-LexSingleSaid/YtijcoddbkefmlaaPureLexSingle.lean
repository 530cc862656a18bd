/- The law on a single token of layer 11 over texts alone: the text of each token is that token. -/
import Derived.Test.YtijcoddbkefmlaaLexChain
import Derived.Test.YtijcoddbkefmlaaLx19
namespace Go.Proofs.Ytijcoddbkefmlaa.Lex
open Go.RowKit Go.Proofs.YtijcoddbkefmlaaW.PrintWords Go.Proofs.YtijcoddbkefmlaaW.PrintMore Go.Proofs.Ytijcoddbkefmlaa.L Go.Proofs.Ytijcoddbkefmlaa.Str

theorem rd_at (pre r : List S29) (a : S29) : rd_T29 (pre ++ a :: r) (pre.length : Int) = a := by simp [rd_T29]
theorem rd_at1 (pre r : List S29) (a b : S29) : rd_T29 (pre ++ a :: b :: r) ((pre.length + 1 : Nat) : Int) = b := by
  have := rd_at (pre ++ [a]) r b
  rw [List.append_assoc, List.length_append] at this
  exact this
/-- The text of a token, by itself: that token, and the end. -/
theorem single_scan {s : ByteArray} (hs : s.size ≤ 2000) {p : Nat} (hp : p < s.size) (e : (tokV (sub s p)).2.2.2.2 = 0) :
    scanS (s.extract p (p + (tokV (sub s p)).2.2.2.1)) = ([⟨(tokV (sub s p)).1, (tokV (sub s p)).2.1, (tokV (sub s p)).2.2.1, 0⟩, ⟨0, 0, emp, ((tokV (sub s p)).2.2.2.1 : Int)⟩], 0, 0) := by
  have hx : 0 < (sub s p).size := by rw [size_sub]; omega
  have hl := tok_len hx e
  have hb := tok_blk e
  obtain ⟨n, hn⟩ : ∃ n, n = (tokV (sub s p)).2.2.2.1 := ⟨_, rfl⟩
  rw [size_sub] at hl
  obtain ⟨t, ht⟩ : ∃ t, t = s.extract p (p + (tokV (sub s p)).2.2.2.1) := ⟨_, rfl⟩
  have hz : t.size = (tokV (sub s p)).2.2.2.1 := by rw [ht, ByteArray.size_extract]; omega
  have hbt : ∀ j : Nat, j < (tokV (sub s p)).2.2.2.1 → bt (sub t 0) (j : Int) = bt (sub s p) (j : Int) := by
    intro j hj
    rw [bt_sub t 0 j (by omega), bt_sub s p j (by omega), ht, bt_cut s (by omega) (by omega), Nat.zero_add]
  have hz0 : (sub t 0).size = (tokV (sub s p)).2.2.2.1 := by rw [size_sub]; omega
  have hag : tokV (sub t 0) = tokV (sub s p) := tok_agree hx e ⟨by rw [size_sub]; omega, by omega, hbt, .inl hz0⟩
  rw [← ht]
  unfold scanS
  rw [if_neg (by omega)]
  have hc : Chain t 0 [⟨(tokV (sub t 0)).1, (tokV (sub t 0)).2.1, (tokV (sub t 0)).2.2.1, ((0 : Nat) : Int)⟩, ⟨0, 0, emp, (t.size : Int)⟩] := by
    refine .tok (Nat.le_refl _) (by omega) (fun j _ _ => by omega) ?_ (by rw [hag]; exact e) (.done (by rw [hag]; omega) (fun j h1 h2 => by rw [hag] at h1; omega))
    have h1 := hb 0 (by omega)
    have h2 := hbt 0 (by omega)
    rw [← h2, bt_sub t 0 0 (by omega)] at h1
    exact h1
  rw [chain_scan hc _ _ (by omega), hag, hz]
  rfl
theorem single_l0 (s : ByteArray) (hs : s.size ≤ 2000) {i : Nat} {l : List S29} (h : Chain s i l) : ∀ (pre : List S29) (k : Nat), (pre ++ l).length ≤ 3000 → 3 * l.length + 2200 < k →
    isthmuslaw11_LexSingle.l0 k s (pre ++ l) (pre.length : Int) = some true := by
  induction h with
  | @done i hi hb =>
    intro pre k h1 h2
    rw [List.length_append, List.length_singleton] at h1
    obtain ⟨k, rfl⟩ : ∃ m, k = m + 1 := ⟨k - 1, by omega⟩
    have hw : wrap64 ((pre.length : Int) + 1) = ((pre.length + 1 : Nat) : Int) := (w64_id (by omega) (by omega)).trans (by omega)
    simp only [isthmuslaw11_LexSingle.l0]
    rw [hw, List.length_append, List.length_singleton, if_neg (by omega)]
  | @tok i p l hi hp hb hn he hc ih =>
    intro pre k h1 h2
    obtain ⟨a, r, q, rfl, hq, hpq, hqs, hbq⟩ := hc.head
    rw [List.length_cons] at h2
    have hx : 0 < (sub s p).size := by rw [size_sub]; omega
    have hl := tok_len hx he
    have hnm := tok_name hx he
    have hlast := tok_blk he ((tokV (sub s p)).2.2.2.1 - 1) (by omega)
    have hsc := single_scan hs hp he
    rw [size_sub] at hl
    rw [bt_sub s p _ (by omega)] at hlast
    obtain ⟨tk, htk⟩ : ∃ tk : S29, tk = ⟨(tokV (sub s p)).1, (tokV (sub s p)).2.1, (tokV (sub s p)).2.2.1, (p : Int)⟩ := ⟨_, rfl⟩
    have t0 : tk.f0 = (tokV (sub s p)).1 := by rw [htk]
    have t1 : tk.f1 = (tokV (sub s p)).2.1 := by rw [htk]
    have t2 : tk.f2 = (tokV (sub s p)).2.2.1 := by rw [htk]
    have t3 : tk.f3 = (p : Int) := by rw [htk]
    rw [← htk] at h1 ⊢
    have ih' := ih (pre ++ [tk])
    have hr0 := rd_at pre (a :: r) tk
    have hr1 := rd_at1 pre r tk a
    rw [show (pre ++ [tk]) ++ a :: r = pre ++ tk :: a :: r by simp, show (pre ++ [tk]).length = pre.length + 1 by simp] at ih'
    clear ih htk
    obtain ⟨L, hL⟩ : ∃ L, L = pre ++ tk :: a :: r := ⟨_, rfl⟩
    have hlen : L.length = pre.length + 2 + r.length := by rw [hL, List.length_append, List.length_cons, List.length_cons]; omega
    rw [← hL] at h1 hr0 hr1 ih' ⊢
    clear hL
    rw [List.length_cons] at h2 ih'
    obtain ⟨m, hm⟩ : ∃ m, m = pre.length := ⟨_, rfl⟩
    rw [← hm] at hlen hr0 hr1 ih' ⊢
    clear hm
    obtain ⟨k, rfl⟩ : ∃ n, k = n + 3 := ⟨k - 3, by omega⟩
    have hw : wrap64 ((m : Int) + 1) = ((m + 1 : Nat) : Int) := (w64_id (by omega) (by omega)).trans (by omega)
    have m0 : (0 : Int) ≤ (m : Int) := Int.natCast_nonneg _
    have m1 : (m : Int) < (L.length : Int) := by omega
    have m2 : (0 : Int) ≤ ((m + 1 : Nat) : Int) := Int.natCast_nonneg _
    have m3 : ((m + 1 : Nat) : Int) < (L.length : Int) := by omega
    have p0 : (0 : Int) ≤ (p : Int) := Int.natCast_nonneg _
    obtain ⟨n, hn'⟩ : ∃ n, n = (tokV (sub s p)).2.2.2.1 := ⟨_, rfl⟩
    rw [← hn'] at hl hlast hpq hbq hsc hnm
    have hsaid : isthmuslaw11_said.f (k + 1) s L (m : Int) = some (s.extract p (p + n)) := by
      unfold isthmuslaw11_said.f
      rw [hw, if_pos m2, if_pos m3, if_pos m0, if_pos m1, hr0, hr1, t3, hq, if_pos p0, if_pos (by omega), if_pos (by omega)]
      have := said_cut s (by omega) p n (by omega) hlast (q - (p + n)) (k + 1) (by omega) (by omega) (fun j h1 h2 => hbq j h1 (by omega))
      rw [show p + n + (q - (p + n)) = q by omega] at this
      exact this
    have hsub : (sub s p).extract 0 n = s.extract p (p + n) := (ext_sub s p n).symm
    rw [hsub] at hnm
    have hsz : (s.extract p (p + n)).size = n := by rw [ByteArray.size_extract]; omega
    simp only [isthmuslaw11_LexSingle.l0]
    rw [hw, if_pos m3, if_pos m0, if_pos m1, hr0, hr1, t3, hq, if_neg (by omega), if_pos m2, if_neg (by omega), decide_eq_false (by omega)]
    obtain ⟨M, hM⟩ : ∃ M : List S29, M = [⟨(tokV (sub s p)).1, (tokV (sub s p)).2.1, (tokV (sub s p)).2.2.1, 0⟩, ⟨0, 0, emp, (n : Int)⟩] := ⟨_, rfl⟩
    have hM2 : (M.length : Int) = 2 := by rw [hM]; rfl
    have a0 : (rd_T29 M 0).f0 = (tokV (sub s p)).1 := by rw [hM]; rfl
    have a1 : (rd_T29 M 0).f1 = (tokV (sub s p)).2.1 := by rw [hM]; rfl
    have a2 : (rd_T29 M 0).f2 = (tokV (sub s p)).2.2.1 := by rw [hM]; rfl
    have a3 : (rd_T29 M 1).f3 = (n : Int) := by rw [hM]; rfl
    rw [← hM] at hsc
    clear hM
    simp only [isthmuslaw11_LexSingle.j2]
    rw [if_neg (by simp), hsaid, bs, scan_f _ (by omega), bs, hsc]
    dsimp only
    rw [if_pos rfl, if_pos hM2, hM2, if_pos (show (0 : Int) < 2 by decide), if_pos m0, if_pos m1, hr0, t0, t1, t2, a0, a1, a2, a3, if_pos rfl, if_pos rfl, if_pos rfl, if_pos (show (1 : Int) < 2 by decide), hsz, bne_self_eq_false]
    simp only [isthmuslaw11_LexSingle.j3]
    rw [if_neg (by simp), isName_f _ (by omega), bs, if_pos m0, if_pos m1, hr0, t0, hnm, bne_self_eq_false, if_neg (by simp), hw]
    exact ih' k h1 (by omega)
end Go.Proofs.Ytijcoddbkefmlaa.Lex
namespace Go.Proofs.Ytijcoddbkefmlaa.Pure
open Go.RowKit Go.Proofs.YtijcoddbkefmlaaW.PrintWords Go.Proofs.YtijcoddbkefmlaaW.PrintMore Go.Proofs.Ytijcoddbkefmlaa.L Go.Proofs.Ytijcoddbkefmlaa.Str Go.Proofs.Ytijcoddbkefmlaa.Lex
theorem LexSingle : isthmuslaw11_LexSingle.Pure := by
  intro s hs
  obtain ⟨r, hr⟩ : ∃ r : Nat, 12000 ≤ r := ⟨12000, Nat.le_refl _⟩
  refine ⟨r, ?_⟩
  unfold isthmuslaw11_LexSingle.f
  rw [awake_f (by omega), bs, scan_f s (by omega), bs, if_pos rfl]
  obtain ⟨r, rfl⟩ : ∃ m, r = m + 1 := ⟨r - 1, by omega⟩
  by_cases he : (scanS s).2.1 = 0
  · have hlong : ¬ s.size > 2000 := by
      intro h
      unfold scanS at he
      rw [if_pos h] at he
      simp at he
    have e : scanS s = scanV s (s.size + 1) 0 [] := by unfold scanS; rw [if_neg hlong]
    obtain ⟨l, hl, hc⟩ := scan_chain s (s.size + 1) 0 [] (scanS s).1 (scanS s).2.2 (by omega) (by omega) (by rw [← e, ← he])
    rw [he, hl, bne_self_eq_false]
    simp only [isthmuslaw11_LexSingle.j0]
    rw [if_neg (by simp)]
    have hlen := hc.len
    exact single_l0 s (by omega) hc [] r (by rw [List.nil_append]; omega) (by omega)
  · simp only [isthmuslaw11_LexSingle.j0]
    rw [if_pos (bne_iff_ne.2 he)]
end Go.Proofs.Ytijcoddbkefmlaa.Pure
