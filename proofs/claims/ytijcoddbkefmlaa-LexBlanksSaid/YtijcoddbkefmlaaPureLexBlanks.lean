/- The stage's theorem of layer 11 over texts alone: the tokens' texts with blanks between are the same tokens, at their new places. -/
import Derived.Test.YtijcoddbkefmlaaLexBlk
import Derived.Test.YtijcoddbkefmlaaLx17
namespace Go.Proofs.Ytijcoddbkefmlaa.Lex
open Go.RowKit Go.Proofs.YtijcoddbkefmlaaW.PrintWords Go.Proofs.YtijcoddbkefmlaaW.PrintMore Go.Proofs.Ytijcoddbkefmlaa.L Go.Proofs.Ytijcoddbkefmlaa.Str

theorem rd9_at (pre r : List S29) (a : S29) : rd_T29 (pre ++ a :: r) (pre.length : Int) = a := by simp [rd_T29]
theorem rd9_at1 (pre r : List S29) (a b : S29) : rd_T29 (pre ++ a :: b :: r) ((pre.length + 1 : Nat) : Int) = b := by
  have := rd9_at (pre ++ [a]) r b
  rw [List.append_assoc, List.length_append] at this
  exact this
def blanksL : List ByteArray := [(⟨#[32]⟩ : ByteArray), (⟨#[9]⟩ : ByteArray), (⟨#[10]⟩ : ByteArray), (⟨#[13]⟩ : ByteArray), (⟨#[32, 32]⟩ : ByteArray), (⟨#[32, 10]⟩ : ByteArray)]
theorem blanks_all : ∀ n : Nat, n < 6 → 0 < (rdOf ByteArray.empty blanksL (n : Int)).size ∧ (rdOf ByteArray.empty blanksL (n : Int)).size ≤ 2 ∧ ∀ j : Nat, j < 2 → j < (rdOf ByteArray.empty blanksL (n : Int)).size → blk (bt (rdOf ByteArray.empty blanksL (n : Int)) (j : Int)) = true := by decide +kernel
theorem blanks_at {t : Int} (h0 : 0 ≤ t) (h : t < 6) : 0 < (rdOf ByteArray.empty blanksL t).size ∧ (rdOf ByteArray.empty blanksL t).size ≤ 2 ∧ ∀ j : Nat, j < (rdOf ByteArray.empty blanksL t).size → blk (bt (rdOf ByteArray.empty blanksL t) (j : Int)) = true := by
  obtain ⟨n, rfl⟩ : ∃ n : Nat, t = (n : Int) := ⟨t.toNat, by omega⟩
  obtain ⟨a, b, c⟩ := blanks_all n (by omega)
  exact ⟨a, b, fun j hj => c j (by omega) hj⟩
theorem pick_f {a : Int} (h0 : -9223372036854775808 ≤ a) : ∃ t, isthmuslaw11_pick.f a 6 = some t ∧ 0 ≤ t ∧ t < 6 := by
  unfold isthmuslaw11_pick.f
  by_cases h : a < 0
  · rw [if_pos h, if_neg (by decide), w64_id (n := a + 1) (by omega) (by omega), w64_id (n := -(a + 1)) (by omega) (by omega)]
    exact ⟨_, rfl, Int.tmod_nonneg _ (by omega), Int.tmod_lt_of_pos _ (by decide)⟩
  · rw [if_neg h, if_neg (by decide)]
    exact ⟨_, rfl, Int.tmod_nonneg _ (by omega), Int.tmod_lt_of_pos _ (by decide)⟩
theorem rd_low (l : List Int) (i : Int) (h : ∀ x ∈ l, (Lit.int .i64 x).wf = true) : -9223372036854775808 ≤ rd l i := by
  unfold rd
  by_cases hi : i.toNat < l.length
  · rw [List.getD_eq_getElem?_getD, List.getElem?_eq_getElem hi, Option.getD_some]
    exact (wf_i64 (h _ (List.getElem_mem hi))).1
  · rw [List.getD_eq_getElem?_getD, List.getElem?_eq_none (by omega), Option.getD_none]
    omega

/-- The last loop: the tokens are the same, at their places. -/
theorem blanks_l1 (L M : List S29) (P : List Int) (n : Nat) (hL : L.length = n + 1) (hM : M.length = n + 1) (hP : P.length = n) (hn : n ≤ 3000)
    (hx : ∀ i : Nat, i < n → (rd_T29 M (i : Int)).f0 = (rd_T29 L (i : Int)).f0 ∧ (rd_T29 M (i : Int)).f1 = (rd_T29 L (i : Int)).f1 ∧ (rd_T29 M (i : Int)).f2 = (rd_T29 L (i : Int)).f2 ∧ (rd_T29 M (i : Int)).f3 = rd P (i : Int)) :
    ∀ (d i k : Nat), i + d = n → d < k → isthmuslaw11_LexBlanks.l1 k L P M (i : Int) = some true := by
  intro d
  induction d with
  | zero =>
    intro i k h1 h2
    obtain ⟨k, rfl⟩ : ∃ m, k = m + 1 := ⟨k - 1, by omega⟩
    have hw : wrap64 ((i : Int) + 1) = ((i + 1 : Nat) : Int) := (w64_id (by omega) (by omega)).trans (by omega)
    simp only [isthmuslaw11_LexBlanks.l1]
    rw [hw, hL, if_neg (by omega)]
  | succ d ih =>
    intro i k h1 h2
    obtain ⟨k, rfl⟩ : ∃ m, k = m + 1 := ⟨k - 1, by omega⟩
    have hw : wrap64 ((i : Int) + 1) = ((i + 1 : Nat) : Int) := (w64_id (by omega) (by omega)).trans (by omega)
    obtain ⟨e0, e1, e2, e3⟩ := hx i (by omega)
    have i0 : (0 : Int) ≤ (i : Int) := Int.natCast_nonneg _
    simp only [isthmuslaw11_LexBlanks.l1]
    rw [hw, hL, hM, hP, if_pos (by omega), if_pos i0, if_pos (by omega), if_pos (by omega), e0, e1, e2, e3, if_pos rfl, if_pos rfl, if_pos rfl, if_pos (by omega), if_pos rfl]
    exact ih (i + 1) k (by omega) (by omega)
theorem zip_rd (pre : List S29) (P : List Int) (a b : S29) (h : P.length = pre.length) (i : Nat) (hi : i < pre.length) :
    (rd_T29 (List.zipWith atP pre P ++ [b]) (i : Int)).f0 = (rd_T29 (pre ++ [a]) (i : Int)).f0 ∧ (rd_T29 (List.zipWith atP pre P ++ [b]) (i : Int)).f1 = (rd_T29 (pre ++ [a]) (i : Int)).f1 ∧ (rd_T29 (List.zipWith atP pre P ++ [b]) (i : Int)).f2 = (rd_T29 (pre ++ [a]) (i : Int)).f2 ∧ (rd_T29 (List.zipWith atP pre P ++ [b]) (i : Int)).f3 = rd P (i : Int) := by
  have hz : (List.zipWith atP pre P).length = pre.length := by rw [List.length_zipWith]; omega
  have e1 : rd_T29 (List.zipWith atP pre P ++ [b]) (i : Int) = atP pre[i] (P[i]'(by omega)) := by
    unfold rd_T29
    rw [Int.toNat_natCast, List.getD_eq_getElem?_getD, List.getElem?_append_left (by omega), List.getElem?_eq_getElem (by omega), Option.getD_some, List.getElem_zipWith]
  have e2 : rd_T29 (pre ++ [a]) (i : Int) = pre[i] := by
    unfold rd_T29
    rw [Int.toNat_natCast, List.getD_eq_getElem?_getD, List.getElem?_append_left (by omega), List.getElem?_eq_getElem (by omega), Option.getD_some]
  have e3 : rd P (i : Int) = P[i]'(by omega) := by
    unfold rd
    rw [Int.toNat_natCast, List.getD_eq_getElem?_getD, List.getElem?_eq_getElem (by omega), Option.getD_some]
  rw [e1, e2, e3]
  exact ⟨rfl, rfl, rfl, rfl⟩

theorem le_far {a : Nat} (h : a ≤ 100000000) : a ≤ 9223372036854775807 := Nat.le_trans h (by decide)
theorem lt_far {a : Nat} (h : a ≤ 3000) : a < 17592186044416 := Nat.lt_of_le_of_lt h (by decide)
set_option maxHeartbeats 300000 in
theorem blanks_l0 (s : ByteArray) (hs : s.size ≤ 2000) (raw : List Int) (hraw : ∀ x ∈ raw, (Lit.int .i64 x).wf = true) {i : Nat} {l : List S29} (h : Chain s i l) : ∀ (pre : List S29) (P : List Int) (T : ByteArray) (k : Nat), (pre ++ l).length ≤ 3000 → Inv pre P T → T.size ≤ 3000 * pre.length → 2 * l.length + 6200 < k →
    isthmuslaw11_LexBlanks.l0 k s raw (pre ++ l) blanksL T P (pre.length : Int) = some true := by
  induction h with
  | @done i hi hb =>
    intro pre P T k h1 hI hT h2
    rw [List.length_append, List.length_singleton] at h1
    obtain ⟨k, rfl⟩ : ∃ m, k = m + 2 := ⟨k - 2, by omega⟩
    have hw : wrap64 ((pre.length : Int) + 1) = ((pre.length + 1 : Nat) : Int) := (w64_id (by omega) (by omega)).trans (by omega)
    have hLl : (pre ++ [(⟨0, 0, emp, (s.size : Int)⟩ : S29)]).length = pre.length + 1 := by rw [List.length_append, List.length_singleton]
    simp only [isthmuslaw11_LexBlanks.l0]
    rw [hw, hLl, if_neg (by omega)]
    by_cases ht : (T.size : Int) > 2000
    · rw [if_pos ht]
    · rw [if_neg ht, scan_f _ (by omega), bs]
      have hc := hI.2 T [⟨0, 0, emp, (T.size : Int)⟩] (Nat.le_refl _) (fun _ _ => rfl) (.inr (.inl rfl)) (.done (Nat.le_refl _) (fun j _ _ => by omega))
      have hsc : scanS T = (List.zipWith atP pre P ++ [⟨0, 0, emp, (T.size : Int)⟩], 0, 0) := by
        unfold scanS
        rw [if_neg (by omega), chain_scan hc _ _ (by omega)]
        rfl
      have hzl : (List.zipWith atP pre P).length = pre.length := by rw [List.length_zipWith, hI.1]; omega
      have hx := zip_rd pre P ⟨0, 0, emp, (s.size : Int)⟩ ⟨0, 0, emp, (T.size : Int)⟩ hI.1
      have hla := rd9_at (List.zipWith atP pre P) [] ⟨0, 0, emp, (T.size : Int)⟩
      obtain ⟨M, hM⟩ : ∃ M, M = List.zipWith atP pre P ++ [(⟨0, 0, emp, (T.size : Int)⟩ : S29)] := ⟨_, rfl⟩
      have hMl : M.length = pre.length + 1 := by rw [hM, List.length_append, List.length_singleton, hzl]
      rw [← hM] at hsc hla
      simp only [← hM] at hx
      rw [hzl] at hla
      have hw2 : wrap64 (((pre.length + 1 : Nat) : Int) - 1) = ((pre.length : Nat) : Int) := (w64_id (by omega) (by omega)).trans (by omega)
      rw [hsc]
      dsimp only
      rw [hMl, if_pos rfl, if_pos rfl, hw2, if_pos (Int.natCast_nonneg _), if_pos (by omega), hla]
      simp only [isthmuslaw11_LexBlanks.j4]
      rw [bne_self_eq_false, if_neg (by simp)]
      exact blanks_l1 _ M P pre.length hLl hMl hI.1 (by omega) hx pre.length 0 k (by omega) (by omega)
  | @tok i p l hi hp hb hn he hc ih =>
    intro pre P T k h1 hI hT h2
    obtain ⟨a, r, q, rfl, hq, hpq, hqs, hbq⟩ := hc.head
    rw [List.length_cons] at h2
    have hx : 0 < (sub s p).size := by rw [size_sub]; omega
    have hl := tok_len hx he
    have hlast := tok_blk he ((tokV (sub s p)).2.2.2.1 - 1) (by omega)
    have hst := fun b => inv_step (b := b) hI hp he hn
    rw [size_sub] at hl
    rw [bt_sub s p _ (by omega)] at hlast
    obtain ⟨tk, htk⟩ : ∃ tk : S29, tk = ⟨(tokV (sub s p)).1, (tokV (sub s p)).2.1, (tokV (sub s p)).2.2.1, (p : Int)⟩ := ⟨_, rfl⟩
    have t3 : tk.f3 = (p : Int) := by rw [htk]
    rw [← htk] at h1 ⊢
    simp only [← htk] at hst
    have ih' := ih (pre ++ [tk])
    have hr0 := rd9_at pre (a :: r) tk
    have hr1 := rd9_at1 pre r tk a
    rw [show (pre ++ [tk]) ++ a :: r = pre ++ tk :: a :: r by simp, show (pre ++ [tk]).length = pre.length + 1 by simp] at ih'
    clear ih htk
    have hPl := hI.1
    obtain ⟨L, hL⟩ : ∃ L, L = pre ++ tk :: a :: r := ⟨_, rfl⟩
    have hlen : L.length = pre.length + 2 + r.length := by rw [hL, List.length_append, List.length_cons, List.length_cons]; omega
    rw [← hL] at h1 hr0 hr1 ih' ⊢
    clear hL
    rw [List.length_cons] at h2 ih'
    obtain ⟨m, hm⟩ : ∃ m, m = pre.length := ⟨_, rfl⟩
    have hm0 : m = 0 → pre = [] := fun h => List.length_eq_zero_iff.1 (hm ▸ h)
    rw [← hm] at hlen hr0 hr1 ih' hT hPl ⊢
    clear hm
    obtain ⟨k, rfl⟩ : ∃ n, k = n + 2 := ⟨k - 2, by omega⟩
    have hw := Aside0.mk (show wrap64 ((m : Int) + 1) = ((m + 1 : Nat) : Int) from (w64_id (by omega) (by omega)).trans (by omega))
    have m0 : (0 : Int) ≤ (m : Int) := Int.natCast_nonneg _
    have m1 : (m : Int) < (L.length : Int) := by omega
    have m2 : (0 : Int) ≤ ((m + 1 : Nat) : Int) := Int.natCast_nonneg _
    have m3 : ((m + 1 : Nat) : Int) < (L.length : Int) := by omega
    have p0 : (0 : Int) ≤ (p : Int) := Int.natCast_nonneg _
    obtain ⟨n, hn'⟩ : ∃ n, n = (tokV (sub s p)).2.2.2.1 := ⟨_, rfl⟩
    simp only [← hn'] at hl hlast hpq hbq hst
    have hsaid : isthmuslaw11_said.f k s L (m : Int) = some (s.extract p (p + n)) := by
      unfold isthmuslaw11_said.f
      rw [hw.out, if_pos m2, if_pos m3, if_pos m0, if_pos m1, hr0, hr1, t3, hq, if_pos p0, if_pos (by omega), if_pos (by omega)]
      have := said_cut s (by omega) p n (by omega) hlast (q - (p + n)) k (by omega) (by omega) (fun j h1 h2 => hbq j h1 (by omega))
      rw [show p + n + (q - (p + n)) = q by omega] at this
      exact this
    have hsz : (s.extract p (p + n)).size = n := by rw [ByteArray.size_extract]; omega
    have fin : ∀ b : ByteArray, b.size ≤ 2 → (∀ j : Nat, j < b.size → blk (bt b (j : Int)) = true) → (pre = [] ∨ 0 < b.size) →
        T.size + b.size ≤ 9223372036854775807 ∧ (T ++ b).size + (s.extract p (p + n)).size ≤ 9223372036854775807 ∧ isthmuslaw11_LexBlanks.l0 k s raw L blanksL ((T ++ b) ++ s.extract p (p + n)) (P ++ [((T ++ b).size : Int)]) ((m + 1 : Nat) : Int) = some true := by
      intro b hb2 hbb hpre
      have hsT : (T ++ b).size = T.size + b.size := ByteArray.size_append
      refine ⟨le_far (by omega), le_far (by omega), ?_⟩
      exact ih' _ _ k h1 (hst b hbb hpre) (by rw [ByteArray.size_append, hsT, hsz]; omega) (by omega)
    clear hst ih' hI
    have hPc : P.length < 17592186044416 := lt_far (by omega)
    simp only [isthmuslaw11_LexBlanks.l0]
    rw [hw.out, if_pos m3, if_pos m0, if_pos m1, hr0, hr1, t3, hq, if_neg (by omega), if_pos m2, if_neg (by omega), decide_eq_false (by omega)]
    rw [isthmuslaw11_LexBlanks.j3]
    rw [if_neg (by simp)]
    have h6 : (blanksL.length : Int) = 6 := rfl
    by_cases hm1 : (m : Int) > 0
    · rw [if_pos hm1]
      by_cases hr : (raw.length : Int) > 0
      · have q0 : 0 ≤ Int.tmod (m : Int) (raw.length : Int) := Int.tmod_nonneg _ m0
        have q1 : Int.tmod (m : Int) (raw.length : Int) < (raw.length : Int) := Int.tmod_lt_of_pos _ hr
        obtain ⟨t, e, t0, t6⟩ := pick_f (rd_low raw (Int.tmod (m : Int) (raw.length : Int)) hraw)
        obtain ⟨b1, b2, b3⟩ := blanks_at t0 t6
        obtain ⟨f1, f2, f3⟩ := fin _ b2 b3 (.inr b1)
        rw [if_pos hr, if_neg (by omega), if_pos q0, if_pos q1, h6, e, bs, if_pos t0, if_pos t6, if_pos f1, if_pos hPc, hsaid, bs, if_pos f2, hw.out]
        exact f3
      · obtain ⟨b1, b2, b3⟩ := blanks_at (t := 0) (by decide) (by decide)
        obtain ⟨f1, f2, f3⟩ := fin _ b2 b3 (.inr b1)
        rw [if_neg hr, h6, if_pos (show (0 : Int) < 6 by decide), if_pos f1, if_pos hPc, hsaid, bs, if_pos f2, hw.out]
        exact f3
    · rw [if_neg hm1]
      obtain ⟨f1, f2, f3⟩ := fin emp (by decide) (fun j hj => absurd hj (Nat.not_lt_zero j)) (.inl (hm0 (by omega)))
      have hTe : T ++ emp = T := by
        apply ext_bytes
        rw [bytes_append]
        exact List.append_nil _
      rw [hTe] at f2 f3
      rw [if_pos hPc, hsaid, bs, if_pos f2, hw.out]
      exact f3
end Go.Proofs.Ytijcoddbkefmlaa.Lex
namespace Go.Proofs.Ytijcoddbkefmlaa.Pure
open Go.RowKit Go.Proofs.YtijcoddbkefmlaaW.PrintWords Go.Proofs.YtijcoddbkefmlaaW.PrintMore Go.Proofs.Ytijcoddbkefmlaa.L Go.Proofs.Ytijcoddbkefmlaa.Str Go.Proofs.Ytijcoddbkefmlaa.Lex
theorem LexBlanks : isthmuslaw11_LexBlanks.Pure := by
  intro s raw hs _ _ hraw
  obtain ⟨r, hr⟩ : ∃ r : Nat, 20000 ≤ r := ⟨20000, Nat.le_refl _⟩
  refine ⟨r, ?_⟩
  unfold isthmuslaw11_LexBlanks.f
  rw [awake_f (by omega), bs, scan_f s (by omega), bs, if_pos rfl]
  obtain ⟨r, rfl⟩ : ∃ m, r = m + 2 := ⟨r - 2, by omega⟩
  by_cases he : (scanS s).2.1 = 0
  · have hlong : ¬ s.size > 2000 := by
      intro h
      unfold scanS at he
      rw [if_pos h] at he
      simp at he
    have e : scanS s = scanV s (s.size + 1) 0 [] := by unfold scanS; rw [if_neg hlong]
    obtain ⟨l, hl, hc⟩ := scan_chain s (s.size + 1) 0 [] (scanS s).1 (scanS s).2.2 (by omega) (by omega) (by rw [← e, ← he])
    rw [he, hl, bne_self_eq_false, List.nil_append]
    have hlen := hc.len
    obtain ⟨a, t, q, e0, _⟩ := hc.head
    have hpos : 0 < l.length := by rw [e0, List.length_cons]; omega
    have hw : wrap64 ((s.size : Int) + 1) = ((s.size + 1 : Nat) : Int) := (w64_id (by omega) (by omega)).trans (by omega)
    simp only [isthmuslaw11_LexBlanks.j0]
    rw [if_neg (by simp), if_neg (by omega), hw, decide_eq_false (by omega)]
    simp only [isthmuslaw11_LexBlanks.j1]
    rw [if_neg (by simp)]
    exact blanks_l0 s (by omega) raw hraw hc [] [] _ r (by rw [List.nil_append]; omega) inv_nil (Nat.zero_le _) (by omega)
  · simp only [isthmuslaw11_LexBlanks.j0]
    rw [if_pos (bne_iff_ne.2 he)]
end Go.Proofs.Ytijcoddbkefmlaa.Pure
