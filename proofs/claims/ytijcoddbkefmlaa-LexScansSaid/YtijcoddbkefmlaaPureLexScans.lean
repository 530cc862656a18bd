/- The law on Scan of layer 11 over texts alone: the program's answer is the document's. -/
import Derived.Test.YtijcoddbkefmlaaLexChain
import Derived.Test.YtijcoddbkefmlaaScansWalk
namespace Go.Proofs.Ytijcoddbkefmlaa.Lex
open Go.RowKit Go.Proofs.YtijcoddbkefmlaaW.PrintWords Go.Proofs.YtijcoddbkefmlaaW.PrintMore Go.Proofs.Ytijcoddbkefmlaa.L Go.Proofs.Ytijcoddbkefmlaa.Str

theorem same_l0 (l : List S29) (hl : l.length ≤ 3000) : ∀ (d i k : Nat), i + d = l.length → d < k → isthmuslaw11_Same.l0 k l l (i : Int) = some true := by
  intro d
  induction d with
  | zero =>
    intro i k h1 h2
    obtain ⟨k, rfl⟩ : ∃ m, k = m + 1 := ⟨k - 1, by omega⟩
    simp only [isthmuslaw11_Same.l0]
    rw [if_neg (by omega)]
  | succ d ih =>
    intro i k h1 h2
    obtain ⟨k, rfl⟩ : ∃ m, k = m + 1 := ⟨k - 1, by omega⟩
    have hi := ih (i + 1) k (by omega) (by omega)
    have hw : wrap64 ((i : Int) + 1) = ((i + 1 : Nat) : Int) := (w64_id (by omega) (by omega)).trans (by omega)
    have h0 : (0 : Int) ≤ (i : Int) := Int.natCast_nonneg i
    simp only [isthmuslaw11_Same.l0]
    rw [if_pos (by omega), if_pos h0, if_pos (by omega), if_neg (by simp), hw]
    exact hi
theorem same_self (l : List S29) (hl : l.length ≤ 3000) {k : Nat} (hk : 3000 < k) : isthmuslaw11_Same.f k l l = some true := by
  unfold isthmuslaw11_Same.f
  rw [if_pos rfl]
  exact same_l0 l hl l.length 0 k (by omega) (by omega)
theorem scanV_none (s : ByteArray) : ∀ (f i : Nat) (acc : List S29), (scanV s f i acc).2.1 ≠ 0 → (scanV s f i acc).1 = [] := by
  intro f
  induction f with
  | zero => intro i acc h; rfl
  | succ f ih =>
    intro i acc h
    rw [scanV] at h ⊢
    by_cases h1 : i < s.size
    · rw [if_pos h1] at h ⊢
      by_cases h2 : blk (bt s i) = true
      · rw [if_pos h2] at h ⊢
        exact ih _ _ h
      · rw [if_neg h2] at h ⊢
        by_cases h3 : (tokV (sub s i)).2.2.2.2 = 0
        · rw [if_pos h3] at h ⊢
          exact ih _ _ h
        · rw [if_neg h3]
    · rw [if_neg h1] at h
      exact absurd rfl h
theorem scanS_len (s : ByteArray) : (scanS s).1.length ≤ 3000 := by
  by_cases hlong : s.size > 2000
  · unfold scanS
    rw [if_pos hlong]
    exact Nat.zero_le _
  · have e : scanS s = scanV s (s.size + 1) 0 [] := by unfold scanS; rw [if_neg hlong]
    by_cases he : (scanS s).2.1 = 0
    · obtain ⟨l, hl, hc⟩ := scan_chain s (s.size + 1) 0 [] (scanS s).1 (scanS s).2.2 (by omega) (by omega) (by rw [← e, ← he])
      have := hc.len
      rw [hl, List.nil_append]
      omega
    · rw [e] at he ⊢
      rw [scanV_none s _ _ _ he]
      exact Nat.zero_le _
end Go.Proofs.Ytijcoddbkefmlaa.Lex
namespace Go.Proofs.Ytijcoddbkefmlaa.Pure
open Go.RowKit Go.Proofs.YtijcoddbkefmlaaW.PrintWords Go.Proofs.YtijcoddbkefmlaaW.PrintMore Go.Proofs.Ytijcoddbkefmlaa.L Go.Proofs.Ytijcoddbkefmlaa.Str Go.Proofs.Ytijcoddbkefmlaa.Lex
theorem LexScans : isthmuslaw11_LexScans.Pure := by
  intro s _
  obtain ⟨k, hk⟩ : ∃ k : Nat, 20000 ≤ k := ⟨20000, Nat.le_refl _⟩
  exact ⟨k, (scanS s).1, (scanS s).2.1, (scanS s).2.2, awake_f (by omega), scan_f s (by omega), ref_scan s (by omega), same_self _ (scanS_len s) (by omega), scanS_len s⟩
end Go.Proofs.Ytijcoddbkefmlaa.Pure
