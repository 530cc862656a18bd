/- The law on two texts of layer 11 over texts alone: two texts with a blank between have the tokens of the first one and those of the second one, moved. -/
import Derived.Test.YtijcoddbkefmlaaLexBlk
import Derived.Test.YtijcoddbkefmlaaLx19
namespace Go.Proofs.Ytijcoddbkefmlaa.Lex
open Go.RowKit Go.Proofs.YtijcoddbkefmlaaW.PrintWords Go.Proofs.YtijcoddbkefmlaaW.PrintMore Go.Proofs.Ytijcoddbkefmlaa.L Go.Proofs.Ytijcoddbkefmlaa.Str

/-- A token so many bytes further on. -/
def shf (A : Nat) (a : S29) : S29 := ⟨a.f0, a.f1, a.f2, a.f3 + (A : Int)⟩
theorem sub_moved {b F : ByteArray} {A : Nat} (hz : F.size = A + b.size) (hb : ∀ j : Nat, j < b.size → bt F ((A + j : Nat) : Int) = bt b (j : Int)) {p : Nat} (hp : p ≤ b.size) : sub F (A + p) = sub b p := by
  apply ext_bytes
  apply List.ext_getElem
  · rw [bytesOf_length, bytesOf_length, size_sub, size_sub]; omega
  · intro i h1 h2
    rw [bytesOf_length] at h1 h2
    rw [bytes_at _ i h1, bytes_at _ i h2]
    rw [size_sub] at h1 h2
    rw [bt_sub F _ i (by omega), bt_sub b p i (by omega), Nat.add_assoc, hb _ (by omega)]
theorem chain_moved {b F : ByteArray} {A : Nat} (hz : F.size = A + b.size) (hb : ∀ j : Nat, j < b.size → bt F ((A + j : Nat) : Int) = bt b (j : Int)) {i : Nat} {l : List S29} (h : Chain b i l) : Chain F (A + i) (l.map (shf A)) := by
  have hblk : ∀ (i q : Nat), q ≤ b.size → (∀ j : Nat, i ≤ j → j < q → blk (bt b (j : Int)) = true) → ∀ j : Nat, A + i ≤ j → j < A + q → blk (bt F (j : Int)) = true := by
    intro i q hq h j h1 h2
    have := hb (j - A) (by omega)
    rw [show A + (j - A) = j by omega] at this
    rw [this]
    exact h _ (by omega) (by omega)
  induction h with
  | @done i hi hbl =>
    have : (shf A ⟨0, 0, emp, (b.size : Int)⟩ : S29) = ⟨0, 0, emp, (F.size : Int)⟩ := by
      unfold shf
      rw [hz, show ((b.size : Int) + (A : Int)) = ((A + b.size : Nat) : Int) by omega]
    rw [List.map_cons, List.map_nil, this]
    exact .done (by omega) (fun j h1 h2 => hblk i b.size (Nat.le_refl _) hbl j h1 (by omega))
  | @tok i p l hi hp hbl hn he hc ih =>
    have hs := sub_moved hz hb (p := p) (by omega)
    have e1 : shf A ⟨(tokV (sub b p)).1, (tokV (sub b p)).2.1, (tokV (sub b p)).2.2.1, (p : Int)⟩ = ⟨(tokV (sub F (A + p))).1, (tokV (sub F (A + p))).2.1, (tokV (sub F (A + p))).2.2.1, ((A + p : Nat) : Int)⟩ := by
      rw [hs]
      unfold shf
      rw [show ((p : Int) + (A : Int)) = ((A + p : Nat) : Int) by omega]
    rw [List.map_cons, e1]
    refine .tok (by omega) (by omega) (hblk i p (by omega) hbl) (by rw [hb p hp]; exact hn) (by rw [hs]; exact he) ?_
    rw [hs, Nat.add_assoc]
    exact ih
theorem chain_blanks {F : ByteArray} {l : List S29} : ∀ (d i : Nat), (∀ j : Nat, i ≤ j → j < i + d → blk (bt F (j : Int)) = true) → Chain F (i + d) l → Chain F i l := by
  intro d
  induction d with
  | zero => intro i _ h; exact h
  | succ d ih =>
    intro i hb h
    refine (ih (i + 1) (fun j h1 h2 => hb j (by omega) (by omega)) (by rw [show i + 1 + d = i + (d + 1) by omega]; exact h)).back (hb i (Nat.le_refl _) (by omega))
theorem chain_joined {a F : ByteArray} (hz : a.size < F.size) (hb : ∀ j : Nat, j < a.size → bt F (j : Int) = bt a (j : Int)) (hbl : blk (bt F (a.size : Int)) = true) {i : Nat} {l tail : List S29} (h : Chain a i l) (ht : Chain F (a.size + 1) tail) : Chain F i (l.dropLast ++ tail) := by
  induction h with
  | @done i hi hbk =>
    rw [List.dropLast_singleton, List.nil_append]
    refine chain_blanks (a.size + 1 - i) i (fun j h1 h2 => ?_) (by rw [show i + (a.size + 1 - i) = a.size + 1 by omega]; exact ht)
    by_cases e : j < a.size
    · rw [hb j e]; exact hbk j h1 e
    · rw [show j = a.size by omega]; exact hbl
  | @tok i p l hi hp hbk hn he hc ih =>
    obtain ⟨a', r, q, rfl, _⟩ := hc.head
    rw [List.dropLast_cons_of_ne_nil (by simp), List.cons_append]
    have hx : 0 < (sub a p).size := by rw [size_sub]; omega
    have hl := tok_len hx he
    have hag : tokV (sub F p) = tokV (sub a p) := by
      have hsz := hl.2
      rw [size_sub] at hsz
      have hbt : ∀ j : Nat, j < (tokV (sub a p)).2.2.2.1 → bt (sub F p) (j : Int) = bt (sub a p) (j : Int) := fun j hj => by rw [bt_sub F p j (by omega), bt_sub a p j (by omega), hb _ (by omega)]
      by_cases e : (tokV (sub a p)).2.2.2.1 < a.size - p
      · exact tok_agree hx he ⟨hl.2, by rw [size_sub]; omega, hbt, .inr ⟨by rw [size_sub]; omega, by rw [size_sub]; omega, by rw [bt_sub F p _ (by omega), bt_sub a p _ (by omega), hb _ (by omega)]⟩⟩
      · refine tok_blank hx he ⟨hl.2, by rw [size_sub]; omega, hbt, .inr ⟨by rw [size_sub]; omega, ?_⟩⟩
        rw [bt_sub F p _ (by omega), show p + (tokV (sub a p)).2.2.2.1 = a.size by omega]
        exact hbl
    rw [← hag] at ih
    rw [← hag]
    exact .tok hi (by omega) (fun j h1 h2 => by rw [hb j (by omega)]; exact hbk j h1 h2) (by rw [hb p hp]; exact hn) (by rw [hag]; exact he) ih
theorem Chain.rng {s : ByteArray} {i : Nat} {l : List S29} (h : Chain s i l) : ∀ x ∈ l, 0 ≤ x.f3 ∧ x.f3 ≤ (s.size : Int) := by
  induction h with
  | done hi hb =>
    intro x hx
    obtain rfl := List.mem_singleton.1 hx
    exact ⟨Int.natCast_nonneg _, Int.le_refl _⟩
  | @tok i p l hi hp hb hn he hc ih =>
    intro x hx
    rcases List.mem_cons.1 hx with rfl | hx
    · exact ⟨Int.natCast_nonneg _, by show (p : Int) ≤ _; omega⟩
    · exact ih x hx
theorem joins_l0 (L M N : List S29) (A : Nat) (hA : A ≤ 3000) (hN : N = L.dropLast ++ M.map (shf A)) (hL : 0 < L.length) (hL3 : L.length ≤ 3000) (hM3 : M.length ≤ 3000) (hM : ∀ x ∈ M, 0 ≤ x.f3 ∧ x.f3 ≤ 3000) :
    ∀ (d i k : Nat), i + d = N.length → d < k → isthmuslaw11_LexJoins.l0 k L M (A : Int) N (i : Int) = some true := by
  have hNl : N.length = L.length - 1 + M.length := by rw [hN, List.length_append, List.length_dropLast, List.length_map]
  intro d
  induction d with
  | zero =>
    intro i k h1 h2
    obtain ⟨k, rfl⟩ : ∃ m, k = m + 1 := ⟨k - 1, by omega⟩
    simp only [isthmuslaw11_LexJoins.l0]
    rw [if_neg (by omega)]
  | succ d ih =>
    intro i k h1 h2
    obtain ⟨k, rfl⟩ : ∃ m, k = m + 1 := ⟨k - 1, by omega⟩
    have hi := ih (i + 1) k (by omega) (by omega)
    have hw : wrap64 ((i : Int) + 1) = ((i + 1 : Nat) : Int) := (w64_id (by omega) (by omega)).trans (by omega)
    have hw2 : wrap64 ((L.length : Int) - 1) = ((L.length - 1 : Nat) : Int) := (w64_id (by omega) (by omega)).trans (by omega)
    have hi0 : (0 : Int) ≤ (i : Int) := Int.natCast_nonneg i
    simp only [isthmuslaw11_LexJoins.l0]
    rw [if_pos (by omega), hw, hw2]
    by_cases hlt : i < L.length - 1
    · have e : rd_T29 N (i : Int) = rd_T29 L (i : Int) := by
        unfold rd_T29
        rw [Int.toNat_natCast, List.getD_eq_getElem?_getD, List.getD_eq_getElem?_getD, hN, List.getElem?_append_left (by rw [List.length_dropLast]; exact hlt), List.getElem?_dropLast, if_pos hlt]
      rw [if_pos (by omega), if_pos hi0, if_pos (by omega), e, if_neg (by simp)]
      exact hi
    · have hj : wrap64 (wrap64 ((i : Int) - (L.length : Int)) + 1) = ((i - (L.length - 1) : Nat) : Int) := by
        rw [w64_id (n := (i : Int) - (L.length : Int)) (by omega) (by omega)]
        exact (w64_id (by omega) (by omega)).trans (by omega)
      obtain ⟨j, hjj⟩ : ∃ j, j = i - (L.length - 1) := ⟨_, rfl⟩
      rw [← hjj] at hj
      have hjl : j < M.length := by omega
      have e2 : rd_T29 M (j : Int) = M[j] := by
        unfold rd_T29
        rw [Int.toNat_natCast, List.getD_eq_getElem?_getD, List.getElem?_eq_getElem hjl, Option.getD_some]
      have e : rd_T29 N (i : Int) = shf A M[j] := by
        unfold rd_T29
        rw [Int.toNat_natCast, List.getD_eq_getElem?_getD, hN, List.getElem?_append_right (by rw [List.length_dropLast]; omega), List.length_dropLast, ← hjj, List.getElem?_map, List.getElem?_eq_getElem hjl]
        rfl
      have hr := hM M[j] (List.getElem_mem hjl)
      have hw3 : wrap64 ((M[j]).f3 + (A : Int)) = (M[j]).f3 + (A : Int) := w64_id (by omega) (by omega)
      have hj0 : (0 : Int) ≤ (j : Int) := Int.natCast_nonneg j
      rw [if_neg (by omega), hj, if_pos hj0, if_pos (by omega), if_pos hi0, e, e2, hw3]
      unfold shf
      rw [if_neg (by simp)]
      exact hi
end Go.Proofs.Ytijcoddbkefmlaa.Lex
namespace Go.Proofs.Ytijcoddbkefmlaa.Pure
open Go.RowKit Go.Proofs.YtijcoddbkefmlaaW.PrintWords Go.Proofs.YtijcoddbkefmlaaW.PrintMore Go.Proofs.Ytijcoddbkefmlaa.L Go.Proofs.Ytijcoddbkefmlaa.Str Go.Proofs.Ytijcoddbkefmlaa.Lex
theorem scan_short {s : ByteArray} (he : (scanS s).2.1 = 0) : s.size ≤ 2000 ∧ ∃ l, (scanS s).1 = l ∧ Chain s 0 l := by
  have hlong : ¬ s.size > 2000 := by
    intro h
    unfold scanS at he
    rw [if_pos h] at he
    simp at he
  have e : scanS s = scanV s (s.size + 1) 0 [] := by unfold scanS; rw [if_neg hlong]
  obtain ⟨l, hl, hc⟩ := scan_chain s (s.size + 1) 0 [] (scanS s).1 (scanS s).2.2 (by omega) (by omega) (by rw [← e, ← he])
  exact ⟨by omega, l, hl, hc⟩
theorem joined_scan (a b : ByteArray) (L M : List S29) (hs : a.size + b.size < 2000) (hcl : Chain a 0 L) (hcm : Chain b 0 M) : scanS ((a ++ (⟨#[32]⟩ : ByteArray)) ++ b) = (L.dropLast ++ M.map (shf (a.size + 1)), 0, 0) := by
  have hz1 : (a ++ (⟨#[32]⟩ : ByteArray)).size = a.size + 1 := ByteArray.size_append
  have hz2 : ((a ++ (⟨#[32]⟩ : ByteArray)) ++ b).size = a.size + 1 + b.size := by rw [ByteArray.size_append, hz1]
  have hFa : ∀ j : Nat, j < a.size → bt ((a ++ (⟨#[32]⟩ : ByteArray)) ++ b) (j : Int) = bt a (j : Int) := fun j hj => by rw [bt_app (by omega), bt_app hj]
  have hFs : bt ((a ++ (⟨#[32]⟩ : ByteArray)) ++ b) (a.size : Int) = 32 := by
    rw [bt_app (by omega)]
    have := bt_app2 (s := a) (t := (⟨#[32]⟩ : ByteArray)) (j := 0) (by decide)
    rw [Nat.add_zero] at this
    rw [this]
    rfl
  have hFb : ∀ j : Nat, j < b.size → bt ((a ++ (⟨#[32]⟩ : ByteArray)) ++ b) ((a.size + 1 + j : Nat) : Int) = bt b (j : Int) := fun j hj => by rw [← hz1, bt_app2 hj]
  obtain ⟨F, hF⟩ : ∃ F, F = (a ++ (⟨#[32]⟩ : ByteArray)) ++ b := ⟨_, rfl⟩
  rw [← hF] at hz2 hFa hFs hFb ⊢
  clear hF hz1
  have hc := chain_joined (a := a) (F := F) (by omega) hFa (by rw [hFs]; rfl) hcl (chain_moved hz2 hFb hcm)
  unfold scanS
  rw [if_neg (by omega), chain_scan hc _ _ (by omega), List.nil_append]
theorem joined_sizes (a b : ByteArray) (hs : a.size + b.size < 2000) : wrap64 ((a.size : Int) + (b.size : Int)) = ((a.size + b.size : Nat) : Int) ∧ wrap64 ((a.size : Int) + 1) = ((a.size + 1 : Nat) : Int) ∧ a.size + 1 ≤ 9223372036854775807 ∧ (a ++ (⟨#[32]⟩ : ByteArray)).size + b.size ≤ 9223372036854775807 := by
  have hz1 : (a ++ (⟨#[32]⟩ : ByteArray)).size = a.size + 1 := ByteArray.size_append
  exact ⟨(w64_id (by omega) (by omega)).trans (by omega), (w64_id (by omega) (by omega)).trans (by omega), by omega, by omega⟩
theorem joined_lens (n m : Nat) (hn : 0 < n) (h1 : n ≤ 3000) (h2 : m ≤ 3000) : wrap64 (wrap64 ((n : Int) - 1) + (m : Int)) = ((n - 1 + m : Nat) : Int) := by
  rw [w64_id (n := (n : Int) - 1) (by omega) (by omega)]
  exact (w64_id (by omega) (by omega)).trans (by omega)
theorem LexJoins : isthmuslaw11_LexJoins.Pure := by
  intro a b ha hb
  obtain ⟨r, hr⟩ : ∃ r : Nat, 20000 ≤ r := ⟨20000, Nat.le_refl _⟩
  refine ⟨r, ?_⟩
  unfold isthmuslaw11_LexJoins.f
  rw [awake_f (by omega), bs, scan_f a (by omega), bs, scan_f b (by omega), bs, if_pos rfl]
  obtain ⟨r, rfl⟩ : ∃ m, r = m + 3 := ⟨r - 3, by omega⟩
  by_cases he : (scanS a).2.1 = 0
  · rw [if_pos he]
    by_cases hf : (scanS b).2.1 = 0
    · rw [if_pos hf]
      obtain ⟨ha2, L, hl, hcl⟩ := scan_short he
      obtain ⟨hb2, M, hm, hcm⟩ := scan_short hf
      have hw : wrap64 ((a.size : Int) + (b.size : Int)) = ((a.size + b.size : Nat) : Int) := (w64_id (by omega) (by omega)).trans (by omega)
      rw [hw, hl, hm]
      clear hw hl hm he hf
      simp only [isthmuslaw11_LexJoins.j0]
      by_cases hsz : 2000 ≤ a.size + b.size
      · rw [if_pos (decide_eq_true (by omega))]
      · have hll := hcl.len
        have hml := hcm.len
        have hL0 : 0 < L.length := by
          obtain ⟨_, _, _, e, _⟩ := hcl.head
          rw [e, List.length_cons]; omega
        have hM0 : 0 < M.length := by
          obtain ⟨_, _, _, e, _⟩ := hcm.head
          rw [e, List.length_cons]; omega
        have hrng : ∀ x ∈ M, 0 ≤ x.f3 ∧ x.f3 ≤ 3000 := fun x hx => by
          have := hcm.rng x hx
          omega
        have hb0 : ((M.length : Int) == 0) = false := beq_eq_false_iff_ne.2 (by omega)
        have hNl : (L.dropLast ++ M.map (shf (a.size + 1))).length = L.length - 1 + M.length := by rw [List.length_append, List.length_dropLast, List.length_map]
        have hgo := joins_l0 L M _ (a.size + 1) (by omega) rfl hL0 (by omega) (by omega) hrng _ 0 r (Nat.zero_add _) (by rw [hNl]; omega)
        have hk : 2100 ≤ r + 1 := by omega
        rw [if_neg (by rw [decide_eq_true_iff]; omega), if_neg (by omega), hb0]
        obtain ⟨_, s2, s3, s4⟩ := joined_sizes a b (by omega)
        have s5 := joined_lens L.length M.length hL0 (by omega) (by omega)
        simp only [isthmuslaw11_LexJoins.j1]
        rw [if_neg (by simp), if_pos s3, if_pos s4, scan_f _ hk, bs, joined_scan a b L M (Nat.lt_of_not_le hsz) hcl hcm]
        dsimp only
        rw [if_pos rfl, s2, s5, hNl, bne_self_eq_false]
        simp only [isthmuslaw11_LexJoins.j2]
        rw [if_neg (by simp)]
        exact hgo
    · rw [if_neg hf]
      simp only [isthmuslaw11_LexJoins.j0]
      rw [if_pos trivial]
  · rw [if_neg he]
    simp only [isthmuslaw11_LexJoins.j0]
    rw [if_pos trivial]
end Go.Proofs.Ytijcoddbkefmlaa.Pure
