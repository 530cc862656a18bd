/- What the functions of layer 1 compute, the program's and the document's: zigzags, sevens, fields, sums. -/
import Derived.Test.YtkpdcmafpikhgaaDoorGx2
import Derived.Test.YtkpdcmafpikhgaaDoorGx3
import Derived.Test.YtkpdcmafpikhgaaDoorGx5
import Derived.Test.YtkpdcmafpikhgaaDoorPackBits
import Derived.Test.YtkpdcmafpikhgaaDoorSevens
import Derived.Test.YtkpdcmafpikhgaaDoorStr
namespace Go.Proofs.YtkpdcmafpikhgaaDoor.Pack
open Go.RowKit Go.Proofs.YtkpdcmafpikhgaaDoorW.PrintWords Go.Proofs.YtkpdcmafpikhgaaDoorW.PrintMore Go.Proofs.YtkpdcmafpikhgaaDoor.G Go.Proofs.YtkpdcmafpikhgaaDoor.PackBits Go.Proofs.YtkpdcmafpikhgaaDoor.Sevens Go.Proofs.YtkpdcmafpikhgaaDoor.Str

theorem zig_f {n : Int} (h0 : -9223372036854775808 ≤ n) (h : n ≤ 9223372036854775807) : pack_Zig.f n = some (zig n) := by
  unfold pack_Zig.f
  rw [zig_code h0 (by omega)]
theorem zag_f {u : Int} (h0 : 0 ≤ u) (h : u ≤ 18446744073709551615) : pack_Zag.f u = some (zag u) := by
  unfold pack_Zag.f
  rw [zag_code h0 (by omega)]
theorem ref_zig {n : Int} (h0 : -9223372036854775808 ≤ n) (h : n ≤ 9223372036854775807) : isthmusref01_Zig.f n = some (zig n) := by
  unfold isthmusref01_Zig.f zig
  simp only [wrap_u64]
  unfold wrap64
  split
  · congr 1; omega
  · congr 1; omega
theorem ref_zag {u : Int} (h0 : 0 ≤ u) (h : u ≤ 18446744073709551615) : isthmusref01_Zag.f u = some (zag u) := by
  unfold isthmusref01_Zag.f zag
  rw [Int.tmod_eq_emod_of_nonneg h0, Int.tdiv_eq_ediv_of_nonneg h0]
  simp only [wrap_u64]
  unfold wrap64
  split
  · congr 1; omega
  · congr 1; omega

theorem put_l0 : ∀ (n u : Nat) (acc : List Int) (k : Nat), u < 128 ^ (n + 1) → acc.length + n < 140737488355328 → n < k →
    pack_Put.l0 k (u : Int) acc = some (strOfNums (acc ++ sev u)) := by
  intro n
  induction n with
  | zero =>
    intro u acc k hu ha hk
    obtain ⟨k, rfl⟩ : ∃ m, k = m + 1 := ⟨k - 1, by omega⟩
    simp only [pack_Put.l0]
    rw [if_neg (by omega), if_pos (by omega), sev_small (by omega)]
    congr 4
    omega
  | succ n ih =>
    intro u acc k hu ha hk
    obtain ⟨k, rfl⟩ : ∃ m, k = m + 1 := ⟨k - 1, by omega⟩
    simp only [pack_Put.l0]
    by_cases hb : u > 127
    · have hp : 128 ^ (n + 1 + 1) = 128 ^ (n + 1) * 128 := Nat.pow_succ ..
      rw [if_pos (by omega), if_pos (by omega), show ((u : Int) / 128) = ((u / 128 : Nat) : Int) by omega, or128 (by omega) (by omega), ih (u / 128) _ k (by omega) (by simp; omega) (by omega), sev_big hb, List.append_assoc, List.singleton_append]
      congr 5
      omega
    · rw [if_neg (by omega), if_pos (by omega), sev_small (by omega)]
      congr 4
      omega
theorem ref_put_l0 : ∀ (n u : Nat) (acc : List Int) (k : Nat), u < 18446744073709551616 → u < 128 ^ (n + 1) → acc.length + n < 140737488355328 → n < k →
    isthmusref01_Put.l0 k (u : Int) acc = some (strOfNums (acc ++ sev u)) := by
  intro n
  induction n with
  | zero =>
    intro u acc k hm hu ha hk
    obtain ⟨k, rfl⟩ : ∃ m, k = m + 1 := ⟨k - 1, by omega⟩
    simp only [isthmusref01_Put.l0]
    rw [if_neg (by omega), if_pos (by omega), sev_small (by omega)]
    congr 4
    omega
  | succ n ih =>
    intro u acc k hm hu ha hk
    obtain ⟨k, rfl⟩ : ∃ m, k = m + 1 := ⟨k - 1, by omega⟩
    simp only [isthmusref01_Put.l0]
    by_cases hb : u > 127
    · have hp : 128 ^ (n + 1 + 1) = 128 ^ (n + 1) * 128 := Nat.pow_succ ..
      rw [if_pos (by omega), if_pos (by omega), Int.tdiv_eq_ediv_of_nonneg (by omega), Int.tmod_eq_emod_of_nonneg (by omega), u64_id (n := (u : Int) / 128) (by omega) (by omega), u64_id (n := (u : Int) % 128 + 128) (by omega) (by omega),
        show ((u : Int) / 128) = ((u / 128 : Nat) : Int) by omega, ih (u / 128) _ k (by omega) (by omega) (by simp; omega) (by omega), sev_big hb, List.append_assoc, List.singleton_append]
      congr 5
      omega
    · rw [if_neg (by omega), if_pos (by omega), sev_small (by omega)]
      congr 4
      omega
theorem put_f {u : Nat} (h : u < 18446744073709551616) {k : Nat} (hk : 10 ≤ k) : pack_Put.f k (u : Int) = some (strOfNums (sev u)) := by
  unfold pack_Put.f
  rw [put_l0 9 u [] k (by omega) (by simp) (by omega), List.nil_append]
theorem ref_put {u : Nat} (h : u < 18446744073709551616) {k : Nat} (hk : 10 ≤ k) : isthmusref01_Put.f k (u : Int) = some (strOfNums (sev u)) := by
  unfold isthmusref01_Put.f
  rw [ref_put_l0 9 u [] k h (by omega) (by simp) (by omega), List.nil_append]
theorem put_bytes (u : Nat) : bytesOf (strOfNums (sev u)) = sev u := bytes_nums (sev_bytes u)
theorem put_size (u : Nat) : (strOfNums (sev u)).size = (sev u).length := strOfNums_size _

theorem p7_le {i : Nat} (h : i ≤ 9) : (2 : Int) ^ (7 * i) ≤ 9223372036854775808 := by
  have h2 : (2 : Nat) ^ (7 * i) ≤ 2 ^ 63 := Nat.pow_le_pow_right (by decide) (by omega)
  have h3 : ((2 ^ (7 * i) : Nat) : Int) ≤ ((2 ^ 63 : Nat) : Int) := Int.ofNat_le.2 h2
  rw [Int.natCast_pow] at h3
  exact h3
theorem p7_pos (i : Nat) : (0 : Int) < 2 ^ (7 * i) := Int.pow_pos (by decide)
/-- What a byte adds. -/
theorem add7 {i : Nat} (hi : i ≤ 9) {u c : Int} (hu0 : 0 ≤ u) (hu : u < 2 ^ (7 * i)) (hc0 : 0 ≤ c) (hc : c < 256) (hc9 : i = 9 → c ≤ 1) :
    Go.bits .or .u64 u (shl .u64 (IntKind.u64.wrap (Go.bits .and .u8 c 127)) (wrap64 (7 * (i : Int)))) = u + (c % 128) * 2 ^ (7 * i) ∧ u + (c % 128) * 2 ^ (7 * i) < 2 ^ (7 * (i + 1)) ∧ 0 ≤ u + (c % 128) * 2 ^ (7 * i) ∧
      (c % 128) * 2 ^ (7 * i) < 18446744073709551616 ∧ 0 ≤ (c % 128) * 2 ^ (7 * i) := by
  have hp := p7_pos i
  have hl := p7_le hi
  have hm0 : 0 ≤ (c % 128) * 2 ^ (7 * i) := Int.mul_nonneg (by omega) (by omega)
  have hm1 : (c % 128) * 2 ^ (7 * i) ≤ 127 * 2 ^ (7 * i) := Int.mul_le_mul_of_nonneg_right (by omega) (by omega)
  have hm2 : (c % 128) * 2 ^ (7 * i) < 18446744073709551616 := by
    rcases Nat.lt_or_ge i 9 with h | h
    · have h2 : (2 : Nat) ^ (7 * i) ≤ 2 ^ 56 := Nat.pow_le_pow_right (by decide) (by omega)
      have h3 : ((2 ^ (7 * i) : Nat) : Int) ≤ ((2 ^ 56 : Nat) : Int) := Int.ofNat_le.2 h2
      rw [Int.natCast_pow] at h3
      have h4 : (2 : Int) ^ (7 * i) ≤ 72057594037927936 := h3
      omega
    · have h9 : i = 9 := by omega
      have hc1 := hc9 h9
      have hm3 : (c % 128) * 2 ^ (7 * i) ≤ 1 * 2 ^ (7 * i) := Int.mul_le_mul_of_nonneg_right (by omega) (by omega)
      omega
  have hw : wrap64 (7 * (i : Int)) = ((7 * i : Nat) : Int) := by rw [w64_id (by omega) (by omega)]; omega
  refine ⟨?_, ?_, by omega, hm2, hm0⟩
  · rw [and127 hc0 hc, hw, u64_id (n := c % 128) (by omega) (by omega)]
    unfold shl
    rw [show (((7 * i : Nat) : Int)).toNat = 7 * i from rfl, Nat.min_eq_left (show 7 * i ≤ IntKind.u64.bits by show 7 * i ≤ 64; omega), u64_id hm0 hm2, or_comm_u64, join_u64 (7 * i) hm0 (Int.mul_emod_left _ _) hm2 hu0 hu (by omega)]
    omega
  · rw [pow7]
    have : u + (c % 128) * 2 ^ (7 * i) < 2 ^ (7 * i) + 127 * 2 ^ (7 * i) := by omega
    omega

theorem take_l0 (s : ByteArray) : ∀ (n i : Nat) (u : Int) (k : Nat), 9 - i = n → i ≤ 9 → 0 ≤ u → u < 2 ^ (7 * i) → 2 * n + 2 < k →
    pack_Take.l0 k s u (s.size : Int) (i : Int) = some (tk i u ((bytesOf s).drop i)) := by
  intro n
  induction n with
  | zero =>
    intro i u k hn hi hu0 hu hk
    have h9 : i = 9 := by omega
    obtain ⟨k, rfl⟩ : ∃ m, k = m + 1 := ⟨k - 1, by omega⟩
    obtain ⟨k, rfl⟩ : ∃ m, k = m + 1 := ⟨k - 1, by omega⟩
    simp only [pack_Take.l0]
    by_cases hlt : i < s.size
    · rw [if_pos (by omega), if_pos (by omega), if_pos (by omega), if_pos (by omega), bt_drop hlt, tk]
      have hb := bt_range s i
      simp only [pack_Take.j1, decide_eq_true_eq]
      by_cases hc : bt s i > 1
      · rw [if_pos hc, if_pos ⟨h9, hc⟩]
      · rw [if_neg hc, if_pos (by rw [w64_id (by omega) (by omega)]; omega), if_neg (show ¬ bt s i > 127 by omega), if_neg (show ¬ (i = 9 ∧ bt s i > 1) from fun h => hc h.2), if_neg (show ¬ bt s i > 127 by omega)]
        obtain ⟨e1, e2, e3, _, _⟩ := add7 hi hu0 hu hb.1 (by omega) (fun _ => by omega)
        rw [e1, show wrap64 ((i : Int) + 1) = (i : Int) + 1 from w64_id (by omega) (by omega), show bt s i % 128 = bt s i by omega]
        by_cases hz : bt s i = 0
        · rw [if_pos hz, if_pos (by omega), if_pos ⟨hz, by omega⟩]
        · rw [if_neg hz, if_neg (fun h => hz h.1)]
    · rw [if_neg (by omega), List.drop_eq_nil_of_le (by rw [bytesOf_length]; omega), tk]
  | succ n ih =>
    intro i u k hn hi hu0 hu hk
    obtain ⟨k, rfl⟩ : ∃ m, k = m + 1 := ⟨k - 1, by omega⟩
    obtain ⟨k, rfl⟩ : ∃ m, k = m + 1 := ⟨k - 1, by omega⟩
    simp only [pack_Take.l0]
    by_cases hlt : i < s.size
    · rw [if_pos (by omega), if_pos (by omega), if_pos (by omega), if_neg (by omega), bt_drop hlt, tk]
      have hb := bt_range s i
      simp only [pack_Take.j1, Bool.false_eq_true, if_false]
      rw [if_neg (show ¬ (i = 9 ∧ bt s i > 1) by omega), if_pos (by rw [w64_id (by omega) (by omega)]; omega)]
      obtain ⟨e1, e2, e3, _, _⟩ := add7 hi hu0 hu hb.1 (by omega) (fun _ => by omega)
      rw [e1, show wrap64 ((i : Int) + 1) = ((i + 1 : Nat) : Int) from (w64_id (by omega) (by omega)).trans (by omega)]
      by_cases hc : bt s i > 127
      · rw [if_pos hc, if_pos hc, ih (i + 1) _ k (by omega) (by omega) e3 e2 (by omega), show bt s i % 128 = bt s i - 128 by omega]
      · rw [if_neg hc, if_neg hc, show bt s i % 128 = bt s i by omega]
        by_cases hz : bt s i = 0
        · rw [if_pos hz]
          by_cases hi0 : i > 0
          · rw [if_pos (by omega), if_pos ⟨hz, hi0⟩]
          · rw [if_neg (by omega), if_neg (fun h => hi0 h.2)]; rfl
        · rw [if_neg hz, if_neg (fun h => hz h.1)]; rfl
    · rw [if_neg (by omega), List.drop_eq_nil_of_le (by rw [bytesOf_length]; omega), tk]
theorem take_f (s : ByteArray) {k : Nat} (hk : 21 ≤ k) : pack_Take.f k s = some (tk 0 0 (bytesOf s)) := by
  unfold pack_Take.f
  exact take_l0 s 9 0 0 k rfl (by omega) (by omega) (by decide) (by omega)

theorem ref_take_l0 (s : ByteArray) : ∀ (n i : Nat) (u : Int) (k : Nat), 9 - i = n → i ≤ 9 → 0 ≤ u → u < 2 ^ (7 * i) → 2 * n + 2 < k →
    isthmusref01_Take.l0 k s u (2 ^ (7 * i)) ((i : Int) + 1) = some (tk i u ((bytesOf s).drop i)) := by
  intro n
  induction n with
  | zero =>
    intro i u k hn hi hu0 hu hk
    have h9 : i = 9 := by omega
    obtain ⟨k, rfl⟩ : ∃ m, k = m + 1 := ⟨k - 1, by omega⟩
    obtain ⟨k, rfl⟩ : ∃ m, k = m + 1 := ⟨k - 1, by omega⟩
    simp only [isthmusref01_Take.l0]
    rw [show wrap64 ((i : Int) + 1 - 1) = (i : Int) from (w64_id (by omega) (by omega)).trans (by omega)]
    by_cases hlt : i < s.size
    · rw [if_neg (by omega), if_pos (by omega), if_pos (by omega), if_pos (by omega), bt_drop hlt, tk]
      have hb := bt_range s i
      simp only [isthmusref01_Take.j1, decide_eq_true_eq]
      by_cases hc : bt s i > 1
      · rw [if_pos hc, if_pos ⟨h9, hc⟩]
      · rw [if_neg hc, if_neg (show ¬ bt s i ≥ 128 by omega), if_neg (show ¬ (i = 9 ∧ bt s i > 1) from fun h => hc h.2), if_neg (show ¬ bt s i > 127 by omega)]
        obtain ⟨e1, e2, e3, e4, e5⟩ := add7 hi hu0 hu hb.1 (by omega) (fun _ => by omega)
        have hp64 : u + (bt s i % 128) * 2 ^ (7 * i) < 18446744073709551616 := by
          have := p7_le hi
          have h1 : (bt s i % 128) * 2 ^ (7 * i) ≤ 1 * 2 ^ (7 * i) := Int.mul_le_mul_of_nonneg_right (by omega) (by omega)
          omega
        rw [Int.tmod_eq_emod_of_nonneg hb.1, u64_id (n := bt s i % 128) (by omega) (by omega), u64_id e5 e4, u64_id e3 hp64, show bt s i % 128 = bt s i by omega]
        by_cases hz : bt s i = 0
        · rw [if_pos hz, if_pos (by omega), if_pos ⟨hz, by omega⟩]
        · rw [if_neg hz, if_neg (fun h => hz h.1)]
    · rw [if_pos (by omega), List.drop_eq_nil_of_le (by rw [bytesOf_length]; omega), tk]
  | succ n ih =>
    intro i u k hn hi hu0 hu hk
    obtain ⟨k, rfl⟩ : ∃ m, k = m + 1 := ⟨k - 1, by omega⟩
    obtain ⟨k, rfl⟩ : ∃ m, k = m + 1 := ⟨k - 1, by omega⟩
    simp only [isthmusref01_Take.l0]
    rw [show wrap64 ((i : Int) + 1 - 1) = (i : Int) from (w64_id (by omega) (by omega)).trans (by omega)]
    by_cases hlt : i < s.size
    · rw [if_neg (by omega), if_pos (by omega), if_pos (by omega), if_neg (by omega), bt_drop hlt, tk]
      have hb := bt_range s i
      simp only [isthmusref01_Take.j1, Bool.false_eq_true, if_false]
      rw [if_neg (show ¬ (i = 9 ∧ bt s i > 1) by omega)]
      obtain ⟨e1, e2, e3, e4, e5⟩ := add7 hi hu0 hu hb.1 (by omega) (fun _ => by omega)
      have hp64 : u + (bt s i % 128) * 2 ^ (7 * i) < 18446744073709551616 := by
        have := p7_le (show i + 1 ≤ 9 by omega)
        omega
      have hp : (2 : Int) ^ (7 * i) * 128 = 2 ^ (7 * (i + 1)) := by rw [pow7]; omega
      have hpp := p7_pos (i + 1)
      have hpl := p7_le (show i + 1 ≤ 9 by omega)
      rw [Int.tmod_eq_emod_of_nonneg hb.1, u64_id (n := bt s i % 128) (by omega) (by omega), u64_id e5 e4, u64_id e3 hp64, hp, u64_id (n := (2 : Int) ^ (7 * (i + 1))) (by omega) (by omega), show wrap64 ((i : Int) + 1 + 1) = ((i + 1 : Nat) : Int) + 1 from (w64_id (by omega) (by omega)).trans (by omega)]
      by_cases hc : bt s i > 127
      · rw [if_pos (by omega), if_pos hc, ih (i + 1) _ k (by omega) (by omega) e3 e2 (by omega), show bt s i % 128 = bt s i - 128 by omega]
      · rw [if_neg (by omega), if_neg hc, show bt s i % 128 = bt s i by omega]
        by_cases hz : bt s i = 0
        · rw [if_pos hz]
          by_cases hi0 : i > 0
          · rw [if_pos (by omega), if_pos ⟨hz, hi0⟩]
          · rw [if_neg (by omega), if_neg (fun h => hi0 h.2)]
        · rw [if_neg hz, if_neg (fun h => hz h.1)]
    · rw [if_pos (by omega), List.drop_eq_nil_of_le (by rw [bytesOf_length]; omega), tk]
theorem ref_take (s : ByteArray) {k : Nat} (hk : 21 ≤ k) : isthmusref01_Take.f k s = some (tk 0 0 (bytesOf s)) := by
  unfold isthmusref01_Take.f
  exact ref_take_l0 s 9 0 0 k rfl (by omega) (by omega) (by decide) (by omega)

theorem awake_f {k : Nat} (hk : 30 ≤ k) : isthmuslaw01_awake.f k = some true :=
  at_rounds (isthmuslaw01_awake.mono) hk (by decide +kernel)
end Go.Proofs.YtkpdcmafpikhgaaDoor.Pack
