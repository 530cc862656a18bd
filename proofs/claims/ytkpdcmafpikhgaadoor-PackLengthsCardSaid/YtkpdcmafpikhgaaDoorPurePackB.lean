/- Two more laws of layer 1 over numbers and strings alone: how long sevens are, and that none begins another. -/
import Derived.Test.YtkpdcmafpikhgaaDoorGx6
import Derived.Test.YtkpdcmafpikhgaaDoorPackFun
namespace Go.Proofs.YtkpdcmafpikhgaaDoor.Pure
open Go.RowKit Go.Proofs.YtkpdcmafpikhgaaDoorW.PrintWords Go.Proofs.YtkpdcmafpikhgaaDoorW.PrintMore Go.Proofs.YtkpdcmafpikhgaaDoor.G Go.Proofs.YtkpdcmafpikhgaaDoor.PackBits Go.Proofs.YtkpdcmafpikhgaaDoor.Sevens Go.Proofs.YtkpdcmafpikhgaaDoor.Str Go.Proofs.YtkpdcmafpikhgaaDoor.Pack

theorem lengths_l0 (u v : Nat) (_hu : u < 18446744073709551616) : ∀ (n w c k : Nat), w < 18446744073709551616 → w < 128 ^ (n + 1) → c + (sev w).length = 1 + (sev u).length → 1 ≤ c → c ≤ 20 → n < k →
    isthmuslaw01_PackLengths.l0 k (u : Int) (v : Int) true (strOfNums (sev u)) (strOfNums (sev v)) (c : Int) (w : Int) = some true := by
  intro n
  induction n with
  | zero =>
    intro w c k hm hw hc hc1 _ hk
    obtain ⟨k, rfl⟩ : ∃ m, k = m + 1 := ⟨k - 1, by omega⟩
    simp only [isthmuslaw01_PackLengths.l0, put_size]
    rw [sev_small (by omega)] at hc
    simp only [List.length_singleton] at hc
    rw [if_neg (by omega), if_pos trivial, if_pos (by omega)]
    have m1 := sev_mono v u
    have m2 := sev_mono u v
    by_cases h1 : (u : Int) > (v : Int)
    · rw [if_pos h1, if_neg (by omega)]
      simp only [Option.some.injEq, decide_eq_true_eq]
      have := m2 (by omega)
      omega
    · rw [if_neg h1, if_pos (by have := m1 (by omega); omega)]
      by_cases h2 : (u : Int) < (v : Int)
      · rw [if_pos h2]
      · rw [if_neg h2]
        simp only [Option.some.injEq, decide_eq_true_eq]
        have := m2 (by omega)
        omega
  | succ n ih =>
    intro w c k hm hw hc hc1 hc20 hk
    obtain ⟨k, rfl⟩ : ∃ m, k = m + 1 := ⟨k - 1, by omega⟩
    by_cases hb : w > 127
    · simp only [isthmuslaw01_PackLengths.l0]
      have hp : 128 ^ (n + 1 + 1) = 128 ^ (n + 1) * 128 := Nat.pow_succ ..
      rw [sev_big hb, List.length_cons] at hc
      have hl := sev_length_le 9 u (by omega)
      have hp2 := sev_pos (w / 128)
      rw [if_pos (by omega), Int.tdiv_eq_ediv_of_nonneg (by omega), u64_id (n := (w : Int) / 128) (by omega) (by omega), show wrap64 ((c : Int) + 1) = ((c + 1 : Nat) : Int) from (w64_id (by omega) (by omega)).trans (by omega), show ((w : Int) / 128) = ((w / 128 : Nat) : Int) by omega]
      exact ih (w / 128) (c + 1) k (by omega) (by omega) (by omega) (by omega) (by omega) (by omega)
    · have hw1 : w < 128 ^ (n + 1) := by
        have : 128 ^ 1 ≤ 128 ^ (n + 1) := Nat.pow_le_pow_right (by decide) (by omega)
        omega
      exact ih w c (k + 1) hm hw1 hc hc1 hc20 (by omega)

theorem PackLengths : isthmuslaw01_PackLengths.Pure := by
  intro u v hu hv
  have wu := wf_u64 hu
  have wv := wf_u64 hv
  obtain ⟨u, rfl⟩ := Int.eq_ofNat_of_zero_le wu.1
  obtain ⟨v, rfl⟩ := Int.eq_ofNat_of_zero_le wv.1
  obtain ⟨r, hr⟩ : ∃ r : Nat, 40 ≤ r := ⟨40, Nat.le_refl _⟩
  refine ⟨r, ?_⟩
  unfold isthmuslaw01_PackLengths.f
  rw [awake_f (show 30 ≤ r by omega), put_f (show u < 18446744073709551616 by omega) (by omega), put_f (show v < 18446744073709551616 by omega) (by omega)]
  simp only [bs]
  exact lengths_l0 u v (by omega) 9 u 1 r (by omega) (by omega) (by omega) (by omega) (by omega) (by omega)

theorem PackApartTexts : isthmuslaw01_PackApartTexts.Pure := by
  intro u v hu hv
  have wu := wf_u64 hu
  have wv := wf_u64 hv
  obtain ⟨u, rfl⟩ := Int.eq_ofNat_of_zero_le wu.1
  obtain ⟨v, rfl⟩ := Int.eq_ofNat_of_zero_le wv.1
  have hu' : u < 18446744073709551616 := by omega
  have hv' : v < 18446744073709551616 := by omega
  have lu := sev_length_le 9 u (by omega)
  have lv := sev_length_le 9 v (by omega)
  obtain ⟨r, hr⟩ : ∃ r : Nat, 40 ≤ r := ⟨40, Nat.le_refl _⟩
  refine ⟨r, ?_⟩
  unfold isthmuslaw01_PackApartTexts.f
  rw [awake_f (show 30 ≤ r by omega), put_f hu' (by omega), put_f hv' (by omega)]
  simp only [bs]
  rw [if_pos (by rw [put_size, put_size]; omega), take_f _ (by omega), bytes_append, put_bytes, put_bytes, tk_sev u 0 0 _ (by simpa using hu') (by omega) (.inl rfl)]
  simp only [bs, if_true]
  have e0 : (0 : Int) + (u : Int) * 2 ^ (7 * 0) = (u : Int) := by omega
  have e1 : ((0 : Nat) : Int) + ((sev u).length : Int) = ((sev u).length : Int) := by omega
  rw [e0, e1, put_size, put_size, if_pos rfl, if_pos rfl, if_pos (by omega), if_pos (by rw [ByteArray.size_append, put_size, put_size]; omega), take_f _ (by omega), bytes_extract, bytes_append, put_bytes, put_bytes,
    show (((sev u).length : Nat) : Int).toNat = (sev u).length from rfl, List.drop_left, ByteArray.size_append, put_size, put_size, List.take_of_length_le (by omega)]
  have e2 := tk_sev v 0 0 [] (by simpa using hv') (by omega) (.inl rfl)
  rw [List.append_nil] at e2
  rw [e2]
  have e3 : (0 : Int) + (v : Int) * 2 ^ (7 * 0) = (v : Int) := by omega
  have e4 : ((0 : Nat) : Int) + ((sev v).length : Int) = ((sev v).length : Int) := by omega
  simp only [bs]
  rw [e3, e4]
  by_cases hle : ((sev u).length : Int) ≤ ((sev v).length : Int)
  · rw [if_pos hle, if_pos (by omega), if_pos rfl, if_pos rfl, if_pos trivial]
    simp only [Option.some.injEq, beq_iff_eq]
    rw [Bool.eq_iff_iff]
    simp only [beq_iff_eq]
    rw [toList_iff]
    constructor
    · intro h
      have h2 := congrArg bytesOf h
      rw [bytes_extract, put_bytes, put_bytes, List.drop_zero, Nat.sub_zero] at h2
      rw [sev_prefix hu' hv' h2]
    · intro h
      have h2 : u = v := by omega
      subst h2
      apply ext_bytes
      rw [bytes_extract, put_bytes, List.drop_zero, Nat.sub_zero]
      exact List.take_length
  · rw [if_neg hle, if_pos rfl, if_pos rfl, if_pos trivial]
    simp only [Option.some.injEq, beq_iff_eq]
    have : ¬ ((u : Int) = (v : Int)) := by
      intro h
      have h2 : u = v := by omega
      subst h2
      omega
    rw [beq_eq_false_iff_ne.2 this]
end Go.Proofs.YtkpdcmafpikhgaaDoor.Pure
