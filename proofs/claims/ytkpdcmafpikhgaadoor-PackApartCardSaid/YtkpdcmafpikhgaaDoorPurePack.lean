/- The laws of layer 1 over numbers and strings alone. -/
import Derived.Test.YtkpdcmafpikhgaaDoorGx4
import Derived.Test.YtkpdcmafpikhgaaDoorPackFun2
namespace Go.Proofs.YtkpdcmafpikhgaaDoor.Pure
open Go.RowKit Go.Proofs.YtkpdcmafpikhgaaDoorW.PrintWords Go.Proofs.YtkpdcmafpikhgaaDoorW.PrintMore Go.Proofs.YtkpdcmafpikhgaaDoor.G Go.Proofs.YtkpdcmafpikhgaaDoor.PackBits Go.Proofs.YtkpdcmafpikhgaaDoor.Sevens Go.Proofs.YtkpdcmafpikhgaaDoor.Str Go.Proofs.YtkpdcmafpikhgaaDoor.Pack

theorem PackZigs : isthmuslaw01_PackZigs.Pure := by
  intro n u hn hu
  have wn := wf_i64 hn
  have wu := wf_u64 hu
  have hz := zig_range wn.1 (show n < 9223372036854775808 by omega)
  have hg := zag_range wu.1 (show u < 18446744073709551616 by omega)
  obtain ⟨r, hr⟩ : ∃ r : Nat, 40 ≤ r := ⟨40, Nat.le_refl _⟩
  refine ⟨r, ?_⟩
  unfold isthmuslaw01_PackZigs.f
  rw [awake_f (show 30 ≤ r by omega)]
  simp only [bs, if_true]
  rw [zig_f wn.1 wn.2, zag_f wu.1 wu.2, ref_zig wn.1 wn.2, ref_zag wu.1 wu.2]
  simp only [bs, if_true]
  rw [zag_f hz.1 (by omega), zig_f hg.1 (by omega), zag_zig, zig_zag wu.1]
  simp

theorem PackMixes : isthmuslaw01_PackMixes.Pure := by
  intro h n _ hn
  have wn := wf_i64 hn
  obtain ⟨r, hr⟩ : ∃ r : Nat, 40 ≤ r := ⟨40, Nat.le_refl _⟩
  refine ⟨r, ?_⟩
  unfold isthmuslaw01_PackMixes.f
  rw [awake_f (show 30 ≤ r by omega)]
  simp only [bs, if_true]
  rw [mix_f wn.1 wn.2, ref_mix wn.1 wn.2]
  simp

theorem PackApart : isthmuslaw01_PackApart.Pure := by
  intro h k n m hh hk hn hm
  have wh := wf_u64 hh
  have wk := wf_u64 hk
  have wn := wf_i64 hn
  have wm := wf_i64 hm
  obtain ⟨r, hr⟩ : ∃ r : Nat, 40 ≤ r := ⟨40, Nat.le_refl _⟩
  refine ⟨r, ?_⟩
  unfold isthmuslaw01_PackApart.f
  rw [awake_f (show 30 ≤ r by omega), mix_f wn.1 wn.2, mix_f wn.1 wn.2, mix_f wm.1 wm.2]
  simp only [bs, if_true]
  have e1 : (mix h n == mix k n) = (h == k) := by
    rw [Bool.eq_iff_iff]
    simp only [beq_iff_eq]
    exact ⟨mix_inj_h wh.1 wh.2 wk.1 wk.2 wn.1 wn.2, fun e => by rw [e]⟩
  have e2 : (mix h n == mix h m) = (n == m) := by
    rw [Bool.eq_iff_iff]
    simp only [beq_iff_eq]
    exact ⟨mix_inj_n wh.1 wh.2 wn.1 wn.2 wm.1 wm.2, fun e => by rw [e]⟩
  rw [e1, e2]
  simp

theorem PackTakes : isthmuslaw01_PackTakes.Pure := by
  intro s _
  obtain ⟨r, hr⟩ : ∃ r : Nat, 40 ≤ r := ⟨40, Nat.le_refl _⟩
  refine ⟨r, ?_⟩
  unfold isthmuslaw01_PackTakes.f
  rw [awake_f (show 30 ≤ r by omega), take_f s (by omega), ref_take s (by omega)]
  simp

theorem PackSevens : isthmuslaw01_PackSevens.Pure := by
  intro u s hu hs
  have wu := wf_u64 hu
  obtain ⟨u, rfl⟩ := Int.eq_ofNat_of_zero_le wu.1
  have hu' : u < 18446744073709551616 := by omega
  obtain ⟨r, hr⟩ : ∃ r : Nat, 40 ≤ r := ⟨40, Nat.le_refl _⟩
  refine ⟨r, ?_⟩
  unfold isthmuslaw01_PackSevens.f
  rw [awake_f (show 30 ≤ r by omega)]
  simp only [bs]
  split
  · rfl
  · rw [put_f hu' (by omega)]
    simp only [bs, if_true]
    have hl := sev_length_le 9 u (by omega)
    rw [if_pos (by rw [put_size]; omega), take_f _ (by omega), bytes_append, put_bytes, ref_put hu' (by omega), tk_sev u 0 0 _ (by simpa using hu') (by omega) (.inl rfl)]
    simp [put_size]

theorem PackWords : isthmuslaw01_PackWords.Pure := by
  intro a b c w ha hb hc hw
  have ww := wf_u64 hw
  obtain ⟨r, hr⟩ : ∃ r : Nat, 40 ≤ r := ⟨40, Nat.le_refl _⟩
  refine ⟨r, ?_⟩
  unfold isthmuslaw01_PackWords.f
  have wf1 : ∀ x : Int, 0 ≤ x → x ≤ 268435455 → (Lit.int .i64 x).wf = true := by
    intro x h0 h1
    simp only [Lit.wf, IntKind.min, IntKind.max, IntKind.signed, IntKind.bits, Bool.and_eq_true, decide_eq_true_eq, if_true]
    omega
  rw [awake_f (show 30 ≤ r by omega), word_f ha hb hc, ref_word, parts_f ww.1 ww.2, ref_parts ww.1 ww.2]
  have hf : fits (w / 72057594037927936) (w / 268435456 % 268435456) (w % 268435456) := by unfold fits; omega
  have hl : laid (w / 72057594037927936) (w / 268435456 % 268435456) (w % 268435456) = w := by unfold laid; omega
  by_cases h : fits a b c
  · rw [if_pos h]
    simp only [bs, if_true]
    rw [word_f (wf1 _ (by omega) (by omega)) (wf1 _ (by omega) (by omega)) (wf1 _ (by omega) (by omega)), if_pos hf, hl]
    simp only [bs, if_true]
    unfold fits at h
    rw [parts_f (w := laid a b c) (by unfold laid; omega) (by unfold laid; omega)]
    simp only [bs]
    rw [if_pos (by unfold laid; omega), if_pos (by unfold laid; omega)]
    simp only [Option.some.injEq, beq_iff_eq]
    unfold laid; omega
  · rw [if_neg h]
    simp only [bs, if_true]
    rw [word_f (wf1 _ (by omega) (by omega)) (wf1 _ (by omega) (by omega)) (wf1 _ (by omega) (by omega)), if_pos hf, hl]
    simp only [bs, if_true]
    rw [parts_f (w := 0) (by omega) (by omega)]
    simp

theorem PackBack : isthmuslaw01_PackBack.Pure := by
  intro s hs
  obtain ⟨r, hr⟩ : ∃ r : Nat, 40 ≤ r := ⟨40, Nat.le_refl _⟩
  refine ⟨r, ?_⟩
  unfold isthmuslaw01_PackBack.f
  rw [awake_f (show 30 ≤ r by omega), take_f s (by omega)]
  simp only [bs, if_true]
  rcases tk_err (bytesOf s) 0 0 with ⟨n, k, e⟩ | e | e
  · rw [e]
    obtain ⟨m, hm, _, hn, hk, ht⟩ := tk_ok _ _ _ _ _ (bytes_range s) (by omega) e
    have hm' : m < 18446744073709551616 := by simpa using hm
    have hn' : n = (m : Int) := by simpa using hn
    have hk' : k = ((sev m).length : Int) := by simpa using hk
    subst hn' hk'
    have hl := sev_length_le 9 m (by omega)
    have hp := sev_pos m
    have hsz : (sev m).length ≤ s.size := by
      have := congrArg List.length ht
      rw [List.length_take, bytesOf_length] at this
      omega
    obtain ⟨r, rfl⟩ : ∃ q, r = q + 2 := ⟨r - 2, by omega⟩
    simp only [isthmuslaw01_PackBack.j0, isthmuslaw01_PackBack.j1]
    have hw : wrap64 (((sev m).length : Int) - 1) = (((sev m).length - 1 : Nat) : Int) := by rw [w64_id (by omega) (by omega)]; omega
    rw [if_neg (by simp), if_neg (by omega), if_neg (by omega), if_neg (by simp; omega), hw, if_pos (by omega), if_pos (by omega), take_f _ (by omega), bytes_extract, put_f hm' (by omega)]
    have e2 : (((bytesOf s).drop 0).take ((((sev m).length - 1 : Nat) : Int).toNat - 0)) = (sev m).take ((sev m).length - 1) := by
      rw [List.drop_zero, Nat.sub_zero, show ((((sev m).length - 1 : Nat) : Int)).toNat = (sev m).length - 1 from rfl]
      have h2 := congrArg (List.take ((sev m).length - 1)) ht
      rw [List.take_take, Nat.min_eq_left (by omega)] at h2
      exact h2
    rw [e2, tk_short m 0 0 _ hm (by omega) (by omega)]
    simp only [bs]
    rw [if_pos (by omega), if_pos (by omega), if_pos ?_]
    · simp
    · rw [toList_iff]
      apply ext_bytes
      rw [put_bytes, bytes_extract, List.drop_zero, Nat.sub_zero, show (((sev m).length : Int)).toNat = (sev m).length from rfl, ht]
  · rw [e]
    obtain ⟨r, rfl⟩ : ∃ q, r = q + 1 := ⟨r - 1, by omega⟩
    simp [isthmuslaw01_PackBack.j0]
  · rw [e]
    obtain ⟨r, rfl⟩ : ∃ q, r = q + 1 := ⟨r - 1, by omega⟩
    simp [isthmuslaw01_PackBack.j0]
end Go.Proofs.YtkpdcmafpikhgaaDoor.Pure
