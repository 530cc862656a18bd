/- Words, fields and sums of layer 1: what the functions compute. -/
import Derived.Test.YtkpdcmafpikhgaaDoorGx4
import Derived.Test.YtkpdcmafpikhgaaDoorPackFun
namespace Go.Proofs.YtkpdcmafpikhgaaDoor.Pack
open Go.RowKit Go.Proofs.YtkpdcmafpikhgaaDoorW.PrintWords Go.Proofs.YtkpdcmafpikhgaaDoorW.PrintMore Go.Proofs.YtkpdcmafpikhgaaDoor.G Go.Proofs.YtkpdcmafpikhgaaDoor.PackBits Go.Proofs.YtkpdcmafpikhgaaDoor.Sevens Go.Proofs.YtkpdcmafpikhgaaDoor.Str

/-- Which fields a word may have. -/
def fits (a b c : Int) : Prop := 0 ≤ a ∧ a ≤ 255 ∧ 0 ≤ b ∧ b ≤ 268435455 ∧ 0 ≤ c ∧ c ≤ 268435455
instance (a b c : Int) : Decidable (fits a b c) := inferInstanceAs (Decidable (_ ∧ _))
def laid (a b c : Int) : Int := a * 72057594037927936 + b * 268435456 + c
theorem word_f {a b c : Int} (ha : (Lit.int .i64 a).wf = true) (hb : (Lit.int .i64 b).wf = true) (hc : (Lit.int .i64 c).wf = true) :
    pack_Word.f a b c = if fits a b c then some (laid a b c, 0) else some (0, 12) := by
  have wa := wf_i64 ha
  have wb := wf_i64 hb
  have wc := wf_i64 hc
  unfold pack_Word.f
  by_cases h : fits a b c
  · rw [if_pos h]
    obtain ⟨h1, h2, h3, h4, h5, h6⟩ := h
    rw [if_neg (by omega), u64_id (n := a) (by omega) (by omega), u64_id (n := b) (by omega) (by omega), u64_id (n := c) (by omega) (by omega), if_pos (by omega), if_neg (by omega), if_pos (by omega), if_neg (by omega), if_pos (by omega),
      u64_id (n := a * 72057594037927936) (by omega) (by omega), u64_id (n := b * 268435456) (by omega) (by omega), u64_id (n := c) (by omega) (by omega)]
    have e0 : bits .or .u64 0 (a * 72057594037927936) = a * 72057594037927936 := by
      rw [or_comm_u64, join_u64 0 (by omega) (by omega) (by omega) (by omega) (by decide) (by omega)]; omega
    have e1 : bits .or .u64 (a * 72057594037927936) (b * 268435456) = a * 72057594037927936 + b * 268435456 :=
      join_u64 56 (by omega) (Int.mul_emod_left _ _) (by omega) (by omega) (by show _ < (72057594037927936 : Int); omega) (by omega)
    have e2 : bits .or .u64 (a * 72057594037927936 + b * 268435456) c = a * 72057594037927936 + b * 268435456 + c :=
      join_u64 28 (by omega) (by show _ % (268435456 : Int) = 0; omega) (by omega) (by omega) (by show _ < (268435456 : Int); omega) (by omega)
    rw [e0, e1, e2]
    rfl
  · rw [if_neg h]
    unfold fits at h
    rw [wrap_u64, wrap_u64, wrap_u64]
    by_cases h1 : a < 0
    · rw [if_pos h1]
    · rw [if_neg h1]
      by_cases h2 : a % 18446744073709551616 / 256 = 0
      · rw [if_pos h2]
        by_cases h3 : b < 0
        · rw [if_pos h3]
        · rw [if_neg h3]
          by_cases h4 : b % 18446744073709551616 / 268435456 = 0
          · rw [if_pos h4]
            by_cases h5 : c < 0
            · rw [if_pos h5]
            · rw [if_neg h5]
              by_cases h6 : c % 18446744073709551616 / 268435456 = 0
              · omega
              · rw [if_neg h6]
          · rw [if_neg h4]
      · rw [if_neg h2]
theorem ref_word (a b c : Int) : isthmusref01_Word.f a b c = if fits a b c then some (laid a b c, 0) else some (0, 12) := by
  unfold isthmusref01_Word.f
  by_cases h : fits a b c
  · rw [if_pos h]
    obtain ⟨h1, h2, h3, h4, h5, h6⟩ := h
    rw [if_neg (by omega), if_neg (by omega), if_neg (by omega), if_neg (by omega), if_neg (by omega), if_neg (by omega)]
    simp only [wrap_u64]
    unfold laid
    congr 2
    omega
  · rw [if_neg h]
    unfold fits at h
    by_cases h1 : a < 0
    · rw [if_pos h1]
    · rw [if_neg h1]
      by_cases h2 : a > 255
      · rw [if_pos h2]
      · rw [if_neg h2]
        by_cases h3 : b < 0
        · rw [if_pos h3]
        · rw [if_neg h3]
          by_cases h4 : b ≥ 268435456
          · rw [if_pos h4]
          · rw [if_neg h4]
            by_cases h5 : c < 0
            · rw [if_pos h5]
            · rw [if_neg h5, if_pos (by omega)]
theorem part_f {w : Int} (h0 : 0 ≤ w) (h : w ≤ 18446744073709551615) (a b : Nat) (ha : a + b ≤ 64) (hb : b ≤ 56) (hb0 : 0 < b) : pack_part.f w a b = some (w / 2 ^ a % 2 ^ b) := by
  unfold pack_part.f
  rw [if_pos (by omega), if_pos (by omega)]
  unfold shr shl
  have ea : min (a : Int).toNat IntKind.u64.bits = a := Nat.min_eq_left (show a ≤ 64 by omega)
  have eb : min (b : Int).toNat IntKind.u64.bits = b := Nat.min_eq_left (show b ≤ 64 by omega)
  have hp : (0 : Int) < 2 ^ a := Int.pow_pos (by decide)
  have hq : (0 : Int) < 2 ^ b := Int.pow_pos (by decide)
  have hb56 : (2 : Int) ^ b ≤ 72057594037927936 := by
    have h2 : (2 : Nat) ^ b ≤ 2 ^ 56 := Nat.pow_le_pow_right (by decide) hb
    have h3 : ((2 ^ b : Nat) : Int) ≤ ((2 ^ 56 : Nat) : Int) := Int.ofNat_le.2 h2
    rw [Int.natCast_pow] at h3
    exact h3
  have hd0 : 0 ≤ w / 2 ^ a := Int.ediv_nonneg h0 (by omega)
  have hd1 : w / 2 ^ a ≤ w := Int.ediv_le_self _ h0
  have hm0 := Int.emod_nonneg (w / 2 ^ a) (show (2 : Int) ^ b ≠ 0 by omega)
  have hm1 := Int.emod_lt_of_pos (w / 2 ^ a) hq
  rw [ea, eb, Int.one_mul, u64_id (n := (2 : Int) ^ b) (by omega) (by omega), u64_id (n := (2 : Int) ^ b - 1) (by omega) (by omega), mask_u64 b (by omega) hd0 (by omega), w64_id (by omega) (by omega)]
theorem parts_f {w : Int} (h0 : 0 ≤ w) (h : w ≤ 18446744073709551615) : pack_Parts.f w = some (w / 72057594037927936, w / 268435456 % 268435456, w % 268435456) := by
  unfold pack_Parts.f
  have e1 := part_f h0 h 56 8 (by omega) (by omega) (by omega)
  have e2 := part_f h0 h 28 28 (by omega) (by omega) (by omega)
  have e3 := part_f h0 h 0 28 (by omega) (by omega) (by omega)
  rw [show (((56 : Nat) : Int)) = 56 from rfl, show (((8 : Nat) : Int)) = 8 from rfl] at e1
  rw [show (((28 : Nat) : Int)) = 28 from rfl] at e2
  rw [show (((0 : Nat) : Int)) = 0 from rfl, show (((28 : Nat) : Int)) = 28 from rfl] at e3
  rw [e1, e2, e3]
  simp only [Option.bind_some]
  congr 2
  · show w / 72057594037927936 % 256 = _
    omega
  · congr 1
    show w / 1 % 268435456 = _
    omega
theorem ref_parts {w : Int} (h0 : 0 ≤ w) (h : w ≤ 18446744073709551615) : isthmusref01_Parts.f w = some (w / 72057594037927936, w / 268435456 % 268435456, w % 268435456) := by
  unfold isthmusref01_Parts.f
  rw [Int.tdiv_eq_ediv_of_nonneg h0, u64_id (n := w / 268435456) (by omega) (by omega), Int.tdiv_eq_ediv_of_nonneg (by omega), Int.tmod_eq_emod_of_nonneg (by omega), Int.tmod_eq_emod_of_nonneg h0,
    u64_id (n := w / 268435456 / 268435456) (by omega) (by omega), w64_id (n := w / 268435456 / 268435456) (by omega) (by omega), w64_id (n := w / 268435456 % 268435456) (by omega) (by omega), w64_id (n := w % 268435456) (by omega) (by omega)]
  congr 2
  omega

/-- The sum. -/
def mix (h n : Int) : Int :=
  bits .xor .u64 (IntKind.u64.wrap ((bits .xor .u64 h (zig n)) * 11400714819323198485)) ((IntKind.u64.wrap ((bits .xor .u64 h (zig n)) * 11400714819323198485)) / 4294967296)
theorem mix_f {h n : Int} (h0 : -9223372036854775808 ≤ n) (h1 : n ≤ 9223372036854775807) : pack_Mix.f h n = some (mix h n) := by
  unfold pack_Mix.f
  rw [zig_f h0 h1]
  rfl
theorem ref_mix {h n : Int} (h0 : -9223372036854775808 ≤ n) (h1 : n ≤ 9223372036854775807) : isthmusref01_Mix.f h n = some (mix h n) := by
  unfold isthmusref01_Mix.f
  rw [ref_zig h0 h1]
  simp only [Option.bind_some]
  generalize hy : IntKind.u64.wrap ((bits .xor .u64 h (zig n)) * 11400714819323198485) = y
  have hr : 0 ≤ y ∧ y < 18446744073709551616 := by rw [← hy, wrap_u64]; omega
  rw [Int.tdiv_eq_ediv_of_nonneg hr.1, u64_id (n := y / 4294967296) (by omega) (by omega)]
  unfold mix
  rw [hy]

/-- The sum, of words of 64 bits. -/
def mixB (x : BitVec 64) : BitVec 64 := (x * 11400714819323198485#64) ^^^ ((x * 11400714819323198485#64) >>> 32)
theorem shift_twice (y : BitVec 64) : (y ^^^ (y >>> 32)) ^^^ ((y ^^^ (y >>> 32)) >>> 32) = y := by
  ext i hi
  simp only [BitVec.getElem_xor, BitVec.getElem_ushiftRight, BitVec.getLsbD_xor, BitVec.getLsbD_ushiftRight]
  rw [show y.getLsbD (32 + (32 + i)) = false from BitVec.getLsbD_of_ge _ _ (by omega)]
  simp
theorem mixB_inj {x y : BitVec 64} (h : mixB x = mixB y) : x = y := by
  unfold mixB at h
  have h2 : x * 11400714819323198485#64 = y * 11400714819323198485#64 := by
    rw [← shift_twice (x * 11400714819323198485#64), h, shift_twice]
  have h3 : x * 11400714819323198485#64 * 17428512612931826493#64 = y * 11400714819323198485#64 * 17428512612931826493#64 := by rw [h2]
  rw [BitVec.mul_assoc, BitVec.mul_assoc] at h3
  have e : 11400714819323198485#64 * 17428512612931826493#64 = 1#64 := by decide
  rw [e, BitVec.mul_one, BitVec.mul_one] at h3
  exact h3
theorem mix_B {h n : Int} (h0 : 0 ≤ h) (h1 : h ≤ 18446744073709551615) (n0 : -9223372036854775808 ≤ n) (n1 : n ≤ 9223372036854775807) :
    mix h n = ((mixB (BitVec.ofNat 64 h.toNat ^^^ BitVec.ofNat 64 (zig n).toNat)).toNat : Int) := by
  have hz := zig_range n0 (show n < 9223372036854775808 by omega)
  obtain ⟨a, rfl⟩ := Int.eq_ofNat_of_zero_le h0
  obtain ⟨b, hb⟩ := Int.eq_ofNat_of_zero_le hz.1
  unfold mix mixB
  rw [hb, (bits_u64 a b (by omega) (by omega)).2.2]
  have hx : a ^^^ b < 2 ^ 64 := Nat.xor_lt_two_pow (by omega) (by omega)
  have e1 : IntKind.u64.wrap (((a ^^^ b : Nat) : Int) * 11400714819323198485) = (((a ^^^ b) * 11400714819323198485 % 18446744073709551616 : Nat) : Int) := by
    rw [wrap_u64]; omega
  rw [e1]
  have e2 : ((((a ^^^ b) * 11400714819323198485 % 18446744073709551616 : Nat) : Int)) / 4294967296 = (((a ^^^ b) * 11400714819323198485 % 18446744073709551616 / 4294967296 : Nat) : Int) := by omega
  rw [e2, (bits_u64 _ _ (by omega) (by omega)).2.2]
  have e3 : ((BitVec.ofNat 64 ((a : Int)).toNat ^^^ BitVec.ofNat 64 ((b : Int)).toNat) * 11400714819323198485#64).toNat = (a ^^^ b) * 11400714819323198485 % 18446744073709551616 := by
    rw [BitVec.toNat_mul, BitVec.toNat_xor, BitVec.toNat_ofNat, BitVec.toNat_ofNat, show ((a : Int)).toNat = a from rfl, show ((b : Int)).toNat = b from rfl, Nat.mod_eq_of_lt (show a < 2 ^ 64 by omega), Nat.mod_eq_of_lt (show b < 2 ^ 64 by omega)]
    rw [show (11400714819323198485#64).toNat = 11400714819323198485 by decide, show (2 : Nat) ^ 64 = 18446744073709551616 by decide]
  rw [BitVec.toNat_xor, BitVec.toNat_ushiftRight, e3, Nat.shiftRight_eq_div_pow, show (2 : Nat) ^ 32 = 4294967296 by decide]
theorem mix_inj_h {h k n : Int} (h0 : 0 ≤ h) (h1 : h ≤ 18446744073709551615) (k0 : 0 ≤ k) (k1 : k ≤ 18446744073709551615) (n0 : -9223372036854775808 ≤ n) (n1 : n ≤ 9223372036854775807)
    (e : mix h n = mix k n) : h = k := by
  rw [mix_B h0 h1 n0 n1, mix_B k0 k1 n0 n1] at e
  have e2 := mixB_inj (BitVec.eq_of_toNat_eq (Int.ofNat_inj.1 e))
  rw [BitVec.xor_comm, BitVec.xor_comm (BitVec.ofNat 64 k.toNat)] at e2
  have e3 := congrArg (fun x => BitVec.ofNat 64 (zig n).toNat ^^^ x) e2
  simp only [← BitVec.xor_assoc, BitVec.xor_self, BitVec.zero_xor] at e3
  have e4 := congrArg BitVec.toNat e3
  rw [BitVec.toNat_ofNat, BitVec.toNat_ofNat] at e4
  omega
theorem mix_inj_n {h n m : Int} (h0 : 0 ≤ h) (h1 : h ≤ 18446744073709551615) (n0 : -9223372036854775808 ≤ n) (n1 : n ≤ 9223372036854775807) (m0 : -9223372036854775808 ≤ m) (m1 : m ≤ 9223372036854775807)
    (e : mix h n = mix h m) : n = m := by
  rw [mix_B h0 h1 n0 n1, mix_B h0 h1 m0 m1] at e
  have e2 := mixB_inj (BitVec.eq_of_toNat_eq (Int.ofNat_inj.1 e))
  have e3 := congrArg (fun x => BitVec.ofNat 64 h.toNat ^^^ x) e2
  simp only [← BitVec.xor_assoc, BitVec.xor_self, BitVec.zero_xor] at e3
  have e4 := congrArg BitVec.toNat e3
  rw [BitVec.toNat_ofNat, BitVec.toNat_ofNat] at e4
  have hz := zig_range n0 (show n < 9223372036854775808 by omega)
  have hy := zig_range m0 (show m < 9223372036854775808 by omega)
  have e5 : zig n = zig m := by omega
  rw [← zag_zig n, e5, zag_zig]
end Go.Proofs.YtkpdcmafpikhgaaDoor.Pack

