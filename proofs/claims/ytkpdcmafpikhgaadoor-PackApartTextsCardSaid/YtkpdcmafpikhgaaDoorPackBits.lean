/- Plain facts on numbers: words of 64 bits, zigzags, sevens, fields. No program in sight. -/
import Derived.Laws.BitsLemmas
import Derived.Test.YtkpdcmafpikhgaaDoorWWords
import Derived.Test.YtkpdcmafpikhgaaDoorWMore
namespace Go.Proofs.YtkpdcmafpikhgaaDoor.PackBits
open Go.RowKit Go.Proofs.YtkpdcmafpikhgaaDoorW.PrintWords Go.Proofs.YtkpdcmafpikhgaaDoorW.PrintMore

theorem p64 : (2 : Int) ^ 64 = 18446744073709551616 := by decide
theorem wrap_u64 (n : Int) : IntKind.u64.wrap n = n % 18446744073709551616 := by simp [IntKind.wrap, IntKind.bits, IntKind.signed]
theorem u64_id {n : Int} (h0 : 0 ≤ n) (h : n < 18446744073709551616) : IntKind.u64.wrap n = n := by rw [wrap_u64]; omega
theorem w64_id {n : Int} (h0 : -9223372036854775808 ≤ n) (h : n < 9223372036854775808) : wrap64 n = n := by unfold wrap64; omega

theorem bits_u64 (a b : Nat) (ha : a < 18446744073709551616) (hb : b < 18446744073709551616) :
    bits .and .u64 a b = ((a &&& b : Nat) : Int) ∧ bits .or .u64 a b = ((a ||| b : Nat) : Int) ∧ bits .xor .u64 a b = ((a ^^^ b : Nat) : Int) := by
  have ha' : a % 2 ^ IntKind.u64.bits = a := Nat.mod_eq_of_lt ha
  have hb' : b % 2 ^ IntKind.u64.bits = b := Nat.mod_eq_of_lt hb
  have h1 : a &&& b < 2 ^ 64 := Nat.and_lt_two_pow _ (by omega)
  have h2 : a ||| b < 2 ^ 64 := Nat.or_lt_two_pow (by omega) (by omega)
  have h3 : a ^^^ b < 2 ^ 64 := Nat.xor_lt_two_pow (by omega) (by omega)
  refine ⟨?_, ?_, ?_⟩
  · simp only [bits, BitVec.ofInt_natCast, BitVec.toNat_and, BitVec.toNat_ofNat, ha', hb']
    rw [wrap_u64]; omega
  · simp only [bits, BitVec.ofInt_natCast, BitVec.toNat_or, BitVec.toNat_ofNat, ha', hb']
    rw [wrap_u64]; omega
  · simp only [bits, BitVec.ofInt_natCast, BitVec.toNat_xor, BitVec.toNat_ofNat, ha', hb']
    rw [wrap_u64]; omega

theorem xor_ones (a : Nat) (ha : a < 18446744073709551616) : a ^^^ 18446744073709551615 = 18446744073709551615 - a := by
  have h : (BitVec.ofNat 64 a ^^^ BitVec.allOnes 64).toNat = (~~~(BitVec.ofNat 64 a)).toNat := by rw [BitVec.xor_allOnes]
  rw [BitVec.toNat_xor, BitVec.toNat_not, BitVec.toNat_ofNat, BitVec.toNat_allOnes, Nat.mod_eq_of_lt (by omega)] at h
  exact h

/-- The zigzag. -/
def zig (n : Int) : Int := if 0 ≤ n then 2 * n else -2 * n - 1
def zag (u : Int) : Int := if u % 2 = 0 then u / 2 else -(u / 2) - 1
theorem zig_range {n : Int} (h0 : -9223372036854775808 ≤ n) (h : n < 9223372036854775808) : 0 ≤ zig n ∧ zig n < 18446744073709551616 := by unfold zig; split <;> omega
theorem zag_range {n : Int} (h0 : 0 ≤ n) (h : n < 18446744073709551616) : -9223372036854775808 ≤ zag n ∧ zag n < 9223372036854775808 := by unfold zag; split <;> omega
theorem zag_zig (n : Int) : zag (zig n) = n := by unfold zag zig; repeat' split <;> omega
theorem zig_zag {u : Int} (h : 0 ≤ u) : zig (zag u) = u := by unfold zag zig; repeat' split <;> omega

/-- Zig as the code has it. -/
theorem zig_code {n : Int} (h0 : -9223372036854775808 ≤ n) (h : n < 9223372036854775808) :
    bits .xor .u64 (IntKind.u64.wrap ((IntKind.u64.wrap n) * 2)) (IntKind.u64.wrap (n / 9223372036854775808)) = zig n := by
  rw [wrap_u64, wrap_u64, wrap_u64]
  by_cases hn : 0 ≤ n
  · obtain ⟨m, rfl⟩ := Int.eq_ofNat_of_zero_le hn
    have e1 : ((m : Int) % 18446744073709551616 * 2) % 18446744073709551616 = ((2 * m : Nat) : Int) := by omega
    have e2 : ((m : Int) / 9223372036854775808) % 18446744073709551616 = ((0 : Nat) : Int) := by omega
    rw [e1, e2, (bits_u64 _ _ (by omega) (by omega)).2.2, Nat.xor_zero]
    unfold zig; rw [if_pos hn]; omega
  · obtain ⟨m, hm⟩ : ∃ m : Nat, n = -(m : Int) := ⟨n.natAbs, by omega⟩
    have e1 : (n % 18446744073709551616 * 2) % 18446744073709551616 = ((18446744073709551616 - 2 * m : Nat) : Int) := by omega
    have e2 : (n / 9223372036854775808) % 18446744073709551616 = ((18446744073709551615 : Nat) : Int) := by omega
    rw [e1, e2, (bits_u64 _ _ (by omega) (by omega)).2.2, xor_ones _ (by omega)]
    unfold zig; rw [if_neg hn]; omega

theorem bits_i64_xor0 {x : Int} (h0 : 0 ≤ x) (h : x < 9223372036854775808) : bits .xor .i64 x 0 = x := by
  obtain ⟨m, rfl⟩ := Int.eq_ofNat_of_zero_le h0
  have ha' : m % 2 ^ IntKind.i64.bits = m := Nat.mod_eq_of_lt (by show m < 2 ^ 64; omega)
  have e0 : (0 : Int) = ((0 : Nat) : Int) := rfl
  rw [e0]
  simp only [bits, BitVec.ofInt_natCast, BitVec.toNat_xor, BitVec.toNat_ofNat, ha', Nat.zero_mod, Nat.xor_zero]
  rw [IntKind.wrap_i64]; omega
theorem bits_i64_xor1 {x : Int} (h0 : 0 ≤ x) (h : x < 9223372036854775808) : bits .xor .i64 x (-1) = -x - 1 := by
  obtain ⟨m, rfl⟩ := Int.eq_ofNat_of_zero_le h0
  have ha' : m % 2 ^ 64 = m := Nat.mod_eq_of_lt (by omega)
  have e0 : BitVec.ofInt 64 (-1) = BitVec.allOnes 64 := by decide
  show IntKind.i64.wrap (((BitVec.ofInt 64 (m : Int)) ^^^ (BitVec.ofInt 64 (-1))).toNat) = _
  rw [e0, BitVec.xor_allOnes, BitVec.toNat_not, BitVec.ofInt_natCast, BitVec.toNat_ofNat, ha', IntKind.wrap_i64]
  omega
theorem and_one {u : Int} (h0 : 0 ≤ u) (h : u < 18446744073709551616) : bits .and .u64 u 1 = u % 2 := by
  obtain ⟨m, rfl⟩ := Int.eq_ofNat_of_zero_le h0
  have := (bits_u64 m 1 (by omega) (by omega)).1
  rw [Nat.and_one_is_mod] at this
  exact_mod_cast this

theorem zag_code {u : Int} (h0 : 0 ≤ u) (h : u < 18446744073709551616) :
    bits .xor .i64 (wrap64 (u / 2)) (wrap64 (-(wrap64 (bits .and .u64 u 1)))) = zag u := by
  rw [and_one h0 h]
  have e1 : wrap64 (u / 2) = u / 2 := w64_id (by omega) (by omega)
  rw [e1]
  unfold zag
  split
  · rename_i hz
    rw [hz]
    have : wrap64 (-(wrap64 0)) = 0 := by unfold wrap64; omega
    rw [this, bits_i64_xor0 (by omega) (by omega)]
  · have hz : u % 2 = 1 := by omega
    rw [hz]
    have : wrap64 (-(wrap64 1)) = -1 := by unfold wrap64; omega
    rw [this, bits_i64_xor1 (by omega) (by omega)]

/-- A mask of so many bits. -/
theorem mask_u64 {x : Int} (i : Nat) (hi : i ≤ 64) (h0 : 0 ≤ x) (h : x < 18446744073709551616) : bits .and .u64 x (2 ^ i - 1) = x % 2 ^ i :=
  bits_mask .u64 64 (Nat.le_refl _) (fun n h0 h1 => by rw [wrap_u64]; have := p64; omega) i hi x h0 (by have := p64; omega)
/-- Two numbers without a common bit: the one is a whole of 2^i, the other below it. -/
theorem join_u64 {x y : Int} (i : Nat) (hx0 : 0 ≤ x) (hx : x % 2 ^ i = 0) (hx1 : x < 18446744073709551616) (hy0 : 0 ≤ y) (hy : y < 2 ^ i) (hy1 : y < 18446744073709551616) :
    bits .or .u64 x y = x + y :=
  bits_join .u64 64 (Nat.le_refl _) (fun n h0 h1 => by rw [wrap_u64]; have := p64; omega) i x y hx0 hx (by have := p64; omega) hy0 hy (by have := p64; omega)
theorem or_comm_u64 (x y : Int) : bits .or .u64 x y = bits .or .u64 y x := by
  show IntKind.u64.wrap (((BitVec.ofInt 64 x) ||| (BitVec.ofInt 64 y)).toNat) = IntKind.u64.wrap (((BitVec.ofInt 64 y) ||| (BitVec.ofInt 64 x)).toNat)
  rw [BitVec.or_comm]
/-- The lowest seven bits of a byte. -/
theorem and127 {c : Int} (h0 : 0 ≤ c) (h : c < 256) : bits .and .u8 c 127 = c % 128 := bits_mask .u8 8 (by decide) wraps_u8 7 (by decide) c h0 h
theorem or128 {c : Int} (h0 : 0 ≤ c) (h : c < 256) : bits .or .u8 c 128 = c % 128 + 128 := by
  obtain ⟨m, rfl⟩ := Int.eq_ofNat_of_zero_le h0
  have hall : ∀ m : Nat, m < 256 → bits .or .u8 (m : Int) 128 = ((m % 128 + 128 : Nat) : Int) := by decide +kernel
  rw [hall m (by omega)]; omega
end Go.Proofs.YtkpdcmafpikhgaaDoor.PackBits
