/- The laws CodeBack, CodeBackWords, CodeLists, CodeTail of the program hold, as their cards say: texts put together by a program, 31 of 39. -/
import Derived.Test.YtnlimplbmncdeaaDoorPB1
import Derived.Test.YtnlimplbmncdeaaDoorPB11
import Derived.Test.YtnlimplbmncdeaaDoorPB12
import Derived.Test.YtnlimplbmncdeaaDoorPB14
import Derived.Test.YtnlimplbmncdeaaDoorPB15
import Derived.Test.YtnlimplbmncdeaaDoorPB16
import Derived.Test.YtnlimplbmncdeaaDoorPB18
import Derived.Test.YtnlimplbmncdeaaDoorPB19
import Derived.Test.YtnlimplbmncdeaaDoorPB20
import Derived.Test.YtnlimplbmncdeaaDoorPB21
import Derived.Test.YtnlimplbmncdeaaDoorPB22
import Derived.Test.YtnlimplbmncdeaaDoorPB23
import Derived.Test.YtnlimplbmncdeaaDoorPB24
import Derived.Test.YtnlimplbmncdeaaDoorPB25
import Derived.Test.YtnlimplbmncdeaaDoorPB26
import Derived.Test.YtnlimplbmncdeaaDoorPB27
import Derived.Test.YtnlimplbmncdeaaDoorPB28
import Derived.Test.YtnlimplbmncdeaaDoorPB29
import Derived.Laws.BitsLemmas
import Derived.Outline
namespace Go.Proofs.YtnlimplbmncdeaaDoor.PackBits
open Go.RowKit Go.Proofs.YtnlimplbmncdeaaDoorW.PrintWords Go.Proofs.YtnlimplbmncdeaaDoorW.PrintMore
theorem p64 : (2 : Int) ^ 64 = 18446744073709551616 := by decide
theorem wrap_u64 (n : Int) : IntKind.u64.wrap n = n % 18446744073709551616 := by simp [IntKind.wrap, IntKind.bits, IntKind.signed]
theorem u64_id {n : Int} (h0 : 0 ≤ n) (h : n < 18446744073709551616) : IntKind.u64.wrap n = n := by rw [wrap_u64]; omega
theorem w64_id {n : Int} (h0 : -9223372036854775808 ≤ n) (h : n < 9223372036854775808) : wrap64 n = n := by unfold wrap64; omega
theorem bits_u64 (a b : Nat) (ha : a < 18446744073709551616) (hb : b < 18446744073709551616) :
  bits .and .u64 a b = ((a &&& b : Nat) : Int) ∧ bits .or .u64 a b = ((a ||| b : Nat) : Int) ∧ bits .xor .u64 a b = ((a ^^^ b : Nat) : Int) := by
 have ha' : a % 2 ^ IntKind.u64.bits = a := Nat.mod_eq_of_lt ha
 have hb' : b % 2 ^ IntKind.u64.bits = b := Nat.mod_eq_of_lt hb
 have h1 : a &&& b < 2 ^ 64 := Nat.and_lt_two_pow _ (by omega)
 have h2 : a ||| b < 2 ^ 64 := Nat.or_lt_two_pow (by omega) (by omega)
 have h3 : a ^^^ b < 2 ^ 64 := Nat.xor_lt_two_pow (by omega) (by omega)
 refine ⟨?_, ?_, ?_⟩
 ·simp only [bits, BitVec.ofInt_natCast, BitVec.toNat_and, BitVec.toNat_ofNat, ha', hb']
  rw [wrap_u64]; omega
 ·simp only [bits, BitVec.ofInt_natCast, BitVec.toNat_or, BitVec.toNat_ofNat, ha', hb']
  rw [wrap_u64]; omega
 ·simp only [bits, BitVec.ofInt_natCast, BitVec.toNat_xor, BitVec.toNat_ofNat, ha', hb']
  rw [wrap_u64]; omega
theorem xor_ones (a : Nat) (ha : a < 18446744073709551616) : a ^^^ 18446744073709551615 = 18446744073709551615 - a := by
 have h : (BitVec.ofNat 64 a ^^^ BitVec.allOnes 64).toNat = (~~~(BitVec.ofNat 64 a)).toNat := by rw [BitVec.xor_allOnes]
 rw [BitVec.toNat_xor, BitVec.toNat_not, BitVec.toNat_ofNat, BitVec.toNat_allOnes, Nat.mod_eq_of_lt (by omega)] at h
 exact h
def zig (n : Int) : Int := if 0 ≤ n then 2 * n else -2 * n - 1
def zag (u : Int) : Int := if u % 2 = 0 then u / 2 else -(u / 2) - 1
theorem zig_range {n : Int} (h0 : -9223372036854775808 ≤ n) (h : n < 9223372036854775808) : 0 ≤ zig n ∧ zig n < 18446744073709551616 := by unfold zig; split <;> omega
theorem zag_range {n : Int} (h0 : 0 ≤ n) (h : n < 18446744073709551616) : -9223372036854775808 ≤ zag n ∧ zag n < 9223372036854775808 := by unfold zag; split <;> omega
theorem zag_zig (n : Int) : zag (zig n) = n := by unfold zag zig; repeat' split <;> omega
theorem zig_zag {u : Int} (h : 0 ≤ u) : zig (zag u) = u := by unfold zag zig; repeat' split <;> omega
theorem zig_code {n : Int} (h0 : -9223372036854775808 ≤ n) (h : n < 9223372036854775808) :
  bits .xor .u64 (IntKind.u64.wrap ((IntKind.u64.wrap n) * 2)) (IntKind.u64.wrap (n / 9223372036854775808)) = zig n := by
 rw [wrap_u64, wrap_u64, wrap_u64]
 by_cases hn : 0 ≤ n
 ·obtain ⟨m, rfl⟩ := Int.eq_ofNat_of_zero_le hn
  have e1 : ((m : Int) % 18446744073709551616 * 2) % 18446744073709551616 = ((2 * m : Nat) : Int) := by omega
  have e2 : ((m : Int) / 9223372036854775808) % 18446744073709551616 = ((0 : Nat) : Int) := by omega
  rw [e1, e2, (bits_u64 _ _ (by omega) (by omega)).2.2, Nat.xor_zero]
  unfold zig; rw [if_pos hn]; omega
 ·obtain ⟨m, hm⟩ : ∃ m : Nat, n = -(m : Int) := ⟨n.natAbs, by omega⟩
  have e1 : (n % 18446744073709551616 * 2) % 18446744073709551616 = ((18446744073709551616 - 2 * m : Nat) : Int) := by omega
  have e2 : (n / 9223372036854775808) % 18446744073709551616 = ((18446744073709551615 : Nat) : Int) := by omega
  rw [e1, e2, (bits_u64 _ _ (by omega) (by omega)).2.2, xor_ones _ (by omega)]
  unfold zig; rw [if_neg hn]; omega
theorem bits_i64_xor0 {x : Int} (h0 : 0 ≤ x) (h : x < 9223372036854775808) : bits .xor .i64 x 0 = x := by
 obtain ⟨m, rfl⟩ := Int.eq_ofNat_of_zero_le h0
 have ha' : m % 2 ^ IntKind.i64.bits = m := Nat.mod_eq_of_lt (by show m < 2 ^ 64; omega)
 have e0 : (0 : Int) = ((0 : Nat) : Int) := rfl
 rw [e0]
 simp only [bits, BitVec.ofInt_natCast, BitVec.toNat_xor, BitVec.toNat_ofNat, ha', Nat.zero_mod, Nat.xor_zero]
 rw [IntKind.wrap_i64]; omega
theorem bits_i64_xor1 {x : Int} (h0 : 0 ≤ x) (h : x < 9223372036854775808) : bits .xor .i64 x (-1) = -x - 1 := by
 obtain ⟨m, rfl⟩ := Int.eq_ofNat_of_zero_le h0
 have ha' : m % 2 ^ 64 = m := Nat.mod_eq_of_lt (by omega)
 have e0 : BitVec.ofInt 64 (-1) = BitVec.allOnes 64 := by decide
 show IntKind.i64.wrap (((BitVec.ofInt 64 (m : Int)) ^^^ (BitVec.ofInt 64 (-1))).toNat) = _
 rw [e0, BitVec.xor_allOnes, BitVec.toNat_not, BitVec.ofInt_natCast, BitVec.toNat_ofNat, ha', IntKind.wrap_i64]
 omega
theorem and_one {u : Int} (h0 : 0 ≤ u) (h : u < 18446744073709551616) : bits .and .u64 u 1 = u % 2 := by
 obtain ⟨m, rfl⟩ := Int.eq_ofNat_of_zero_le h0
 have := (bits_u64 m 1 (by omega) (by omega)).1
 rw [Nat.and_one_is_mod] at this
 exact_mod_cast this
theorem zag_code {u : Int} (h0 : 0 ≤ u) (h : u < 18446744073709551616) :
  bits .xor .i64 (wrap64 (u / 2)) (wrap64 (-(wrap64 (bits .and .u64 u 1)))) = zag u := by
 rw [and_one h0 h]
 have e1 : wrap64 (u / 2) = u / 2 := w64_id (by omega) (by omega)
 rw [e1]
 unfold zag
 split
 ·rename_i hz
  rw [hz]
  have : wrap64 (-(wrap64 0)) = 0 := by unfold wrap64; omega
  rw [this, bits_i64_xor0 (by omega) (by omega)]
 ·have hz : u % 2 = 1 := by omega
  rw [hz]
  have : wrap64 (-(wrap64 1)) = -1 := by unfold wrap64; omega
  rw [this, bits_i64_xor1 (by omega) (by omega)]
theorem mask_u64 {x : Int} (i : Nat) (hi : i ≤ 64) (h0 : 0 ≤ x) (h : x < 18446744073709551616) : bits .and .u64 x (2 ^ i - 1) = x % 2 ^ i :=
 bits_mask .u64 64 (Nat.le_refl _) (fun n h0 h1 => by rw [wrap_u64]; have := p64; omega) i hi x h0 (by have := p64; omega)
theorem join_u64 {x y : Int} (i : Nat) (hx0 : 0 ≤ x) (hx : x % 2 ^ i = 0) (hx1 : x < 18446744073709551616) (hy0 : 0 ≤ y) (hy : y < 2 ^ i) (hy1 : y < 18446744073709551616) :
  bits .or .u64 x y = x + y :=
 bits_join .u64 64 (Nat.le_refl _) (fun n h0 h1 => by rw [wrap_u64]; have := p64; omega) i x y hx0 hx (by have := p64; omega) hy0 hy (by have := p64; omega)
theorem or_comm_u64 (x y : Int) : bits .or .u64 x y = bits .or .u64 y x := by
 show IntKind.u64.wrap (((BitVec.ofInt 64 x) ||| (BitVec.ofInt 64 y)).toNat) = IntKind.u64.wrap (((BitVec.ofInt 64 y) ||| (BitVec.ofInt 64 x)).toNat)
 rw [BitVec.or_comm]
theorem and127 {c : Int} (h0 : 0 ≤ c) (h : c < 256) : bits .and .u8 c 127 = c % 128 := bits_mask .u8 8 (by decide) wraps_u8 7 (by decide) c h0 h
theorem or128 {c : Int} (h0 : 0 ≤ c) (h : c < 256) : bits .or .u8 c 128 = c % 128 + 128 := by
 obtain ⟨m, rfl⟩ := Int.eq_ofNat_of_zero_le h0
 have hall : ∀ m : Nat, m < 256 → bits .or .u8 (m : Int) 128 = ((m % 128 + 128 : Nat) : Int) := by decide +kernel
 rw [hall m (by omega)]; omega
end Go.Proofs.YtnlimplbmncdeaaDoor.PackBits
namespace Go.Proofs.YtnlimplbmncdeaaDoor.Sevens
def sev (u : Nat) : List Int := if u > 127 then ((u % 128 + 128 : Nat) : Int) :: sev (u / 128) else [(u : Int)]
termination_by u
decreasing_by omega
theorem sev_big {u : Nat} (h : u > 127) : sev u = ((u % 128 + 128 : Nat) : Int) :: sev (u / 128) := by rw [sev, if_pos h]
theorem sev_small {u : Nat} (h : u ≤ 127) : sev u = [(u : Int)] := by rw [sev, if_neg (by omega)]
theorem sev_pos (u : Nat) : 0 < (sev u).length := by
 by_cases h : u > 127
 ·rw [sev_big h]; simp
 ·rw [sev_small (by omega)]; simp
theorem sev_length_le : ∀ (n u : Nat), u < 128 ^ (n + 1) → (sev u).length ≤ n + 1 := by
 intro n
 induction n with
 | zero => intro u h; rw [sev_small (by omega)]; simp
 | succ n ih =>
  intro u h
  by_cases hb : u > 127
  ·rw [sev_big hb, List.length_cons]
   have : 128 ^ (n + 1 + 1) = 128 ^ (n + 1) * 128 := Nat.pow_succ ..
   have := ih (u / 128) (by omega)
   omega
  ·rw [sev_small (by omega)]; simp
theorem sev_bytes (u : Nat) : ∀ x ∈ sev u, 0 ≤ x ∧ x < 256 := by
 induction u using Nat.strongRecOn with
 | _ u ih =>
  by_cases hb : u > 127
  ·rw [sev_big hb]
   intro x hx
   rcases List.mem_cons.1 hx with rfl | hx
   ·omega
   ·exact ih _ (by omega) x hx
  ·rw [sev_small (by omega)]
   intro x hx
   simp only [List.mem_singleton] at hx
   omega
def tk (i : Nat) (u : Int) : List Int → Int × Int × Int
 | [] => (0, 0, 10)
 | c :: t => if i = 9 ∧ c > 1 then (0, 0, 11) else if c > 127 then tk (i + 1) (u + (c - 128) * 2 ^ (7 * i)) t else if c = 0 ∧ i > 0 then (0, 0, 11) else (u + c * 2 ^ (7 * i), (i : Int) + 1, 0)
theorem pow7 (i : Nat) : (2 : Int) ^ (7 * (i + 1)) = 128 * 2 ^ (7 * i) := by
 rw [Nat.mul_add, Int.pow_add]; omega
theorem pow57 {i : Nat} (h : i ≤ 8) : 2 ^ (64 - 7 * i) = 128 * 2 ^ (64 - 7 * (i + 1)) := by
 have : 64 - 7 * i = 7 + (64 - 7 * (i + 1)) := by omega
 rw [this, Nat.pow_add]
theorem mulpart (a b p c : Int) (h : c = a + b * 128) : a * p + b * (128 * p) = c * p := by
 rw [h, Int.add_mul, Int.mul_assoc]
theorem tk_sev : ∀ (m i : Nat) (u : Int) (rest : List Int), m < 2 ^ (64 - 7 * i) → i ≤ 9 → (i = 0 ∨ 0 < m) →
  tk i u (sev m ++ rest) = (u + m * 2 ^ (7 * i), (i : Int) + ((sev m).length : Int), 0) := by
 intro m
 induction m using Nat.strongRecOn with
 | _ m ih =>
  intro i u rest hm hi h0
  by_cases hb : m > 127
  ·have hi8 : i ≤ 8 := by
    rcases Nat.lt_or_ge i 9 with h | h
    ·omega
    ·have : i = 9 := by omega
     subst this
     simp at hm
     omega
   have h57 := pow57 hi8
   have hm' : m / 128 < 2 ^ (64 - 7 * (i + 1)) := by omega
   rw [sev_big hb, List.cons_append, tk, if_neg (by omega), if_pos (by omega), ih (m / 128) (by omega) (i + 1) _ rest hm' (by omega) (by omega), pow7, List.length_cons]
   refine Prod.ext ?_ (Prod.ext ?_ rfl)
   ·dsimp only
    rw [Int.add_assoc, mulpart _ _ _ (m : Int) (by omega)]
   ·show ((i + 1 : Nat) : Int) + ((sev (m / 128)).length : Int) = (i : Int) + (((sev (m / 128)).length + 1 : Nat) : Int)
    omega
  ·rw [sev_small (by omega), List.singleton_append, tk]
   have h1 : ¬ (i = 9 ∧ (m : Int) > 1) := by
    rintro ⟨rfl, h⟩
    simp at hm
    omega
   rw [if_neg h1, if_neg (by omega), if_neg (by omega)]
   simp
theorem tk_ok : ∀ (l : List Int) (i : Nat) (u n k : Int), (∀ x ∈ l, 0 ≤ x ∧ x < 256) → i ≤ 9 → tk i u l = (n, k, 0) →
  ∃ m : Nat, m < 2 ^ (64 - 7 * i) ∧ (i = 0 ∨ 0 < m) ∧ n = u + m * 2 ^ (7 * i) ∧ k = (i : Int) + ((sev m).length : Int) ∧ l.take (sev m).length = sev m := by
 intro l
 induction l with
 | nil => intro i u n k _ _ h; simp [tk] at h
 | cons c t ih =>
  intro i u n k hb hi h
  obtain ⟨hc0, hc1⟩ := hb c (by simp)
  rw [tk] at h
  by_cases h1 : i = 9 ∧ c > 1
  ·rw [if_pos h1] at h; simp at h
  ·rw [if_neg h1] at h
   by_cases h2 : c > 127
   ·rw [if_pos h2] at h
    have hi8 : i ≤ 8 := by omega
    obtain ⟨m, hm, hp, hn, hk, ht⟩ := ih (i + 1) _ n k (fun x hx => hb x (by simp [hx])) (by omega) h
    have hp' : 0 < m := by omega
    have h57 := pow57 hi8
    obtain ⟨d, rfl⟩ : ∃ d : Nat, c = ((d + 128 : Nat) : Int) := ⟨(c - 128).toNat, by omega⟩
    have hs : sev (d + 128 * m) = ((d + 128 : Nat) : Int) :: sev m := by
     rw [sev_big (by omega)]
     have e1 : (d + 128 * m) % 128 = d := by omega
     have e2 : (d + 128 * m) / 128 = m := by omega
     rw [e1, e2]
    refine ⟨d + 128 * m, by omega, Or.inr (by omega), ?_, ?_, ?_⟩
    ·rw [hn, pow7]
     have e2 : (((d + 128 : Nat) : Int) - 128) = (d : Int) := by omega
     have e3 : ((d + 128 * m : Nat) : Int) = (d : Int) + (m : Int) * 128 := by omega
     rw [e2, e3, Int.add_mul, Int.add_assoc, ← Int.mul_assoc]
    ·rw [hk, hs, List.length_cons]; omega
    ·rw [hs, List.length_cons, List.take_succ_cons, ht]
   ·rw [if_neg h2] at h
    by_cases h3 : c = 0 ∧ i > 0
    ·rw [if_pos h3] at h; simp at h
    ·rw [if_neg h3] at h
     simp only [Prod.mk.injEq] at h
     obtain ⟨rfl, rfl, _⟩ := h
     obtain ⟨d, rfl⟩ := Int.eq_ofNat_of_zero_le hc0
     have hs : sev d = [(d : Int)] := sev_small (by omega)
     refine ⟨d, ?_, by omega, rfl, by rw [hs]; rfl, by rw [hs]; rfl⟩
     rcases Nat.lt_or_ge i 9 with h | h
     ·have h57 := pow57 (show i ≤ 8 by omega)
      have : 0 < 2 ^ (64 - 7 * (i + 1)) := Nat.two_pow_pos _
      omega
     ·have : i = 9 := by omega
      subst this
      simp
      omega
theorem tk_err : ∀ (l : List Int) (i : Nat) (u : Int), (∃ n k, tk i u l = (n, k, 0)) ∨ tk i u l = (0, 0, 10) ∨ tk i u l = (0, 0, 11) := by
 intro l
 induction l with
 | nil => intro i u; exact .inr (.inl rfl)
 | cons c t ih =>
  intro i u
  rw [tk]
  split
  ·exact .inr (.inr rfl)
  ·split
   ·exact ih _ _
   ·split
    ·exact .inr (.inr rfl)
    ·exact .inl ⟨_, _, rfl⟩
end Go.Proofs.YtnlimplbmncdeaaDoor.Sevens
namespace Go.Proofs.YtnlimplbmncdeaaDoor.Pack
open Go.RowKit Go.Proofs.YtnlimplbmncdeaaDoorW.PrintWords Go.Proofs.YtnlimplbmncdeaaDoorW.PrintMore Go.Proofs.YtnlimplbmncdeaaDoor.C Go.Proofs.YtnlimplbmncdeaaDoor.PackBits Go.Proofs.YtnlimplbmncdeaaDoor.Sevens Go.Proofs.YtnlimplbmncdeaaDoor.Str
theorem zig_f {n : Int} (h0 : -9223372036854775808 ≤ n) (h : n ≤ 9223372036854775807) : pack_Zig.f n = some (zig n) := by
 unfold pack_Zig.f
 rw [zig_code h0 (by omega)]
theorem zag_f {u : Int} (h0 : 0 ≤ u) (h : u ≤ 18446744073709551615) : pack_Zag.f u = some (zag u) := by
 unfold pack_Zag.f
 rw [zag_code h0 (by omega)]
theorem put_l0 : ∀ (n u : Nat) (acc : List Int) (k : Nat), u < 128 ^ (n + 1) → acc.length + n < 140737488355328 → n < k →
  pack_Put.l0 k (u : Int) acc = some (strOfNums (acc ++ sev u)) := by
 intro n
 induction n with
 | zero =>
  intro u acc k hu ha hk
  obtain ⟨k, rfl⟩ : ∃ m, k = m + 1 := ⟨k - 1, by omega⟩
  simp only [pack_Put.l0]
  rw [if_neg (by omega), if_pos (by omega), sev_small (by omega)]
  congr 4
  omega
 | succ n ih =>
  intro u acc k hu ha hk
  obtain ⟨k, rfl⟩ : ∃ m, k = m + 1 := ⟨k - 1, by omega⟩
  simp only [pack_Put.l0]
  by_cases hb : u > 127
  ·have hp : 128 ^ (n + 1 + 1) = 128 ^ (n + 1) * 128 := Nat.pow_succ ..
   rw [if_pos (by omega), if_pos (by omega), show ((u : Int) / 128) = ((u / 128 : Nat) : Int) by omega, or128 (by omega) (by omega), ih (u / 128) _ k (by omega) (by simp; omega) (by omega), sev_big hb, List.append_assoc, List.singleton_append]
   congr 5
   omega
  ·rw [if_neg (by omega), if_pos (by omega), sev_small (by omega)]
   congr 4
   omega
theorem put_f {u : Nat} (h : u < 18446744073709551616) {k : Nat} (hk : 10 ≤ k) : pack_Put.f k (u : Int) = some (strOfNums (sev u)) := by
 unfold pack_Put.f
 rw [put_l0 9 u [] k (by omega) (by simp) (by omega), List.nil_append]
theorem p7_le {i : Nat} (h : i ≤ 9) : (2 : Int) ^ (7 * i) ≤ 9223372036854775808 := by
 have h2 : (2 : Nat) ^ (7 * i) ≤ 2 ^ 63 := Nat.pow_le_pow_right (by decide) (by omega)
 have h3 : ((2 ^ (7 * i) : Nat) : Int) ≤ ((2 ^ 63 : Nat) : Int) := Int.ofNat_le.2 h2
 rw [Int.natCast_pow] at h3
 exact h3
theorem p7_pos (i : Nat) : (0 : Int) < 2 ^ (7 * i) := Int.pow_pos (by decide)
theorem add7 {i : Nat} (hi : i ≤ 9) {u c : Int} (hu0 : 0 ≤ u) (hu : u < 2 ^ (7 * i)) (hc0 : 0 ≤ c) (hc : c < 256) (hc9 : i = 9 → c ≤ 1) :
  Go.bits .or .u64 u (shl .u64 (IntKind.u64.wrap (Go.bits .and .u8 c 127)) (wrap64 (7 * (i : Int)))) = u + (c % 128) * 2 ^ (7 * i) ∧ u + (c % 128) * 2 ^ (7 * i) < 2 ^ (7 * (i + 1)) ∧ 0 ≤ u + (c % 128) * 2 ^ (7 * i) ∧
   (c % 128) * 2 ^ (7 * i) < 18446744073709551616 ∧ 0 ≤ (c % 128) * 2 ^ (7 * i) := by
 have hp := p7_pos i
 have hl := p7_le hi
 have hm0 : 0 ≤ (c % 128) * 2 ^ (7 * i) := Int.mul_nonneg (by omega) (by omega)
 have hm1 : (c % 128) * 2 ^ (7 * i) ≤ 127 * 2 ^ (7 * i) := Int.mul_le_mul_of_nonneg_right (by omega) (by omega)
 have hm2 : (c % 128) * 2 ^ (7 * i) < 18446744073709551616 := by
  rcases Nat.lt_or_ge i 9 with h | h
  ·have h2 : (2 : Nat) ^ (7 * i) ≤ 2 ^ 56 := Nat.pow_le_pow_right (by decide) (by omega)
   have h3 : ((2 ^ (7 * i) : Nat) : Int) ≤ ((2 ^ 56 : Nat) : Int) := Int.ofNat_le.2 h2
   rw [Int.natCast_pow] at h3
   have h4 : (2 : Int) ^ (7 * i) ≤ 72057594037927936 := h3
   omega
  ·have h9 : i = 9 := by omega
   have hc1 := hc9 h9
   have hm3 : (c % 128) * 2 ^ (7 * i) ≤ 1 * 2 ^ (7 * i) := Int.mul_le_mul_of_nonneg_right (by omega) (by omega)
   omega
 have hw : wrap64 (7 * (i : Int)) = ((7 * i : Nat) : Int) := by rw [w64_id (by omega) (by omega)]; omega
 refine ⟨?_, ?_, by omega, hm2, hm0⟩
 ·rw [and127 hc0 hc, hw, u64_id (n := c % 128) (by omega) (by omega)]
  unfold shl
  rw [show (((7 * i : Nat) : Int)).toNat = 7 * i from rfl, Nat.min_eq_left (show 7 * i ≤ IntKind.u64.bits by show 7 * i ≤ 64; omega), u64_id hm0 hm2, or_comm_u64, join_u64 (7 * i) hm0 (Int.mul_emod_left _ _) hm2 hu0 hu (by omega)]
  omega
 ·rw [pow7]
  have : u + (c % 128) * 2 ^ (7 * i) < 2 ^ (7 * i) + 127 * 2 ^ (7 * i) := by omega
  omega
theorem take_l0 (s : ByteArray) : ∀ (n i : Nat) (u : Int) (k : Nat), 9 - i = n → i ≤ 9 → 0 ≤ u → u < 2 ^ (7 * i) → 2 * n + 2 < k →
  pack_Take.l0 k s u (s.size : Int) (i : Int) = some (tk i u ((bytesOf s).drop i)) := by
 intro n
 induction n with
 | zero =>
  intro i u k hn hi hu0 hu hk
  have h9 : i = 9 := by omega
  obtain ⟨k, rfl⟩ : ∃ m, k = m + 1 := ⟨k - 1, by omega⟩
  obtain ⟨k, rfl⟩ : ∃ m, k = m + 1 := ⟨k - 1, by omega⟩
  simp only [pack_Take.l0]
  by_cases hlt : i < s.size
  ·rw [if_pos (by omega), if_pos (by omega), if_pos (by omega), if_pos (by omega), bt_drop hlt, tk]
   have hb := bt_range s i
   simp only [pack_Take.j1, decide_eq_true_eq]
   by_cases hc : bt s i > 1
   ·rw [if_pos hc, if_pos ⟨h9, hc⟩]
   ·rw [if_neg hc, if_pos (by rw [w64_id (by omega) (by omega)]; omega), if_neg (show ¬ bt s i > 127 by omega), if_neg (show ¬ (i = 9 ∧ bt s i > 1) from fun h => hc h.2), if_neg (show ¬ bt s i > 127 by omega)]
    obtain ⟨e1, e2, e3, _, _⟩ := add7 hi hu0 hu hb.1 (by omega) (fun _ => by omega)
    rw [e1, show wrap64 ((i : Int) + 1) = (i : Int) + 1 from w64_id (by omega) (by omega), show bt s i % 128 = bt s i by omega]
    by_cases hz : bt s i = 0
    ·rw [if_pos hz, if_pos (by omega), if_pos ⟨hz, by omega⟩]
    ·rw [if_neg hz, if_neg (fun h => hz h.1)]
  ·rw [if_neg (by omega), List.drop_eq_nil_of_le (by rw [bytesOf_length]; omega), tk]
 | succ n ih =>
  intro i u k hn hi hu0 hu hk
  obtain ⟨k, rfl⟩ : ∃ m, k = m + 1 := ⟨k - 1, by omega⟩
  obtain ⟨k, rfl⟩ : ∃ m, k = m + 1 := ⟨k - 1, by omega⟩
  simp only [pack_Take.l0]
  by_cases hlt : i < s.size
  ·rw [if_pos (by omega), if_pos (by omega), if_pos (by omega), if_neg (by omega), bt_drop hlt, tk]
   have hb := bt_range s i
   simp only [pack_Take.j1, Bool.false_eq_true, if_false]
   rw [if_neg (show ¬ (i = 9 ∧ bt s i > 1) by omega), if_pos (by rw [w64_id (by omega) (by omega)]; omega)]
   obtain ⟨e1, e2, e3, _, _⟩ := add7 hi hu0 hu hb.1 (by omega) (fun _ => by omega)
   rw [e1, show wrap64 ((i : Int) + 1) = ((i + 1 : Nat) : Int) from (w64_id (by omega) (by omega)).trans (by omega)]
   by_cases hc : bt s i > 127
   ·rw [if_pos hc, if_pos hc, ih (i + 1) _ k (by omega) (by omega) e3 e2 (by omega), show bt s i % 128 = bt s i - 128 by omega]
   ·rw [if_neg hc, if_neg hc, show bt s i % 128 = bt s i by omega]
    by_cases hz : bt s i = 0
    ·rw [if_pos hz]
     by_cases hi0 : i > 0
     ·rw [if_pos (by omega), if_pos ⟨hz, hi0⟩]
     ·rw [if_neg (by omega), if_neg (fun h => hi0 h.2)]; rfl
    ·rw [if_neg hz, if_neg (fun h => hz h.1)]; rfl
  ·rw [if_neg (by omega), List.drop_eq_nil_of_le (by rw [bytesOf_length]; omega), tk]
theorem take_f (s : ByteArray) {k : Nat} (hk : 21 ≤ k) : pack_Take.f k s = some (tk 0 0 (bytesOf s)) := by
 unfold pack_Take.f
 exact take_l0 s 9 0 0 k rfl (by omega) (by omega) (by decide) (by omega)
end Go.Proofs.YtnlimplbmncdeaaDoor.Pack
namespace Go.Proofs.YtnlimplbmncdeaaDoor.Pack
open Go.RowKit Go.Proofs.YtnlimplbmncdeaaDoorW.PrintWords Go.Proofs.YtnlimplbmncdeaaDoorW.PrintMore Go.Proofs.YtnlimplbmncdeaaDoor.C Go.Proofs.YtnlimplbmncdeaaDoor.PackBits Go.Proofs.YtnlimplbmncdeaaDoor.Sevens Go.Proofs.YtnlimplbmncdeaaDoor.Str
def fits (a b c : Int) : Prop := 0 ≤ a ∧ a ≤ 255 ∧ 0 ≤ b ∧ b ≤ 268435455 ∧ 0 ≤ c ∧ c ≤ 268435455
instance (a b c : Int) : Decidable (fits a b c) := inferInstanceAs (Decidable (_ ∧ _))
def laid (a b c : Int) : Int := a * 72057594037927936 + b * 268435456 + c
theorem ref_word (a b c : Int) : isthmusref01_Word.f a b c = if fits a b c then some (laid a b c, 0) else some (0, 12) := by
 unfold isthmusref01_Word.f
 by_cases h : fits a b c
 ·rw [if_pos h]
  obtain ⟨h1, h2, h3, h4, h5, h6⟩ := h
  rw [if_neg (by omega), if_neg (by omega), if_neg (by omega), if_neg (by omega), if_neg (by omega), if_neg (by omega)]
  simp only [wrap_u64]
  unfold laid
  congr 2
  omega
 ·rw [if_neg h]
  unfold fits at h
  by_cases h1 : a < 0
  ·rw [if_pos h1]
  ·rw [if_neg h1]
   by_cases h2 : a > 255
   ·rw [if_pos h2]
   ·rw [if_neg h2]
    by_cases h3 : b < 0
    ·rw [if_pos h3]
    ·rw [if_neg h3]
     by_cases h4 : b ≥ 268435456
     ·rw [if_pos h4]
     ·rw [if_neg h4]
      by_cases h5 : c < 0
      ·rw [if_pos h5]
      ·rw [if_neg h5, if_pos (by omega)]
theorem part_f {w : Int} (h0 : 0 ≤ w) (h : w ≤ 18446744073709551615) (a b : Nat) (ha : a + b ≤ 64) (hb : b ≤ 56) (hb0 : 0 < b) : pack_part.f w a b = some (w / 2 ^ a % 2 ^ b) := by
 unfold pack_part.f
 rw [if_pos (by omega), if_pos (by omega)]
 unfold shr shl
 have ea : min (a : Int).toNat IntKind.u64.bits = a := Nat.min_eq_left (show a ≤ 64 by omega)
 have eb : min (b : Int).toNat IntKind.u64.bits = b := Nat.min_eq_left (show b ≤ 64 by omega)
 have hp : (0 : Int) < 2 ^ a := Int.pow_pos (by decide)
 have hq : (0 : Int) < 2 ^ b := Int.pow_pos (by decide)
 have hb56 : (2 : Int) ^ b ≤ 72057594037927936 := by
  have h2 : (2 : Nat) ^ b ≤ 2 ^ 56 := Nat.pow_le_pow_right (by decide) hb
  have h3 : ((2 ^ b : Nat) : Int) ≤ ((2 ^ 56 : Nat) : Int) := Int.ofNat_le.2 h2
  rw [Int.natCast_pow] at h3
  exact h3
 have hd0 : 0 ≤ w / 2 ^ a := Int.ediv_nonneg h0 (by omega)
 have hd1 : w / 2 ^ a ≤ w := Int.ediv_le_self _ h0
 have hm0 := Int.emod_nonneg (w / 2 ^ a) (show (2 : Int) ^ b ≠ 0 by omega)
 have hm1 := Int.emod_lt_of_pos (w / 2 ^ a) hq
 rw [ea, eb, Int.one_mul, u64_id (n := (2 : Int) ^ b) (by omega) (by omega), u64_id (n := (2 : Int) ^ b - 1) (by omega) (by omega), mask_u64 b (by omega) hd0 (by omega), w64_id (by omega) (by omega)]
theorem parts_f {w : Int} (h0 : 0 ≤ w) (h : w ≤ 18446744073709551615) : pack_Parts.f w = some (w / 72057594037927936, w / 268435456 % 268435456, w % 268435456) := by
 unfold pack_Parts.f
 have e1 := part_f h0 h 56 8 (by omega) (by omega) (by omega)
 have e2 := part_f h0 h 28 28 (by omega) (by omega) (by omega)
 have e3 := part_f h0 h 0 28 (by omega) (by omega) (by omega)
 rw [show (((56 : Nat) : Int)) = 56 from rfl, show (((8 : Nat) : Int)) = 8 from rfl] at e1
 rw [show (((28 : Nat) : Int)) = 28 from rfl] at e2
 rw [show (((0 : Nat) : Int)) = 0 from rfl, show (((28 : Nat) : Int)) = 28 from rfl] at e3
 rw [e1, e2, e3]
 simp only [Option.bind_some]
 congr 2
 ·show w / 72057594037927936 % 256 = _
  omega
 ·congr 1
  show w / 1 % 268435456 = _
  omega
theorem ref_parts {w : Int} (h0 : 0 ≤ w) (h : w ≤ 18446744073709551615) : isthmusref01_Parts.f w = some (w / 72057594037927936, w / 268435456 % 268435456, w % 268435456) := by
 unfold isthmusref01_Parts.f
 rw [Int.tdiv_eq_ediv_of_nonneg h0, u64_id (n := w / 268435456) (by omega) (by omega), Int.tdiv_eq_ediv_of_nonneg (by omega), Int.tmod_eq_emod_of_nonneg (by omega), Int.tmod_eq_emod_of_nonneg h0,
  u64_id (n := w / 268435456 / 268435456) (by omega) (by omega), w64_id (n := w / 268435456 / 268435456) (by omega) (by omega), w64_id (n := w / 268435456 % 268435456) (by omega) (by omega), w64_id (n := w % 268435456) (by omega) (by omega)]
 congr 2
 omega
def mix (h n : Int) : Int :=
 bits .xor .u64 (IntKind.u64.wrap ((bits .xor .u64 h (zig n)) * 11400714819323198485)) ((IntKind.u64.wrap ((bits .xor .u64 h (zig n)) * 11400714819323198485)) / 4294967296)
theorem mix_f {h n : Int} (h0 : -9223372036854775808 ≤ n) (h1 : n ≤ 9223372036854775807) : pack_Mix.f h n = some (mix h n) := by
 unfold pack_Mix.f
 rw [zig_f h0 h1]
 rfl
def mixB (x : BitVec 64) : BitVec 64 := (x * 11400714819323198485#64) ^^^ ((x * 11400714819323198485#64) >>> 32)
theorem mix_B {h n : Int} (h0 : 0 ≤ h) (h1 : h ≤ 18446744073709551615) (n0 : -9223372036854775808 ≤ n) (n1 : n ≤ 9223372036854775807) :
  mix h n = ((mixB (BitVec.ofNat 64 h.toNat ^^^ BitVec.ofNat 64 (zig n).toNat)).toNat : Int) := by
 have hz := zig_range n0 (show n < 9223372036854775808 by omega)
 obtain ⟨a, rfl⟩ := Int.eq_ofNat_of_zero_le h0
 obtain ⟨b, hb⟩ := Int.eq_ofNat_of_zero_le hz.1
 unfold mix mixB
 rw [hb, (bits_u64 a b (by omega) (by omega)).2.2]
 have hx : a ^^^ b < 2 ^ 64 := Nat.xor_lt_two_pow (by omega) (by omega)
 have e1 : IntKind.u64.wrap (((a ^^^ b : Nat) : Int) * 11400714819323198485) = (((a ^^^ b) * 11400714819323198485 % 18446744073709551616 : Nat) : Int) := by
  rw [wrap_u64]; omega
 rw [e1]
 have e2 : ((((a ^^^ b) * 11400714819323198485 % 18446744073709551616 : Nat) : Int)) / 4294967296 = (((a ^^^ b) * 11400714819323198485 % 18446744073709551616 / 4294967296 : Nat) : Int) := by omega
 rw [e2, (bits_u64 _ _ (by omega) (by omega)).2.2]
 have e3 : ((BitVec.ofNat 64 ((a : Int)).toNat ^^^ BitVec.ofNat 64 ((b : Int)).toNat) * 11400714819323198485#64).toNat = (a ^^^ b) * 11400714819323198485 % 18446744073709551616 := by
  rw [BitVec.toNat_mul, BitVec.toNat_xor, BitVec.toNat_ofNat, BitVec.toNat_ofNat, show ((a : Int)).toNat = a from rfl, show ((b : Int)).toNat = b from rfl, Nat.mod_eq_of_lt (show a < 2 ^ 64 by omega), Nat.mod_eq_of_lt (show b < 2 ^ 64 by omega)]
  rw [show (11400714819323198485#64).toNat = 11400714819323198485 by decide, show (2 : Nat) ^ 64 = 18446744073709551616 by decide]
 rw [BitVec.toNat_xor, BitVec.toNat_ushiftRight, e3, Nat.shiftRight_eq_div_pow, show (2 : Nat) ^ 32 = 4294967296 by decide]
end Go.Proofs.YtnlimplbmncdeaaDoor.Pack
namespace Go.Proofs.YtnlimplbmncdeaaDoor.Lex
open Go.RowKit Go.Proofs.YtnlimplbmncdeaaDoorW.PrintWords Go.Proofs.YtnlimplbmncdeaaDoorW.PrintMore Go.Proofs.YtnlimplbmncdeaaDoor.C Go.Proofs.YtnlimplbmncdeaaDoor.Str
theorem w64_id {n : Int} (h0 : -9223372036854775808 ≤ n) (h : n < 9223372036854775808) : wrap64 n = n := by unfold wrap64; omega
theorem wrap_u64 (n : Int) : IntKind.u64.wrap n = n % 18446744073709551616 := by simp [IntKind.wrap, IntKind.bits, IntKind.signed]
theorem u64_id {n : Int} (h0 : 0 ≤ n) (h : n < 18446744073709551616) : IntKind.u64.wrap n = n := by rw [wrap_u64]; omega
instance decBA : DecidableEq ByteArray := fun a b => if h : a.data = b.data then isTrue (by cases a; cases b; simp_all) else isFalse (fun e => h (by rw [e]))
def wordsL : List ByteArray := [(⟨#[97, 108, 108]⟩ : ByteArray), (⟨#[97, 110, 100]⟩ : ByteArray), (⟨#[97, 114, 111, 117, 110, 100]⟩ : ByteArray), (⟨#[98, 108, 111, 99, 107]⟩ : ByteArray), (⟨#[98, 111, 116, 116, 108, 101, 110, 101, 99, 107]⟩ : ByteArray), (⟨#[99, 111, 110, 110, 101, 99, 116, 101, 100]⟩ : ByteArray), (⟨#[99, 111, 117, 110, 116]⟩ : ByteArray), (⟨#[100, 101, 103, 114, 101, 101]⟩ : ByteArray), (⟨#[101, 108, 115, 101]⟩ : ByteArray), (⟨#[102, 97, 108, 115, 101]⟩ : ByteArray), (⟨#[105, 102]⟩ : ByteArray), (⟨#[105, 110]⟩ : ByteArray), (⟨#[108, 101, 97, 115, 116]⟩ : ByteArray), (⟨#[109, 97, 120]⟩ : ByteArray), (⟨#[109, 105, 110]⟩ : ByteArray), (⟨#[109, 111, 115, 116]⟩ : ByteArray), (⟨#[110, 111, 116]⟩ : ByteArray), (⟨#[111, 114]⟩ : ByteArray), (⟨#[114, 101, 112]⟩ : ByteArray), (⟨#[115, 105, 122, 101]⟩ : ByteArray), (⟨#[115, 111, 109, 101]⟩ : ByteArray), (⟨#[115, 117, 109]⟩ : ByteArray), (⟨#[116, 104, 101, 110]⟩ : ByteArray), (⟨#[116, 111, 116, 97, 108]⟩ : ByteArray), (⟨#[116, 114, 117, 101]⟩ : ByteArray), (⟨#[118, 97, 108, 117, 101]⟩ : ByteArray), (⟨#[118, 101, 114, 116, 105, 99, 101, 115]⟩ : ByteArray)]
theorem wordsL_len : wordsL.length = 27 := rfl
theorem isNaN_f (s : ByteArray) : cmp_isNaN_string.f s = some false := by unfold cmp_isNaN_string.f; simp
theorem isNaN_g (s : ByteArray) : slices_isNaN_string.f s = some false := by unfold slices_isNaN_string.f; simp
theorem less_f (a b : ByteArray) : cmp_Less_string.f a b = some (Op.bytesLess a.toList b.toList) := by
 unfold cmp_Less_string.f
 rw [isNaN_f]
 rfl
theorem bs_l0 (l : List ByteArray) (x : ByteArray) (n : Nat) (hn : l.length = n) (hl : n ≤ 1000) : ∀ (d i j k : Nat), i ≤ j → j ≤ n → j - i ≤ d → d < k →
  ∃ (p : Int) (b : Bool), slices_BinarySearch_string_string.l0 k l x (n : Int) (i : Int) (j : Int) = some (p, b) ∧ (b = true → x ∈ l) := by
 intro d
 induction d with
 | zero =>
  intro i j k hij hj hd hk
  obtain ⟨k, rfl⟩ : ∃ m, k = m + 1 := ⟨k - 1, by omega⟩
  simp only [slices_BinarySearch_string_string.l0]
  rw [if_neg (by omega)]
  by_cases h1 : (i : Int) < (n : Int)
  ·rw [if_pos h1, if_pos (by omega), if_pos (by omega)]
   by_cases h2 : (rdOf ByteArray.empty l (i : Int)).toList = x.toList
   ·rw [if_pos h2]
    refine ⟨_, _, rfl, fun _ => ?_⟩
    rw [toList_iff] at h2
    rw [← h2]
    unfold rdOf
    rw [show ((i : Int)).toNat = i from rfl]
    have hi : i < l.length := by omega
    simp [List.getD, hi]
   ·rw [if_neg h2, isNaN_g]
    exact ⟨_, false, rfl, fun h => by cases h⟩
  ·rw [if_neg h1]
   exact ⟨_, false, rfl, fun h => by cases h⟩
 | succ d ih =>
  intro i j k hij hj hd hk
  by_cases hlt : i < j
  ·obtain ⟨k, rfl⟩ : ∃ m, k = m + 1 := ⟨k - 1, by omega⟩
   simp only [slices_BinarySearch_string_string.l0]
   have e1 : wrap64 ((IntKind.u64.wrap (wrap64 ((i : Int) + (j : Int)))) / 2) = (((i + j) / 2 : Nat) : Int) := by
    rw [w64_id (n := (i : Int) + (j : Int)) (by omega) (by omega), u64_id (by omega) (by omega), w64_id (by omega) (by omega)]; omega
   rw [if_pos (by omega), e1, if_pos (by omega), if_pos (by omega), less_f]
   simp only [Option.bind_some]
   by_cases hb : Op.bytesLess (rdOf ByteArray.empty l (((i + j) / 2 : Nat) : Int)).toList x.toList = true
   ·rw [if_pos hb, show wrap64 ((((i + j) / 2 : Nat) : Int) + 1) = (((i + j) / 2 + 1 : Nat) : Int) from (w64_id (by omega) (by omega)).trans (by omega)]
    exact ih ((i + j) / 2 + 1) j k (by omega) (by omega) (by omega) (by omega)
   ·rw [if_neg hb]
    exact ih i ((i + j) / 2) k (by omega) (by omega) (by omega) (by omega)
  ·exact ih i j k hij hj (by omega) (by omega)
theorem word_yes : ∀ x ∈ wordsL, lex_isWord.f 30 x = some true := by
 intro x hx
 simp only [wordsL, List.mem_cons, List.not_mem_nil, or_false] at hx
 rcases hx with rfl | rfl | rfl | rfl | rfl | rfl | rfl | rfl | rfl | rfl | rfl | rfl | rfl | rfl | rfl | rfl | rfl | rfl | rfl | rfl | rfl | rfl | rfl | rfl | rfl | rfl | rfl
 all_goals decide +kernel
def isW (s : ByteArray) : Bool := wordsL.any fun x => decide (x = s)
theorem isW_iff (s : ByteArray) : isW s = true ↔ s ∈ wordsL := by
 unfold isW
 rw [List.any_eq_true]
 constructor
 ·rintro ⟨x, hx, h⟩
  rw [← of_decide_eq_true h]; exact hx
 ·intro h
  exact ⟨s, h, decide_eq_true rfl⟩
theorem isWord_f (s : ByteArray) {k : Nat} (hk : 30 ≤ k) : lex_isWord.f k s = some (isW s) := by
 by_cases h : s ∈ wordsL
 ·rw [at_rounds (lex_isWord.mono s) hk (word_yes s h), (isW_iff s).2 h]
 ·obtain ⟨p, b, hp, hb⟩ := bs_l0 wordsL s 27 wordsL_len (by omega) 27 0 27 k (by omega) (by omega) (by omega) (by omega)
  have e : lex_isWord.f k s = some b := by
   unfold lex_isWord.f slices_BinarySearch_string_string.f
   show (slices_BinarySearch_string_string.l0 k wordsL s (27 : Int) 0 (27 : Int)).bind (fun bt113 => some bt113.2) = some b
   have hp' : slices_BinarySearch_string_string.l0 k wordsL s (27 : Int) 0 (27 : Int) = some (p, b) := hp
   rw [hp', bs]
  have hw : isW s = false := by
   cases hv : isW s with
   | false => rfl
   | true => exact absurd ((isW_iff s).1 hv) h
  rw [e, hw]
  cases b with
  | false => rfl
  | true => exact absurd (hb rfl) h
theorem refWord_l0 (x : ByteArray) (l : List ByteArray) (hl : l.length ≤ 1000) : ∀ (d i k : Nat), i + d = l.length → d < k → isthmusref11_Word.l0 k x l (i : Int) = some ((l.drop i).any fun y => decide (y = x)) := by
 intro d
 induction d with
 | zero =>
  intro i k hi hk
  obtain ⟨k, rfl⟩ : ∃ m, k = m + 1 := ⟨k - 1, by omega⟩
  simp only [isthmusref11_Word.l0]
  rw [if_neg (by omega), List.drop_eq_nil_of_le (by omega)]
  simp
 | succ d ih =>
  intro i k hi hk
  obtain ⟨k, rfl⟩ : ∃ m, k = m + 1 := ⟨k - 1, by omega⟩
  simp only [isthmusref11_Word.l0]
  have hlt : i < l.length := by omega
  have er : rdOf ByteArray.empty l (i : Int) = l[i] := by
   unfold rdOf
   rw [show ((i : Int)).toNat = i from rfl]
   simp [List.getD, hlt]
  rw [if_pos (by omega), if_pos (by omega), er, List.drop_eq_getElem_cons hlt]
  by_cases h : l[i].toList = x.toList
  ·rw [if_pos h]
   rw [toList_iff] at h
   simp [List.any_cons, h]
  ·rw [if_neg h, show wrap64 ((i : Int) + 1) = ((i + 1 : Nat) : Int) from (w64_id (by omega) (by omega)).trans (by omega), ih (i + 1) k (by omega) (by omega)]
   rw [toList_iff] at h
   rw [List.any_cons, decide_eq_false h, Bool.false_or]
theorem ref_word (s : ByteArray) {k : Nat} (hk : 30 ≤ k) : isthmusref11_Word.f k s = some (isW s) := by
 unfold isthmusref11_Word.f
 exact refWord_l0 s wordsL (by rw [wordsL_len]; omega) 27 0 k (by rw [wordsL_len]) (by omega)
end Go.Proofs.YtnlimplbmncdeaaDoor.Lex
namespace Go.Proofs.YtnlimplbmncdeaaDoor.Lex
open Go.RowKit Go.Proofs.YtnlimplbmncdeaaDoorW.PrintWords Go.Proofs.YtnlimplbmncdeaaDoorW.PrintMore Go.Proofs.YtnlimplbmncdeaaDoor.C Go.Proofs.YtnlimplbmncdeaaDoor.Str
def dg (c : Int) : Bool := decide (48 ≤ c ∧ c ≤ 57)
def sm (c : Int) : Bool := decide (97 ≤ c ∧ c ≤ 122)
def gr (c : Int) : Bool := decide (65 ≤ c ∧ c ≤ 90)
def wd (c : Int) : Bool := dg c || sm c || gr c || decide (c = 95)
def blk (c : Int) : Bool := decide (c = 32 ∨ c = 9 ∨ c = 10 ∨ c = 13)
def nameOK (s : ByteArray) : Bool := nmAll s && decide (1 ≤ s.size ∧ s.size ≤ 12) && !isW s
theorem isName_f (s : ByteArray) {k : Nat} (hk : 30 ≤ k) : lex_IsName.f k s = some (nameOK s) := by
 unfold lex_IsName.f nameOK
 rw [isWord_f s hk]
 by_cases h1 : nmAll s = true
 ·rw [if_pos h1, h1]
  by_cases h2 : (s.size : Int) ≥ 1
  ·rw [if_pos h2]
   by_cases h3 : (s.size : Int) ≤ 12
   ·rw [if_pos h3, bs, decide_eq_true (by omega)]; simp
   ·rw [if_neg h3, decide_eq_false (by omega)]; simp
  ·rw [if_neg h2, decide_eq_false (by omega)]; simp
 ·rw [if_neg h1]
  simp only [Bool.not_eq_true] at h1
  rw [h1]; simp
end Go.Proofs.YtnlimplbmncdeaaDoor.Lex
namespace Go.Proofs.YtnlimplbmncdeaaDoor.Code
open Go.RowKit Go.Proofs.YtnlimplbmncdeaaDoorW.PrintWords Go.Proofs.YtnlimplbmncdeaaDoorW.PrintMore Go.Proofs.YtnlimplbmncdeaaDoor.C Go.Proofs.YtnlimplbmncdeaaDoor.Pack Go.Proofs.YtnlimplbmncdeaaDoor.Lex Go.Proofs.YtnlimplbmncdeaaDoor.Str
theorem place_f (a n : Int) : code_place.f a n = some (decide (0 ≤ a ∧ a < n)) := by
 unfold code_place.f
 by_cases h : 0 ≤ a
 ·rw [if_pos h]; congr 1; simp [h]
 ·rw [if_neg h]; congr 1; simp [h]
theorem within_f (a n : Int) : isthmusref18_within.f a n = some (decide (0 ≤ a ∧ a < n)) := by
 unfold isthmusref18_within.f
 by_cases h : 0 ≤ a
 ·rw [if_pos h]; congr 1; simp [h]
 ·rw [if_neg h]; congr 1; simp [h]
def kdOK (x : Int) : Bool := decide (1 ≤ x ∧ x ≤ 3)
theorem kind_f (x : Int) : code_kind.f x = some (kdOK x) := by
 unfold code_kind.f kdOK
 by_cases h : 1 ≤ x
 ·rw [if_pos h]; congr 1; simp [h]
 ·rw [if_neg h]; congr 1; simp [h]
theorem ref_kind (x : Int) : isthmusref18_kind.f x = some (kdOK x) := by
 unfold isthmusref18_kind.f kdOK
 by_cases h : 1 ≤ x
 ·rw [if_pos h]; congr 1; simp [h]
 ·rw [if_neg h]; congr 1; simp [h]
def opOK (cs : List Int) (n2 n3 : Int) (op a b : Int) : Bool :=
 if op = 1 then decide (0 ≤ a ∧ a < (cs.length : Int)) && (decide (b = 1) || (decide (b = 2) && decide (0 ≤ rd cs a ∧ rd cs a < 2)))
 else if op = 2 then decide (0 ≤ a ∧ a < (cs.length : Int)) && (decide (0 ≤ rd cs a) && decide (b = 0))
 else if op = 3 then decide (a ≤ 3) && decide (b = 0)
 else if op = 11 then decide (a = 0) && kdOK b
 else if op = 12 then decide (a = 0) && decide (b ≤ 1)
 else if op = 13 then decide (b = 0) else if op = 14 then decide (b = 0) else if op = 15 then decide (b = 0) else if op = 24 then decide (b = 0)
 else if op = 16 then decide (1 ≤ a ∧ a ≤ 10) && decide (b = 0)
 else if op = 17 then decide (0 ≤ a ∧ a < n3)
 else if op = 18 then decide (0 ≤ a ∧ a < n3) && decide (b = 0) else if op = 19 then decide (0 ≤ a ∧ a < n3) && decide (b = 0)
 else if op = 21 then decide (0 ≤ a ∧ a < n2) && decide (b = 0)
 else if op = 23 then decide (a ≤ 1024) && decide (b = 0)
 else if op = 26 then decide (a ≤ 1) && decide (b = 0)
 else decide (op ≤ 27) && (decide (a = 0) && decide (b = 0))
def wOK (cs : List Int) (ns : List ByteArray) (ks : List Int) (x : Int) : Bool := opOK cs ns.length ks.length (x / 72057594037927936) (x / 268435456 % 268435456) (x % 268435456)
theorem may_f (ws cs : List Int) (ns : List ByteArray) (ks : List Int) {x : Int} (h0 : 0 ≤ x) (h1 : x ≤ 18446744073709551615) {k : Nat} (hk : 3 ≤ k) : code_may.f k ws cs ns ks x = some (wOK cs ns ks x) := by
 unfold code_may.f wOK
 rw [parts_f h0 h1, bs]
 have ha0 : 0 ≤ x / 268435456 % 268435456 := by omega
 have hb0 : 0 ≤ x % 268435456 := by omega
 have hop : 0 ≤ x / 72057594037927936 := by omega
 generalize x / 72057594037927936 = op at *
 generalize x / 268435456 % 268435456 = a at *
 generalize x % 268435456 = b at *
 clear h0 h1
 obtain ⟨k, rfl⟩ : ∃ m, k = m + 2 := ⟨k - 2, by omega⟩
 simp only [place_f, kind_f, Option.bind_some]
 unfold opOK
 by_cases c1 : op = 1
 ·subst c1
  simp only [if_true]
  by_cases d : 0 ≤ a ∧ a < (cs.length : Int)
  ·simp only [d, decide_true, if_true, and_self, Bool.true_and]
   by_cases e1 : b = 1
   ·subst e1; simp
   ·by_cases e2 : b = 2
    ·subst e2; simp
    ·simp [e1, e2]
  ·simp [d]
 rw [if_neg c1, if_neg c1]
 by_cases c11 : op = 11
 ·subst c11
  by_cases d : a = 0 <;> simp [d]
 rw [if_neg c11]
 by_cases c12 : op = 12
 ·subst c12
  by_cases d : a = 0 <;> simp [d]
 rw [if_neg c12]
 by_cases c17 : op = 17
 ·subst c17
  simp
 rw [if_neg c17]
 by_cases hb : b = 0
 case neg =>
  rw [if_neg hb]
  simp [hb, c11, c12, c17]
 rw [if_pos hb]
 subst hb
 by_cases c2 : op = 2
 ·subst c2
  by_cases d : 0 ≤ a ∧ a < (cs.length : Int)
  ·simp [d]
  ·simp [d]
 rw [if_neg c2, if_neg c2]
 by_cases c3 : op = 3
 ·subst c3
  simp only [if_true]
  congr 1
  simp
  omega
 rw [if_neg c3, if_neg c3, if_neg c11, if_neg c12]
 by_cases c13 : op = 13
 ·subst c13; simp [code_may.j0]
 by_cases c14 : op = 14
 ·subst c14; simp [code_may.j0]
 by_cases c15 : op = 15
 ·subst c15; simp [code_may.j0]
 rw [if_neg c13, if_neg c14, if_neg c15, if_neg c13, if_neg c14, if_neg c15]
 simp only [code_may.j0, code_may.j1, place_f, Option.bind_some, beq_iff_eq]
 by_cases c24 : op = 24
 ·subst c24; simp
 rw [if_neg c24, if_neg c24]
 by_cases c16 : op = 16
 ·subst c16
  by_cases d : 1 ≤ a <;> simp [d]
 rw [if_neg c16, if_neg c16, if_neg c17]
 by_cases c18 : op = 18
 ·subst c18; simp
 rw [if_neg c18, if_neg c18]
 by_cases c19 : op = 19
 ·subst c19; simp
 rw [if_neg c19, if_neg c19]
 by_cases c21 : op = 21
 ·subst c21; simp
 rw [if_neg c21, if_neg c21]
 by_cases c23 : op = 23
 ·subst c23; simp
 rw [if_neg c23, if_neg c23]
 by_cases c26 : op = 26
 ·subst c26; simp
 rw [if_neg c26, if_neg c26]
 by_cases d : a = 0 <;> simp [d]
theorem ref_word (ws cs : List Int) (ns : List ByteArray) (ks : List Int) {x : Int} (h0 : 0 ≤ x) (h1 : x ≤ 18446744073709551615) {k : Nat} (hk : 3 ≤ k) : isthmusref18_word.f k ws cs ns ks x = some (wOK cs ns ks x) := by
 unfold isthmusref18_word.f wOK
 rw [ref_parts h0 h1, bs]
 have ha0 : 0 ≤ x / 268435456 % 268435456 := by omega
 have hb0 : 0 ≤ x % 268435456 := by omega
 have hop : 0 ≤ x / 72057594037927936 := by omega
 generalize x / 72057594037927936 = op at *
 generalize x / 268435456 % 268435456 = a at *
 generalize x % 268435456 = b at *
 clear h0 h1
 obtain ⟨k, rfl⟩ : ∃ m, k = m + 2 := ⟨k - 2, by omega⟩
 simp only [within_f, ref_kind, Option.bind_some]
 unfold opOK
 by_cases c1 : op = 1
 ·subst c1
  simp only [if_true]
  by_cases d : 0 ≤ a ∧ a < (cs.length : Int)
  ·simp only [d, decide_true, if_true, and_self, Bool.true_and]
   by_cases e1 : b = 1
   ·subst e1; simp
   ·by_cases e2 : b = 2
    ·subst e2; simp
    ·simp [e1, e2]
  ·simp [d]
 rw [if_neg c1, if_neg c1]
 by_cases c2 : op = 2
 ·subst c2
  by_cases d : 0 ≤ a ∧ a < (cs.length : Int)
  ·by_cases e : 0 ≤ rd cs a <;> simp [d, e] <;> rfl
  ·simp [d]
 rw [if_neg c2, if_neg c2]
 by_cases c3 : op = 3
 ·subst c3
  by_cases d : a ≤ 3 <;> simp [d] <;> rfl
 rw [if_neg c3, if_neg c3]
 by_cases c11 : op = 11
 ·subst c11
  by_cases d : a = 0 <;> simp [d]
 rw [if_neg c11, if_neg c11]
 by_cases c12 : op = 12
 ·subst c12
  by_cases d : a = 0 <;> simp [d]
 rw [if_neg c12, if_neg c12]
 by_cases c13 : op = 13
 ·subst c13; simp [isthmusref18_word.j0] <;> rfl
 by_cases c14 : op = 14
 ·subst c14; simp [isthmusref18_word.j0] <;> rfl
 by_cases c15 : op = 15
 ·subst c15; simp [isthmusref18_word.j0] <;> rfl
 rw [if_neg c13, if_neg c14, if_neg c15, if_neg c13, if_neg c14, if_neg c15]
 simp only [isthmusref18_word.j0, isthmusref18_word.j1, within_f, Option.bind_some, beq_iff_eq]
 have hbb : (b == 0) = decide (b = 0) := rfl
 rw [hbb]
 by_cases c24 : op = 24
 ·subst c24; simp
 rw [if_neg c24, if_neg c24]
 by_cases c16 : op = 16
 ·subst c16
  by_cases d : 1 ≤ a <;> by_cases e : a ≤ 10 <;> simp [d, e]
 rw [if_neg c16, if_neg c16]
 by_cases c17 : op = 17
 ·subst c17; simp
 rw [if_neg c17, if_neg c17]
 by_cases c18 : op = 18
 ·subst c18
  by_cases d : 0 ≤ a ∧ a < (ks.length : Int) <;> simp [d]
 rw [if_neg c18, if_neg c18]
 by_cases c19 : op = 19
 ·subst c19
  by_cases d : 0 ≤ a ∧ a < (ks.length : Int) <;> simp [d]
 rw [if_neg c19, if_neg c19]
 by_cases c21 : op = 21
 ·subst c21
  by_cases d : 0 ≤ a ∧ a < (ns.length : Int) <;> simp [d]
 rw [if_neg c21, if_neg c21]
 by_cases c23 : op = 23
 ·subst c23
  by_cases d : a ≤ 1024 <;> simp [d]
 rw [if_neg c23, if_neg c23]
 by_cases c26 : op = 26
 ·subst c26
  by_cases d : a ≤ 1 <;> simp [d]
 rw [if_neg c26, if_neg c26]
 by_cases d : a = 0 <;> by_cases e : op ≤ 27
 ·simp [d, e, show op < 28 by omega]
 ·simp [d, e, show ¬ op < 28 by omega]
 ·simp [d, e, show op < 28 by omega]
 ·simp [d, e, show ¬ op < 28 by omega]
end Go.Proofs.YtnlimplbmncdeaaDoor.Code
namespace Go.Proofs.YtnlimplbmncdeaaDoor.Code
open Go.RowKit Go.Proofs.YtnlimplbmncdeaaDoorW.PrintWords Go.Proofs.YtnlimplbmncdeaaDoorW.PrintMore Go.Proofs.YtnlimplbmncdeaaDoor.C Go.Proofs.YtnlimplbmncdeaaDoor.Pack Go.Proofs.YtnlimplbmncdeaaDoor.Lex Go.Proofs.YtnlimplbmncdeaaDoor.Str
def U64 (l : List Int) : Prop := ∀ x ∈ l, 0 ≤ x ∧ x ≤ 18446744073709551615
def I64 (l : List Int) : Prop := ∀ x ∈ l, -9223372036854775808 ≤ x ∧ x ≤ 9223372036854775807
def rightS (ws cs : List Int) (ns : List ByteArray) (ks : List Int) : Bool :=
 decide (1 ≤ ws.length ∧ ws.length ≤ 32768 ∧ cs.length ≤ 32768 ∧ ns.length ≤ 2000 ∧ ks.length ≤ 256) && (ns.all nameOK && (ks.all kdOK && ws.all (wOK cs ns ks)))
theorem right_f (ws cs : List Int) (ns : List ByteArray) (ks : List Int) (hw : U64 ws) {k : Nat} (hk : 30 ≤ k) : code_Right.f k ws cs ns ks = some (rightS ws cs ns ks) := by
 unfold code_Right.f rightS
 by_cases c : 1 ≤ ws.length ∧ ws.length ≤ 32768 ∧ cs.length ≤ 32768 ∧ ns.length ≤ 2000 ∧ ks.length ≤ 256
 ·rw [if_pos c]
  have e1 : (ns.all fun s => (lex_IsName.f k s).isSome) = true := List.all_eq_true.2 fun s _ => by rw [isName_f s hk]; rfl
  have e2 : (ws.all fun x => (code_may.f k ws cs ns ks x).isSome) = true := List.all_eq_true.2 fun x hx => by rw [may_f ws cs ns ks (hw x hx).1 (hw x hx).2 (by omega)]; rfl
  rw [if_pos ⟨e1, e2⟩]
  have f1 : ns.any (nmP k) = !ns.all nameOK := by
   rw [List.not_all_eq_any_not]
   congr 1
   funext s
   unfold nmP
   rw [isName_f s hk]
   rfl
  have f2 : ks.any kdP = !ks.all kdOK := by
   rw [List.not_all_eq_any_not]
   congr 1
   funext s
   unfold kdP
   rw [kind_f]
   rfl
  have f3 : ws.any (wdP k ws cs ns ks) = !ws.all (wOK cs ns ks) := by
   rw [List.not_all_eq_any_not, Bool.eq_iff_iff, List.any_eq_true, List.any_eq_true]
   constructor <;> rintro ⟨x, hx, hp⟩ <;> refine ⟨x, hx, ?_⟩ <;> unfold wdP at * <;> rw [may_f ws cs ns ks (hw x hx).1 (hw x hx).2 (by omega)] at * <;> exact hp
  rw [f1, f2, f3]
  simp [c]
 ·rw [if_neg c]
  simp [c]
theorem rdi (l : List Int) (i : Nat) (h : i < l.length) : rd l (i : Int) = l[i] := by simp [rd, List.getD, h]
theorem w1 {i : Nat} (h : i < 1000000) : wrap64 ((i : Int) + 1) = ((i + 1 : Nat) : Int) := by rw [w64_id (by omega) (by omega)]; omega
end Go.Proofs.YtnlimplbmncdeaaDoor.Code
namespace Go.Proofs.YtnlimplbmncdeaaDoor.Code
open Go.RowKit Go.Proofs.YtnlimplbmncdeaaDoorW.PrintWords Go.Proofs.YtnlimplbmncdeaaDoorW.PrintMore Go.Proofs.YtnlimplbmncdeaaDoor.C Go.Proofs.YtnlimplbmncdeaaDoor.PackBits Go.Proofs.YtnlimplbmncdeaaDoor.Sevens Go.Proofs.YtnlimplbmncdeaaDoor.Pack Go.Proofs.YtnlimplbmncdeaaDoor.Lex Go.Proofs.YtnlimplbmncdeaaDoor.Str
def sv (u : Int) : List Int := sev u.toNat
def nb (s : ByteArray) : List Int := sv (s.size : Int) ++ bytesOf s
def laidT (ws cs : List Int) (ns : List ByteArray) (ks rest : List Int) : List Int :=
 sv (ws.length : Int) ++ (ws.flatMap sv ++ (sv (cs.length : Int) ++ ((cs.map zig).flatMap sv ++ (sv (ns.length : Int) ++ (ns.flatMap nb ++ (sv (ks.length : Int) ++ (ks.flatMap sv ++ rest)))))))
def laidS (ws cs : List Int) (ns : List ByteArray) (ks : List Int) : List Int := [73, 67, 49] ++ laidT ws cs ns ks []
theorem laidT_app (ws cs : List Int) (ns : List ByteArray) (ks a b : List Int) : laidT ws cs ns ks (a ++ b) = laidT ws cs ns ks a ++ b := by
 unfold laidT
 simp only [List.append_assoc]
theorem sv_len {u : Int} (h : u ≤ 18446744073709551615) : (sv u).length ≤ 10 := sev_length_le 9 u.toNat (by omega)
theorem sv_bytes (u : Int) : ∀ x ∈ sv u, 0 ≤ x ∧ x < 256 := sev_bytes _
theorem put_sv {u : Int} (h0 : 0 ≤ u) (h : u ≤ 18446744073709551615) {k : Nat} (hk : 10 ≤ k) : pack_Put.f k u = some (strOfNums (sv u)) := by
 obtain ⟨m, rfl⟩ := Int.eq_ofNat_of_zero_le h0
 exact put_f (by omega) hk
theorem sv_out (u : Int) : bytesOf (strOfNums (sv u)) = sv u := bytes_nums (sv_bytes u)
theorem sv_size (u : Int) : (strOfNums (sv u)).size = (sv u).length := strOfNums_size _
theorem sv_pos (u : Int) : 0 < (sv u).length := sev_pos _
theorem numO_f {u : Int} (h0 : 0 ≤ u) (h : u ≤ 18446744073709551615) {k : Nat} (hk : 10 ≤ k) {b : List Int} (hb : b.length + 10 < 140737488355328) : numO k b u = some (b ++ sv u) := by
 unfold numO
 rw [put_sv h0 h hk, bs, sv_size, sv_out]
 have := sv_pos u
 have := sv_len h
 rw [if_pos ⟨by omega, by omega⟩]
theorem fm_len : ∀ (l : List Int), U64 l → (l.flatMap sv).length ≤ 10 * l.length
 | [], _ => by simp
 | x :: t, h => by
  have h1 := sv_len (h x (List.mem_cons_self ..)).2
  have h2 := fm_len t (fun y hy => h y (List.mem_cons_of_mem _ hy))
  rw [List.flatMap_cons, List.length_append, List.length_cons]
  omega
theorem numsO_f {k : Nat} (hk : 10 ≤ k) : ∀ (l b : List Int), U64 l → b.length + 10 * l.length + 10 < 140737488355328 → numsO k b l = some (b ++ l.flatMap sv)
 | [], b, _, _ => by rw [numsO]; simp
 | x :: t, b, h, hb => by
  have hx := h x (List.mem_cons_self ..)
  rw [List.length_cons] at hb
  have := sv_len hx.2
  rw [numsO, numO_f hx.1 hx.2 hk (by omega), bs, numsO_f hk t _ (fun y hy => h y (List.mem_cons_of_mem _ hy)) (by rw [List.length_append]; omega), List.flatMap_cons, List.append_assoc]
def NM (l : List ByteArray) : Prop := ∀ s ∈ l, 1 ≤ s.size ∧ s.size ≤ 12
theorem nb_len {s : ByteArray} (h : s.size ≤ 12) : (nb s).length ≤ 22 := by
 have := sv_len (u := (s.size : Int)) (by omega)
 unfold nb
 rw [List.length_append, bytesOf_length]
 omega
theorem nm_len : ∀ (l : List ByteArray), NM l → (l.flatMap nb).length ≤ 22 * l.length
 | [], _ => by simp
 | x :: t, h => by
  have h1 := nb_len (h x (List.mem_cons_self ..)).2
  have h2 := nm_len t (fun y hy => h y (List.mem_cons_of_mem _ hy))
  rw [List.flatMap_cons, List.length_append, List.length_cons]
  omega
theorem u64w {n : Nat} (h : n < 18446744073709551616) : IntKind.u64.wrap (n : Int) = (n : Int) := PackBits.u64_id (by omega) (by omega)
theorem strsO_f {k : Nat} (hk : 10 ≤ k) : ∀ (l : List ByteArray) (b : List Int), NM l → b.length + 22 * l.length + 10 < 140737488355328 → strsO k b l = some (b ++ l.flatMap nb)
 | [], b, _, _ => by rw [strsO]; simp
 | x :: t, b, h, hb => by
  have hx := h x (List.mem_cons_self ..)
  rw [List.length_cons] at hb
  have := sv_len (u := (x.size : Int)) (by omega)
  have e : (b ++ sv (x.size : Int)).length = b.length + (sv (x.size : Int)).length := List.length_append ..
  rw [strsO, u64w (by omega), numO_f (by omega) (by omega) hk (by omega), bs, if_pos ⟨by omega, by omega⟩, strsO_f hk t _ (fun y hy => h y (List.mem_cons_of_mem _ hy)) (by rw [List.length_append, e, bytesOf_length]; omega), List.flatMap_cons]
  unfold nb
  simp only [List.append_assoc]
structure Lays (ws cs : List Int) (ns : List ByteArray) (ks : List Int) : Prop where
 w : U64 ws
 c : I64 cs
 n : NM ns
 k : ∀ x ∈ ks, 1 ≤ x ∧ x ≤ 3
 l0 : ws.length ≤ 32768
 l1 : cs.length ≤ 32768
 l2 : ns.length ≤ 2000
 l3 : ks.length ≤ 256
theorem zigs {cs : List Int} (h : I64 cs) : U64 (cs.map zig) := by
 intro x hx
 obtain ⟨y, hy, rfl⟩ := List.mem_map.1 hx
 have := zig_range (h y hy).1 (show y < 9223372036854775808 by have := (h y hy).2; omega)
 omega
theorem zigV_eq {cs : List Int} (h : I64 cs) : cs.map zigV = cs.map zig := List.map_congr_left fun x hx => by
 unfold zigV
 rw [zig_f (h x hx).1 (h x hx).2]
 rfl
theorem Lays.ku {ws cs : List Int} {ns : List ByteArray} {ks : List Int} (h : Lays ws cs ns ks) : U64 ks := fun x hx => by have := h.k x hx; omega
theorem Lays.kw {ws cs : List Int} {ns : List ByteArray} {ks : List Int} (h : Lays ws cs ns ks) : (ks.map fun x => IntKind.u64.wrap x) = ks := by
 conv => rhs; rw [← List.map_id ks]
 exact List.map_congr_left fun x hx => by have := h.k x hx; exact PackBits.u64_id (by omega) (by omega)
theorem laid_f {ws cs : List Int} {ns : List ByteArray} {ks : List Int} (h : Lays ws cs ns ks) {k : Nat} (hk : 10 ≤ k) : code_laid.f k ws cs ns ks = some (laidS ws cs ns ks) := by
 have l0 := h.l0; have l1 := h.l1; have l2 := h.l2; have l3 := h.l3
 have s0 := sv_len (u := (ws.length : Int)) (by omega)
 have s1 := sv_len (u := (cs.length : Int)) (by omega)
 have s2 := sv_len (u := (ns.length : Int)) (by omega)
 have s3 := sv_len (u := (ks.length : Int)) (by omega)
 have f0 := fm_len ws h.w
 have f1 := fm_len (cs.map zig) (zigs h.c)
 rw [List.length_map] at f1
 have f2 := nm_len ns h.n
 unfold code_laid.f
 rw [numO_f (by omega) (by omega) hk (by simp), bs, numsO_f hk ws _ h.w (by simp only [List.length_append, List.length_cons, List.length_nil]; omega), bs, numO_f (by omega) (by omega) hk (by simp only [List.length_append, List.length_cons, List.length_nil]; omega), bs, zigV_eq h.c, numsO_f hk _ _ (zigs h.c) (by simp only [List.length_append, List.length_cons, List.length_nil, List.length_map]; omega), bs,
  numO_f (by omega) (by omega) hk (by simp only [List.length_append, List.length_cons, List.length_nil]; omega), bs, strsO_f hk ns _ h.n (by simp only [List.length_append, List.length_cons, List.length_nil]; omega), bs, numO_f (by omega) (by omega) hk (by simp only [List.length_append, List.length_cons, List.length_nil]; omega), bs,
  h.kw, numsO_f hk ks _ h.ku (by simp only [List.length_append, List.length_cons, List.length_nil]; omega)]
 unfold laidS laidT
 simp only [List.append_assoc, List.append_nil]
theorem laidS_len {ws cs : List Int} {ns : List ByteArray} {ks : List Int} (h : Lays ws cs ns ks) : (laidS ws cs ns ks).length ≤ 800000 := by
 have l0 := h.l0; have l1 := h.l1; have l2 := h.l2; have l3 := h.l3
 have s0 := sv_len (u := (ws.length : Int)) (by omega)
 have s1 := sv_len (u := (cs.length : Int)) (by omega)
 have s2 := sv_len (u := (ns.length : Int)) (by omega)
 have s3 := sv_len (u := (ks.length : Int)) (by omega)
 have f0 := fm_len ws h.w
 have f1 := fm_len (cs.map zig) (zigs h.c)
 rw [List.length_map] at f1
 have f2 := nm_len ns h.n
 have f3 := fm_len ks h.ku
 unfold laidS laidT
 simp only [List.length_append, List.length_cons, List.length_nil]
 omega
def BY (l : List Int) : Prop := ∀ x ∈ l, 0 ≤ x ∧ x < 256
def sumS (l : List Int) : Int := l.foldl mix 0
theorem sum_l0 (l : List Int) (hl : BY l) (hn : l.length < 1000000) : ∀ (d i k : Nat) (h : Int), i + d = l.length → d < k → code_sum.l0 k h l (l.length : Int) (i : Int) = some ((l.drop i).foldl mix h) := by
 intro d
 induction d with
 | zero =>
  intro i k h hi hk
  obtain ⟨k, rfl⟩ : ∃ m, k = m + 1 := ⟨k - 1, by omega⟩
  rw [code_sum.l0, if_neg (by omega), List.drop_eq_nil_of_le (by omega)]
  rfl
 | succ d ih =>
  intro i k h hi hk
  obtain ⟨k, rfl⟩ : ∃ m, k = m + 1 := ⟨k - 1, by omega⟩
  have hlt : i < l.length := by omega
  have hx := hl _ (List.getElem_mem hlt)
  rw [code_sum.l0, if_pos (by omega), if_pos (Int.natCast_nonneg i), if_pos (by omega), rdi l i hlt, Lex.w64_id (by omega) (by omega), mix_f (by omega) (by omega), bs, w1 (by omega), ih (i + 1) k _ (by omega) (by omega), List.drop_eq_getElem_cons hlt]
  rfl
theorem sum_f {l : List Int} (hl : BY l) (hn : l.length < 1000000) {k : Nat} (hk : 1000000 ≤ k) : code_sum.f k l = some (sumS l) := by
 unfold code_sum.f
 rw [show (0 : Int) = ((0 : Nat) : Int) from rfl, sum_l0 l hl hn l.length 0 k _ (by omega) (by omega)]
 rfl
theorem sum_range : ∀ (l : List Int) (h : Int), BY l → 0 ≤ h ∧ h ≤ 18446744073709551615 → 0 ≤ l.foldl mix h ∧ l.foldl mix h ≤ 18446744073709551615
 | [], _, _, hh => hh
 | x :: t, h, hl, hh => by
  have hx := hl x (List.mem_cons_self ..)
  refine sum_range t _ (fun y hy => hl y (List.mem_cons_of_mem _ hy)) ?_
  rw [mix_B hh.1 hh.2 (by omega) (by omega)]
  have := (mixB (BitVec.ofNat 64 h.toNat ^^^ BitVec.ofNat 64 (zig x).toNat)).isLt
  omega
theorem sumS_range {l : List Int} (hl : BY l) : 0 ≤ sumS l ∧ sumS l ≤ 18446744073709551615 := sum_range l 0 hl (by omega)
theorem BY.app {a b : List Int} (ha : BY a) (hb : BY b) : BY (a ++ b) := fun x hx => (List.mem_append.1 hx).elim (ha x) (hb x)
theorem BY.fm {α : Type} (f : α → List Int) (h : ∀ x, BY (f x)) (l : List α) : BY (l.flatMap f) := fun x hx => by
 obtain ⟨y, _, hy⟩ := List.mem_flatMap.1 hx
 exact h y x hy
theorem nb_bytes (s : ByteArray) : BY (nb s) := BY.app (sv_bytes _) (bytes_range s)
theorem laidT_bytes (ws cs : List Int) (ns : List ByteArray) (ks : List Int) {rest : List Int} (hr : BY rest) : BY (laidT ws cs ns ks rest) :=
 BY.app (sv_bytes _) (BY.app (BY.fm sv sv_bytes _) (BY.app (sv_bytes _) (BY.app (BY.fm sv sv_bytes _) (BY.app (sv_bytes _) (BY.app (BY.fm nb nb_bytes _) (BY.app (sv_bytes _) (BY.app (BY.fm sv sv_bytes _) hr)))))))
theorem laidS_bytes (ws cs : List Int) (ns : List ByteArray) (ks : List Int) : BY (laidS ws cs ns ks) :=
 BY.app (by intro x hx; simp at hx; omega) (laidT_bytes ws cs ns ks (fun x hx => by simp at hx))
def le : Nat → Int → List Int
 | 0, _ => []
 | n + 1, h => h % 256 :: le n (h / 256)
theorem le_len : ∀ (n : Nat) (h : Int), (le n h).length = n
 | 0, _ => rfl
 | n + 1, h => by rw [le, List.length_cons, le_len n]
theorem le_bytes : ∀ (n : Nat) (h : Int), BY (le n h)
 | 0, _ => fun x hx => by simp [le] at hx
 | n + 1, h => fun x hx => by
  rw [le, List.mem_cons] at hx
  rcases hx with rfl | hx
  ·omega
  ·exact le_bytes n _ x hx
theorem p8 (i : Nat) : (2 : Int) ^ (8 * (i + 1)) = 2 ^ (8 * i) * 256 := by rw [Nat.mul_add, Int.pow_add]; rfl
theorem enc_l0 : ∀ (d i k : Nat) (b : List Int) (h : Int), i + d = 8 → d < k → b.length + d < 140737488355328 → 0 ≤ h →
  code_Encode.l0 k b h (i : Int) = some (strOfNums (b ++ le d (h / 2 ^ (8 * i))), 0) := by
 intro d
 induction d with
 | zero =>
  intro i k b h hi hk hb h0
  obtain ⟨k, rfl⟩ : ∃ m, k = m + 1 := ⟨k - 1, by omega⟩
  rw [code_Encode.l0, if_neg (by omega), le, List.append_nil]
 | succ d ih =>
  intro i k b h hi hk hb h0
  obtain ⟨k, rfl⟩ : ∃ m, k = m + 1 := ⟨k - 1, by omega⟩
  have hw : wrap64 (8 * (i : Int)) = ((8 * i : Nat) : Int) := by rw [Lex.w64_id (by omega) (by omega)]; omega
  have hs : shr .u64 h ((8 * i : Nat) : Int) = h / 2 ^ (8 * i) := by
   unfold shr
   rw [show (((8 * i : Nat) : Int)).toNat = 8 * i from rfl, Nat.min_eq_left (show 8 * i ≤ IntKind.u64.bits by show 8 * i ≤ 64; omega)]
  rw [code_Encode.l0, if_pos (by omega), hw, if_pos (Int.natCast_nonneg _), if_pos (by omega), hs, w1 (by omega), ih (i + 1) k _ h (by omega) (by omega) (by rw [List.length_append, List.length_singleton]; omega) h0, List.append_assoc, le, p8, ← Int.ediv_ediv_of_nonneg (Int.pow_nonneg (by decide))]
  rfl
def encS (ws cs : List Int) (ns : List ByteArray) (ks : List Int) : List Int := laidS ws cs ns ks ++ le 8 (sumS (laidS ws cs ns ks))
theorem encS_bytes (ws cs : List Int) (ns : List ByteArray) (ks : List Int) : BY (encS ws cs ns ks) := BY.app (laidS_bytes ws cs ns ks) (le_bytes _ _)
theorem right_lays {ws cs : List Int} {ns : List ByteArray} {ks : List Int} (hw : U64 ws) (hc : I64 cs) (h : rightS ws cs ns ks = true) : Lays ws cs ns ks := by
 unfold rightS at h
 simp only [Bool.and_eq_true, decide_eq_true_eq, List.all_eq_true] at h
 obtain ⟨⟨_, a0, a1, a2, a3⟩, hn, hk, _⟩ := h
 refine ⟨hw, hc, fun s hs => ?_, fun x hx => ?_, a0, a1, a2, a3⟩
 ·have := hn s hs
  unfold nameOK at this
  simp only [Bool.and_eq_true, decide_eq_true_eq] at this
  exact this.1.2
 ·have := hk x hx
  unfold kdOK at this
  exact of_decide_eq_true this
def encV (ws cs : List Int) (ns : List ByteArray) (ks : List Int) : ByteArray × Int := if rightS ws cs ns ks = true then (strOfNums (encS ws cs ns ks), 0) else (⟨#[]⟩, 180)
def sumV (ws cs : List Int) (ns : List ByteArray) (ks : List Int) : Int := if rightS ws cs ns ks = true then sumS (laidS ws cs ns ks) else 0
theorem encode_f {ws cs : List Int} (ns : List ByteArray) (ks : List Int) (hw : U64 ws) (hc : I64 cs) {k : Nat} (hk : 1000000 ≤ k) : code_Encode.f k ws cs ns ks = some (encV ws cs ns ks) := by
 unfold code_Encode.f encV
 rw [right_f ws cs ns ks hw (by omega), bs]
 by_cases h : rightS ws cs ns ks = true
 ·rw [if_pos h, if_pos h]
  have hL := right_lays hw hc h
  have hb := laidS_bytes ws cs ns ks
  have hn := laidS_len hL
  have hr := sumS_range hb
  rw [laid_f hL (by omega), bs, sum_f hb (by omega) hk, bs, show (0 : Int) = ((0 : Nat) : Int) from rfl, enc_l0 8 0 k _ _ (by omega) (by omega) (by omega) hr.1]
  unfold encS
  simp
 ·rw [if_neg h, if_neg h]
theorem sumc_f {ws cs : List Int} (ns : List ByteArray) (ks : List Int) (hw : U64 ws) (hc : I64 cs) {k : Nat} (hk : 1000000 ≤ k) : code_Sum.f k ws cs ns ks = some (sumV ws cs ns ks) := by
 unfold code_Sum.f sumV
 rw [right_f ws cs ns ks hw (by omega), bs]
 by_cases h : rightS ws cs ns ks = true
 ·rw [if_pos h, if_pos h]
  have hL := right_lays hw hc h
  have hb := laidS_bytes ws cs ns ks
  have hn := laidS_len hL
  rw [laid_f hL (by omega), bs, sum_f hb (by omega) hk, bs]
 ·rw [if_neg h, if_neg h]
end Go.Proofs.YtnlimplbmncdeaaDoor.Code
namespace Go.Proofs.YtnlimplbmncdeaaDoor.Code
open Go.RowKit Go.Proofs.YtnlimplbmncdeaaDoorW.PrintWords Go.Proofs.YtnlimplbmncdeaaDoorW.PrintMore Go.Proofs.YtnlimplbmncdeaaDoor.C Go.Proofs.YtnlimplbmncdeaaDoor.PackBits Go.Proofs.YtnlimplbmncdeaaDoor.Sevens Go.Proofs.YtnlimplbmncdeaaDoor.Pack Go.Proofs.YtnlimplbmncdeaaDoor.Lex Go.Proofs.YtnlimplbmncdeaaDoor.Str
theorem BY.drop {l : List Int} (h : BY l) (n : Nat) : BY (l.drop n) := fun x hx => h x (List.mem_of_mem_drop hx)
theorem BY.take {l : List Int} (h : BY l) (n : Nat) : BY (l.take n) := fun x hx => h x (List.mem_of_mem_take hx)
theorem BY.right {a b : List Int} (h : BY (a ++ b)) : BY b := fun x hx => h x (List.mem_append_right _ hx)
theorem tk_sv {u : Int} (h0 : 0 ≤ u) (h : u ≤ 18446744073709551615) (rest : List Int) : tk 0 0 (sv u ++ rest) = (u, ((sv u).length : Int), 0) := by
 have := tk_sev u.toNat 0 0 rest (by simp; omega) (by omega) (.inl rfl)
 unfold sv
 rw [this]
 simp
 omega
theorem tk_back {l : List Int} {u n : Int} (hb : BY l) (h : tk 0 0 l = (u, n, 0)) : 0 ≤ u ∧ u ≤ 18446744073709551615 ∧ n = ((sv u).length : Int) ∧ l = sv u ++ l.drop (sv u).length := by
 obtain ⟨m, h1, _, h2, h3, h4⟩ := tk_ok l 0 0 u n hb (by omega) h
 have hm : m < 18446744073709551616 := by simpa using h1
 have hu : u = (m : Int) := by rw [h2]; simp
 have hs : sv u = sev m := by rw [hu]; rfl
 refine ⟨by omega, by omega, by rw [hs, h3]; simp, ?_⟩
 rw [hs]
 conv => rhs; lhs; rw [← h4]
 exact (List.take_append_drop _ _).symm
theorem num_sv {u : Int} (h0 : 0 ≤ u) (h : u ≤ 18446744073709551615) {rest : List Int} (hr : BY rest) (bad : Bool) {k : Nat} (hk : 21 ≤ k) : code_reader_number.g k (sv u ++ rest) bad = some (u, rest, bad) := by
 have hl := sv_len h
 have e : (sv u ++ rest).take 10 = sv u ++ rest.take (10 - (sv u).length) := by rw [List.take_append, List.take_of_length_le hl]
 unfold code_reader_number.g
 rw [e, take_f _ hk, bs, bytes_nums (BY.app (sv_bytes u) (hr.take _)), tk_sv h0 h, if_pos rfl]
 refine (if_pos (show (0 : Int) ≤ ((sv u).length : Int) ∧ ((sv u).length : Int) ≤ (((sv u ++ rest).length : Nat) : Int) from ⟨by omega, by rw [List.length_append]; omega⟩)).trans ?_
 simp
theorem num_cases {bs_ : List Int} (hb : BY bs_) (bad : Bool) {k : Nat} (hk : 21 ≤ k) :
  ∃ u b' bad', code_reader_number.g k bs_ bad = some (u, b', bad') ∧ BY b' ∧ (0 ≤ u ∧ u ≤ 18446744073709551615) ∧ (bad' = true ∨ (bad' = bad ∧ bs_ = sv u ++ b')) := by
 unfold code_reader_number.g
 rw [take_f _ hk, bs, bytes_nums (hb.take 10)]
 rcases tk_err (bs_.take 10) 0 0 with ⟨n, m, h⟩ | h | h
 ·obtain ⟨h1, h2, h3, h4⟩ := tk_back (hb.take 10) h
  have h5 : bs_ = sv n ++ bs_.drop (sv n).length := by
   have e : bs_ = bs_.take 10 ++ bs_.drop 10 := (List.take_append_drop _ _).symm
   have e2 : bs_ = sv n ++ ((bs_.take 10).drop (sv n).length ++ bs_.drop 10) := by
    rw [← List.append_assoc, ← h4]; exact e
   conv => rhs; rhs; rw [e2]
   rw [List.drop_left]
   exact e2
  have hl : (sv n).length ≤ bs_.length := by
   have := congrArg List.length h5
   rw [List.length_append] at this
   omega
  rw [h, if_pos rfl, h3]
  exact ⟨_, _, _, if_pos (show (0 : Int) ≤ ((sv n).length : Int) ∧ ((sv n).length : Int) ≤ (bs_.length : Int) from ⟨by omega, by omega⟩), hb.drop _, ⟨h1, h2⟩, .inr ⟨rfl, h5⟩⟩
 ·rw [h, if_neg (by decide)]
  exact ⟨_, _, _, rfl, hb, by omega, .inl rfl⟩
 ·rw [h, if_neg (by decide)]
  exact ⟨_, _, _, rfl, hb, by omega, .inl rfl⟩
theorem count_sv {u most : Int} (h0 : 0 ≤ u) (h : u ≤ most) (hm : most ≤ 40000) {rest : List Int} (hr : BY rest) (bad : Bool) {k : Nat} (hk : 21 ≤ k) : code_reader_count.g k (sv u ++ rest) bad most = some (u, rest, bad) := by
 unfold code_reader_count.g
 rw [num_sv h0 (by omega) hr bad hk, bs, PackBits.u64_id (n := most) (by omega) (by omega), if_neg (by omega), Lex.w64_id (by omega) (by omega)]
theorem count_cases {bs_ : List Int} (hb : BY bs_) (bad : Bool) {most : Int} (hm0 : 0 ≤ most) (hm : most ≤ 40000) {k : Nat} (hk : 21 ≤ k) :
  ∃ u b' bad', code_reader_count.g k bs_ bad most = some (u, b', bad') ∧ BY b' ∧ (0 ≤ u ∧ u ≤ most) ∧ (bad' = true ∨ (bad' = bad ∧ bs_ = sv u ++ b')) := by
 obtain ⟨u, b', bad', h1, h2, h3, h4⟩ := num_cases hb bad hk
 unfold code_reader_count.g
 rw [h1, bs, PackBits.u64_id (n := most) (by omega) (by omega)]
 by_cases c : u > most
 ·rw [if_pos c]
  exact ⟨_, _, _, rfl, h2, by omega, .inl rfl⟩
 ·rw [if_neg c, Lex.w64_id (by omega) (by omega)]
  exact ⟨_, _, _, rfl, h2, by omega, h4⟩
theorem cnt_sv {n : Nat} {most : Int} (h : (n : Int) ≤ most) (hm : most ≤ 32768) {rest : List Int} (hr : BY rest) (bad : Bool) {k : Nat} (hk : 21 ≤ k) : code_Decode.cnt k (sv (n : Int) ++ rest) bad most = some (n, rest, bad) := by
 unfold code_Decode.cnt
 rw [count_sv (Int.natCast_nonneg n) h (by omega) hr bad hk, bs, if_pos ⟨by omega, by omega⟩]
 rfl
theorem cnt_cases {bs_ : List Int} (hb : BY bs_) (bad : Bool) {most : Int} (hm0 : 0 ≤ most) (hm : most ≤ 32768) {k : Nat} (hk : 21 ≤ k) :
  ∃ (n : Nat) (b' : List Int) (bad' : Bool), code_Decode.cnt k bs_ bad most = some (n, b', bad') ∧ BY b' ∧ (n : Int) ≤ most ∧ (bad' = true ∨ (bad' = bad ∧ bs_ = sv (n : Int) ++ b')) := by
 obtain ⟨u, b', bad', h1, h2, h3, h4⟩ := count_cases hb bad hm0 (by omega) hk
 unfold code_Decode.cnt
 rw [h1, bs, if_pos ⟨by omega, by omega⟩]
 refine ⟨_, _, _, rfl, h2, by omega, ?_⟩
 rw [Int.toNat_of_nonneg h3.1]
 exact h4
theorem dl_sv {α : Type} (step : List Int → Bool → Option (α × List Int × Bool)) (e : α → List Int) : ∀ (l : List α) (acc : List α) (rest : List Int), (∀ y ∈ l, ∀ t, BY t → step (e y ++ t) false = some (y, t, false)) → BY (l.flatMap e ++ rest) →
  code_Decode.dl step l.length acc (l.flatMap e ++ rest) false = some (acc ++ l, rest, false)
 | [], acc, rest, _, _ => by simp [code_Decode.dl]
 | y :: t, acc, rest, h, hb => by
  rw [List.flatMap_cons, List.append_assoc] at hb ⊢
  rw [List.length_cons, code_Decode.dl, if_neg (by decide), h y (List.mem_cons_self ..) _ hb.right, bs, dl_sv step e t _ rest (fun z hz => h z (List.mem_cons_of_mem _ hz)) hb.right, List.append_assoc]
  rfl
theorem dl_cases {α : Type} (step : List Int → Bool → Option (α × List Int × Bool)) (e : α → List Int) (P : α → Prop) (hs : ∀ b, BY b → ∀ bad, ∃ y b' bad', step b bad = some (y, b', bad') ∧ BY b' ∧ P y ∧ (bad' = true ∨ (bad' = bad ∧ b = e y ++ b'))) :
  ∀ (j : Nat) (acc : List α) (b : List Int) (bad : Bool), BY b → ∃ l b' bad', code_Decode.dl step j acc b bad = some (acc ++ l, b', bad') ∧ BY b' ∧ (∀ y ∈ l, P y) ∧ l.length ≤ j ∧ (bad' = true ∨ (bad' = bad ∧ l.length = j ∧ b = l.flatMap e ++ b'))
 | 0, acc, b, bad, hb => ⟨[], b, bad, by simp [code_Decode.dl], hb, by simp, by simp, .inr ⟨rfl, rfl, rfl⟩⟩
 | j + 1, acc, b, bad, hb => by
  rw [code_Decode.dl]
  cases bad with
  | true => exact ⟨[], b, true, by simp, hb, by simp, by simp, .inl rfl⟩
  | false =>
   obtain ⟨y, b1, bad1, h1, h2, h3, h4⟩ := hs b hb false
   obtain ⟨l, b2, bad2, g1, g2, g3, g4, g5⟩ := dl_cases step e P hs j (acc ++ [y]) b1 bad1 h2
   rw [if_neg (by decide), h1, bs, g1]
   refine ⟨y :: l, b2, bad2, by simp, g2, fun z hz => ?_, by simp; omega, ?_⟩
   ·rcases List.mem_cons.1 hz with rfl | hz
    ·exact h3
    ·exact g3 z hz
   ·rcases g5 with g5 | ⟨g5, g6, g7⟩
    ·exact .inl g5
    ·rcases h4 with h4 | ⟨h4, h6⟩
     ·exact .inl (g5.trans h4)
     ·exact .inr ⟨g5.trans h4, by rw [List.length_cons, g6], by rw [h6, g7, List.flatMap_cons, List.append_assoc]⟩
theorem cst_sv {z : Int} (h0 : -9223372036854775808 ≤ z) (h : z ≤ 9223372036854775807) {rest : List Int} (hr : BY rest) {k : Nat} (hk : 21 ≤ k) : code_Decode.cst k (sv (zig z) ++ rest) false = some (z, rest, false) := by
 have hz := zig_range h0 (show z < 9223372036854775808 by omega)
 unfold code_Decode.cst
 rw [num_sv hz.1 (by omega) hr false hk, bs, zag_f hz.1 (by omega), bs, zag_zig]
theorem cst_cases {k : Nat} (hk : 21 ≤ k) : ∀ b, BY b → ∀ bad, ∃ y b' bad', code_Decode.cst k b bad = some (y, b', bad') ∧ BY b' ∧ (-9223372036854775808 ≤ y ∧ y ≤ 9223372036854775807) ∧ (bad' = true ∨ (bad' = bad ∧ b = sv (zig y) ++ b')) := fun b hb bad => by
 obtain ⟨u, b', bad', h1, h2, h3, h4⟩ := num_cases hb bad hk
 have hz := zag_range h3.1 (show u < 18446744073709551616 by omega)
 unfold code_Decode.cst
 rw [h1, bs, zag_f h3.1 h3.2, bs]
 refine ⟨_, _, _, rfl, h2, by omega, ?_⟩
 rw [zig_zag h3.1]
 exact h4
theorem nums_bytes (s : ByteArray) : strOfNums (bytesOf s) = s := ext_bytes (bytes_nums (bytes_range s))
theorem nst_sv {s : ByteArray} (h : s.size ≤ 12) {rest : List Int} (hr : BY rest) {k : Nat} (hk : 21 ≤ k) : code_Decode.nst k (nb s ++ rest) false = some (s, rest, false) := by
 unfold code_Decode.nst nb
 rw [List.append_assoc, count_sv (by omega) (by omega) (by omega) (BY.app (bytes_range s) hr) false hk, bs]
 unfold code_reader_text.g
 have hl : (bytesOf s ++ rest).length = s.size + rest.length := by rw [List.length_append, bytesOf_length]
 refine (if_neg (show ¬ (s.size : Int) > (((bytesOf s ++ rest).length : Nat) : Int) by omega)).trans ((if_pos (show (0 : Int) ≤ (s.size : Int) by omega)).trans ?_)
 have e : ((s.size : Int)).toNat = (bytesOf s).length := by rw [bytesOf_length]; rfl
 show some (strOfNums (List.take ((s.size : Int)).toNat (bytesOf s ++ rest)), List.drop ((s.size : Int)).toNat (bytesOf s ++ rest), false) = _
 rw [e, List.take_left, List.drop_left, nums_bytes]
theorem nst_cases {k : Nat} (hk : 21 ≤ k) : ∀ b, BY b → ∀ bad, ∃ y b' bad', code_Decode.nst k b bad = some (y, b', bad') ∧ BY b' ∧ True ∧ (bad' = true ∨ (bad' = bad ∧ b = nb y ++ b')) := fun b hb bad => by
 obtain ⟨u, b', bad', h1, h2, h3, h4⟩ := count_cases hb bad (most := 12) (by omega) (by omega) hk
 unfold code_Decode.nst
 rw [h1, bs]
 unfold code_reader_text.g
 show ∃ y b1 bad1, (if u > (b'.length : Int) then some ((⟨#[]⟩ : ByteArray), b', true) else if 0 ≤ u then some (strOfNums (b'.take u.toNat), b'.drop u.toNat, bad') else none) = some (y, b1, bad1) ∧ BY b1 ∧ True ∧ (bad1 = true ∨ (bad1 = bad ∧ b = nb y ++ b1))
 by_cases c : u > (b'.length : Int)
 ·rw [if_pos c]
  exact ⟨_, _, _, rfl, h2, trivial, .inl rfl⟩
 ·rw [if_neg c, if_pos h3.1]
  refine ⟨_, _, _, rfl, h2.drop _, trivial, ?_⟩
  rcases h4 with h4 | ⟨h4, h5⟩
  ·exact .inl h4
  ·refine .inr ⟨h4, ?_⟩
   unfold nb
   rw [strOfNums_size, bytes_nums (h2.take _), List.length_take, Nat.min_eq_left (by omega), Int.toNat_of_nonneg h3.1, List.append_assoc, List.take_append_drop]
   exact h5
def leV : List Int → Int
 | [] => 0
 | b :: t => b + 256 * leV t
theorem le_leV : ∀ (l : List Int), BY l → le l.length (leV l) = l
 | [], _ => rfl
 | b :: t, h => by
  have hb := h b (List.mem_cons_self ..)
  have ht := le_leV t (fun y hy => h y (List.mem_cons_of_mem _ hy))
  rw [List.length_cons, le, leV, show (b + 256 * leV t) % 256 = b by omega, show (b + 256 * leV t) / 256 = leV t by omega, ht]
theorem leV_le : ∀ (n : Nat) (h : Int), 0 ≤ h → h < 256 ^ n → leV (le n h) = h
 | 0, h, h0, h1 => by simp at h1; rw [le, leV]; omega
 | n + 1, h, h0, h1 => by
  rw [Int.pow_succ] at h1
  rw [le, leV, leV_le n (h / 256) (by omega) (by omega)]
  omega
theorem p256 (j : Nat) : (2 : Int) ^ (8 * (j + 1)) = 256 * 2 ^ (8 * j) := by rw [p8]; omega
theorem p8_le {j : Nat} (h : j ≤ 7) : (2 : Int) ^ (8 * j) ≤ 72057594037927936 := by
 have h2 : (2 : Nat) ^ (8 * j) ≤ 2 ^ 56 := Nat.pow_le_pow_right (by decide) (by omega)
 have h3 : ((2 ^ (8 * j) : Nat) : Int) ≤ ((2 ^ 56 : Nat) : Int) := Int.ofNat_le.2 h2
 rw [Int.natCast_pow] at h3
 exact h3
theorem les_f : ∀ (l : List Int) (j : Nat) (h : Int), BY l → j + l.length ≤ 8 → 0 ≤ h → h < 2 ^ (8 * j) → code_Decode.les j h l = h + 2 ^ (8 * j) * leV l
 | [], j, h, _, _, _, _ => by rw [code_Decode.les, leV]; omega
 | b :: t, j, h, hb, hj, h0, h1 => by
  have hx := hb b (List.mem_cons_self ..)
  rw [List.length_cons] at hj
  have hp := p8_le (j := j) (by omega)
  have hp0 : (0 : Int) < 2 ^ (8 * j) := Int.pow_pos (by decide)
  have hm0 : 0 ≤ b * 2 ^ (8 * j) := Int.mul_nonneg (by omega) (by omega)
  have hm1 : b * 2 ^ (8 * j) ≤ 255 * 2 ^ (8 * j) := Int.mul_le_mul_of_nonneg_right (by omega) (by omega)
  have hw : wrap64 (8 * (j : Int)) = ((8 * j : Nat) : Int) := by rw [Lex.w64_id (by omega) (by omega)]; omega
  have e : Go.bits .or .u64 h (shl .u64 (IntKind.u64.wrap b) (wrap64 (8 * (j : Int)))) = h + b * 2 ^ (8 * j) := by
   rw [hw, PackBits.u64_id (n := b) (by omega) (by omega)]
   unfold shl
   rw [show (((8 * j : Nat) : Int)).toNat = 8 * j from rfl, Nat.min_eq_left (show 8 * j ≤ IntKind.u64.bits by show 8 * j ≤ 64; omega), PackBits.u64_id hm0 (by omega), or_comm_u64, join_u64 (8 * j) hm0 (Int.mul_emod_left _ _) (by omega) h0 h1 (by omega)]
   omega
  rw [code_Decode.les, e, les_f t (j + 1) _ (fun y hy => hb y (List.mem_cons_of_mem _ hy)) (by omega) (by omega) (by rw [p256]; omega), p256, leV, Int.mul_add, Int.mul_assoc, Int.mul_left_comm 256 (2 ^ (8 * j)) (leV t), Int.mul_comm b]
  omega
theorem les_le {h : Int} (h0 : 0 ≤ h) (h1 : h ≤ 18446744073709551615) : code_Decode.les 0 0 (le 8 h) = h := by
 rw [les_f _ 0 0 (le_bytes 8 h) (by rw [le_len]; omega) (by omega) (by decide), leV_le 8 h h0 (by omega)]
 simp
theorem les_back {l : List Int} (hl : BY l) (h8 : l.length = 8) {h : Int} (e : code_Decode.les 0 0 l = h) : l = le 8 h := by
 rw [les_f _ 0 0 hl (by omega) (by omega) (by decide)] at e
 have := le_leV l hl
 rw [h8] at this
 rw [← e]
 simpa using this.symm
theorem magic (l : List Int) (hl : BY l) : (strOfNums l).toList = [73, 67, 49] ↔ l = [73, 67, 49] := by
 constructor
 ·intro h
  have e : strOfNums l = (⟨#[73, 67, 49]⟩ : ByteArray) := toList_iff.1 (h.trans (by rw [toList_data]))
  have := congrArg bytesOf e
  rw [bytes_nums hl] at this
  rw [this]
  rfl
 ·rintro rfl
  rw [toList_data]
  rfl
def bad5 : List Int × List Int × List ByteArray × List Int × Int := ([], [], [], [], 180)
theorem dec_laid {ws cs : List Int} {ns : List ByteArray} {ks : List Int} (h : Lays ws cs ns ks) {rest : List Int} (hr : BY rest) (hn : ([73, 67, 49] ++ laidT ws cs ns ks rest).length ≤ 9223372036854775807) {k : Nat} (hk : 21 ≤ k) :
  code_Decode.f k (strOfNums ([73, 67, 49] ++ laidT ws cs ns ks rest)) = code_Decode.fin k ws cs ns ks rest false := by
 have l0 := h.l0; have l1 := h.l1; have l2 := h.l2; have l3 := h.l3
 have hT := laidT_bytes ws cs ns ks hr
 have hA : BY ([73, 67, 49] ++ laidT ws cs ns ks rest) := BY.app (by intro x hx; simp at hx; omega) hT
 unfold code_Decode.f
 rw [strOfNums_size, if_pos hn, bytes_nums hA]
 have e0 : code_reader_text.g ([73, 67, 49] ++ laidT ws cs ns ks rest) false 3 = some (strOfNums [73, 67, 49], laidT ws cs ns ks rest, false) := by
  unfold code_reader_text.g
  rw [if_neg (by simp; omega), if_pos (by omega)]
  rfl
 rw [e0, bs, if_pos ((magic [73, 67, 49] (by intro x hx; simp at hx; omega)).2 rfl)]
 unfold laidT at hT ⊢
 rw [cnt_sv (by omega) (by omega) hT.right false hk, bs, dl_sv _ sv ws [] _ (fun y hy t ht => num_sv (h.w y hy).1 (h.w y hy).2 ht false hk) hT.right, bs]
 have hT2 := hT.right.right
 rw [cnt_sv (by omega) (by omega) hT2.right false hk, bs]
 have e1 : (cs.map zig).flatMap sv = cs.flatMap fun z => sv (zig z) := by rw [List.flatMap_map]
 rw [e1] at hT2 ⊢
 rw [dl_sv _ (fun z => sv (zig z)) cs [] _ (fun y hy t ht => cst_sv (h.c y hy).1 (h.c y hy).2 ht hk) hT2.right, bs]
 have hT3 := hT2.right.right
 rw [cnt_sv (by omega) (by omega) hT3.right false hk, bs, dl_sv _ nb ns [] _ (fun y hy t ht => nst_sv (h.n y hy).2 ht hk) hT3.right, bs]
 have hT4 := hT3.right.right
 rw [cnt_sv (by omega) (by omega) hT4.right false hk, bs, dl_sv _ sv ks [] _ (fun y hy t ht => count_sv (by have := h.k y hy; omega) (h.k y hy).2 (by omega) ht false hk) hT4.right, bs]
 simp only [List.nil_append]
theorem fin_cases {ws cs : List Int} (ns : List ByteArray) (ks : List Int) (hw : U64 ws) (hc : I64 cs) {rest : List Int} (hr : BY rest) {k : Nat} (hk : 1000000 ≤ k) :
  code_Decode.fin k ws cs ns ks rest false = some (if rightS ws cs ns ks = true ∧ rest = le 8 (sumS (laidS ws cs ns ks)) then (ws, cs, ns, ks, 0) else bad5) := by
 have hs := sumS_range (laidS_bytes ws cs ns ks)
 unfold code_Decode.fin
 rw [if_neg (by decide)]
 by_cases h8 : (rest.length : Int) = 8
 ·rw [if_pos h8, right_f ws cs ns ks hw (by omega), bs]
  by_cases hR : rightS ws cs ns ks = true
  ·rw [if_neg (by rw [hR]; decide), sumc_f ns ks hw hc hk, bs]
   unfold sumV
   rw [if_pos hR]
   by_cases he : code_Decode.les 0 0 rest = sumS (laidS ws cs ns ks)
   ·rw [if_pos he, if_pos ⟨hR, les_back hr (by omega) he⟩]
   ·rw [if_neg he, if_neg (fun hh => he (by rw [hh.2]; exact les_le hs.1 hs.2))]
    rfl
  ·rw [if_pos (by simpa using hR), if_neg (fun hh => hR hh.1)]
   rfl
 ·rw [if_neg h8, if_neg (fun hh => h8 (by rw [hh.2, le_len]; rfl))]
  rfl
theorem dec_enc {ws cs : List Int} {ns : List ByteArray} {ks : List Int} (hw : U64 ws) (hc : I64 cs) (hR : rightS ws cs ns ks = true) {k : Nat} (hk : 1000000 ≤ k) : code_Decode.f k (strOfNums (encS ws cs ns ks)) = some (ws, cs, ns, ks, 0) := by
 have hL := right_lays hw hc hR
 have hn := laidS_len hL
 have e : encS ws cs ns ks = [73, 67, 49] ++ laidT ws cs ns ks (le 8 (sumS (laidS ws cs ns ks))) := by
  unfold encS laidS
  rw [List.append_assoc, ← laidT_app, List.nil_append]
 have hlen : (encS ws cs ns ks).length ≤ 800008 := by
  unfold encS
  rw [List.length_append, le_len]
  omega
 rw [e] at hlen ⊢
 rw [dec_laid hL (le_bytes _ _) (by omega) (by omega), fin_cases ns ks hw hc (le_bytes _ _) hk, if_pos ⟨hR, rfl⟩]
theorem dec_cases (s : ByteArray) (hs : s.size ≤ 9223372036854775807) {k : Nat} (hk : 1000000 ≤ k) :
  code_Decode.f k s = some bad5 ∨ ∃ ws cs ns ks, code_Decode.f k s = some (ws, cs, ns, ks, 0) ∧ U64 ws ∧ I64 cs ∧ rightS ws cs ns ks = true ∧ s = strOfNums (encS ws cs ns ks) := by
 have hB : BY (bytesOf s) := bytes_range s
 unfold code_Decode.f
 rw [if_pos hs]
 unfold code_reader_text.g
 by_cases h3 : (3 : Int) > ((bytesOf s).length : Int)
 ·have hne : ¬ (⟨#[]⟩ : ByteArray).toList = [73, 67, 49] := by rw [toList_data]; simp
  rw [if_pos h3, bs, if_neg hne]
  exact .inl rfl
 rw [if_neg h3, if_pos (by omega), bs]
 by_cases hm : (strOfNums ((bytesOf s).take (3 : Int).toNat)).toList = [73, 67, 49]
 case neg => rw [if_neg hm]; exact .inl rfl
 rw [if_pos hm]
 have hm' := (magic _ (hB.take _)).1 hm
 have hB0 : bytesOf s = [73, 67, 49] ++ (bytesOf s).drop (3 : Int).toNat := by rw [← hm', List.take_append_drop]
 obtain ⟨n1, b1, e1, g1, B1, m1, q1⟩ := cnt_cases (hB.drop (3 : Int).toNat) false (most := 32768) (by omega) (by omega) (show 21 ≤ k by omega)
 obtain ⟨ws, b2, e2, g2, B2, P2, m2, q2⟩ := dl_cases (code_reader_number.g k) sv (fun u => 0 ≤ u ∧ u ≤ 18446744073709551615) (fun b hb bad => num_cases hb bad (show 21 ≤ k by omega)) n1 [] b1 e1 B1
 obtain ⟨n3, b3, e3, g3, B3, m3, q3⟩ := cnt_cases B2 e2 (most := 32768) (by omega) (by omega) (show 21 ≤ k by omega)
 obtain ⟨cs, b4, e4, g4, B4, P4, m4, q4⟩ := dl_cases (code_Decode.cst k) (fun z => sv (zig z)) (fun y => -9223372036854775808 ≤ y ∧ y ≤ 9223372036854775807) (cst_cases (show 21 ≤ k by omega)) n3 [] b3 e3 B3
 obtain ⟨n5, b5, e5, g5, B5, m5, q5⟩ := cnt_cases B4 e4 (most := 2000) (by omega) (by omega) (show 21 ≤ k by omega)
 obtain ⟨ns, b6, e6, g6, B6, P6, m6, q6⟩ := dl_cases (code_Decode.nst k) nb (fun _ => True) (nst_cases (show 21 ≤ k by omega)) n5 [] b5 e5 B5
 obtain ⟨n7, b7, e7, g7, B7, m7, q7⟩ := cnt_cases B6 e6 (most := 256) (by omega) (by omega) (show 21 ≤ k by omega)
 obtain ⟨ks, b8, e8, g8, B8, P8, m8, q8⟩ := dl_cases (fun b e => code_reader_count.g k b e 3) sv (fun u => 0 ≤ u ∧ u ≤ 3) (fun b hb bad => count_cases hb bad (by omega) (by omega) (show 21 ≤ k by omega)) n7 [] b7 e7 B7
 simp only [List.nil_append] at g2 g4 g6 g8
 rw [g1, bs, g2, bs, g3, bs, g4, bs, g5, bs, g6, bs, g7, bs, g8, bs]
 show code_Decode.fin k ws cs ns ks b8 e8 = some bad5 ∨ _
 cases e8 with
 | true => exact .inl rfl
 | false =>
  have hw : U64 ws := P2
  have hc : I64 cs := P4
  show code_Decode.fin k ws cs ns ks b8 false = some bad5 ∨ ∃ ws' cs' ns' ks', code_Decode.fin k ws cs ns ks b8 false = some (ws', cs', ns', ks', 0) ∧ _
  rw [fin_cases ns ks hw hc B8 hk]
  by_cases hf : rightS ws cs ns ks = true ∧ b8 = le 8 (sumS (laidS ws cs ns ks))
  ·rw [if_pos hf]
   refine .inr ⟨ws, cs, ns, ks, rfl, hw, hc, hf.1, ?_⟩
   rcases q8 with q8 | ⟨q8, r8, t8⟩
   ·cases q8
   subst q8
   rcases q7 with q7 | ⟨q7, t7⟩
   ·cases q7
   subst q7
   rcases q6 with q6 | ⟨q6, r6, t6⟩
   ·cases q6
   subst q6
   rcases q5 with q5 | ⟨q5, t5⟩
   ·cases q5
   subst q5
   rcases q4 with q4 | ⟨q4, r4, t4⟩
   ·cases q4
   subst q4
   rcases q3 with q3 | ⟨q3, t3⟩
   ·cases q3
   subst q3
   rcases q2 with q2 | ⟨q2, r2, t2⟩
   ·cases q2
   subst q2
   rcases q1 with q1 | ⟨_, t1⟩
   ·cases q1
   have e1_ : (cs.map zig).flatMap sv = cs.flatMap fun z => sv (zig z) := by rw [List.flatMap_map]
   have e : encS ws cs ns ks = [73, 67, 49] ++ laidT ws cs ns ks (le 8 (sumS (laidS ws cs ns ks))) := by
    unfold encS laidS
    rw [List.append_assoc, ← laidT_app, List.nil_append]
   have hbs : bytesOf s = encS ws cs ns ks := by
    rw [e, hB0, t1, t2, t3, t4, t5, t6, t7, t8, ← hf.2]
    unfold laidT
    rw [e1_, r2, r4, r6, r8]
   rw [← hbs, nums_bytes]
  ·rw [if_neg hf]
   exact .inl rfl
end Go.Proofs.YtnlimplbmncdeaaDoor.Code
namespace Go.Proofs.YtnlimplbmncdeaaDoor.C
open Go.RowKit Go.Proofs.YtnlimplbmncdeaaDoorW.PrintWords Go.Proofs.YtnlimplbmncdeaaDoorW.PrintLast Go.Proofs.YtnlimplbmncdeaaDoorW.PrintMore
attribute [local go_sem] max2_int min2_int max_two min_two max_three min_three max_four min_four
set_option linter.unusedVariables false
set_option linter.unusedSimpArgs false
def ED (w0 : World) (R0 g Bc : Nat) (s : ByteArray) (W : World) (at_ : Int) (ok : Bool) (v0 v1 v2 v3 : Value) (ws cs : List Int) (ns : List ByteArray) (ks : List Int) : Prop :=
 IsS63 w0 W g s at_ ok ∧ W.heap[R0]? = some (.cells #[.slice none 0 0, .slice none 0 0, .slice none 0 0, .slice none 0 0] 26 (0, 0)) ∧ W.heap[Bc]? = some (.cells #[v0, v1, v2, v3] 26 (0, 0)) ∧ DRows w0 W v0 v1 v2 v3 ws cs ns ks ∧ (w0.heap.size ≤ R0 ∧ w0.heap.size ≤ Bc ∧ R0 ≠ Bc) ∧ Below w0.heap.size w0 W
theorem ED.keep {w0 W : World} {R0 g Bc : Nat} {s : ByteArray} {at_ : Int} {ok : Bool} {v0 v1 v2 v3 : Value} {ws cs : List Int} {ns : List ByteArray} {ks : List Int} (h : ED w0 R0 g Bc s W at_ ok v0 v1 v2 v3 ws cs ns ks) {W1 : World} {at' : Int} {ok' : Bool} (hI' : IsS63 w0 W1 g s at' ok') (hb : Below w0.heap.size w0 W1) (hK : KeepBut W W1 g none) : ED w0 R0 g Bc s W1 at' ok' v0 v1 v2 v3 ws cs ns ks := by
 obtain ⟨hI, hR, hc, ⟨r0, r1, r2, r3, hs⟩, ⟨b1, b2, b3⟩, hb0⟩ := h
 have kp : ∀ k o, W.heap[k]? = some o → k ≠ g → W1.heap[k]? = some o := fun k o hk hn => (hK.2 k (blk_lt hk) hn (by simp)).trans hk
 have mv : ∀ (e n : Nat) (v : Value) (xs : List Value), e ≠ 63 → W.ownsRow w0.heap.size e 1 v n xs → W1.ownsRow w0.heap.size e 1 v n xs := fun e n v xs he ho => own_move ho (fun k hk => hK.2 k (own_lt ho hk) (own_ne ho (fun z => he z.symm) hI.1 hk) (by simp))
 exact ⟨hI', kp _ _ hR (IsS63.ne_blk hI hR (by decide)).symm, kp _ _ hc (IsS63.ne_blk hI hc (by decide)).symm, ⟨mv _ _ _ _ (by decide) r0, mv _ _ _ _ (by decide) r1, mv _ _ _ _ (by decide) r2, mv _ _ _ _ (by decide) r3, hs⟩, ⟨b1, b2, b3⟩, hb⟩
theorem ED.push0 {w0 W : World} {R0 g Bc : Nat} {s : ByteArray} {at_ : Int} {ok : Bool} {v0 v1 v2 v3 : Value} {ws cs : List Int} {ns : List ByteArray} {ks : List Int} (h : ED w0 R0 g Bc s W at_ ok v0 v1 v2 v3 ws cs ns ks) {W1 : World} {v : Value} {u : Int} (ho : W1.ownsRow w0.heap.size 33 1 v (ws.length + 1) (nums .u64 ws ++ [Value.int .u64 u])) (hb : Below w0.heap.size w0 W1) (hg : W.grownBy W1 v0.ownBlock)
  (hat : v.ownBlock = v0.ownBlock ∨ ∃ b, v.ownBlock = some b ∧ W.heap.size ≤ b) : ED w0 R0 g Bc s (W1.setCell ⟨Bc, 0, none⟩ v) at_ ok v v1 v2 v3 (ws ++ [u]) cs ns ks := by
 obtain ⟨hI, hR, hc, ⟨r0, r1, r2, r3, hs⟩, ⟨b1, b2, b3⟩, hb0⟩ := h
 have gC := blk_grown hc hg (fun he => own_ne r0 (by decide) hc he.symm rfl)
 have gG := blk_grown hI.1 hg (fun he => own_ne r0 (by decide) hI.1 he.symm rfl)
 have gR := blk_grown hR hg (fun he => own_ne r0 (by decide) hR he.symm rfl)
 have hs_ : ∀ k, k ≠ Bc → (W1.setCell ⟨Bc, 0, none⟩ v).heap[k]? = W1.heap[k]? := fun k hk => Below.heap_setCell W1 _ _ k hk
 have nG : g ≠ Bc := IsS63.ne_blk hI hc (by decide)
 have ho' : W1.ownsRow w0.heap.size 33 1 v (ws ++ [u]).length (nums .u64 (ws ++ [u])) := by
  have e1 : (ws ++ [u]).length = ws.length + 1 := by simp
  have e2 : nums .u64 (ws ++ [u]) = nums .u64 ws ++ [Value.int .u64 u] := by simp [nums]
  rw [e1, e2]
  exact ho
 exact ⟨⟨(hs_ g nG).trans gG, hI.2⟩, (hs_ R0 b3).trans gR, blk_put gC 0 v rfl, ⟨own_move ho' (fun k hk => hs_ k (own_ne ho' (by decide) gC hk)), own_move r1 (fun k hk => (hs_ k (own_ne r1 (by decide) hc hk)).trans (hg.block k (own_lt r1 hk) (own_ne' r1 r0 (by decide) hk))), own_move r2 (fun k hk => (hs_ k (own_ne r2 (by decide) hc hk)).trans (hg.block k (own_lt r2 hk) (own_ne' r2 r0 (by decide) hk))), own_move r3 (fun k hk => (hs_ k (own_ne r3 (by decide) hc hk)).trans (hg.block k (own_lt r3 hk) (own_ne' r3 r0 (by decide) hk))), hs⟩, ⟨b1, b2, b3⟩, below_set hb b2⟩
theorem ED.push1 {w0 W : World} {R0 g Bc : Nat} {s : ByteArray} {at_ : Int} {ok : Bool} {v0 v1 v2 v3 : Value} {ws cs : List Int} {ns : List ByteArray} {ks : List Int} (h : ED w0 R0 g Bc s W at_ ok v0 v1 v2 v3 ws cs ns ks) {W1 : World} {v : Value} {u : Int} (ho : W1.ownsRow w0.heap.size 3 1 v (cs.length + 1) (nums .i64 cs ++ [Value.int .i64 u])) (hb : Below w0.heap.size w0 W1) (hg : W.grownBy W1 v1.ownBlock)
  (hat : v.ownBlock = v1.ownBlock ∨ ∃ b, v.ownBlock = some b ∧ W.heap.size ≤ b) : ED w0 R0 g Bc s (W1.setCell ⟨Bc, 1, none⟩ v) at_ ok v0 v v2 v3 ws (cs ++ [u]) ns ks := by
 obtain ⟨hI, hR, hc, ⟨r0, r1, r2, r3, hs⟩, ⟨b1, b2, b3⟩, hb0⟩ := h
 have gC := blk_grown hc hg (fun he => own_ne r1 (by decide) hc he.symm rfl)
 have gG := blk_grown hI.1 hg (fun he => own_ne r1 (by decide) hI.1 he.symm rfl)
 have gR := blk_grown hR hg (fun he => own_ne r1 (by decide) hR he.symm rfl)
 have hs_ : ∀ k, k ≠ Bc → (W1.setCell ⟨Bc, 1, none⟩ v).heap[k]? = W1.heap[k]? := fun k hk => Below.heap_setCell W1 _ _ k hk
 have nG : g ≠ Bc := IsS63.ne_blk hI hc (by decide)
 have ho' : W1.ownsRow w0.heap.size 3 1 v (cs ++ [u]).length (nums .i64 (cs ++ [u])) := by
  have e1 : (cs ++ [u]).length = cs.length + 1 := by simp
  have e2 : nums .i64 (cs ++ [u]) = nums .i64 cs ++ [Value.int .i64 u] := by simp [nums]
  rw [e1, e2]
  exact ho
 exact ⟨⟨(hs_ g nG).trans gG, hI.2⟩, (hs_ R0 b3).trans gR, blk_put gC 1 v rfl, ⟨own_move r0 (fun k hk => (hs_ k (own_ne r0 (by decide) hc hk)).trans (hg.block k (own_lt r0 hk) (own_ne' r0 r1 (by decide) hk))), own_move ho' (fun k hk => hs_ k (own_ne ho' (by decide) gC hk)), own_move r2 (fun k hk => (hs_ k (own_ne r2 (by decide) hc hk)).trans (hg.block k (own_lt r2 hk) (own_ne' r2 r1 (by decide) hk))), own_move r3 (fun k hk => (hs_ k (own_ne r3 (by decide) hc hk)).trans (hg.block k (own_lt r3 hk) (fun he => hs _ he.symm hk))), fun k h1 h3 => Or.elim hat (fun e => hs k (e ▸ h1) h3) (fun ⟨b, e, hb⟩ => by rw [e] at h1; cases h1; have := own_lt r3 h3; omega)⟩, ⟨b1, b2, b3⟩, below_set hb b2⟩
theorem ED.push2 {w0 W : World} {R0 g Bc : Nat} {s : ByteArray} {at_ : Int} {ok : Bool} {v0 v1 v2 v3 : Value} {ws cs : List Int} {ns : List ByteArray} {ks : List Int} (h : ED w0 R0 g Bc s W at_ ok v0 v1 v2 v3 ws cs ns ks) {W1 : World} {v : Value} {u : ByteArray} (ho : W1.ownsRow w0.heap.size 9 1 v (ns.length + 1) (encs Value.string ns ++ [Value.string u])) (hb : Below w0.heap.size w0 W1) (hg : W.grownBy W1 v2.ownBlock)
  (hat : v.ownBlock = v2.ownBlock ∨ ∃ b, v.ownBlock = some b ∧ W.heap.size ≤ b) : ED w0 R0 g Bc s (W1.setCell ⟨Bc, 2, none⟩ v) at_ ok v0 v1 v v3 ws cs (ns ++ [u]) ks := by
 obtain ⟨hI, hR, hc, ⟨r0, r1, r2, r3, hs⟩, ⟨b1, b2, b3⟩, hb0⟩ := h
 have gC := blk_grown hc hg (fun he => own_ne r2 (by decide) hc he.symm rfl)
 have gG := blk_grown hI.1 hg (fun he => own_ne r2 (by decide) hI.1 he.symm rfl)
 have gR := blk_grown hR hg (fun he => own_ne r2 (by decide) hR he.symm rfl)
 have hs_ : ∀ k, k ≠ Bc → (W1.setCell ⟨Bc, 2, none⟩ v).heap[k]? = W1.heap[k]? := fun k hk => Below.heap_setCell W1 _ _ k hk
 have nG : g ≠ Bc := IsS63.ne_blk hI hc (by decide)
 have ho' : W1.ownsRow w0.heap.size 9 1 v (ns ++ [u]).length (encs Value.string (ns ++ [u])) := by
  have e1 : (ns ++ [u]).length = ns.length + 1 := by simp
  have e2 : encs Value.string (ns ++ [u]) = encs Value.string ns ++ [Value.string u] := by simp [encs]
  rw [e1, e2]
  exact ho
 exact ⟨⟨(hs_ g nG).trans gG, hI.2⟩, (hs_ R0 b3).trans gR, blk_put gC 2 v rfl, ⟨own_move r0 (fun k hk => (hs_ k (own_ne r0 (by decide) hc hk)).trans (hg.block k (own_lt r0 hk) (own_ne' r0 r2 (by decide) hk))), own_move r1 (fun k hk => (hs_ k (own_ne r1 (by decide) hc hk)).trans (hg.block k (own_lt r1 hk) (own_ne' r1 r2 (by decide) hk))), own_move ho' (fun k hk => hs_ k (own_ne ho' (by decide) gC hk)), own_move r3 (fun k hk => (hs_ k (own_ne r3 (by decide) hc hk)).trans (hg.block k (own_lt r3 hk) (own_ne' r3 r2 (by decide) hk))), hs⟩, ⟨b1, b2, b3⟩, below_set hb b2⟩
theorem ED.push3 {w0 W : World} {R0 g Bc : Nat} {s : ByteArray} {at_ : Int} {ok : Bool} {v0 v1 v2 v3 : Value} {ws cs : List Int} {ns : List ByteArray} {ks : List Int} (h : ED w0 R0 g Bc s W at_ ok v0 v1 v2 v3 ws cs ns ks) {W1 : World} {v : Value} {u : Int} (ho : W1.ownsRow w0.heap.size 3 1 v (ks.length + 1) (nums .i64 ks ++ [Value.int .i64 u])) (hb : Below w0.heap.size w0 W1) (hg : W.grownBy W1 v3.ownBlock)
  (hat : v.ownBlock = v3.ownBlock ∨ ∃ b, v.ownBlock = some b ∧ W.heap.size ≤ b) : ED w0 R0 g Bc s (W1.setCell ⟨Bc, 3, none⟩ v) at_ ok v0 v1 v2 v ws cs ns (ks ++ [u]) := by
 obtain ⟨hI, hR, hc, ⟨r0, r1, r2, r3, hs⟩, ⟨b1, b2, b3⟩, hb0⟩ := h
 have gC := blk_grown hc hg (fun he => own_ne r3 (by decide) hc he.symm rfl)
 have gG := blk_grown hI.1 hg (fun he => own_ne r3 (by decide) hI.1 he.symm rfl)
 have gR := blk_grown hR hg (fun he => own_ne r3 (by decide) hR he.symm rfl)
 have hs_ : ∀ k, k ≠ Bc → (W1.setCell ⟨Bc, 3, none⟩ v).heap[k]? = W1.heap[k]? := fun k hk => Below.heap_setCell W1 _ _ k hk
 have nG : g ≠ Bc := IsS63.ne_blk hI hc (by decide)
 have ho' : W1.ownsRow w0.heap.size 3 1 v (ks ++ [u]).length (nums .i64 (ks ++ [u])) := by
  have e1 : (ks ++ [u]).length = ks.length + 1 := by simp
  have e2 : nums .i64 (ks ++ [u]) = nums .i64 ks ++ [Value.int .i64 u] := by simp [nums]
  rw [e1, e2]
  exact ho
 exact ⟨⟨(hs_ g nG).trans gG, hI.2⟩, (hs_ R0 b3).trans gR, blk_put gC 3 v rfl, ⟨own_move r0 (fun k hk => (hs_ k (own_ne r0 (by decide) hc hk)).trans (hg.block k (own_lt r0 hk) (own_ne' r0 r3 (by decide) hk))), own_move r1 (fun k hk => (hs_ k (own_ne r1 (by decide) hc hk)).trans (hg.block k (own_lt r1 hk) (fun he => hs _ hk he.symm))), own_move r2 (fun k hk => (hs_ k (own_ne r2 (by decide) hc hk)).trans (hg.block k (own_lt r2 hk) (own_ne' r2 r3 (by decide) hk))), own_move ho' (fun k hk => hs_ k (own_ne ho' (by decide) gC hk)), fun k h1 h3 => Or.elim hat (fun e => hs k h1 (e ▸ h3)) (fun ⟨b, e, hb⟩ => by rw [e] at h3; cases h3; have := own_lt r1 h1; omega)⟩, ⟨b1, b2, b3⟩, below_set hb b2⟩
theorem ED.box {w0 W : World} {R0 g Bc : Nat} {s : ByteArray} {at_ : Int} {ok : Bool} {v0 v1 v2 v3 : Value} {ws cs : List Int} {ns : List ByteArray} {ks : List Int} (h : ED w0 R0 g Bc s W at_ ok v0 v1 v2 v3 ws cs ns ks) {W1 : World} {r : Option Nat} (hg : W.grownBy W1 r) (hr : r = v0.ownBlock ∨ r = v1.ownBlock ∨ r = v2.ownBlock ∨ r = v3.ownBlock) : W1.heap[Bc]? = some (.cells #[v0, v1, v2, v3] 26 (0, 0)) ∧ IsS63 w0 W1 g s at_ ok := by
 obtain ⟨hI, hR, hc, ⟨r0, r1, r2, r3, hs⟩, ⟨b1, b2, b3⟩, hb0⟩ := h
 have nn : ∀ (k t : Nat) (C : Array Value) (m : Nat × Nat), t ≠ 33 → t ≠ 3 → t ≠ 9 → W.heap[k]? = some (.cells C t m) → some k ≠ r := fun k t C m h1 h2 h3 hk he => by
  rcases hr with rfl | rfl | rfl | rfl
  ·exact own_ne r0 h1 hk he.symm rfl
  ·exact own_ne r1 h2 hk he.symm rfl
  ·exact own_ne r2 h3 hk he.symm rfl
  ·exact own_ne r3 h2 hk he.symm rfl
 exact ⟨blk_grown hc hg (nn _ _ _ _ (by decide) (by decide) (by decide) hc), ⟨blk_grown hI.1 hg (nn _ _ _ _ (by decide) (by decide) (by decide) hI.1), hI.2⟩⟩
theorem ED.below {w0 W : World} {R0 g Bc : Nat} {s : ByteArray} {at_ : Int} {ok : Bool} {v0 v1 v2 v3 : Value} {ws cs : List Int} {ns : List ByteArray} {ks : List Int} (h : ED w0 R0 g Bc s W at_ ok v0 v1 v2 v3 ws cs ns ks) {W1 : World} (hb : Below W.heap.size W W1) : ED w0 R0 g Bc s W1 at_ ok v0 v1 v2 v3 ws cs ns ks := by
 obtain ⟨hI, hR, hc, ⟨r0, r1, r2, r3, hs⟩, ⟨b1, b2, b3⟩, hb0⟩ := h
 have mv : ∀ (e n : Nat) (v : Value) (xs : List Value), W.ownsRow w0.heap.size e 1 v n xs → W1.ownsRow w0.heap.size e 1 v n xs := fun e n v xs ho => own_move ho (fun k hk => hb.block k (own_lt ho hk))
 exact ⟨hI.below hb, blk_below hR hb, blk_below hc hb, ⟨mv _ _ _ _ r0, mv _ _ _ _ r1, mv _ _ _ _ r2, mv _ _ _ _ r3, hs⟩, ⟨b1, b2, b3⟩, below_then hb0 hb0.size hb⟩
theorem ED.low {w0 W : World} {R0 g Bc : Nat} {s : ByteArray} {at_ : Int} {ok : Bool} {v0 v1 v2 v3 : Value} {ws cs : List Int} {ns : List ByteArray} {ks : List Int} (h : ED w0 R0 g Bc s W at_ ok v0 v1 v2 v3 ws cs ns ks) : Below w0.heap.size w0 W := h.2.2.2.2.2
theorem ED.cells {w0 W : World} {R0 g Bc : Nat} {s : ByteArray} {at_ : Int} {ok : Bool} {v0 v1 v2 v3 : Value} {ws cs : List Int} {ns : List ByteArray} {ks : List Int} (h : ED w0 R0 g Bc s W at_ ok v0 v1 v2 v3 ws cs ns ks) (i : Nat) {u : Value} (hu : #[v0, v1, v2, v3][i]? = some u) : W.cell? ⟨Bc, i, none⟩ = some u := (blk_cell h.2.2.1 i).trans hu
theorem ED.s0 {w0 W : World} {R0 g Bc : Nat} {s : ByteArray} {at_ : Int} {ok : Bool} {v0 v1 v2 v3 : Value} {ws cs : List Int} {ns : List ByteArray} {ks : List Int} (h : ED w0 R0 g Bc s W at_ ok v0 v1 v2 v3 ws cs ns ks) : W.cell? ⟨g, 0, none⟩ = some (.string s) := (blk_cell h.1.1 0).trans rfl
theorem ED.s1 {w0 W : World} {R0 g Bc : Nat} {s : ByteArray} {at_ : Int} {ok : Bool} {v0 v1 v2 v3 : Value} {ws cs : List Int} {ns : List ByteArray} {ks : List Int} (h : ED w0 R0 g Bc s W at_ ok v0 v1 v2 v3 ws cs ns ks) : W.cell? ⟨g, 1, none⟩ = some (.int .i64 at_) := (blk_cell h.1.1 1).trans rfl
theorem ED.s2 {w0 W : World} {R0 g Bc : Nat} {s : ByteArray} {at_ : Int} {ok : Bool} {v0 v1 v2 v3 : Value} {ws cs : List Int} {ns : List ByteArray} {ks : List Int} (h : ED w0 R0 g Bc s W at_ ok v0 v1 v2 v3 ws cs ns ks) : W.cell? ⟨g, 2, none⟩ = some (.bool ok) := (blk_cell h.1.1 2).trans rfl
theorem ED.fz {w0 W : World} {R0 g Bc : Nat} {s : ByteArray} {at_ : Int} {ok : Bool} {v0 v1 v2 v3 : Value} {ws cs : List Int} {ns : List ByteArray} {ks : List Int} (h : ED w0 R0 g Bc s W at_ ok v0 v1 v2 v3 ws cs ns ks) (i : Nat) : W.frozen? ⟨g, i, none⟩ = false := blk_frozen h.1.1 i
theorem ED.put {w0 W : World} {R0 g Bc : Nat} {s : ByteArray} {at_ : Int} {ok : Bool} {v0 v1 v2 v3 : Value} {ws cs : List Int} {ns : List ByteArray} {ks : List Int} (h : ED w0 R0 g Bc s W at_ ok v0 v1 v2 v3 ws cs ns ks) (i : Nat) (u : Value) {at' : Int} {ok' : Bool} (hI' : IsS63 w0 (W.setCell ⟨g, i, none⟩ u) g s at' ok') : ED w0 R0 g Bc s (W.setCell ⟨g, i, none⟩ u) at' ok' v0 v1 v2 v3 ws cs ns ks :=
 h.keep hI' (below_set h.low h.1.2) ⟨by simp [World.setCell], fun k _ hk _ => Below.heap_setCell _ _ _ k hk⟩
theorem ED.fin {w0 W : World} {R0 g Bc : Nat} {s : ByteArray} {at_ : Int} {ok : Bool} {v0 v1 v2 v3 : Value} {ws cs : List Int} {ns : List ByteArray} {ks : List Int} (h : ED w0 R0 g Bc s W at_ ok v0 v1 v2 v3 ws cs ns ks) (u0 u1 u2 u3 : Value) :
  ((((W.setCell ⟨R0, 0, none⟩ u0).setCell ⟨R0, 1, none⟩ u1).setCell ⟨R0, 2, none⟩ u2).setCell ⟨R0, 3, none⟩ u3).heap[R0]? = some (.cells #[u0, u1, u2, u3] 26 (0, 0)) ∧ Below w0.heap.size w0 ((((W.setCell ⟨R0, 0, none⟩ u0).setCell ⟨R0, 1, none⟩ u1).setCell ⟨R0, 2, none⟩ u2).setCell ⟨R0, 3, none⟩ u3) ∧
  DRows w0 ((((W.setCell ⟨R0, 0, none⟩ u0).setCell ⟨R0, 1, none⟩ u1).setCell ⟨R0, 2, none⟩ u2).setCell ⟨R0, 3, none⟩ u3) v0 v1 v2 v3 ws cs ns ks := by
 obtain ⟨hI, hR, hc, ⟨r0, r1, r2, r3, hs⟩, ⟨b1, b2, b3⟩, hb0⟩ := h
 have far : ∀ k, k ≠ R0 → ((((W.setCell ⟨R0, 0, none⟩ u0).setCell ⟨R0, 1, none⟩ u1).setCell ⟨R0, 2, none⟩ u2).setCell ⟨R0, 3, none⟩ u3).heap[k]? = W.heap[k]? := fun k hk =>
  ((Below.heap_setCell _ _ _ k hk).trans (Below.heap_setCell _ _ _ k hk)).trans ((Below.heap_setCell _ _ _ k hk).trans (Below.heap_setCell _ _ _ k hk))
 exact ⟨blk_put (blk_put (blk_put (blk_put hR 0 u0 rfl) 1 u1 rfl) 2 u2 rfl) 3 u3 rfl, below_set (below_set (below_set (below_set hb0 b1) b1) b1) b1,
  own_move r0 (fun k hk => far k (own_ne r0 (by decide) hR hk)), own_move r1 (fun k hk => far k (own_ne r1 (by decide) hR hk)), own_move r2 (fun k hk => far k (own_ne r2 (by decide) hR hk)), own_move r3 (fun k hk => far k (own_ne r3 (by decide) hR hk)), hs⟩
theorem ED.forms {w0 W : World} {R0 g Bc : Nat} {s : ByteArray} {at_ : Int} {ok : Bool} {v0 v1 v2 v3 : Value} {ws cs : List Int} {ns : List ByteArray} {ks : List Int} (h : ED w0 R0 g Bc s W at_ ok v0 v1 v2 v3 ws cs ns ks) :
  (∃ A c, v0 = .slice A ws.length c ∧ ws.length ≤ c ∧ Kd.C (Kd.int .u64) W A ws.length ws) ∧ (∃ A c, v1 = .slice A cs.length c ∧ cs.length ≤ c ∧ Kd.C (Kd.int .i64) W A cs.length cs) ∧ (∃ A c, v2 = .slice A ns.length c ∧ ns.length ≤ c ∧ Kd.C Kd.string W A ns.length ns) ∧ (∃ A c, v3 = .slice A ks.length c ∧ ks.length ≤ c ∧ Kd.C (Kd.int .i64) W A ks.length ks) := by
 obtain ⟨_, _, _, ⟨r0, r1, r2, r3, hs⟩, _⟩ := h
 exact ⟨Kd.R_reads (Kd.R_of_own (h1 := fun _ => rfl) (ok := fun _ => True) r0 (fun _ _ => trivial)), Kd.R_reads (Kd.R_of_own (h1 := fun _ => rfl) (ok := fun _ => True) r1 (fun _ _ => trivial)), Kd.R_reads (Kd.R_of_own (h1 := fun _ => rfl) (ok := fun _ => True) r2 (fun _ _ => trivial)), Kd.R_reads (Kd.R_of_own (h1 := fun _ => rfl) (ok := fun _ => True) r3 (fun _ _ => trivial))⟩
end Go.Proofs.YtnlimplbmncdeaaDoor.C
namespace Go.Proofs.YtnlimplbmncdeaaDoor.Code
open Go.RowKit Go.Proofs.YtnlimplbmncdeaaDoorW.PrintWords Go.Proofs.YtnlimplbmncdeaaDoorW.PrintMore Go.Proofs.YtnlimplbmncdeaaDoor.C Go.Proofs.YtnlimplbmncdeaaDoor.PackBits Go.Proofs.YtnlimplbmncdeaaDoor.Sevens Go.Proofs.YtnlimplbmncdeaaDoor.Pack Go.Proofs.YtnlimplbmncdeaaDoor.Lex Go.Proofs.YtnlimplbmncdeaaDoor.Str
structure At (s : ByteArray) (at_ : Int) (rest : List Int) : Prop where
 lo : 0 ≤ at_
 hi : at_ ≤ (s.size : Int)
 is : (bytesOf s).drop at_.toNat = rest
theorem At.move {s : ByteArray} {at_ : Int} {a rest : List Int} (h : At s at_ (a ++ rest)) : At s (at_ + (a.length : Int)) rest := by
 have hl := congrArg List.length h.is
 rw [List.length_drop, List.length_append, bytesOf_length] at hl
 have h0 := h.lo
 have h1 := h.hi
 refine ⟨by omega, by omega, ?_⟩
 rw [show (at_ + (a.length : Int)).toNat = at_.toNat + a.length by omega, ← List.drop_drop, h.is, List.drop_left]
theorem At.bytes {s : ByteArray} {at_ : Int} {rest : List Int} (h : At s at_ rest) : BY rest := by
 rw [← h.is]
 exact BY.drop (bytes_range s) _
theorem ext_take (s : ByteArray) (n : Nat) : bytesOf (s.extract n s.size) = (bytesOf s).drop n := by
 rw [bytes_extract]
 apply List.take_of_length_le
 rw [List.length_drop, bytesOf_length]
 omega
end Go.Proofs.YtnlimplbmncdeaaDoor.Code
namespace Go.Proofs.YtnlimplbmncdeaaDoor.Code
open Go.RowKit Go.Proofs.YtnlimplbmncdeaaDoorW.PrintWords Go.Proofs.YtnlimplbmncdeaaDoorW.PrintMore Go.Proofs.YtnlimplbmncdeaaDoor.C Go.Proofs.YtnlimplbmncdeaaDoor.PackBits Go.Proofs.YtnlimplbmncdeaaDoor.Sevens Go.Proofs.YtnlimplbmncdeaaDoor.Pack Go.Proofs.YtnlimplbmncdeaaDoor.Lex Go.Proofs.YtnlimplbmncdeaaDoor.Str
theorem w2 {i : Nat} (h : i < 9223372036854775800) : wrap64 ((i : Int) + 1) = ((i + 1 : Nat) : Int) := by rw [Lex.w64_id (by omega) (by omega)]; omega
section
variable (a : List Int) (b : List Int) (c : List ByteArray) (d : List Int)
theorem same3 (hd : d.length < 9223372036854775800) : ∀ (e i k : Nat), i + e = d.length → e < k → isthmusref18_Same.l3 k (i : Int) a b c d a b c d = some true := by
 intro e
 induction e with
 | zero =>
  intro i k hi hk
  obtain ⟨k, rfl⟩ : ∃ m, k = m + 1 := ⟨k - 1, by omega⟩
  rw [isthmusref18_Same.l3, if_neg (by omega)]
 | succ e ih =>
  intro i k hi hk
  obtain ⟨k, rfl⟩ : ∃ m, k = m + 1 := ⟨k - 1, by omega⟩
  rw [isthmusref18_Same.l3, if_pos (by omega), if_pos (Int.natCast_nonneg i), if_pos (by omega), if_pos rfl, w2 (by omega), ih (i + 1) k (by omega) (by omega)]
theorem same2 (hc : c.length < 9223372036854775800) (hd : d.length < 9223372036854775800) : ∀ (e i k : Nat), i + e = c.length → e + d.length + 1 < k → isthmusref18_Same.l2 k (i : Int) a b c d a b c d = some true := by
 intro e
 induction e with
 | zero =>
  intro i k hi hk
  obtain ⟨k, rfl⟩ : ∃ m, k = m + 1 := ⟨k - 1, by omega⟩
  rw [isthmusref18_Same.l2, if_neg (by omega), show (0 : Int) = ((0 : Nat) : Int) from rfl, same3 a b c d hd d.length 0 k (by omega) (by omega)]
 | succ e ih =>
  intro i k hi hk
  obtain ⟨k, rfl⟩ : ∃ m, k = m + 1 := ⟨k - 1, by omega⟩
  rw [isthmusref18_Same.l2, if_pos (by omega), if_pos (Int.natCast_nonneg i), if_pos (by omega), if_pos rfl, w2 (by omega), ih (i + 1) k (by omega) (by omega)]
theorem same1 (hb : b.length < 9223372036854775800) (hc : c.length < 9223372036854775800) (hd : d.length < 9223372036854775800) : ∀ (e i k : Nat), i + e = b.length → e + c.length + d.length + 2 < k → isthmusref18_Same.l1 k (i : Int) a b c d a b c d = some true := by
 intro e
 induction e with
 | zero =>
  intro i k hi hk
  obtain ⟨k, rfl⟩ : ∃ m, k = m + 1 := ⟨k - 1, by omega⟩
  rw [isthmusref18_Same.l1, if_neg (by omega), show (0 : Int) = ((0 : Nat) : Int) from rfl, same2 a b c d hc hd c.length 0 k (by omega) (by omega)]
 | succ e ih =>
  intro i k hi hk
  obtain ⟨k, rfl⟩ : ∃ m, k = m + 1 := ⟨k - 1, by omega⟩
  rw [isthmusref18_Same.l1, if_pos (by omega), if_pos (Int.natCast_nonneg i), if_pos (by omega), if_pos rfl, w2 (by omega), ih (i + 1) k (by omega) (by omega)]
theorem same0 (ha : a.length < 9223372036854775800) (hb : b.length < 9223372036854775800) (hc : c.length < 9223372036854775800) (hd : d.length < 9223372036854775800) : ∀ (e i k : Nat), i + e = a.length → e + b.length + c.length + d.length + 3 < k → isthmusref18_Same.l0 k (i : Int) a b c d a b c d = some true := by
 intro e
 induction e with
 | zero =>
  intro i k hi hk
  obtain ⟨k, rfl⟩ : ∃ m, k = m + 1 := ⟨k - 1, by omega⟩
  rw [isthmusref18_Same.l0, if_neg (by omega), show (0 : Int) = ((0 : Nat) : Int) from rfl, same1 a b c d hb hc hd b.length 0 k (by omega) (by omega)]
 | succ e ih =>
  intro i k hi hk
  obtain ⟨k, rfl⟩ : ∃ m, k = m + 1 := ⟨k - 1, by omega⟩
  rw [isthmusref18_Same.l0, if_pos (by omega), if_pos (Int.natCast_nonneg i), if_pos (by omega), if_pos rfl, w2 (by omega), ih (i + 1) k (by omega) (by omega)]
theorem same_f (ha : a.length < 9223372036854775800) (hb : b.length < 9223372036854775800) (hc : c.length < 9223372036854775800) (hd : d.length < 9223372036854775800) {k : Nat} (hk : a.length + b.length + c.length + d.length + 5 < k) : isthmusref18_Same.f k a b c d a b c d = some true := by
 obtain ⟨k, rfl⟩ : ∃ m, k = m + 1 := ⟨k - 1, by omega⟩
 unfold isthmusref18_Same.f
 rw [if_pos rfl, if_pos rfl, if_pos rfl, isthmusref18_Same.j0, if_neg (by simp), show (0 : Int) = ((0 : Nat) : Int) from rfl, same0 a b c d ha hb hc hd a.length 0 k (by omega) (by omega)]
end
def pk (a n : Int) : Int := if a < 0 then (-(a + 1)) % n else a % n
theorem pick_f {a n : Int} (h0 : -9223372036854775808 ≤ a) (h1 : a ≤ 9223372036854775807) (hn : 0 < n) : isthmuslaw18_pick.f a n = some (pk a n) := by
 unfold isthmuslaw18_pick.f pk
 by_cases h : a < 0
 ·rw [if_pos h, if_pos h, if_neg (by omega), Lex.w64_id (n := a + 1) (by omega) (by omega), Lex.w64_id (by omega) (by omega), Int.tmod_eq_emod_of_nonneg (by omega)]
 ·rw [if_neg h, if_neg h, if_neg (by omega), Int.tmod_eq_emod_of_nonneg (by omega)]
theorem pk_range (a : Int) {n : Int} (hn : 0 < n) : 0 ≤ pk a n ∧ pk a n < n := by
 unfold pk
 split
 ·exact ⟨Int.emod_nonneg _ (by omega), Int.emod_lt_of_pos _ hn⟩
 ·exact ⟨Int.emod_nonneg _ (by omega), Int.emod_lt_of_pos _ hn⟩
def RW (x : SRaw) : Prop := (-9223372036854775808 ≤ x.f0 ∧ x.f0 ≤ 9223372036854775807) ∧ (-9223372036854775808 ≤ x.f1 ∧ x.f1 ≤ 9223372036854775807) ∧ (-9223372036854775808 ≤ x.f2 ∧ x.f2 ≤ 9223372036854775807)
def wdV (x : SRaw) : Int := laid (pk x.f0 28) (pk x.f1 12) (pk x.f2 12)
theorem wd_f {x : SRaw} (h : RW x) : isthmuslaw18_Code.wd true x = some (wdV x) ∧ 0 ≤ wdV x ∧ wdV x ≤ 18446744073709551615 := by
 obtain ⟨h0, h1, h2⟩ := h
 have a := pk_range x.f0 (n := 28) (by omega)
 have b := pk_range x.f1 (n := 12) (by omega)
 have c := pk_range x.f2 (n := 12) (by omega)
 unfold isthmuslaw18_Code.wd wdV
 rw [pick_f h0.1 h0.2 (by omega), bs, pick_f h1.1 h1.2 (by omega), bs, pick_f h2.1 h2.2 (by omega), bs, if_pos rfl, pick_f h0.1 h0.2 (by omega), bs, pick_f h1.1 h1.2 (by omega), bs, pick_f h2.1 h2.2 (by omega), bs, Pack.ref_word, if_pos ⟨by omega, by omega, by omega, by omega, by omega, by omega⟩, bs]
 unfold laid
 exact ⟨rfl, by omega, by omega⟩
theorem ws_f : ∀ (l : List SRaw) (acc : List Int), (∀ x ∈ l, RW x) → (acc.length + l.length) * 8 ≤ 140737488355328 → isthmuslaw18_Code.ws true l acc = some (acc ++ l.map wdV)
 | [], acc, _, _ => by rw [isthmuslaw18_Code.ws]; simp
 | x :: t, acc, h, hl => by
  rw [List.length_cons] at hl
  rw [isthmuslaw18_Code.ws, (wd_f (h x (List.mem_cons_self ..))).1, bs, if_pos (by omega), ws_f t _ (fun y hy => h y (List.mem_cons_of_mem _ hy)) (by rw [List.length_append, List.length_singleton]; omega), List.map_cons, List.append_assoc]
  rfl
theorem code_f {l : List SRaw} (h : ∀ x ∈ l, RW x) (hl : l.length * 8 ≤ 140737488355328) : isthmuslaw18_Code.f l true = some (l.map wdV) := by
 unfold isthmuslaw18_Code.f
 rw [ws_f l [] h (by simpa using hl), List.nil_append]
theorem code_u {l : List SRaw} (h : ∀ x ∈ l, RW x) : U64 (l.map wdV) := fun y hy => by
 obtain ⟨x, hx, rfl⟩ := List.mem_map.1 hy
 exact (wd_f (h x hx)).2
def awW : List Int := [72057594037927937, 0]
def awB : List Int := [73, 67, 49, 2, 129, 128, 128, 128, 128, 128, 128, 128, 1, 0, 1, 14, 0, 0]
theorem aw_laid : laidS awW [7] [] [] = awB := by
 have e1 : sev 72057594037927937 = [129, 128, 128, 128, 128, 128, 128, 128, 1] := by
  repeat (first | rw [sev_big (by decide)] | rw [sev_small (by decide)])
  rfl
 have s2 : sv 2 = [2] := sev_small (by decide)
 have s1 : sv 1 = [1] := sev_small (by decide)
 have s0 : sv 0 = [0] := sev_small (by decide)
 have s14 : sv 14 = [14] := sev_small (by decide)
 have sb : sv 72057594037927937 = [129, 128, 128, 128, 128, 128, 128, 128, 1] := e1
 unfold laidS laidT awW awB
 simp [sb, s0, s1, s2, s14, zig]
theorem aw_sum : sumS awB ≠ 0 := by decide +kernel
theorem aw_right : rightS awW [7] [] [] = true := by decide +kernel
theorem awake_f {k : Nat} (hk : 5000000 ≤ k) : isthmuslaw18_awake.f k = some true := by
 have hw : U64 awW := by intro x hx; simp [awW] at hx; omega
 have hc : I64 [7] := by intro x hx; simp at hx; omega
 have hcode : isthmuslaw18_Code.f isthmuslaw18_awake.raws true = some awW := by decide +kernel
 have hB := encS_bytes awW [7] [] []
 have hlen : (encS awW [7] [] []).length = 26 := by
  unfold encS
  rw [aw_laid, List.length_append, le_len]
  rfl
 unfold isthmuslaw18_awake.f
 rw [hcode, bs, encode_f [] [] hw hc (by omega), bs]
 unfold encV
 rw [if_pos aw_right]
 show (code_Decode.f k (strOfNums (encS awW [7] [] []))).bind _ = _
 rw [dec_enc hw hc aw_right (by omega), bs]
 show (isthmusref18_Same.f k awW [7] [] [] awW [7] [] []).bind _ = _
 rw [same_f _ _ _ _ (by decide) (by decide) (by decide) (by decide) (by show 2 + 1 + 0 + 0 + 5 < k; omega), bs, right_f _ _ _ _ hw (by omega), bs, aw_right, sumc_f _ _ hw hc (by omega), bs]
 unfold sumV
 rw [if_pos aw_right, aw_laid]
 refine if_pos ⟨rfl, rfl, rfl, rfl, ?_, ?_, aw_sum⟩
 ·show (4 : Int) < ((strOfNums (encS awW [7] [] [])).size : Int)
  rw [strOfNums_size, hlen]
  decide
 ·show ((strOfNums (encS awW [7] [] [])).extract 0 4).toList = [73, 67, 49, 2]
  have : (strOfNums (encS awW [7] [] [])).extract 0 4 = strOfNums [73, 67, 49, 2] := by
   apply ext_bytes
   rw [bytes_extract, bytes_nums hB, bytes_nums (by intro x hx; simp at hx; omega)]
   unfold encS
   rw [aw_laid]
   rfl
  rw [this, toList_data]
  rfl
end Go.Proofs.YtnlimplbmncdeaaDoor.Code
namespace Go.Proofs.YtnlimplbmncdeaaDoor.Code
open Go.RowKit Go.Proofs.YtnlimplbmncdeaaDoorW.PrintWords Go.Proofs.YtnlimplbmncdeaaDoorW.PrintMore Go.Proofs.YtnlimplbmncdeaaDoor.C Go.Proofs.YtnlimplbmncdeaaDoor.PackBits Go.Proofs.YtnlimplbmncdeaaDoor.Sevens Go.Proofs.YtnlimplbmncdeaaDoor.Pack Go.Proofs.YtnlimplbmncdeaaDoor.Lex Go.Proofs.YtnlimplbmncdeaaDoor.Str
theorem enc_len {ws cs : List Int} {ns : List ByteArray} {ks : List Int} (hw : U64 ws) (hc : I64 cs) (hR : rightS ws cs ns ks = true) : (encS ws cs ns ks).length ≤ 800008 ∧ 15 ≤ (encS ws cs ns ks).length := by
 have hn := laidS_len (right_lays hw hc hR)
 unfold encS
 rw [List.length_append, le_len]
 refine ⟨by omega, ?_⟩
 unfold laidS laidT
 have h0 := sv_pos (ws.length : Int)
 have h1 := sv_pos (cs.length : Int)
 have h2 := sv_pos (ns.length : Int)
 have h3 := sv_pos (ks.length : Int)
 simp only [List.length_append, List.length_cons, List.length_nil]
 omega
theorem bad_more {ws cs : List Int} {ns : List ByteArray} {ks : List Int} (hw : U64 ws) (hc : I64 cs) (hR : rightS ws cs ns ks = true) {k : Nat} (hk : 1000000 ≤ k) {rest : List Int} (hr : BY rest) (hl : rest.length ≤ 100) (hne : rest ≠ le 8 (sumS (laidS ws cs ns ks))) :
  code_Decode.f k (strOfNums (laidS ws cs ns ks ++ rest)) = some bad5 := by
 have hL := right_lays hw hc hR
 have hn := laidS_len hL
 have e : laidS ws cs ns ks ++ rest = [73, 67, 49] ++ laidT ws cs ns ks rest := by
  unfold laidS
  rw [List.append_assoc, ← laidT_app, List.nil_append]
 have hlen : (laidS ws cs ns ks ++ rest).length ≤ 800100 := by rw [List.length_append]; omega
 rw [e] at hlen ⊢
 rw [dec_laid hL hr (by omega) (by omega), fin_cases ns ks hw hc hr hk, if_neg (fun h => hne h.2)]
end Go.Proofs.YtnlimplbmncdeaaDoor.Code
