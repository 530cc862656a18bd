/- Sevens: numbers laid to the base 128 and read again, as lists of bytes. No program in sight. -/
import Derived.Test.YtkpdcmafpikhgaaDoorWWords
namespace Go.Proofs.YtkpdcmafpikhgaaDoor.Sevens

/-- The sevens of a number. -/
def sev (u : Nat) : List Int := if u > 127 then ((u % 128 + 128 : Nat) : Int) :: sev (u / 128) else [(u : Int)]
termination_by u
decreasing_by omega

theorem sev_big {u : Nat} (h : u > 127) : sev u = ((u % 128 + 128 : Nat) : Int) :: sev (u / 128) := by rw [sev, if_pos h]
theorem sev_small {u : Nat} (h : u ≤ 127) : sev u = [(u : Int)] := by rw [sev, if_neg (by omega)]
theorem sev_pos (u : Nat) : 0 < (sev u).length := by
  by_cases h : u > 127
  · rw [sev_big h]; simp
  · rw [sev_small (by omega)]; simp
theorem sev_length_le : ∀ (n u : Nat), u < 128 ^ (n + 1) → (sev u).length ≤ n + 1 := by
  intro n
  induction n with
  | zero => intro u h; rw [sev_small (by omega)]; simp
  | succ n ih =>
    intro u h
    by_cases hb : u > 127
    · rw [sev_big hb, List.length_cons]
      have : 128 ^ (n + 1 + 1) = 128 ^ (n + 1) * 128 := Nat.pow_succ ..
      have := ih (u / 128) (by omega)
      omega
    · rw [sev_small (by omega)]; simp
theorem sev_bytes (u : Nat) : ∀ x ∈ sev u, 0 ≤ x ∧ x < 256 := by
  induction u using Nat.strongRecOn with
  | _ u ih =>
    by_cases hb : u > 127
    · rw [sev_big hb]
      intro x hx
      rcases List.mem_cons.1 hx with rfl | hx
      · omega
      · exact ih _ (by omega) x hx
    · rw [sev_small (by omega)]
      intro x hx
      simp only [List.mem_singleton] at hx
      omega
theorem sev_mono : ∀ (v u : Nat), u ≤ v → (sev u).length ≤ (sev v).length := by
  intro v
  induction v using Nat.strongRecOn with
  | _ v ih =>
    intro u h
    by_cases hu : u > 127
    · rw [sev_big hu, sev_big (show v > 127 by omega), List.length_cons, List.length_cons]
      have := ih (v / 128) (by omega) (u / 128) (by omega)
      omega
    · rw [sev_small (by omega)]
      have := sev_pos v
      simp; omega

/-- What reading does: the bytes from place i on, u read so far. -/
def tk (i : Nat) (u : Int) : List Int → Int × Int × Int
  | [] => (0, 0, 10)
  | c :: t => if i = 9 ∧ c > 1 then (0, 0, 11) else if c > 127 then tk (i + 1) (u + (c - 128) * 2 ^ (7 * i)) t else if c = 0 ∧ i > 0 then (0, 0, 11) else (u + c * 2 ^ (7 * i), (i : Int) + 1, 0)

theorem pow7 (i : Nat) : (2 : Int) ^ (7 * (i + 1)) = 128 * 2 ^ (7 * i) := by
  rw [Nat.mul_add, Int.pow_add]; omega
theorem pow57 {i : Nat} (h : i ≤ 8) : 2 ^ (64 - 7 * i) = 128 * 2 ^ (64 - 7 * (i + 1)) := by
  have : 64 - 7 * i = 7 + (64 - 7 * (i + 1)) := by omega
  rw [this, Nat.pow_add]

theorem mulpart (a b p c : Int) (h : c = a + b * 128) : a * p + b * (128 * p) = c * p := by
  rw [h, Int.add_mul, Int.mul_assoc]

theorem tk_sev : ∀ (m i : Nat) (u : Int) (rest : List Int), m < 2 ^ (64 - 7 * i) → i ≤ 9 → (i = 0 ∨ 0 < m) →
    tk i u (sev m ++ rest) = (u + m * 2 ^ (7 * i), (i : Int) + ((sev m).length : Int), 0) := by
  intro m
  induction m using Nat.strongRecOn with
  | _ m ih =>
    intro i u rest hm hi h0
    by_cases hb : m > 127
    · have hi8 : i ≤ 8 := by
        rcases Nat.lt_or_ge i 9 with h | h
        · omega
        · have : i = 9 := by omega
          subst this
          simp at hm
          omega
      have h57 := pow57 hi8
      have hm' : m / 128 < 2 ^ (64 - 7 * (i + 1)) := by omega
      rw [sev_big hb, List.cons_append, tk, if_neg (by omega), if_pos (by omega), ih (m / 128) (by omega) (i + 1) _ rest hm' (by omega) (by omega), pow7, List.length_cons]
      refine Prod.ext ?_ (Prod.ext ?_ rfl)
      · dsimp only
        rw [Int.add_assoc, mulpart _ _ _ (m : Int) (by omega)]
      · show ((i + 1 : Nat) : Int) + ((sev (m / 128)).length : Int) = (i : Int) + (((sev (m / 128)).length + 1 : Nat) : Int)
        omega
    · rw [sev_small (by omega), List.singleton_append, tk]
      have h1 : ¬ (i = 9 ∧ (m : Int) > 1) := by
        rintro ⟨rfl, h⟩
        simp at hm
        omega
      rw [if_neg h1, if_neg (by omega), if_neg (by omega)]
      simp

theorem tk_short : ∀ (m i : Nat) (u : Int) (j : Nat), m < 2 ^ (64 - 7 * i) → i ≤ 9 → j < (sev m).length → tk i u ((sev m).take j) = (0, 0, 10) := by
  intro m
  induction m using Nat.strongRecOn with
  | _ m ih =>
    intro i u j hm hi hj
    cases j with
    | zero => rfl
    | succ j =>
      by_cases hb : m > 127
      · have hi8 : i ≤ 8 := by
          rcases Nat.lt_or_ge i 9 with h | h
          · omega
          · have : i = 9 := by omega
            subst this
            simp at hm
            omega
        have h57 := pow57 hi8
        rw [sev_big hb, List.length_cons] at hj
        rw [sev_big hb, List.take_succ_cons, tk, if_neg (by omega), if_pos (by omega)]
        exact ih (m / 128) (by omega) (i + 1) _ j (by omega) (by omega) (by omega)
      · rw [sev_small (by omega)] at hj
        simp at hj

theorem tk_ok : ∀ (l : List Int) (i : Nat) (u n k : Int), (∀ x ∈ l, 0 ≤ x ∧ x < 256) → i ≤ 9 → tk i u l = (n, k, 0) →
    ∃ m : Nat, m < 2 ^ (64 - 7 * i) ∧ (i = 0 ∨ 0 < m) ∧ n = u + m * 2 ^ (7 * i) ∧ k = (i : Int) + ((sev m).length : Int) ∧ l.take (sev m).length = sev m := by
  intro l
  induction l with
  | nil => intro i u n k _ _ h; simp [tk] at h
  | cons c t ih =>
    intro i u n k hb hi h
    obtain ⟨hc0, hc1⟩ := hb c (by simp)
    rw [tk] at h
    by_cases h1 : i = 9 ∧ c > 1
    · rw [if_pos h1] at h; simp at h
    · rw [if_neg h1] at h
      by_cases h2 : c > 127
      · rw [if_pos h2] at h
        have hi8 : i ≤ 8 := by omega
        obtain ⟨m, hm, hp, hn, hk, ht⟩ := ih (i + 1) _ n k (fun x hx => hb x (by simp [hx])) (by omega) h
        have hp' : 0 < m := by omega
        have h57 := pow57 hi8
        obtain ⟨d, rfl⟩ : ∃ d : Nat, c = ((d + 128 : Nat) : Int) := ⟨(c - 128).toNat, by omega⟩
        have hs : sev (d + 128 * m) = ((d + 128 : Nat) : Int) :: sev m := by
          rw [sev_big (by omega)]
          have e1 : (d + 128 * m) % 128 = d := by omega
          have e2 : (d + 128 * m) / 128 = m := by omega
          rw [e1, e2]
        refine ⟨d + 128 * m, by omega, Or.inr (by omega), ?_, ?_, ?_⟩
        · rw [hn, pow7]
          have e2 : (((d + 128 : Nat) : Int) - 128) = (d : Int) := by omega
          have e3 : ((d + 128 * m : Nat) : Int) = (d : Int) + (m : Int) * 128 := by omega
          rw [e2, e3, Int.add_mul, Int.add_assoc, ← Int.mul_assoc]
        · rw [hk, hs, List.length_cons]; omega
        · rw [hs, List.length_cons, List.take_succ_cons, ht]
      · rw [if_neg h2] at h
        by_cases h3 : c = 0 ∧ i > 0
        · rw [if_pos h3] at h; simp at h
        · rw [if_neg h3] at h
          simp only [Prod.mk.injEq] at h
          obtain ⟨rfl, rfl, _⟩ := h
          obtain ⟨d, rfl⟩ := Int.eq_ofNat_of_zero_le hc0
          have hs : sev d = [(d : Int)] := sev_small (by omega)
          refine ⟨d, ?_, by omega, rfl, by rw [hs]; rfl, by rw [hs]; rfl⟩
          rcases Nat.lt_or_ge i 9 with h | h
          · have h57 := pow57 (show i ≤ 8 by omega)
            have : 0 < 2 ^ (64 - 7 * (i + 1)) := Nat.two_pow_pos _
            omega
          · have : i = 9 := by omega
            subst this
            simp
            omega

/-- The error: none, too short, of another form; and then nothing else. -/
theorem tk_err : ∀ (l : List Int) (i : Nat) (u : Int), (∃ n k, tk i u l = (n, k, 0)) ∨ tk i u l = (0, 0, 10) ∨ tk i u l = (0, 0, 11) := by
  intro l
  induction l with
  | nil => intro i u; exact .inr (.inl rfl)
  | cons c t ih =>
    intro i u
    rw [tk]
    split
    · exact .inr (.inr rfl)
    · split
      · exact ih _ _
      · split
        · exact .inr (.inr rfl)
        · exact .inl ⟨_, _, rfl⟩

/-- Neither of two unlike numbers' bytes begins the other's. -/
theorem sev_prefix {u v : Nat} (hu : u < 18446744073709551616) (hv : v < 18446744073709551616) (h : (sev v).take (sev u).length = sev u) : u = v := by
  have h1 := tk_sev u 0 0 ((sev v).drop (sev u).length) (by simpa using hu) (by omega) (.inl rfl)
  have h2 := tk_sev v 0 0 [] (by simpa using hv) (by omega) (.inl rfl)
  rw [List.append_nil] at h2
  have h3 : sev u ++ (sev v).drop (sev u).length = sev v := by
    conv => lhs; lhs; rw [← h]
    exact List.take_append_drop _ _
  rw [h3, h2] at h1
  have := congrArg Prod.fst h1
  simp at this
  omega
end Go.Proofs.YtkpdcmafpikhgaaDoor.Sevens
