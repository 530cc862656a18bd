-- Laid by a program (wip/tools/gprint.py over the kit's printer) out of the translation. Lean checks it.
import Derived.Test.YtijcoddbkefmlaaLx0
import Derived.Test.YtijcoddbkefmlaaLx3
import Derived.Test.YtijcoddbkefmlaaLx4
namespace Go.Proofs.Ytijcoddbkefmlaa.L
open Go.RowKit Go.Proofs.YtijcoddbkefmlaaW.PrintWords Go.Proofs.YtijcoddbkefmlaaW.PrintLast Go.Proofs.YtijcoddbkefmlaaW.PrintMore
attribute [local go_sem] max2_int min2_int max_two min_two max_three min_three max_four min_four   -- for this text's walks alone
set_option linter.unusedVariables false
set_option linter.unusedSimpArgs false

/-! ### lex_IsName: function 13 -/

/-- May this byte stand at this place of a name? -/
def nmB (i : Nat) (c : Int) : Prop := clsv c = 3 ∨ (i ≠ 0 ∧ (clsv c = 2 ∨ clsv c = 5))
instance (i : Nat) (c : Int) : Decidable (nmB i c) := inferInstanceAs (Decidable (_ ∨ _))
def nmAll (s : ByteArray) : Bool := decide (∀ i, i < s.size → nmB i (bt s i))
theorem nmB_of_3 {c : Int} {p : Nat} (h : clsv c = 3) : nmB p c := .inl h
theorem nmB_of_2 {c : Int} {p : Nat} (hp : p ≠ 0) (h : clsv c = 2) : nmB p c := .inr ⟨hp, .inl h⟩
theorem nmB_of_5 {c : Int} {p : Nat} (hp : p ≠ 0) (h : clsv c = 5) : nmB p c := .inr ⟨hp, .inr h⟩
def lex_IsName.f (k : Nat) (a0 : ByteArray) : Option (Bool) := if nmAll a0 = true then (if (a0.size : Int) ≥ 1 then (if (a0.size : Int) ≤ 12 then ((lex_isWord.f k a0).bind fun t => (some (!t))) else (some false)) else (some false)) else (some false)
theorem lex_IsName.mono : ∀ a0 k, LeO (lex_IsName.f k a0) (lex_IsName.f (k + 1) a0) := by
  intro a0 k
  unfold lex_IsName.f
  repeat' first
      | (with_reducible exact LeO.refl _)
      | (with_reducible exact LeO.none _)
      | (with_reducible exact lex_isWord.mono _ _)
      | (with_reducible refine LeO.ite ?_ ?_)
      | (with_reducible refine LeO.bind ?_ (fun _ => ?_))
theorem lex_IsName_yes (s : ByteArray) (p n : Nat) (w : World) (hp : p < s.size) (h : nmB p (bt s p)) (ha : ∀ i, i < p → nmB i (bt s i)) : (p + (Utf8.decode s p).2 = p + 1) ∧ (∀ i, i < p + 1 → nmB i (bt s i)) := by
  have hr := rune_cls s p hp
  have hlt : bt s p < 128 := by
    by_cases h1 : bt s p < 128
    · exact h1
    · have := clsv_high (c := bt s p) (by omega)
      unfold nmB at h
      omega
  rw [hr.2 hlt]
  refine ⟨rfl, fun i hi => ?_⟩
  by_cases e : i = p
  · subst e; exact h
  · exact ha i (by omega)
theorem lex_IsName_no (s : ByteArray) (p : Nat) (hp : p < s.size) (h : ¬ nmB p (bt s p)) : nmAll s = false := by
  unfold nmAll
  rw [decide_eq_false_iff_not]
  exact fun hh => h (hh p hp)
set_option maxHeartbeats 8000000 in
set_option maxRecDepth 100000 in
theorem lex_IsName.calls (k : Nat) (a0 : ByteArray) (r : Bool) (w : World) (h : lex_IsName.f k a0 = some r) :
    Calls Try.prog 13 #[.string a0] w fun e w' => e = .returned (.bool r) ∧ Below w.heap.size w w' := by
  have HX := Aside0.mk h
  clear h
  go_enter Try.func13, Try.ntmps13
  go_wp2
  go_loopw [] (fun w' => ∃ (n p : Nat), w' = (w.iter a0 p).drewN n ∧ p ≤ a0.size ∧ Aside0 (∀ i, i < p → nmB i (bt a0 i))) (fun w' => a0.size - w'.iterPos w.heap.size)
  case atStart => exact ⟨0, 0, rfl, Nat.zero_le _, ⟨fun i hi => by omega⟩⟩
  case round =>
    obtain ⟨n, p, rfl, hp, HA⟩ := hrel
    by_cases hlt : p < a0.size
    · have hnx : ∀ ty, (Instr.next (.pointer (some ⟨w.heap.size, 0, none⟩)) true ty).run Try.prog ((w.iter a0 p).drewN n) = _ := fun ty => iter_drew_next w n a0 p ty hlt
      have HR := Aside0.mk (rune_cls a0 p hlt)
      obtain ⟨rv, hrv⟩ : ∃ rv : Int, rv = (((Utf8.decode a0 p).1 : Nat) : Int) := ⟨_, rfl⟩
      obtain ⟨wd, hwd⟩ : ∃ wd : Nat, wd = (Utf8.decode a0 p).2 := ⟨_, rfl⟩
      rw [← hrv] at HR hnx
      rw [← hwd] at hnx
      have hrv0 : 0 ≤ rv := by omega
      have HV := Aside0.mk hrv
      have HW := Aside0.mk hwd
      clear hrv hwd
      have hcl := class_val hrv0 0
      obtain ⟨cv, hcv⟩ : ∃ cv : Int, cv = clsv rv := ⟨_, rfl⟩
      rw [← hcv] at hcl
      have HC := Aside0.mk hcv
      have HL := Aside0.mk hcl
      clear hcv hcl
      have hkey : clsv (bt a0 p) = cv := HR.out.1.symm.trans HC.out.symm
      have HKEY := Aside0.mk hkey
      clear hkey
      by_cases c3 : cv = 3
      · have c3a : (cv == 3) = true := beq_iff_eq.mpr c3
        have c3b : (cv != 3) = false := bne_eq_false_iff_eq.mpr c3
        have HE := Aside0.mk c3
        clear c3
        go_wp2_with (go_at_call 19; (with_reducible refine (lex_class.calls 4 rv cv _ HL.out).mono ?_); rintro e w' ⟨rfl, ⟨m, rfl⟩⟩)
        go_roundw
        case rel =>
          obtain ⟨e1, e2⟩ := lex_IsName_yes a0 p n w hlt (nmB_of_3 (HKEY.out.trans HE.out)) HA.out
          rw [← HW.out] at e1
          exact ⟨n + m, p + wd, (by first | rfl | exact World.drewN_drewN _ _ _), (by omega), ⟨by rw [e1]; exact e2⟩⟩
        case measure =>
          obtain ⟨e1, _⟩ := lex_IsName_yes a0 p n w hlt (nmB_of_3 (HKEY.out.trans HE.out)) HA.out
          rw [← HW.out] at e1
          first | (rw [World.drewN_drewN, iter_pos, iter_pos]; omega) | (rw [iter_pos, iter_pos]; omega) | (simp [iter_pos]; omega)
      · have c3a : (cv == 3) = false := beq_eq_false_iff_ne.mpr c3
        have c3b : (cv != 3) = true := bne_iff_ne.mpr c3
        have HE3 := Aside0.mk c3
        clear c3
        by_cases p0 : p = 0
        · subst p0
          have HN := Aside0.mk (lex_IsName_no a0 _ hlt (by intro hh; rcases hh with h | h; exact HE3.out (HKEY.out.symm.trans h); exact h.1 rfl))
          have hr : r = false := by
            have hx := HX.out
            unfold lex_IsName.f at hx
            rw [HN.out, if_neg (by simp)] at hx
            exact (Option.some.inj hx).symm
          subst hr
          go_wp2_with (go_at_call 19; (with_reducible refine (lex_class.calls 4 rv cv _ HL.out).mono ?_); rintro e w' ⟨rfl, ⟨m, rfl⟩⟩)
          go_ret
          exact ⟨rfl, by first | exact iter_below _ _ _ _ | (rw [World.drewN_drewN]; exact iter_below _ _ _ _) | exact pw_below_drewN (iter_below _ _ _ _) _⟩
        · have p0i : ¬ ((p : Int) = 0) := by omega
          have p0ia : ((p : Int) == 0) = false := beq_eq_false_iff_ne.mpr p0i
          have p0ib : ((p : Int) != 0) = true := bne_iff_ne.mpr p0i
          have HP := Aside0.mk p0
          clear p0 p0i
          by_cases c2 : cv = 2
          · have c2a : (cv == 2) = true := beq_iff_eq.mpr c2
            have c2b : (cv != 2) = false := bne_eq_false_iff_eq.mpr c2
            have HE := Aside0.mk c2
            clear c2
            go_wp2_with (go_at_call 19; (with_reducible refine (lex_class.calls 4 rv cv _ HL.out).mono ?_); rintro e w' ⟨rfl, ⟨m, rfl⟩⟩)
            go_roundw
            case rel =>
              obtain ⟨e1, e2⟩ := lex_IsName_yes a0 p n w hlt (nmB_of_2 HP.out (HKEY.out.trans HE.out)) HA.out
              rw [← HW.out] at e1
              exact ⟨n + m, p + wd, (by first | rfl | exact World.drewN_drewN _ _ _), (by omega), ⟨by rw [e1]; exact e2⟩⟩
            case measure =>
              obtain ⟨e1, _⟩ := lex_IsName_yes a0 p n w hlt (nmB_of_2 HP.out (HKEY.out.trans HE.out)) HA.out
              rw [← HW.out] at e1
              first | (rw [World.drewN_drewN, iter_pos, iter_pos]; omega) | (rw [iter_pos, iter_pos]; omega) | (simp [iter_pos]; omega)
          · have c2a : (cv == 2) = false := beq_eq_false_iff_ne.mpr c2
            have c2b : (cv != 2) = true := bne_iff_ne.mpr c2
            have HE2 := Aside0.mk c2
            clear c2
            by_cases c5 : cv = 5
            · have c5a : (cv == 5) = true := beq_iff_eq.mpr c5
              have c5b : (cv != 5) = false := bne_eq_false_iff_eq.mpr c5
              have HE := Aside0.mk c5
              clear c5
              go_wp2_with (go_at_call 19; (with_reducible refine (lex_class.calls 4 rv cv _ HL.out).mono ?_); rintro e w' ⟨rfl, ⟨m, rfl⟩⟩)
              go_roundw
              case rel =>
                obtain ⟨e1, e2⟩ := lex_IsName_yes a0 p n w hlt (nmB_of_5 HP.out (HKEY.out.trans HE.out)) HA.out
                rw [← HW.out] at e1
                exact ⟨n + m, p + wd, (by first | rfl | exact World.drewN_drewN _ _ _), (by omega), ⟨by rw [e1]; exact e2⟩⟩
              case measure =>
                obtain ⟨e1, _⟩ := lex_IsName_yes a0 p n w hlt (nmB_of_5 HP.out (HKEY.out.trans HE.out)) HA.out
                rw [← HW.out] at e1
                first | (rw [World.drewN_drewN, iter_pos, iter_pos]; omega) | (rw [iter_pos, iter_pos]; omega) | (simp [iter_pos]; omega)
            · have c5a : (cv == 5) = false := beq_eq_false_iff_ne.mpr c5
              have c5b : (cv != 5) = true := bne_iff_ne.mpr c5
              have HE5 := Aside0.mk c5
              clear c5
              have HN := Aside0.mk (lex_IsName_no a0 _ hlt (by intro hh; rcases hh with h | ⟨_, h | h⟩; exact HE3.out (HKEY.out.symm.trans h); exact HE2.out (HKEY.out.symm.trans h); exact HE5.out (HKEY.out.symm.trans h)))
              have hr : r = false := by
                have hx := HX.out
                unfold lex_IsName.f at hx
                rw [HN.out, if_neg (by simp)] at hx
                exact (Option.some.inj hx).symm
              subst hr
              go_wp2_with (go_at_call 19; (with_reducible refine (lex_class.calls 4 rv cv _ HL.out).mono ?_); rintro e w' ⟨rfl, ⟨m, rfl⟩⟩)
              go_ret
              exact ⟨rfl, by first | exact iter_below _ _ _ _ | (rw [World.drewN_drewN]; exact iter_below _ _ _ _) | exact pw_below_drewN (iter_below _ _ _ _) _⟩
    · have hnx : ∀ ty, (Instr.next (.pointer (some ⟨w.heap.size, 0, none⟩)) true ty).run Try.prog ((w.iter a0 p).drewN n) = _ := fun ty => iter_drew_end w n a0 p ty hlt
      have HT : Aside0 (nmAll a0 = true) := ⟨by unfold nmAll; rw [decide_eq_true_iff]; exact fun i hi => HA.out i (by omega)⟩
      have hx := HX.out
      unfold lex_IsName.f at hx
      rw [if_pos HT.out] at hx
      by_cases s1 : (a0.size : Int) ≥ 1
      · rw [if_pos s1] at hx
        have s1b : decide ((1 : Int) ≤ (a0.size : Int)) = true := decide_eq_true s1
        have s1c : decide (1 ≤ a0.size) = true := decide_eq_true (by omega)
        clear s1
        by_cases s2 : (a0.size : Int) ≤ 12
        · rw [if_pos s2] at hx
          have s2b : decide ((a0.size : Int) ≤ 12) = true := decide_eq_true s2
          have s2c : decide (a0.size ≤ 12) = true := decide_eq_true (by omega)
          clear s2
          obtain ⟨t, ht, hx⟩ := Option.bind_eq_some_iff.mp hx
          obtain rfl := Option.some.inj hx
          clear hx
          have HT2 := Aside0.mk ht
          clear ht
          go_wp2_with (go_at_call 22; (with_reducible refine (lex_isWord.calls k a0 t _ HT2.out).mono ?_); rintro e w1 ⟨rfl, hb1⟩; have HB1 := Aside0.mk hb1; clear hb1)
          go_ret
          exact ⟨rfl, below_then (iter_below _ _ _ _) (iter_below _ _ _ _).size HB1.out⟩
        · rw [if_neg s2] at hx
          have s2b : decide ((a0.size : Int) ≤ 12) = false := decide_eq_false s2
          have s2c : decide (a0.size ≤ 12) = false := decide_eq_false (by omega)
          clear s2
          obtain rfl := Option.some.inj hx
          go_wp2
          go_ret
          exact ⟨rfl, iter_below _ _ _ _⟩
      · rw [if_neg s1] at hx
        have s1b : decide ((1 : Int) ≤ (a0.size : Int)) = false := decide_eq_false s1
        have s1c : decide (1 ≤ a0.size) = false := decide_eq_false (by omega)
        clear s1
        obtain rfl := Option.some.inj hx
        go_wp2
        go_ret
        exact ⟨rfl, iter_below _ _ _ _⟩

/-! ### lex_run: function 31 -/

/-- Does a byte belong to the front that the closure of this number asks for? -/
def leadP (g : Nat) (c : Int) : Bool := if g = 32 then clsv c == 2 else (decide (2 ≤ clsv c) && decide (clsv c ≤ 5))
def lead (g : Nat) (s : ByteArray) : Int := (((bytesOf s).takeWhile (leadP g)).length : Int)
theorem lead_yes (g : Nat) (s : ByteArray) (p : Nat) (hp : p < s.size) (h : leadP g (bt s p) = true) (ha : ∀ i, i < p → leadP g (bt s i) = true) : (p + (Utf8.decode s p).2 = p + 1) ∧ (∀ i, i < p + 1 → leadP g (bt s i) = true) := by
  have hr := rune_cls s p hp
  have hlt : bt s p < 128 := by
    by_cases h1 : bt s p < 128
    · exact h1
    · have := clsv_high (c := bt s p) (by omega)
      unfold leadP at h
      rw [this] at h
      split at h <;> simp at h
  rw [hr.2 hlt]
  refine ⟨rfl, fun i hi => ?_⟩
  by_cases e : i = p
  · subst e; exact h
  · exact ha i (by omega)
theorem bytes_at (s : ByteArray) (i : Nat) (h : i < s.size) : (bytesOf s)[i]'(by rw [bytesOf_length]; exact h) = bt s i := by
  have := rd_bytesOf s (i : Int)
  rw [← this]
  unfold rd
  have hl : i < (bytesOf s).length := by rw [bytesOf_length]; exact h
  rw [show ((i : Int)).toNat = i from rfl]
  simp [List.getD, hl]
theorem takeWhile_at (q : Int → Bool) : ∀ (l : List Int) (p : Nat) (_ : p ≤ l.length), (∀ i (h : i < l.length), i < p → q l[i] = true) → (∀ (h : p < l.length), q l[p] = false) → (l.takeWhile q).length = p := by
  intro l
  induction l with
  | nil => intro p hp _ _; simp at hp; simp [hp]
  | cons c t ih =>
    intro p hp ha hn
    cases p with
    | zero =>
      have := hn (by simp)
      simp only [List.getElem_cons_zero] at this
      rw [List.takeWhile_cons, this]
      rfl
    | succ p =>
      have h0 := ha 0 (by simp) (by omega)
      simp only [List.getElem_cons_zero] at h0
      rw [List.takeWhile_cons, h0, if_pos rfl, List.length_cons, ih p (by simpa using hp) (fun i h hi => by have := ha (i + 1) (by simpa using h) (by omega); simpa using this) (fun h => by have := hn (by simpa using h); simpa using this)]
theorem lead_at (g : Nat) (s : ByteArray) (p : Nat) (hp : p ≤ s.size) (ha : ∀ i, i < p → leadP g (bt s i) = true) (hn : p < s.size → leadP g (bt s p) = false) : lead g s = (p : Int) := by
  unfold lead
  rw [takeWhile_at (leadP g) (bytesOf s) p (by rw [bytesOf_length]; exact hp) (fun i h hi => by rw [bytes_at s i (by rw [bytesOf_length] at h; exact h)]; exact ha i hi) (fun h => by rw [bytes_at s p (by rw [bytesOf_length] at h; exact h)]; exact hn (by rw [bytesOf_length] at h; exact h))]
def lex_run.f (a0 : ByteArray) (a1 : Nat) : Option (Int) := if a1 = 32 then some (lead 32 a0) else if a1 = 34 then some (lead 34 a0) else none

set_option maxHeartbeats 8000000 in
set_option maxRecDepth 100000 in
theorem lex_run.calls_32 (a0 : ByteArray) (w : World) :
    Calls Try.prog 31 #[.string a0, fnv 32] w fun e w' => e = .returned (.int .i64 (lead 32 a0)) ∧ Below w.heap.size w w' := by
  go_enter Try.func31, Try.ntmps31
  go_wp2
  go_loopw [] (fun w' => ∃ (n p : Nat), w' = (w.iter a0 p).drewN n ∧ p ≤ a0.size ∧ Aside0 (∀ i, i < p → leadP 32 (bt a0 i) = true)) (fun w' => a0.size - w'.iterPos w.heap.size)
  case atStart => exact ⟨0, 0, rfl, Nat.zero_le _, ⟨fun i hi => by omega⟩⟩
  case round =>
    obtain ⟨n, p, rfl, hp, HA⟩ := hrel
    by_cases hlt : p < a0.size
    · have hnx : ∀ ty, (Instr.next (.pointer (some ⟨w.heap.size, 0, none⟩)) true ty).run Try.prog ((w.iter a0 p).drewN n) = _ := fun ty => iter_drew_next w n a0 p ty hlt
      have HR := Aside0.mk (rune_cls a0 p hlt)
      obtain ⟨rv, hrv⟩ : ∃ rv : Int, rv = (((Utf8.decode a0 p).1 : Nat) : Int) := ⟨_, rfl⟩
      obtain ⟨wd, hwd⟩ : ∃ wd : Nat, wd = (Utf8.decode a0 p).2 := ⟨_, rfl⟩
      rw [← hrv] at HR hnx
      rw [← hwd] at hnx
      have hrv0 : 0 ≤ rv := by omega
      have HV := Aside0.mk hrv
      have HW := Aside0.mk hwd
      clear hrv hwd
      have hcl := class_val hrv0 0
      obtain ⟨cv, hcv⟩ : ∃ cv : Int, cv = clsv rv := ⟨_, rfl⟩
      rw [← hcv] at hcl
      have HKEY := Aside0.mk (show clsv (bt a0 p) = cv from HR.out.1.symm.trans hcv.symm)
      have HL := Aside0.mk hcl
      clear hcv hcl
      by_cases cc : cv = 2
      · have HY := Aside0.mk (show leadP 32 (bt a0 p) = true from by unfold leadP; rw [HKEY.out]; simp; omega)
        have f1 : (cv == 2) = true := beq_iff_eq.mpr cc
        clear cc
        go_wp2_with (first | (go_at_call 19; (with_reducible refine (lex_class.calls 4 rv cv _ HL.out).mono ?_); rintro e w' ⟨rfl, ⟨m, rfl⟩⟩) | go_in)
        go_roundw
        case rel =>
          obtain ⟨e1, e2⟩ := lead_yes 32 a0 p hlt HY.out HA.out
          rw [← HW.out] at e1
          exact ⟨n + m, p + wd, (by first | rfl | exact World.drewN_drewN _ _ _), (by omega), ⟨by rw [e1]; exact e2⟩⟩
        case measure =>
          obtain ⟨e1, _⟩ := lead_yes 32 a0 p hlt HY.out HA.out
          rw [← HW.out] at e1
          first | (rw [World.drewN_drewN, iter_pos, iter_pos]; omega) | (rw [iter_pos, iter_pos]; omega) | (simp [iter_pos]; omega)
      · have HN := Aside0.mk (show leadP 32 (bt a0 p) = false from by unfold leadP; rw [HKEY.out]; simp; omega)
        · have f1 : (cv == 2) = false := beq_eq_false_iff_ne.mpr cc
          clear cc
          go_wp2_with (first | (go_at_call 19; (with_reducible refine (lex_class.calls 4 rv cv _ HL.out).mono ?_); rintro e w' ⟨rfl, ⟨m, rfl⟩⟩) | go_in)
          go_ret
          exact ⟨by rw [lead_at 32 a0 p hp HA.out (fun _ => HN.out)]; rfl, by first | exact iter_below _ _ _ _ | (rw [World.drewN_drewN]; exact iter_below _ _ _ _) | exact pw_below_drewN (iter_below _ _ _ _) _⟩
    · have hnx : ∀ ty, (Instr.next (.pointer (some ⟨w.heap.size, 0, none⟩)) true ty).run Try.prog ((w.iter a0 p).drewN n) = _ := fun ty => iter_drew_end w n a0 p ty hlt
      have HZ := Aside0.mk (show p = a0.size by omega)
      go_wp2
      go_ret
      exact ⟨by rw [lead_at 32 a0 p hp HA.out (fun h => absurd h hlt), HZ.out]; rfl, iter_below _ _ _ _⟩


set_option maxHeartbeats 8000000 in
set_option maxRecDepth 100000 in
theorem lex_run.calls_34 (a0 : ByteArray) (w : World) :
    Calls Try.prog 31 #[.string a0, fnv 34] w fun e w' => e = .returned (.int .i64 (lead 34 a0)) ∧ Below w.heap.size w w' := by
  go_enter Try.func31, Try.ntmps31
  go_wp2
  go_loopw [] (fun w' => ∃ (n p : Nat), w' = (w.iter a0 p).drewN n ∧ p ≤ a0.size ∧ Aside0 (∀ i, i < p → leadP 34 (bt a0 i) = true)) (fun w' => a0.size - w'.iterPos w.heap.size)
  case atStart => exact ⟨0, 0, rfl, Nat.zero_le _, ⟨fun i hi => by omega⟩⟩
  case round =>
    obtain ⟨n, p, rfl, hp, HA⟩ := hrel
    by_cases hlt : p < a0.size
    · have hnx : ∀ ty, (Instr.next (.pointer (some ⟨w.heap.size, 0, none⟩)) true ty).run Try.prog ((w.iter a0 p).drewN n) = _ := fun ty => iter_drew_next w n a0 p ty hlt
      have HR := Aside0.mk (rune_cls a0 p hlt)
      obtain ⟨rv, hrv⟩ : ∃ rv : Int, rv = (((Utf8.decode a0 p).1 : Nat) : Int) := ⟨_, rfl⟩
      obtain ⟨wd, hwd⟩ : ∃ wd : Nat, wd = (Utf8.decode a0 p).2 := ⟨_, rfl⟩
      rw [← hrv] at HR hnx
      rw [← hwd] at hnx
      have hrv0 : 0 ≤ rv := by omega
      have HV := Aside0.mk hrv
      have HW := Aside0.mk hwd
      clear hrv hwd
      have hcl := class_val hrv0 0
      obtain ⟨cv, hcv⟩ : ∃ cv : Int, cv = clsv rv := ⟨_, rfl⟩
      rw [← hcv] at hcl
      have HKEY := Aside0.mk (show clsv (bt a0 p) = cv from HR.out.1.symm.trans hcv.symm)
      have HL := Aside0.mk hcl
      clear hcv hcl
      by_cases cc : 2 ≤ cv ∧ cv ≤ 5
      · have HY := Aside0.mk (show leadP 34 (bt a0 p) = true from by unfold leadP; rw [HKEY.out]; simp; omega)
        have f1 : decide (2 ≤ cv) = true := decide_eq_true cc.1
        have f2 : decide (cv ≤ 5) = true := decide_eq_true cc.2
        clear cc
        go_wp2_with (first | (go_at_call 19; (with_reducible refine (lex_class.calls 4 rv cv _ HL.out).mono ?_); rintro e w' ⟨rfl, ⟨m, rfl⟩⟩) | go_in)
        go_roundw
        case rel =>
          obtain ⟨e1, e2⟩ := lead_yes 34 a0 p hlt HY.out HA.out
          rw [← HW.out] at e1
          exact ⟨n + m, p + wd, (by first | rfl | exact World.drewN_drewN _ _ _), (by omega), ⟨by rw [e1]; exact e2⟩⟩
        case measure =>
          obtain ⟨e1, _⟩ := lead_yes 34 a0 p hlt HY.out HA.out
          rw [← HW.out] at e1
          first | (rw [World.drewN_drewN, iter_pos, iter_pos]; omega) | (rw [iter_pos, iter_pos]; omega) | (simp [iter_pos]; omega)
      · have HN := Aside0.mk (show leadP 34 (bt a0 p) = false from by unfold leadP; rw [HKEY.out]; simp; omega)
        rcases (show (2 ≤ cv ∧ ¬ cv ≤ 5) ∨ ¬ 2 ≤ cv by omega) with ⟨g1, g2⟩ | g1
        · have f1 : decide (2 ≤ cv) = true := decide_eq_true g1
          have f2 : decide (cv ≤ 5) = false := decide_eq_false g2
          clear g1 g2
          clear cc
          go_wp2_with (first | (go_at_call 19; (with_reducible refine (lex_class.calls 4 rv cv _ HL.out).mono ?_); rintro e w' ⟨rfl, ⟨m, rfl⟩⟩) | go_in)
          go_ret
          exact ⟨by rw [lead_at 34 a0 p hp HA.out (fun _ => HN.out)]; rfl, by first | exact iter_below _ _ _ _ | (rw [World.drewN_drewN]; exact iter_below _ _ _ _) | exact pw_below_drewN (iter_below _ _ _ _) _⟩
        · have f1 : decide (2 ≤ cv) = false := decide_eq_false g1
          clear g1
          clear cc
          go_wp2_with (first | (go_at_call 19; (with_reducible refine (lex_class.calls 4 rv cv _ HL.out).mono ?_); rintro e w' ⟨rfl, ⟨m, rfl⟩⟩) | go_in)
          go_ret
          exact ⟨by rw [lead_at 34 a0 p hp HA.out (fun _ => HN.out)]; rfl, by first | exact iter_below _ _ _ _ | (rw [World.drewN_drewN]; exact iter_below _ _ _ _) | exact pw_below_drewN (iter_below _ _ _ _) _⟩
    · have hnx : ∀ ty, (Instr.next (.pointer (some ⟨w.heap.size, 0, none⟩)) true ty).run Try.prog ((w.iter a0 p).drewN n) = _ := fun ty => iter_drew_end w n a0 p ty hlt
      have HZ := Aside0.mk (show p = a0.size by omega)
      go_wp2
      go_ret
      exact ⟨by rw [lead_at 34 a0 p hp HA.out (fun h => absurd h hlt), HZ.out]; rfl, iter_below _ _ _ _⟩

theorem lex_run.calls (a0 : ByteArray) (a1 : Nat) (r : Int) (w : World) (h : lex_run.f a0 a1 = some r) :
    Calls Try.prog 31 #[.string a0, fnv a1] w fun e w' => e = .returned (.int .i64 r) ∧ Below w.heap.size w w' := by
  unfold lex_run.f at h
  by_cases h1 : a1 = 32
  · subst h1
    rw [if_pos rfl] at h
    obtain rfl := Option.some.inj h
    exact lex_run.calls_32 a0 w
  · rw [if_neg h1] at h
    by_cases h2 : a1 = 34
    · subst h2
      rw [if_pos rfl] at h
      obtain rfl := Option.some.inj h
      exact lex_run.calls_34 a0 w
    · rw [if_neg h2] at h; cases h

end Go.Proofs.Ytijcoddbkefmlaa.L
