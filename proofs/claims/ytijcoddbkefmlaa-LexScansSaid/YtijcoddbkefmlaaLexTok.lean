/- The token at the front of a text: what the functions of layer 11 compute, the program's and the document's. -/
import Derived.Test.YtijcoddbkefmlaaLexNum
import Derived.Test.YtijcoddbkefmlaaLx7
import Derived.Test.YtijcoddbkefmlaaLx14
namespace Go.Proofs.Ytijcoddbkefmlaa.Lex
open Go.RowKit Go.Proofs.YtijcoddbkefmlaaW.PrintWords Go.Proofs.YtijcoddbkefmlaaW.PrintMore Go.Proofs.Ytijcoddbkefmlaa.L Go.Proofs.Ytijcoddbkefmlaa.Str

/-- How many bytes at the front are of a kind. -/
def fr (p : Int → Bool) (x : ByteArray) : Nat := ((bytesOf x).takeWhile p).length
def sg (c : Int) : Bool := [40, 41, 123, 125, 44, 58, 64, 43, 45, 42, 47, 37, 61, 60].any fun d => decide (d = c)
def two (x : ByteArray) : Bool := decide (2 ≤ x.size ∧ ((bt x 0 = 33 ∧ bt x 1 = 61) ∨ (bt x 0 = 60 ∧ bt x 1 = 61)))
def emp : ByteArray := ⟨#[]⟩
/-- The token at the front of a text: kind, number, text, length, error. -/
def tokV (x : ByteArray) : Int × Int × ByteArray × Nat × Int :=
  if dg (bt x 0) = true then (match numV (x.extract 0 (fr dg x)) with | some n => (1, n, emp, fr dg x, 0) | none => (0, 0, emp, 0, 111))
  else if (sm (bt x 0) || gr (bt x 0)) = true then (if isW (x.extract 0 (fr wd x)) = true then (3, 0, x.extract 0 (fr wd x), fr wd x, 0) else if nameOK (x.extract 0 (fr wd x)) = true then (2, 0, x.extract 0 (fr wd x), fr wd x, 0) else (0, 0, emp, 0, 112))
  else if two x = true then (4, 0, x.extract 0 2, 2, 0) else if sg (bt x 0) = true then (4, 0, x.extract 0 1, 1, 0) else (0, 0, emp, 0, 110)

theorem leadP_d (c : Int) : leadP 32 c = dg c := by
  unfold leadP dg
  rw [if_pos rfl, Bool.eq_iff_iff, beq_iff_eq, decide_eq_true_iff]
  exact clsv_two c
theorem leadP_w (c : Int) : leadP 34 c = wd c := by
  unfold leadP wd dg sm gr
  rw [if_neg (by decide), Bool.eq_iff_iff]
  simp only [Bool.and_eq_true, Bool.or_eq_true, decide_eq_true_eq]
  have := clsv_word c
  omega
theorem lead_d (x : ByteArray) : lead 32 x = (fr dg x : Int) := by
  unfold lead fr
  rw [show leadP 32 = dg from funext leadP_d]
theorem lead_w (x : ByteArray) : lead 34 x = (fr wd x : Int) := by
  unfold lead fr
  rw [show leadP 34 = wd from funext leadP_w]
theorem fr_le (p : Int → Bool) (x : ByteArray) : fr p x ≤ x.size := by
  unfold fr
  rw [← bytesOf_length]
  exact (List.takeWhile_prefix p).length_le
theorem fr_pos {p : Int → Bool} {x : ByteArray} (h : 0 < x.size) (h0 : p (bt x 0) = true) : 0 < fr p x := by
  unfold fr
  have := drop_bytes x 0 h
  rw [List.drop_zero] at this
  rw [this, show (((0 : Nat)) : Int) = 0 from rfl, List.takeWhile_cons, h0]
  simp
theorem cls6_all : ∀ n : Nat, n < 256 → (clsv (n : Int) = 6 ↔ (sg (n : Int) = true ∨ (n : Int) = 33)) := by decide +kernel
theorem cls6 {c : Int} (h0 : 0 ≤ c) (h : c < 256) : clsv c = 6 ↔ (sg c = true ∨ c = 33) := by
  obtain ⟨n, rfl⟩ := Int.eq_ofNat_of_zero_le h0
  exact cls6_all n (by omega)
theorem cls4 (c : Int) : clsv c = 4 ↔ (65 ≤ c ∧ c ≤ 90) := by
  unfold clsv cls0 cls1 cls2 cls3
  repeat' split
  all_goals omega

theorem bytes_two {x : ByteArray} (h : 2 ≤ x.size) : (bytesOf x).take 2 = [bt x 0, bt x 1] := by
  have h0 := drop_bytes x 0 (by omega)
  have h1 := drop_bytes x 1 (by omega)
  rw [List.drop_zero] at h0
  rw [h0, h1]
  rfl
theorem bytes_one {x : ByteArray} (h : 1 ≤ x.size) : (bytesOf x).take 1 = [bt x 0] := by
  have h0 := drop_bytes x 0 (by omega)
  rw [List.drop_zero] at h0
  rw [h0]
  rfl
theorem ext_two {x : ByteArray} (h : 2 ≤ x.size) (a b : UInt8) : (x.extract 0 2).toList = [a, b] ↔ (bt x 0 = (a.toNat : Int) ∧ bt x 1 = (b.toNat : Int)) := by
  have e : ([a, b] : List UInt8) = (⟨#[a, b]⟩ : ByteArray).toList := by rw [toList_data]
  rw [e, toList_iff]
  have hb : bytesOf (⟨#[a, b]⟩ : ByteArray) = [(a.toNat : Int), (b.toNat : Int)] := rfl
  have hx : bytesOf (x.extract 0 2) = [bt x 0, bt x 1] := by rw [bytes_extract, List.drop_zero, bytes_two h]
  constructor
  · intro hh
    rw [hh, hb] at hx
    simp only [List.cons.injEq, and_true] at hx
    exact ⟨hx.1.symm, hx.2.symm⟩
  · intro hh
    apply ext_bytes
    rw [hx, hb, hh.1, hh.2]
theorem prefix_f (x : ByteArray) (a b : UInt8) : strings_HasPrefix.f x (⟨#[a, b]⟩ : ByteArray) = some (decide (2 ≤ x.size ∧ bt x 0 = (a.toNat : Int) ∧ bt x 1 = (b.toNat : Int))) := by
  unfold strings_HasPrefix.f stringslite_HasPrefix.f
  have hs : (⟨#[a, b]⟩ : ByteArray).size = 2 := rfl
  have hl : (⟨#[a, b]⟩ : ByteArray).toList = [a, b] := by rw [toList_data]
  rw [hs, hl]
  by_cases h : 2 ≤ x.size
  · rw [if_pos (by omega), if_pos (by omega), if_pos (by omega), bs]
    congr 1
    rw [Bool.eq_iff_iff, beq_iff_eq, decide_eq_true_iff, show (((2 : Nat) : Int)).toNat = 2 from rfl, ext_two h]
    exact ⟨fun hh => ⟨h, hh⟩, fun hh => hh.2⟩
  · rw [if_neg (by omega), bs, decide_eq_false (fun hh => h hh.1)]

theorem mem_tw (p : Int → Bool) : ∀ (l : List Int) (c : Int), c ∈ l.takeWhile p → p c = true := by
  intro l
  induction l with
  | nil => intro c h; simp at h
  | cons a t ih =>
    intro c h
    rw [List.takeWhile_cons] at h
    by_cases ha : p a = true
    · rw [ha, if_pos rfl] at h
      rcases List.mem_cons.1 h with rfl | h
      · exact ha
      · exact ih c h
    · rw [if_neg ha] at h
      simp at h
theorem next_f {x : ByteArray} (h : 0 < x.size) {k : Nat} (hk : 40 ≤ k) :
    lex_next.f k x = some ((tokV x).1, (tokV x).2.1, (tokV x).2.2.1, 0, ((tokV x).2.2.2.1 : Int), (tokV x).2.2.2.2) := by
  have hb := bt_range x 0
  have hw : wrap32 (bt x 0) = bt x 0 := by unfold wrap32; omega
  have hcl : lex_class.f k (bt x 0) = some (clsv (bt x 0)) := by
    obtain ⟨j, rfl⟩ : ∃ j, k = j + 4 := ⟨k - 4, by omega⟩
    exact class_val hb.1 j
  obtain ⟨k, rfl⟩ : ∃ m, k = m + 2 := ⟨k - 2, by omega⟩
  unfold lex_next.f tokV
  rw [if_pos (by omega), hw, hcl, bs]
  by_cases h2 : clsv (bt x 0) = 2
  · have hd : dg (bt x 0) = true := by unfold dg; rw [decide_eq_true_iff]; exact (clsv_two _).1 h2
    rw [if_pos h2, if_pos hd]
    have hr : lex_run.f x 32 = some (fr dg x : Int) := by unfold lex_run.f; rw [if_pos rfl, lead_d]
    have hfl := fr_le dg x
    have hfp := fr_pos (p := dg) h hd
    rw [hr, bs, if_pos (by omega), if_pos (by omega), show ((fr dg x : Nat) : Int).toNat = fr dg x from rfl]
    have hsz : (x.extract 0 (fr dg x)).size = fr dg x := by rw [ByteArray.size_extract]; omega
    have hdg : ∀ i, i < (x.extract 0 (fr dg x)).size → 48 ≤ bt (x.extract 0 (fr dg x)) i ∧ bt (x.extract 0 (fr dg x)) i ≤ 57 := by
      intro i hi
      have h1 := bytes_at (x.extract 0 (fr dg x)) i hi
      have hbe : bytesOf (x.extract 0 (fr dg x)) = (bytesOf x).takeWhile dg := by
        rw [bytes_extract, List.drop_zero, Nat.sub_zero]
        unfold fr
        exact (List.prefix_iff_eq_take.1 (List.takeWhile_prefix dg)).symm
      have hm : bt (x.extract 0 (fr dg x)) i ∈ (bytesOf x).takeWhile dg := by
        rw [← h1, ← hbe]
        exact List.getElem_mem _
      have := mem_tw dg _ _ hm
      unfold dg at this
      exact of_decide_eq_true this
    obtain ⟨m, b, e1, e2, e3⟩ := number_f (by omega) hdg
    rw [e1, bs]
    cases b with
    | true => rw [if_pos rfl, e2 rfl]; rfl
    | false => rw [if_neg (by simp), e3 rfl]; rfl
  · have hd : ¬ dg (bt x 0) = true := by unfold dg; rw [decide_eq_true_iff]; exact fun hh => h2 ((clsv_two _).2 hh)
    rw [if_neg h2, if_neg hd]
    by_cases hl : clsv (bt x 0) = 3 ∨ clsv (bt x 0) = 4
    · have hlet : (sm (bt x 0) || gr (bt x 0)) = true := by
        unfold sm gr
        simp only [Bool.or_eq_true, decide_eq_true_eq]
        rcases hl with h | h
        · exact .inl ((clsv_three _).1 h)
        · exact .inr ((cls4 _).1 h)
      rw [if_pos hlet]
      have e : (if clsv (bt x 0) = 3 then lex_next.j0 (k + 2) x (clsv (bt x 0)) (clsv (bt x 0) == 3) else lex_next.j0 (k + 2) x (clsv (bt x 0)) (clsv (bt x 0) == 4)) = lex_next.j0 (k + 2) x (clsv (bt x 0)) true := by
        by_cases h3 : clsv (bt x 0) = 3
        · rw [if_pos h3, h3]; rfl
        · have h4 : clsv (bt x 0) = 4 := hl.resolve_left h3
          rw [if_neg h3, h4]; rfl
      rw [e]
      have hr : lex_run.f x 34 = some (fr wd x : Int) := by unfold lex_run.f; rw [if_neg (by decide), if_pos rfl, lead_w]
      have hfl := fr_le wd x
      simp only [lex_next.j0]
      rw [if_pos trivial, hr, bs, if_pos (Int.natCast_nonneg _), if_pos (Int.ofNat_le.2 hfl), show ((fr wd x : Nat) : Int).toNat = fr wd x from rfl, isWord_f _ (by omega), bs, isName_f _ (by omega)]
      by_cases hi : isW (x.extract 0 (fr wd x)) = true
      · rw [if_pos hi, if_pos hi]
      · rw [if_neg hi, if_neg hi, bs]
        by_cases hn : nameOK (x.extract 0 (fr wd x)) = true
        · rw [if_pos hn, if_pos hn]
        · rw [if_neg hn, if_neg hn]
          rfl
    · have hlet : ¬ (sm (bt x 0) || gr (bt x 0)) = true := by
        unfold sm gr
        simp only [Bool.or_eq_true, decide_eq_true_eq]
        rintro (h | h)
        · exact hl (.inl ((clsv_three _).2 h))
        · exact hl (.inr ((cls4 _).2 h))
      rw [if_neg hlet]
      have h3 : ¬ clsv (bt x 0) = 3 := fun h => hl (.inl h)
      have h4 : ¬ clsv (bt x 0) = 4 := fun h => hl (.inr h)
      rw [if_neg h3, beq_eq_false_iff_ne.2 h4]
      simp only [lex_next.j0]
      rw [if_neg (by simp)]
      have h6 := cls6 hb.1 (show bt x 0 < 256 by omega)
      by_cases hc : clsv (bt x 0) = 6
      · rw [if_pos hc, prefix_f x 33 61, bs]
        have e33 : ((33 : UInt8).toNat : Int) = 33 := rfl
        have e60 : ((60 : UInt8).toNat : Int) = 60 := rfl
        have e61 : ((61 : UInt8).toNat : Int) = 61 := rfl
        rw [e33, e61]
        by_cases p1 : 2 ≤ x.size ∧ bt x 0 = 33 ∧ bt x 1 = 61
        · have ht : two x = true := by unfold two; rw [decide_eq_true_iff]; exact ⟨p1.1, .inl p1.2⟩
          rw [if_pos (decide_eq_true p1), if_pos ht]
          simp only [lex_next.j1]
          rw [if_pos trivial, if_pos (by decide), if_pos (by omega)]
          rfl
        · rw [if_neg (by rw [decide_eq_true_iff]; exact p1), prefix_f x 60 61, bs, e60, e61]
          simp only [lex_next.j1]
          by_cases p2 : 2 ≤ x.size ∧ bt x 0 = 60 ∧ bt x 1 = 61
          · have ht : two x = true := by unfold two; rw [decide_eq_true_iff]; exact ⟨p2.1, .inr p2.2⟩
            rw [if_pos (decide_eq_true p2), if_pos ht, if_pos (by decide), if_pos (by omega)]
            rfl
          · have ht : ¬ two x = true := by
              unfold two; rw [decide_eq_true_iff]
              rintro ⟨g, g1 | g1⟩
              · exact p1 ⟨g, g1⟩
              · exact p2 ⟨g, g1⟩
            rw [if_neg (by rw [decide_eq_true_iff]; exact p2), if_neg ht, if_pos (by omega)]
            by_cases hx : bt x 0 = 33
            · have hs : ¬ sg (bt x 0) = true := by rw [hx]; decide
              rw [if_pos hx, if_neg hs]
              rfl
            · have hs : sg (bt x 0) = true := by
                rcases h6.1 hc with h | h
                · exact h
                · exact absurd h hx
              rw [if_neg hx, if_pos hs, if_pos (by decide), if_pos (by omega)]
              rfl
      · have hs : ¬ sg (bt x 0) = true := fun h => hc (h6.2 (.inl h))
        have ht : ¬ two x = true := by
          unfold two; rw [decide_eq_true_iff]
          rintro ⟨_, ⟨g1, _⟩ | ⟨g1, _⟩⟩
          · exact hc (h6.2 (.inr g1))
          · apply hs; rw [g1]; decide
        rw [if_neg hc, if_neg ht, if_neg hs]
        rfl
end Go.Proofs.Ytijcoddbkefmlaa.Lex
