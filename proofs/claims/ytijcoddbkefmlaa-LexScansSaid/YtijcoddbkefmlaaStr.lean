/- Strings as lists of whole numbers: how they are joined, cut, compared. No program in sight. -/
import Derived.Test.YtijcoddbkefmlaaWWords
import Derived.Laws.BytesArg
namespace Go.Proofs.Ytijcoddbkefmlaa.Str
open Go.RowKit Go.Proofs.YtijcoddbkefmlaaW.PrintWords

/-- Not by definition: so that simp's proof goes by congruence. -/
theorem bs {α β : Type} (a : α) (f : α → Option β) : (some a).bind f = f a := by rw [Option.bind_some]
theorem wf_i64 {x : Int} (h : (Lit.int .i64 x).wf = true) : -9223372036854775808 ≤ x ∧ x ≤ 9223372036854775807 := by
  simp only [Lit.wf, IntKind.min, IntKind.max, IntKind.signed, IntKind.bits, Bool.and_eq_true, decide_eq_true_eq, if_true] at h
  omega
theorem wf_u64 {x : Int} (h : (Lit.int .u64 x).wf = true) : 0 ≤ x ∧ x ≤ 18446744073709551615 := by
  simp [Lit.wf, IntKind.min, IntKind.max, IntKind.signed, IntKind.bits] at h
  omega

theorem toList_data (s : ByteArray) : s.toList = s.data.toList := by
  have h : ∀ (l : List UInt8), (⟨l.toArray⟩ : ByteArray).toList = l := by
    intro l
    have hl : ∀ (n i : Nat) (r : List UInt8), l.length - i = n → ByteArray.toList.loop (⟨l.toArray⟩ : ByteArray) i r = r.reverse ++ l.drop i := by
      intro n
      induction n with
      | zero =>
        intro i r h
        unfold ByteArray.toList.loop
        rw [if_neg (show ¬ i < (⟨l.toArray⟩ : ByteArray).size by show ¬ i < l.length; omega)]
        rw [List.drop_eq_nil_of_le (by omega), List.append_nil]
      | succ n ih =>
        intro i r h
        unfold ByteArray.toList.loop
        have hlt : i < l.length := by omega
        rw [if_pos (show i < (⟨l.toArray⟩ : ByteArray).size from hlt), ih (i + 1) _ (by omega)]
        have hg : (⟨l.toArray⟩ : ByteArray).get! i = l[i] := by
          show l.toArray[i]! = l[i]
          rw [getElem!_pos _ _ (by simpa using hlt)]
          simp
        rw [hg, List.reverse_cons, List.append_assoc, List.singleton_append, List.getElem_cons_drop]
    exact hl l.length 0 [] rfl
  have := h s.data.toList
  simpa using this

/-- Two strings are one, if their bytes are. -/
theorem ext_bytes {s t : ByteArray} (h : bytesOf s = bytesOf t) : s = t := by
  have back : ∀ l : List UInt8, (l.map fun b => (b.toNat : Int)).map (fun n => UInt8.ofNat n.toNat) = l := by
    intro l
    rw [List.map_map]
    conv => rhs; rw [← List.map_id l]
    apply List.map_congr_left
    intro x _
    simp
  have h2 : s.data.toList = t.data.toList := by
    unfold bytesOf at h
    rw [← back s.data.toList, h, back]
  have : s.data = t.data := Array.toList_inj.1 h2
  cases s; cases t; simp_all
theorem toList_iff {s t : ByteArray} : s.toList = t.toList ↔ s = t := by
  constructor
  · intro h
    rw [toList_data, toList_data] at h
    have : s.data = t.data := Array.toList_inj.1 h
    cases s; cases t; simp_all
  · rintro rfl; rfl
theorem bytes_append (s t : ByteArray) : bytesOf (s ++ t) = bytesOf s ++ bytesOf t := by
  unfold bytesOf
  rw [show (s ++ t).data = s.data ++ t.data from ByteArray.data_append .., Array.toList_append, List.map_append]
theorem bytes_extract (s : ByteArray) (i j : Nat) : bytesOf (s.extract i j) = ((bytesOf s).drop i).take (j - i) := by
  unfold bytesOf
  rw [show (s.extract i j).data = s.data.extract i j from ByteArray.data_extract .., Array.toList_extract, List.extract_eq_take_drop, List.map_take, List.map_drop]
theorem bytes_range (s : ByteArray) : ∀ x ∈ bytesOf s, 0 ≤ x ∧ x < 256 := by
  intro x hx
  unfold bytesOf at hx
  obtain ⟨b, _, rfl⟩ := List.mem_map.1 hx
  have := b.toNat_lt
  omega
theorem bytes_nums {l : List Int} (h : ∀ x ∈ l, 0 ≤ x ∧ x < 256) : bytesOf (strOfNums l) = l := by
  unfold bytesOf
  rw [strOfNums_data, List.map_map]
  conv => rhs; rw [← List.map_id l]
  apply List.map_congr_left
  intro x hx
  obtain ⟨h0, h1⟩ := h x hx
  show ((UInt8.ofNat x.toNat).toNat : Int) = x
  rw [UInt8.toNat_ofNat_of_lt' (by show x.toNat < 256; omega)]
  omega
theorem size_bytes (s : ByteArray) : s.size = (bytesOf s).length := (bytesOf_length s).symm
/-- The byte at a place. -/
theorem bt_drop {s : ByteArray} {i : Nat} (h : i < s.size) : (bytesOf s).drop i = bt s i :: (bytesOf s).drop (i + 1) := by
  have hl : i < (bytesOf s).length := by rw [bytesOf_length]; exact h
  rw [List.drop_eq_getElem_cons hl]
  congr 1
  have := rd_bytesOf s (i : Int)
  rw [← this]
  unfold rd
  rw [show ((i : Int)).toNat = i from rfl]
  simp [List.getD, hl]
end Go.Proofs.Ytijcoddbkefmlaa.Str
