/- What the row's premise on the variable pack.fields says of memory: its six cells. -/
import Derived.Test.YtkpdcmafpikhgaaDoorRows
import Derived.Test.YtkpdcmafpikhgaaDoorGx0
import Derived.ProofKit
import Derived.LaidMore
import Derived.OpenShut
import Derived.Stop.Joined
namespace Go.Proofs.YtkpdcmafpikhgaaDoor
open Go.ChangeShapes Go.WideShapes Go.ChangeAt Go.RowKit

namespace Laid
theorem gF : Tryd.prog.globalNamed "isthmus/pack.fields" = some 0 := by kernel_rfl
theorem tF : (Tryd.prog.globals[0]?).map (·.type) = some 47 := by kernel_rfl
abbrev laid1 : List (String × DataW Unit) := [("isthmus/pack.fields", Rows.laid_isthmus_pack_fields)]

/-- The door's own heap meets the condition. -/
theorem door_met (os : Os) (args : Array Value) : laidMetH Tryd.prog laid1 ((World.doorLaid Tryd.prog 400 os).forCall (fun _ _ => 0) ⟨#[], args, []⟩).memory :=
  laidMetH_of_parts3 (fuel := 8) (laidMet_of_run' 8 (by kernel_rfl) (by kernel_rfl)) (by kernel_rfl) (by kernel_rfl)

theorem one_int {H : Type} {enc : TypeId × Value → H} {w : World} {m : Nat} {cs : List Value} {x : DataW H × List MemPlace} {k : Int} (h : DataW.trod enc Tryd.prog w 0 (fun _ => true) false m 42 cs = some x) (e : x.1 = .lit (.int .u64 k)) : cs = [.int .u64 k] := by
  obtain ⟨n, e1, e2, _⟩ := DataW.trod_int Tryd.underlying42 h
  subst e2
  simp only [DataW.lit.injEq, Lit.int.injEq, true_and] at e
  subst e
  exact e1
theorem one_field {w : World} {m : Nat} {cs : List Value} {x : DataW Unit × List MemPlace} {a b : Int} {enc : TypeId × Value → Unit} (h : DataW.trod enc Tryd.prog w 0 (fun _ => true) false m 46 cs = some x) (e : x.1 = .agg [.lit (.int .u64 a), .lit (.int .u64 b)]) : cs = [.int .u64 a, .int .u64 b] := by
  obtain ⟨y0, y1, n, rfl, hl, h0, h1⟩ := trod_struct2 Tryd.underlying46 h
  have c42 : Tryd.prog.cellsOf 42 = 1 := by kernel_rfl
  have c46 : Tryd.prog.cellsOf 46 = 2 := by kernel_rfl
  rw [c46] at hl
  rw [c42] at h0 h1
  simp only [DataW.agg.injEq, List.cons.injEq, and_true] at e
  match cs, hl with
  | [c0, c1], _ =>
    have e0 := one_int h0 e.1
    have e1 := one_int h1 e.2
    simp at e0 e1
    rw [e0, e1]

theorem of_laid {W : World} (h : laidMetH Tryd.prog laid1 W) : G.Glob W := by
  rw [MakeChecks.laidMetH_plain _ _ _ (by kernel_rfl)] at h
  obtain ⟨ps, ⟨g0, t0, cs0, f0, p0, q0, hg0, ht0, hv0, hd0, _, _⟩, _⟩ := h
  obtain rfl := Option.some.inj (gF.symm.trans hg0)
  obtain rfl := Option.some.inj (tF.symm.trans ht0)
  obtain ⟨xs, m1, rfl, hx1, hlen, hn3, hel⟩ := DataW.trod_array Tryd.underlying47 hd0
  have c46 : Tryd.prog.cellsOf 46 = 2 := by kernel_rfl
  have c47 : Tryd.prog.cellsOf 47 = 6 := by kernel_rfl
  rw [c46] at hel
  rw [c47] at hlen
  have e0 := hel 0 (by decide)
  have e1 := hel 1 (by decide)
  have e2 := hel 2 (by decide)
  have hc : ∀ i, W.cell? ⟨0, i, none⟩ = cs0[i]? := fun i => World.var?_cell hg0 hv0 i
  obtain ⟨l⟩ := cs0
  simp only [Prod.mk.injEq, Rows.laid_isthmus_pack_fields, DataW.agg.injEq] at hx1
  obtain ⟨c0, c1, c2, c3, c4, c5, rfl⟩ : ∃ c0 c1 c2 c3 c4 c5, l = [c0, c1, c2, c3, c4, c5] := by
    match l, hlen with
    | [c0, c1, c2, c3, c4, c5], _ => exact ⟨_, _, _, _, _, _, rfl⟩
  match xs, hn3, hx1, e0, e1, e2 with
  | [x0, x1, x2], _, hx1, e0, e1, e2 =>
    simp only [List.map_cons, List.map_nil, List.cons.injEq, and_true] at hx1
    have a0 := one_field e0 hx1.1.1.symm
    have a1 := one_field e1 hx1.1.2.1.symm
    have a2 := one_field e2 hx1.1.2.2.symm
    simp at a0 a1 a2
    obtain ⟨rfl, rfl⟩ := a0
    obtain ⟨rfl, rfl⟩ := a1
    obtain ⟨rfl, rfl⟩ := a2
    exact ⟨hc 0, hc 1, hc 2, hc 3, hc 4, hc 5⟩
end Laid
end Go.Proofs.YtkpdcmafpikhgaaDoor
