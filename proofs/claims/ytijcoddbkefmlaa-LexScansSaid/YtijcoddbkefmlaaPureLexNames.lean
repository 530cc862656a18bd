/- The law on names of layer 11 over texts alone: is a text a name? -/
import Derived.Test.YtijcoddbkefmlaaLexFun
import Derived.Test.YtijcoddbkefmlaaLx15
namespace Go.Proofs.Ytijcoddbkefmlaa.Lex
open Go.RowKit Go.Proofs.YtijcoddbkefmlaaW.PrintWords Go.Proofs.YtijcoddbkefmlaaW.PrintMore Go.Proofs.Ytijcoddbkefmlaa.L Go.Proofs.Ytijcoddbkefmlaa.Str
theorem awake_f {k : Nat} (hk : 60 ≤ k) : isthmuslaw11_awake.f k = some true :=
  at_rounds (isthmuslaw11_awake.mono) hk (by decide +kernel)
end Go.Proofs.Ytijcoddbkefmlaa.Lex
namespace Go.Proofs.Ytijcoddbkefmlaa.Pure
open Go.RowKit Go.Proofs.YtijcoddbkefmlaaW.PrintWords Go.Proofs.YtijcoddbkefmlaaW.PrintMore Go.Proofs.Ytijcoddbkefmlaa.L Go.Proofs.Ytijcoddbkefmlaa.Str Go.Proofs.Ytijcoddbkefmlaa.Lex
theorem LexNames : isthmuslaw11_LexNames.Pure := by
  intro s _
  obtain ⟨r, hr⟩ : ∃ r : Nat, 60 ≤ r := ⟨60, Nat.le_refl _⟩
  refine ⟨r, ?_⟩
  unfold isthmuslaw11_LexNames.f
  have e1 : nameOK ⟨#[105, 110, 95]⟩ = true := by decide +kernel
  have e2 : nameOK ⟨#[105, 110]⟩ = false := by decide +kernel
  rw [awake_f hr, isName_f _ (by omega), isName_f _ (by omega), isName_f _ (by omega), ref_isName _ (by omega), e1, e2]
  simp
end Go.Proofs.Ytijcoddbkefmlaa.Pure
