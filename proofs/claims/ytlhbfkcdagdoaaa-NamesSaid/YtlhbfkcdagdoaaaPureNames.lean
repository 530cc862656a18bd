/- The law on names of the top layer: all constants have the document's numbers: the printed function is the constant true. -/
import Derived.Test.YtlhbfkcdagdoaaaPNamesx1
namespace Go.Proofs.Ytlhbfkcdagdoaaa.Pure
open Go.RowKit Go.Proofs.Ytlhbfkcdagdoaaa.PNames
theorem Names : isthmustop_Names.Pure := rfl
end Go.Proofs.Ytlhbfkcdagdoaaa.Pure
