/- Part 21 of the texts of this claim: a symbolic executor and contracts of functions. -/
import Derived.Test.YtgkfmlgfmcpebaaSLhRCNatA
set_option linter.unusedVariables false
namespace Go.Proofs.Ytgkfmlgfmcpebaa.Sx
section
variable {v1 v2 vr p V C top u2 ur q r : Nat}
end
end Go.Proofs.Ytgkfmlgfmcpebaa.Sx
