/- Part 20 of the texts of this claim: a symbolic executor and contracts of functions. -/
import Derived.Test.YtgkfmlgfmcpebaaSLhRCUse
set_option linter.unusedVariables false
namespace Go.Proofs.Ytgkfmlgfmcpebaa.Sx
end Go.Proofs.Ytgkfmlgfmcpebaa.Sx
