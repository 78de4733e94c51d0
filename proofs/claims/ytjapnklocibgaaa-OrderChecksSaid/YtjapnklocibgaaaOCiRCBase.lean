/- Part 1 of the texts of this claim: a symbolic executor and contracts of functions. -/
import Derived.Test.YtjapnklocibgaaaRows
import Derived.WalkKit
import Derived.WalkSpells
import Derived.WalkLawsBesides
import Derived.Below
import Derived.BigRegion
import Derived.BigQuiet
import Derived.Deep.QuietTactic
import Derived.Lib.Hide
import Derived.Handy
import Derived.PlainAid
namespace Go.Proofs.Ytjapnklocibgaaa
open Go.RowKit
set_option linter.unusedVariables false
end Go.Proofs.Ytjapnklocibgaaa
