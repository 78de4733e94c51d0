/- Part 34 of the texts of this claim: a symbolic executor and contracts of functions. -/
import Derived.Test.YtiipiciemgdaeaaGreatCvTRCBor
import Derived.Maps.Keyed
import Derived.Maps.Own
namespace Go.Proofs.YtiipiciemgdaeaaGreat.Sx
open Go Go.RowKit
set_option linter.unusedVariables false
set_option linter.unusedSimpArgs false
def MapIs(o:Obj)(ks:List Value):Prop:=∃es clock,o=.map es clock∧es.toList.map (·.key)=ks∧∀e∈es.toList,e.val=.bool true
theorem MapIs.nil:MapIs (.map #[] 0) []:=⟨#[],0,rfl,rfl,by simp⟩
section
variable {P:Program}{c:Cx}{n:Nat}{s:St}{ρ:Rho}{a:Act}{w:World}{K:St→Prop}
end
end Go.Proofs.YtiipiciemgdaeaaGreat.Sx
