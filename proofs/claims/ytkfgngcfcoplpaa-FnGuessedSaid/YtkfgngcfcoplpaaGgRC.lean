import Derived.Test.YtkfgngcfcoplpaaDW2
set_option linter.unusedVariables false
set_option linter.constructorNameAsVariable false
set_option maxRecDepth 100000
namespace Go.Proofs.Ytkfgngcfcoplpaa
open Go Go.Pg
def Cap22 (xs : (List Int)) : Prop := xs.length ≤ maxLen
end Go.Proofs.Ytkfgngcfcoplpaa
