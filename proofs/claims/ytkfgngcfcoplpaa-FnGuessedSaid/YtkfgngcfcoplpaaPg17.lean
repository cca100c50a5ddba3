import Derived.Test.YtkfgngcfcoplpaaPg16
set_option linter.unusedVariables false
set_option linter.unusedSimpArgs false
namespace Go.Pg
end Go.Pg
