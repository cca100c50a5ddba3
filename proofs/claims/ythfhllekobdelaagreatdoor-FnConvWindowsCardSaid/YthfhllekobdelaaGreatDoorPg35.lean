import Derived.Test.YthfhllekobdelaaGreatDoorPg34
import Derived.Below
import Derived.Lib.Join
set_option linter.unusedVariables false
namespace Go.Pg
open Go.RowKit
end Go.Pg
