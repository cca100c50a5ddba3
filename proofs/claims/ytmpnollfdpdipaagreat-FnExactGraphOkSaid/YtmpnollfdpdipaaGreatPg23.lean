import Derived.Test.YtmpnollfdpdipaaGreatPg22
set_option linter.unusedVariables false
set_option linter.unusedSimpArgs false
namespace Go.Pg
def recFuel:Nat:=1099511627776
end Go.Pg
