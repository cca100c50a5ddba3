import Derived.Test.YtmpnollfdpdipaaGreatPg17
set_option linter.unusedVariables false
set_option linter.unusedSimpArgs false
namespace Go.Pg
section
variable {α:Type}
end
section
variable {X:Cx}{V:List HP}{σ:Env}{Q:Exit→Env→World→Prop}{ops:Array Oper}{rest:List Oper}{cd:Code}
variable {d:Option Nat}{ty:TypeId}{pos:String}{af:Array Edge}{gd:Option (Nat×Bool)}{α:Type}
end
end Go.Pg
