import Derived.Test.YtmpnollfdpdipaaGreatPg25
set_option linter.unusedVariables false
set_option linter.unusedSimpArgs false
namespace Go.Pg
section
variable {X:Cx}{V:List HP}{σ:Env}{Q:Exit→Env→World→Prop}{ops:Array Oper}{rest:List Oper}
variable {d:Option Nat}{ty:TypeId}{pos:String}{af:Array Edge}{gd:Option (Nat×Bool)}
variable {α β:Type}
end
section
variable (K:Kind Int)(A:Option Addr)(n c:Nat)
end
section
variable {C w:World}{V:List HP}{α β γ:Type}
end
section
variable {α β γ:Type}
end
section
variable {X:Cx}{V:List HP}{σ:Env}{Q:Exit→Env→World→Prop}
end
theorem St.em {C w:World}{V:List HP}(s:St C w V):St C w (emp::V):=by
 obtain ⟨a,I,h,g,j,l,s⟩:=s
 exact ⟨a,I,h,g,j,l,Hp.none,h,Join.none h,rfl,s⟩
end Go.Pg
