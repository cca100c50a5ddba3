import Derived.Test.YtmpnollfdpdipaaGreatPg24
set_option linter.unusedVariables false
set_option linter.unusedSimpArgs false
namespace Go.Pg
section
variable {X:Cx}{V V0:List HP}{σ:Env}{Q:Exit→Env→World→Prop}{ops:Array Oper}{o:Oper}{k fuel:Nat}{listed:Array Bool}
theorem d1 (i:Nat)(hi:ops[i]?=some o)(h:TL X ops V σ [o] (DK X ops k V0 fuel listed i Q))(hr:Region.ready .any ops listed=[i]:=by kernel_rfl):TD X ops k V0 (fuel+1) listed V σ Q:=d_one i hr hi h
theorem dD (h:TQ X V σ .normal Q)(hr:Region.ready .any ops listed=[]:=by kernel_rfl):TD X ops k V0 fuel listed V σ Q:=d_done hr h
theorem qE {i:Nat}(h:TD X ops k V0 fuel (listed.setIfInBounds i true) V σ Q)(hi:Nat.blt i k=false:=by exact rfl):TQ X V σ .normal (DK X ops k V0 fuel listed i Q):=q_last hi h
end
end Go.Pg
