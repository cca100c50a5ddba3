import Derived.Test.YtmpnollfdpdipaaGreatPg20
import Derived.KernelRfl
set_option linter.unusedVariables false
namespace Go.Pg
abbrev iv (n:Int):Value:=.int .i64 n
abbrev ad (g o:Nat):Option Addr:=some ⟨g,o,none⟩
abbrev pt (b k:Nat):Value:=.pointer (some ⟨b,k,none⟩)
abbrev RR {α:Type}(K:Kind α)(a:Option Addr)(c:Nat)(xs:List α):HP:=rds K (.slice a xs.length c) xs
abbrev OO {α:Type}(K:Kind α)(e:Nat)(a:Option Addr)(c:Nat)(xs:List α):HP:=ow K e (.slice a xs.length c) xs
def rmL (V:List HP):List Nat→List HP
 | []=>V
 | i::t=>rmL (rm V i) t
theorem St.rmL {C w:World}{V:List HP}(s:St C w V)(l:List Nat):St C w (rmL V l):=by
 induction l generalizing V with
 | nil=>exact s
 | cons i t ih=>exact ih (s.rm i)
section
variable {X:Cx}{V V0:List HP}{σ:Env}{Q:Exit→Env→World→Prop}{ops:Array Oper}{rest:List Oper}{o:Oper}{k fuel:Nat}{listed:Array Bool}{C:World}
variable {d:Nat}{op:Op}{ty:TypeId}{pos:String}{af:Array Edge}{gd:Option (Nat×Bool)}
theorem sL (l:List Nat):∀ w,St C w V→St C w (rmL V l):=fun _ s=>s.rmL l
theorem lp (v:Value)(h:TL X ops V (upd σ d v) rest Q)(hv:pv σ op=some v:=by exact rfl)(hw:want ops σ ⟨some d,op,ty,pos,af,gd⟩=true:=by exact rfl)(hd:dok X.n (some d)=true:=by exact rfl):TL X ops V σ (⟨some d,op,ty,pos,af,gd⟩::rest) Q :=
 l_v v (v_pv hv) hw hd h
theorem lo (v:Value)(hv:VO X V σ ⟨some d,op,ty,pos,af,gd⟩ v)(h:TL X ops V (upd σ d v) rest Q)(hw:want ops σ ⟨some d,op,ty,pos,af,gd⟩=true:=by exact rfl)(hd:dok X.n (some d)=true:=by exact rfl):TL X ops V σ (⟨some d,op,ty,pos,af,gd⟩::rest) Q :=
 l_v v hv hw hd h
theorem cdr {id:Nat}{l:List Oper}(k:Nat)(rs:List Nat)(hm:X.P.follows .mixedOrders=true)(h:tailB l.toArray k=true→Region.noSelect l.toArray=true→TD X l.toArray k (rmL V rs) l.length (Array.replicate l.length false) V σ Q)(ht:(tailB l.toArray k&&Region.noSelect l.toArray)=true:=by kernel_rfl):TC X V σ (.region id l.toArray true) Q :=
 c_draw k (rmL V rs) hm ht h
end
end Go.Pg
