import Derived.Test.YtoffdamdpmeoiaaGreatDoorPg19
import Derived.Shelf.Spec.TrailingZeros
set_option linter.unusedVariables false
namespace Go.Pg
open Go.Proofs
def Ak (tab:List Nat):List Value:=tab.map fun z:Nat=>Value.int .u8 (z:Int)
def gx (g:Nat)(m:Int)(g':Nat)(tab:List Nat):HP:=⟨fun I h=>(cl g 0 [.int .i64 m]).p I h∧(cl g' 0 (Ak tab)).p I h,fun l p=>⟨(cl _ _ _).mono l p.1,(cl _ _ _).mono l p.2⟩⟩
section
variable {C w:World}{V:List HP}{g g':Nat}{m:Int}{tab:List Nat}{P:Program}{f:FuncId}{args:List Value}{v:Value}
theorem St.dgx (s:St C w V)(i:Nat)(e:lk V i=gx g m g' tab):St C w (gx g m g' tab::V):=by
  obtain ⟨a,I,h,b,j,l,st⟩:=s
  obtain ⟨h1,h2,r,p,s'⟩:=fJ i st
  rw [e] at p
  have q:=p.2.2
  exact ⟨a,I,h,b,j,l,Hp.none,h,Join.none h,⟨⟨rfl,p.1.2⟩,⟨rfl,q⟩⟩,st⟩
theorem Al (h:∀ w,w.cell? ⟨g,0,none⟩=some (.int .i64 m)→Calls P f args.toArray w fun e a=>e=.returned v∧a=w):FnOk P f args [gx g m g' tab] (fun _:Unit=>(v,[])):=by
  intro C w V s
  obtain ⟨I,j,p,i,l,-⟩:=s.look 0
  have b:w.cell? ⟨g,0,none⟩=some (.int .i64 m):=hO i (p.1.2 0 _ rfl)
  refine Calls.mono' (h w b) ?_
  rintro e a ⟨rfl,rfl⟩
  exact ⟨(),rfl,s.rm 0⟩
theorem yg (h:∀ w,TabAt g' tab w→Calls P f args.toArray w fun e a=>e=.returned v∧a=w):FnOk P f args [gx g m g' tab] (fun _:Unit=>(v,[])):=by
  intro C w V s
  obtain ⟨I,q,p,l,r,-⟩:=s.look 0
  have i:TabAt g' tab w:=fun j b=>by
    have e:(Ak tab)[j]?=some (Value.int .u8 ((tab.getD j 0:Nat):Int)):=by
      simp [Ak,b]
    have:=hO l (p.2.2 j _ e)
    simpa using this
  refine Calls.mono' (h w i) ?_
  rintro e a ⟨rfl,rfl⟩
  exact ⟨(),rfl,s.rm 0⟩
end
end Go.Pg
