import Derived.Test.YtmpnollfdpdipaaGreatDoorPg33
set_option linter.unusedVariables false
namespace Go.Pg
def kR (P:Program)(S:TypeId)(f:Nat):Option (Nat×Nat):=match P.underlying S with
  | some (.struct fs)=>(fs[f]?).map fun a=>(a.type,a.offset)
  | _=>none
section
variable {X:Cx}{V:List HP}{σ:bL}{d:Option Nat}{ty:TypeId}{pos:String}{af:Array Edge}{gd:Option (Nat×Bool)}
theorem sI {S:TypeId}{x:Operand}{f t fo:Nat}{cs:List Value}{v:Value}(a:kR X.P S f=some (t,fo))(g:eG X.P t=some false)(i:ev σ x=.agg cs.toArray)(e:m9 cs fo=some v):VO X V σ ⟨d,.field S x f,ty,pos,af,gd⟩ v:=by
  intro w _
  unfold kR at a
  split at a
  · rename_i fs h
    rw [gu] at e
    cases hfl:fs[f]? with
    | none=>rw [hfl] at a; cases a
    | some fl =>
      rw [hfl] at a
      simp only [Option.map_some,Option.some.injEq,Prod.mk.injEq] at a
      obtain ⟨rfl,rfl⟩:=a
      have h1:=gZ (P:=X.P) (w:=w) g
      simp [execOp,Instr.field,run_underlying h w,hfl,i,asAgg,part,Sem.run_bind,h1,e]
  · cases a
end
end Go.Pg
