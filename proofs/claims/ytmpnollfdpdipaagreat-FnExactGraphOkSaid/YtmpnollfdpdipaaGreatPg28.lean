import Derived.Test.YtmpnollfdpdipaaGreatPg27
set_option linter.unusedVariables false
namespace Go.Pg
abbrev gl (g:Nat)(m:Int):HP:=cl g 0 [.int .i64 m]
theorem St.dg {C w:World}{V:List HP}{g k:Nat}{cs:List Value}(s:St C w V)(i:Nat)(hV:lk V i=cl g k cs):St C w (cl g k cs::V):=by
 obtain ⟨a,I,h,gg,j,l,st⟩:=s
 obtain ⟨h1,h2,j',p,s'⟩:=star_take i st
 rw [hV] at p
 exact ⟨a,I,h,gg,j,l,Hp.none,h,Join.none h,⟨rfl,p.2⟩,st⟩
theorem fn_pure {P:Program}{f:FuncId}{args:List Value}{v:Value}(h:∀ w,Calls P f args.toArray w fun e w'=>e=.returned v∧w'=w):FnOk P f args [] (fun _:Unit=>(v,[])):=by
 intro C w V s
 refine Calls.mono' (h w) ?_
 rintro e w' ⟨rfl,rfl⟩
 exact ⟨(),rfl,s⟩
theorem fn_gl {P:Program}{f:FuncId}{args:List Value}{v:Value}{g:Nat}{m:Int}(h:∀ w,w.cell? ⟨g,0,none⟩=some (.int .i64 m)→Calls P f args.toArray w fun e w'=>e=.returned v∧w'=w):FnOk P f args [gl g m] (fun _:Unit=>(v,[])):=by
 intro C w V s
 obtain ⟨I,hh,p,l1,l2,-⟩:=s.look 0
 have hm:w.cell? ⟨g,0,none⟩=some (.int .i64 m):=cell_of_H l1 (p.2 0 _ rfl)
 refine Calls.mono' (h w hm) ?_
 rintro e w' ⟨rfl,rfl⟩
 exact ⟨(),rfl,s.rm 0⟩
end Go.Pg
