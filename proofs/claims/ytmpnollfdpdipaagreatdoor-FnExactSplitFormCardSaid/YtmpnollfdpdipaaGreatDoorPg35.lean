import Derived.Test.YtmpnollfdpdipaaGreatDoorPg34
import Derived.Below
import Derived.Lib.Join
set_option linter.unusedVariables false
namespace Go.Pg
open Go.RowKit
theorem St.below {C w i:World}{V:List HP}(s:St C w V)(b:Below w.heap.size w i):St C i V:=by
  obtain ⟨a,I,h,g,j,l,s⟩:=s
  refine ⟨⟨b.os.trans a.os,b.tape.trans a.tape,b.output.trans a.output⟩,I,h,g,j,fun k o e=>?_,s⟩
  rw [b.block k (l.lt (by rw [e]; exact fun h=>by cases h))]
  exact l k o e
theorem oz {P:Program}{f:FuncId}{v:Value}{xs:List aD}{sep:aD}
    (G:∀ (a:Option Addr) (c:Nat) (sep:ByteArray) (w:World),Calls P f #[.slice a 0 c,.string sep] w fun e q=>e=.returned (.string ⟨#[]⟩)∧q=w)
    (h1:∀ (u o c:Nat) (xs:List ByteArray) (sep:ByteArray) (w:World),(∀ (j:Nat) x,xs[j]?=some x→w.cell? ⟨u,o+j,none⟩=some (.string x))→u<w.heap.size→xs.length≤140737488355328→xs.length≤c →
      (Lib.join (xs.map (·.data.toList)) sep.data.toList).length≤140737488355328 →
      Calls P f #[.slice (some ⟨u,o,none⟩) xs.length c,.string sep] w fun e q=>e=.returned (.string ⟨(Lib.join (xs.map (·.data.toList)) sep.data.toList).toArray⟩)∧Below w.heap.size w q)
    (E:xs.length≤140737488355328∧(Lib.join xs sep).length≤140737488355328):FnOk P f [v,aA sep] [bF Kind.str v xs] (fun _:Unit=>(aA (Lib.join xs sep),[])):=by
  intro C w V s
  obtain ⟨I,Z,p,F,l2,-⟩:=s.look 0
  obtain ⟨A,c,rfl,O,hm,U⟩:=p.2
  have s':St C w V:=s.rm 0
  by_cases e:xs=[]
  · subst e
    refine Calls.mono' (G A c ⟨sep.toArray⟩ w) ?_
    rintro e q ⟨rfl,rfl⟩
    exact ⟨(),rfl,s'⟩
  · have T:0<xs.length:=List.length_pos_iff.2 e
    obtain ⟨g,m,rfl,Y⟩:=U T
    have h:∀ (j:Nat) x,xs[j]?=some x→eN I g (m+j)=some (aA x):=by
      intro j x i
      obtain ⟨cs,h2,J⟩:=Y j x i
      have h2:cs=[aA x]:=h2
      subst h2
      have:=J 0 _ rfl
      simpa [Kind.str,Kind.scal] using this
    have B:g<w.heap.size:=by
      obtain ⟨x,r,rfl⟩:=List.exists_cons_of_ne_nil e
      have:=h 0 x rfl
      refine F.lt (b:=g) fun z=>?_
      unfold eN at this
      rw [z] at this; cases this
    have D:(xs.map fun x:aD=>(⟨x.toArray⟩:ByteArray)).map (·.data.toList)=xs:=by rw [List.map_map]; exact (List.map_congr_left fun _ _=>by simp).trans (List.map_id _)
    have:=h1 g m c (xs.map fun x:aD=>(⟨x.toArray⟩:ByteArray)) ⟨sep.toArray⟩ w (fun j x i=>by
      rw [List.getElem?_map] at i
      cases hx2:xs[j]? with
      | none=>rw [hx2] at i; cases i
      | some y =>
        rw [hx2] at i
        simp only [Option.map_some,Option.some.injEq] at i
        subst i
        exact fH F (h j y hx2)) B (by simpa using E.1) (by simpa using O) (by rw [D]; simpa using E.2)
    rw [D,List.length_map] at this
    refine Calls.mono' this ?_
    rintro e q ⟨rfl,M⟩
    exact ⟨(),rfl,s'.below M⟩
end Go.Pg
