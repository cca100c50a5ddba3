/- The law FnExactKeepCost of the given program returns true for every input that its row lets in, and leaves its arguments as they were. No condition beyond the row's own. -/
import Derived.Test.YthelanpdjajnbaaGreatKcW9
import Derived.Test.YthelanpdjajnbaaGreatKG52
import Derived.Test.YthelanpdjajnbaaGreatRc
import Derived.Test.YthelanpdjajnbaaGreatRows
import Derived.ProofKit
import Derived.SizedLaws
import Derived.OpenShut
import Derived.WideShapes
import Derived.HandedShaped
import Derived.Shelf.Vars
set_option linter.unusedVariables false
set_option linter.constructorNameAsVariable false
set_option maxRecDepth 100000
namespace Go.Proofs.YthelanpdjajnbaaGreat
open Go Go.Pg
abbrev C1:Kind Graph:=Kind.iso (Kind.pair (Kind.sl 75 j0) (Kind.sl 3 kT3)) (fun x:Graph=>(x.Nodes,x.Outs))
theorem Ck:Rc Tryz.prog 3 kT3 (fun _=>True):=ya (by kernel_rfl)
theorem rM:Rc Tryz.prog 23 (Kind.sl 3 kT3) l2:=Rc.mono (ww (by kernel_rfl) Ck (by kernel_rfl) rfl) (fun a h=>h.1)
theorem rd9:Rc Tryz.prog 9 dV Av:=yb (by kernel_rfl)
theorem C2:Rc Tryz.prog 75 j0 Cap75:=by
  intro W H enc fuel cs x b
  obtain ⟨a,J,Z,i⟩:=k8 (show nc Tryz.prog 75 0=some (3,0,1) by kernel_rfl) b
  obtain ⟨a0,D,Y⟩:=Ck _ _ _ _ _ _ i
  obtain ⟨a,L,y1,h1⟩:=k8 (show nc Tryz.prog 75 1=some (23,1,1) by kernel_rfl) b
  obtain ⟨g,E,p1⟩:=rM _ _ _ _ _ _ h1
  obtain ⟨a,M,y2,h2⟩:=k8 (show nc Tryz.prog 75 2=some (23,2,1) by kernel_rfl) b
  obtain ⟨h,F,r⟩:=rM _ _ _ _ _ _ h2
  obtain ⟨a,O,y3,j⟩:=k8 (show nc Tryz.prog 75 3=some (23,3,1) by kernel_rfl) b
  obtain ⟨a3,G,s⟩:=rM _ _ _ _ _ _ j
  obtain ⟨a,T,y4,l⟩:=k8 (show nc Tryz.prog 75 4=some (9,4,1) by kernel_rfl) b
  obtain ⟨a4,I,u⟩:=rd9 _ _ _ _ _ _ l
  obtain ⟨a,U,y5,m⟩:=k8 (show nc Tryz.prog 75 5=some (23,5,1) by kernel_rfl) b
  obtain ⟨a5,e,B⟩:=rM _ _ _ _ _ _ m
  have q:Tryz.prog.cellsOf 75=6:=by kernel_rfl
  rw [q] at a
  rw [List.take_of_length_le (by simp; omega)] at e
  exact ⟨⟨a0,g,h,a3,a4,a5⟩,⟨_,_,show cs=(cs.drop 0).take 1++cs.drop 1 from yn 0 1,D,⟨_,_,yn 1 1,E,⟨_,_,yn 2 1,F,⟨_,_,yn 3 1,G,⟨_,_,yn 4 1,I,e⟩⟩⟩⟩⟩,⟨p1,r,s,u,B⟩⟩
theorem C3:Rc Tryz.prog 22 (Kind.sl 75 j0) u4:=Rc.mono (ww (by kernel_rfl) C2 (by kernel_rfl) rfl) (fun a h=>h)
theorem C4:Rc Tryz.prog 25 C1 Cap25:=by
  intro W H enc fuel cs x b
  obtain ⟨a,m,r,h⟩:=k8 (show nc Tryz.prog 25 0=some (22,0,1) by kernel_rfl) b
  obtain ⟨a0,l,j⟩:=C3 _ _ _ _ _ _ h
  obtain ⟨a,q,s,h1⟩:=k8 (show nc Tryz.prog 25 1=some (23,1,1) by kernel_rfl) b
  obtain ⟨g,e,p1⟩:=rM _ _ _ _ _ _ h1
  have i:Tryz.prog.cellsOf 25=2:=by kernel_rfl
  rw [i] at a
  rw [List.take_of_length_le (by simp; omega)] at e
  exact ⟨⟨a0,g⟩,⟨_,_,show cs=(cs.drop 0).take 1++cs.drop 1 from yn 0 1,l,e⟩,⟨j,p1⟩⟩
section
variable {W:World}{H:Type}{enc:TypeId×Value→H}{v:Value}{d:DataW H}{p:List MemPlace}{base:Nat}
theorem C5 (h:DataW.Trod enc Tryz.prog W 0 (fun _=>true) true 25 v d p)(u:Value.okWide Tryz.prog W .any base 25 v):∃ (a:Graph) (i e:Option Addr) (j g:Nat),v=.agg [.slice i a.Nodes.length j,.slice e a.Outs.length g].toArray∧pc j0 (l5 W) (.slice i a.Nodes.length j) a.Nodes∧pc kT3 (l5 W) (.slice e a.Outs.length g) a.Outs∧Cap25 a:=by
  obtain ⟨fuel,B⟩:=h
  obtain ⟨cs,rfl,D⟩:=WideShapes.okWide_struct Tryz.underlying25 u
  obtain ⟨a,s,b⟩:=C4 _ _ _ _ _ _ B
  obtain ⟨_,_,r,⟨v1,rfl,l⟩,⟨E,rfl,m⟩⟩:=s
  obtain ⟨e,g,rfl,_⟩:=id l
  obtain ⟨A2,q,rfl,_⟩:=id m
  exact ⟨a,e,A2,g,q,by rw [show cs=cs.toList.toArray by simp,show cs.toList=_ from r]; rfl,l,m,b⟩
theorem C6 (h:DataW.Trod enc Tryz.prog W 0 (fun _=>true) true 23 v d p)(j:Value.okWide Tryz.prog W .any base 23 v):∃ (a:(List Int)) (g:Option Addr) (i:Nat),v=.slice g a.length i∧pc kT3 (l5 W) (.slice g a.length i) a∧l2 a:=by
  obtain ⟨fuel,l⟩:=h
  obtain ⟨A,n,c,rfl⟩:=WideShapes.okWide_slice (show Tryz.prog.underlying 23=some (.slice 3) by kernel_rfl) j
  obtain ⟨a,⟨w,e,s⟩,b⟩:=rM _ _ _ _ _ _ l
  injection e with e
  subst e
  obtain ⟨A',m,e,s'⟩:=id s
  injection e with e1 e2 e3
  subst e1 e2 e3
  exact ⟨a,A,c,rfl,s,b⟩
end
theorem k25:Tryz.prog.readableRec 25=true:=by kernel_rfl
theorem l25:25<Tryz.prog.types.size:=of_decide_eq_true (by kernel_rfl)
theorem ue:Tryz.prog.readableRec 23=true:=by kernel_rfl
theorem l23:23<Tryz.prog.types.size:=of_decide_eq_true (by kernel_rfl)
theorem own:ownKnob Tryz.prog.godebug=none:=by kernel_rfl
set_option maxHeartbeats 800000 in
set_option maxRecDepth 100000 in
theorem jI (os:Os)(a:os.Started)(H:Type)(enc:TypeId×Value→H) :
    ReturnsInHanded {} Tryz.checked os 3 .any (Rows.fnExactKeepCostSpec.pre6 enc Tryz.prog Tryz.f3 Rows.fnExactKeepCostRow.domain false) (Rows.fnExactKeepCostSpec.post enc Tryz.prog Tryz.f3 false true false false):=by
  refine returnsInHanded_of_change_shaped (C:=Tryz.checked) own a (by kernel_rfl) Tryz.func3
    (ChangeSpec.witness6 (enc:=enc) (C:=Tryz.checked) false ⟨#[],#[.agg #[.slice none 0 0,.slice none 0 0],.slice none 0 0],[]⟩ 8 (by kernel_rfl) (by kernel_rfl) (by kernel_rfl) (by kernel_rfl)) ?_
  intro W base args ds gs G g J _ _ Z _
  obtain ⟨m,hm⟩:∃ m,W.cell? ⟨0,0,none⟩=some (.int .i64 m):=cell_of_shapedOpen_int (P:=Tryz.prog) (t:=3) (zero:=#[.int .i64 0]) Z (of_decide_eq_true (by kernel_rfl)) (by kernel_rfl) rfl (by kernel_rfl) (by kernel_rfl) (by kernel_rfl)
  have L:=J
  have T:=J.lt
  obtain ⟨p,q,hA,hV,rfl,a4,_⟩:=J
  have I:DataW.TrodAll enc Tryz.prog W 0 (fun _=>true) true [25,23] args.toList ds p:=hA
  obtain ⟨v0,a5,d0,a2,p0,q0,ea,rfl,rfl,h0,U⟩:=ChangeShapes.trodAll_cons I
  obtain ⟨v1,a6,d1,a3,p1,q1,rfl,rfl,rfl,h1,Y⟩:=ChangeShapes.trodAll_cons U
  obtain ⟨rfl,rfl,rfl⟩:=ChangeShapes.trodAll_nil Y
  obtain rfl:args=#[v0,v1]:=by cases args; simp_all
  obtain ⟨rfl,rfl⟩:=ChangeShapes.trodVars_none hV
  obtain ⟨a0,j,l,s,u,rfl,D,E,M⟩:=C5 h0 (g 0 25 _ (by kernel_rfl) rfl)
  obtain ⟨a1,r,B,rfl,F,O⟩:=C6 h1 (g 1 23 _ (by kernel_rfl) rfl)
  have i:=Z3h_ok (A2:=j) (N2:=a0.Nodes.length) (D2:=s) (A3:=l) (N3:=a0.Outs.length) (D3:=u) (A5:=r) (N5:=a1.length) (D5:=B) (mG:=m) (o4 a0 a1 M O) W W [yc W] (yd (by
    intro q hq
    simp only [List.mem_cons,List.not_mem_nil,or_false] at hq
    rcases hq with rfl | rfl | rfl | rfl
    · exact ⟨rfl,D⟩
    · exact ⟨rfl,E⟩
    · exact ⟨rfl,F⟩
    · exact AD hm))
  refine Calls.mono' i ?_
  rintro e W' ⟨_,rfl,s'⟩
  have hb:=rL s'
  have tr:∀ {t:TypeId} {v:Value} {d:DataW H} {p':List MemPlace},Tryz.prog.readableRec t=true→t<Tryz.prog.types.size→DataW.Trod enc Tryz.prog W 0 (fun _=>true) true t v d p'→(∀ x∈p',x∈(p0++(p1++[])))→DataW.Trod enc Tryz.prog W' 0 (fun b=>decide (b<W.heap.size)) true t v d p':=fun k1 k2 h hp=>hb.trod (by kernel_rfl) k1 k2 h (fun x hx=>T x (by simpa using hp x hx))
  refine ⟨_,rfl,_,_,_,[],(p0++(p1++[])),[],L,?_,?_,rfl,hb.frame _,fun h=>by cases h⟩
  · exact ChangeShapes.trodAll_mk1 ⟨1,rfl⟩
  · exact trodAll_cons_mk (tr k25 l25 h0 (by simp +contextual)) (trodAll_cons_mk (tr ue l23 h1 (by simp +contextual)) ChangeShapes.trodAll_mk0)
theorem law_keepcost_holds:Rows.FnExactKeepCostSaid :=
  OpenClaim.holds_of_wide 3 Tryz.f3 rfl rfl rfl rfl rfl rfl rfl ⟨rfl,rfl,rfl,rfl,rfl⟩ rfl rfl rfl rfl rfl (by kernel_rfl) Tryz.func3 (by kernel_rfl)
    (of_decide_eq_true (by kernel_rfl)) (by unfold Func.isWrapper; first | (rw [if_pos (by decide +kernel)]; kernel_rfl) | (rw [if_neg (by decide +kernel)]; exact ⟨rfl,rfl⟩))
    (fun b a H enc _=>jI b a H enc)
end Go.Proofs.YthelanpdjajnbaaGreat
