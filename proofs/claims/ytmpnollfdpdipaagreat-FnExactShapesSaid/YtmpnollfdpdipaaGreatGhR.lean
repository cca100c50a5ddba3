/- The law FnExactShapes of the given program returns true for every input that its row lets in, and leaves its arguments as they were. No condition beyond the row's own. -/
import Derived.Test.YtmpnollfdpdipaaGreatGkW8
import Derived.Test.YtmpnollfdpdipaaGreatGG29
import Derived.Test.YtmpnollfdpdipaaGreatRc
import Derived.Test.YtmpnollfdpdipaaGreatRows
import Derived.ProofKit
import Derived.SizedLaws
import Derived.OpenShut
import Derived.WideShapes
import Derived.HandedShaped
import Derived.Shelf.Vars
set_option linter.unusedVariables false
set_option linter.constructorNameAsVariable false
set_option maxRecDepth 100000
namespace Go.Proofs.YtmpnollfdpdipaaGreat
open Go Go.Pg
abbrev Bl:Kind Graph:=Kind.iso (Kind.pair (Kind.sl 70 jL) (Kind.sl 3 kT3)) (fun x:Graph=>(x.Nodes,x.Outs))
theorem BG:Rc Tryz.prog 3 kT3 (fun _=>True):=xF (by kernel_rfl)
theorem tN:Rc Tryz.prog 23 (Kind.sl 3 kT3) mO:=Rc.mono (vO (by kernel_rfl) BG (by kernel_rfl) rfl) (fun a h=>h.1)
theorem rd9:Rc Tryz.prog 9 dM zP:=xG (by kernel_rfl)
theorem Bm:Rc Tryz.prog 70 jL Cap70:=by
  intro W H enc fuel cs x a
  obtain ⟨b,Z,M,D⟩:=jR (show mW Tryz.prog 70 0=some (3,0,1) by kernel_rfl) a
  obtain ⟨a0,q,L⟩:=BG _ _ _ _ _ _ D
  obtain ⟨b,n1,O,h1⟩:=jR (show mW Tryz.prog 70 1=some (23,1,1) by kernel_rfl) a
  obtain ⟨l,s,p1⟩:=tN _ _ _ _ _ _ h1
  obtain ⟨b,n2,y2,h2⟩:=jR (show mW Tryz.prog 70 2=some (23,2,1) by kernel_rfl) a
  obtain ⟨g,B,F⟩:=tN _ _ _ _ _ _ h2
  obtain ⟨b,n3,T,h⟩:=jR (show mW Tryz.prog 70 3=some (23,3,1) by kernel_rfl) a
  obtain ⟨a3,i,G⟩:=tN _ _ _ _ _ _ h
  obtain ⟨b,Y,J,r⟩:=jR (show mW Tryz.prog 70 4=some (9,4,1) by kernel_rfl) a
  obtain ⟨a4,m,j⟩:=rd9 _ _ _ _ _ _ r
  obtain ⟨b,U,y5,I⟩:=jR (show mW Tryz.prog 70 5=some (23,5,1) by kernel_rfl) a
  obtain ⟨a5,e,E⟩:=tN _ _ _ _ _ _ I
  have u:Tryz.prog.cellsOf 70=6:=by kernel_rfl
  rw [u] at b
  rw [List.take_of_length_le (by simp; omega)] at e
  exact ⟨⟨a0,l,g,a3,a4,a5⟩,⟨_,_,show cs=(cs.drop 0).take 1++cs.drop 1 from xQ 0 1,q,⟨_,_,xQ 1 1,s,⟨_,_,xQ 2 1,B,⟨_,_,xQ 3 1,i,⟨_,_,xQ 4 1,m,e⟩⟩⟩⟩⟩,⟨p1,F,G,j,E⟩⟩
theorem Bn:Rc Tryz.prog 22 (Kind.sl 70 jL) tH:=Rc.mono (vO (by kernel_rfl) Bm (by kernel_rfl) rfl) (fun a h=>h)
theorem Bo:Rc Tryz.prog 25 Bl Cap25:=by
  intro W H enc fuel cs x b
  obtain ⟨e,m,q,i⟩:=jR (show mW Tryz.prog 25 0=some (22,0,1) by kernel_rfl) b
  obtain ⟨a0,l,g⟩:=Bn _ _ _ _ _ _ i
  obtain ⟨e,r,s,h1⟩:=jR (show mW Tryz.prog 25 1=some (23,1,1) by kernel_rfl) b
  obtain ⟨j,a,p1⟩:=tN _ _ _ _ _ _ h1
  have h:Tryz.prog.cellsOf 25=2:=by kernel_rfl
  rw [h] at e
  rw [List.take_of_length_le (by simp; omega)] at a
  exact ⟨⟨a0,j⟩,⟨_,_,show cs=(cs.drop 0).take 1++cs.drop 1 from xQ 0 1,l,a⟩,⟨g,p1⟩⟩
section
variable {W:World}{H:Type}{enc:TypeId×Value→H}{v:Value}{d:DataW H}{p:List MemPlace}{base:Nat}
theorem Bp (h:DataW.Trod enc Tryz.prog W 0 (fun _=>true) true 25 v d p)(B:Value.okWide Tryz.prog W .any base 25 v):∃ (a:Graph) (j e:Option Addr) (i g:Nat),v=.agg [.slice j a.Nodes.length i,.slice e a.Outs.length g].toArray∧pK jL (lg W) (.slice j a.Nodes.length i) a.Nodes∧pK kT3 (lg W) (.slice e a.Outs.length g) a.Outs∧Cap25 a:=by
  obtain ⟨fuel,q⟩:=h
  obtain ⟨cs,rfl,D⟩:=WideShapes.okWide_struct Tryz.underlying25 B
  obtain ⟨a,u,b⟩:=Bo _ _ _ _ _ _ q
  obtain ⟨_,_,r,⟨v1,rfl,m⟩,⟨E,rfl,l⟩⟩:=u
  obtain ⟨e,g,rfl,_⟩:=id m
  obtain ⟨A2,s,rfl,_⟩:=id l
  exact ⟨a,e,A2,g,s,by rw [show cs=cs.toList.toArray by simp,show cs.toList=_ from r]; rfl,m,l,b⟩
end
theorem k25:Tryz.prog.readableRec 25=true:=by kernel_rfl
theorem l25:25<Tryz.prog.types.size:=of_decide_eq_true (by kernel_rfl)
theorem own:ownKnob Tryz.prog.godebug=none:=by kernel_rfl
set_option maxHeartbeats 800000 in
set_option maxRecDepth 100000 in
theorem ka (Y:Os)(a:Y.Started)(H:Type)(enc:TypeId×Value→H) :
    ReturnsInHanded {} Tryz.checked Y 5 .any (Rows.fnExactShapesSpec.pre6 enc Tryz.prog Tryz.f5 Rows.fnExactShapesRow.domain false) (Rows.fnExactShapesSpec.post enc Tryz.prog Tryz.f5 false true false false):=by
  refine returnsInHanded_of_change_shaped (C:=Tryz.checked) own a (by kernel_rfl) Tryz.func5
    (ChangeSpec.witness6 (enc:=enc) (C:=Tryz.checked) false ⟨#[],#[.agg #[.slice none 0 0,.slice none 0 0]],[]⟩ 8 (by kernel_rfl) (by kernel_rfl) (by kernel_rfl) (by kernel_rfl)) ?_
  intro W base args ds gs D l F _ _ J _
  obtain ⟨m,hm⟩:∃ m,W.cell? ⟨0,0,none⟩=some (.int .i64 m):=cell_of_shapedOpen_int (P:=Tryz.prog) (t:=3) (zero:=#[.int .i64 0]) J (of_decide_eq_true (by kernel_rfl)) (by kernel_rfl) rfl (by kernel_rfl) (by kernel_rfl) (by kernel_rfl)
  have G:=F
  have O:=F.lt
  obtain ⟨p,q,hA,hV,rfl,a3,_⟩:=F
  have I:DataW.TrodAll enc Tryz.prog W 0 (fun _=>true) true [25] args.toList ds p:=hA
  obtain ⟨v0,a2,d0,a1,T,q0,ea,rfl,rfl,h0,L⟩:=ChangeShapes.trodAll_cons I
  obtain ⟨rfl,rfl,rfl⟩:=ChangeShapes.trodAll_nil L
  obtain rfl:args=#[v0]:=by cases args; simp_all
  obtain ⟨rfl,rfl⟩:=ChangeShapes.trodVars_none hV
  obtain ⟨a0,r,j,B,s,rfl,i,u,M⟩:=Bp h0 (l 0 25 _ (by kernel_rfl) rfl)
  have g:=Z37_ok (A2:=r) (N2:=a0.Nodes.length) (D2:=B) (A3:=j) (N3:=a0.Outs.length) (D3:=s) (mG:=m) (pI a0 M) W W [xH W] (xI (by
    intro q Z
    simp only [List.mem_cons,List.not_mem_nil,or_false] at Z
    rcases Z with rfl | rfl | rfl
    · exact ⟨rfl,i⟩
    · exact ⟨rfl,u⟩
    · exact zV hm))
  refine Calls.mono' g ?_
  rintro e W' ⟨_,rfl,s'⟩
  have U:=rq s'
  have tr:∀ {t:TypeId} {v:Value} {d:DataW H} {E:List MemPlace},Tryz.prog.readableRec t=true→t<Tryz.prog.types.size→DataW.Trod enc Tryz.prog W 0 (fun _=>true) true t v d E→(∀ x∈E,x∈(T++[]))→DataW.Trod enc Tryz.prog W' 0 (fun b=>decide (b<W.heap.size)) true t v d E:=fun k1 k2 h hp=>U.trod (by kernel_rfl) k1 k2 h (fun x hx=>O x (by simpa using hp x hx))
  refine ⟨_,rfl,_,_,_,[],(T++[]),[],G,?_,?_,rfl,U.frame _,fun h=>by cases h⟩
  · exact ChangeShapes.trodAll_mk1 ⟨1,rfl⟩
  · exact trodAll_cons_mk (tr k25 l25 h0 (by simp +contextual)) ChangeShapes.trodAll_mk0
theorem law_shapes_holds:Rows.FnExactShapesSaid :=
  OpenClaim.holds_of_wide 5 Tryz.f5 rfl rfl rfl rfl rfl rfl rfl ⟨rfl,rfl,rfl,rfl,rfl⟩ rfl rfl rfl rfl rfl (by kernel_rfl) Tryz.func5 (by kernel_rfl)
    (of_decide_eq_true (by kernel_rfl)) (by unfold Func.isWrapper; first | (rw [if_pos (by decide +kernel)]; kernel_rfl) | (rw [if_neg (by decide +kernel)]; exact ⟨rfl,rfl⟩))
    (fun b a H enc _=>ka b a H enc)
end Go.Proofs.YtmpnollfdpdipaaGreat
