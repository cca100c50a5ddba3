/- The law FnExactDegrees of the given program returns true for every input that its row lets in, and leaves its arguments as they were. No condition beyond the row's own. -/
import Derived.Test.YtmpnollfdpdipaaGreatGkW8
import Derived.Test.YtmpnollfdpdipaaGreatGG29
import Derived.Test.YtmpnollfdpdipaaGreatRc
import Derived.Test.YtmpnollfdpdipaaGreatRows
import Derived.ProofKit
import Derived.SizedLaws
import Derived.OpenShut
import Derived.WideShapes
import Derived.HandedShaped
import Derived.Shelf.Vars
set_option linter.unusedVariables false
set_option linter.constructorNameAsVariable false
set_option maxRecDepth 100000
namespace Go.Proofs.YtmpnollfdpdipaaGreat
open Go Go.Pg
abbrev Bz:Kind Graph:=Kind.iso (Kind.pair (Kind.sl 70 jM) (Kind.sl 3 kT3)) (fun x:Graph=>(x.Nodes,x.Outs))
theorem BU:Rc Tryz.prog 3 kT3 (fun _=>True):=xN (by kernel_rfl)
theorem tS:Rc Tryz.prog 23 (Kind.sl 3 kT3) mL:=Rc.mono (v' (by kernel_rfl) BU (by kernel_rfl) rfl) (fun a h=>h.1)
theorem rd9:Rc Tryz.prog 9 dO zZ:=xO (by kernel_rfl)
theorem BA:Rc Tryz.prog 70 jM Cap70:=by
  intro W H enc fuel cs x b
  obtain ⟨a,n0,y0,E⟩:=jT (show mU Tryz.prog 70 0=some (3,0,1) by kernel_rfl) b
  obtain ⟨a0,l,M⟩:=BU _ _ _ _ _ _ E
  obtain ⟨a,Z,Y,h1⟩:=jT (show mU Tryz.prog 70 1=some (23,1,1) by kernel_rfl) b
  obtain ⟨s,g,p1⟩:=tS _ _ _ _ _ _ h1
  obtain ⟨a,L,O,h2⟩:=jT (show mU Tryz.prog 70 2=some (23,2,1) by kernel_rfl) b
  obtain ⟨j,i,G⟩:=tS _ _ _ _ _ _ h2
  obtain ⟨a,n3,y3,r⟩:=jT (show mU Tryz.prog 70 3=some (23,3,1) by kernel_rfl) b
  obtain ⟨a3,F,q⟩:=tS _ _ _ _ _ _ r
  obtain ⟨a,T,y4,u⟩:=jT (show mU Tryz.prog 70 4=some (9,4,1) by kernel_rfl) b
  obtain ⟨a4,B,I⟩:=rd9 _ _ _ _ _ _ u
  obtain ⟨a,U,J,h⟩:=jT (show mU Tryz.prog 70 5=some (23,5,1) by kernel_rfl) b
  obtain ⟨a5,e,D⟩:=tS _ _ _ _ _ _ h
  have m:Tryz.prog.cellsOf 70=6:=by kernel_rfl
  rw [m] at a
  rw [List.take_of_length_le (by simp; omega)] at e
  exact ⟨⟨a0,s,j,a3,a4,a5⟩,⟨_,_,show cs=(cs.drop 0).take 1++cs.drop 1 from xY 0 1,l,⟨_,_,xY 1 1,g,⟨_,_,xY 2 1,i,⟨_,_,xY 3 1,F,⟨_,_,xY 4 1,B,e⟩⟩⟩⟩⟩,⟨p1,G,q,I,D⟩⟩
theorem BC:Rc Tryz.prog 22 (Kind.sl 70 jM) tL:=Rc.mono (v' (by kernel_rfl) BA (by kernel_rfl) rfl) (fun a h=>h)
theorem BD:Rc Tryz.prog 25 Bz Cap25:=by
  intro W H enc fuel cs x e
  obtain ⟨b,s,r,j⟩:=jT (show mU Tryz.prog 25 0=some (22,0,1) by kernel_rfl) e
  obtain ⟨a0,h,l⟩:=BC _ _ _ _ _ _ j
  obtain ⟨b,q,m,h1⟩:=jT (show mU Tryz.prog 25 1=some (23,1,1) by kernel_rfl) e
  obtain ⟨g,a,p1⟩:=tS _ _ _ _ _ _ h1
  have i:Tryz.prog.cellsOf 25=2:=by kernel_rfl
  rw [i] at b
  rw [List.take_of_length_le (by simp; omega)] at a
  exact ⟨⟨a0,g⟩,⟨_,_,show cs=(cs.drop 0).take 1++cs.drop 1 from xY 0 1,h,a⟩,⟨l,p1⟩⟩
section
variable {W:World}{H:Type}{enc:TypeId×Value→H}{v:Value}{d:DataW H}{p:List MemPlace}{base:Nat}
theorem BE (h:DataW.Trod enc Tryz.prog W 0 (fun _=>true) true 25 v d p)(r:Value.okWide Tryz.prog W .any base 25 v):∃ (a:Graph) (m e:Option Addr) (l g:Nat),v=.agg [.slice m a.Nodes.length l,.slice e a.Outs.length g].toArray∧pT jM (lg W) (.slice m a.Nodes.length l) a.Nodes∧pT kT3 (lg W) (.slice e a.Outs.length g) a.Outs∧Cap25 a:=by
  obtain ⟨fuel,B⟩:=h
  obtain ⟨cs,rfl,D⟩:=WideShapes.okWide_struct Tryz.underlying25 r
  obtain ⟨a,q,b⟩:=BD _ _ _ _ _ _ B
  obtain ⟨_,_,u,⟨v1,rfl,i⟩,⟨E,rfl,j⟩⟩:=q
  obtain ⟨e,g,rfl,_⟩:=id i
  obtain ⟨A2,s,rfl,_⟩:=id j
  exact ⟨a,e,A2,g,s,by rw [show cs=cs.toList.toArray by simp,show cs.toList=_ from u]; rfl,i,j,b⟩
end
theorem k25:Tryz.prog.readableRec 25=true:=by kernel_rfl
theorem l25:25<Tryz.prog.types.size:=of_decide_eq_true (by kernel_rfl)
theorem own:ownKnob Tryz.prog.godebug=none:=by kernel_rfl
set_option maxHeartbeats 800000 in
set_option maxRecDepth 100000 in
theorem jU (U:Os)(a:U.Started)(H:Type)(enc:TypeId×Value→H) :
    ReturnsInHanded {} Tryz.checked U 8 .any (Rows.fnExactDegreesSpec.pre6 enc Tryz.prog Tryz.f8 Rows.fnExactDegreesRow.domain false) (Rows.fnExactDegreesSpec.post enc Tryz.prog Tryz.f8 false true false false):=by
  refine returnsInHanded_of_change_shaped (C:=Tryz.checked) own a (by kernel_rfl) Tryz.func8
    (ChangeSpec.witness6 (enc:=enc) (C:=Tryz.checked) false ⟨#[],#[.agg #[.slice none 0 0,.slice none 0 0]],[]⟩ 8 (by kernel_rfl) (by kernel_rfl) (by kernel_rfl) (by kernel_rfl)) ?_
  intro W base args ds gs D j E _ _ F _
  obtain ⟨m,hm⟩:∃ m,W.cell? ⟨0,0,none⟩=some (.int .i64 m):=cell_of_shapedOpen_int (P:=Tryz.prog) (t:=3) (zero:=#[.int .i64 0]) F (of_decide_eq_true (by kernel_rfl)) (by kernel_rfl) rfl (by kernel_rfl) (by kernel_rfl) (by kernel_rfl)
  have L:=E
  have I:=E.lt
  obtain ⟨p,q,hA,hV,rfl,a1,_⟩:=E
  have M:DataW.TrodAll enc Tryz.prog W 0 (fun _=>true) true [25] args.toList ds p:=hA
  obtain ⟨v0,a3,d0,a2,T,q0,ea,rfl,rfl,Z,G⟩:=ChangeShapes.trodAll_cons M
  obtain ⟨rfl,rfl,rfl⟩:=ChangeShapes.trodAll_nil G
  obtain rfl:args=#[v0]:=by cases args; simp_all
  obtain ⟨rfl,rfl⟩:=ChangeShapes.trodVars_none hV
  obtain ⟨a0,u,l,i,s,rfl,r,B,O⟩:=BE Z (j 0 25 _ (by kernel_rfl) rfl)
  have g:=Z3a_ok (A2:=u) (N2:=a0.Nodes.length) (D2:=i) (A3:=l) (N3:=a0.Outs.length) (D3:=s) (mG:=m) (oW a0 O) W W [xP W] (xQ (by
    intro q Y
    simp only [List.mem_cons,List.not_mem_nil,or_false] at Y
    rcases Y with rfl | rfl | rfl
    · exact ⟨rfl,r⟩
    · exact ⟨rfl,B⟩
    · exact Af hm))
  refine Calls.mono' g ?_
  rintro e W' ⟨_,rfl,s'⟩
  have hb:=rA s'
  have tr:∀ {t:TypeId} {v:Value} {d:DataW H} {J:List MemPlace},Tryz.prog.readableRec t=true→t<Tryz.prog.types.size→DataW.Trod enc Tryz.prog W 0 (fun _=>true) true t v d J→(∀ x∈J,x∈(T++[]))→DataW.Trod enc Tryz.prog W' 0 (fun b=>decide (b<W.heap.size)) true t v d J:=fun k1 k2 h hp=>hb.trod (by kernel_rfl) k1 k2 h (fun x hx=>I x (by simpa using hp x hx))
  refine ⟨_,rfl,_,_,_,[],(T++[]),[],L,?_,?_,rfl,hb.frame _,fun h=>by cases h⟩
  · exact ChangeShapes.trodAll_mk1 ⟨1,rfl⟩
  · exact trodAll_cons_mk (tr k25 l25 Z (by simp +contextual)) ChangeShapes.trodAll_mk0
theorem law_degrees_holds:Rows.FnExactDegreesSaid :=
  OpenClaim.holds_of_wide 8 Tryz.f8 rfl rfl rfl rfl rfl rfl rfl ⟨rfl,rfl,rfl,rfl,rfl⟩ rfl rfl rfl rfl rfl (by kernel_rfl) Tryz.func8 (by kernel_rfl)
    (of_decide_eq_true (by kernel_rfl)) (by unfold Func.isWrapper; first | (rw [if_pos (by decide +kernel)]; kernel_rfl) | (rw [if_neg (by decide +kernel)]; exact ⟨rfl,rfl⟩))
    (fun b a H enc _=>jU b a H enc)
end Go.Proofs.YtmpnollfdpdipaaGreat
