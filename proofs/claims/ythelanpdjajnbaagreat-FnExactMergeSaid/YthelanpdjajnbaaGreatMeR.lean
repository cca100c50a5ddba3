/- The law FnExactMerge of the given program returns true for every input that its row lets in, and leaves its arguments as they were. No condition beyond the row's own. -/
import Derived.Test.YthelanpdjajnbaaGreatMeW10
import Derived.Test.YthelanpdjajnbaaGreatMG29
import Derived.Test.YthelanpdjajnbaaGreatRc
import Derived.Test.YthelanpdjajnbaaGreatRows
import Derived.ProofKit
import Derived.SizedLaws
import Derived.OpenShut
import Derived.WideShapes
import Derived.HandedShaped
import Derived.Shelf.Vars
set_option linter.unusedVariables false
set_option linter.constructorNameAsVariable false
set_option maxRecDepth 100000
namespace Go.Proofs.YthelanpdjajnbaaGreat
open Go Go.Pg
abbrev Ck:Kind Graph:=Kind.iso (Kind.pair (Kind.sl 75 gG) (Kind.sl 3 kT3)) (fun x:Graph=>(x.Nodes,x.Outs))
theorem CE:Rc Tryz.prog 3 kT3 (fun _=>True):=yF (by kernel_rfl)
theorem uH:Rc Tryz.prog 23 (Kind.sl 3 kT3) nu:=Rc.mono (wW (by kernel_rfl) CE (by kernel_rfl) rfl) (fun a h=>h.1)
theorem rd9:Rc Tryz.prog 9 kT9 AT:=yG (by kernel_rfl)
theorem Cl:Rc Tryz.prog 75 gG Cap75:=by
  intro W H enc fuel cs x b
  obtain ⟨a,I,Y,h⟩:=kq (show nH Tryz.prog 75 0=some (3,0,1) by kernel_rfl) b
  obtain ⟨a0,B,U⟩:=CE _ _ _ _ _ _ h
  obtain ⟨a,J,Z,h1⟩:=kq (show nH Tryz.prog 75 1=some (23,1,1) by kernel_rfl) b
  obtain ⟨a1,D,p1⟩:=uH _ _ _ _ _ _ h1
  obtain ⟨a,L,y2,h2⟩:=kq (show nH Tryz.prog 75 2=some (23,2,1) by kernel_rfl) b
  obtain ⟨g,E,q⟩:=uH _ _ _ _ _ _ h2
  obtain ⟨a,M,y3,i⟩:=kq (show nH Tryz.prog 75 3=some (23,3,1) by kernel_rfl) b
  obtain ⟨a3,F,r⟩:=uH _ _ _ _ _ _ i
  obtain ⟨a,O,y4,j⟩:=kq (show nH Tryz.prog 75 4=some (9,4,1) by kernel_rfl) b
  obtain ⟨a4,G,s⟩:=rd9 _ _ _ _ _ _ j
  obtain ⟨a,T,y5,l⟩:=kq (show nH Tryz.prog 75 5=some (23,5,1) by kernel_rfl) b
  obtain ⟨a5,e,u⟩:=uH _ _ _ _ _ _ l
  have m:Tryz.prog.cellsOf 75=6:=by kernel_rfl
  rw [m] at a
  rw [List.take_of_length_le (by simp; omega)] at e
  exact ⟨⟨a0,a1,g,a3,a4,a5⟩,⟨_,_,show cs=(cs.drop 0).take 1++cs.drop 1 from yQ 0 1,B,⟨_,_,yQ 1 1,D,⟨_,_,yQ 2 1,E,⟨_,_,yQ 3 1,F,⟨_,_,yQ 4 1,G,e⟩⟩⟩⟩⟩,⟨p1,q,r,s,u⟩⟩
theorem Cm:Rc Tryz.prog 22 (Kind.sl 75 gG) uC:=Rc.mono (wW (by kernel_rfl) Cl (by kernel_rfl) rfl) (fun a h=>h)
theorem Cn:Rc Tryz.prog 25 Ck Cap25:=by
  intro W H enc fuel cs x b
  obtain ⟨a,l,q,g⟩:=kq (show nH Tryz.prog 25 0=some (22,0,1) by kernel_rfl) b
  obtain ⟨a0,j,i⟩:=Cm _ _ _ _ _ _ g
  obtain ⟨a,m,r,h1⟩:=kq (show nH Tryz.prog 25 1=some (23,1,1) by kernel_rfl) b
  obtain ⟨a1,e,p1⟩:=uH _ _ _ _ _ _ h1
  have h:Tryz.prog.cellsOf 25=2:=by kernel_rfl
  rw [h] at a
  rw [List.take_of_length_le (by simp; omega)] at e
  exact ⟨⟨a0,a1⟩,⟨_,_,show cs=(cs.drop 0).take 1++cs.drop 1 from yQ 0 1,j,e⟩,⟨i,p1⟩⟩
section
variable {W:World}{H:Type}{enc:TypeId×Value→H}{v:Value}{d:DataW H}{p:List MemPlace}{base:Nat}
theorem B2 (h:DataW.Trod enc Tryz.prog W 0 (fun _=>true) true 25 v d p)(u:Value.okWide Tryz.prog W .any base 25 v):∃ (a:Graph) (i e:Option Addr) (j g:Nat),v=.agg [.slice i a.Nodes.length j,.slice e a.Outs.length g].toArray∧qC gG (ma W) (.slice i a.Nodes.length j) a.Nodes∧qC kT3 (ma W) (.slice e a.Outs.length g) a.Outs∧Cap25 a:=by
  obtain ⟨fuel,B⟩:=h
  obtain ⟨cs,rfl,D⟩:=WideShapes.okWide_struct Tryz.underlying25 u
  obtain ⟨a,s,b⟩:=Cn _ _ _ _ _ _ B
  obtain ⟨_,_,r,⟨v1,rfl,l⟩,⟨E,rfl,m⟩⟩:=s
  obtain ⟨e,g,rfl,_⟩:=id l
  obtain ⟨A2,q,rfl,_⟩:=id m
  exact ⟨a,e,A2,g,q,by rw [show cs=cs.toList.toArray by simp,show cs.toList=_ from r]; rfl,l,m,b⟩
end
theorem CF:Tryz.prog.readableRec 25=true:=by kernel_rfl
theorem CG:25<Tryz.prog.types.size:=of_decide_eq_true (by kernel_rfl)
theorem own:ownKnob Tryz.prog.godebug=none:=by kernel_rfl
set_option maxHeartbeats 800000 in
set_option maxRecDepth 100000 in
theorem kW (os:Os)(a:os.Started)(H:Type)(enc:TypeId×Value→H) :
    ReturnsInHanded {} Tryz.checked os 5 .any (Rows.fnExactMergeSpec.pre6 enc Tryz.prog Tryz.f5 Rows.fnExactMergeRow.domain false) (Rows.fnExactMergeSpec.post enc Tryz.prog Tryz.f5 false true false false):=by
  refine returnsInHanded_of_change_shaped (C:=Tryz.checked) own a (by kernel_rfl) Tryz.func5
    (ChangeSpec.witness6 (enc:=enc) (C:=Tryz.checked) false ⟨#[],#[.agg #[.slice none 0 0,.slice none 0 0],.agg #[.slice none 0 0,.slice none 0 0]],[]⟩ 8 (by kernel_rfl) (by kernel_rfl) (by kernel_rfl) (by kernel_rfl)) ?_
  intro W base args ds gs L g O _ _ a4 _
  obtain ⟨m,hm⟩:∃ m,W.cell? ⟨0,0,none⟩=some (.int .i64 m):=cell_of_shapedOpen_int (P:=Tryz.prog) (t:=3) (zero:=#[.int .i64 0]) a4 (of_decide_eq_true (by kernel_rfl)) (by kernel_rfl) rfl (by kernel_rfl) (by kernel_rfl) (by kernel_rfl)
  have T:=O
  have Z:=O.lt
  obtain ⟨p,q,hA,hV,rfl,a7,_⟩:=O
  have M:DataW.TrodAll enc Tryz.prog W 0 (fun _=>true) true [25,25] args.toList ds p:=hA
  obtain ⟨v0,a8,d0,a5,p0,q0,ea,rfl,rfl,h0,a2⟩:=ChangeShapes.trodAll_cons M
  obtain ⟨v1,a9,d1,a6,p1,q1,rfl,rfl,rfl,h1,a3⟩:=ChangeShapes.trodAll_cons a2
  obtain ⟨rfl,rfl,rfl⟩:=ChangeShapes.trodAll_nil a3
  obtain rfl:args=#[v0,v1]:=by cases args; simp_all
  obtain ⟨rfl,rfl⟩:=ChangeShapes.trodVars_none hV
  obtain ⟨a0,j,l,u,B,rfl,F,G,U⟩:=B2 h0 (g 0 25 _ (by kernel_rfl) rfl)
  obtain ⟨a1,r,s,D,E,rfl,I,J,Y⟩:=B2 h1 (g 1 25 _ (by kernel_rfl) rfl)
  have i:=Z3g_ok (A2:=j) (N2:=a0.Nodes.length) (D2:=u) (A3:=l) (N3:=a0.Outs.length) (D3:=B) (A5:=r) (N5:=a1.Nodes.length) (D5:=D) (A6:=s) (N6:=a1.Outs.length) (D6:=E) (mG:=m) (se a0 a1 U Y) W W [yH W] (yI (by
    intro q hq
    simp only [List.mem_cons,List.not_mem_nil,or_false] at hq
    rcases hq with rfl | rfl | rfl | rfl | rfl
    · exact ⟨rfl,F⟩
    · exact ⟨rfl,G⟩
    · exact ⟨rfl,I⟩
    · exact ⟨rfl,J⟩
    · exact B1 hm))
  refine Calls.mono' i ?_
  rintro e W' ⟨_,rfl,s'⟩
  have hb:=sf s'
  have tr:∀ {t:TypeId} {v:Value} {d:DataW H} {p':List MemPlace},Tryz.prog.readableRec t=true→t<Tryz.prog.types.size→DataW.Trod enc Tryz.prog W 0 (fun _=>true) true t v d p'→(∀ x∈p',x∈(p0++(p1++[])))→DataW.Trod enc Tryz.prog W' 0 (fun b=>decide (b<W.heap.size)) true t v d p':=fun k1 k2 h hp=>hb.trod (by kernel_rfl) k1 k2 h (fun x hx=>Z x (by simpa using hp x hx))
  refine ⟨_,rfl,_,_,_,[],(p0++(p1++[])),[],T,?_,?_,rfl,hb.frame _,fun h=>by cases h⟩
  · exact ChangeShapes.trodAll_mk1 ⟨1,rfl⟩
  · exact trodAll_cons_mk (tr CF CG h0 (by simp +contextual)) (trodAll_cons_mk (tr CF CG h1 (by simp +contextual)) ChangeShapes.trodAll_mk0)
theorem law_merge_holds:Rows.FnExactMergeSaid :=
  OpenClaim.holds_of_wide 5 Tryz.f5 rfl rfl rfl rfl rfl rfl rfl ⟨rfl,rfl,rfl,rfl,rfl⟩ rfl rfl rfl rfl rfl (by kernel_rfl) Tryz.func5 (by kernel_rfl)
    (of_decide_eq_true (by kernel_rfl)) (by unfold Func.isWrapper; first | (rw [if_pos (by decide +kernel)]; kernel_rfl) | (rw [if_neg (by decide +kernel)]; exact ⟨rfl,rfl⟩))
    (fun b a H enc _=>kW b a H enc)
end Go.Proofs.YthelanpdjajnbaaGreat
