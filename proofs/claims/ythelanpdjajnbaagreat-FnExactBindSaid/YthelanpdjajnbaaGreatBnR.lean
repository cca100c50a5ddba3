/- The law FnExactBind of the given program returns true for every input that its row lets in, and leaves its arguments as they were. No condition beyond the row's own. -/
import Derived.Test.YthelanpdjajnbaaGreatBnW9
import Derived.Test.YthelanpdjajnbaaGreatBG29
import Derived.Test.YthelanpdjajnbaaGreatRc
import Derived.Test.YthelanpdjajnbaaGreatRows
import Derived.ProofKit
import Derived.SizedLaws
import Derived.OpenShut
import Derived.WideShapes
import Derived.HandedShaped
import Derived.Shelf.Vars
set_option linter.unusedVariables false
set_option linter.constructorNameAsVariable false
set_option maxRecDepth 100000
namespace Go.Proofs.YthelanpdjajnbaaGreat
open Go Go.Pg
abbrev BR:Kind Graph:=Kind.iso (Kind.pair (Kind.sl 75 iN) (Kind.sl 3 kT3)) (fun x:Graph=>(x.Nodes,x.Outs))
abbrev BS:Kind Tensor:=Kind.iso (Kind.pair (Kind.sl 3 kT3) (Kind.sl 3 kT3)) (fun x:Tensor=>(x.Dims,x.Data))
theorem Cc:Rc Tryz.prog 3 kT3 (fun _=>True):=ym (by kernel_rfl)
theorem qm:Rc Tryz.prog 23 (Kind.sl 3 kT3) li:=Rc.mono (wF (by kernel_rfl) Cc (by kernel_rfl) rfl) (fun a h=>h.1)
theorem rd9:Rc Tryz.prog 9 kT9 Ay:=yn (by kernel_rfl)
theorem BT:Rc Tryz.prog 75 iN Cap75:=by
  intro W H enc fuel cs x b
  obtain ⟨a,I,Y,h⟩:=jr (show md Tryz.prog 75 0=some (3,0,1) by kernel_rfl) b
  obtain ⟨a0,B,U⟩:=Cc _ _ _ _ _ _ h
  obtain ⟨a,J,Z,h1⟩:=jr (show md Tryz.prog 75 1=some (23,1,1) by kernel_rfl) b
  obtain ⟨a1,D,p1⟩:=qm _ _ _ _ _ _ h1
  obtain ⟨a,L,y2,h2⟩:=jr (show md Tryz.prog 75 2=some (23,2,1) by kernel_rfl) b
  obtain ⟨g,E,q⟩:=qm _ _ _ _ _ _ h2
  obtain ⟨a,M,y3,i⟩:=jr (show md Tryz.prog 75 3=some (23,3,1) by kernel_rfl) b
  obtain ⟨a3,F,r⟩:=qm _ _ _ _ _ _ i
  obtain ⟨a,O,y4,j⟩:=jr (show md Tryz.prog 75 4=some (9,4,1) by kernel_rfl) b
  obtain ⟨a4,G,s⟩:=rd9 _ _ _ _ _ _ j
  obtain ⟨a,T,y5,l⟩:=jr (show md Tryz.prog 75 5=some (23,5,1) by kernel_rfl) b
  obtain ⟨a5,e,u⟩:=qm _ _ _ _ _ _ l
  have m:Tryz.prog.cellsOf 75=6:=by kernel_rfl
  rw [m] at a
  rw [List.take_of_length_le (by simp; omega)] at e
  exact ⟨⟨a0,a1,g,a3,a4,a5⟩,⟨_,_,show cs=(cs.drop 0).take 1++cs.drop 1 from yo 0 1,B,⟨_,_,yo 1 1,D,⟨_,_,yo 2 1,E,⟨_,_,yo 3 1,F,⟨_,_,yo 4 1,G,e⟩⟩⟩⟩⟩,⟨p1,q,r,s,u⟩⟩
theorem BU:Rc Tryz.prog 22 (Kind.sl 75 iN) uf:=Rc.mono (wF (by kernel_rfl) BT (by kernel_rfl) rfl) (fun a h=>h)
theorem BV:Rc Tryz.prog 25 BR Cap25:=by
  intro W H enc fuel cs x b
  obtain ⟨a,l,q,g⟩:=jr (show md Tryz.prog 25 0=some (22,0,1) by kernel_rfl) b
  obtain ⟨a0,j,i⟩:=BU _ _ _ _ _ _ g
  obtain ⟨a,m,r,h1⟩:=jr (show md Tryz.prog 25 1=some (23,1,1) by kernel_rfl) b
  obtain ⟨a1,e,p1⟩:=qm _ _ _ _ _ _ h1
  have h:Tryz.prog.cellsOf 25=2:=by kernel_rfl
  rw [h] at a
  rw [List.take_of_length_le (by simp; omega)] at e
  exact ⟨⟨a0,a1⟩,⟨_,_,show cs=(cs.drop 0).take 1++cs.drop 1 from yo 0 1,j,e⟩,⟨i,p1⟩⟩
theorem BW:Rc Tryz.prog 38 BS Cap38:=by
  intro W H enc fuel cs x b
  obtain ⟨a,l,q,g⟩:=jr (show md Tryz.prog 38 0=some (23,0,1) by kernel_rfl) b
  obtain ⟨a0,j,i⟩:=qm _ _ _ _ _ _ g
  obtain ⟨a,m,r,h1⟩:=jr (show md Tryz.prog 38 1=some (23,1,1) by kernel_rfl) b
  obtain ⟨a1,e,p1⟩:=qm _ _ _ _ _ _ h1
  have h:Tryz.prog.cellsOf 38=2:=by kernel_rfl
  rw [h] at a
  rw [List.take_of_length_le (by simp; omega)] at e
  exact ⟨⟨a0,a1⟩,⟨_,_,show cs=(cs.drop 0).take 1++cs.drop 1 from yo 0 1,j,e⟩,⟨i,p1⟩⟩
section
variable {W:World}{H:Type}{enc:TypeId×Value→H}{v:Value}{d:DataW H}{p:List MemPlace}{base:Nat}
theorem BX (h:DataW.Trod enc Tryz.prog W 0 (fun _=>true) true 25 v d p)(u:Value.okWide Tryz.prog W .any base 25 v):∃ (a:Graph) (i e:Option Addr) (j g:Nat),v=.agg [.slice i a.Nodes.length j,.slice e a.Outs.length g].toArray∧pj iN (kK W) (.slice i a.Nodes.length j) a.Nodes∧pj kT3 (kK W) (.slice e a.Outs.length g) a.Outs∧Cap25 a:=by
  obtain ⟨fuel,B⟩:=h
  obtain ⟨cs,rfl,D⟩:=WideShapes.okWide_struct Tryz.underlying25 u
  obtain ⟨a,s,b⟩:=BV _ _ _ _ _ _ B
  obtain ⟨_,_,r,⟨v1,rfl,l⟩,⟨E,rfl,m⟩⟩:=s
  obtain ⟨e,g,rfl,_⟩:=id l
  obtain ⟨A2,q,rfl,_⟩:=id m
  exact ⟨a,e,A2,g,q,by rw [show cs=cs.toList.toArray by simp,show cs.toList=_ from r]; rfl,l,m,b⟩
theorem of3 (h:DataW.Trod enc Tryz.prog W 0 (fun _=>true) true 3 v d p)(b:Value.okWide Tryz.prog W .any base 3 v):∃ (a:Int),v=.int .i64 a:=by
  obtain ⟨fuel,e⟩:=h
  obtain ⟨a,rfl⟩:=WideShapes.okWide_int (show Tryz.prog.underlying 3=some (.int .i64) by kernel_rfl) b
  exact ⟨a,rfl⟩
theorem BY (h:DataW.Trod enc Tryz.prog W 0 (fun _=>true) true 38 v d p)(u:Value.okWide Tryz.prog W .any base 38 v):∃ (a:Tensor) (i e:Option Addr) (j g:Nat),v=.agg [.slice i a.Dims.length j,.slice e a.Data.length g].toArray∧pj kT3 (kK W) (.slice i a.Dims.length j) a.Dims∧pj kT3 (kK W) (.slice e a.Data.length g) a.Data∧Cap38 a:=by
  obtain ⟨fuel,B⟩:=h
  obtain ⟨cs,rfl,D⟩:=WideShapes.okWide_struct Tryz.underlying38 u
  obtain ⟨a,s,b⟩:=BW _ _ _ _ _ _ B
  obtain ⟨_,_,r,⟨v1,rfl,l⟩,⟨E,rfl,m⟩⟩:=s
  obtain ⟨e,g,rfl,_⟩:=id l
  obtain ⟨A2,q,rfl,_⟩:=id m
  exact ⟨a,e,A2,g,q,by rw [show cs=cs.toList.toArray by simp,show cs.toList=_ from r]; rfl,l,m,b⟩
end
theorem k25:Tryz.prog.readableRec 25=true:=by kernel_rfl
theorem l25:25<Tryz.prog.types.size:=of_decide_eq_true (by kernel_rfl)
theorem k3:Tryz.prog.readableRec 3=true:=by kernel_rfl
theorem l3:3<Tryz.prog.types.size:=of_decide_eq_true (by kernel_rfl)
theorem k38:Tryz.prog.readableRec 38=true:=by kernel_rfl
theorem l38:38<Tryz.prog.types.size:=of_decide_eq_true (by kernel_rfl)
theorem own:ownKnob Tryz.prog.godebug=none:=by kernel_rfl
set_option maxHeartbeats 800000 in
set_option maxRecDepth 100000 in
theorem ll (os:Os)(g:os.Started)(H:Type)(enc:TypeId×Value→H) :
    ReturnsInHanded {} Tryz.checked os 4 .any (Rows.fnExactBindSpec.pre6 enc Tryz.prog Tryz.f4 Rows.fnExactBindRow.domain false) (Rows.fnExactBindSpec.post enc Tryz.prog Tryz.f4 false true false false):=by
  refine returnsInHanded_of_change_shaped (C:=Tryz.checked) own g (by kernel_rfl) Tryz.func4
    (ChangeSpec.witness6 (enc:=enc) (C:=Tryz.checked) false ⟨#[],#[.agg #[.slice none 0 0,.slice none 0 0],.int .i64 0,.agg #[.slice none 0 0,.slice none 0 0]],[]⟩ 8 (by kernel_rfl) (by kernel_rfl) (by kernel_rfl) (by kernel_rfl)) ?_
  intro W base args ds gs L a T _ _ a7 _
  obtain ⟨m,hm⟩:∃ m,W.cell? ⟨0,0,none⟩=some (.int .i64 m):=cell_of_shapedOpen_int (P:=Tryz.prog) (t:=3) (zero:=#[.int .i64 0]) a7 (of_decide_eq_true (by kernel_rfl)) (by kernel_rfl) rfl (by kernel_rfl) (by kernel_rfl) (by kernel_rfl)
  have U:=T
  have a3:=T.lt
  obtain ⟨p,q,hA,hV,rfl,ab,_⟩:=T
  have O:DataW.TrodAll enc Tryz.prog W 0 (fun _=>true) true [25,3,38] args.toList ds p:=hA
  obtain ⟨v0,ac,d0,a8,p0,q0,ea,rfl,rfl,h0,a4⟩:=ChangeShapes.trodAll_cons O
  obtain ⟨v1,ae,d1,a9,p1,q1,rfl,rfl,rfl,h1,a5⟩:=ChangeShapes.trodAll_cons a4
  obtain ⟨v2,ag,d2,aa,p2,q2,rfl,rfl,rfl,h2,a6⟩:=ChangeShapes.trodAll_cons a5
  obtain ⟨rfl,rfl,rfl⟩:=ChangeShapes.trodAll_nil a6
  obtain rfl:args=#[v0,v1,v2]:=by cases args; simp_all
  obtain ⟨rfl,rfl⟩:=ChangeShapes.trodVars_none hV
  obtain ⟨a0,j,l,u,B,rfl,F,G,Y⟩:=BX h0 (a 0 25 _ (by kernel_rfl) rfl)
  obtain ⟨a1,rfl⟩:=of3 h1 (a 1 3 _ (by kernel_rfl) rfl)
  obtain ⟨M,r,s,D,E,rfl,I,J,Z⟩:=BY h2 (a 2 38 _ (by kernel_rfl) rfl)
  have i:=Z3d_ok (A2:=j) (N2:=a0.Nodes.length) (D2:=u) (A3:=l) (N3:=a0.Outs.length) (D3:=B) (A6:=r) (N6:=M.Dims.length) (D6:=D) (A7:=s) (N7:=M.Data.length) (D7:=E) (mG:=m) (uo a0 a1 M Y Z) W W [yp W] (yq (by
    intro q hq
    simp only [List.mem_cons,List.not_mem_nil,or_false] at hq
    rcases hq with rfl | rfl | rfl | rfl | rfl
    · exact ⟨rfl,F⟩
    · exact ⟨rfl,G⟩
    · exact ⟨rfl,I⟩
    · exact ⟨rfl,J⟩
    · exact AD hm))
  refine Calls.mono' i ?_
  rintro e W' ⟨_,rfl,s'⟩
  have hb:=r' s'
  have tr:∀ {t:TypeId} {v:Value} {d:DataW H} {p':List MemPlace},Tryz.prog.readableRec t=true→t<Tryz.prog.types.size→DataW.Trod enc Tryz.prog W 0 (fun _=>true) true t v d p'→(∀ x∈p',x∈(p0++(p1++(p2++[]))))→DataW.Trod enc Tryz.prog W' 0 (fun b=>decide (b<W.heap.size)) true t v d p':=fun k1 k2 h hp=>hb.trod (by kernel_rfl) k1 k2 h (fun x hx=>a3 x (by simpa using hp x hx))
  refine ⟨_,rfl,_,_,_,[],(p0++(p1++(p2++[]))),[],U,?_,?_,rfl,hb.frame _,fun h=>by cases h⟩
  · exact ChangeShapes.trodAll_mk1 ⟨1,rfl⟩
  · exact trodAll_cons_mk (tr k25 l25 h0 (by simp +contextual)) (trodAll_cons_mk (tr k3 l3 h1 (by simp +contextual)) (trodAll_cons_mk (tr k38 l38 h2 (by simp +contextual)) ChangeShapes.trodAll_mk0))
theorem law_bind_holds:Rows.FnExactBindSaid :=
  OpenClaim.holds_of_wide 4 Tryz.f4 rfl rfl rfl rfl rfl rfl rfl ⟨rfl,rfl,rfl,rfl,rfl⟩ rfl rfl rfl rfl rfl (by kernel_rfl) Tryz.func4 (by kernel_rfl)
    (of_decide_eq_true (by kernel_rfl)) (by unfold Func.isWrapper; first | (rw [if_pos (by decide +kernel)]; kernel_rfl) | (rw [if_neg (by decide +kernel)]; exact ⟨rfl,rfl⟩))
    (fun b a H enc _=>ll b a H enc)
end Go.Proofs.YthelanpdjajnbaaGreat
