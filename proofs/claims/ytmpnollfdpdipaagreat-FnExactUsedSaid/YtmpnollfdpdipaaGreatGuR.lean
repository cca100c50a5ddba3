/- The law FnExactUsed of the given program returns true for every input that its row lets in, and leaves its arguments as they were. No condition beyond the row's own. -/
import Derived.Test.YtmpnollfdpdipaaGreatGkW8
import Derived.Test.YtmpnollfdpdipaaGreatGG29
import Derived.Test.YtmpnollfdpdipaaGreatRc
import Derived.Test.YtmpnollfdpdipaaGreatRows
import Derived.ProofKit
import Derived.SizedLaws
import Derived.OpenShut
import Derived.WideShapes
import Derived.HandedShaped
import Derived.Shelf.Vars
set_option linter.unusedVariables false
set_option linter.constructorNameAsVariable false
set_option maxRecDepth 100000
namespace Go.Proofs.YtmpnollfdpdipaaGreat
open Go Go.Pg
abbrev BD:Kind Graph:=Kind.iso (Kind.pair (Kind.sl 70 jV) (Kind.sl 3 kT3)) (fun x:Graph=>(x.Nodes,x.Outs))
theorem B':Rc Tryz.prog 3 kT3 (fun _=>True):=xU (by kernel_rfl)
theorem u3:Rc Tryz.prog 23 (Kind.sl 3 kT3) mT:=Rc.mono (wa (by kernel_rfl) B' (by kernel_rfl) rfl) (fun a h=>h.1)
theorem rd9:Rc Tryz.prog 9 dQ Ae:=xV (by kernel_rfl)
theorem BE:Rc Tryz.prog 70 jV Cap70:=by
  intro W H enc fuel cs x b
  obtain ⟨a,n0,y0,E⟩:=ka (show n5 Tryz.prog 70 0=some (3,0,1) by kernel_rfl) b
  obtain ⟨a0,m,p0⟩:=B' _ _ _ _ _ _ E
  obtain ⟨a,n1,O,h1⟩:=ka (show n5 Tryz.prog 70 1=some (23,1,1) by kernel_rfl) b
  obtain ⟨h,r,p1⟩:=u3 _ _ _ _ _ _ h1
  obtain ⟨a,T,L,h2⟩:=ka (show n5 Tryz.prog 70 2=some (23,2,1) by kernel_rfl) b
  obtain ⟨q,B,i⟩:=u3 _ _ _ _ _ _ h2
  obtain ⟨a,Y,M,g⟩:=ka (show n5 Tryz.prog 70 3=some (23,3,1) by kernel_rfl) b
  obtain ⟨a3,s,G⟩:=u3 _ _ _ _ _ _ g
  obtain ⟨a,Z,y4,j⟩:=ka (show n5 Tryz.prog 70 4=some (9,4,1) by kernel_rfl) b
  obtain ⟨a4,D,I⟩:=rd9 _ _ _ _ _ _ j
  obtain ⟨a,U,J,l⟩:=ka (show n5 Tryz.prog 70 5=some (23,5,1) by kernel_rfl) b
  obtain ⟨a5,e,u⟩:=u3 _ _ _ _ _ _ l
  have F:Tryz.prog.cellsOf 70=6:=by kernel_rfl
  rw [F] at a
  rw [List.take_of_length_le (by simp; omega)] at e
  exact ⟨⟨a0,h,q,a3,a4,a5⟩,⟨_,_,show cs=(cs.drop 0).take 1++cs.drop 1 from y9 0 1,m,⟨_,_,y9 1 1,r,⟨_,_,y9 2 1,B,⟨_,_,y9 3 1,s,⟨_,_,y9 4 1,D,e⟩⟩⟩⟩⟩,⟨p1,i,G,I,u⟩⟩
theorem BF:Rc Tryz.prog 22 (Kind.sl 70 jV) tU:=Rc.mono (wa (by kernel_rfl) BE (by kernel_rfl) rfl) (fun a h=>h)
theorem BG:Rc Tryz.prog 25 BD Cap25:=by
  intro W H enc fuel cs x e
  obtain ⟨b,s,m,i⟩:=ka (show n5 Tryz.prog 25 0=some (22,0,1) by kernel_rfl) e
  obtain ⟨a0,j,h⟩:=BF _ _ _ _ _ _ i
  obtain ⟨b,r,q,h1⟩:=ka (show n5 Tryz.prog 25 1=some (23,1,1) by kernel_rfl) e
  obtain ⟨g,a,p1⟩:=u3 _ _ _ _ _ _ h1
  have l:Tryz.prog.cellsOf 25=2:=by kernel_rfl
  rw [l] at b
  rw [List.take_of_length_le (by simp; omega)] at a
  exact ⟨⟨a0,g⟩,⟨_,_,show cs=(cs.drop 0).take 1++cs.drop 1 from y9 0 1,j,a⟩,⟨h,p1⟩⟩
section
variable {W:World}{H:Type}{enc:TypeId×Value→H}{v:Value}{d:DataW H}{p:List MemPlace}{base:Nat}
theorem BH (h:DataW.Trod enc Tryz.prog W 0 (fun _=>true) true 25 v d p)(B:Value.okWide Tryz.prog W .any base 25 v):∃ (a:Graph) (i g:Option Addr) (l e:Nat),v=.agg [.slice i a.Nodes.length l,.slice g a.Outs.length e].toArray∧p' jV (lu W) (.slice i a.Nodes.length l) a.Nodes∧p' kT3 (lu W) (.slice g a.Outs.length e) a.Outs∧Cap25 a:=by
  obtain ⟨fuel,u⟩:=h
  obtain ⟨cs,rfl,D⟩:=WideShapes.okWide_struct Tryz.underlying25 B
  obtain ⟨a,q,b⟩:=BG _ _ _ _ _ _ u
  obtain ⟨_,_,r,⟨v1,rfl,m⟩,⟨E,rfl,j⟩⟩:=q
  obtain ⟨g,e,rfl,_⟩:=id m
  obtain ⟨A2,s,rfl,_⟩:=id j
  exact ⟨a,g,A2,e,s,by rw [show cs=cs.toList.toArray by simp,show cs.toList=_ from r]; rfl,m,j,b⟩
end
theorem k25:Tryz.prog.readableRec 25=true:=by kernel_rfl
theorem l25:25<Tryz.prog.types.size:=of_decide_eq_true (by kernel_rfl)
theorem own:ownKnob Tryz.prog.godebug=none:=by kernel_rfl
set_option maxHeartbeats 800000 in
set_option maxRecDepth 100000 in
theorem l5 (Y:Os)(a:Y.Started)(H:Type)(enc:TypeId×Value→H) :
    ReturnsInHanded {} Tryz.checked Y 6 .any (Rows.fnExactUsedSpec.pre6 enc Tryz.prog Tryz.f6 Rows.fnExactUsedRow.domain false) (Rows.fnExactUsedSpec.post enc Tryz.prog Tryz.f6 false true false false):=by
  refine returnsInHanded_of_change_shaped (C:=Tryz.checked) own a (by kernel_rfl) Tryz.func6
    (ChangeSpec.witness6 (enc:=enc) (C:=Tryz.checked) false ⟨#[],#[.agg #[.slice none 0 0,.slice none 0 0]],[]⟩ 8 (by kernel_rfl) (by kernel_rfl) (by kernel_rfl) (by kernel_rfl)) ?_
  intro W base args ds gs D u L _ _ G _
  obtain ⟨m,hm⟩:∃ m,W.cell? ⟨0,0,none⟩=some (.int .i64 m):=cell_of_shapedOpen_int (P:=Tryz.prog) (t:=3) (zero:=#[.int .i64 0]) G (of_decide_eq_true (by kernel_rfl)) (by kernel_rfl) rfl (by kernel_rfl) (by kernel_rfl) (by kernel_rfl)
  have J:=L
  have F:=L.lt
  obtain ⟨p,q,hA,hV,rfl,a2,_⟩:=L
  have I:DataW.TrodAll enc Tryz.prog W 0 (fun _=>true) true [25] args.toList ds p:=hA
  obtain ⟨v0,a1,d0,a3,U,q0,ea,rfl,rfl,Z,O⟩:=ChangeShapes.trodAll_cons I
  obtain ⟨rfl,rfl,rfl⟩:=ChangeShapes.trodAll_nil O
  obtain rfl:args=#[v0]:=by cases args; simp_all
  obtain ⟨rfl,rfl⟩:=ChangeShapes.trodVars_none hV
  obtain ⟨a0,l,s,j,B,rfl,i,r,E⟩:=BH Z (u 0 25 _ (by kernel_rfl) rfl)
  have g:=Z36_ok (A2:=l) (N2:=a0.Nodes.length) (D2:=j) (A3:=s) (N3:=a0.Outs.length) (D3:=B) (mG:=m) (u0 a0 E) W W [xW W] (xX (by
    intro q T
    simp only [List.mem_cons,List.not_mem_nil,or_false] at T
    rcases T with rfl | rfl | rfl
    · exact ⟨rfl,i⟩
    · exact ⟨rfl,r⟩
    · exact Al hm))
  refine Calls.mono' g ?_
  rintro e W' ⟨_,rfl,s'⟩
  have hb:=rH s'
  have tr:∀ {t:TypeId} {v:Value} {d:DataW H} {M:List MemPlace},Tryz.prog.readableRec t=true→t<Tryz.prog.types.size→DataW.Trod enc Tryz.prog W 0 (fun _=>true) true t v d M→(∀ x∈M,x∈(U++[]))→DataW.Trod enc Tryz.prog W' 0 (fun b=>decide (b<W.heap.size)) true t v d M:=fun k1 k2 h hp=>hb.trod (by kernel_rfl) k1 k2 h (fun x hx=>F x (by simpa using hp x hx))
  refine ⟨_,rfl,_,_,_,[],(U++[]),[],J,?_,?_,rfl,hb.frame _,fun h=>by cases h⟩
  · exact ChangeShapes.trodAll_mk1 ⟨1,rfl⟩
  · exact trodAll_cons_mk (tr k25 l25 Z (by simp +contextual)) ChangeShapes.trodAll_mk0
theorem law_used_holds:Rows.FnExactUsedSaid :=
  OpenClaim.holds_of_wide 6 Tryz.f6 rfl rfl rfl rfl rfl rfl rfl ⟨rfl,rfl,rfl,rfl,rfl⟩ rfl rfl rfl rfl rfl (by kernel_rfl) Tryz.func6 (by kernel_rfl)
    (of_decide_eq_true (by kernel_rfl)) (by unfold Func.isWrapper; first | (rw [if_pos (by decide +kernel)]; kernel_rfl) | (rw [if_neg (by decide +kernel)]; exact ⟨rfl,rfl⟩))
    (fun b a H enc _=>l5 b a H enc)
end Go.Proofs.YtmpnollfdpdipaaGreat
