/- The law FnExactCost of the given program returns true for every input that its row lets in, and leaves its arguments as they were. The card: the two library tables that the row lists are tied to the program's text by the given tie. No condition beyond the row's own. -/
import Derived.Test.YtmpnollfdpdipaaGreatDoorCoW9
import Derived.Test.YtmpnollfdpdipaaGreatDoorDG29
import Derived.Test.YtmpnollfdpdipaaGreatDoorRc
import Derived.Test.YtmpnollfdpdipaaGreatDoorCards
import Derived.Test.YtmpnollfdpdipaaGreatDoorTie
import Derived.Deep.DeepHandedRow
import Derived.Lib.LaidTab
import Derived.ProofKit
import Derived.SizedLaws
import Derived.OpenShut
import Derived.WideShapes
import Derived.HandedShaped
import Derived.Shelf.Vars
set_option linter.unusedVariables false
set_option linter.constructorNameAsVariable false
set_option maxRecDepth 100000
namespace Go.Proofs.YtmpnollfdpdipaaGreatDoor
open Go Go.Pg
abbrev Bi:Kind Graph:=Kind.iso (Kind.pair (Kind.sl 213 hO) (Kind.sl 3 kT3)) (fun x:Graph=>(x.Nodes,x.Outs))
theorem BB:Rc Tryz.prog 3 kT3 (fun _=>True):=xG (by kernel_rfl)
theorem tO:Rc Tryz.prog 36 (Kind.sl 3 kT3) mP:=Rc.mono (v' (by kernel_rfl) BB (by kernel_rfl) rfl) (fun a h=>h.1)
theorem rd9:Rc Tryz.prog 9 dQ Ak:=xH (by kernel_rfl)
theorem Aq:Rc Tryz.prog 213 hO Cap213:=by
  intro W H enc fuel cs x b
  obtain ⟨a,J,Z,i⟩:=jZ (show mY Tryz.prog 213 0=some (3,0,1) by kernel_rfl) b
  obtain ⟨a0,D,Y⟩:=BB _ _ _ _ _ _ i
  obtain ⟨a,L,y1,h1⟩:=jZ (show mY Tryz.prog 213 1=some (36,1,1) by kernel_rfl) b
  obtain ⟨g,E,p1⟩:=tO _ _ _ _ _ _ h1
  obtain ⟨a,M,y2,h2⟩:=jZ (show mY Tryz.prog 213 2=some (36,2,1) by kernel_rfl) b
  obtain ⟨h,F,r⟩:=tO _ _ _ _ _ _ h2
  obtain ⟨a,O,y3,j⟩:=jZ (show mY Tryz.prog 213 3=some (36,3,1) by kernel_rfl) b
  obtain ⟨a3,G,s⟩:=tO _ _ _ _ _ _ j
  obtain ⟨a,T,y4,l⟩:=jZ (show mY Tryz.prog 213 4=some (9,4,1) by kernel_rfl) b
  obtain ⟨a4,I,u⟩:=rd9 _ _ _ _ _ _ l
  obtain ⟨a,U,y5,m⟩:=jZ (show mY Tryz.prog 213 5=some (36,5,1) by kernel_rfl) b
  obtain ⟨a5,e,B⟩:=tO _ _ _ _ _ _ m
  have q:Tryz.prog.cellsOf 213=6:=by kernel_rfl
  rw [q] at a
  rw [List.take_of_length_le (by simp; omega)] at e
  exact ⟨⟨a0,g,h,a3,a4,a5⟩,⟨_,_,show cs=(cs.drop 0).take 1++cs.drop 1 from xT 0 1,D,⟨_,_,xT 1 1,E,⟨_,_,xT 2 1,F,⟨_,_,xT 3 1,G,⟨_,_,xT 4 1,I,e⟩⟩⟩⟩⟩,⟨p1,r,s,u,B⟩⟩
theorem Bj:Rc Tryz.prog 60 (Kind.sl 213 hO) tD:=Rc.mono (v' (by kernel_rfl) Aq (by kernel_rfl) rfl) (fun a h=>h)
theorem Bk:Rc Tryz.prog 62 Bi Cap62:=by
  intro W H enc fuel cs x b
  obtain ⟨a,m,r,h⟩:=jZ (show mY Tryz.prog 62 0=some (60,0,1) by kernel_rfl) b
  obtain ⟨a0,l,j⟩:=Bj _ _ _ _ _ _ h
  obtain ⟨a,q,s,h1⟩:=jZ (show mY Tryz.prog 62 1=some (36,1,1) by kernel_rfl) b
  obtain ⟨g,e,p1⟩:=tO _ _ _ _ _ _ h1
  have i:Tryz.prog.cellsOf 62=2:=by kernel_rfl
  rw [i] at a
  rw [List.take_of_length_le (by simp; omega)] at e
  exact ⟨⟨a0,g⟩,⟨_,_,show cs=(cs.drop 0).take 1++cs.drop 1 from xT 0 1,l,e⟩,⟨j,p1⟩⟩
section
variable {W:World}{H:Type}{enc:TypeId×Value→H}{v:Value}{d:DataW H}{p:List MemPlace}{base:Nat}
theorem Bl (h:DataW.Trod enc Tryz.prog W 0 (fun _=>true) true 62 v d p)(u:Value.okWide Tryz.prog W .any base 62 v):∃ (a:Graph) (i e:Option Addr) (j g:Nat),v=.agg [.slice i a.Nodes.length j,.slice e a.Outs.length g].toArray∧pK hO (lv W) (.slice i a.Nodes.length j) a.Nodes∧pK kT3 (lv W) (.slice e a.Outs.length g) a.Outs∧Cap62 a:=by
  obtain ⟨fuel,B⟩:=h
  obtain ⟨cs,rfl,D⟩:=WideShapes.okWide_struct Tryz.underlying62 u
  obtain ⟨a,s,b⟩:=Bk _ _ _ _ _ _ B
  obtain ⟨_,_,r,⟨v1,rfl,l⟩,⟨E,rfl,m⟩⟩:=s
  obtain ⟨e,g,rfl,_⟩:=id l
  obtain ⟨A2,q,rfl,_⟩:=id m
  exact ⟨a,e,A2,g,q,by rw [show cs=cs.toList.toArray by simp,show cs.toList=_ from r]; rfl,l,m,b⟩
end
theorem mZ:Tryz.prog.readableRec 62=true:=by kernel_rfl
theorem l62:62<Tryz.prog.types.size:=of_decide_eq_true (by kernel_rfl)
theorem own:ownKnob Tryz.prog.godebug=none:=by kernel_rfl
noncomputable def lx (a:Os):World :=
  {World.holding Tryz.prog a ⟨#[],#[],[]⟩ with heap:=(((World.holding Tryz.prog a ⟨#[],#[],[]⟩).heap.modify 5 fun
      | .cells _ t frozen=>.cells (#[.int .u8 128,.int .u8 191,.int .u8 160,.int .u8 191,.int .u8 128,.int .u8 159,.int .u8 144,.int .u8 191,.int .u8 128,.int .u8 143,.int .u8 0,.int .u8 0,.int .u8 0,.int .u8 0,.int .u8 0,.int .u8 0,.int .u8 0,.int .u8 0,.int .u8 0,.int .u8 0,.int .u8 0,.int .u8 0,.int .u8 0,.int .u8 0,.int .u8 0,.int .u8 0,.int .u8 0,.int .u8 0,.int .u8 0,.int .u8 0,.int .u8 0,.int .u8 0]) t frozen
      | o=>o).modify 4 fun
      | .cells _ t frozen=>.cells ((Go.Pinned.utf8FirstZ.map fun n:Nat=>Value.int .u8 (Int.ofNat n)).toArray) t frozen
      | o=>o)}
theorem tP (a:Os):laidMet Tryz.prog Rows.fnExactCostRow.laid ((lx a).forCall (fun _ _=>0) ⟨#[],#[.agg #[.slice none 0 0,.slice none 0 0]],[]⟩).memory :=
  laidMet_of_run' 8 (by kernel_rfl) (by kernel_rfl)
theorem vh (b:Os){H:Type}(enc:TypeId×Value→H):∃ ds a,DataW.whole enc Tryz.prog ((lx b).forCall (fun _ _=>0) ⟨#[],#[.agg #[.slice none 0 0,.slice none 0 0]],[]⟩).memory Tryz.f7.params.toList Rows.fnExactCostSpec.vars false (#[.agg #[.slice none 0 0,.slice none 0 0]]:Array Value).toList 8=some (ds,[],a) :=
  ⟨[.agg [.nil,.nil]],[],by kernel_rfl⟩
set_option maxHeartbeats 800000 in
set_option maxRecDepth 100000 in
theorem l5 (B:Os)(a:B.Started)(H:Type)(enc:TypeId×Value→H)(F:Stop.Interp) :
    ReturnsInHanded {} Tryz.checked B 7 .any ((OpenSpec.ofChange Rows.fnExactCostSpec).preRow enc Tryz.prog Tryz.f7 Rows.fnExactCostRow.domain false Rows.fnExactCostRow.laid) (((OpenSpec.ofChange Rows.fnExactCostSpec).at F).post enc Tryz.prog Tryz.f7 false true false false):=by
  obtain ⟨a4,I,Z⟩:=vh B enc
  refine returnsInHanded_of_row (C:=Tryz.checked) (s:=OpenSpec.ofChange Rows.fnExactCostSpec) own a (by kernel_rfl) Tryz.func7
    (witness_row_at (enc:=enc) (C:=Tryz.checked) false (lx B) #[.agg #[.slice none 0 0,.slice none 0 0]] rfl (by kernel_rfl) (by kernel_rfl) (by kernel_rfl)
      (OpenSpec.preRow_of_cond 8 Z (by kernel_rfl) (fun k hk=>by cases hk) (by kernel_rfl) (tP B))) ?_
  intro W base args ds gs G u L _ _ _ hL Y _
  obtain ⟨m,hm⟩:∃ m,W.cell? ⟨0,0,none⟩=some (.int .i64 m):=cell_of_shapedOpen_int (P:=Tryz.prog) (t:=3) (zero:=#[.int .i64 0]) Y (of_decide_eq_true (by kernel_rfl)) (by kernel_rfl) rfl (by kernel_rfl) (by kernel_rfl) (by kernel_rfl)
  have M:=L
  have T:=L.lt
  obtain ⟨p,q,hA,hV,rfl,a2,_⟩:=L
  have J:DataW.TrodAll enc Tryz.prog W 0 (fun _=>true) true [62] args.toList ds p:=hA
  obtain ⟨v0,a3,d0,a1,p0,q0,ea,rfl,rfl,h0,U⟩:=ChangeShapes.trodAll_cons J
  obtain ⟨rfl,rfl,rfl⟩:=ChangeShapes.trodAll_nil U
  obtain rfl:args=#[v0]:=by cases args; simp_all
  obtain ⟨rfl,rfl⟩:=ChangeShapes.trodVars_none hV
  obtain ⟨a0,i,j,l,r,rfl,D,E,O⟩:=Bl h0 (u 0 62 _ (by kernel_rfl) rfl)
  have g:=Z34_ok (A2:=i) (N2:=a0.Nodes.length) (D2:=l) (A3:=j) (N3:=a0.Outs.length) (D3:=r) (mG:=m) (tN a0 O) W W [xI W] (xJ (by
    intro q hq
    simp only [List.mem_cons,List.not_mem_nil,or_false] at hq
    rcases hq with rfl | rfl | rfl
    · exact ⟨rfl,D⟩
    · exact ⟨rfl,E⟩
    · exact Ap hm))
  refine Calls.mono' g ?_
  rintro e W' ⟨_,rfl,s'⟩
  have hb:=rl s'
  have tr:∀ {t:TypeId} {v:Value} {d:DataW H} {p':List MemPlace},Tryz.prog.readableRec t=true→t<Tryz.prog.types.size→DataW.Trod enc Tryz.prog W 0 (fun _=>true) true t v d p'→(∀ x∈p',x∈(p0++[]))→DataW.Trod enc Tryz.prog W' 0 (fun b=>decide (b<W.heap.size)) true t v d p':=fun k1 k2 h hp=>hb.trod (by kernel_rfl) k1 k2 h (fun x Z=>T x (by simpa using hp x Z))
  refine ⟨_,rfl,_,_,_,[],(p0++[]),[],M,?_,?_,rfl,hb.frame _,fun h=>by cases h⟩
  · exact ChangeShapes.trodAll_mk1 ⟨1,rfl⟩
  · exact trodAll_cons_mk (tr mZ l62 h0 (by simp +contextual)) ChangeShapes.trodAll_mk0
theorem m':Rows.FnExactCostSaid :=
  OpenClaim.holds_of_cond 7 Tryz.f7 rfl rfl rfl rfl rfl rfl rfl ⟨rfl,rfl,rfl,rfl,rfl⟩ rfl rfl rfl rfl rfl (by kernel_rfl) Tryz.func7 (by kernel_rfl)
    (of_decide_eq_true (by kernel_rfl)) (by unfold Func.isWrapper; first | (rw [if_pos (by decide +kernel)]; kernel_rfl) | (rw [if_neg (by decide +kernel)]; exact ⟨rfl,rfl⟩))
    (fun b a H enc _ F=>by rw [OpenClaim.pre_eq_preRow]; exact l5 b a H enc F)
theorem mQ (f:FuncId)(fn:Func)(g:Tryz.pinned.checked.prog.funcNamed "loop.example/g00033/laws.FnExactCost" = some f) (a:Tryz.pinned.checked.prog.funcs[f]?=some fn) :
    true=Tryz.pinned.checked.prog.looks []∧∀ (j:Nat) t,fn.params[j]?=some t→Tryz.pinned.checked.prog.wantsStandIn t=false:=by
  obtain rfl:f=7:=Option.some.inj ((show Tryz.prog.funcNamed "loop.example/g00033/laws.FnExactCost" = some 7 by kernel_rfl).symm.trans g) |>.symm
  obtain rfl:fn=Tryz.f7:=(Option.some.inj (Tryz.func7.symm.trans a)).symm
  refine ⟨by kernel_rfl,fun j t e=>?_⟩
  rw [Tryz.params7] at e
  have b:=Array.mem_of_getElem? e
  simp only [List.mem_toArray,List.mem_cons,List.not_mem_nil,or_false] at b
  rcases b with rfl
  · exact (show Tryz.prog.wantsStandIn 62=false by kernel_rfl)
theorem law_cost_card:Rows.FnExactCostCardSaid :=
  Claim7.holds_tied_plain_at .later [] _ _ _ _ m' (fun _ h=>by cases h) (by kernel_rfl) (fun _ h=>by cases h) fnExactCost_row_tie rfl ⟨rfl,rfl⟩ (by kernel_rfl) rfl mQ (by kernel_rfl)
end Go.Proofs.YtmpnollfdpdipaaGreatDoor
