/- The law FnExactBestKeep of the given program returns true for every input that its row lets in, and leaves its arguments as they were. The card: the two library tables that the row lists are tied to the program's text by the given tie. No condition beyond the row's own. -/
import Derived.Test.YtoffdamdpmeoiaaGreatDoorBkW10
import Derived.Test.YtoffdamdpmeoiaaGreatDoorBK52
import Derived.Test.YtoffdamdpmeoiaaGreatDoorRc
import Derived.Test.YtoffdamdpmeoiaaGreatDoorCards
import Derived.Test.YtoffdamdpmeoiaaGreatDoorTie
import Derived.Deep.DeepHandedRow
import Derived.Lib.LaidTab
import Derived.ProofKit
import Derived.SizedLaws
import Derived.OpenShut
import Derived.WideShapes
import Derived.HandedShaped
import Derived.Shelf.Vars
set_option linter.unusedVariables false
set_option linter.constructorNameAsVariable false
set_option maxRecDepth 100000
namespace Go.Proofs.YtoffdamdpmeoiaaGreatDoor
open Go Go.Pg
abbrev DP:Kind Graph:=Kind.iso (Kind.pair (Kind.sl 75 ks) (Kind.sl 3 kT3)) (fun x:Graph=>(x.Nodes,x.Outs))
theorem E9:Rc Tryz.prog 3 kT3 (fun _=>True):=zK (by kernel_rfl)
theorem vq:Rc Tryz.prog 23 (Kind.sl 3 kT3) nH:=Rc.mono (xN (by kernel_rfl) E9 (by kernel_rfl) rfl) (fun a h=>h.1)
theorem rd9:Rc Tryz.prog 9 dX C0:=zL (by kernel_rfl)
theorem DQ:Rc Tryz.prog 75 ks Cap75:=by
  intro W H enc fuel cs x b
  obtain ⟨a,M,y0,j⟩:=kz (show nW Tryz.prog 75 0=some (3,0,1) by kernel_rfl) b
  obtain ⟨a0,F,p0⟩:=E9 _ _ _ _ _ _ j
  obtain ⟨a,O,y1,h1⟩:=kz (show nW Tryz.prog 75 1=some (23,1,1) by kernel_rfl) b
  obtain ⟨h,G,p1⟩:=vq _ _ _ _ _ _ h1
  obtain ⟨a,T,y2,h2⟩:=kz (show nW Tryz.prog 75 2=some (23,2,1) by kernel_rfl) b
  obtain ⟨i,I,u⟩:=vq _ _ _ _ _ _ h2
  obtain ⟨a,U,y3,l⟩:=kz (show nW Tryz.prog 75 3=some (23,3,1) by kernel_rfl) b
  obtain ⟨a3,J,B⟩:=vq _ _ _ _ _ _ l
  obtain ⟨a,Y,y4,q⟩:=kz (show nW Tryz.prog 75 4=some (9,4,1) by kernel_rfl) b
  obtain ⟨a4,L,D⟩:=rd9 _ _ _ _ _ _ q
  obtain ⟨a,Z,y5,r⟩:=kz (show nW Tryz.prog 75 5=some (23,5,1) by kernel_rfl) b
  obtain ⟨a5,e,E⟩:=vq _ _ _ _ _ _ r
  have s:Tryz.prog.cellsOf 75=6:=by kernel_rfl
  rw [s] at a
  rw [List.take_of_length_le (by simp; omega)] at e
  exact ⟨⟨a0,h,i,a3,a4,a5⟩,⟨_,_,show cs=(cs.drop 0).take 1++cs.drop 1 from zX 0 1,F,⟨_,_,zX 1 1,G,⟨_,_,zX 2 1,I,⟨_,_,zX 3 1,J,⟨_,_,zX 4 1,L,e⟩⟩⟩⟩⟩,⟨p1,u,B,D,E⟩⟩
theorem DR:Rc Tryz.prog 22 (Kind.sl 75 ks) vd:=Rc.mono (xN (by kernel_rfl) DQ (by kernel_rfl) rfl) (fun a h=>h)
theorem DS:Rc Tryz.prog 25 DP Cap25:=by
  intro W H enc fuel cs x b
  obtain ⟨a,r,u,i⟩:=kz (show nW Tryz.prog 25 0=some (22,0,1) by kernel_rfl) b
  obtain ⟨a0,q,l⟩:=DR _ _ _ _ _ _ i
  obtain ⟨a,s,B,h1⟩:=kz (show nW Tryz.prog 25 1=some (23,1,1) by kernel_rfl) b
  obtain ⟨h,e,p1⟩:=vq _ _ _ _ _ _ h1
  have j:Tryz.prog.cellsOf 25=2:=by kernel_rfl
  rw [j] at a
  rw [List.take_of_length_le (by simp; omega)] at e
  exact ⟨⟨a0,h⟩,⟨_,_,show cs=(cs.drop 0).take 1++cs.drop 1 from zX 0 1,q,e⟩,⟨l,p1⟩⟩
section
variable {W:World}{H:Type}{enc:TypeId×Value→H}{v:Value}{d:DataW H}{p:List MemPlace}{base:Nat}
theorem DT (h:DataW.Trod enc Tryz.prog W 0 (fun _=>true) true 25 v d p)(D:Value.okWide Tryz.prog W .any base 25 v):∃ (a:Graph) (j e:Option Addr) (l i:Nat),v=.agg [.slice j a.Nodes.length l,.slice e a.Outs.length i].toArray∧rB ks (kM W) (.slice j a.Nodes.length l) a.Nodes∧rB kT3 (kM W) (.slice e a.Outs.length i) a.Outs∧Cap25 a:=by
  obtain ⟨fuel,E⟩:=h
  obtain ⟨cs,rfl,F⟩:=WideShapes.okWide_struct Tryz.underlying25 D
  obtain ⟨a,B,b⟩:=DS _ _ _ _ _ _ E
  obtain ⟨_,_,u,⟨v1,rfl,q⟩,⟨G,rfl,r⟩⟩:=B
  obtain ⟨e,i,rfl,_⟩:=id q
  obtain ⟨A2,s,rfl,_⟩:=id r
  exact ⟨a,e,A2,i,s,by rw [show cs=cs.toList.toArray by simp,show cs.toList=_ from u]; rfl,q,r,b⟩
theorem of3 (h:DataW.Trod enc Tryz.prog W 0 (fun _=>true) true 3 v d p)(b:Value.okWide Tryz.prog W .any base 3 v):∃ (a:Int),v=.int .i64 a:=by
  obtain ⟨fuel,e⟩:=h
  obtain ⟨a,rfl⟩:=WideShapes.okWide_int (show Tryz.prog.underlying 3=some (.int .i64) by kernel_rfl) b
  exact ⟨a,rfl⟩
end
theorem k25:Tryz.prog.readableRec 25=true:=by kernel_rfl
theorem l25:25<Tryz.prog.types.size:=of_decide_eq_true (by kernel_rfl)
theorem k3:Tryz.prog.readableRec 3=true:=by kernel_rfl
theorem l3:3<Tryz.prog.types.size:=of_decide_eq_true (by kernel_rfl)
theorem own:ownKnob Tryz.prog.godebug=none:=by kernel_rfl
noncomputable def mn (a:Os):World :=
  {World.holding Tryz.prog a ⟨#[],#[],[]⟩ with heap:=(((World.holding Tryz.prog a ⟨#[],#[],[]⟩).heap.modify 0 fun
      | .cells _ t frozen=>.cells (#[.int .u8 0,.int .u8 1,.int .u8 28,.int .u8 2,.int .u8 29,.int .u8 14,.int .u8 24,.int .u8 3,.int .u8 30,.int .u8 22,.int .u8 20,.int .u8 15,.int .u8 25,.int .u8 17,.int .u8 4,.int .u8 8,.int .u8 31,.int .u8 27,.int .u8 13,.int .u8 23,.int .u8 21,.int .u8 19,.int .u8 16,.int .u8 7,.int .u8 26,.int .u8 12,.int .u8 18,.int .u8 6,.int .u8 11,.int .u8 5,.int .u8 10,.int .u8 9]) t frozen
      | o=>o).modify 1 fun
      | .cells _ t frozen=>.cells (#[.int .u8 0,.int .u8 1,.int .u8 56,.int .u8 2,.int .u8 57,.int .u8 49,.int .u8 28,.int .u8 3,.int .u8 61,.int .u8 58,.int .u8 42,.int .u8 50,.int .u8 38,.int .u8 29,.int .u8 17,.int .u8 4,.int .u8 62,.int .u8 47,.int .u8 59,.int .u8 36,.int .u8 45,.int .u8 43,.int .u8 51,.int .u8 22,.int .u8 53,.int .u8 39,.int .u8 33,.int .u8 30,.int .u8 24,.int .u8 18,.int .u8 12,.int .u8 5,.int .u8 63,.int .u8 55,.int .u8 48,.int .u8 27,.int .u8 60,.int .u8 41,.int .u8 37,.int .u8 16,.int .u8 46,.int .u8 35,.int .u8 44,.int .u8 21,.int .u8 52,.int .u8 32,.int .u8 23,.int .u8 11,.int .u8 54,.int .u8 26,.int .u8 40,.int .u8 15,.int .u8 34,.int .u8 20,.int .u8 31,.int .u8 10,.int .u8 25,.int .u8 14,.int .u8 19,.int .u8 9,.int .u8 13,.int .u8 8,.int .u8 7,.int .u8 6]) t frozen
      | o=>o)}
theorem vr (a:Os):laidMet Tryz.prog Rows.fnExactBestKeepRow.laid ((mn a).forCall (fun _ _=>0) ⟨#[],#[.agg #[.slice none 0 0,.slice none 0 0],.int .i64 0],[]⟩).memory :=
  laidMet_of_run' 8 (by kernel_rfl) (by kernel_rfl)
theorem x5 (b:Os){H:Type}(enc:TypeId×Value→H):∃ ds a,DataW.whole enc Tryz.prog ((mn b).forCall (fun _ _=>0) ⟨#[],#[.agg #[.slice none 0 0,.slice none 0 0],.int .i64 0],[]⟩).memory Tryz.f3.params.toList Rows.fnExactBestKeepSpec.vars false (#[.agg #[.slice none 0 0,.slice none 0 0],.int .i64 0]:Array Value).toList 8=some (ds,[],a) :=
  ⟨[.agg [.nil,.nil],.lit (.int .i64 0)],[],by kernel_rfl⟩
set_option maxHeartbeats 800000 in
set_option maxRecDepth 100000 in
theorem kk (E:Os)(a:E.Started)(H:Type)(enc:TypeId×Value→H)(F:Stop.Interp) :
    ReturnsInHanded {} Tryz.checked E 3 .any ((OpenSpec.ofChange Rows.fnExactBestKeepSpec).preRow enc Tryz.prog Tryz.f3 Rows.fnExactBestKeepRow.domain false Rows.fnExactBestKeepRow.laid) (((OpenSpec.ofChange Rows.fnExactBestKeepSpec).at F).post enc Tryz.prog Tryz.f3 false true false false):=by
  obtain ⟨a9,L,hx⟩:=x5 E enc
  refine returnsInHanded_of_row (C:=Tryz.checked) (s:=OpenSpec.ofChange Rows.fnExactBestKeepSpec) own a (by kernel_rfl) Tryz.func3
    (witness_row_at (enc:=enc) (C:=Tryz.checked) false (mn E) #[.agg #[.slice none 0 0,.slice none 0 0],.int .i64 0] rfl (by kernel_rfl) (by kernel_rfl) (by kernel_rfl)
      (OpenSpec.preRow_of_cond 8 hx (by kernel_rfl) (fun k hk=>by cases hk) (by kernel_rfl) (vr E))) ?_
  intro W base args ds gs J j O _ _ _ hL a3 _
  obtain ⟨m,hm⟩:∃ m,W.cell? ⟨2,0,none⟩=some (.int .i64 m):=cell_of_shapedOpen_int (P:=Tryz.prog) (t:=3) (zero:=#[.int .i64 0]) a3 (of_decide_eq_true (by kernel_rfl)) (by kernel_rfl) rfl (by kernel_rfl) (by kernel_rfl) (by kernel_rfl)
  have hT:∀ i,i<Lib.deBruijn64tab.length→W.cell? ⟨1,i,none⟩=some (.int .u8 ((Lib.deBruijn64tab.map Int.ofNat).getD i 0)):=fun i hi =>
    (rz (P:=Tryz.prog) (name := "math/bits.deBruijn64tab") (g:=1) (k:=.u8) (zs:=Lib.deBruijn64tab.map Int.ofNat) (rest:=[]) (by kernel_rfl) (by kernel_rfl) (show Tryz.prog.underlying 108=some (.array 64 5) by kernel_rfl) (by kernel_rfl) (by kernel_rfl) (by kernel_rfl) (show laidMet Tryz.prog [_,("math/bits.deBruijn64tab",Lib.tabData .u8 (Lib.deBruijn64tab.map Int.ofNat))] W from hL)).cell (by kernel_rfl) i (by simpa using hi)
  have T:=O
  have Y:=O.lt
  obtain ⟨p,q,hA,hV,rfl,a6,_⟩:=O
  have M:DataW.TrodAll enc Tryz.prog W 0 (fun _=>true) true [25,3] args.toList ds p:=hA
  obtain ⟨v0,a7,d0,a4,p0,q0,ea,rfl,rfl,h0,Z⟩:=ChangeShapes.trodAll_cons M
  obtain ⟨v1,a8,d1,a5,p1,q1,rfl,rfl,rfl,h1,a2⟩:=ChangeShapes.trodAll_cons Z
  obtain ⟨rfl,rfl,rfl⟩:=ChangeShapes.trodAll_nil a2
  obtain rfl:args=#[v0,v1]:=by cases args; simp_all
  obtain ⟨rfl,rfl⟩:=ChangeShapes.trodVars_none hV
  obtain ⟨a0,r,u,B,D,rfl,G,I,U⟩:=DT h0 (j 0 25 _ (by kernel_rfl) rfl)
  obtain ⟨a1,rfl⟩:=of3 h1 (j 1 3 _ (by kernel_rfl) rfl)
  have l:=Z3i_ok (A2:=r) (N2:=a0.Nodes.length) (D2:=B) (A3:=u) (N3:=a0.Outs.length) (D3:=D) (mG:=m) (pb a0 a1 U) W W [zM W] (zN (by
    intro q hq
    simp only [List.mem_cons,List.not_mem_nil,or_false] at hq
    rcases hq with rfl | rfl | rfl
    · exact ⟨rfl,G⟩
    · exact ⟨rfl,I⟩
    · exact Ca hm hT))
  refine Calls.mono' l ?_
  rintro e W' ⟨_,rfl,s'⟩
  have hb:=th s'
  have tr:∀ {t:TypeId} {v:Value} {d:DataW H} {p':List MemPlace},Tryz.prog.readableRec t=true→t<Tryz.prog.types.size→DataW.Trod enc Tryz.prog W 0 (fun _=>true) true t v d p'→(∀ x∈p',x∈(p0++(p1++[])))→DataW.Trod enc Tryz.prog W' 0 (fun b=>decide (b<W.heap.size)) true t v d p':=fun k1 k2 h hp=>hb.trod (by kernel_rfl) k1 k2 h (fun x hx=>Y x (by simpa using hp x hx))
  refine ⟨_,rfl,_,_,_,[],(p0++(p1++[])),[],T,?_,?_,rfl,hb.frame _,fun h=>by cases h⟩
  · exact ChangeShapes.trodAll_mk1 ⟨1,rfl⟩
  · exact trodAll_cons_mk (tr k25 l25 h0 (by simp +contextual)) (trodAll_cons_mk (tr k3 l3 h1 (by simp +contextual)) ChangeShapes.trodAll_mk0)
theorem lZ:Rows.FnExactBestKeepSaid :=
  OpenClaim.holds_of_cond 3 Tryz.f3 rfl rfl rfl rfl rfl rfl rfl ⟨rfl,rfl,rfl,rfl,rfl⟩ rfl rfl rfl rfl rfl (by kernel_rfl) Tryz.func3 (by kernel_rfl)
    (of_decide_eq_true (by kernel_rfl)) (by unfold Func.isWrapper; first | (rw [if_pos (by decide +kernel)]; kernel_rfl) | (rw [if_neg (by decide +kernel)]; exact ⟨rfl,rfl⟩))
    (fun b a H enc _ F=>by rw [OpenClaim.pre_eq_preRow]; exact kk b a H enc F)
theorem la (f:FuncId)(fn:Func)(h:Tryz.pinned.checked.prog.funcNamed "loop.example/g00033/laws.FnExactBestKeep" = some f) (a:Tryz.pinned.checked.prog.funcs[f]?=some fn) :
    false=Tryz.pinned.checked.prog.looks []∧∀ (j:Nat) t,fn.params[j]?=some t→Tryz.pinned.checked.prog.wantsStandIn t=false:=by
  obtain rfl:f=3:=Option.some.inj ((show Tryz.prog.funcNamed "loop.example/g00033/laws.FnExactBestKeep" = some 3 by kernel_rfl).symm.trans h) |>.symm
  obtain rfl:fn=Tryz.f3:=(Option.some.inj (Tryz.func3.symm.trans a)).symm
  refine ⟨by kernel_rfl,fun j t e=>?_⟩
  rw [Tryz.params3] at e
  have b:=Array.mem_of_getElem? e
  simp only [List.mem_toArray,List.mem_cons,List.not_mem_nil,or_false] at b
  rcases b with rfl | rfl
  · exact (show Tryz.prog.wantsStandIn 25=false by kernel_rfl)
  · exact (show Tryz.prog.wantsStandIn 3=false by kernel_rfl)
theorem law_bestkeep_card:Rows.FnExactBestKeepCardSaid :=
  Claim7.holds_tied_plain_at .later [] _ _ _ _ lZ (fun _ h=>by cases h) (by kernel_rfl) (fun _ h=>by cases h) fnExactBestKeep_row_tie rfl ⟨rfl,rfl⟩ (by kernel_rfl) rfl la (by kernel_rfl)
end Go.Proofs.YtoffdamdpmeoiaaGreatDoor
