/- The law FnExactSplitForm of the given program returns true for every input that its row lets in, and leaves its arguments as they were. The card: the two library tables that the row lists are tied to the program's text by the given tie. No condition beyond the row's own. -/
import Derived.Test.YtmpnollfdpdipaaGreatDoorSfW5
import Derived.Test.YtmpnollfdpdipaaGreatDoorSF1
import Derived.Test.YtmpnollfdpdipaaGreatDoorRc
import Derived.Test.YtmpnollfdpdipaaGreatDoorCards
import Derived.Test.YtmpnollfdpdipaaGreatDoorTie
import Derived.Deep.DeepHandedRow
import Derived.Lib.LaidTab
import Derived.ProofKit
import Derived.SizedLaws
import Derived.OpenShut
import Derived.WideShapes
import Derived.HandedShaped
import Derived.Shelf.Vars
set_option linter.unusedVariables false
set_option linter.constructorNameAsVariable false
set_option maxRecDepth 100000
namespace Go.Proofs.YtmpnollfdpdipaaGreatDoor
open Go Go.Pg
theorem rd9:Rc Tryz.prog 9 bI po:=rQ (by kernel_rfl)
theorem rd3:Rc Tryz.prog 3 kT3 (fun _=>True):=rP (by kernel_rfl)
theorem u7:Rc Tryz.prog 36 (Kind.sl 3 kT3) m4:=Rc.mono (pX (by kernel_rfl) rd3 (by kernel_rfl) rfl) (fun a h=>h.1)
theorem vl:Rc Tryz.prog 72 g9 Cap72:=by
  intro W H enc fuel cs x e
  obtain ⟨a,r,B,i⟩:=nW (show pu Tryz.prog 72 0=some (36,0,1) by kernel_rfl) e
  obtain ⟨a0,q,m⟩:=u7 _ _ _ _ _ _ i
  obtain ⟨a,u,D,h1⟩:=nW (show pu Tryz.prog 72 1=some (36,1,1) by kernel_rfl) e
  obtain ⟨h,g,p1⟩:=u7 _ _ _ _ _ _ h1
  have j:Tryz.prog.cellsOf 72=2:=by kernel_rfl
  rw [j] at a
  rw [List.take_of_length_le (by simp; omega)] at g
  exact ⟨⟨a0,h⟩,⟨_,_,show cs=(cs.drop 0).take 1++cs.drop 1 from seg 0 1,q,g⟩,⟨m,p1⟩⟩
theorem vm:Rc Tryz.prog 22 (Kind.sl 72 g9) m7:=Rc.mono (pX (by kernel_rfl) vl (by kernel_rfl) rfl) (fun a h=>h)
section
variable {W:World}{H:Type}{enc:TypeId×Value→H}{v:Value}{d:DataW H}{p:List MemPlace}{base:Nat}
theorem vE (h:DataW.Trod enc Tryz.prog W 0 (fun _=>true) true 9 v d p)(j:Value.okWide Tryz.prog W .any base 9 v):∃ (a:aD),v=aA a∧po a:=by
  obtain ⟨fuel,m⟩:=h
  obtain ⟨b,rfl⟩:=WideShapes.okWide_string (show Tryz.prog.underlying 9=some .string by kernel_rfl) j
  obtain ⟨a,i,g⟩:=rd9 _ _ _ _ _ _ m
  have e:[Value.string b]=[aA a]:=i
  injection e with e
  exact ⟨a,e,g⟩
theorem of3 (h:DataW.Trod enc Tryz.prog W 0 (fun _=>true) true 3 v d p)(e:Value.okWide Tryz.prog W .any base 3 v):∃ (a:Int),v=.int .i64 a:=by
  obtain ⟨fuel,g⟩:=h
  obtain ⟨a,rfl⟩:=WideShapes.okWide_int (show Tryz.prog.underlying 3=some (.int .i64) by kernel_rfl) e
  exact ⟨a,rfl⟩
theorem vn (h:DataW.Trod enc Tryz.prog W 0 (fun _=>true) true 22 v d p)(m:Value.okWide Tryz.prog W .any base 22 v):∃ (a:(List Tensor)) (i:Option Addr) (j:Nat),v=.slice i a.length j∧m8 g9 (hY W) (.slice i a.length j) a∧m7 a:=by
  obtain ⟨fuel,q⟩:=h
  obtain ⟨A,n,c,rfl⟩:=WideShapes.okWide_slice (show Tryz.prog.underlying 22=some (.slice 72) by kernel_rfl) m
  obtain ⟨a,⟨w,e,s⟩,g⟩:=vm _ _ _ _ _ _ q
  injection e with e
  subst e
  obtain ⟨A',r,e,s'⟩:=id s
  injection e with e1 e2 e3
  subst e1 e2 e3
  exact ⟨a,A,c,rfl,s,g⟩
end
theorem k9:Tryz.prog.readableRec 9=true:=by kernel_rfl
theorem l9:9<Tryz.prog.types.size:=of_decide_eq_true (by kernel_rfl)
theorem k3:Tryz.prog.readableRec 3=true:=by kernel_rfl
theorem l3:3<Tryz.prog.types.size:=of_decide_eq_true (by kernel_rfl)
theorem k22:Tryz.prog.readableRec 22=true:=by kernel_rfl
theorem l22:22<Tryz.prog.types.size:=of_decide_eq_true (by kernel_rfl)
theorem own:ownKnob Tryz.prog.godebug=none:=by kernel_rfl
noncomputable def hH (a:Os):World :=
  {World.holding Tryz.prog a ⟨#[],#[],[]⟩ with heap:=(((World.holding Tryz.prog a ⟨#[],#[],[]⟩).heap.modify 5 fun
      | .cells _ t frozen=>.cells (#[.int .u8 128,.int .u8 191,.int .u8 160,.int .u8 191,.int .u8 128,.int .u8 159,.int .u8 144,.int .u8 191,.int .u8 128,.int .u8 143,.int .u8 0,.int .u8 0,.int .u8 0,.int .u8 0,.int .u8 0,.int .u8 0,.int .u8 0,.int .u8 0,.int .u8 0,.int .u8 0,.int .u8 0,.int .u8 0,.int .u8 0,.int .u8 0,.int .u8 0,.int .u8 0,.int .u8 0,.int .u8 0,.int .u8 0,.int .u8 0,.int .u8 0,.int .u8 0]) t frozen
      | o=>o).modify 4 fun
      | .cells _ t frozen=>.cells ((Go.Pinned.utf8FirstZ.map fun n:Nat=>Value.int .u8 (Int.ofNat n)).toArray) t frozen
      | o=>o)}
theorem nX (a:Os):laidMet Tryz.prog Rows.fnExactSplitFormRow.laid ((hH a).forCall (fun _ _=>0) ⟨#[],#[(aA []),(aA []),.int .i64 0,.slice none 0 0],[]⟩).memory :=
  laidMet_of_run' 8 (by kernel_rfl) (by kernel_rfl)
theorem pw (e:Os){H:Type}(enc:TypeId×Value→H):∃ ds a,DataW.whole enc Tryz.prog ((hH e).forCall (fun _ _=>0) ⟨#[],#[(aA []),(aA []),.int .i64 0,.slice none 0 0],[]⟩).memory Tryz.f3.params.toList Rows.fnExactSplitFormSpec.vars false (#[(aA []),(aA []),.int .i64 0,.slice none 0 0]:Array Value).toList 8=some (ds,[],a) :=
  ⟨[.lit (.string []),.lit (.string []),.lit (.int .i64 0),.nil],[],by kernel_rfl⟩
set_option maxHeartbeats 800000 in
set_option maxRecDepth 100000 in
theorem fU (u:Os)(g:u.Started)(H:Type)(enc:TypeId×Value→H)(F:Stop.Interp) :
    ReturnsInHanded {} Tryz.checked u 3 .any ((OpenSpec.ofChange Rows.fnExactSplitFormSpec).preRow enc Tryz.prog Tryz.f3 Rows.fnExactSplitFormRow.domain false Rows.fnExactSplitFormRow.laid) (((OpenSpec.ofChange Rows.fnExactSplitFormSpec).at F).post enc Tryz.prog Tryz.f3 false true false false):=by
  obtain ⟨aj,E,hx⟩:=pw u enc
  refine returnsInHanded_of_row (C:=Tryz.checked) (s:=OpenSpec.ofChange Rows.fnExactSplitFormSpec) own g (by kernel_rfl) Tryz.func3
    (witness_row_at (enc:=enc) (C:=Tryz.checked) false (hH u) #[(aA []),(aA []),.int .i64 0,.slice none 0 0] rfl (by kernel_rfl) (by kernel_rfl) (by kernel_rfl)
      (OpenSpec.preRow_of_cond 8 hx (by kernel_rfl) (fun k hk=>by cases hk) (by kernel_rfl) (nX u))) ?_
  intro W base args ds gs D a J _ _ _ hL a7 _
  obtain ⟨m,hm⟩:∃ m,W.cell? ⟨0,0,none⟩=some (.int .i64 m):=cell_of_shapedOpen_int (P:=Tryz.prog) (t:=3) (zero:=#[.int .i64 0]) a7 (of_decide_eq_true (by kernel_rfl)) (by kernel_rfl) rfl (by kernel_rfl) (by kernel_rfl) (by kernel_rfl)
  have M:=J
  have Y:=J.lt
  obtain ⟨p,q,hA,hV,rfl,ac,_⟩:=J
  have I:DataW.TrodAll enc Tryz.prog W 0 (fun _=>true) true [9,9,3,22] args.toList ds p:=hA
  obtain ⟨v0,ae,d0,a8,p0,q0,ea,rfl,rfl,h0,Z⟩:=ChangeShapes.trodAll_cons I
  obtain ⟨v1,ag,d1,a9,p1,q1,rfl,rfl,rfl,h1,a4⟩:=ChangeShapes.trodAll_cons Z
  obtain ⟨v2,ah,d2,aa,p2,q2,rfl,rfl,rfl,h2,a5⟩:=ChangeShapes.trodAll_cons a4
  obtain ⟨v3,ai,d3,ab,p3,q3,rfl,rfl,rfl,h3,a6⟩:=ChangeShapes.trodAll_cons a5
  obtain ⟨rfl,rfl,rfl⟩:=ChangeShapes.trodAll_nil a6
  obtain rfl:args=#[v0,v1,v2,v3]:=by cases args; simp_all
  obtain ⟨rfl,rfl⟩:=ChangeShapes.trodVars_none hV
  obtain ⟨a0,rfl,O⟩:=vE h0 (a 0 9 _ (by kernel_rfl) rfl)
  obtain ⟨a1,rfl,T⟩:=vE h1 (a 1 9 _ (by kernel_rfl) rfl)
  obtain ⟨a2,rfl⟩:=of3 h2 (a 2 3 _ (by kernel_rfl) rfl)
  obtain ⟨a3,j,r,rfl,B,U⟩:=vn h3 (a 3 22 _ (by kernel_rfl) rfl)
  have i:=Z16_ok (A5:=j) (N5:=a3.length) (D5:=r) (mG:=m) (iW a0 a1 a2 a3 O T U) W W [rR W] (rS (by
    intro q hq
    simp only [List.mem_cons,List.not_mem_nil,or_false] at hq
    rcases hq with rfl | rfl
    · exact ⟨rfl,B⟩
    · exact u6 hm))
  refine Calls.mono' i ?_
  rintro e W' ⟨_,rfl,s'⟩
  have hb:=mw s'
  have G:∀ {t:TypeId} {v:Value} {d:DataW H} {p':List MemPlace},Tryz.prog.readableRec t=true→t<Tryz.prog.types.size→DataW.Trod enc Tryz.prog W 0 (fun _=>true) true t v d p'→(∀ x∈p',x∈(p0++(p1++(p2++(p3++[])))))→DataW.Trod enc Tryz.prog W' 0 (fun b=>decide (b<W.heap.size)) true t v d p':=fun k1 k2 h hp=>hb.trod (by kernel_rfl) k1 k2 h (fun x hx=>Y x (by simpa using hp x hx))
  refine ⟨_,rfl,_,_,_,[],(p0++(p1++(p2++(p3++[])))),[],M,?_,?_,rfl,hb.frame _,fun h=>by cases h⟩
  · exact ChangeShapes.trodAll_mk1 ⟨1,rfl⟩
  · exact trodAll_cons_mk (G k9 l9 h0 (by simp +contextual)) (trodAll_cons_mk (G k9 l9 h1 (by simp +contextual)) (trodAll_cons_mk (G k3 l3 h2 (by simp +contextual)) (trodAll_cons_mk (G k22 l22 h3 (by simp +contextual)) ChangeShapes.trodAll_mk0)))
theorem gB:Rows.FnExactSplitFormSaid :=
  OpenClaim.holds_of_cond 3 Tryz.f3 rfl rfl rfl rfl rfl rfl rfl ⟨rfl,rfl,rfl,rfl,rfl⟩ rfl rfl rfl rfl rfl (by kernel_rfl) Tryz.func3 (by kernel_rfl)
    (of_decide_eq_true (by kernel_rfl)) (by unfold Func.isWrapper; first | (rw [if_pos (by decide +kernel)]; kernel_rfl) | (rw [if_neg (by decide +kernel)]; exact ⟨rfl,rfl⟩))
    (fun e a H enc _ F=>by rw [OpenClaim.pre_eq_preRow]; exact fU e a H enc F)
theorem gr (f:FuncId)(fn:Func)(h:Tryz.pinned.checked.prog.funcNamed "loop.example/g00033/laws.FnExactSplitForm" = some f) (a:Tryz.pinned.checked.prog.funcs[f]?=some fn) :
    true=Tryz.pinned.checked.prog.looks []∧∀ (j:Nat) t,fn.params[j]?=some t→Tryz.pinned.checked.prog.wantsStandIn t=false:=by
  obtain rfl:f=3:=Option.some.inj ((show Tryz.prog.funcNamed "loop.example/g00033/laws.FnExactSplitForm" = some 3 by kernel_rfl).symm.trans h) |>.symm
  obtain rfl:fn=Tryz.f3:=(Option.some.inj (Tryz.func3.symm.trans a)).symm
  refine ⟨by kernel_rfl,fun j t g=>?_⟩
  rw [Tryz.params3] at g
  have e:=Array.mem_of_getElem? g
  simp only [List.mem_toArray,List.mem_cons,List.not_mem_nil,or_false] at e
  rcases e with rfl | rfl | rfl | rfl
  · exact (show Tryz.prog.wantsStandIn 9=false by kernel_rfl)
  · exact (show Tryz.prog.wantsStandIn 9=false by kernel_rfl)
  · exact (show Tryz.prog.wantsStandIn 3=false by kernel_rfl)
  · exact (show Tryz.prog.wantsStandIn 22=false by kernel_rfl)
theorem law_splitform_card:Rows.FnExactSplitFormCardSaid :=
  Claim7.holds_tied_plain_at .later [] _ _ _ _ gB (fun _ h=>by cases h) (by kernel_rfl) (fun _ h=>by cases h) fnExactSplitForm_row_tie rfl ⟨rfl,rfl⟩ (by kernel_rfl) rfl gr (by kernel_rfl)
end Go.Proofs.YtmpnollfdpdipaaGreatDoor
