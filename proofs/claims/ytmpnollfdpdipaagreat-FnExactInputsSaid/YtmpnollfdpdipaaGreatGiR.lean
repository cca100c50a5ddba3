/- The law FnExactInputs of the given program returns true for every input that its row lets in, and leaves its arguments as they were. No condition beyond the row's own. -/
import Derived.Test.YtmpnollfdpdipaaGreatGkW8
import Derived.Test.YtmpnollfdpdipaaGreatGG29
import Derived.Test.YtmpnollfdpdipaaGreatRc
import Derived.Test.YtmpnollfdpdipaaGreatRows
import Derived.ProofKit
import Derived.SizedLaws
import Derived.OpenShut
import Derived.WideShapes
import Derived.HandedShaped
import Derived.Shelf.Vars
set_option linter.unusedVariables false
set_option linter.constructorNameAsVariable false
set_option maxRecDepth 100000
namespace Go.Proofs.YtmpnollfdpdipaaGreat
open Go Go.Pg
abbrev kT25:Kind Graph:=Kind.iso (Kind.pair (Kind.sl 70 kT70) (Kind.sl 3 kT3)) (fun x:Graph=>(x.Nodes,x.Outs))
theorem rd3:Rc Tryz.prog 3 kT3 (fun _=>True):=rc_int (by kernel_rfl)
theorem rd23:Rc Tryz.prog 23 (Kind.sl 3 kT3) Cap23:=Rc.mono (rc_sl (by kernel_rfl) rd3 (by kernel_rfl) rfl) (fun a h=>h.1)
theorem rd9:Rc Tryz.prog 9 kT9 Cap9:=rc_str (by kernel_rfl)
theorem rd70:Rc Tryz.prog 70 kT70 Cap70:=by
  intro W H enc fuel cs x hx
  obtain ⟨hl,n0,y0,h0⟩:=rd_fld (show fld3 Tryz.prog 70 0=some (3,0,1) by kernel_rfl) hx
  obtain ⟨a0,r0,p0⟩:=rd3 _ _ _ _ _ _ h0
  obtain ⟨hl,n1,y1,h1⟩:=rd_fld (show fld3 Tryz.prog 70 1=some (23,1,1) by kernel_rfl) hx
  obtain ⟨a1,r1,p1⟩:=rd23 _ _ _ _ _ _ h1
  obtain ⟨hl,n2,y2,h2⟩:=rd_fld (show fld3 Tryz.prog 70 2=some (23,2,1) by kernel_rfl) hx
  obtain ⟨a2,r2,p2⟩:=rd23 _ _ _ _ _ _ h2
  obtain ⟨hl,n3,y3,h3⟩:=rd_fld (show fld3 Tryz.prog 70 3=some (23,3,1) by kernel_rfl) hx
  obtain ⟨a3,r3,p3⟩:=rd23 _ _ _ _ _ _ h3
  obtain ⟨hl,n4,y4,h4⟩:=rd_fld (show fld3 Tryz.prog 70 4=some (9,4,1) by kernel_rfl) hx
  obtain ⟨a4,r4,p4⟩:=rd9 _ _ _ _ _ _ h4
  obtain ⟨hl,n5,y5,h5⟩:=rd_fld (show fld3 Tryz.prog 70 5=some (23,5,1) by kernel_rfl) hx
  obtain ⟨a5,r5,p5⟩:=rd23 _ _ _ _ _ _ h5
  have hc:Tryz.prog.cellsOf 70=6:=by kernel_rfl
  rw [hc] at hl
  rw [List.take_of_length_le (by simp; omega)] at r5
  exact ⟨⟨a0,a1,a2,a3,a4,a5⟩,⟨_,_,show cs=(cs.drop 0).take 1++cs.drop 1 from seg 0 1,r0,⟨_,_,seg 1 1,r1,⟨_,_,seg 2 1,r2,⟨_,_,seg 3 1,r3,⟨_,_,seg 4 1,r4,r5⟩⟩⟩⟩⟩,⟨p1,p2,p3,p4,p5⟩⟩
theorem rd22:Rc Tryz.prog 22 (Kind.sl 70 kT70) Cap22:=Rc.mono (rc_sl (by kernel_rfl) rd70 (by kernel_rfl) rfl) (fun a h=>h)
theorem rd25:Rc Tryz.prog 25 kT25 Cap25:=by
  intro W H enc fuel cs x hx
  obtain ⟨hl,n0,y0,h0⟩:=rd_fld (show fld3 Tryz.prog 25 0=some (22,0,1) by kernel_rfl) hx
  obtain ⟨a0,r0,p0⟩:=rd22 _ _ _ _ _ _ h0
  obtain ⟨hl,n1,y1,h1⟩:=rd_fld (show fld3 Tryz.prog 25 1=some (23,1,1) by kernel_rfl) hx
  obtain ⟨a1,r1,p1⟩:=rd23 _ _ _ _ _ _ h1
  have hc:Tryz.prog.cellsOf 25=2:=by kernel_rfl
  rw [hc] at hl
  rw [List.take_of_length_le (by simp; omega)] at r1
  exact ⟨⟨a0,a1⟩,⟨_,_,show cs=(cs.drop 0).take 1++cs.drop 1 from seg 0 1,r0,r1⟩,⟨p0,p1⟩⟩
section
variable {W:World}{H:Type}{enc:TypeId×Value→H}{v:Value}{d:DataW H}{p:List MemPlace}{base:Nat}
theorem of25 (h:DataW.Trod enc Tryz.prog W 0 (fun _=>true) true 25 v d p)(hv:Value.okWide Tryz.prog W .any base 25 v):∃ (a:Graph) (A0 A1:Option Addr) (c0 c1:Nat),v=.agg [.slice A0 a.Nodes.length c0,.slice A1 a.Outs.length c1].toArray∧rdS kT70 (hpOf W) (.slice A0 a.Nodes.length c0) a.Nodes∧rdS kT3 (hpOf W) (.slice A1 a.Outs.length c1) a.Outs∧Cap25 a:=by
  obtain ⟨fuel,hx⟩:=h
  obtain ⟨cs,rfl,hz⟩:=WideShapes.okWide_struct Tryz.underlying25 hv
  obtain ⟨a,hr,hcap⟩:=rd25 _ _ _ _ _ _ hx
  obtain ⟨_,_,e0,⟨v1,rfl,s1⟩,⟨v2,rfl,s2⟩⟩:=hr
  obtain ⟨A1,c1,rfl,_⟩:=id s1
  obtain ⟨A2,c2,rfl,_⟩:=id s2
  exact ⟨a,A1,A2,c1,c2,by rw [show cs=cs.toList.toArray by simp,show cs.toList=_ from e0]; rfl,s1,s2,hcap⟩
end
theorem k25:Tryz.prog.readableRec 25=true:=by kernel_rfl
theorem l25:25<Tryz.prog.types.size:=of_decide_eq_true (by kernel_rfl)
theorem own:ownKnob Tryz.prog.godebug=none:=by kernel_rfl
set_option maxHeartbeats 800000 in
set_option maxRecDepth 100000 in
theorem law_inputs_r_lifted (os:Os)(started:os.Started)(H:Type)(enc:TypeId×Value→H) :
    ReturnsInHanded {} Tryz.checked os 4 .any (Rows.fnExactInputsSpec.pre6 enc Tryz.prog Tryz.f4 Rows.fnExactInputsRow.domain false) (Rows.fnExactInputsSpec.post enc Tryz.prog Tryz.f4 false true false false):=by
  refine returnsInHanded_of_change_shaped (C:=Tryz.checked) own started (by kernel_rfl) Tryz.func4
    (ChangeSpec.witness6 (enc:=enc) (C:=Tryz.checked) false ⟨#[],#[.agg #[.slice none 0 0,.slice none 0 0]],[]⟩ 8 (by kernel_rfl) (by kernel_rfl) (by kernel_rfl) (by kernel_rfl)) ?_
  intro W base args ds gs before hval hW _ _ hsh _
  obtain ⟨m,hm⟩:∃ m,W.cell? ⟨0,0,none⟩=some (.int .i64 m):=cell_of_shapedOpen_int (P:=Tryz.prog) (t:=3) (zero:=#[.int .i64 0]) hsh (of_decide_eq_true (by kernel_rfl)) (by kernel_rfl) rfl (by kernel_rfl) (by kernel_rfl) (by kernel_rfl)
  have hW':=hW
  have hlt:=hW.lt
  obtain ⟨p,q,hA,hV,rfl,hfz,_⟩:=hW
  have hA':DataW.TrodAll enc Tryz.prog W 0 (fun _=>true) true [25] args.toList ds p:=hA
  obtain ⟨v0,vs0,d0,ds0,p0,q0,ea,rfl,rfl,h0,hr0⟩:=ChangeShapes.trodAll_cons hA'
  obtain ⟨rfl,rfl,rfl⟩:=ChangeShapes.trodAll_nil hr0
  obtain rfl:args=#[v0]:=by cases args; simp_all
  obtain ⟨rfl,rfl⟩:=ChangeShapes.trodVars_none hV
  obtain ⟨a0,A0_0,A0_1,c0_0,c0_1,rfl,s0_0,s0_1,hc0⟩:=of25 h0 (hval 0 25 _ (by kernel_rfl) rfl)
  have hcall:=Z34_ok (A2:=A0_0) (N2:=a0.Nodes.length) (D2:=c0_0) (A3:=A0_1) (N3:=a0.Outs.length) (D3:=c0_1) (mG:=m) (law_inputs a0 hc0) W W [oldH W] (st_old (by
    intro q hq
    simp only [List.mem_cons,List.not_mem_nil,or_false] at hq
    rcases hq with rfl | rfl | rfl
    · exact ⟨rfl,s0_0⟩
    · exact ⟨rfl,s0_1⟩
    · exact cl_of hm))
  refine Calls.mono' hcall ?_
  rintro e W' ⟨_,rfl,s'⟩
  have hb:=below_old s'
  have tr:∀ {t:TypeId} {v:Value} {d:DataW H} {p':List MemPlace},Tryz.prog.readableRec t=true→t<Tryz.prog.types.size→DataW.Trod enc Tryz.prog W 0 (fun _=>true) true t v d p'→(∀ x∈p',x∈(p0++[]))→DataW.Trod enc Tryz.prog W' 0 (fun b=>decide (b<W.heap.size)) true t v d p':=fun k1 k2 h hp=>hb.trod (by kernel_rfl) k1 k2 h (fun x hx=>hlt x (by simpa using hp x hx))
  refine ⟨_,rfl,_,_,_,[],(p0++[]),[],hW',?_,?_,rfl,hb.frame _,fun h=>by cases h⟩
  · exact ChangeShapes.trodAll_mk1 ⟨1,rfl⟩
  · exact trodAll_cons_mk (tr k25 l25 h0 (by simp +contextual)) ChangeShapes.trodAll_mk0
theorem law_inputs_holds:Rows.FnExactInputsSaid :=
  OpenClaim.holds_of_wide 4 Tryz.f4 rfl rfl rfl rfl rfl rfl rfl ⟨rfl,rfl,rfl,rfl,rfl⟩ rfl rfl rfl rfl rfl (by kernel_rfl) Tryz.func4 (by kernel_rfl)
    (of_decide_eq_true (by kernel_rfl)) (by unfold Func.isWrapper; first | (rw [if_pos (by decide +kernel)]; kernel_rfl) | (rw [if_neg (by decide +kernel)]; exact ⟨rfl,rfl⟩))
    (fun os started H enc _=>law_inputs_r_lifted os started H enc)
end Go.Proofs.YtmpnollfdpdipaaGreat
