import Derived.Test.YtmpnollfdpdipaaGreatPg29
import Derived.WideLaws
set_option linter.unusedVariables false
set_option linter.unusedSimpArgs false
namespace Go.Pg
def pk (L:List HP):HP:=⟨fun I h=>star L I h,fun l s=>star_mono l s⟩
theorem St.pack {C w:World}{A V:List HP}(s:St C w (A++V)):St C w (pk A::V):=by
 refine St.imp (A:=A) (B:=[pk A]) s ?_
 intro I h _ _ a
 exact ⟨h,Hp.none,(Join.none h).symm,a,rfl⟩
theorem St.unpack {C w:World}{A V:List HP}(s:St C w (pk A::V)):St C w (A++V):=by
 refine St.imp (A:=[pk A]) (B:=A) s ?_
 rintro I h _ _ ⟨h1,h2,j,a,rfl⟩
 rw [j.symm.eq_of_none]; exact a
def InvOk {A:Type}(P:Program)(v:Value)(name:String)(args:List Value)(Pre:List HP)(post:A→Value×List HP):Prop :=
 ∃ (f:FuncId) (as:List Value),(∀ w,(callMethod v name args.toArray).run P w=.ok (.enter f as.toArray) w)∧FnOk P f as Pre post
theorem InvOk.mk {A:Type}{P:Program}{v r:Value}{name:String}{args:List Value}{Pre:List HP}{post:A→Value×List HP}{f:FuncId}
  (h:∀ (args:Array Value) w,(callMethod v name args).run P w=.ok (.enter f (#[r]++args)) w) (hc:FnOk P f (r::args) Pre post):InvOk P v name args Pre post :=
 ⟨f,r::args,fun w=>by rw [h]; simp,hc⟩
theorem InvOk.perm {A:Type}{P:Program}{v:Value}{name:String}{args:List Value}{Pre Pre':List HP}{post:A→Value×List HP}(hc:InvOk P v name args Pre post)(h:∀ C w V,St C w (Pre'++V)→St C w (Pre++V)):InvOk P v name args Pre' post:=by
 obtain ⟨f,as,h1,h2⟩:=hc
 exact ⟨f,as,h1,h2.perm h⟩
theorem InvOk.lends {T:Type}{P:Program}{v:Value}{name:String}{args:List Value}{A' A B:List HP}{post:T→Value×List HP}(hc:InvOk P v name args (A++B) post)(hl:Lends A' A)(hp:∀ x,AllC (post x).2):InvOk P v name args (A'++B) (fun x=>((post x).1,A'++(post x).2)):=by
 obtain ⟨f,as,h1,h2⟩:=hc
 exact ⟨f,as,h1,h2.lends hl hp⟩
section
variable {X:Cx}{V:List HP}{σ:Env}{Q:Exit→Env→World→Prop}{ops:Array Oper}{rest:List Oper}
variable {d:Option Nat}{ty:TypeId}{pos:String}{af:Array Edge}{gd:Option (Nat×Bool)}
theorem l_inv {A:Type}{r:Operand}{name:String}{xs:Array Operand}{ats:Array TypeId}{v:Value}{as:List Value}{Pre:List HP}{post:A→Value×List HP}(m:Nat)(hw:want ops σ ⟨d,.call ⟨.invoke r name,xs,ats⟩,ty,pos,af,gd⟩=true)
  (hx:ev σ r=v) (ha:xs.toList.map (ev σ)=as) (hc:InvOk X.P v name as Pre post) (hV:tk m V=Pre) (k:∀ x,TL X ops ((post x).2++dp m V) (updo σ d (post x).1) rest Q)
  (hd:dok X.n d=true:=by exact rfl):TL X ops V σ (⟨d,.call ⟨.invoke r name,xs,ats⟩,ty,pos,af,gd⟩::rest) Q:=by
 intro w s
 refine WL_step hd hw ?_
 obtain ⟨f,as',hf,hc⟩:=hc
 have hr:(execOp (ev σ) ⟨d,.call ⟨.invoke r name,xs,ats⟩,ty,pos,af,gd⟩).run X.P w=.ok (.enter f as'.toArray) w:=by
  have e1:(#[v]++xs.map (ev σ)).extract 1 (#[v]++xs.map (ev σ)).size=as.toArray:=by
   rw [arr_map xs _ ha]
   have:(#[v]++as.toArray).size=as.length+1:=by simp [Nat.add_comm]
   rw [this]
   apply Array.ext'
   simp [Array.toList_extract,List.extract]
  have e2:(#[v]++xs.map (ev σ))[0]?=some v:=by rw [Array.getElem?_append_left (by simp)]; rfl
  simp only [execOp,resolve,hx,Sem.run_bind,Sem.run_pure,Result.andThen_ok,invoke,e2,e1,hf]
 rw [hr]
 rw [← tk_dp m V,hV] at s
 refine Calls.mono' (hc X.C w _ s) ?_
 rintro e w' ⟨x,rfl,s'⟩
 exact k x w' s'
theorem v_inil {T T':TypeId}{x:Operand}{u:TypeId}{v:Value}(hT:X.P.underlying T=some (.interface (X.P.methodsAt T)))(hx:ev σ x=.iface u v):VO X V σ ⟨d,.binOp .eql T x (.const .nilIface) T',ty,pos,af,gd⟩ (.bool false):=by
 intro w _
 have e:ev σ (.const .nilIface)=.nilIface:=rfl
 have g:(eqGuard .eql T x (.const .nilIface) (.iface u v) .nilIface).run X.P w=.ok () w:=rfl
 have b:binOp .eql T (.iface u v) .nilIface=(do pure (.bool (← Op.equal T (.iface u v) .nilIface))):=rfl
 simp only [execOp,hx,e,Sem.run_bind,g,Result.andThen_ok,b,run_equal_held_nil w T u v hT,Sem.run_pure]
theorem v_inil0 {T T':TypeId}{x:Operand}(hT:X.P.underlying T=some (.interface (X.P.methodsAt T)))(hx:ev σ x=.nilIface):VO X V σ ⟨d,.binOp .eql T x (.const .nilIface) T',ty,pos,af,gd⟩ (.bool true):=by
 intro w _
 have e:ev σ (.const .nilIface)=.nilIface:=rfl
 have g:(eqGuard .eql T x (.const .nilIface) .nilIface .nilIface).run X.P w=.ok () w:=by
  cases x<;>rfl
 have b:binOp .eql T .nilIface .nilIface=(do pure (.bool (← Op.equal T .nilIface .nilIface))):=rfl
 simp only [execOp,hx,e,Sem.run_bind,g,Result.andThen_ok,b,run_equal_nil_nil w T hT,Sem.run_pure]
theorem v_mki {u:TypeId}{x:Operand}{v:Value}(hc:X.P.concrete u=true)(hx:ev σ x=v):VO X V σ ⟨d,.makeInterface u x,ty,pos,af,gd⟩ (.iface u v):=by
 intro w _
 simp only [execOp,hx,Sem.run_bind,run_makeInterface w _ _ hc,Result.andThen_ok,Sem.run_pure]
end
end Go.Pg
