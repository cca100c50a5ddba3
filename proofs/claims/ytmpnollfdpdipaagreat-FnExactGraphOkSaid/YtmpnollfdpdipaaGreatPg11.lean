import Derived.Test.YtmpnollfdpdipaaGreatPg10
import Derived.Deep.Quiet
import Derived.KernelRfl
set_option linter.unusedVariables false
set_option linter.unusedSimpArgs false
namespace Go.Pg
def FnOk {A:Type}(P:Program)(f:FuncId)(args:List Value)(Pre:List HP)(post:A→Value×List HP):Prop :=
 ∀ C w V,St C w (Pre++V)→Calls P f args.toArray w (fun e w'=>∃ x,e=.returned (post x).1∧St C w' ((post x).2++V))
def callB (P:Program)(f:FuncId):Bool:=match P.funcs[f]? with
 | some fn=>!(fn.name == "runtime.NumGoroutine")&&fn.body.isSome
 | none=>false
theorem run_callFunc {P:Program}{f:FuncId}{w:World}{args:Array Value}(h:callB P f=true):(callFunc f args).run P w=.ok (.enter f args) w:=by
 unfold callB at h
 cases hf:P.funcs[f]? with
 | none=>rw [hf] at h; cases h
 | some fn =>
  rw [hf] at h
  simp only [Bool.and_eq_true,Bool.not_eq_true'] at h
  cases hb:fn.body with
  | none=>rw [hb] at h; cases h.2
  | some c =>
   have h1:=h.1
   simp at h1
   simp [callFunc,hf,h1,hb]
section
variable {X:Cx}{V:List HP}{σ:Env}{Q:Exit→Env→World→Prop}{ops:Array Oper}{rest:List Oper}{o:Oper}
variable {d:Option Nat}{ty:TypeId}{pos:String}{af:Array Edge}{gd:Option (Nat×Bool)}
variable {α β:Type}
theorem arr_map (xs:Array Operand)(f:Operand→Value){as:List Value}(h:xs.toList.map f=as):xs.map f=as.toArray:=by
 apply Array.ext'
 simpa using h
theorem l_call {A:Type}{f:FuncId}{xs:Array Operand}{ats:Array TypeId}{as:List Value}{Pre V':List HP}{post:A→Value×List HP}(hd:dok X.n d=true)(hw:want ops σ ⟨d,.call ⟨.value (.func f),xs,ats⟩,ty,pos,af,gd⟩=true)
  (hf:callB X.P f=true) (ha:xs.toList.map (ev σ)=as) (hc:FnOk X.P f as Pre post) (hV:V=Pre++V') (k:∀ x,TL X ops ((post x).2++V') (updo σ d (post x).1) rest Q):TL X ops V σ (⟨d,.call ⟨.value (.func f),xs,ats⟩,ty,pos,af,gd⟩::rest) Q:=by
 intro w s
 refine WL_step hd hw ?_
 have hr:(execOp (ev σ) ⟨d,.call ⟨.value (.func f),xs,ats⟩,ty,pos,af,gd⟩).run X.P w=.ok (.enter f as.toArray) w:=by
  show (callFunc f (#[]++xs.map (ev σ)++#[])).run X.P w=_
  rw [arr_map xs _ ha,run_callFunc hf]
  simp
 rw [hr]
 subst hV
 refine Calls.mono' (hc X.C w V' s) ?_
 rintro e w' ⟨x,rfl,s'⟩
 exact k x w' s'
theorem l_callv {A:Type}{f:FuncId}{fv:Operand}{fs cs:List Value}{xs:Array Operand}{ats:Array TypeId}{as:List Value}{Pre V':List HP}{post:A→Value×List HP}(hd:dok X.n d=true)(hw:want ops σ ⟨d,.call ⟨.value fv,xs,ats⟩,ty,pos,af,gd⟩=true)
  (hf:callB X.P f=true) (hv:ev σ fv=.func (.func f) fs.toArray cs.toArray) (ha:fs++xs.toList.map (ev σ)++cs=as) (hc:FnOk X.P f as Pre post) (hV:V=Pre++V') (k:∀ x,TL X ops ((post x).2++V') (updo σ d (post x).1) rest Q):TL X ops V σ (⟨d,.call ⟨.value fv,xs,ats⟩,ty,pos,af,gd⟩::rest) Q:=by
 intro w s
 refine WL_step hd hw ?_
 have hr:(execOp (ev σ) ⟨d,.call ⟨.value fv,xs,ats⟩,ty,pos,af,gd⟩).run X.P w=.ok (.enter f as.toArray) w:=by
  have:(callFunc f (fs.toArray++xs.map (ev σ)++cs.toArray)).run X.P w=.ok (.enter f as.toArray) w:=by
   rw [run_callFunc hf,arr_map xs _ rfl,← ha]
   simp
  simp only [execOp,resolve,hv,Deferred.ofValue,Sem.run_bind,Sem.run_pure,Result.andThen_ok,invoke,this]
 rw [hr]
 subst hV
 refine Calls.mono' (hc X.C w V' s) ?_
 rintro e w' ⟨x,rfl,s'⟩
 exact k x w' s'
def HP.Closed (p:HP):Prop:=∀ I J h,p.p I h→p.p J h
theorem closed_ow {K:Kind α}{e:Nat}{v:Value}{xs:List α}(h:K.Closed):(ow K e v xs).Closed:=fun _ _ _ o=>owS_closed h o
theorem star_closed {A:List HP}(h:∀ p∈A,p.Closed){I J g:Hp}(s:star A I g):star A J g:=by
 induction A generalizing g with
 | nil=>exact s
 | cons p A ih =>
  obtain ⟨h1,h2,j,a,b⟩:=s
  exact ⟨h1,h2,j,h p (by simp) _ _ _ a,ih (fun q hq=>h q (by simp [hq])) b⟩
def AllC:List HP→Prop
 | []=>True
 | p::A=>p.Closed∧AllC A
theorem allC {A:List HP}(h:AllC A):∀ p∈A,p.Closed:=by
 induction A with
 | nil=>intro p hp; cases hp
 | cons q A ih =>
  intro p hp
  rcases List.mem_cons.1 hp with rfl | hp
  ·exact h.1
  ·exact ih h.2 p hp
def at_ (I0:Hp)(p:HP):HP:=⟨fun I h=>Hp.le I0 I∧p.p I0 h,fun l h=>⟨Hp.le_trans h.1 l,h.2⟩⟩
theorem star_at {I0 I:Hp}(l:Hp.le I0 I){V:List HP}{h:Hp}(s:star V I0 h):star (V.map (at_ I0)) I h:=by
 induction V generalizing h with
 | nil=>exact s
 | cons p V ih =>
  obtain ⟨h1,h2,j,a,b⟩:=s
  exact ⟨h1,h2,j,⟨l,a⟩,ih b⟩
theorem at_star {I0 I:Hp}{V:List HP}{h:Hp}(s:star (V.map (at_ I0)) I h):star V I0 h:=by
 induction V generalizing h with
 | nil=>exact s
 | cons p V ih =>
  obtain ⟨h1,h2,j,a,b⟩:=s
  exact ⟨h1,h2,j,a.2,ih b⟩
def has (g:Hp):HP:=⟨fun I h=>h=Hp.none∧Hp.le g I,fun l h=>⟨h.1,Hp.le_trans h.2 l⟩⟩
theorem FnOk.perm {A:Type}{P:Program}{f:FuncId}{args:List Value}{Pre Pre':List HP}{post:A→Value×List HP}(hc:FnOk P f args Pre post)(h:∀ C w V,St C w (Pre'++V)→St C w (Pre++V)):FnOk P f args Pre' post:=fun C w V s=>hc C w V (h C w V s)
theorem FnOk.post {A B:Type}{P:Program}{f:FuncId}{args:List Value}{Pre:List HP}{post:A→Value×List HP}{post':B→Value×List HP}(hc:FnOk P f args Pre post)(g:A→B)(h1:∀ x,(post x).1=(post' (g x)).1)(h:∀ x C w V,St C w ((post x).2++V)→St C w ((post' (g x)).2++V)):FnOk P f args Pre post':=by
 intro C w V s
 refine Calls.mono' (hc C w V s) ?_
 rintro e w' ⟨x,rfl,s'⟩
 exact ⟨g x,by rw [h1],h x C w' V s'⟩
def retVal:List Value→Value
 | [v]=>v
 | vs=>.tuple vs.toArray
def ResV (P:Program)(V:List HP)(σ:Env):List ResultVar→List Value→Prop
 | [],[]=>True
 | .tmp t::rs,v::vs=>σ t=v∧ResV P V σ rs vs
 | .cell a T::rs,v::vs=>(∃ i b cs T0,lk V i=bxl b cs T0∧σ a=.pointer (some ⟨b,0,none⟩)∧((aggB P T=some true∧szB P T=some cs.length∧v=.agg cs.toArray)∨(aggB P T=some false∧cs=[v])))∧ResV P V σ rs vs
 | _,_=>False
theorem run_resV {P:Program}{C w:World}{V:List HP}{σ:Env}(s:St C w V):∀ (rs:List ResultVar) (vs:List Value),ResV P V σ rs vs →
  (rs.mapM (fun | .tmp t=>pure (σ t) | .cell a t=>do loadVar t (← asAddr (σ a)):ResultVar→Sem Value)).run P w=.ok vs w
 | [],[],_=>rfl
 | .tmp t::rs,v::vs,⟨h1,h2⟩=>by
  have:=run_resV s rs vs h2
  simp [List.mapM_cons,this,h1]
 | .cell a T::rs,v::vs,⟨⟨i,b,cs,T0,hV,ha,hv⟩,h2⟩=>by
  have:=run_resV s rs vs h2
  have hb:=look_bx s i hV
  have hl:(loadVar T ⟨b,0,none⟩).run P w=.ok v w:=by
   rcases hv with ⟨h3,h4,rfl⟩|⟨h3,rfl⟩
   ·exact run_loadVar_agg h3 h4 (fun j u hu=>by rw [add_eq,cell_bx hb,Nat.zero_add]; exact hu)
   ·exact run_loadVar_one h3 (by rw [cell_bx hb]; rfl)
  have he:(asAddr (σ a)).run P w=.ok ⟨b,0,none⟩ w:=by rw [ha]; rfl
  simp [List.mapM_cons,this,he,hl]
 | [],_::_,h=>h.elim
 | .tmp _::_,[],h=>h.elim
 | .cell _ _::_,[],h=>h.elim
theorem run_results {P:Program}{C w:World}{V:List HP}{σ:Env}{fn:Func}{rs:List ResultVar}{vs:List Value}(s:St C w V)(hr:fn.results=rs.toArray)(h:ResV P V σ rs vs):(resultsE fn σ).run P w=.ok (retVal vs) w:=by
 have:=run_resV s rs vs h
 unfold resultsE
 rw [hr,List.mapM_toArray]
 simp only [Sem.run_bind,Sem.run_map]
 refine (congrArg (fun r=>Result.andThen (Result.andThen r _) _) this).trans ?_
 match vs with
 | []=>rfl
 | [v]=>rfl
 | v::u::l=>simp [retVal]
def Fin (X:Cx){A:Type}(V:List HP)(post:A→Value×List HP):Value→World→Prop:=fun v w=>∃ x,v=(post x).1∧St X.C w ((post x).2++V)
theorem q_fin {A:Type}{V0:List HP}{post:A→Value×List HP}{fn:Func}{rs:List ResultVar}{vs:List Value}{e:Exit}(he:e=.ret∨e=.normal)(x:A)(hr:fn.results=rs.toArray)(hv:ResV X.P V σ rs vs)(hx:(post x).1=retVal vs)(hs:∀ w,St X.C w V→St X.C w ((post x).2++V0)) :
  TQ X V σ e (Ends X.P fn (Fin X V0 post)):=by
 intro w s
 rcases he with rfl | rfl
 ·exact ⟨_,run_results s hr hv,x,hx.symm,hs w s⟩
 ·exact ⟨_,run_results s hr hv,x,hx.symm,hs w s⟩
theorem fn_ok {A:Type}{P:Program}{f:FuncId}{fn:Func}{c:Code}{args:List Value}{Pre:List HP}{post:A→Value×List HP}(hf:P.funcs[f]?=some fn)(hb:fn.body=some c)(n:Nat)(hn0:fn.ntmps=n)(hn:Nat.ble args.length n=true)
  (h:∀ C V,TC ⟨P,.of n,C⟩ (Pre++V) (env0 args.toArray) c (Ends P fn (Fin ⟨P,.of n,C⟩ V post))):FnOk P f args Pre post:=by
 subst hn0
 intro C w V s
 refine Calls.mono' (calls_of_W hf hb (by have:=Nat.le_of_ble_eq_true hn; simpa using this) (h C V w s)) ?_
 rintro e w' ⟨v,rfl,x,rfl,s'⟩
 exact ⟨x,rfl,s'⟩
theorem put_facts {a:Act}{o:Oper}{n:Nn}{σ:Env}(hd:dok n o.dst=true)(h1:a.tmps.size=n.n)(h2:a.defers=n.ds)(h3:envOf a=σ)(v:Value):(a.put o.dst v).tmps.size=n.n∧(a.put o.dst v).defers=n.ds∧envOf (a.put o.dst v)=updo σ o.dst v:=by
 refine ⟨?_,?_,?_⟩
 ·cases hdd:o.dst with
  | none=>exact h1
  | some d=>show (a.tmps.setIfInBounds d v).size=n.n; rw [Array.size_setIfInBounds,h1]
 ·cases hdd:o.dst with
  | none=>exact h2
  | some d=>exact h2
 ·rw [envOf_put,h3]
  intro d e
  rw [e] at hd
  rw [h1]
  exact Nat.lt_of_lt_of_le (Nat.lt_succ_self _) (Nat.le_of_ble_eq_true hd)
theorem l_v {dd:Nat}{op:Op}(v:Value)(hv:VO X V σ ⟨some dd,op,ty,pos,af,gd⟩ v)(hw:want ops σ ⟨some dd,op,ty,pos,af,gd⟩=true)(hd:dok X.n (some dd)=true)(h:TL X ops V (upd σ dd v) rest Q):TL X ops V σ (⟨some dd,op,ty,pos,af,gd⟩::rest) Q :=
 l_vo hd hw hv h
theorem bif_ {b:Bool}{x y:Option α}{r:α}(h:(if b=true then x else y)=some r):(b=true∧x=some r)∨(b=false∧y=some r):=by
 cases b
 ·exact .inr ⟨rfl,by simpa using h⟩
 ·exact .inl ⟨rfl,by simpa using h⟩
def AllS (σ:Env):List (Nat×Value)→Prop
 | []=>True
 | (t,v)::l=>σ t=v∧AllS σ l
theorem allS_updl {σ:Env}{l:List (Nat×Value)}(h:AllS σ l):updl σ l=σ:=by
 induction l with
 | nil=>rfl
 | cons p l ih =>
  obtain ⟨t,v⟩:=p
  show upd (updl σ l) t v=σ
  rw [ih h.2]
  exact upd_self σ t h.1
def Jn (X:Cx){A:Type}(pf:A→Prop)(sl:A→List (Nat×Value))(Vf:A→List HP):Env→World→Prop:=fun σ w=>∃ a,pf a∧AllS σ (sl a)∧St X.C w (Vf a)
theorem c_cut {A:Type}{x y:Code}(pf:A→Prop)(sl:A→List (Nat×Value))(Vf:A→List HP)(hx:TC X V σ x (Then (Jn X pf sl Vf) Q))(hy:∀ a σ',pf a→TC X (Vf a) (updl σ' (sl a)) y Q):TC X V σ x (Then (Nx X y Q) Q):=by
 intro w s
 refine W.mono (hx w s) ?_
 intro e σ' w' q
 cases e with
 | normal =>
  obtain ⟨a,h0,h1,h2⟩:=q
  have:=hy a σ' h0 w' h2
  rw [allS_updl h1] at this
  exact this
 | _=>exact q
theorem q_join {A:Type}{pf:A→Prop}{sl:A→List (Nat×Value)}{Vf:A→List HP}(a:A)(h0:pf a)(h1:AllS σ (sl a))(h2:∀ w,St X.C w V→St X.C w (Vf a)):TQ X V σ .normal (Then (Jn X pf sl Vf) Q):=fun w s=>⟨a,h0,h1,h2 w s⟩
def Nxt (X:Cx){S E A:Type}(out:S⊕E)(sl:S→A→List (Nat×Value))(Vf:S→A→List HP):Env→World→Prop:=fun σ w=>∃ s a,out=.inl s∧AllS σ (sl s a)∧St X.C w (Vf s a)
theorem c_loop {S E A:Type}{f:S→Option (S⊕E)}{s0:S}{e:E}{c:Code}(hl:loopM f s0=some e)(sl:S→A→List (Nat×Value))(Vf:S→A→List HP)(a0:A)(h1:AllS σ (sl s0 a0))(h2:∀ w,St X.C w V→St X.C w (Vf s0 a0))
  (round:∀ s a σ' out,f s=some out→(∀ e',out=.inr e'→e'=e)→TC X (Vf s a) (updl σ' (sl s a)) c (Then (Nxt X out sl Vf) Q)):TC X V σ (.loop c) Q:=by
 intro w st
 obtain ⟨k,hk⟩:=loopM_to hl
 refine W_loop (fun k σ w=>∃ s a,iterM f k s=some e∧AllS σ (sl s a)∧St X.C w (Vf s a)) k ⟨s0,a0,hk,h1,h2 w st⟩ ?_
 rintro k σ' w' ⟨s,a,hi,g1,g2⟩
 cases k with
 | zero=>cases hi
 | succ k =>
  simp only [iterM] at hi
  cases hf:f s with
  | none=>rw [hf] at hi; cases hi
  | some out =>
   rw [hf] at hi
   have:=round s a σ' out hf (fun e' he=>by subst he; exact Option.some.inj hi) w' g2
   rw [allS_updl g1] at this
   refine W.mono this ?_
   intro ex σ'' w'' q
   cases ex with
   | normal =>
    obtain ⟨s',a',rfl,q1,q2⟩:=q
    exact ⟨k,Nat.lt_succ_self k,s',a',hi,q1,q2⟩
   | _=>exact q
theorem q_again {S E A:Type}{sl:S→A→List (Nat×Value)}{Vf:S→A→List HP}{s:S}(a:A)(h1:AllS σ (sl s a))(h2:∀ w,St X.C w V→St X.C w (Vf s a)):TQ X V σ .normal (Then (Nxt X (E:=E) (.inl s) sl Vf) Q):=fun w st=>⟨s,a,rfl,h1,h2 w st⟩
end
end Go.Pg
