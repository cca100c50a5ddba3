import Derived.WalkKit
import Derived.Deep.LoopGhost
import Derived.Test.YtmpnollfdpdipaaGreatPgF
set_option linter.unusedVariables false
set_option linter.unusedSimpArgs false
namespace Go.Pg
abbrev Env:=Nat→Value
def upd (σ:Env)(d:Nat)(v:Value):Env:=fun t=>cond (Nat.beq t d) v (σ t)
def updo (σ:Env):Option Nat→Value→Env
 | some d,v=>upd σ d v
 | none,_=>σ
def updl (σ:Env):List (Nat×Value)→Env
 | []=>σ
 | (d,v)::l=>upd (updl σ l) d v
def envOf (a:Act):Env:=fun t=>a.tmps.getD t undef
def ev (σ:Env):Operand→Value
 | .tmp t=>σ t
 | .const v=>v
 | .global g=>.pointer (some ⟨g,0,none⟩)
 | .func f=>.func (.func f) #[] #[]
theorem eval_env (a:Act):a.eval=ev (envOf a):=by
 funext x
 cases x<;>rfl
theorem upd_same (σ:Env)(d:Nat)(v:Value):upd σ d v d=v:=by simp [upd]
theorem upd_ne (σ:Env){d t:Nat}(v:Value)(h:t≠d):upd σ d v t=σ t:=by
 have:Nat.beq t d=false:=by
  cases hb:Nat.beq t d with
  | false=>rfl
  | true=>exact absurd (Nat.eq_of_beq_eq_true hb) h
 simp [upd,this]
theorem upd_self (σ:Env)(d:Nat){v:Value}(h:σ d=v):upd σ d v=σ:=by
 funext t
 by_cases e:t=d
 ·subst e; rw [upd_same,h]
 ·rw [upd_ne _ _ e]
theorem envOf_put (a:Act)(dst:Option Tmp)(v:Value)(h:∀ d,dst=some d→d<a.tmps.size):envOf (a.put dst v)=updo (envOf a) dst v:=by
 cases dst with
 | none=>rfl
 | some d =>
  funext t
  show (a.tmps.setIfInBounds d v).getD t undef=upd (envOf a) d v t
  have hd:=h d rfl
  by_cases e:t=d
  ·subst e
   rw [upd_same]
   simp [Array.getD_eq_getD_getElem?,hd]
  ·rw [upd_ne _ _ e]
   have e':¬ d=t:=fun h=>e h.symm
   simp [envOf,Array.getD_eq_getD_getElem?,Array.getElem?_setIfInBounds,e']
structure Nn where
 n:Nat
 ds:List Deferred
 alt:Act→World→Prop
@[reducible] def Nn.of (n:Nat):Nn:=⟨n,[],fun _ _=>False⟩
def lift (N:Nn)(Q:Exit→Env→World→Prop):Exit→Act→World→Prop:=fun e a w=>(a.tmps.size=N.n∧a.defers=N.ds∧Q e (envOf a) w)∨(e=.ret∧N.alt a w)
theorem lift_n {N:Nn}{Q:Exit→Env→World→Prop}{e:Exit}{a:Act}{w:World}(h:lift N Q e a w)(he:e≠.ret):a.tmps.size=N.n∧a.defers=N.ds∧Q e (envOf a) w:=h.resolve_right fun h=>he h.1
theorem lift_mono {N:Nn}{Q Q':Exit→Env→World→Prop}{e:Exit}{a:Act}{w:World}(h:lift N Q e a w)(hq:Q e (envOf a) w→Q' e (envOf a) w):lift N Q' e a w:=h.imp (fun ⟨a,b,c⟩=>⟨a,b,hq c⟩) id
def W (P:Program)(N:Nn)(c:Code)(Q:Exit→Env→World→Prop)(σ:Env)(w:World):Prop :=
 ∀ a:Act,a.tmps.size=N.n→a.defers=N.ds→envOf a=σ→c.wp P (lift N Q) a w
def WL (P:Program)(N:Nn)(ops:Array Oper)(rest:List Oper)(Q:Exit→Env→World→Prop)(σ:Env)(w:World):Prop :=
 ∀ a:Act,a.tmps.size=N.n→a.defers=N.ds→envOf a=σ→wpList P ops (lift N Q) rest a w
def dok (N:Nn):Option Nat→Bool
 | some d=>Nat.blt d N.n
 | none=>true
def gval (ops:Array Oper)(σ:Env)(j:Nat):Option Bool :=
 match (ops[j]?).bind (·.dst) with
 | some d=>match σ d with
  | .bool b=>some b
  | _=>none
 | none=>none
theorem yielded_env (ops:Array Oper)(a:Act)(j:Nat):yielded ops a.tmps j=gval ops (envOf a) j:=by
 unfold yielded gval
 cases h:(ops[j]?).bind (·.dst) with
 | none=>rfl
 | some d =>
  simp only [Option.bind_some,envOf,Array.getD_eq_getD_getElem?]
  cases ht:a.tmps[d]? with
  | none=>simp [undef]
  | some v=>cases v<;>simp
def want (ops:Array Oper)(σ:Env)(o:Oper):Bool :=
 match o.guard with
 | none=>true
 | some (j,b)=>gval ops σ j==some b
theorem wanted_env (ops:Array Oper)(a:Act)(o:Oper):Region.wanted o (yielded ops a.tmps)=want ops (envOf a) o:=by
 unfold Region.wanted want
 cases o.guard with
 | none=>rfl
 | some g=>simp only [yielded_env]
section
variable {P:Program}{n:Nn}{ops:Array Oper}{rest:List Oper}{o:Oper}{Q Q':Exit→Env→World→Prop}{σ:Env}{w:World}{c x y:Code}
theorem W.mono (h:W P n c Q σ w)(hq:∀ e σ w,Q e σ w→Q' e σ w):W P n c Q' σ w :=
 fun a h1 h2 h3=>wp_mono (h a h1 h2 h3) fun _ _ _ q=>lift_mono q (hq _ _ _)
def Then (K:Env→World→Prop)(Q:Exit→Env→World→Prop):Exit→Env→World→Prop
 | .normal,σ,w=>K σ w
 | e,σ,w=>Q e σ w
def InBlock (id:Nat)(Q:Exit→Env→World→Prop):Exit→Env→World→Prop
 | .exit id',σ,w=>cond (Nat.beq id' id) (Q .normal σ w) (Q (.exit id') σ w)
 | e,σ,w=>Q e σ w
theorem W_seq (h:W P n x (Then (fun σ w=>W P n y Q σ w) Q) σ w):W P n (.seq x y) Q σ w:=by
 intro a h1 h2 h3
 refine wp_seq (wp_mono (h a h1 h2 h3) ?_)
 rintro e a' w' q
 cases e with
 | normal =>
  obtain ⟨q1,q2,q3⟩:=lift_n q (by simp)
  exact q3 a' q1 q2 rfl
 | _=>exact q
theorem W_skip (h:Q .normal σ w):W P n .skip Q σ w:=fun a h1 h2 h3=>wp_skip (.inl ⟨h1,h2,h3▸h⟩)
theorem W_ret (h:Q .ret σ w):W P n .ret Q σ w:=fun a h1 h2 h3=>wp_ret (.inl ⟨h1,h2,h3▸h⟩)
theorem W_exit {id:Nat}(h:Q (.exit id) σ w):W P n (.exit id) Q σ w:=fun a h1 h2 h3=>wp_exit (.inl ⟨h1,h2,h3▸h⟩)
theorem W_cond {k:Operand}{b:Bool}(hb:ev σ k=.bool b)(h:W P n (cond b x y) Q σ w):W P n (.cond k x y) Q σ w:=by
 intro a h1 h2 h3
 refine wp_cond (t:=b) (by rw [eval_env,h3]; exact hb) ?_
 cases b
 ·exact h a h1 h2 h3
 ·exact h a h1 h2 h3
theorem W_block {id:Nat}(h:W P n c (InBlock id Q) σ w):W P n (.block id c) Q σ w:=by
 intro a h1 h2 h3
 refine wp_block (wp_mono (h a h1 h2 h3) ?_)
 rintro e a' w' q
 cases e with
 | exit id' =>
  obtain ⟨q1,q2,q3⟩:=lift_n q (by simp)
  unfold InBlock at q3
  show if id'=id then lift n Q .normal a' w' else lift n Q (.exit id') a' w'
  by_cases e:id'=id
  ·subst e
   rw [if_pos rfl]
   have:Nat.beq id' id'=true:=Nat.beq_refl id'
   simp only [this,cond_true] at q3
   exact .inl ⟨q1,q2,q3⟩
  ·rw [if_neg e]
   have:Nat.beq id' id=false:=by
    cases hb:Nat.beq id' id with
    | false=>rfl
    | true=>exact absurd (Nat.eq_of_beq_eq_true hb) e
   simp only [this,cond_false] at q3
   exact .inl ⟨q1,q2,q3⟩
 | _=>exact q
theorem W_region {id:Nat}{l:List Oper}(h:WL P n l.toArray l Q σ w):W P n (.region id l.toArray false) Q σ w :=
 fun a h1 h2 h3=>wp_region_lit (h a h1 h2 h3)
theorem WL_nil (h:Q .normal σ w):WL P n ops [] Q σ w:=fun a h1 h2 h3=>wpList_nil (.inl ⟨h1,h2,h3▸h⟩)
theorem W_loop (I:Nat→Env→World→Prop)(k:Nat)(h0:I k σ w)
  (round:∀ k σ w,I k σ w→W P n c (Then (fun σ' w'=>∃ k',k'<k∧I k' σ' w') Q) σ w):W P n (.loop c) Q σ w:=by
 intro a h1 h2 h3
 refine wp_loop_ghost (fun k a w=>a.tmps.size=n.n∧a.defers=n.ds∧I k (envOf a) w) k ⟨h1,h2,h3▸h0⟩ ?_
 rintro k a w ⟨g1,g2,g3⟩
 refine wp_mono (round k _ w g3 a g1 g2 rfl) ?_
 rintro e a' w' q
 cases e with
 | normal =>
  obtain ⟨q1,q2,k',hk,hI⟩:=lift_n q (by simp)
  exact ⟨k',hk,q1,q2,hI⟩
 | _=>exact q
def Upon (P:Program)(o:Oper)(σ:Env)(next:Env→World→Prop)(Q:Exit→Env→World→Prop):Result Next→Prop
 | .ok (.value v) w'=>next (updo σ o.dst v) w'
 | .ok .skip w'=>next (updo σ o.dst undef) w'
 | .ok (.enter f args) w'=>Calls P f args w' fun
   | .returned v,w''=>next (updo σ o.dst v) w''
   | .panicked chain,w''=>Q (.panic chain) σ w''
   | .outgrown,_=>False
 | .halt (.panic v) w'=>Q (.panic [{v,recovered:=false}]) σ w'
 | _=>False
theorem Calls.mono' {P:Program}{f:FuncId}{args:Array Value}{w:World}{R R':Ending→World→Prop}(h:Calls P f args w R)(hr:∀ e w',R e w'→R' e w'):Calls P f args w R' :=
 fun cs=>let ⟨e,w',fr,r,s⟩:=h cs; ⟨e,w',fr,hr _ _ r,s⟩
theorem WL_step (hd:dok n o.dst=true)(hw:want ops σ o=true)(h:Upon P o σ (fun σ w=>WL P n ops rest Q σ w) Q ((execOp (ev σ) o).run P w)):WL P n ops (o::rest) Q σ w:=by
 intro a h1 h2 h3
 refine wpList_step fun K hK=>?_
 rw [wanted_env,h3,hw,if_pos rfl]
 have hput:∀ v,envOf (a.put o.dst v)=updo σ o.dst v:=fun v=>by
  rw [envOf_put,h3]
  intro d e
  rw [e] at hd
  rw [h1]
  exact Nat.lt_of_lt_of_le (Nat.lt_succ_self _) (Nat.le_of_ble_eq_true hd)
 have hsz:∀ v,(a.put o.dst v).tmps.size=n.n:=fun v=>by
  cases hdd:o.dst with
  | none=>exact h1
  | some d=>show (a.tmps.setIfInBounds d v).size=n.n; rw [Array.size_setIfInBounds,h1]
 have hdf:∀ v,(a.put o.dst v).defers=n.ds:=fun v=>by
  cases hdd:o.dst with
  | none=>exact h2
  | some d=>exact h2
 unfold Oper.wp
 rw [eval_env,h3]
 revert h
 generalize (execOp (ev σ) o).run P w=r
 intro h
 match r,h with
 | .ok (.value v) w',h=>exact hK _ _ (h _ (hsz v) (hdf v) (hput v))
 | .ok .skip w',h=>exact hK _ _ (h _ (hsz _) (hdf _) (hput _))
 | .ok (.enter f args) w',h =>
  refine Calls.mono' h ?_
  intro e w'' he
  cases e with
  | returned v=>exact hK _ _ (he _ (hsz v) (hdf v) (hput v))
  | panicked chain=>exact .inl ⟨h1,h2,h3▸he⟩
  | outgrown=>exact he.elim
 | .halt (.panic v) w',h=>exact .inl ⟨h1,h2,h3▸h⟩
theorem WL_off (hd:dok n o.dst=true)(hw:want ops σ o=false)(h:WL P n ops rest Q (updo σ o.dst undef) w):WL P n ops (o::rest) Q σ w:=by
 intro a h1 h2 h3
 refine wpList_step fun K hK=>?_
 rw [wanted_env,h3,hw]
 simp only [Bool.false_eq_true,if_false]
 refine hK _ _ (h _ ?_ ?_ ?_)
 ·cases hdd:o.dst with
  | none=>exact h1
  | some d=>show (a.tmps.setIfInBounds d _).size=n.n; rw [Array.size_setIfInBounds,h1]
 ·cases hdd:o.dst with
  | none=>exact h2
  | some d=>exact h2
 ·rw [envOf_put,h3]
  intro d e
  rw [e] at hd
  rw [h1]
  exact Nat.lt_of_lt_of_le (Nat.lt_succ_self _) (Nat.le_of_ble_eq_true hd)
end
def resultsE (fn:Func)(σ:Env):Sem Value:=do
 let vs ← fn.results.mapM fun
  | .tmp t=>pure (σ t)
  | .cell a t=>do loadVar t (← asAddr (σ a))
 pure (if h:vs.size=1 then vs[0] else .tuple vs)
def Ends (P:Program)(fn:Func)(R:Value→World→Prop):Exit→Env→World→Prop
 | .normal,σ,w | .ret,σ,w=>∃ v,(resultsE fn σ).run P w=.ok v w∧R v w
 | _,_,_=>False
def env0 (args:Array Value):Env:=fun t=>args.getD t undef
theorem env0_eq {args:Array Value}{n:Nat}:envOf {tmps:=args++Array.replicate (n - args.size) undef,defers:=[]}=env0 args:=by
 funext t
 simp only [envOf,env0,Array.getD_eq_getD_getElem?,Array.getElem?_append]
 split
 ·rfl
 ·rename_i ht
  rw [Array.getElem?_eq_none (by omega:args.size≤t)]
  by_cases h2:t - args.size<n - args.size
  ·simp [h2]
  ·simp [h2]
theorem calls_of_W {P:Program}{f:FuncId}{fn:Func}{c:Code}{args:Array Value}{w:World}{R:Value→World→Prop}
  (hf:P.funcs[f]?=some fn) (hb:fn.body=some c) (hn:args.size≤fn.ntmps) (h:W P (.of fn.ntmps) c (Ends P fn R) (env0 args) w) :
  Calls P f args w fun e w'=>∃ v,e=.returned v∧R v w':=by
 refine calls_of_wp hf hb ?_
 refine wp_mono (h _ (by simp; omega) rfl ?_) ?_
 ·exact env0_eq
 ·rintro e a w' q
  obtain ⟨q1,q2,q3⟩:=q.resolve_right fun h=>h.2
  cases e with
  | normal =>
   obtain ⟨v,hr,hR⟩:=q3
   exact ⟨q2,v,hr,v,rfl,hR⟩
  | ret =>
   obtain ⟨v,hr,hR⟩:=q3
   exact ⟨q2,v,hr,v,rfl,hR⟩
  | _=>exact q3.elim
end Go.Pg
namespace Go.Pg
abbrev Hp:=Nat→Option Obj
def Hp.none:Hp:=fun _=>Option.none
def Hp.one (b:Nat)(o:Obj):Hp:=fun k=>if k=b then some o else Option.none
def Hp.le (h g:Hp):Prop:=∀ b o,h b=some o→g b=some o
def Join (h1 h2 g:Hp):Prop:=∀ b,(h1 b=Option.none∧g b=h2 b)∨(h2 b=Option.none∧g b=h1 b)
theorem Hp.le_refl (h:Hp):Hp.le h h:=fun _ _ e=>e
theorem Hp.le_trans {f g h:Hp}(a:Hp.le f g)(b:Hp.le g h):Hp.le f h:=fun _ _ e=>b _ _ (a _ _ e)
theorem Hp.none_le (h:Hp):Hp.le Hp.none h:=fun _ _ e=>by cases e
theorem Join.symm {h1 h2 g:Hp}(j:Join h1 h2 g):Join h2 h1 g:=fun b=>(j b).symm
theorem Join.none (h:Hp):Join Hp.none h h:=fun b=>.inl ⟨rfl,rfl⟩
theorem Join.none' (h:Hp):Join h Hp.none h:=(Join.none h).symm
theorem Join.eq_of_none {h g:Hp}(j:Join Hp.none h g):g=h:=by
 funext b
 rcases j b with ⟨_,e⟩|⟨e1,e⟩
 ·exact e
 ·rw [e,e1]; rfl
theorem Join.left {h1 h2 g:Hp}(j:Join h1 h2 g):Hp.le h1 g:=fun b o e=>by
 rcases j b with ⟨e1,_⟩|⟨_,e2⟩
 ·rw [e1] at e; cases e
 ·rw [e2]; exact e
theorem Join.right {h1 h2 g:Hp}(j:Join h1 h2 g):Hp.le h2 g:=j.symm.left
theorem Join.of_disj {h1 h2:Hp}(d:∀ b,h1 b=Option.none∨h2 b=Option.none):∃ g,Join h1 h2 g:=by
 refine ⟨fun b=>(h1 b).or (h2 b),fun b=>?_⟩
 rcases d b with e | e
 ·exact .inl ⟨e,by simp [e]⟩
 ·refine .inr ⟨e,by simp [e]⟩
theorem Join.disj {h1 h2 g:Hp}(j:Join h1 h2 g)(b:Nat):h1 b=Option.none∨h2 b=Option.none:=by
 rcases j b with ⟨e,_⟩|⟨e,_⟩
 ·exact .inl e
 ·exact .inr e
theorem Join.cases {h1 h2 g:Hp}(j:Join h1 h2 g){b:Nat}{o:Obj}(e:g b=some o):(h1 b=some o∧h2 b=Option.none)∨(h2 b=some o∧h1 b=Option.none):=by
 rcases j b with ⟨a,c⟩|⟨a,c⟩
 ·exact .inr ⟨c▸e,a⟩
 ·exact .inl ⟨c▸e,a⟩
theorem Join.is_none {h1 h2 g:Hp}(j:Join h1 h2 g)(b:Nat):g b=Option.none↔h1 b=Option.none∧h2 b=Option.none:=by
 rcases j b with ⟨a,c⟩|⟨a,c⟩
 ·rw [c]; exact ⟨fun h=>⟨a,h⟩,fun h=>h.2⟩
 ·rw [c]; exact ⟨fun h=>⟨h,a⟩,fun h=>h.1⟩
theorem Join.assoc {a b c ab g:Hp}(j1:Join a b ab)(j2:Join ab c g):∃ bc,Join b c bc∧Join a bc g:=by
 obtain ⟨bc,hbc⟩:=Join.of_disj (h1:=b) (h2:=c) (fun k=>by
  rcases j2.disj k with e | e
  ·exact .inl ((j1.is_none k).1 e).2
  ·exact .inr e)
 refine ⟨bc,hbc,fun k=>?_⟩
 rcases j1 k with ⟨e1,e2⟩|⟨e1,e2⟩
 ·refine .inl ⟨e1,?_⟩
  rcases j2 k with ⟨f1,f2⟩|⟨f1,f2⟩
  ·rw [f2]
   rcases hbc k with ⟨g1,g2⟩|⟨g1,g2⟩
   ·exact g2.symm
   ·rw [g1,g2]; rw [e2] at f1; exact f1.symm
  ·rw [f2,e2]
   rcases hbc k with ⟨g1,g2⟩|⟨g1,g2⟩
   ·rw [g2,f1]; exact g1
   ·exact g2.symm
 ·rcases j2 k with ⟨f1,f2⟩|⟨f1,f2⟩
  ·rw [e2] at f1
   refine .inl ⟨f1,?_⟩
   rw [f2]
   rcases hbc k with ⟨g1,g2⟩|⟨g1,g2⟩
   ·exact g2.symm
   ·rw [g1,g2,e1]
  ·refine .inr ⟨?_,by rw [f2,e2]⟩
   rcases hbc k with ⟨g1,g2⟩|⟨g1,g2⟩
   ·rw [g2,f1]
   ·rw [g2,e1]
theorem Join.assoc' {a b c bc g:Hp}(j1:Join b c bc)(j2:Join a bc g):∃ ab,Join a b ab∧Join ab c g:=by
 obtain ⟨ba,h1,h2⟩:=Join.assoc j1.symm j2.symm
 exact ⟨ba,h1.symm,h2.symm⟩
structure HP where
 p:Hp→Hp→Prop
 mono:∀ {I J h},Hp.le I J→p I h→p J h
def emp:HP:=⟨fun _ h=>h=Hp.none,fun _ e=>e⟩
def star:List HP→Hp→Hp→Prop
 | [],_,h=>h=Hp.none
 | q::V,I,h=>∃ h1 h2,Join h1 h2 h∧q.p I h1∧star V I h2
theorem star_mono {V:List HP}{I J h:Hp}(l:Hp.le I J)(s:star V I h):star V J h:=by
 induction V generalizing h with
 | nil=>exact s
 | cons q V ih =>
  obtain ⟨h1,h2,j,a,b⟩:=s
  exact ⟨h1,h2,j,q.mono l a,ih b⟩
def lk:List HP→Nat→HP
 | [],_=>emp
 | q::_,0=>q
 | _::V,i+1=>lk V i
def stt:List HP→Nat→HP→List HP
 | [],_,q=>[q]
 | _::V,0,q=>q::V
 | p::V,i+1,q=>p::stt V i q
def rm:List HP→Nat→List HP
 | [],_=>[]
 | _::V,0=>V
 | p::V,i+1=>p::rm V i
def mv (V:List HP)(i:Nat):List HP:=lk V i::rm V i
theorem star_take {V:List HP}{I h:Hp}(i:Nat)(s:star V I h):∃ h1 h2,Join h1 h2 h∧(lk V i).p I h1∧star (rm V i) I h2:=by
 induction V generalizing h i with
 | nil=>exact ⟨Hp.none,h,Join.none h,rfl,s⟩
 | cons q V ih =>
  cases i with
  | zero=>exact s
  | succ i =>
   obtain ⟨h1,h2,j,a,b⟩:=s
   obtain ⟨g1,g2,j',c,d⟩:=ih i b
   obtain ⟨k,k1,k2⟩:=Join.assoc' j' j
   obtain ⟨m,m1,m2⟩:=Join.assoc k1.symm k2
   exact ⟨g1,m,m2,c,h1,g2,m1,a,d⟩
theorem star_put {V:List HP}{I h h1 h2:Hp}(i:Nat){q:HP}(j:Join h1 h2 h)(a:q.p I h1)(b:star (rm V i) I h2):star (stt V i q) I h:=by
 induction V generalizing h h2 i with
 | nil=>exact ⟨h1,h2,j,a,b⟩
 | cons p V ih =>
  cases i with
  | zero=>exact ⟨h1,h2,j,a,b⟩
  | succ i =>
   obtain ⟨g1,g2,j',c,d⟩:=b
   obtain ⟨k,k1,k2⟩:=Join.assoc' j' j
   obtain ⟨m,m1,m2⟩:=Join.assoc k1.symm k2
   exact ⟨g1,m,m2,c,ih i m1 d⟩
theorem star_mv {V:List HP}{I h:Hp}(i:Nat)(s:star V I h):star (mv V i) I h:=star_take i s
theorem star_app {A V:List HP}{I h:Hp}:star (A++V) I h↔∃ h1 h2,Join h1 h2 h∧star A I h1∧star V I h2:=by
 induction A generalizing h with
 | nil=>exact ⟨fun s=>⟨Hp.none,h,Join.none h,rfl,s⟩,fun ⟨h1,h2,j,a,b⟩=>by cases a; rw [j.eq_of_none]; exact b⟩
 | cons q A ih =>
  constructor
  ·rintro ⟨h1,h2,j,a,b⟩
   obtain ⟨g1,g2,j',c,d⟩:=ih.1 b
   obtain ⟨k,k1,k2⟩:=Join.assoc' j' j
   exact ⟨k,g2,k2,⟨h1,g1,k1,a,c⟩,d⟩
  ·rintro ⟨h1,h2,j,⟨g1,g2,j',a,b⟩,c⟩
   obtain ⟨k,k1,k2⟩:=Join.assoc j' j
   exact ⟨g1,k,k2,a,ih.2 ⟨g2,h2,k1,b,c⟩⟩
def Le (g:Hp)(w:World):Prop:=∀ b o,g b=some o→w.heap[b]?=some o
structure Same (C w:World):Prop where
 os:w.os=C.os
 tape:w.tape=C.tape
 output:w.output=C.output
def St (C w:World)(V:List HP):Prop:=Same C w∧∃ I h g,Join I h g∧Le g w∧star V I h
theorem Le.lt {g:Hp}{w:World}(l:Le g w){b:Nat}(h:g b≠Option.none):b<w.heap.size:=by
 cases e:g b with
 | none=>exact absurd e h
 | some o=>exact (Array.getElem?_eq_some_iff.1 (l b o e)).1
theorem Le.mono {g g':Hp}{w:World}(l:Le g w)(h:Hp.le g' g):Le g' w:=fun b o e=>l b o (h b o e)
theorem Le.alloc {g:Hp}{w:World}(l:Le g w)(o:Obj):Le g (w.alloc o):=fun b o' e=>by
 have hlt:=l.lt (b:=b) (by rw [e]; exact fun h=>by cases h)
 show (w.heap.push o)[b]?=some o'
 rw [Array.getElem?_push,if_neg (Nat.ne_of_lt hlt)]
 exact l b o' e
theorem Same.alloc {C w:World}(s:Same C w)(o:Obj):Same C (w.alloc o):=⟨s.os,s.tape,s.output⟩
theorem Same.setCell {C w:World}(s:Same C w)(a:Addr)(v:Value):Same C (w.setCell a v):=⟨s.os,s.tape,s.output⟩
theorem Same.drew {C w:World}(s:Same C w):Same C w.drew:=⟨s.os,s.tape,s.output⟩
theorem St.mv {C w:World}{V:List HP}(s:St C w V)(i:Nat):St C w (mv V i):=by
 obtain ⟨a,I,h,g,j,l,s⟩:=s
 exact ⟨a,I,h,g,j,l,star_mv i s⟩
theorem St.rm {C w:World}{V:List HP}(s:St C w V)(i:Nat):St C w (rm V i):=by
 obtain ⟨a,I,h,g,j,l,s⟩:=s
 obtain ⟨h1,h2,j',_,s'⟩:=star_take i s
 obtain ⟨k,k1,k2⟩:=Join.assoc' j' j
 obtain ⟨m,m1,m2⟩:=Join.assoc k1.symm k2
 exact ⟨a,I,h2,m,m1,l.mono m2.right,s'⟩
theorem St.drew {C w:World}{V:List HP}(s:St C w V):St C w.drew V:=by
 obtain ⟨a,I,h,g,j,l,s⟩:=s
 exact ⟨a.drew,I,h,g,j,l,s⟩
theorem St.look {C w:World}{V:List HP}(s:St C w V)(i:Nat):∃ I h,(lk V i).p I h∧Le I w∧Le h w∧(∀ b,I b=Option.none∨h b=Option.none):=by
 obtain ⟨a,I,h,g,j,l,s⟩:=s
 obtain ⟨h1,h2,j',c,s'⟩:=star_take i s
 exact ⟨I,h1,c,l.mono j.left,l.mono (Hp.le_trans j'.left j.right),fun b=>by
  rcases j.disj b with e | e
  ·exact .inl e
  ·exact .inr ((j'.is_none b).1 e).1⟩
theorem St.turn {C w w':World}{V:List HP}(s:St C w V)(i:Nat){q:HP}(hs:Same C w→Same C w')
  (f:∀ I h,(lk V i).p I h→Le I w→Le h w→∃ h',q.p I h'∧Le h' w'∧(∀ b,h' b≠Option.none→h b≠Option.none∨w.heap.size≤b)∧∀ b o,h b=Option.none→w.heap[b]?=some o→w'.heap[b]?=some o) :
  St C w' (stt V i q):=by
 obtain ⟨a,I,h,g,j,l,s⟩:=s
 obtain ⟨h1,h2,j',c,s'⟩:=star_take i s
 obtain ⟨h',hq,hl,hn,hk⟩:=f I h1 c (l.mono j.left) (l.mono (Hp.le_trans j'.left j.right))
 have old:∀ b,h' b≠Option.none→I b=Option.none∧h2 b=Option.none:=by
  intro b hb
  rcases hn b hb with e | e
  ·refine ⟨?_,?_⟩
   ·rcases j.disj b with f | f
    ·exact f
    ·exact absurd ((j'.is_none b).1 f).1 e
   ·rcases j'.disj b with f | f
    ·exact absurd f e
    ·exact f
  ·have:g b=Option.none:=by
    cases hg:g b with
    | none=>rfl
    | some o =>
     have:=(l.lt (b:=b) (by rw [hg]; exact fun h=>by cases h))
     omega
   have:=(j.is_none b).1 this
   exact ⟨this.1,((j'.is_none b).1 this.2).2⟩
 obtain ⟨m,hm⟩:=Join.of_disj (h1:=h') (h2:=h2) (fun b=>by
  by_cases e:h' b=Option.none
  ·exact .inl e
  ·exact .inr (old b e).2)
 obtain ⟨g',hg'⟩:=Join.of_disj (h1:=I) (h2:=m) (fun b=>by
  by_cases e:h' b=Option.none
  ·rcases j.disj b with f | f
   ·exact .inl f
   ·exact .inr ((hm.is_none b).2 ⟨e,((j'.is_none b).1 f).2⟩)
  ·exact .inl (old b e).1)
 refine ⟨hs a,I,m,g',hg',?_,star_put i hm hq s'⟩
 intro b o e
 rcases hg'.cases e with ⟨e1,e2⟩|⟨e1,e2⟩
 ·refine hk b o ?_ (l b o (j.left b o e1))
  rcases j.disj b with f | f
  ·rw [f] at e1; cases e1
  ·exact ((j'.is_none b).1 f).1
 ·rcases hm.cases e1 with ⟨e3,e4⟩|⟨e3,e4⟩
  ·exact hl b o e3
  ·refine hk b o ?_ (l b o (j.right b o (j'.right b o e3)))
   rcases j'.disj b with f | f
   ·exact f
   ·rw [f] at e3; cases e3
theorem St.new {C w w':World}{V:List HP}(s:St C w V){q:HP}(hs:Same C w→Same C w')
  (f:∀ I,Le I w→∃ h',q.p I h'∧Le h' w'∧(∀ b,h' b≠Option.none→w.heap.size≤b)) (hk:∀ (b:Nat) (o:Obj),w.heap[b]?=some o→w'.heap[b]?=some o) :
  St C w' (q::V):=by
 have s0:St C w (emp::V):=by
  obtain ⟨a,I,h,g,j,l,s⟩:=s
  exact ⟨a,I,h,g,j,l,Hp.none,h,Join.none h,rfl,s⟩
 refine St.turn s0 0 hs ?_
 rintro I h e lI _
 obtain ⟨h',a,b,c⟩:=f I lI
 exact ⟨h',a,b,fun k hk'=>.inr (c k hk'),fun b o _ e=>hk b o e⟩
theorem St.imp {C w:World}{A B V:List HP}(s:St C w (A++V))(f:∀ I h,Le I w→Le h w→star A I h→star B I h):St C w (B++V):=by
 obtain ⟨a,I,h,g,j,l,s⟩:=s
 obtain ⟨h1,h2,j',c,d⟩:=star_app.1 s
 exact ⟨a,I,h,g,j,l,star_app.2 ⟨h1,h2,j',f I h1 (l.mono j.left) (l.mono (Hp.le_trans j'.left j.right)) c,d⟩⟩
theorem St.share {C w:World}{p q:HP}{V:List HP}(s:St C w (p::V))(f:∀ I J h,Hp.le I J→Hp.le h J→p.p I h→q.p J Hp.none):St C w (q::V):=by
 obtain ⟨a,I,h,g,j,l,h1,h2,j',c,d⟩:=s
 obtain ⟨k,k1,k2⟩:=Join.assoc' j' j
 exact ⟨a,k,h2,g,k2,l,Hp.none,h2,Join.none h2,f I k h1 k1.left k1.right c,star_mono k1.left d⟩
end Go.Pg
namespace Go.Pg
def cellH (g:Hp)(b k:Nat):Option Value :=
 match g b with
 | some (.cells c _ _)=>c[k]?
 | _=>none
theorem cellH_mono {g g':Hp}(l:Hp.le g g'){b k:Nat}{v:Value}(h:cellH g b k=some v):cellH g' b k=some v:=by
 unfold cellH at *
 cases e:g b with
 | none=>rw [e] at h; cases h
 | some o=>rw [l b o e]; rw [e] at h; exact h
theorem cell_of_H {g:Hp}{w:World}(l:Le g w){b k:Nat}{v:Value}(h:cellH g b k=some v):w.cell? ⟨b,k,none⟩=some v:=by
 unfold cellH at h
 cases e:g b with
 | none=>rw [e] at h; cases h
 | some o =>
  have:=l b o e
  rw [e] at h
  cases o<;>simp at h
  simp [World.cell?,this,h]
structure Kind (α:Type) where
 sz:Nat
 rd:Hp→α→List Value→Prop
 own:Hp→Hp→α→List Value→Prop
 rd_mono:∀ {I J x cs},Hp.le I J→rd I x cs→rd J x cs
 own_mono:∀ {I J h x cs},Hp.le I J→own I h x cs→own J h x cs
 own_rd:∀ {I J h x cs},Hp.le I J→Hp.le h J→own I h x cs→rd J x cs
 rd_len:∀ {I x cs},rd I x cs→cs.length=sz
 own_len:∀ {I h x cs},own I h x cs→cs.length=sz
 rd_one:∀ {I x cs},rd I x cs→∀ u∈cs,u.oneCell'=true
 own_one:∀ {I h x cs},own I h x cs→∀ u∈cs,u.oneCell'=true
def Kind.Closed {α:Type}(K:Kind α):Prop:=∀ I J h x cs,K.own I h x cs→K.own J h x cs
def Kind.Flat {α:Type}(K:Kind α):Prop:=∀ I x cs,K.rd I x cs→K.own I Hp.none x cs
section
variable {α:Type}(K:Kind α)
def ownL (I:Hp):Hp→List α→List Value→Prop
 | h,[],cs=>h=Hp.none∧cs=[]
 | h,x::xs,cs=>∃ h1 h2 c1 c2,Join h1 h2 h∧cs=c1++c2∧K.own I h1 x c1∧ownL I h2 xs c2
theorem ownL_mono {K:Kind α}{I J:Hp}(l:Hp.le I J){h:Hp}{xs:List α}{cs:List Value}(o:ownL K I h xs cs):ownL K J h xs cs:=by
 induction xs generalizing h cs with
 | nil=>exact o
 | cons x xs ih =>
  obtain ⟨h1,h2,c1,c2,j,e,a,b⟩:=o
  exact ⟨h1,h2,c1,c2,j,e,K.own_mono l a,ih b⟩
theorem ownL_closed {K:Kind α}(hc:K.Closed){I J:Hp}{h:Hp}{xs:List α}{cs:List Value}(o:ownL K I h xs cs):ownL K J h xs cs:=by
 induction xs generalizing h cs with
 | nil=>exact o
 | cons x xs ih =>
  obtain ⟨h1,h2,c1,c2,j,e,a,b⟩:=o
  exact ⟨h1,h2,c1,c2,j,e,hc _ _ _ _ _ a,ih b⟩
theorem ownL_len {K:Kind α}{I h:Hp}{xs:List α}{cs:List Value}(o:ownL K I h xs cs):cs.length=xs.length*K.sz:=by
 induction xs generalizing h cs with
 | nil=>rw [o.2]; simp
 | cons x xs ih =>
  obtain ⟨h1,h2,c1,c2,j,e,a,b⟩:=o
  rw [e,List.length_append,K.own_len a,ih b,List.length_cons,Nat.succ_mul,Nat.add_comm]
theorem ownL_one {K:Kind α}{I h:Hp}{xs:List α}{cs:List Value}(o:ownL K I h xs cs):∀ u∈cs,u.oneCell'=true:=by
 induction xs generalizing h cs with
 | nil=>intro u hu; rw [o.2] at hu; cases hu
 | cons x xs ih =>
  obtain ⟨h1,h2,c1,c2,j,e,a,b⟩:=o
  intro u hu
  rw [e] at hu
  rcases List.mem_append.1 hu with hu | hu
  ·exact K.own_one a u hu
  ·exact ih b u hu
theorem ownL_app {K:Kind α}{I h h1 h2:Hp}{xs ys:List α}{c1 c2:List Value}(j:Join h1 h2 h)(a:ownL K I h1 xs c1)(b:ownL K I h2 ys c2):ownL K I h (xs++ys) (c1++c2):=by
 induction xs generalizing h h1 c1 with
 | nil =>
  obtain ⟨e1,e2⟩:=a
  subst e1; subst e2
  rw [j.eq_of_none]
  exact b
 | cons x xs ih =>
  obtain ⟨g1,g2,d1,d2,j',e,p,q⟩:=a
  obtain ⟨k,k1,k2⟩:=Join.assoc j' j
  exact ⟨g1,k,d1,d2++c2,k2,by rw [e,List.append_assoc],p,ih k1 q⟩
theorem ownL_split {K:Kind α}{I h:Hp}{xs ys:List α}{cs:List Value}(o:ownL K I h (xs++ys) cs):∃ h1 h2 c1 c2,Join h1 h2 h∧cs=c1++c2∧ownL K I h1 xs c1∧ownL K I h2 ys c2:=by
 induction xs generalizing h cs with
 | nil=>exact ⟨Hp.none,h,[],cs,Join.none h,rfl,⟨rfl,rfl⟩,o⟩
 | cons x xs ih =>
  obtain ⟨h1,h2,c1,c2,j,e,a,b⟩:=o
  obtain ⟨g1,g2,d1,d2,j',e',p,q⟩:=ih b
  obtain ⟨k,k1,k2⟩:=Join.assoc' j' j
  exact ⟨k,g2,c1++d1,d2,k2,by rw [e,e',List.append_assoc],⟨h1,g1,c1,d1,k1,rfl,a,p⟩,q⟩
theorem ownL_at {K:Kind α}{I h:Hp}{xs:List α}{cs:List Value}(o:ownL K I h xs cs){i:Nat}{x:α}(hx:xs[i]?=some x) :
  ∃ a c b h1 h2,cs=a++c++b∧a.length=i*K.sz∧Join h1 h2 h∧K.own I h1 x c ∧
   ∀ I' h' x' c' g',Hp.le I I'→Join h' h2 g'→K.own I' h' x' c'→ownL K I' g' (xs.set i x') (a++c'++b):=by
 have hi:i<xs.length:=(List.getElem?_eq_some_iff.1 hx).1
 have hsplit:xs=xs.take i++(x::xs.drop (i+1)):=by
  have:xs.drop i=x::xs.drop (i+1):=by
   rw [List.drop_eq_getElem_cons hi]
   congr 1
   rw [List.getElem?_eq_getElem hi] at hx
   exact Option.some.inj hx
  rw [← this,List.take_append_drop]
 rw [hsplit] at o
 obtain ⟨h1,h2,c1,c2,j,e,oa,g1,g2,d1,d2,j',e',p,q⟩:=ownL_split o
 obtain ⟨k,k1,k2⟩:=Join.assoc' j' j
 obtain ⟨m,m1,m2⟩:=Join.assoc k1.symm k2
 refine ⟨c1,d1,d2,g1,m,by rw [e,e',List.append_assoc],?_,m2,p,?_⟩
 ·rw [ownL_len oa,List.length_take,Nat.min_eq_left (Nat.le_of_lt hi)]
 ·intro I' h' x' c' g' l jj ox
  have hset:xs.set i x'=xs.take i++(x'::xs.drop (i+1)):=by
   rw [List.set_eq_take_append_cons_drop,if_pos hi]
  rw [hset,List.append_assoc]
  obtain ⟨n,n1,n2⟩:=Join.assoc' m1 jj
  obtain ⟨q1,q2,q3⟩:=Join.assoc n1.symm n2
  exact ownL_app q3 (ownL_mono l oa) ⟨h',g2,c',d2,q2,rfl,ox,ownL_mono l q⟩
theorem ownL_rd {K:Kind α}{I J h:Hp}{xs:List α}{cs:List Value}(o:ownL K I h xs cs)(lI:Hp.le I J)(lh:Hp.le h J){i:Nat}{x:α}(hx:xs[i]?=some x) :
  ∃ c,K.rd J x c∧∀ k u,c[k]?=some u→cs[i*K.sz+k]?=some u:=by
 obtain ⟨a,c,b,h1,h2,e,ha,j,p,_⟩:=ownL_at o hx
 refine ⟨c,K.own_rd lI (Hp.le_trans j.left lh) p,fun k u hu=>?_⟩
 have hk:=(List.getElem?_eq_some_iff.1 hu).1
 rw [e,List.append_assoc,List.getElem?_append_right (by omega),ha,Nat.add_sub_cancel_left,List.getElem?_append_left hk]
 exact hu
def rdS (I:Hp)(v:Value)(xs:List α):Prop :=
 ∃ A c,v=.slice A xs.length c∧xs.length≤c∧xs.length≤maxLen ∧
  (0<xs.length→∃ g off,A=some ⟨g,off,none⟩∧∀ j x,xs[j]?=some x→∃ cs,K.rd I x cs∧∀ i u,cs[i]?=some u→cellH I g (off+j*K.sz+i)=some u)
def owS (e:Nat)(I h:Hp)(v:Value)(xs:List α):Prop :=
 (∃ A,v=.slice A 0 0∧xs=[]∧h=Hp.none) ∨
 ∃ g c pre used spare fr h1,v=.slice (some ⟨g,pre.length,none⟩) xs.length c∧xs.length≤c∧c≤maxLen∧spare.length=(c - xs.length)*K.sz ∧
  (fr=(0,0)∨pre.length+used.length+spare.length≤fr.1)∧Join (Hp.one g (.cells (pre++used++spare).toArray e fr)) h1 h∧ownL K I h1 xs used
theorem rdS_mono {K:Kind α}{I J:Hp}(l:Hp.le I J){v:Value}{xs:List α}(h:rdS K I v xs):rdS K J v xs:=by
 obtain ⟨A,c,e,h1,h2,h3⟩:=h
 refine ⟨A,c,e,h1,h2,fun hp=>?_⟩
 obtain ⟨g,off,ea,hc⟩:=h3 hp
 refine ⟨g,off,ea,fun j x hx=>?_⟩
 obtain ⟨cs,a,b⟩:=hc j x hx
 exact ⟨cs,K.rd_mono l a,fun i u hu=>cellH_mono l (b i u hu)⟩
theorem owS_mono {K:Kind α}{e:Nat}{I J h:Hp}(l:Hp.le I J){v:Value}{xs:List α}(o:owS K e I h v xs):owS K e J h v xs:=by
 rcases o with o | ⟨g,c,pre,used,spare,fr,h1,a,b,d,s,f,j,o⟩
 ·exact .inl o
 ·exact   .inr ⟨g,c,pre,used,spare,fr,h1,a,b,d,s,f,j,ownL_mono l o⟩
theorem owS_closed {K:Kind α}(hc:K.Closed){e:Nat}{I J h:Hp}{v:Value}{xs:List α}(o:owS K e I h v xs):owS K e J h v xs:=by
 rcases o with o | ⟨g,c,pre,used,spare,fr,h1,a,b,d,s,f,j,o⟩
 ·exact .inl o
 ·exact   .inr ⟨g,c,pre,used,spare,fr,h1,a,b,d,s,f,j,ownL_closed hc o⟩
theorem owS_rdS {K:Kind α}{e:Nat}{I J h:Hp}{v:Value}{xs:List α}(lI:Hp.le I J)(lh:Hp.le h J)(o:owS K e I h v xs):rdS K J v xs:=by
 rcases o with ⟨A,rfl,rfl,rfl⟩|⟨g,c,pre,used,spare,fr,h1,a,b,d,s,f,j,o⟩
 ·exact ⟨A,0,rfl,Nat.le_refl _,Nat.zero_le _,fun h=>absurd h (Nat.lt_irrefl _)⟩
 ·refine ⟨_,c,a,b,Nat.le_trans b d,fun _=>⟨g,pre.length,rfl,fun k x hx=>?_⟩⟩
  obtain ⟨cs,p,q⟩:=ownL_rd o lI (Hp.le_trans j.right lh) hx
  refine ⟨cs,p,fun i u hu=>?_⟩
  have hb:J g=some (.cells (pre++used++spare).toArray e fr):=lh _ _ (j.left g _ (by simp [Hp.one]))
  unfold cellH
  rw [hb]
  show (pre++used++spare).toArray[pre.length+k*K.sz+i]?=some u
  have hq:=q i u hu
  have hlt:=(List.getElem?_eq_some_iff.1 hq).1
  rw [List.getElem?_toArray,List.append_assoc,List.getElem?_append_right (by omega),show pre.length+k*K.sz+i - pre.length=k*K.sz+i by omega,List.getElem?_append_left hlt]
  exact hq
end
def Kind.scal {α:Type}(enc:α→Value)(h1:∀ x,(enc x).oneCell'=true):Kind α where
 sz:=1
 rd _ x cs:=cs=[enc x]
 own _ h x cs:=h=Hp.none∧cs=[enc x]
 rd_mono _ h:=h
 own_mono _ h:=h
 own_rd _ _ h:=h.2
 rd_len h:=by rw [h]; rfl
 own_len h:=by rw [h.2]; rfl
 rd_one h u hu:=by rw [h] at hu; rw [List.mem_singleton.1 hu]; exact h1 _
 own_one h u hu:=by rw [h.2] at hu; rw [List.mem_singleton.1 hu]; exact h1 _
def vstr (s:Str):Value:=.string ⟨s.toArray⟩
def Kind.int (k:IntKind):Kind Int:=Kind.scal (Value.int k) (fun _=>rfl)
def Kind.bool:Kind Bool:=Kind.scal Value.bool (fun _=>rfl)
def Kind.str:Kind Str:=Kind.scal vstr (fun _=>rfl)
def Kind.sl {α:Type}(e:Nat)(K:Kind α):Kind (List α) where
 sz:=1
 rd I xs cs:=∃ v,cs=[v]∧rdS K I v xs
 own I h xs cs:=∃ v,cs=[v]∧owS K e I h v xs
 rd_mono l h:=by obtain ⟨v,e,a⟩:=h; exact ⟨v,e,rdS_mono l a⟩
 own_mono l h:=by obtain ⟨v,e,a⟩:=h; exact ⟨v,e,owS_mono l a⟩
 own_rd l m h:=by obtain ⟨v,e,a⟩:=h; exact ⟨v,e,owS_rdS l m a⟩
 rd_len h:=by obtain ⟨v,e,a⟩:=h; rw [e]; rfl
 own_len h:=by obtain ⟨v,e,a⟩:=h; rw [e]; rfl
 rd_one h u hu:=by
  obtain ⟨v,e,A,c,rfl,_⟩:=h
  rw [e] at hu; rw [List.mem_singleton.1 hu]; rfl
 own_one h u hu:=by
  obtain ⟨v,e,a⟩:=h
  rw [e] at hu; rw [List.mem_singleton.1 hu]
  rcases a with ⟨A,rfl,_⟩|⟨g,c,pre,used,spare,fr,h1,rfl,_⟩<;>rfl
def Kind.pair {α β:Type}(A:Kind α)(B:Kind β):Kind (α×β) where
 sz:=A.sz+B.sz
 rd I x cs:=∃ c1 c2,cs=c1++c2∧A.rd I x.1 c1∧B.rd I x.2 c2
 own I h x cs:=∃ h1 h2 c1 c2,Join h1 h2 h∧cs=c1++c2∧A.own I h1 x.1 c1∧B.own I h2 x.2 c2
 rd_mono l h:=by obtain ⟨c1,c2,e,a,b⟩:=h; exact ⟨c1,c2,e,A.rd_mono l a,B.rd_mono l b⟩
 own_mono l h:=by obtain ⟨h1,h2,c1,c2,j,e,a,b⟩:=h; exact ⟨h1,h2,c1,c2,j,e,A.own_mono l a,B.own_mono l b⟩
 own_rd l m h:=by
  obtain ⟨h1,h2,c1,c2,j,e,a,b⟩:=h
  exact ⟨c1,c2,e,A.own_rd l (Hp.le_trans j.left m) a,B.own_rd l (Hp.le_trans j.right m) b⟩
 rd_len h:=by obtain ⟨c1,c2,e,a,b⟩:=h; rw [e,List.length_append,A.rd_len a,B.rd_len b]
 own_len h:=by obtain ⟨h1,h2,c1,c2,j,e,a,b⟩:=h; rw [e,List.length_append,A.own_len a,B.own_len b]
 rd_one h u hu:=by
  obtain ⟨c1,c2,e,a,b⟩:=h
  rw [e] at hu
  rcases List.mem_append.1 hu with hu | hu
  ·exact A.rd_one a u hu
  ·exact B.rd_one b u hu
 own_one h u hu:=by
  obtain ⟨h1,h2,c1,c2,j,e,a,b⟩:=h
  rw [e] at hu
  rcases List.mem_append.1 hu with hu | hu
  ·exact A.own_one a u hu
  ·exact B.own_one b u hu
def Kind.iso {α β:Type}(K:Kind α)(f:β→α):Kind β where
 sz:=K.sz
 rd I x cs:=K.rd I (f x) cs
 own I h x cs:=K.own I h (f x) cs
 rd_mono:=K.rd_mono
 own_mono:=K.own_mono
 own_rd:=K.own_rd
 rd_len:=K.rd_len
 own_len:=K.own_len
 rd_one:=K.rd_one
 own_one:=K.own_one
def Kind.share {α:Type}(K:Kind α):Kind α where
 sz:=K.sz
 rd:=K.rd
 own I h x cs:=h=Hp.none∧K.rd I x cs
 rd_mono:=K.rd_mono
 own_mono l h:=⟨h.1,K.rd_mono l h.2⟩
 own_rd l _ h:=K.rd_mono l h.2
 rd_len:=K.rd_len
 own_len h:=K.rd_len h.2
 rd_one:=K.rd_one
 own_one h:=K.rd_one h.2
theorem Kind.scal_closed {α:Type}(enc:α→Value)(h1:∀ x,(enc x).oneCell'=true):(Kind.scal enc h1).Closed:=fun _ _ _ _ _ h=>h
theorem Kind.pair_closed {α β:Type}{A:Kind α}{B:Kind β}(a:A.Closed)(b:B.Closed):(Kind.pair A B).Closed :=
 fun _ _ _ _ _ ⟨h1,h2,c1,c2,j,e,p,q⟩=>⟨h1,h2,c1,c2,j,e,a _ _ _ _ _ p,b _ _ _ _ _ q⟩
theorem Kind.iso_closed {α β:Type}{K:Kind α}(h:K.Closed)(f:β→α):(Kind.iso K f).Closed:=fun _ _ _ _ _ o=>h _ _ _ _ _ o
theorem Kind.scal_flat {α:Type}(enc:α→Value)(h1:∀ x,(enc x).oneCell'=true):(Kind.scal enc h1).Flat:=fun _ _ _ h=>⟨rfl,h⟩
def bx (b:Nat)(cs:Array Value)(T:Nat):HP:=⟨fun _ h=>h=Hp.one b (.cells cs T (0,0)),fun _ e=>e⟩
def ow {α:Type}(K:Kind α)(e:Nat)(v:Value)(xs:List α):HP:=⟨fun I h=>owS K e I h v xs,fun l o=>owS_mono l o⟩
def rds {α:Type}(K:Kind α)(v:Value)(xs:List α):HP:=⟨fun I h=>h=Hp.none∧rdS K I v xs,fun l o=>⟨o.1,rdS_mono l o.2⟩⟩
end Go.Pg
namespace Go.Pg
structure Cx where
 P:Program
 n:Nn
 C:World
def TC (X:Cx)(V:List HP)(σ:Env)(c:Code)(Q:Exit→Env→World→Prop):Prop:=∀ w,St X.C w V→W X.P X.n c Q σ w
def TL (X:Cx)(ops:Array Oper)(V:List HP)(σ:Env)(rest:List Oper)(Q:Exit→Env→World→Prop):Prop:=∀ w,St X.C w V→WL X.P X.n ops rest Q σ w
def TQ (X:Cx)(V:List HP)(σ:Env)(e:Exit)(Q:Exit→Env→World→Prop):Prop:=∀ w,St X.C w V→Q e σ w
def Nx (X:Cx)(c:Code)(Q:Exit→Env→World→Prop):Env→World→Prop:=fun σ w=>W X.P X.n c Q σ w
section
variable {X:Cx}{V:List HP}{σ:Env}{Q:Exit→Env→World→Prop}{x y:Code}{ops:Array Oper}{rest:List Oper}{o:Oper}
theorem c_seq (h:TC X V σ x (Then (Nx X y Q) Q)):TC X V σ (.seq x y) Q:=fun w s=>W_seq (h w s)
theorem c_skip (h:TQ X V σ .normal Q):TC X V σ .skip Q:=fun w s=>W_skip (h w s)
theorem c_ret (h:TQ X V σ .ret Q):TC X V σ .ret Q:=fun w s=>W_ret (h w s)
theorem c_exit {id:Nat}(h:TQ X V σ (.exit id) Q):TC X V σ (.exit id) Q:=fun w s=>W_exit (h w s)
theorem c_block {id:Nat}(h:TC X V σ x (InBlock id Q)):TC X V σ (.block id x) Q:=fun w s=>W_block (h w s)
theorem c_region {id:Nat}{l:List Oper}(h:TL X l.toArray V σ l Q):TC X V σ (.region id l.toArray false) Q:=fun w s=>W_region (h w s)
theorem c_true {k:Operand}{b:Bool}(hk:ev σ k=.bool b)(hb:b=true)(h:TC X V σ x Q):TC X V σ (.cond k x y) Q:=fun w s=>W_cond hk (by rw [hb]; exact h w s)
theorem c_false {k:Operand}{b:Bool}(hk:ev σ k=.bool b)(hb:b=false)(h:TC X V σ y Q):TC X V σ (.cond k x y) Q:=fun w s=>W_cond hk (by rw [hb]; exact h w s)
theorem l_nil (h:TQ X V σ .normal Q):TL X ops V σ [] Q:=fun w s=>WL_nil (h w s)
theorem q_next (h:TC X V σ y Q):TQ X V σ .normal (Then (Nx X y Q) Q):=fun w s=>h w s
theorem q_exit {id:Nat}{K:Env→World→Prop}(h:TQ X V σ (.exit id) Q):TQ X V σ (.exit id) (Then K Q):=fun w s=>h w s
theorem q_ret {K:Env→World→Prop}(h:TQ X V σ .ret Q):TQ X V σ .ret (Then K Q):=fun w s=>h w s
theorem q_block {id:Nat}(h:TQ X V σ .normal Q):TQ X V σ (.exit id) (InBlock id Q):=fun w s=>by
 show cond (Nat.beq id id) _ _
 rw [show Nat.beq id id=true from Nat.beq_refl id]
 exact h w s
theorem q_blockn {id:Nat}(h:TQ X V σ .normal Q):TQ X V σ .normal (InBlock id Q):=fun w s=>h w s
theorem q_blockr {id:Nat}(h:TQ X V σ .ret Q):TQ X V σ .ret (InBlock id Q):=fun w s=>h w s
theorem q_pass {id id':Nat}(hne:Nat.beq id' id=false)(h:TQ X V σ (.exit id') Q):TQ X V σ (.exit id') (InBlock id Q):=fun w s=>by
 show cond (Nat.beq id' id) _ _
 rw [hne]
 exact h w s
theorem want_on {ops:Array Oper}{σ:Env}{o:Oper}{j:Nat}{b c:Bool}(h:o.guard=some (j,b))(hg:gval ops σ j=some c)(e:c=b):want ops σ o=true:=by
 unfold want; rw [h]; simp only [hg,e]; cases b<;>rfl
theorem want_off {ops:Array Oper}{σ:Env}{o:Oper}{j:Nat}{b c:Bool}(h:o.guard=some (j,b))(hg:gval ops σ j=some c)(e:c=!b):want ops σ o=false:=by
 unfold want; rw [h]; simp only [hg,e]; cases b<;>rfl
theorem l_off (hd:dok X.n o.dst=true)(hw:want ops σ o=false)(h:TL X ops V (updo σ o.dst undef) rest Q):TL X ops V σ (o::rest) Q:=fun w s=>WL_off hd hw (h w s)
def ibin (k:IntKind):BinOp→Int→Int→Option Value
 | .add,a,b=>some (.int k (k.wrap (a+b)))
 | .sub,a,b=>some (.int k (k.wrap (a - b)))
 | .mul,a,b=>some (.int k (k.wrap (a*b)))
 | .and,a,b=>some (.int k (bits .and k a b))
 | .or,a,b=>some (.int k (bits .or k a b))
 | .xor,a,b=>some (.int k (bits .xor k a b))
 | .andNot,a,b=>some (.int k (bits .andNot k a b))
 | .eql,a,b=>some (.bool (a==b))
 | .neq,a,b=>some (.bool (a != b))
 | .lss,a,b=>some (.bool (decide (a<b)))
 | .leq,a,b=>some (.bool (decide (a≤b)))
 | .gtr,a,b=>some (.bool (decide (a>b)))
 | .geq,a,b=>some (.bool (decide (a≥b)))
 | _,_,_=>none
def pv (σ:Env):Op→Option Value
 | .move x | .assign x=>some (ev σ x)
 | .pick c a b=>match ev σ c with
  | .bool t=>some (cond t (ev σ a) (ev σ b))
  | _=>none
 | .unOp .not _ x=>match ev σ x with
  | .bool b=>some (.bool !b)
  | _=>none
 | .unOp .neg _ x=>match ev σ x with
  | .int k a=>some (.int k (k.wrap (0 - a)))
  | _=>none
 | .unOp .xor _ x=>match ev σ x with
  | .int k a=>some (.int k (bits .xor k (if k.signed then -1 else k.max) a))
  | _=>none
 | .binOp op _ x y _=>match ev σ x,ev σ y with
  | .int .i64 a,.int .i64 b=>ibin .i64 op a b
  | .int .u8 a,.int .u8 b=>ibin .u8 op a b
  | .int .i32 a,.int .i32 b=>ibin .i32 op a b
  | .int .u64 a,.int .u64 b=>ibin .u64 op a b
  | .int .u32 a,.int .u32 b=>ibin .u32 op a b
  | _,_=>none
 | .extract x i=>match ev σ x with
  | .tuple vs=>vs[i]?
  | _=>none
 | .makeFunc fn first captured=>some (.func fn (first.toList.map (ev σ)).toArray (captured.toList.map (ev σ)).toArray)
 | .nilCheck x=>match ev σ x with
  | .pointer (some a)=>some (.pointer (some a))
  | .func (.func f) a c=>some (.func (.func f) a c)
  | _=>none
 | _=>none
theorem ibin_run {P:Program}{w:World}{k:IntKind}{op:BinOp}{a b:Int}{v:Value}(t:TypeId)(x y:Operand)(h:ibin k op a b=some v) :
  (do eqGuard op t x y (.int k a) (.int k b); binOp op t (.int k a) (.int k b):Sem Value).run P w=.ok v w:=by
 cases op<;>simp only [ibin,Option.some.injEq,reduceCtorEq] at h<;>subst h <;>
  simp [eqGuard_at_int,binOp,Op.intArith,intBits_and,intBits_or,intBits_xor,intBits_andNot,Op.intCmp]
theorem pv_run {P:Program}{w:World}{v:Value}(h:pv σ o.op=some v):(execOp (ev σ) o).run P w=.ok (.value v) w:=by
 unfold execOp
 revert h
 generalize o.op=op
 intro h
 cases op<;>simp only [pv,reduceCtorEq] at h
 case move x=>simp only [Option.some.injEq] at h; subst h; rfl
 case assign x=>simp only [Option.some.injEq] at h; subst h; rfl
 case pick c a b =>
  cases hc:ev σ c<;>simp only [hc,reduceCtorEq,Option.some.injEq] at h
  subst h
  simp only [hc,asBool,Sem.run_bind,Sem.run_pure,Result.andThen_ok]
  rename_i t
  cases t<;>rfl
 case unOp u t x =>
  cases u<;>simp only [reduceCtorEq] at h<;>cases hx:ev σ x<;>simp only [hx,reduceCtorEq,Option.some.injEq] at h<;>subst h <;>
   simp [hx,Op.unary,Op.intArith,intBits_xor]
 case binOp op t x y ty =>
  have key:∀ (k:IntKind) (a b:Int),ev σ x=.int k a→ev σ y=.int k b→ibin k op a b=some v →
    (do let r ← (do eqGuard op t x y (ev σ x) (ev σ y); binOp op t (ev σ x) (ev σ y):Sem Value); pure (Next.value r):Sem Next).run P w=.ok (.value v) w:=by
   intro k a b hx hy hi
   rw [hx,hy]
   simp only [Sem.run_bind] at *
   have:=ibin_run (P:=P) (w:=w) t x y hi
   simp only [Sem.run_bind] at this
   rw [this]
   rfl
  split at h
  ·exact key _ _ _ ‹_› ‹_› h
  ·exact key _ _ _ ‹_› ‹_› h
  ·exact key _ _ _ ‹_› ‹_› h
  ·exact key _ _ _ ‹_› ‹_› h
  ·exact key _ _ _ ‹_› ‹_› h
  ·cases h
 case extract x i =>
  cases hx:ev σ x<;>simp only [hx,reduceCtorEq] at h
  simp [hx,Instr.extract,h]
 case makeFunc fn first captured =>
  simp only [Option.some.injEq] at h; subst h
  simp [Instr.makeFunc]
  exact ⟨by apply Array.ext'; simp,by apply Array.ext'; simp⟩
 case nilCheck x =>
  split at h
  ·rename_i a e
   simp only [Option.some.injEq] at h
   subst h
   simp [e]
  ·rename_i f a c e
   simp only [Option.some.injEq] at h
   subst h
   simp [e]
  ·cases h
def VO (X:Cx)(V:List HP)(σ:Env)(o:Oper)(v:Value):Prop:=∀ w,St X.C w V→(execOp (ev σ) o).run X.P w=.ok (.value v) w
theorem l_vo {v:Value}(hd:dok X.n o.dst=true)(hw:want ops σ o=true)(hv:VO X V σ o v)(h:TL X ops V (updo σ o.dst v) rest Q):TL X ops V σ (o::rest) Q :=
 fun w s=>WL_step hd hw (by rw [hv w s]; exact h w s)
theorem v_pv {v:Value}(hv:pv σ o.op=some v):VO X V σ o v:=fun _ _=>pv_run hv
end
end Go.Pg
namespace Go.Pg
def nth {α:Type}:List α→Nat→Option α
 | [],_=>none
 | x::_,0=>some x
 | _::l,k+1=>nth l k
theorem nth_eq {α:Type}(l:List α)(k:Nat):nth l k=l[k]?:=by
 induction l generalizing k with
 | nil=>rfl
 | cons x l ih =>
  cases k with
  | zero=>rfl
  | succ k=>simpa [nth] using ih k
theorem ix_get {α:Type}[Inhabited α]{xs:List α}{i:Int}(h0:0≤i)(h1:i<xs.length):xs[i.toNat]?=some (ix xs i):=by
 unfold ix
 have:i.toNat<xs.length:=by omega
 rw [List.getD_eq_getElem?_getD,List.getElem?_eq_getElem this]
 rfl
def bxl (b:Nat)(cs:List Value)(T:Nat):HP:=bx b cs.toArray T
def aggB (P:Program)(T:TypeId):Option Bool:=(P.underlying T).map fun d=>match d with | .struct _ | .array _ _=>true | _=>false
def szB (P:Program)(T:TypeId):Option Nat:=(P.info? T).map (·.size)
def bytesB (P:Program)(T:TypeId):Option Nat:=(P.info? T).map (·.bytes)
def zcB (P:Program)(T:TypeId):Option (List Value):=((P.info? T).bind (·.zero)).map (·.cells.toList)
def slB (P:Program)(T:TypeId):Option TypeId:=match P.underlying T with
 | some (.slice e)=>some e
 | _=>none
def fieldB (P:Program)(S:TypeId)(f:Nat):Option Nat:=match P.underlying S with
 | some (.struct fs)=>match fs[f]? with
  | some fl=>match P.info? fl.type with
   | some i=>if i.size=0 then none else some fl.offset
   | none=>none
  | none=>none
 | _=>none
section
variable {P:Program}{w:World}
theorem run_isAgg {T:TypeId}{b:Bool}(h:aggB P T=some b):(isAgg T).run P w=.ok b w:=by
 unfold aggB at h
 cases hd:P.underlying T with
 | none=>rw [hd] at h; cases h
 | some d =>
  rw [hd] at h
  simp only [Option.map_some,Option.some.injEq] at h
  subst h
  unfold isAgg
  rw [Sem.run_bind,run_underlying hd w]
  cases d<;>rfl
theorem run_sizeOf {T:TypeId}{n:Nat}(h:szB P T=some n):(sizeOf T).run P w=.ok n w:=by
 unfold szB at h
 cases hd:P.info? T with
 | none=>rw [hd] at h; cases h
 | some d =>
  rw [hd] at h
  simp only [Option.map_some,Option.some.injEq] at h
  subst h
  simp [sizeOf,typeInfo,hd]
theorem run_zero {T:TypeId}{cs:List Value}(h:zcB P T=some cs):∃ z,(zeroValue T).run P w=.ok z w∧z.cells=cs.toArray:=by
 unfold zcB at h
 cases hd:P.info? T with
 | none=>rw [hd] at h; cases h
 | some d =>
  rw [hd] at h
  cases hz:d.zero with
  | none=>simp [hz] at h
  | some z =>
   refine ⟨z,by simp [zeroValue,typeInfo,hd,hz],?_⟩
   simp [hz] at h
   rw [← h]
theorem slB_eq {T e:TypeId}(h:slB P T=some e):P.underlying T=some (.slice e):=by
 unfold slB at h
 split at h
 ·rename_i e' he
  simp only [Option.some.injEq] at h
  rw [he,h]
 ·cases h
theorem run_loadVar_one {T:TypeId}{a:Addr}{v:Value}(h:aggB P T=some false)(hc:w.cell? a=some v):(loadVar T a).run P w=.ok v w:=by
 unfold loadVar
 rw [Sem.run_bind,run_isAgg h]
 simp [hc]
theorem run_loadVar_agg {T:TypeId}{a:Addr}{cs:List Value}(h:aggB P T=some true)(hs:szB P T=some cs.length)(hc:∀ j u,cs[j]?=some u→w.cell? (a.add j)=some u) :
  (loadVar T a).run P w=.ok (.agg cs.toArray) w:=by
 unfold loadVar
 rw [Sem.run_bind,run_isAgg h]
 simp [Sem.run_bind,run_sizeOf hs,run_loadCells_list (P:=P) w a cs hc]
theorem add_eq (g k j:Nat):(⟨g,k,none⟩:Addr).add j=⟨g,k+j,none⟩:=by
 unfold Addr.add
 split
 ·rename_i h; subst h; rfl
 ·rfl
end
section
variable {X:Cx}{V:List HP}{σ:Env}{Q:Exit→Env→World→Prop}{ops:Array Oper}{rest:List Oper}
variable {d:Option Nat}{ty:TypeId}{pos:String}{af:Array Edge}{gd:Option (Nat×Bool)}
theorem l_alloc {T:TypeId}{cs:List Value}(hd:dok X.n d=true)(hw:want ops σ ⟨d,.alloc T,ty,pos,af,gd⟩=true)(hz:zcB X.P T=some cs)
  (h:∀ b,TL X ops (bxl b cs T::V) (updo σ d (.pointer (some ⟨b,0,none⟩))) rest Q):TL X ops V σ (⟨d,.alloc T,ty,pos,af,gd⟩::rest) Q:=by
 intro w s
 refine WL_step hd hw ?_
 obtain ⟨z,hz1,hz2⟩:=run_zero (P:=X.P) (w:=w) hz
 have hr:(execOp (ev σ) ⟨d,.alloc T,ty,pos,af,gd⟩).run X.P w=.ok (.value (.pointer (some ⟨w.heap.size,0,none⟩))) (w.alloc (.cells cs.toArray T)):=by
  simp [execOp,Instr.alloc,hz1,newVar,newRow,hz2]
 rw [hr]
 refine h _ _ (St.new s (fun a=>a.alloc _) (fun I _=>⟨_,rfl,?_,?_⟩) ?_)
 ·intro b o e
  simp only [Hp.one] at e
  split at e
  ·rename_i hb
   subst hb
   rw [← Option.some.inj e]
   show (w.heap.push _)[w.heap.size]?=_
   simp
  ·cases e
 ·intro b hb
  simp only [Hp.one] at hb
  split at hb
  ·rename_i e; exact Nat.le_of_eq e.symm
  ·exact absurd rfl hb
 ·intro b o e
  have hlt:=(Array.getElem?_eq_some_iff.1 e).1
  show (w.heap.push _)[b]?=_
  rw [Array.getElem?_push,if_neg (Nat.ne_of_lt hlt)]
  exact e
theorem l_box {T:TypeId}{x:Operand}{cs:List Value}(hd:dok X.n d=true)(hw:want ops σ ⟨d,.box T x,ty,pos,af,gd⟩=true)(hx:(ev σ x).cells.toList=cs)
  (h:∀ b,TL X ops (bxl b cs T::V) (updo σ d (.pointer (some ⟨b,0,none⟩))) rest Q):TL X ops V σ (⟨d,.box T x,ty,pos,af,gd⟩::rest) Q:=by
 intro w s
 refine WL_step hd hw ?_
 have hr:(execOp (ev σ) ⟨d,.box T x,ty,pos,af,gd⟩).run X.P w=.ok (.value (.pointer (some ⟨w.heap.size,0,none⟩))) (w.alloc (.cells cs.toArray T)):=by
  subst hx
  simp [execOp,Instr.box,newVar,newRow]
 rw [hr]
 refine h _ _ (St.new s (fun a=>a.alloc _) (fun I _=>⟨_,rfl,?_,?_⟩) ?_)
 ·intro b o e
  simp only [Hp.one] at e
  split at e
  ·rename_i hb
   subst hb
   rw [← Option.some.inj e]
   show (w.heap.push _)[w.heap.size]?=_
   simp
  ·cases e
 ·intro b hb
  simp only [Hp.one] at hb
  split at hb
  ·rename_i e; exact Nat.le_of_eq e.symm
  ·exact absurd rfl hb
 ·intro b o e
  have hlt:=(Array.getElem?_eq_some_iff.1 e).1
  show (w.heap.push _)[b]?=_
  rw [Array.getElem?_push,if_neg (Nat.ne_of_lt hlt)]
  exact e
theorem look_bx {C w:World}{V:List HP}(s:St C w V)(i:Nat){b:Nat}{cs:List Value}{T:Nat}(hV:lk V i=bxl b cs T):w.heap[b]?=some (.cells cs.toArray T (0,0)):=by
 obtain ⟨I,h,p,_,l,_⟩:=s.look i
 rw [hV] at p
 exact l b _ (by rw [show h=_ from p]; simp [Hp.one])
theorem cell_bx {w:World}{b:Nat}{cs:List Value}{T:Nat}(h:w.heap[b]?=some (.cells cs.toArray T (0,0)))(k:Nat):w.cell? ⟨b,k,none⟩=cs[k]?:=by
 simp [World.cell?,h]
theorem v_load {T:TypeId}{x:Operand}{b k:Nat}{cs:List Value}{T0:Nat}{v:Value}(i:Nat)(ha:aggB X.P T=some false)
  (hV:lk V i=bxl b cs T0) (hx:ev σ x=.pointer (some ⟨b,k,none⟩)) (hc:nth cs k=some v):VO X V σ ⟨d,.load T x,ty,pos,af,gd⟩ v:=by
 intro w s
 have hb:=look_bx s i hV
 simp only [execOp,Instr.loadAt,hx,Instr.sureAddr,Sem.run_bind,Sem.run_pure,Result.andThen_ok,run_loadVar_one ha (show w.cell? ⟨b,k,none⟩=some v by rw [cell_bx hb,← nth_eq]; exact hc)]
theorem v_loads {T:TypeId}{x:Operand}{b k n:Nat}{cs:List Value}{T0:Nat}(i:Nat)(ha:aggB X.P T=some true)(hs:szB X.P T=some n)
  (hV:lk V i=bxl b cs T0) (hx:ev σ x=.pointer (some ⟨b,k,none⟩)) (hn:((cs.drop k).take n).length=n):VO X V σ ⟨d,.load T x,ty,pos,af,gd⟩ (.agg ((cs.drop k).take n).toArray):=by
 intro w s
 have hb:=look_bx s i hV
 ·have:=run_loadVar_agg (P:=X.P) (w:=w) (a:=⟨b,k,none⟩) (cs:=(cs.drop k).take n) ha (by rw [hn]; exact hs) (by
   intro j u hu
   rw [add_eq,cell_bx hb]
   rw [List.getElem?_take] at hu
   split at hu
   ·rw [List.getElem?_drop] at hu; exact hu
   ·cases hu)
  simp only [execOp,Instr.loadAt,hx,Instr.sureAddr,Sem.run_bind,Sem.run_pure,Result.andThen_ok,this]
theorem v_faddr {S:TypeId}{x:Operand}{f fo:Nat}{a:Addr}(hf:fieldB X.P S f=some fo)
  (hx:ev σ x=.pointer (some a)):VO X V σ ⟨d,.fieldAddr S x f,ty,pos,af,gd⟩ (.pointer (some (a.add fo))):=by
 intro w _
 unfold fieldB at hf
 split at hf
 ·rename_i fs hs
  split at hf
  ·rename_i fl hfl
   split at hf
   ·rename_i i hi
    split at hf
    ·cases hf
    ·rename_i hne
     simp only [Option.some.injEq] at hf
     subst hf
     have hsz:(sizeOf fl.type).run X.P w=.ok i.size w:=run_sizeOf (by simp [szB,hi])
     simp [execOp,Instr.fieldAt,run_underlying hs w,hfl,hx,Instr.sureAddr,fieldPlace,Sem.run_bind,hsz,hne]
   ·cases hf
  ·cases hf
 ·cases hf
theorem store_bx {w:World}{P:Program}{b k:Nat}{cs:List Value}{T:Nat}{v:Value}(hb:w.heap[b]?=some (.cells cs.toArray T (0,0)))(hk:k<cs.length)(hv:v.oneCell'=true) :
  (store ⟨b,k,none⟩ v).run P w=.ok () (w.setCell ⟨b,k,none⟩ v):=by
 rw [run_store P w _ v _ hv]
 have:w.cell? ⟨b,k,none⟩=some cs[k]:=by rw [cell_bx hb,List.getElem?_eq_getElem hk]
 simp [this,World.frozen?,hb]
theorem heap_set_same {w:World}{b k:Nat}{c:Array Value}{T:Nat}{fr:Nat×Nat}{v:Value}(hb:w.heap[b]?=some (.cells c T fr)):(w.setCell ⟨b,k,none⟩ v).heap[b]?=some (.cells (c.setIfInBounds k v) T fr):=by
 simp only [World.setCell,Array.getElem?_modify,hb]
 simp
theorem heap_set_other {w:World}{b k j:Nat}{v:Value}(h:j≠b):(w.setCell ⟨b,k,none⟩ v).heap[j]?=w.heap[j]?:=by
 simp only [World.setCell,Array.getElem?_modify]
 rw [if_neg (fun e=>h e.symm)]
theorem run_storeVar_one {P:Program}{w:World}{T:TypeId}{a:Addr}{v:Value}{w':World}(hs:szB P T=some 1)(hv:v.oneCell'=true)(hr:(store a v).run P w=.ok () w'):(storeVar T a v).run P w=.ok () w':=by
 have hc:v.cells=#[v]:=by cases v<;>first | rfl | (simp [Value.oneCell'] at hv)
 unfold storeVar
 rw [Sem.run_bind,run_sizeOf hs]
 have ha:a.add 0=a:=by simp [Addr.add]
 simp [hc,storeCells,Sem.run_bind,ha,hr]
theorem l_store {T:TypeId}{x y:Operand}{b k:Nat}{cs:List Value}{T0:Nat}{v:Value}(i:Nat)(hd:dok X.n d=true)(hw:want ops σ ⟨d,.store T x y,ty,pos,af,gd⟩=true)(hs:szB X.P T=some 1)
  (hV:lk V i=bxl b cs T0) (hx:ev σ x=.pointer (some ⟨b,k,none⟩)) (hy:ev σ y=v) (hv:v.oneCell'=true) (hk:Nat.blt k cs.length=true)
  (h:TL X ops (stt V i (bxl b (cs.set k v) T0)) (updo σ d undef) rest Q):TL X ops V σ (⟨d,.store T x y,ty,pos,af,gd⟩::rest) Q:=by
 intro w s
 refine WL_step hd hw ?_
 have hb:=look_bx s i hV
 have hk':k<cs.length:=Nat.lt_of_lt_of_le (Nat.lt_succ_self _) (Nat.le_of_ble_eq_true hk)
 have hr:(execOp (ev σ) ⟨d,.store T x y,ty,pos,af,gd⟩).run X.P w=.ok .skip (w.setCell ⟨b,k,none⟩ v):=by
  simp only [execOp,Instr.storeAt,hx,hy,Instr.sureAddr,Sem.run_bind,Sem.run_pure,Result.andThen_ok,run_storeVar_one hs hv (store_bx hb hk' hv)]
 rw [hr]
 refine h _ (St.turn s i (fun a=>a.setCell _ _) ?_)
 intro I g p _ _
 rw [hV] at p
 have p:g=Hp.one b (.cells cs.toArray T0 (0,0)):=p
 subst p
 refine ⟨_,rfl,?_,?_,?_⟩
 ·intro j o e
  simp only [Hp.one] at e
  split at e
  ·rename_i hj
   subst hj
   rw [← Option.some.inj e,heap_set_same hb]
   simp
  ·cases e
 ·intro j hj
  refine .inl ?_
  simp only [Hp.one] at *
  split at hj
  ·rename_i e; rw [if_pos e]; exact fun h=>by cases h
  ·exact absurd rfl hj
 ·intro j o hj e
  simp only [Hp.one] at hj
  split at hj
  ·cases hj
  ·rename_i hne; rw [heap_set_other hne]; exact e
theorem storeCells_bx {P:Program}{b:Nat}{T:Nat}:∀ (vs:List Value) (k j:Nat) (cs:List Value) (w:World),w.heap[b]?=some (.cells cs.toArray T (0,0))→k+j+vs.length≤cs.length→(∀ v∈vs,v.oneCell'=true) →
  ∃ w',(storeCells ⟨b,k,none⟩ vs j).run P w=.ok () w'∧w'.heap[b]?=some (.cells (cs.take (k+j)++vs++cs.drop (k+j+vs.length)).toArray T (0,0))∧(∀ i,i≠b→w'.heap[i]?=w.heap[i]?)∧∀ C,Same C w→Same C w':=by
 intro vs
 induction vs with
 | nil =>
  intro k j cs w hb _ _
  exact ⟨w,by simp [storeCells],by simpa using hb,fun _ _=>rfl,fun _ h=>h⟩
 | cons v vs ih =>
  intro k j cs w hb hl hv
  have hl':k+j<cs.length:=by simp at hl; omega
  have h1:=store_bx (P:=P) hb hl' (hv v (by simp))
  have hb':(w.setCell ⟨b,k+j,none⟩ v).heap[b]?=some (.cells (cs.set (k+j) v).toArray T (0,0)):=by rw [heap_set_same hb]; simp
  obtain ⟨w',r,e,o,sm⟩:=ih k (j+1) (cs.set (k+j) v) _ hb' (by simp at *; omega) (fun u hu=>hv u (by simp [hu]))
  refine ⟨w',?_,?_,fun i hi=>?_,fun C hC=>sm C (hC.setCell _ _)⟩
  ·simp only [storeCells,Sem.run_bind,add_eq,h1,Result.andThen_ok,r]
  ·rw [e]
   congr 2
   rw [show k+(j+1)=(k+j)+1 by omega,List.take_succ_eq_append_getElem (by simp; exact hl'),List.take_set_of_le (Nat.le_refl _),List.drop_set_of_lt (by omega)]
   simp [Nat.add_assoc,Nat.add_comm,Nat.add_left_comm]
  ·rw [o i hi,heap_set_other hi]
theorem l_stores {T:TypeId}{x y:Operand}{b k n:Nat}{cs vs:List Value}{T0:Nat}(i:Nat)(hd:dok X.n d=true)(hw:want ops σ ⟨d,.store T x y,ty,pos,af,gd⟩=true)(hs:szB X.P T=some n)
  (hV:lk V i=bxl b cs T0) (hx:ev σ x=.pointer (some ⟨b,k,none⟩)) (hy:ev σ y=.agg vs.toArray) (hn:vs.length=n) (hv:vs.all (·.oneCell')=true) (hk:Nat.ble (k+n) cs.length=true)
  (h:TL X ops (stt V i (bxl b (cs.take k++vs++cs.drop (k+n)) T0)) (updo σ d undef) rest Q):TL X ops V σ (⟨d,.store T x y,ty,pos,af,gd⟩::rest) Q:=by
 intro w s
 refine WL_step hd hw ?_
 have hb:=look_bx s i hV
 obtain ⟨w',r,e,o,sm⟩:=storeCells_bx (P:=X.P) vs k 0 cs w hb (by have:=Nat.le_of_ble_eq_true hk; omega) (fun v hv'=>List.all_eq_true.1 hv v hv')
 have hr:(execOp (ev σ) ⟨d,.store T x y,ty,pos,af,gd⟩).run X.P w=.ok .skip w':=by
  simp [execOp,Instr.storeAt,hx,hy,Instr.sureAddr,storeVar,run_sizeOf hs,Value.cells,hn,r,Sem.run_bind]
 rw [hr]
 refine h _ (St.turn s i (fun a=>sm _ a) ?_)
 intro I g p _ _
 rw [hV] at p
 have p:g=Hp.one b (.cells cs.toArray T0 (0,0)):=p
 subst p
 refine ⟨_,rfl,?_,?_,?_⟩
 ·intro j o' e'
  simp only [Hp.one] at e'
  split at e'
  ·rename_i hj
   subst hj
   rw [← Option.some.inj e',e]
   simp [hn]
  ·cases e'
 ·intro j hj
  refine .inl ?_
  simp only [Hp.one] at *
  split at hj
  ·rename_i e; rw [if_pos e]; exact fun h=>by cases h
  ·exact absurd rfl hj
 ·intro j o' hj e'
  simp only [Hp.one] at hj
  split at hj
  ·cases hj
  ·rename_i hne; rw [o j hne]; exact e'
end
end Go.Pg
namespace Go.Pg
theorem St.act {β:Type}{C w:World}{V:List HP}(s:St C w V)(i:Nat){q:β→HP}{Ψ:β→World→Prop}
  (f:∀ I h,(lk V i).p I h→Le I w→Le h w→(∀ k,I k=Option.none∨h k=Option.none)→∃ b w' h',Ψ b w'∧(Same C w→Same C w')∧(q b).p I h'∧Le h' w'∧(∀ k,h' k≠Option.none→h k≠Option.none∨w.heap.size≤k)∧∀ (k:Nat) (o:Obj),h k=Option.none→w.heap[k]?=some o→w'.heap[k]?=some o) :
  ∃ b w',Ψ b w'∧St C w' (stt V i (q b)):=by
 obtain ⟨a,I,h,g,j,l,s⟩:=s
 obtain ⟨h1,h2,j',c,s'⟩:=star_take i s
 obtain ⟨b,w',h',hΨ,hs,hq,hl,hn,hk⟩:=f I h1 c (l.mono j.left) (l.mono (Hp.le_trans j'.left j.right)) (fun k=>by
  rcases j.disj k with e | e
  ·exact .inl e
  ·exact .inr ((j'.is_none k).1 e).1)
 refine ⟨b,w',hΨ,?_⟩
 have old:∀ b,h' b≠Option.none→I b=Option.none∧h2 b=Option.none:=by
  intro b hb
  rcases hn b hb with e | e
  ·refine ⟨?_,?_⟩
   ·rcases j.disj b with f | f
    ·exact f
    ·exact absurd ((j'.is_none b).1 f).1 e
   ·rcases j'.disj b with f | f
    ·exact absurd f e
    ·exact f
  ·have:g b=Option.none:=by
    cases hg:g b with
    | none=>rfl
    | some o =>
     have:=(l.lt (b:=b) (by rw [hg]; exact fun h=>by cases h))
     omega
   have:=(j.is_none b).1 this
   exact ⟨this.1,((j'.is_none b).1 this.2).2⟩
 obtain ⟨m,hm⟩:=Join.of_disj (h1:=h') (h2:=h2) (fun b=>by
  by_cases e:h' b=Option.none
  ·exact .inl e
  ·exact .inr (old b e).2)
 obtain ⟨g',hg'⟩:=Join.of_disj (h1:=I) (h2:=m) (fun b=>by
  by_cases e:h' b=Option.none
  ·rcases j.disj b with f | f
   ·exact .inl f
   ·exact .inr ((hm.is_none b).2 ⟨e,((j'.is_none b).1 f).2⟩)
  ·exact .inl (old b e).1)
 refine ⟨hs a,I,m,g',hg',?_,star_put i hm hq s'⟩
 intro b o e
 rcases hg'.cases e with ⟨e1,e2⟩|⟨e1,e2⟩
 ·refine hk b o ?_ (l b o (j.left b o e1))
  rcases j.disj b with f | f
  ·rw [f] at e1; cases e1
  ·exact ((j'.is_none b).1 f).1
 ·rcases hm.cases e1 with ⟨e3,e4⟩|⟨e3,e4⟩
  ·exact hl b o e3
  ·refine hk b o ?_ (l b o (j.right b o (j'.right b o e3)))
   rcases j'.disj b with f | f
   ·exact f
   ·rw [f] at e3; cases e3
theorem St.see {C w:World}{V:List HP}(s:St C w V)(i:Nat):∃ I h J,(lk V i).p I h∧Hp.le I J∧Hp.le h J∧Le J w:=by
 obtain ⟨I,h,p,l1,l2,dj⟩:=s.look i
 obtain ⟨J,j⟩:=Join.of_disj dj
 refine ⟨I,h,J,p,j.left,j.right,fun b o e=>?_⟩
 rcases j.cases e with ⟨e,_⟩|⟨e,_⟩
 ·exact l1 b o e
 ·exact l2 b o e
def Sees {α:Type}(q:HP)(K:Kind α)(v:Value)(xs:List α):Prop:=∀ I h J,Hp.le I J→Hp.le h J→q.p I h→rdS K J v xs
section
variable {α:Type}{K:Kind α}
theorem sees_rd {v:Value}{xs:List α}:Sees (rds K v xs) K v xs:=fun I h J l _ p=>rdS_mono l p.2
theorem sees_ow {e:Nat}{v:Value}{xs:List α}:Sees (ow K e v xs) K v xs:=fun I h J l m p=>owS_rdS l m p
theorem St.reads {C w:World}{V:List HP}(s:St C w V){i:Nat}{v:Value}{xs:List α}(h:Sees (lk V i) K v xs):∃ J,Le J w∧rdS K J v xs:=by
 obtain ⟨I,g,J,p,l1,l2,lw⟩:=s.see i
 exact ⟨J,lw,h I g J l1 l2 p⟩
end
def sep (p q:HP):HP:=⟨fun I h=>∃ h1 h2,Join h1 h2 h∧p.p I h1∧q.p I h2,fun l ⟨h1,h2,j,a,b⟩=>⟨h1,h2,j,p.mono l a,q.mono l b⟩⟩
theorem St.sep {C w:World}{p q:HP}{V:List HP}(s:St C w (p::q::V)):St C w (Pg.sep p q::V):=by
 obtain ⟨a,I,h,g,j,l,h1,h2,j1,c,h3,h4,j2,d,e⟩:=s
 obtain ⟨k,k1,k2⟩:=Join.assoc' j2 j1
 exact ⟨a,I,h,g,j,l,k,h4,k2,⟨h1,h3,k1,c,d⟩,e⟩
section
variable {X:Cx}{V:List HP}{σ:Env}{Q:Exit→Env→World→Prop}{ops:Array Oper}{rest:List Oper}
variable {d:Option Nat}{ty:TypeId}{pos:String}{af:Array Edge}{gd:Option (Nat×Bool)}
variable {α β:Type}
theorem v_len {t:TypeId}{x:Operand}{a:Option Addr}{n c:Nat}{e:TypeId}(ht:slB X.P t=some e)(hx:ev σ x=.slice a n c):VO X V σ ⟨d,.call ⟨.builtin .len,#[x],#[t]⟩,ty,pos,af,gd⟩ (.int .i64 n):=by
 intro w _
 have hu:=slB_eq ht
 simp [execOp,resolve,invoke,builtin,hx,Builtin.len_,run_underlying hu,goInt]
theorem t_some {K:Kind α}{a:Option Addr}{n c:Nat}{xs:List α}(i:Nat)(hV:Sees (lk V i) K (.slice a n c) xs)(h1:0<n)(h:∀ g o,a=some ⟨g,o,none⟩→TL X ops V σ rest Q):TL X ops V σ rest Q:=by
 intro w s
 obtain ⟨J,lw,A,c',hv,h2,h3,h4⟩:=s.reads hV
 have hn:n=xs.length:=by injection hv
 have ha:a=A:=by injection hv
 obtain ⟨g,o,hA,_⟩:=h4 (by omega)
 exact h g o (by rw [ha,hA]) w s
theorem c_some {K:Kind α}{a:Option Addr}{n c:Nat}{xs:List α}{cd:Code}(i:Nat)(hV:Sees (lk V i) K (.slice a n c) xs)(h1:0<n)(h:∀ g o,a=some ⟨g,o,none⟩→TC X V σ cd Q):TC X V σ cd Q:=by
 intro w s
 obtain ⟨J,lw,A,c',hv,h2,h3,h4⟩:=s.reads hV
 have hn:n=xs.length:=by injection hv
 have ha:a=A:=by injection hv
 obtain ⟨g,o,hA,_⟩:=h4 (by omega)
 exact h g o (by rw [ha,hA]) w s
theorem v_iaddr {t e:TypeId}{x y:Operand}{g o n c sz:Nat}{k:IntKind}{j:Int}(ht:slB X.P t=some e)(hs:szB X.P e=some sz)(hx:ev σ x=.slice (some ⟨g,o,none⟩) n c)(hy:ev σ y=.int k j)(h0:0≤j)(h1:j<n) :
  VO X V σ ⟨d,.indexAddr t x y,ty,pos,af,gd⟩ (.pointer (some ⟨g,o+j.toNat*sz,none⟩)):=by
 intro w _
 have hu:=slB_eq ht
 simp [execOp,hx,hy,Instr.indexAt,asIntOf,run_underlying hu,h0,h1,run_sizeOf hs,add_eq]
def Leaf (K:Kind α)(fo:Nat)(pr:α→Value):Prop:=∀ I x cs,K.rd I x cs→nth cs fo=some (pr x)
def LeafS (K:Kind α)(fo:Nat)(L:Kind β)(pr:α→List β):Prop:=∀ I x cs,K.rd I x cs→∃ v,nth cs fo=some v∧rdS L I v (pr x)
theorem read_cell {K:Kind α}{J:Hp}{g o n c:Nat}{xs:List α}(r:rdS K J (.slice (some ⟨g,o,none⟩) n c) xs){j:Nat}{x:α}(hx:xs[j]?=some x) :
  ∃ cs,K.rd J x cs∧∀ k u,cs[k]?=some u→cellH J g (o+j*K.sz+k)=some u:=by
 obtain ⟨A,c',hv,h2,h3,h4⟩:=r
 have hlt:=(List.getElem?_eq_some_iff.1 hx).1
 obtain ⟨g',o',hA,hc⟩:=h4 (by omega)
 injection hv with e1 e2 e3
 rw [hA] at e1
 injection e1 with e1
 injection e1 with e1 e4
 subst e1; subst e4
 obtain ⟨cs,p,q⟩:=hc j x hx
 exact ⟨cs,p,fun k u hu=>q k u hu⟩
theorem v_lde [Inhabited α]{K:Kind α}{T:TypeId}{x:Operand}{g o n c fo:Nat}{xs:List α}{pr:α→Value}(i:Nat)(j:Int)(ha:aggB X.P T=some false)
  (hl:Leaf K fo pr) (hV:Sees (lk V i) K (.slice (some ⟨g,o,none⟩) n c) xs) (hx:ev σ x=.pointer (some ⟨g,o+j.toNat*K.sz+fo,none⟩)) (h0:0≤j) (h1:j<n) :
  VO X V σ ⟨d,.load T x,ty,pos,af,gd⟩ (pr (ix xs j)):=by
 intro w s
 obtain ⟨J,lw,r⟩:=s.reads hV
 have hn:n=xs.length:=by obtain ⟨A,c',hv,_⟩:=r; injection hv
 obtain ⟨cs,p,q⟩:=read_cell r (ix_get h0 (by omega))
 have hcell:=cell_of_H lw (q fo _ (by rw [← nth_eq]; exact hl J _ cs p))
 simp only [execOp,Instr.loadAt,hx,Instr.sureAddr,Sem.run_bind,Sem.run_pure,Result.andThen_ok,run_loadVar_one ha hcell]
theorem v_ldef [Inhabited α]{K:Kind α}{cells:α→List Value}{T:TypeId}{x:Operand}{g o n c:Nat}{xs:List α}(i:Nat)(j:Int)(ha:aggB X.P T=some true)(hs:szB X.P T=some K.sz)
  (hl:∀ I x cs,K.rd I x cs→cs=cells x) (hV:Sees (lk V i) K (.slice (some ⟨g,o,none⟩) n c) xs) (hx:ev σ x=.pointer (some ⟨g,o+j.toNat*K.sz,none⟩)) (h0:0≤j) (h1:j<n) :
  VO X V σ ⟨d,.load T x,ty,pos,af,gd⟩ (.agg (cells (ix xs j)).toArray):=by
 intro w s
 obtain ⟨J,lw,r⟩:=s.reads hV
 have hn:n=xs.length:=by obtain ⟨A,c',hv,_⟩:=r; injection hv
 obtain ⟨cs,p,q⟩:=read_cell r (ix_get h0 (by omega))
 have hlen:=K.rd_len p
 obtain rfl:=hl _ _ _ p
 have hcell:=run_loadVar_agg (P:=X.P) (w:=w) (a:=⟨g,o+j.toNat*K.sz,none⟩) ha (by rw [hlen]; exact hs) (fun k u hu=>by rw [add_eq]; exact cell_of_H lw (q k u hu))
 simp only [execOp,Instr.loadAt,hx,Instr.sureAddr,Sem.run_bind,Sem.run_pure,Result.andThen_ok,hcell]
def cl (g k:Nat)(cs:List Value):HP:=⟨fun I h=>h=Hp.none∧∀ i u,cs[i]?=some u→cellH I g (k+i)=some u,fun l p=>⟨p.1,fun i u hu=>cellH_mono l (p.2 i u hu)⟩⟩
theorem look_cl {C w:World}{V:List HP}(s:St C w V)(i:Nat){g k:Nat}{cs:List Value}(hV:lk V i=cl g k cs):∀ (j:Nat) (u:Value),cs[j]?=some u→w.cell? ⟨g,k+j,none⟩=some u:=by
 obtain ⟨I,h,p,lI,_,_⟩:=s.look i
 rw [hV] at p
 exact fun j u hu=>cell_of_H lI (p.2 j u hu)
theorem rdS_form {L:Kind β}{I:Hp}{v:Value}{ys:List β}(r:rdS L I v ys):∃ a c,v=.slice a ys.length c:=by
 obtain ⟨A,c,e,_⟩:=r
 exact ⟨A,c,e⟩
theorem St.more {C w:World}{V:List HP}(s:St C w V)(i:Nat){A:Type}{E:A→List HP}(f:∀ I h,(lk V i).p I h→Le I w→Le h w→∃ a,star (E a) I Hp.none):∃ a,St C w (E a++V):=by
 obtain ⟨sm,I,hh,gg,jj,lw,st⟩:=s
 obtain ⟨h1,h2,j',p,st'⟩:=star_take i st
 obtain ⟨a,e⟩:=f I h1 p (lw.mono jj.left) (lw.mono (Hp.le_trans j'.left jj.right))
 exact ⟨a,sm,I,hh,gg,jj,lw,star_app.2 ⟨Hp.none,hh,Join.none hh,e,st⟩⟩
theorem star_two {p q:HP}{I:Hp}(a:p.p I Hp.none)(b:q.p I Hp.none):star [p,q] I Hp.none:=⟨_,_,Join.none _,a,_,_,Join.none _,b,rfl⟩
theorem St.leaf [Inhabited α]{C w:World}{V:List HP}{K:Kind α}{L:Kind β}{g o n c fo:Nat}{xs:List α}{pr:α→List β}(s:St C w V)(i:Nat)(j:Int)
  (hl:LeafS K fo L pr) (hV:lk V i=rds K (.slice (some ⟨g,o,none⟩) n c) xs) (h0:0≤j) (h1:j<n) :
  ∃ p:Option Addr×Nat,St C w ([cl g (o+j.toNat*K.sz+fo) [.slice p.1 (pr (ix xs j)).length p.2],rds L (.slice p.1 (pr (ix xs j)).length p.2) (pr (ix xs j))]++V):=by
 refine St.more (E:=fun p:Option Addr×Nat=>[cl g (o+j.toNat*K.sz+fo) [.slice p.1 (pr (ix xs j)).length p.2],rds L (.slice p.1 (pr (ix xs j)).length p.2) (pr (ix xs j))]) s i ?_
 intro I h p _ _
 rw [hV] at p
 obtain ⟨_,r⟩:=p
 have hn:n=xs.length:=by obtain ⟨A,c',hv,_⟩:=r; injection hv
 obtain ⟨cs,p,q⟩:=read_cell r (ix_get h0 (by omega))
 obtain ⟨v,hv,hr⟩:=hl I _ cs p
 obtain ⟨a,c',rfl⟩:=rdS_form hr
 exact ⟨⟨a,c'⟩,star_two ⟨rfl,fun k u hu=>by
  cases k with
  | zero =>
   simp only [List.getElem?_cons_zero,Option.some.injEq] at hu
   subst hu
   exact q fo _ (by rw [← nth_eq]; exact hv)
  | succ k=>simp at hu⟩ ⟨rfl,hr⟩⟩
def Dec (K:Kind α){A:Type}(cells:A→α→List Value)(ents:A→α→List HP):Prop:=∀ I x cs,K.rd I x cs→∃ a,cs=cells a x∧star (ents a x) I Hp.none
theorem St.elem [Inhabited α]{C w:World}{V:List HP}{K:Kind α}{A:Type}{cells:A→α→List Value}{ents:A→α→List HP}{g o n c:Nat}{xs:List α}(s:St C w V)(i:Nat)(j:Int)
  (hl:Dec K cells ents) (hV:lk V i=rds K (.slice (some ⟨g,o,none⟩) n c) xs) (h0:0≤j) (h1:j<n) :
  ∃ a,St C w ((cl g (o+j.toNat*K.sz) (cells a (ix xs j))::ents a (ix xs j))++V):=by
 refine St.more (E:=fun a=>cl g (o+j.toNat*K.sz) (cells a (ix xs j))::ents a (ix xs j)) s i ?_
 intro I h p _ _
 rw [hV] at p
 obtain ⟨_,r⟩:=p
 have hn:n=xs.length:=by obtain ⟨A,c',hv,_⟩:=r; injection hv
 obtain ⟨cs,p,q⟩:=read_cell r (ix_get h0 (by omega))
 obtain ⟨a,rfl,hst⟩:=hl I _ cs p
 exact ⟨a,_,_,Join.none _,⟨rfl,q⟩,hst⟩
theorem t_elem [Inhabited α]{K:Kind α}{A:Type}{cells:A→α→List Value}{ents:A→α→List HP}{g o n c:Nat}{xs:List α}(i:Nat)(j:Int)
  (hl:Dec K cells ents) (hV:lk V i=rds K (.slice (some ⟨g,o,none⟩) n c) xs) (h0:0≤j) (h1:j<n)
  (h:∀ a,TL X ops (cl g (o+j.toNat*K.sz) (cells a (ix xs j))::(ents a (ix xs j)++V)) σ rest Q):TL X ops V σ rest Q:=by
 intro w s
 obtain ⟨a,s'⟩:=s.elem i j hl hV h0 h1
 exact h a w s'
theorem c_elem [Inhabited α]{K:Kind α}{A:Type}{cells:A→α→List Value}{ents:A→α→List HP}{g o n c:Nat}{xs:List α}{cd:Code}(i:Nat)(j:Int)
  (hl:Dec K cells ents) (hV:lk V i=rds K (.slice (some ⟨g,o,none⟩) n c) xs) (h0:0≤j) (h1:j<n)
  (h:∀ a,TC X (cl g (o+j.toNat*K.sz) (cells a (ix xs j))::(ents a (ix xs j)++V)) σ cd Q):TC X V σ cd Q:=by
 intro w s
 obtain ⟨a,s'⟩:=s.elem i j hl hV h0 h1
 exact h a w s'
end
end Go.Pg
namespace Go.Pg
section
variable {X:Cx}{V:List HP}{σ:Env}{Q:Exit→Env→World→Prop}{ops:Array Oper}{rest:List Oper}
variable {d:Option Nat}{ty:TypeId}{pos:String}{af:Array Edge}{gd:Option (Nat×Bool)}
variable {α β:Type}
def SetL (K:Kind α)(fo:Nat)(v:Value)(f:α→α):Prop:=fo<K.sz∧∀ I h x cs,K.own I h x cs→K.own I h (f x) (cs.set fo v)
theorem run_store_blk {P:Program}{w:World}{g k:Nat}{cs:List Value}{e:Nat}{fr:Nat×Nat}{v:Value}(hb:w.heap[g]?=some (.cells cs.toArray e fr))(hk:k<cs.length)(hf:fr=(0,0)∨cs.length≤fr.1)(hv:v.oneCell'=true) :
  (store ⟨g,k,none⟩ v).run P w=.ok () (w.setCell ⟨g,k,none⟩ v):=by
 rw [run_store P w _ v _ hv]
 have h1:w.cell? ⟨g,k,none⟩=some cs[k]:=by simp [World.cell?,hb,hk]
 have h2:w.frozen? ⟨g,k,none⟩=false:=by
  simp only [World.frozen?,hb]
  rcases hf with rfl | hf
  ·simp
  ·obtain ⟨lo,hi⟩:=fr
   simp only at hf
   simp; omega
 simp [h1,h2]
theorem l_ste [Inhabited α]{K:Kind α}{T e:TypeId}{x y:Operand}{g o n c fo:Nat}{xs:List α}{v:Value}{f:α→α}(i:Nat)(j:Int)(hd:dok X.n d=true)(hw:want ops σ ⟨d,.store T x y,ty,pos,af,gd⟩=true)(hs:szB X.P T=some 1)
  (hl:SetL K fo v f) (hV:lk V i=ow K e (.slice (some ⟨g,o,none⟩) n c) xs) (hx:ev σ x=.pointer (some ⟨g,o+j.toNat*K.sz+fo,none⟩)) (hy:ev σ y=v) (hv:v.oneCell'=true) (h0:0≤j) (h1:j<n)
  (h:TL X ops (stt V i (ow K e (.slice (some ⟨g,o,none⟩) n c) (xs.set j.toNat (f (ix xs j))))) (updo σ d undef) rest Q):TL X ops V σ (⟨d,.store T x y,ty,pos,af,gd⟩::rest) Q:=by
 intro w s
 have key:∃ (_:Unit) (w':World),(execOp (ev σ) ⟨d,.store T x y,ty,pos,af,gd⟩).run X.P w=.ok .skip w'∧St X.C w' (stt V i (ow K e (.slice (some ⟨g,o,none⟩) n c) (xs.set j.toNat (f (ix xs j))))):=by
  refine St.act s i (q:=fun _=>_) (Ψ:=fun _ w'=>_) ?_
  intro I hh p _ lw _
  rw [hV] at p
  have p:owS K e I hh (.slice (some ⟨g,o,none⟩) n c) xs:=p
  rcases p with ⟨A,hv,rfl,_⟩|⟨g',c',pre,used,spare,fr,hb,hv,h2,h3,h4,h5,jo,ol⟩
  ·injection hv with _ hv _
   omega
  injection hv with e1 e2 e3
  injection e1 with e1
  injection e1 with e1 e4
  subst e1; subst e3; subst e4; subst e2
  obtain ⟨a1,c1,b1,g1,g2,hc,hlen,jn,ox,hput⟩:=ownL_at ol (ix_get h0 h1)
  have hlc:=K.own_len ox
  have hblk:w.heap[g]?=some (.cells (pre++used++spare).toArray e fr):=lw g _ (jo.left g _ (by simp [Hp.one]))
  have hlu:used.length=a1.length+c1.length+b1.length:=by rw [hc]; simp [Nat.add_assoc]
  have hpos:pre.length+j.toNat*K.sz+fo<(pre++used++spare).length:=by
   have:=hl.1
   simp only [List.length_append]
   omega
  have hst:=run_store_blk (P:=X.P) hblk hpos (by rcases h5 with h5 | h5; exact .inl h5; exact .inr (by simpa [Nat.add_assoc] using h5)) hv
  refine ⟨(),w.setCell ⟨g,pre.length+j.toNat*K.sz+fo,none⟩ v,?_⟩
  obtain ⟨h',jo'⟩:=Join.of_disj (h1:=Hp.one g (.cells ((pre++used++spare).set (pre.length+j.toNat*K.sz+fo) v).toArray e fr)) (h2:=hb) (fun k=>by
   rcases jo.disj k with e | e
   ·refine .inl ?_
    simp only [Hp.one] at *
    split at e
    ·cases e
    ·rename_i hne; rw [if_neg hne]
   ·exact .inr e)
  refine ⟨h',?_,fun a=>a.setCell _ _,?_,?_,?_,?_⟩
  ·simp only [execOp,Instr.storeAt,hx,hy,Instr.sureAddr,Sem.run_bind,Sem.run_pure,Result.andThen_ok,run_storeVar_one hs hv hst]
  ·have hset:(pre++used++spare).set (pre.length+j.toNat*K.sz+fo) v=pre++(a1++c1.set fo v++b1)++spare:=by
    have:=hl.1
    rw [List.append_assoc,List.set_append_right _ _ (by omega),show pre.length+j.toNat*K.sz+fo - pre.length=j.toNat*K.sz+fo by omega,List.set_append_left _ _ (by omega),hc,List.append_assoc a1,
     List.set_append_right _ _ (by omega),show j.toNat*K.sz+fo - a1.length=fo by omega,List.set_append_left _ _ (by omega)]
    simp [List.append_assoc]
   refine .inr ⟨g,_,pre,a1++c1.set fo v++b1,spare,fr,hb,by rw [List.length_set],by rw [List.length_set]; exact h2,h3,by rw [List.length_set]; exact h4,?_,?_,?_⟩
   ·rcases h5 with h5 | h5
    ·exact .inl h5
    ·refine .inr ?_
     simp only [List.length_append,List.length_set] at *
     omega
   ·rw [← hset]; exact jo'
   ·exact hput I _ _ _ _ (Hp.le_refl I) jn (hl.2 I _ _ _ ox)
  ·intro k o' e'
   rcases jo'.cases e' with ⟨e1,_⟩|⟨e1,e2⟩
   ·simp only [Hp.one] at e1
    split at e1
    ·rename_i hk
     subst hk
     rw [← Option.some.inj e1,heap_set_same hblk]
     simp
    ·cases e1
   ·have hne:k≠g:=by
     rintro rfl
     simp [Hp.one] at e2
    rw [heap_set_other hne]
    exact lw k _ (jo.right k _ e1)
  ·intro k hk
   refine .inl fun hn=>hk ?_
   have:=(jo.is_none k).1 hn
   refine (jo'.is_none k).2 ⟨?_,this.2⟩
   have:=this.1
   simp only [Hp.one] at *
   split at this
   ·cases this
   ·rename_i hne; rw [if_neg hne]
  ·intro k o' hk e'
   have:=((jo.is_none k).1 hk).1
   have hne:k≠g:=by
    rintro rfl
    simp [Hp.one] at this
   rw [heap_set_other hne]
   exact e'
 obtain ⟨_,w',hr,s'⟩:=key
 exact WL_step hd hw (by rw [hr]; exact h w' s')
def ZeroK (P:Program)(K:Kind α)(e:TypeId)(z:α):Prop:=∃ cs,zcB P e=some cs∧cs.length=K.sz∧∀ I,K.own I Hp.none z cs
theorem ownL_rep {K:Kind α}{I:Hp}{z:α}{cs:List Value}(h:K.own I Hp.none z cs)(m:Nat):ownL K I Hp.none (List.replicate m z) (List.replicate m cs).flatten:=by
 induction m with
 | zero=>exact ⟨rfl,rfl⟩
 | succ m ih=>exact ⟨Hp.none,Hp.none,cs,(List.replicate m cs).flatten,Join.none _,by simp [List.replicate_succ],h,ih⟩
theorem made_flat (z:Array Value)(hz:0<z.size)(m:Nat):(madeCells z (m*z.size)).toList=(List.replicate m z.toList).flatten:=by
 induction m with
 | zero=>simp [madeCells]
 | succ m ih =>
  have h1:(madeCells z ((m+1)*z.size)).toList=(madeCells z (m*z.size)).toList++z.toList:=by
   apply List.ext_getElem?
   intro k
   simp only [madeCells,Array.toList_map,Array.toList_range,List.getElem?_map,List.getElem?_append,List.length_map,List.length_range]
   by_cases hk:k<m*z.size
   ·rw [List.getElem?_range (by rw [Nat.succ_mul]; omega),if_pos hk,List.getElem?_range hk]
   ·rw [if_neg hk]
    by_cases hk2:k<(m+1)*z.size
    ·rw [List.getElem?_range hk2]
     have hk3:k - m*z.size<z.size:=by rw [Nat.succ_mul] at hk2; omega
     have hm:k % z.size=k - m*z.size:=by
      rw [← Nat.mod_eq_of_lt hk3]
      conv=>lhs; rw [show k=(k - m*z.size)+m*z.size by omega]
      rw [Nat.add_mul_mod_self_right]
     simp only [Option.map_some,hm]
     rw [getElem!_pos z _ hk3]
     simp [hk3]
    ·rw [List.getElem?_eq_none (by simp; omega)]
     rw [Nat.succ_mul] at hk2
     rw [List.getElem?_eq_none (by simp; omega)]
     rfl
  rw [h1,ih]
  clear h1 ih
  induction m with
  | zero=>simp
  | succ m ih=>rw [List.replicate_succ,List.flatten_cons,List.append_assoc,ih,← List.flatten_cons,← List.replicate_succ]
theorem l_make {K:Kind α}{t e:TypeId}{x y:Operand}{m:Int}{z:α}{by_:Nat}(hd:dok X.n d=true)(hw:want ops σ ⟨d,.makeSlice t x y,ty,pos,af,gd⟩=true)(ht:slB X.P t=some e)(hs:szB X.P e=some K.sz)(hb:bytesB X.P e=some by_)
  (hz:ZeroK X.P K e z) (hsz:0<K.sz) (hx:ev σ x=.int .i64 m) (hy:ev σ y=.int .i64 m) (h0:0≤m) (h1:m≤140737488355328) (h2:by_*m≤281474976710656)
  (h:∀ a c,TL X ops (ow K e (.slice a (List.replicate m.toNat z).length c) (List.replicate m.toNat z)::V) (updo σ d (.slice a (List.replicate m.toNat z).length c)) rest Q):TL X ops V σ (⟨d,.makeSlice t x y,ty,pos,af,gd⟩::rest) Q:=by
 intro w s
 obtain ⟨cs,hz1,hz2,hz3⟩:=hz
 unfold zcB at hz1
 unfold szB at hs
 unfold bytesB at hb
 cases hi:X.P.info? e with
 | none=>rw [hi] at hs; cases hs
 | some info =>
  rw [hi] at hz1 hs hb
  simp only [Option.map_some,Option.some.injEq,Option.bind_some] at hz1 hs hb
  cases hzz:info.zero with
  | none=>rw [hzz] at hz1; cases hz1
  | some zv =>
   rw [hzz] at hz1
   simp only [Option.map_some,Option.some.injEq] at hz1
   have hr:=run_make (P:=X.P) w t e info zv (slB_eq ht) hi hzz .i64 .i64 m m h0 (Int.le_refl _) (by rw [hb]; exact h2) (by omega)
   refine WL_step hd hw ?_
   have hr':(execOp (ev σ) ⟨d,.makeSlice t x y,ty,pos,af,gd⟩).run X.P w=.ok (.value (.slice (some ⟨w.heap.size,0,none⟩) m.toNat m.toNat)) (w.alloc (.cells (madeCells zv.cells (m.toNat*info.size)) e)):=by
    simp only [execOp,hx,hy,Sem.run_bind,hr,Result.andThen_ok,Sem.run_pure]
   rw [hr']
   have hzs:zv.cells.size=K.sz:=by rw [← hz2,← hz1]; simp
   have hcells:(madeCells zv.cells (m.toNat*info.size)).toList=(List.replicate m.toNat cs).flatten:=by
    rw [hs,← hzs,made_flat _ (by omega),← hz1]
   have hl:(List.replicate m.toNat z).length=m.toNat:=by simp
   have:=h (some ⟨w.heap.size,0,none⟩) m.toNat
   rw [hl] at this
   refine this _ (St.new s (fun a=>a.alloc _) (fun I _=>?_) ?_)
   ·obtain ⟨h',jo⟩:=Join.of_disj (h1:=Hp.one w.heap.size (.cells (madeCells zv.cells (m.toNat*info.size)) e)) (h2:=Hp.none) (fun _=>.inr rfl)
    have he:=jo.symm.eq_of_none
    refine ⟨h',.inr ⟨w.heap.size,m.toNat,[],(List.replicate m.toNat cs).flatten,[],(0,0),Hp.none,by simp,by simp,by simp only [maxLen]; omega,by simp,.inl rfl,?_,ownL_rep (hz3 I) _⟩,?_,?_⟩
    ·have hh:((List.replicate m.toNat cs).flatten).toArray=madeCells zv.cells (m.toNat*info.size):=by rw [← hcells]
     simp only [List.nil_append,List.append_nil,hh]
     exact jo
    ·rw [he]
     intro b o e'
     simp only [Hp.one] at e'
     split at e'
     ·rename_i hb'
      subst hb'
      rw [← Option.some.inj e']
      show (w.heap.push _)[w.heap.size]?=_
      simp
     ·cases e'
    ·rw [he]
     intro b hb'
     simp only [Hp.one] at hb'
     split at hb'
     ·rename_i e'; exact Nat.le_of_eq e'.symm
     ·exact absurd rfl hb'
   ·intro b o e'
    have hlt:=(Array.getElem?_eq_some_iff.1 e').1
    show (w.heap.push _)[b]?=_
    rw [Array.getElem?_push,if_neg (Nat.ne_of_lt hlt)]
    exact e'
end
end Go.Pg
namespace Go.Pg
theorem storeCells_blk {P:Program}{b:Nat}{T:Nat}{fr:Nat×Nat}{N:Nat}(hf:fr=(0,0)∨N≤fr.1):∀ (vs:List Value) (k j:Nat) (cs:List Value) (w:World),cs.length=N→w.heap[b]?=some (.cells cs.toArray T fr)→k+j+vs.length≤cs.length→(∀ v∈vs,v.oneCell'=true) →
  ∃ w',(storeCells ⟨b,k,none⟩ vs j).run P w=.ok () w'∧w'.heap[b]?=some (.cells (cs.take (k+j)++vs++cs.drop (k+j+vs.length)).toArray T fr)∧(∀ i,i≠b→w'.heap[i]?=w.heap[i]?)∧∀ C,Same C w→Same C w':=by
 intro vs
 induction vs with
 | nil =>
  intro k j cs w _ hb _ _
  exact ⟨w,by simp [storeCells],by simpa using hb,fun _ _=>rfl,fun _ h=>h⟩
 | cons v vs ih =>
  intro k j cs w hN hb hl hv
  have hl':k+j<cs.length:=by simp at hl; omega
  have h1:=run_store_blk (P:=P) hb hl' (by rw [hN]; exact hf) (hv v (by simp))
  have hb':(w.setCell ⟨b,k+j,none⟩ v).heap[b]?=some (.cells (cs.set (k+j) v).toArray T fr):=by rw [heap_set_same hb]; simp
  obtain ⟨w',r,e,o,sm⟩:=ih k (j+1) (cs.set (k+j) v) _ (by simpa using hN) hb' (by simp at *; omega) (fun u hu=>hv u (by simp [hu]))
  refine ⟨w',?_,?_,fun i hi=>?_,fun C hC=>sm C (hC.setCell _ _)⟩
  ·simp only [storeCells,Sem.run_bind,add_eq,h1,Result.andThen_ok,r]
  ·rw [e]
   congr 2
   rw [show k+(j+1)=(k+j)+1 by omega,List.take_succ_eq_append_getElem (by simp; exact hl'),List.take_set_of_le (Nat.le_refl _),List.drop_set_of_lt (by omega)]
   simp [Nat.add_assoc,Nat.add_comm,Nat.add_left_comm]
  ·rw [o i hi,heap_set_other hi]
def Src {α:Type}(q:HP)(K:Kind α)(x:Value)(ys:List α):Prop :=
 ∀ I h,q.p I h→∃ A c news h',x=.slice A ys.length c∧ys.length≤maxLen∧Hp.le h' h∧ownL K I h' ys news ∧
  (∀ J,Hp.le I J→Hp.le h J→0<ys.length→∃ g o,A=some ⟨g,o,none⟩∧∀ k u,news[k]?=some u→cellH J g (o+k)=some u)
theorem src_ow {α:Type}{K:Kind α}{e:Nat}{v:Value}{ys:List α}:Src (ow K e v ys) K v ys:=by
 intro I h p
 have p:owS K e I h v ys:=p
 rcases p with ⟨A,rfl,rfl,rfl⟩|⟨g,c,pre,used,spare,fr,hb,rfl,h2,h3,h4,h5,jo,ol⟩
 ·exact ⟨A,0,[],Hp.none,rfl,Nat.zero_le _,Hp.le_refl _,⟨rfl,rfl⟩,fun _ _ _ h=>absurd h (Nat.lt_irrefl _)⟩
 ·refine ⟨_,c,used,hb,rfl,Nat.le_trans h2 h3,jo.right,ol,fun J _ lh _=>⟨g,pre.length,rfl,fun k u hu=>?_⟩⟩
  have hblk:J g=some (.cells (pre++used++spare).toArray e fr):=lh _ _ (jo.left g _ (by simp [Hp.one]))
  unfold cellH
  rw [hblk]
  have hlt:=(List.getElem?_eq_some_iff.1 hu).1
  show (pre++used++spare).toArray[pre.length+k]?=some u
  rw [List.getElem?_toArray,List.append_assoc,List.getElem?_append_right (by omega),Nat.add_sub_cancel_left,List.getElem?_append_left hlt]
  exact hu
theorem flat_cells {α:Type}{K:Kind α}(hf:K.Flat){J:Hp}{g o:Nat}:∀ (ys:List α) (b:Nat),(∀ j x,ys[j]?=some x→∃ cs,K.rd J x cs∧∀ i u,cs[i]?=some u→cellH J g (o+(b+j)*K.sz+i)=some u) →
  ∃ news,ownL K J Hp.none ys news∧∀ k u,news[k]?=some u→cellH J g (o+b*K.sz+k)=some u:=by
 intro ys
 induction ys with
 | nil=>intro b _; exact ⟨[],⟨rfl,rfl⟩,fun k u hu=>by simp at hu⟩
 | cons y ys ih =>
  intro b hc
  obtain ⟨cs,h1,h2⟩:=hc 0 y rfl
  obtain ⟨news,o1,o2⟩:=ih (b+1) (fun j x hx=>by
   obtain ⟨cs,p,q⟩:=hc (j+1) x (by simpa using hx)
   exact ⟨cs,p,fun i u hu=>by rw [show b+1+j=b+(j+1) by omega]; exact q i u hu⟩)
  refine ⟨cs++news,⟨Hp.none,Hp.none,cs,news,Join.none _,rfl,hf _ _ _ h1,o1⟩,fun k u hu=>?_⟩
  have hl:=K.rd_len h1
  by_cases hk:k<cs.length
  ·rw [List.getElem?_append_left hk] at hu
   simpa using h2 k u hu
  ·rw [List.getElem?_append_right (by omega)] at hu
   have:=o2 _ u hu
   rw [Nat.succ_mul] at this
   rw [show o+b*K.sz+k=o+(b*K.sz+K.sz)+(k - cs.length) by omega]
   exact this
theorem src_rd {α:Type}{K:Kind α}(hf:K.Flat){v:Value}{ys:List α}:Src (rds K v ys) K v ys:=by
 rintro I h ⟨rfl,A,c,hv,h2,h3,h4⟩
 by_cases hp:0<ys.length
 ·obtain ⟨g,o,hA,hc⟩:=h4 hp
  obtain ⟨news,o1,o2⟩:=flat_cells hf ys 0 (fun j x hx=>by
   obtain ⟨cs,p,q⟩:=hc j x hx
   exact ⟨cs,p,fun i u hu=>by rw [show 0+j=j from Nat.zero_add j]; exact q i u hu⟩)
  refine ⟨A,c,news,Hp.none,hv,h3,Hp.le_refl _,o1,fun J l _ _=>⟨g,o,hA,fun k u hu=>cellH_mono l ?_⟩⟩
  simpa using o2 k u hu
 ·obtain rfl:ys=[]:=List.eq_nil_of_length_eq_zero (by omega)
  exact ⟨A,c,[],Hp.none,hv,h3,Hp.le_refl _,⟨rfl,rfl⟩,fun _ _ _ h=>absurd h hp⟩
theorem Le.one_new {w w':World}{o:Obj}(h:w'.heap[w.heap.size]?=some o):Le (Hp.one w.heap.size o) w':=by
 intro b o' e
 simp only [Hp.one] at e
 split at e
 ·rename_i hb; subst hb; rw [← Option.some.inj e]; exact h
 ·cases e
theorem run_app {α:Type}{P:Program}{K:Kind α}{t ty e:TypeId}{by_:Nat}{w:World}{s x:Value}{xs ys:List α}{z:α}(ht:slB P t=some e)(hs:szB P e=some K.sz)(hb:bytesB P e=some by_)(hz:ZeroK P K e z)(hsz:0<K.sz)
  {I h1 h2 h12:Hp} {q:HP} (hj:Join h1 h2 h12) (ho:owS K e I h1 s xs) (hq:q.p I h2) (hsrc:Src q K x ys) (lI:Le I w) (l12:Le h12 w) (dj:∀ b,I b=Option.none∨h12 b=Option.none) (hl:(xs.length+ys.length)*by_≤140737488355328) (hl2:xs.length+ys.length≤140737488355328) (hby:0<by_) :
  ∃ a c w' h',(Builtin.append_ #[t,t] ty #[s,x]).run P w=.ok (.slice a (xs++ys).length c) w'∧(∀ C,Same C w→Same C w')∧owS K e I h' (.slice a (xs++ys).length c) (xs++ys)∧Le h' w' ∧
   (∀ k,h' k≠Option.none→h12 k≠Option.none∨w.heap.size≤k)∧∀ (k:Nat) (o:Obj),h12 k=Option.none→w.heap[k]?=some o→w'.heap[k]?=some o:=by
 obtain ⟨A,cx,news,h2',rfl,hm,lh2,on,hnews⟩:=hsrc I h2 hq
 have hnl:=ownL_len on
 obtain ⟨J,jJ⟩:=Join.of_disj dj
 have lJ:Le J w:=fun b o e=>by
  rcases jJ.cases e with ⟨e,_⟩|⟨e,_⟩
  ·exact lI b o e
  ·exact l12 b o e
 have hrd:=hnews J jJ.left (Hp.le_trans hj.right jJ.right)
 obtain ⟨zc,hz1,hz2,hz3⟩:=hz
 have hu:=slB_eq ht
 unfold zcB at hz1
 unfold szB at hs
 unfold bytesB at hb
 cases hi:P.info? e with
 | none=>rw [hi] at hs; cases hs
 | some info =>
 rw [hi] at hz1 hs hb
 simp only [Option.map_some,Option.some.injEq,Option.bind_some] at hz1 hs hb
 cases hzz:info.zero with
 | none=>rw [hzz] at hz1; cases hz1
 | some zv =>
 have hlen:(xs++ys).length=xs.length+ys.length:=List.length_append
 rcases Nat.eq_zero_or_pos ys.length with h0 | hpos
 ·-- nothing comes
  obtain rfl:ys=[]:=List.eq_nil_of_length_eq_zero h0
  have hn0:news=[]:=on.2
  have e0:h2'=Hp.none:=on.1
  rcases ho with ⟨B,rfl,rfl,rfl⟩|⟨g,c,pre,used,spare,fr,hbk,rfl,p2,p3,p4,p5,jo,ol⟩
  ·refine ⟨B,0,w,Hp.none,?_,fun _ h=>h,.inl ⟨B,rfl,rfl,rfl⟩,fun _ _ e=>(by cases e),fun _ h=>absurd rfl h,fun _ _ _ h=>h⟩
   cases B<;>cases A with
   | none=>simp [Builtin.append_,run_underlying hu,sizeOf,typeInfo,hi,Builtin.lenOf,Builtin.firstCells,loadCells,loadCellsFrom,storeCells]
   | some a=>simp [Builtin.append_,run_underlying hu,sizeOf,typeInfo,hi,Builtin.lenOf,Builtin.firstCells,loadCells,loadCellsFrom,storeCells]
  ·refine ⟨some ⟨g,pre.length,none⟩,c,w,h1,?_,fun _ h=>h,.inr ⟨g,c,pre,used,spare,fr,hbk,by simp,by simpa using p2,p3,by simpa using p4,p5,jo,by simpa using ol⟩,?_,?_,fun _ _ _ h=>h⟩
   ·cases A with
    | none=>simp [Builtin.append_,run_underlying hu,sizeOf,typeInfo,hi,Builtin.lenOf,Builtin.firstCells,loadCells,loadCellsFrom,p2,storeCells]
    | some a=>simp [Builtin.append_,run_underlying hu,sizeOf,typeInfo,hi,Builtin.lenOf,Builtin.firstCells,loadCells,loadCellsFrom,p2,storeCells]
   ·exact l12.mono hj.left
   ·exact fun k hk=>.inl fun hn=>hk ((hj.is_none k).1 hn).1
 ·obtain ⟨g2,o2,rfl,hcells⟩:=hrd hpos
  have hcell:∀ (j:Nat) (v:Value),news[j]?=some v→w.cell? ((⟨g2,o2,none⟩:Addr).add j)=some v:=fun j v hv=>by
   rw [add_eq]
   exact cell_of_H lJ (hcells j v hv)
  have hnl':news.length=ys.length*info.size:=by rw [hnl,hs]
  have fresh:∀ (old:Nat) (olds:List Value) (h1':Hp),old<xs.length+ys.length→Hp.le h1' h1→ownL K I h1' xs olds →
    ∃ h',owS K e I h' (.slice (some ⟨w.heap.size,0,none⟩) (xs++ys).length (grownCap w (xs.length+ys.length) old e)) (xs++ys) ∧
     Le h' (w.drew.alloc (.cells (olds.toArray++news.toArray++Builtin.zeroCells zv.cells (grownCap w (xs.length+ys.length) old e - (xs.length+ys.length))) e)) ∧
     (∀ k,h' k≠Option.none→h12 k≠Option.none∨w.heap.size≤k):=by
   intro old olds h1' hlt le1 ol
   obtain ⟨hu',ju⟩:=Join.of_disj (h1:=h1') (h2:=h2') (fun b=>by
    rcases hj.disj b with f | f
    ·refine .inl ?_
     cases hh:h1' b with
     | none=>rfl
     | some o=>rw [le1 b o hh] at f; cases f
    ·refine .inr ?_
     cases hh:h2' b with
     | none=>rfl
     | some o=>rw [lh2 b o hh] at f; cases f)
   have hule:Hp.le hu' h12:=fun b o e=>by
    rcases ju.cases e with ⟨e,_⟩|⟨e,_⟩
    ·exact hj.left b o (le1 b o e)
    ·exact hj.right b o (lh2 b o e)
   obtain ⟨h',jo⟩:=Join.of_disj (h1:=Hp.one w.heap.size (.cells (olds.toArray++news.toArray++Builtin.zeroCells zv.cells (grownCap w (xs.length+ys.length) old e - (xs.length+ys.length))) e)) (h2:=hu') (fun b=>by
    by_cases hbb:b=w.heap.size
    ·refine .inr ?_
     cases hh:hu' b with
     | none=>rfl
     | some o =>
      have:=l12.lt (b:=b) (by rw [hule b o hh]; exact fun h=>by cases h)
      omega
    ·exact .inl (by simp [Hp.one,hbb]))
   have hcap:=grownCap_ge w (xs.length+ys.length) old e
   have hcm:=grownCap_le_maxLen w (xs.length+ys.length) old e (by simp only [maxLen]; omega)
   refine ⟨h',.inr ⟨w.heap.size,_,[],olds++news,(Builtin.zeroCells zv.cells (grownCap w (xs.length+ys.length) old e - (xs.length+ys.length))).toList,(0,0),hu',rfl,by rw [hlen]; exact hcap,hcm,?_,.inl rfl,?_,ownL_app ju ol on⟩,?_,?_⟩
   ·rw [hlen]
    have:zv.cells.size=K.sz:=by
     rw [hzz] at hz1
     simp only [Option.map_some,Option.some.injEq] at hz1
     rw [← hz2,← hz1]; simp
    simp [size_zeroCells,this]
   ·have:([]++(olds++news)++(Builtin.zeroCells zv.cells (grownCap w (xs.length+ys.length) old e - (xs.length+ys.length))).toList).toArray=olds.toArray++news.toArray++Builtin.zeroCells zv.cells (grownCap w (xs.length+ys.length) old e - (xs.length+ys.length)):=by
     apply Array.ext'
     simp
    rw [this]
    exact jo
   ·intro b o e
    rcases jo.cases e with ⟨e,_⟩|⟨e,_⟩
    ·exact Le.one_new (w:=w) (by show (w.heap.push _)[w.heap.size]?=_; simp) b o e
    ·have hlt:=l12.lt (b:=b) (by rw [hule b o e]; exact fun h=>by cases h)
     show (w.heap.push _)[b]?=_
     rw [Array.getElem?_push,if_neg (Nat.ne_of_lt hlt)]
     exact l12 b o (hule b o e)
   ·intro k hk
    by_cases hkk:k=w.heap.size
    ·exact .inr (Nat.le_of_eq hkk.symm)
    ·refine .inl fun hn=>hk ((jo.is_none k).2 ⟨by simp [Hp.one,hkk],?_⟩)
     cases hh:hu' k with
     | none=>rfl
     | some o=>rw [hule k o hh] at hn; cases hn
  have keep:∀ (O:Obj) (k:Nat) (o:Obj),h12 k=Option.none→w.heap[k]?=some o→(w.drew.alloc O).heap[k]?=some o:=by
   intro O k o _ e
   have hlt:=(Array.getElem?_eq_some_iff.1 e).1
   show (w.heap.push _)[k]?=_
   rw [Array.getElem?_push,if_neg (Nat.ne_of_lt hlt)]
   exact e
  have same:∀ (O:Obj) (C:World),Same C w→Same C (w.drew.alloc O):=fun O C h=>h.drew.alloc O
  rcases ho with ⟨B,rfl,rfl,rfl⟩|⟨g,c,pre,used,spare,fr,hbk,rfl,p2,p3,p4,p5,jo,ol⟩
  ·cases B with
   | some b =>
    have hr:=run_append_grow (P:=P) w t ty e info zv hu hi hzz b 0 0 [] (by simp) (fun j v hv=>by simp at hv) ⟨g2,o2,none⟩ ys.length cx news hnl' hcell (by omega) (by omega) (by rw [hb,Nat.zero_add]; exact growslice_fits hpos (by simpa using hl))
    obtain ⟨h',f1,f2,f3⟩:=fresh 0 [] Hp.none (by simp; exact hpos) (Hp.le_refl _) ⟨rfl,rfl⟩
    simp only [List.length_nil,Nat.zero_add,List.nil_append] at f1 f2 hr ⊢
    exact ⟨_,_,_,h',hr,same _,f1,f2,f3,keep _⟩
   | none =>
   have hr:=run_append_nil (P:=P) w t ty e info zv hu hi hzz ⟨g2,o2,none⟩ ys.length cx news hnl' hcell hpos (by omega) (by rw [hb]; simp only [List.length_nil,Nat.zero_add] at hl; omega)
   obtain ⟨h',f1,f2,f3⟩:=fresh 0 [] Hp.none (by simp; exact hpos) (Hp.le_refl _) ⟨rfl,rfl⟩
   simp only [List.length_nil,Nat.zero_add,List.nil_append] at f1 f2 hr ⊢
   refine ⟨_,_,_,h',hr,same _,f1,?_,f3,keep _⟩
   rw [show ([]:List Value).toArray++news.toArray=news.toArray by simp] at f2
   exact f2
  ·have hblk:w.heap[g]?=some (.cells (pre++used++spare).toArray e fr):=l12 g _ (hj.left g _ (jo.left g _ (by simp [Hp.one])))
   have hul:=ownL_len ol
   by_cases hroom:xs.length+ys.length≤c
   ·-- in place
    have hsp:ys.length*K.sz≤spare.length:=by rw [p4]; exact Nat.mul_le_mul_right _ (by omega)
    obtain ⟨w',r,e',ot,sm⟩:=storeCells_blk (P:=P) (N:=(pre++used++spare).length) (T:=e) (fr:=fr) (b:=g) (by simpa [Nat.add_assoc] using p5) news (pre.length+xs.length*K.sz) 0 (pre++used++spare) w rfl hblk (by simp only [List.length_append]; omega) (ownL_one on)
    obtain ⟨hu',ju⟩:=Join.of_disj (h1:=hbk) (h2:=h2') (fun b=>by
     rcases hj.disj b with f | f
     ·exact .inl ((jo.is_none b).1 f).2
     ·refine .inr ?_
      cases hh:h2' b with
      | none=>rfl
      | some o=>rw [lh2 b o hh] at f; cases f)
    have hule:∀ b o,hu' b=some o→h12 b=some o∧b≠g:=fun b o e=>by
     rcases ju.cases e with ⟨e,_⟩|⟨e,_⟩
     ·refine ⟨hj.left b o (jo.right b o e),?_⟩
      rintro rfl
      rcases jo.disj b with f | f
      ·simp [Hp.one] at f
      ·rw [f] at e; cases e
     ·refine ⟨hj.right b o (lh2 b o e),?_⟩
      rintro rfl
      rcases hj.disj b with f | f
      ·have:=((jo.is_none b).1 f).1
       simp [Hp.one] at this
      ·rw [lh2 b o e] at f; cases f
    obtain ⟨h',jn⟩:=Join.of_disj (h1:=Hp.one g (.cells (pre++(used++news)++spare.drop news.length).toArray e fr)) (h2:=hu') (fun b=>by
     by_cases hbb:b=g
     ·refine .inr ?_
      cases hh:hu' b with
      | none=>rfl
      | some o=>exact absurd hbb (hule b o hh).2
     ·exact .inl (by simp [Hp.one,hbb]))
    have hcut:(pre++used++spare).take (pre.length+xs.length*K.sz+0)++news++(pre++used++spare).drop (pre.length+xs.length*K.sz+0+news.length)=pre++(used++news)++spare.drop news.length:=by
     have h1:pre.length+xs.length*K.sz+0=(pre++used).length:=by simp [hul]
     rw [h1,List.take_left,List.drop_append,List.drop_of_length_le (by omega),Nat.add_sub_cancel_left]
     simp [List.append_assoc]
    rw [hcut] at e'
    refine ⟨some ⟨g,pre.length,none⟩,c,w',h',?_,sm,.inr ⟨g,c,pre,used++news,spare.drop news.length,fr,hu',rfl,by rw [hlen]; exact hroom,p3,?_,?_,jn,ownL_app ju ol on⟩,?_,?_,?_⟩
    ·have hf:=run_firstCells_some (P:=P) w info.size ys.length ⟨g2,o2,none⟩ ys.length cx news hnl' hcell
     rw [hs] at hf
     simp [Builtin.append_,run_underlying hu,sizeOf,typeInfo,hi,Builtin.lenOf,hroom,hf,add_eq,hs,r,Sem.run_bind]
    ·rw [List.length_drop,p4,hnl,← Nat.sub_mul,hlen]
     congr 1
     omega
    ·rcases p5 with p5 | p5
     ·exact .inl p5
     ·refine .inr ?_
      simp only [List.length_append,List.length_drop]
      omega
    ·intro b o e
     rcases jn.cases e with ⟨e1,_⟩|⟨e1,_⟩
     ·simp only [Hp.one] at e1
      split at e1
      ·rename_i hbb; subst hbb; rw [← Option.some.inj e1]; exact e'
      ·cases e1
     ·obtain ⟨q1,q2⟩:=hule b o e1
      rw [ot b q2]
      exact l12 b o q1
    ·intro k hk
     refine .inl fun hn=>hk ((jn.is_none k).2 ⟨?_,?_⟩)
     ·have:=((jo.is_none k).1 ((hj.is_none k).1 hn).1).1
      simp only [Hp.one] at *
      split at this
      ·cases this
      ·rename_i hne; rw [if_neg hne]
     ·cases hh:hu' k with
      | none=>rfl
      | some o=>rw [(hule k o hh).1] at hn; cases hn
    ·intro k o hk e
     have hne:k≠g:=by
      rintro rfl
      have:=((jo.is_none k).1 ((hj.is_none k).1 hk).1).1
      simp [Hp.one] at this
     rw [ot k hne]
     exact e
   ·have holds:∀ (j:Nat) (v:Value),used[j]?=some v→w.cell? ((⟨g,pre.length,none⟩:Addr).add j)=some v:=fun j v hv=>by
     have hlt:=(List.getElem?_eq_some_iff.1 hv).1
     rw [add_eq]
     simp only [World.cell?,hblk,Option.isSome_none,Bool.false_eq_true,if_false,List.getElem?_toArray]
     rw [List.append_assoc,List.getElem?_append_right (by omega),Nat.add_sub_cancel_left,List.getElem?_append_left hlt]
     exact hv
    have hr:=run_append_grow (P:=P) w t ty e info zv hu hi hzz ⟨g,pre.length,none⟩ xs.length c used (by rw [hul,hs]) holds ⟨g2,o2,none⟩ ys.length cx news hnl' hcell (by omega) (by omega) (by rw [hb]; exact growslice_fits (by omega) hl)
    obtain ⟨h',f1,f2,f3⟩:=fresh c used hbk (by omega) jo.right ol
    rw [← hlen] at hr
    rw [hlen] at hr f1
    refine ⟨_,_,_,h',by rw [hlen]; exact hr,same _,by rw [hlen]; exact f1,f2,f3,keep _⟩
end Go.Pg
