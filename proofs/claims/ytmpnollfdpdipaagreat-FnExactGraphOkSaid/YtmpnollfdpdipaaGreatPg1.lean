import Derived.WalkKit
import Derived.Deep.LoopGhost
import Derived.Test.YtmpnollfdpdipaaGreatPgF
set_option linter.unusedVariables false
set_option linter.unusedSimpArgs false
namespace Go.Pg
abbrev Env:=Nat→Value
def upd (σ:Env)(d:Nat)(v:Value):Env:=fun t=>cond (Nat.beq t d) v (σ t)
def updo (σ:Env):Option Nat→Value→Env
 | some d,v=>upd σ d v
 | none,_=>σ
def updl (σ:Env):List (Nat×Value)→Env
 | []=>σ
 | (d,v)::l=>upd (updl σ l) d v
def envOf (a:Act):Env:=fun t=>a.tmps.getD t undef
def ev (σ:Env):Operand→Value
 | .tmp t=>σ t
 | .const v=>v
 | .global g=>.pointer (some ⟨g,0,none⟩)
 | .func f=>.func (.func f) #[] #[]
theorem eval_env (a:Act):a.eval=ev (envOf a):=by
 funext x
 cases x<;>rfl
theorem upd_same (σ:Env)(d:Nat)(v:Value):upd σ d v d=v:=by simp [upd]
theorem upd_ne (σ:Env){d t:Nat}(v:Value)(h:t≠d):upd σ d v t=σ t:=by
 have:Nat.beq t d=false:=by
  cases hb:Nat.beq t d with
  | false=>rfl
  | true=>exact absurd (Nat.eq_of_beq_eq_true hb) h
 simp [upd,this]
theorem upd_self (σ:Env)(d:Nat){v:Value}(h:σ d=v):upd σ d v=σ:=by
 funext t
 by_cases e:t=d
 ·subst e; rw [upd_same,h]
 ·rw [upd_ne _ _ e]
theorem envOf_put (a:Act)(dst:Option Tmp)(v:Value)(h:∀ d,dst=some d→d<a.tmps.size):envOf (a.put dst v)=updo (envOf a) dst v:=by
 cases dst with
 | none=>rfl
 | some d =>
  funext t
  show (a.tmps.setIfInBounds d v).getD t undef=upd (envOf a) d v t
  have hd:=h d rfl
  by_cases e:t=d
  ·subst e
   rw [upd_same]
   simp [Array.getD_eq_getD_getElem?,hd]
  ·rw [upd_ne _ _ e]
   have e':¬ d=t:=fun h=>e h.symm
   simp [envOf,Array.getD_eq_getD_getElem?,Array.getElem?_setIfInBounds,e']
structure Nn where
 n:Nat
 ds:List Deferred
 alt:Act→World→Prop
@[reducible] def Nn.of (n:Nat):Nn:=⟨n,[],fun _ _=>False⟩
def lift (N:Nn)(Q:Exit→Env→World→Prop):Exit→Act→World→Prop:=fun e a w=>(a.tmps.size=N.n∧a.defers=N.ds∧Q e (envOf a) w)∨(e=.ret∧N.alt a w)
theorem lift_n {N:Nn}{Q:Exit→Env→World→Prop}{e:Exit}{a:Act}{w:World}(h:lift N Q e a w)(he:e≠.ret):a.tmps.size=N.n∧a.defers=N.ds∧Q e (envOf a) w:=h.resolve_right fun h=>he h.1
theorem lift_mono {N:Nn}{Q Q':Exit→Env→World→Prop}{e:Exit}{a:Act}{w:World}(h:lift N Q e a w)(hq:Q e (envOf a) w→Q' e (envOf a) w):lift N Q' e a w:=h.imp (fun ⟨a,b,c⟩=>⟨a,b,hq c⟩) id
def W (P:Program)(N:Nn)(c:Code)(Q:Exit→Env→World→Prop)(σ:Env)(w:World):Prop :=
 ∀ a:Act,a.tmps.size=N.n→a.defers=N.ds→envOf a=σ→c.wp P (lift N Q) a w
def WL (P:Program)(N:Nn)(ops:Array Oper)(rest:List Oper)(Q:Exit→Env→World→Prop)(σ:Env)(w:World):Prop :=
 ∀ a:Act,a.tmps.size=N.n→a.defers=N.ds→envOf a=σ→wpList P ops (lift N Q) rest a w
def dok (N:Nn):Option Nat→Bool
 | some d=>Nat.blt d N.n
 | none=>true
def gval (ops:Array Oper)(σ:Env)(j:Nat):Option Bool :=
 match (ops[j]?).bind (·.dst) with
 | some d=>match σ d with
  | .bool b=>some b
  | _=>none
 | none=>none
theorem yielded_env (ops:Array Oper)(a:Act)(j:Nat):yielded ops a.tmps j=gval ops (envOf a) j:=by
 unfold yielded gval
 cases h:(ops[j]?).bind (·.dst) with
 | none=>rfl
 | some d =>
  simp only [Option.bind_some,envOf,Array.getD_eq_getD_getElem?]
  cases ht:a.tmps[d]? with
  | none=>simp [undef]
  | some v=>cases v<;>simp
def want (ops:Array Oper)(σ:Env)(o:Oper):Bool :=
 match o.guard with
 | none=>true
 | some (j,b)=>gval ops σ j==some b
theorem wanted_env (ops:Array Oper)(a:Act)(o:Oper):Region.wanted o (yielded ops a.tmps)=want ops (envOf a) o:=by
 unfold Region.wanted want
 cases o.guard with
 | none=>rfl
 | some g=>simp only [yielded_env]
section
variable {P:Program}{n:Nn}{ops:Array Oper}{rest:List Oper}{o:Oper}{Q Q':Exit→Env→World→Prop}{σ:Env}{w:World}{c x y:Code}
theorem W.mono (h:W P n c Q σ w)(hq:∀ e σ w,Q e σ w→Q' e σ w):W P n c Q' σ w :=
 fun a h1 h2 h3=>wp_mono (h a h1 h2 h3) fun _ _ _ q=>lift_mono q (hq _ _ _)
def Then (K:Env→World→Prop)(Q:Exit→Env→World→Prop):Exit→Env→World→Prop
 | .normal,σ,w=>K σ w
 | e,σ,w=>Q e σ w
def InBlock (id:Nat)(Q:Exit→Env→World→Prop):Exit→Env→World→Prop
 | .exit id',σ,w=>cond (Nat.beq id' id) (Q .normal σ w) (Q (.exit id') σ w)
 | e,σ,w=>Q e σ w
theorem W_seq (h:W P n x (Then (fun σ w=>W P n y Q σ w) Q) σ w):W P n (.seq x y) Q σ w:=by
 intro a h1 h2 h3
 refine wp_seq (wp_mono (h a h1 h2 h3) ?_)
 rintro e a' w' q
 cases e with
 | normal =>
  obtain ⟨q1,q2,q3⟩:=lift_n q (by simp)
  exact q3 a' q1 q2 rfl
 | _=>exact q
theorem W_skip (h:Q .normal σ w):W P n .skip Q σ w:=fun a h1 h2 h3=>wp_skip (.inl ⟨h1,h2,h3▸h⟩)
theorem W_ret (h:Q .ret σ w):W P n .ret Q σ w:=fun a h1 h2 h3=>wp_ret (.inl ⟨h1,h2,h3▸h⟩)
theorem W_exit {id:Nat}(h:Q (.exit id) σ w):W P n (.exit id) Q σ w:=fun a h1 h2 h3=>wp_exit (.inl ⟨h1,h2,h3▸h⟩)
theorem W_cond {k:Operand}{b:Bool}(hb:ev σ k=.bool b)(h:W P n (cond b x y) Q σ w):W P n (.cond k x y) Q σ w:=by
 intro a h1 h2 h3
 refine wp_cond (t:=b) (by rw [eval_env,h3]; exact hb) ?_
 cases b
 ·exact h a h1 h2 h3
 ·exact h a h1 h2 h3
theorem W_block {id:Nat}(h:W P n c (InBlock id Q) σ w):W P n (.block id c) Q σ w:=by
 intro a h1 h2 h3
 refine wp_block (wp_mono (h a h1 h2 h3) ?_)
 rintro e a' w' q
 cases e with
 | exit id' =>
  obtain ⟨q1,q2,q3⟩:=lift_n q (by simp)
  unfold InBlock at q3
  show if id'=id then lift n Q .normal a' w' else lift n Q (.exit id') a' w'
  by_cases e:id'=id
  ·subst e
   rw [if_pos rfl]
   have:Nat.beq id' id'=true:=Nat.beq_refl id'
   simp only [this,cond_true] at q3
   exact .inl ⟨q1,q2,q3⟩
  ·rw [if_neg e]
   have:Nat.beq id' id=false:=by
    cases hb:Nat.beq id' id with
    | false=>rfl
    | true=>exact absurd (Nat.eq_of_beq_eq_true hb) e
   simp only [this,cond_false] at q3
   exact .inl ⟨q1,q2,q3⟩
 | _=>exact q
theorem W_region {id:Nat}{l:List Oper}(h:WL P n l.toArray l Q σ w):W P n (.region id l.toArray false) Q σ w :=
 fun a h1 h2 h3=>wp_region_lit (h a h1 h2 h3)
theorem WL_nil (h:Q .normal σ w):WL P n ops [] Q σ w:=fun a h1 h2 h3=>wpList_nil (.inl ⟨h1,h2,h3▸h⟩)
theorem W_loop (I:Nat→Env→World→Prop)(k:Nat)(h0:I k σ w)
  (round:∀ k σ w,I k σ w→W P n c (Then (fun σ' w'=>∃ k',k'<k∧I k' σ' w') Q) σ w):W P n (.loop c) Q σ w:=by
 intro a h1 h2 h3
 refine wp_loop_ghost (fun k a w=>a.tmps.size=n.n∧a.defers=n.ds∧I k (envOf a) w) k ⟨h1,h2,h3▸h0⟩ ?_
 rintro k a w ⟨g1,g2,g3⟩
 refine wp_mono (round k _ w g3 a g1 g2 rfl) ?_
 rintro e a' w' q
 cases e with
 | normal =>
  obtain ⟨q1,q2,k',hk,hI⟩:=lift_n q (by simp)
  exact ⟨k',hk,q1,q2,hI⟩
 | _=>exact q
def Upon (P:Program)(o:Oper)(σ:Env)(next:Env→World→Prop)(Q:Exit→Env→World→Prop):Result Next→Prop
 | .ok (.value v) w'=>next (updo σ o.dst v) w'
 | .ok .skip w'=>next (updo σ o.dst undef) w'
 | .ok (.enter f args) w'=>Calls P f args w' fun
   | .returned v,w''=>next (updo σ o.dst v) w''
   | .panicked chain,w''=>Q (.panic chain) σ w''
   | .outgrown,_=>False
 | .halt (.panic v) w'=>Q (.panic [{v,recovered:=false}]) σ w'
 | _=>False
theorem Calls.mono' {P:Program}{f:FuncId}{args:Array Value}{w:World}{R R':Ending→World→Prop}(h:Calls P f args w R)(hr:∀ e w',R e w'→R' e w'):Calls P f args w R' :=
 fun cs=>let ⟨e,w',fr,r,s⟩:=h cs; ⟨e,w',fr,hr _ _ r,s⟩
theorem WL_step (hd:dok n o.dst=true)(hw:want ops σ o=true)(h:Upon P o σ (fun σ w=>WL P n ops rest Q σ w) Q ((execOp (ev σ) o).run P w)):WL P n ops (o::rest) Q σ w:=by
 intro a h1 h2 h3
 refine wpList_step fun K hK=>?_
 rw [wanted_env,h3,hw,if_pos rfl]
 have hput:∀ v,envOf (a.put o.dst v)=updo σ o.dst v:=fun v=>by
  rw [envOf_put,h3]
  intro d e
  rw [e] at hd
  rw [h1]
  exact Nat.lt_of_lt_of_le (Nat.lt_succ_self _) (Nat.le_of_ble_eq_true hd)
 have hsz:∀ v,(a.put o.dst v).tmps.size=n.n:=fun v=>by
  cases hdd:o.dst with
  | none=>exact h1
  | some d=>show (a.tmps.setIfInBounds d v).size=n.n; rw [Array.size_setIfInBounds,h1]
 have hdf:∀ v,(a.put o.dst v).defers=n.ds:=fun v=>by
  cases hdd:o.dst with
  | none=>exact h2
  | some d=>exact h2
 unfold Oper.wp
 rw [eval_env,h3]
 revert h
 generalize (execOp (ev σ) o).run P w=r
 intro h
 match r,h with
 | .ok (.value v) w',h=>exact hK _ _ (h _ (hsz v) (hdf v) (hput v))
 | .ok .skip w',h=>exact hK _ _ (h _ (hsz _) (hdf _) (hput _))
 | .ok (.enter f args) w',h =>
  refine Calls.mono' h ?_
  intro e w'' he
  cases e with
  | returned v=>exact hK _ _ (he _ (hsz v) (hdf v) (hput v))
  | panicked chain=>exact .inl ⟨h1,h2,h3▸he⟩
  | outgrown=>exact he.elim
 | .halt (.panic v) w',h=>exact .inl ⟨h1,h2,h3▸h⟩
theorem WL_off (hd:dok n o.dst=true)(hw:want ops σ o=false)(h:WL P n ops rest Q (updo σ o.dst undef) w):WL P n ops (o::rest) Q σ w:=by
 intro a h1 h2 h3
 refine wpList_step fun K hK=>?_
 rw [wanted_env,h3,hw]
 simp only [Bool.false_eq_true,if_false]
 refine hK _ _ (h _ ?_ ?_ ?_)
 ·cases hdd:o.dst with
  | none=>exact h1
  | some d=>show (a.tmps.setIfInBounds d _).size=n.n; rw [Array.size_setIfInBounds,h1]
 ·cases hdd:o.dst with
  | none=>exact h2
  | some d=>exact h2
 ·rw [envOf_put,h3]
  intro d e
  rw [e] at hd
  rw [h1]
  exact Nat.lt_of_lt_of_le (Nat.lt_succ_self _) (Nat.le_of_ble_eq_true hd)
end
def resultsE (fn:Func)(σ:Env):Sem Value:=do
 let vs ← fn.results.mapM fun
  | .tmp t=>pure (σ t)
  | .cell a t=>do loadVar t (← asAddr (σ a))
 pure (if h:vs.size=1 then vs[0] else .tuple vs)
def Ends (P:Program)(fn:Func)(R:Value→World→Prop):Exit→Env→World→Prop
 | .normal,σ,w | .ret,σ,w=>∃ v,(resultsE fn σ).run P w=.ok v w∧R v w
 | _,_,_=>False
def env0 (args:Array Value):Env:=fun t=>args.getD t undef
theorem env0_eq {args:Array Value}{n:Nat}:envOf {tmps:=args++Array.replicate (n - args.size) undef,defers:=[]}=env0 args:=by
 funext t
 simp only [envOf,env0,Array.getD_eq_getD_getElem?,Array.getElem?_append]
 split
 ·rfl
 ·rename_i ht
  rw [Array.getElem?_eq_none (by omega:args.size≤t)]
  by_cases h2:t - args.size<n - args.size
  ·simp [h2]
  ·simp [h2]
theorem calls_of_W {P:Program}{f:FuncId}{fn:Func}{c:Code}{args:Array Value}{w:World}{R:Value→World→Prop}
  (hf:P.funcs[f]?=some fn) (hb:fn.body=some c) (hn:args.size≤fn.ntmps) (h:W P (.of fn.ntmps) c (Ends P fn R) (env0 args) w) :
  Calls P f args w fun e w'=>∃ v,e=.returned v∧R v w':=by
 refine calls_of_wp hf hb ?_
 refine wp_mono (h _ (by simp; omega) rfl ?_) ?_
 ·exact env0_eq
 ·rintro e a w' q
  obtain ⟨q1,q2,q3⟩:=q.resolve_right fun h=>h.2
  cases e with
  | normal =>
   obtain ⟨v,hr,hR⟩:=q3
   exact ⟨q2,v,hr,v,rfl,hR⟩
  | ret =>
   obtain ⟨v,hr,hR⟩:=q3
   exact ⟨q2,v,hr,v,rfl,hR⟩
  | _=>exact q3.elim
end Go.Pg
