import Derived.WalkKit
import Derived.Deep.LoopGhost
import Derived.Test.YtmpnollfdpdipaaGreatPgF
set_option linter.unusedVariables false
set_option linter.unusedSimpArgs false
namespace Go.Pg
abbrev cZ:=Nat→Value
def ku (σ:cZ)(d:Nat)(v:Value):cZ:=fun t=>cond (Nat.beq t d) v (σ t)
def fV (σ:cZ):Option Nat→Value→cZ
 | some d,v=>ku σ d v
 | none,_=>σ
def oX (σ:cZ):List (Nat×Value)→cZ
 | []=>σ
 | (d,v)::l=>ku (oX σ l) d v
def eU (a:Act):cZ:=fun t=>a.tmps.getD t undef
def ev (σ:cZ):Operand→Value
 | .tmp t=>σ t
 | .const v=>v
 | .global g=>.pointer (some ⟨g,0,none⟩)
 | .func f=>.func (.func f) #[] #[]
theorem jG (a:Act):a.eval=ev (eU a):=by
 funext x
 cases x<;>rfl
theorem nX (σ:cZ)(d:Nat)(v:Value):ku σ d v d=v:=by simp [ku]
theorem rD (σ:cZ){d t:Nat}(v:Value)(h:t≠d):ku σ d v t=σ t:=by
 have:Nat.beq t d=false:=by
  cases hb:Nat.beq t d with
  | false=>rfl
  | true=>exact absurd (Nat.eq_of_beq_eq_true hb) h
 simp [ku,this]
theorem rE (σ:cZ)(d:Nat){v:Value}(h:σ d=v):ku σ d v=σ:=by
 funext t
 by_cases e:t=d
 ·subst e; rw [nX,h]
 ·rw [rD _ _ e]
theorem jV (a:Act)(b:Option Tmp)(v:Value)(h:∀ d,b=some d→d<a.tmps.size):eU (a.put b v)=fV (eU a) b v:=by
 cases b with
 | none=>rfl
 | some d =>
  funext t
  show (a.tmps.setIfInBounds d v).getD t undef=ku (eU a) d v t
  have g:=h d rfl
  by_cases e:t=d
  ·subst e
   rw [nX]
   simp [Array.getD_eq_getD_getElem?,g]
  ·rw [rD _ _ e]
   have i:¬ d=t:=fun h=>e h.symm
   simp [eU,Array.getD_eq_getD_getElem?,Array.getElem?_setIfInBounds,i]
structure Nn where
 n:Nat
 ds:List Deferred
 alt:Act→World→Prop
@[reducible] def Nn.of (n:Nat):Nn:=⟨n,[],fun _ _=>False⟩
def gM (N:Nn)(Q:Exit→cZ→World→Prop):Exit→Act→World→Prop:=fun e a w=>(a.tmps.size=N.n∧a.defers=N.ds∧Q e (eU a) w)∨(e=.ret∧N.alt a w)
theorem fG {N:Nn}{Q:Exit→cZ→World→Prop}{e:Exit}{a:Act}{w:World}(h:gM N Q e a w)(b:e≠.ret):a.tmps.size=N.n∧a.defers=N.ds∧Q e (eU a) w:=h.resolve_right fun h=>b h.1
theorem mV {N:Nn}{Q Q':Exit→cZ→World→Prop}{e:Exit}{a:Act}{w:World}(h:gM N Q e a w)(g:Q e (eU a) w→Q' e (eU a) w):gM N Q' e a w:=h.imp (fun ⟨a,b,c⟩=>⟨a,b,g c⟩) id
def W (P:Program)(N:Nn)(c:Code)(Q:Exit→cZ→World→Prop)(σ:cZ)(w:World):Prop :=
 ∀ a:Act,a.tmps.size=N.n→a.defers=N.ds→eU a=σ→c.wp P (gM N Q) a w
def WL (P:Program)(N:Nn)(ops:Array Oper)(rest:List Oper)(Q:Exit→cZ→World→Prop)(σ:cZ)(w:World):Prop :=
 ∀ a:Act,a.tmps.size=N.n→a.defers=N.ds→eU a=σ→wpList P ops (gM N Q) rest a w
def iD (N:Nn):Option Nat→Bool
 | some d=>Nat.blt d N.n
 | none=>true
def kX (ops:Array Oper)(σ:cZ)(j:Nat):Option Bool :=
 match (ops[j]?).bind (·.dst) with
 | some d=>match σ d with
  | .bool b=>some b
  | _=>none
 | none=>none
theorem nY (ops:Array Oper)(a:Act)(j:Nat):yielded ops a.tmps j=kX ops (eU a) j:=by
 unfold yielded kX
 cases h:(ops[j]?).bind (·.dst) with
 | none=>rfl
 | some d =>
  simp only [Option.bind_some,eU,Array.getD_eq_getD_getElem?]
  cases ht:a.tmps[d]? with
  | none=>simp [undef]
  | some v=>cases v<;>simp
def dP (ops:Array Oper)(σ:cZ)(o:Oper):Bool :=
 match o.guard with
 | none=>true
 | some (j,b)=>kX ops σ j==some b
theorem j8 (ops:Array Oper)(a:Act)(o:Oper):Region.wanted o (yielded ops a.tmps)=dP ops (eU a) o:=by
 unfold Region.wanted dP
 cases o.guard with
 | none=>rfl
 | some g=>simp only [nY]
section
variable {P:Program}{n:Nn}{ops:Array Oper}{rest:List Oper}{o:Oper}{Q Q':Exit→cZ→World→Prop}{σ:cZ}{w:World}{c x y:Code}
theorem W.mono (h:W P n c Q σ w)(b:∀ e σ w,Q e σ w→Q' e σ w):W P n c Q' σ w :=
 fun a h1 h2 g=>wp_mono (h a h1 h2 g) fun _ _ _ q=>mV q (b _ _ _)
def iu (K:cZ→World→Prop)(Q:Exit→cZ→World→Prop):Exit→cZ→World→Prop
 | .normal,σ,w=>K σ w
 | e,σ,w=>Q e σ w
def j9 (a:Nat)(Q:Exit→cZ→World→Prop):Exit→cZ→World→Prop
 | .exit id',σ,w=>cond (Nat.beq id' a) (Q .normal σ w) (Q (.exit id') σ w)
 | e,σ,w=>Q e σ w
theorem xZ (h:W P n x (iu (fun σ w=>W P n y Q σ w) Q) σ w):W P n (.seq x y) Q σ w:=by
 intro a h1 h2 j
 refine wp_seq (wp_mono (h a h1 h2 j) ?_)
 rintro e b m q
 cases e with
 | normal =>
  obtain ⟨i,l,g⟩:=fG q (by simp)
  exact g b i l rfl
 | _=>exact q
theorem w4 (h:Q .normal σ w):W P n .skip Q σ w:=fun a h1 h2 b=>wp_skip (.inl ⟨h1,h2,b▸h⟩)
theorem y1 (h:Q .ret σ w):W P n .ret Q σ w:=fun a h1 h2 b=>wp_ret (.inl ⟨h1,h2,b▸h⟩)
theorem w6 {b:Nat}(h:Q (.exit b) σ w):W P n (.exit b) Q σ w:=fun a h1 h2 e=>wp_exit (.inl ⟨h1,h2,e▸h⟩)
theorem rF {k:Operand}{b:Bool}(g:ev σ k=.bool b)(h:W P n (cond b x y) Q σ w):W P n (.cond k x y) Q σ w:=by
 intro a h1 h2 e
 refine wp_cond (t:=b) (by rw [jG,e]; exact g) ?_
 cases b
 ·exact h a h1 h2 e
 ·exact h a h1 h2 e
theorem tV {b:Nat}(h:W P n c (j9 b Q) σ w):W P n (.block b c) Q σ w:=by
 intro a h1 h2 r
 refine wp_block (wp_mono (h a h1 h2 r) ?_)
 rintro e j i q
 cases e with
 | exit id' =>
  obtain ⟨l,m,g⟩:=fG q (by simp)
  unfold j9 at g
  show if id'=b then gM n Q .normal j i else gM n Q (.exit id') j i
  by_cases e:id'=b
  ·subst e
   rw [if_pos rfl]
   have:Nat.beq id' id'=true:=Nat.beq_refl id'
   simp only [this,cond_true] at g
   exact .inl ⟨l,m,g⟩
  ·rw [if_neg e]
   have:Nat.beq id' b=false:=by
    cases hb:Nat.beq id' b with
    | false=>rfl
    | true=>exact absurd (Nat.eq_of_beq_eq_true hb) e
   simp only [this,cond_false] at g
   exact .inl ⟨l,m,g⟩
 | _=>exact q
theorem rG {b:Nat}{l:List Oper}(h:WL P n l.toArray l Q σ w):W P n (.region b l.toArray false) Q σ w :=
 fun a h1 h2 e=>wp_region_lit (h a h1 h2 e)
theorem w7 (h:Q .normal σ w):WL P n ops [] Q σ w:=fun a h1 h2 b=>wpList_nil (.inl ⟨h1,h2,b▸h⟩)
theorem w8 (I:Nat→cZ→World→Prop)(k:Nat)(r:I k σ w)
  (b:∀ k σ w,I k σ w→W P n c (iu (fun σ' h=>∃ g,g<k∧I g σ' h) Q) σ w):W P n (.loop c) Q σ w:=by
 intro a h1 h2 u
 refine wp_loop_ghost (fun k a w=>a.tmps.size=n.n∧a.defers=n.ds∧I k (eU a) w) k ⟨h1,h2,u▸r⟩ ?_
 rintro k a w ⟨g1,m,j⟩
 refine wp_mono (b k _ w j a g1 m rfl) ?_
 rintro e D h q
 cases e with
 | normal =>
  obtain ⟨s,B,g,i,l⟩:=fG q (by simp)
  exact ⟨g,i,s,B,l⟩
 | _=>exact q
def An (P:Program)(o:Oper)(σ:cZ)(a:cZ→World→Prop)(Q:Exit→cZ→World→Prop):Result Next→Prop
 | .ok (.value v) w'=>a (fV σ o.dst v) w'
 | .ok .skip w'=>a (fV σ o.dst undef) w'
 | .ok (.enter f args) w'=>Calls P f args w' fun
   | .returned v,w''=>a (fV σ o.dst v) w''
   | .panicked chain,w''=>Q (.panic chain) σ w''
   | .outgrown,_=>False
 | .halt (.panic v) w'=>Q (.panic [{v,recovered:=false}]) σ w'
 | _=>False
theorem Calls.mono' {P:Program}{f:FuncId}{args:Array Value}{w:World}{R b:Ending→World→Prop}(h:Calls P f args w R)(g:∀ e a,R e a→b e a):Calls P f args w b :=
 fun cs=>let ⟨e,a,fr,r,s⟩:=h cs; ⟨e,a,fr,g _ _ r,s⟩
theorem eN (q:iD n o.dst=true)(hw:dP ops σ o=true)(h:An P o σ (fun σ w=>WL P n ops rest Q σ w) Q ((execOp (ev σ) o).run P w)):WL P n ops (o::rest) Q σ w:=by
 intro a h1 h2 j
 refine wpList_step fun K l=>?_
 rw [j8,j,hw,if_pos rfl]
 have b:∀ v,eU (a.put o.dst v)=fV σ o.dst v:=fun v=>by
  rw [jV,j]
  intro d e
  rw [e] at q
  rw [h1]
  exact Nat.lt_of_lt_of_le (Nat.lt_succ_self _) (Nat.le_of_ble_eq_true q)
 have g:∀ v,(a.put o.dst v).tmps.size=n.n:=fun v=>by
  cases hdd:o.dst with
  | none=>exact h1
  | some d=>show (a.tmps.setIfInBounds d v).size=n.n; rw [Array.size_setIfInBounds,h1]
 have i:∀ v,(a.put o.dst v).defers=n.ds:=fun v=>by
  cases hdd:o.dst with
  | none=>exact h2
  | some d=>exact h2
 unfold Oper.wp
 rw [jG,j]
 revert h
 generalize (execOp (ev σ) o).run P w=r
 intro h
 match r,h with
 | .ok (.value v) w',h=>exact l _ _ (h _ (g v) (i v) (b v))
 | .ok .skip w',h=>exact l _ _ (h _ (g _) (i _) (b _))
 | .ok (.enter f args) w',h =>
  refine Calls.mono' h ?_
  intro e s m
  cases e with
  | returned v=>exact l _ _ (m _ (g v) (i v) (b v))
  | panicked chain=>exact .inl ⟨h1,h2,j▸m⟩
  | outgrown=>exact m.elim
 | .halt (.panic v) w',h=>exact .inl ⟨h1,h2,j▸h⟩
theorem w9 (b:iD n o.dst=true)(hw:dP ops σ o=false)(h:WL P n ops rest Q (fV σ o.dst undef) w):WL P n ops (o::rest) Q σ w:=by
 intro a h1 h2 g
 refine wpList_step fun K i=>?_
 rw [j8,g,hw]
 simp only [Bool.false_eq_true,if_false]
 refine i _ _ (h _ ?_ ?_ ?_)
 ·cases hdd:o.dst with
  | none=>exact h1
  | some d=>show (a.tmps.setIfInBounds d _).size=n.n; rw [Array.size_setIfInBounds,h1]
 ·cases hdd:o.dst with
  | none=>exact h2
  | some d=>exact h2
 ·rw [jV,g]
  intro d e
  rw [e] at b
  rw [h1]
  exact Nat.lt_of_lt_of_le (Nat.lt_succ_self _) (Nat.le_of_ble_eq_true b)
end
def hG (fn:Func)(σ:cZ):Sem Value:=do
 let vs ← fn.results.mapM fun
  | .tmp t=>pure (σ t)
  | .cell a t=>do loadVar t (← asAddr (σ a))
 pure (if h:vs.size=1 then vs[0] else .tuple vs)
def m8 (P:Program)(fn:Func)(R:Value→World→Prop):Exit→cZ→World→Prop
 | .normal,σ,w | .ret,σ,w=>∃ v,(hG fn σ).run P w=.ok v w∧R v w
 | _,_,_=>False
def rH (args:Array Value):cZ:=fun t=>args.getD t undef
theorem pS {args:Array Value}{n:Nat}:eU {tmps:=args++Array.replicate (n - args.size) undef,defers:=[]}=rH args:=by
 funext t
 simp only [eU,rH,Array.getD_eq_getD_getElem?,Array.getElem?_append]
 split
 ·rfl
 ·rename_i a
  rw [Array.getElem?_eq_none (by omega:args.size≤t)]
  by_cases h2:t - args.size<n - args.size
  ·simp [h2]
  ·simp [h2]
theorem oY {P:Program}{f:FuncId}{fn:Func}{c:Code}{args:Array Value}{w:World}{R:Value→World→Prop}
  (m:P.funcs[f]?=some fn) (r:fn.body=some c) (s:args.size≤fn.ntmps) (h:W P (.of fn.ntmps) c (m8 P fn R) (rH args) w) :
  Calls P f args w fun e j=>∃ v,e=.returned v∧R v j:=by
 refine calls_of_wp m r ?_
 refine wp_mono (h _ (by simp; omega) rfl ?_) ?_
 ·exact pS
 ·rintro e a j q
  obtain ⟨u,l,i⟩:=q.resolve_right fun h=>h.2
  cases e with
  | normal =>
   obtain ⟨v,b,g⟩:=i
   exact ⟨l,v,b,v,rfl,g⟩
  | ret =>
   obtain ⟨v,b,g⟩:=i
   exact ⟨l,v,b,v,rfl,g⟩
  | _=>exact i.elim
end Go.Pg
namespace Go.Pg
abbrev Hp:=Nat→Option Obj
def Hp.none:Hp:=fun _=>Option.none
def Hp.one (b:Nat)(o:Obj):Hp:=fun k=>if k=b then some o else Option.none
def Hp.le (h g:Hp):Prop:=∀ b o,h b=some o→g b=some o
def Join (h1 h2 g:Hp):Prop:=∀ b,(h1 b=Option.none∧g b=h2 b)∨(h2 b=Option.none∧g b=h1 b)
theorem Hp.le_refl (h:Hp):Hp.le h h:=fun _ _ e=>e
theorem Hp.le_trans {f g h:Hp}(a:Hp.le f g)(b:Hp.le g h):Hp.le f h:=fun _ _ e=>b _ _ (a _ _ e)
theorem Hp.none_le (h:Hp):Hp.le Hp.none h:=fun _ _ e=>by cases e
theorem Join.symm {h1 h2 g:Hp}(j:Join h1 h2 g):Join h2 h1 g:=fun b=>(j b).symm
theorem Join.none (h:Hp):Join Hp.none h h:=fun b=>.inl ⟨rfl,rfl⟩
theorem Join.none' (h:Hp):Join h Hp.none h:=(Join.none h).symm
theorem Join.eq_of_none {h g:Hp}(j:Join Hp.none h g):g=h:=by
 funext b
 rcases j b with ⟨_,e⟩|⟨a,e⟩
 ·exact e
 ·rw [e,a]; rfl
theorem Join.left {h1 h2 g:Hp}(j:Join h1 h2 g):Hp.le h1 g:=fun b o e=>by
 rcases j b with ⟨a,_⟩|⟨_,h⟩
 ·rw [a] at e; cases e
 ·rw [h]; exact e
theorem Join.right {h1 h2 g:Hp}(j:Join h1 h2 g):Hp.le h2 g:=j.symm.left
theorem Join.of_disj {h1 h2:Hp}(d:∀ b,h1 b=Option.none∨h2 b=Option.none):∃ g,Join h1 h2 g:=by
 refine ⟨fun b=>(h1 b).or (h2 b),fun b=>?_⟩
 rcases d b with e | e
 ·exact .inl ⟨e,by simp [e]⟩
 ·refine .inr ⟨e,by simp [e]⟩
theorem Join.disj {h1 h2 g:Hp}(j:Join h1 h2 g)(b:Nat):h1 b=Option.none∨h2 b=Option.none:=by
 rcases j b with ⟨e,_⟩|⟨e,_⟩
 ·exact .inl e
 ·exact .inr e
theorem Join.cases {h1 h2 g:Hp}(j:Join h1 h2 g){b:Nat}{o:Obj}(e:g b=some o):(h1 b=some o∧h2 b=Option.none)∨(h2 b=some o∧h1 b=Option.none):=by
 rcases j b with ⟨a,c⟩|⟨a,c⟩
 ·exact .inr ⟨c▸e,a⟩
 ·exact .inl ⟨c▸e,a⟩
theorem Join.is_none {h1 h2 g:Hp}(j:Join h1 h2 g)(b:Nat):g b=Option.none↔h1 b=Option.none∧h2 b=Option.none:=by
 rcases j b with ⟨a,c⟩|⟨a,c⟩
 ·rw [c]; exact ⟨fun h=>⟨a,h⟩,fun h=>h.2⟩
 ·rw [c]; exact ⟨fun h=>⟨h,a⟩,fun h=>h.1⟩
theorem Join.assoc {a b c s g:Hp}(u:Join a b s)(r:Join s c g):∃ m,Join b c m∧Join a m g:=by
 obtain ⟨m,i⟩:=Join.of_disj (h1:=b) (h2:=c) (fun k=>by
  rcases r.disj k with e | e
  ·exact .inl ((u.is_none k).1 e).2
  ·exact .inr e)
 refine ⟨m,i,fun k=>?_⟩
 rcases u k with ⟨q,l⟩|⟨q,l⟩
 ·refine .inl ⟨q,?_⟩
  rcases r k with ⟨f1,j⟩|⟨f1,j⟩
  ·rw [j]
   rcases i k with ⟨g1,h⟩|⟨g1,h⟩
   ·exact h.symm
   ·rw [g1,h]; rw [l] at f1; exact f1.symm
  ·rw [j,l]
   rcases i k with ⟨g1,h⟩|⟨g1,h⟩
   ·rw [h,f1]; exact g1
   ·exact h.symm
 ·rcases r k with ⟨f1,j⟩|⟨f1,j⟩
  ·rw [l] at f1
   refine .inl ⟨f1,?_⟩
   rw [j]
   rcases i k with ⟨g1,h⟩|⟨g1,h⟩
   ·exact h.symm
   ·rw [g1,h,q]
  ·refine .inr ⟨?_,by rw [j,l]⟩
   rcases i k with ⟨g1,h⟩|⟨g1,h⟩
   ·rw [h,f1]
   ·rw [h,q]
theorem Join.assoc' {a b c h g:Hp}(l:Join b c h)(i:Join a h g):∃ e,Join a b e∧Join e c g:=by
 obtain ⟨j,h1,h2⟩:=Join.assoc l.symm i.symm
 exact ⟨j,h1.symm,h2.symm⟩
structure HP where
 p:Hp→Hp→Prop
 mono:∀ {I J h},Hp.le I J→p I h→p J h
def Ao:HP:=⟨fun _ h=>h=Hp.none,fun _ e=>e⟩
def eQ:List HP→Hp→Hp→Prop
 | [],_,h=>h=Hp.none
 | q::V,I,h=>∃ h1 h2,Join h1 h2 h∧q.p I h1∧eQ V I h2
theorem iB {V:List HP}{I J h:Hp}(l:Hp.le I J)(s:eQ V I h):eQ V J h:=by
 induction V generalizing h with
 | nil=>exact s
 | cons q V ih =>
  obtain ⟨h1,h2,j,a,b⟩:=s
  exact ⟨h1,h2,j,q.mono l a,ih b⟩
def lk:List HP→Nat→HP
 | [],_=>Ao
 | q::_,0=>q
 | _::V,i+1=>lk V i
def vk:List HP→Nat→HP→List HP
 | [],_,q=>[q]
 | _::V,0,q=>q::V
 | p::V,i+1,q=>p::vk V i q
def rm:List HP→Nat→List HP
 | [],_=>[]
 | _::V,0=>V
 | p::V,i+1=>p::rm V i
def mv (V:List HP)(i:Nat):List HP:=lk V i::rm V i
theorem eS {V:List HP}{I h:Hp}(i:Nat)(s:eQ V I h):∃ h1 h2,Join h1 h2 h∧(lk V i).p I h1∧eQ (rm V i) I h2:=by
 induction V generalizing h i with
 | nil=>exact ⟨Hp.none,h,Join.none h,rfl,s⟩
 | cons q V ih =>
  cases i with
  | zero=>exact s
  | succ i =>
   obtain ⟨h1,h2,j,a,b⟩:=s
   obtain ⟨g1,r,g,c,d⟩:=ih i b
   obtain ⟨k,k1,l⟩:=Join.assoc' g j
   obtain ⟨m,u,e⟩:=Join.assoc k1.symm l
   exact ⟨g1,m,e,c,h1,r,u,a,d⟩
theorem nZ {V:List HP}{I h h1 h2:Hp}(i:Nat){q:HP}(j:Join h1 h2 h)(a:q.p I h1)(b:eQ (rm V i) I h2):eQ (vk V i q) I h:=by
 induction V generalizing h h2 i with
 | nil=>exact ⟨h1,h2,j,a,b⟩
 | cons p V ih =>
  cases i with
  | zero=>exact ⟨h1,h2,j,a,b⟩
  | succ i =>
   obtain ⟨g1,s,g,c,d⟩:=b
   obtain ⟨k,k1,l⟩:=Join.assoc' g j
   obtain ⟨m,r,e⟩:=Join.assoc k1.symm l
   exact ⟨g1,m,e,c,ih i r d⟩
theorem tW {V:List HP}{I h:Hp}(i:Nat)(s:eQ V I h):eQ (mv V i) I h:=eS i s
theorem cD {A V:List HP}{I h:Hp}:eQ (A++V) I h↔∃ h1 h2,Join h1 h2 h∧eQ A I h1∧eQ V I h2:=by
 induction A generalizing h with
 | nil=>exact ⟨fun s=>⟨Hp.none,h,Join.none h,rfl,s⟩,fun ⟨h1,h2,j,a,b⟩=>by cases a; rw [j.eq_of_none]; exact b⟩
 | cons q A ih =>
  constructor
  ·rintro ⟨h1,h2,j,a,b⟩
   obtain ⟨g1,i,e,c,d⟩:=ih.1 b
   obtain ⟨k,k1,g⟩:=Join.assoc' e j
   exact ⟨k,i,g,⟨h1,g1,k1,a,c⟩,d⟩
  ·rintro ⟨h1,h2,j,⟨g1,i,e,a,b⟩,c⟩
   obtain ⟨k,k1,g⟩:=Join.assoc e j
   exact ⟨g1,k,g,a,ih.2 ⟨i,h2,k1,b,c⟩⟩
def Le (g:Hp)(w:World):Prop:=∀ b o,g b=some o→w.heap[b]?=some o
structure Same (C w:World):Prop where
 os:w.os=C.os
 tape:w.tape=C.tape
 output:w.output=C.output
def St (C w:World)(V:List HP):Prop:=Same C w∧∃ I h g,Join I h g∧Le g w∧eQ V I h
theorem Le.lt {g:Hp}{w:World}(l:Le g w){b:Nat}(h:g b≠Option.none):b<w.heap.size:=by
 cases e:g b with
 | none=>exact absurd e h
 | some o=>exact (Array.getElem?_eq_some_iff.1 (l b o e)).1
theorem Le.mono {g a:Hp}{w:World}(l:Le g w)(h:Hp.le a g):Le a w:=fun b o e=>l b o (h b o e)
theorem Le.alloc {g:Hp}{w:World}(l:Le g w)(o:Obj):Le g (w.alloc o):=fun b o' e=>by
 have a:=l.lt (b:=b) (by rw [e]; exact fun h=>by cases h)
 show (w.heap.push o)[b]?=some o'
 rw [Array.getElem?_push,if_neg (Nat.ne_of_lt a)]
 exact l b o' e
theorem Same.alloc {C w:World}(s:Same C w)(o:Obj):Same C (w.alloc o):=⟨s.os,s.tape,s.output⟩
theorem Same.setCell {C w:World}(s:Same C w)(a:Addr)(v:Value):Same C (w.setCell a v):=⟨s.os,s.tape,s.output⟩
theorem Same.drew {C w:World}(s:Same C w):Same C w.drew:=⟨s.os,s.tape,s.output⟩
theorem St.mv {C w:World}{V:List HP}(s:St C w V)(i:Nat):St C w (mv V i):=by
 obtain ⟨a,I,h,g,j,l,s⟩:=s
 exact ⟨a,I,h,g,j,l,tW i s⟩
theorem St.rm {C w:World}{V:List HP}(s:St C w V)(i:Nat):St C w (rm V i):=by
 obtain ⟨a,I,h,g,j,l,s⟩:=s
 obtain ⟨h1,h2,e,_,s'⟩:=eS i s
 obtain ⟨k,k1,q⟩:=Join.assoc' e j
 obtain ⟨m,r,b⟩:=Join.assoc k1.symm q
 exact ⟨a,I,h2,m,r,l.mono b.right,s'⟩
theorem St.drew {C w:World}{V:List HP}(s:St C w V):St C w.drew V:=by
 obtain ⟨a,I,h,g,j,l,s⟩:=s
 exact ⟨a.drew,I,h,g,j,l,s⟩
theorem St.look {C w:World}{V:List HP}(s:St C w V)(i:Nat):∃ I h,(lk V i).p I h∧Le I w∧Le h w∧(∀ b,I b=Option.none∨h b=Option.none):=by
 obtain ⟨a,I,h,g,j,l,s⟩:=s
 obtain ⟨h1,h2,m,c,s'⟩:=eS i s
 exact ⟨I,h1,c,l.mono j.left,l.mono (Hp.le_trans m.left j.right),fun b=>by
  rcases j.disj b with e | e
  ·exact .inl e
  ·exact .inr ((m.is_none b).1 e).1⟩
theorem St.turn {C w G:World}{V:List HP}(s:St C w V)(i:Nat){q:HP}(U:Same C w→Same C G)
  (f:∀ I h,(lk V i).p I h→Le I w→Le h w→∃ r,q.p I r∧Le r G∧(∀ b,r b≠Option.none→h b≠Option.none∨w.heap.size≤b)∧∀ b o,h b=Option.none→w.heap[b]?=some o→G.heap[b]?=some o) :
  St C G (vk V i q):=by
 obtain ⟨a,I,h,g,j,l,s⟩:=s
 obtain ⟨h1,h2,u,c,s'⟩:=eS i s
 obtain ⟨r,Y,T,O,L⟩:=f I h1 c (l.mono j.left) (l.mono (Hp.le_trans u.left j.right))
 have E:∀ b,r b≠Option.none→I b=Option.none∧h2 b=Option.none:=by
  intro b Z
  rcases O b Z with e | e
  ·refine ⟨?_,?_⟩
   ·rcases j.disj b with f | f
    ·exact f
    ·exact absurd ((u.is_none b).1 f).1 e
   ·rcases u.disj b with f | f
    ·exact absurd f e
    ·exact f
  ·have:g b=Option.none:=by
    cases hg:g b with
    | none=>rfl
    | some o =>
     have:=(l.lt (b:=b) (by rw [hg]; exact fun h=>by cases h))
     omega
   have:=(j.is_none b).1 this
   exact ⟨this.1,((u.is_none b).1 this.2).2⟩
 obtain ⟨m,J⟩:=Join.of_disj (h1:=r) (h2:=h2) (fun b=>by
  by_cases e:r b=Option.none
  ·exact .inl e
  ·exact .inr (E b e).2)
 obtain ⟨g',D⟩:=Join.of_disj (h1:=I) (h2:=m) (fun b=>by
  by_cases e:r b=Option.none
  ·rcases j.disj b with f | f
   ·exact .inl f
   ·exact .inr ((J.is_none b).2 ⟨e,((u.is_none b).1 f).2⟩)
  ·exact .inl (E b e).1)
 refine ⟨U a,I,m,g',D,?_,nZ i J Y s'⟩
 intro b o e
 rcases D.cases e with ⟨F,e2⟩|⟨F,e2⟩
 ·refine L b o ?_ (l b o (j.left b o F))
  rcases j.disj b with f | f
  ·rw [f] at F; cases F
  ·exact ((u.is_none b).1 f).1
 ·rcases J.cases F with ⟨B,M⟩|⟨B,M⟩
  ·exact T b o B
  ·refine L b o ?_ (l b o (j.right b o (u.right b o B)))
   rcases u.disj b with f | f
   ·exact f
   ·rw [f] at B; cases B
theorem St.new {C w m:World}{V:List HP}(s:St C w V){q:HP}(u:Same C w→Same C m)
  (f:∀ I,Le I w→∃ i,q.p I i∧Le i m∧(∀ b,i b≠Option.none→w.heap.size≤b)) (B:∀ (b:Nat) (o:Obj),w.heap[b]?=some o→m.heap[b]?=some o) :
  St C m (q::V):=by
 have D:St C w (Ao::V):=by
  obtain ⟨a,I,h,g,j,l,s⟩:=s
  exact ⟨a,I,h,g,j,l,Hp.none,h,Join.none h,rfl,s⟩
 refine St.turn D 0 u ?_
 rintro I h e lI _
 obtain ⟨i,a,b,c⟩:=f I lI
 exact ⟨i,a,b,fun k r=>.inr (c k r),fun b o _ e=>B b o e⟩
theorem St.imp {C w:World}{A B V:List HP}(s:St C w (A++V))(f:∀ I h,Le I w→Le h w→eQ A I h→eQ B I h):St C w (B++V):=by
 obtain ⟨a,I,h,g,j,l,s⟩:=s
 obtain ⟨h1,h2,b,c,d⟩:=cD.1 s
 exact ⟨a,I,h,g,j,l,cD.2 ⟨h1,h2,b,f I h1 (l.mono j.left) (l.mono (Hp.le_trans b.left j.right)) c,d⟩⟩
theorem St.share {C w:World}{p q:HP}{V:List HP}(s:St C w (p::V))(f:∀ I J h,Hp.le I J→Hp.le h J→p.p I h→q.p J Hp.none):St C w (q::V):=by
 obtain ⟨a,I,h,g,j,l,h1,h2,b,c,d⟩:=s
 obtain ⟨k,k1,e⟩:=Join.assoc' b j
 exact ⟨a,k,h2,g,e,l,Hp.none,h2,Join.none h2,f I k h1 k1.left k1.right c,iB k1.left d⟩
end Go.Pg
namespace Go.Pg
def iE (g:Hp)(b k:Nat):Option Value :=
 match g b with
 | some (.cells c _ _)=>c[k]?
 | _=>none
theorem kh {g a:Hp}(l:Hp.le g a){b k:Nat}{v:Value}(h:iE g b k=some v):iE a b k=some v:=by
 unfold iE at *
 cases e:g b with
 | none=>rw [e] at h; cases h
 | some o=>rw [l b o e]; rw [e] at h; exact h
theorem iC {g:Hp}{w:World}(l:Le g w){b k:Nat}{v:Value}(h:iE g b k=some v):w.cell? ⟨b,k,none⟩=some v:=by
 unfold iE at h
 cases e:g b with
 | none=>rw [e] at h; cases h
 | some o =>
  have:=l b o e
  rw [e] at h
  cases o<;>simp at h
  simp [World.cell?,this,h]
structure Kind (α:Type) where
 sz:Nat
 rd:Hp→α→List Value→Prop
 own:Hp→Hp→α→List Value→Prop
 rd_mono:∀ {I J x cs},Hp.le I J→rd I x cs→rd J x cs
 own_mono:∀ {I J h x cs},Hp.le I J→own I h x cs→own J h x cs
 own_rd:∀ {I J h x cs},Hp.le I J→Hp.le h J→own I h x cs→rd J x cs
 rd_len:∀ {I x cs},rd I x cs→cs.length=sz
 own_len:∀ {I h x cs},own I h x cs→cs.length=sz
 rd_one:∀ {I x cs},rd I x cs→∀ u∈cs,u.oneCell'=true
 own_one:∀ {I h x cs},own I h x cs→∀ u∈cs,u.oneCell'=true
def Kind.Closed {α:Type}(K:Kind α):Prop:=∀ I J h x cs,K.own I h x cs→K.own J h x cs
def Kind.Flat {α:Type}(K:Kind α):Prop:=∀ I x cs,K.rd I x cs→K.own I Hp.none x cs
section
variable {α:Type}(K:Kind α)
def gF (I:Hp):Hp→List α→List Value→Prop
 | h,[],cs=>h=Hp.none∧cs=[]
 | h,x::xs,cs=>∃ h1 h2 a b,Join h1 h2 h∧cs=a++b∧K.own I h1 x a∧gF I h2 xs b
theorem kY {K:Kind α}{I J:Hp}(l:Hp.le I J){h:Hp}{xs:List α}{cs:List Value}(o:gF K I h xs cs):gF K J h xs cs:=by
 induction xs generalizing h cs with
 | nil=>exact o
 | cons x xs ih =>
  obtain ⟨h1,h2,g,i,j,e,a,b⟩:=o
  exact ⟨h1,h2,g,i,j,e,K.own_mono l a,ih b⟩
theorem n' {K:Kind α}(g:K.Closed){I J:Hp}{h:Hp}{xs:List α}{cs:List Value}(o:gF K I h xs cs):gF K J h xs cs:=by
 induction xs generalizing h cs with
 | nil=>exact o
 | cons x xs ih =>
  obtain ⟨h1,h2,i,l,j,e,a,b⟩:=o
  exact ⟨h1,h2,i,l,j,e,g _ _ _ _ _ a,ih b⟩
theorem m9 {K:Kind α}{I h:Hp}{xs:List α}{cs:List Value}(o:gF K I h xs cs):cs.length=xs.length*K.sz:=by
 induction xs generalizing h cs with
 | nil=>rw [o.2]; simp
 | cons x xs ih =>
  obtain ⟨h1,h2,g,i,j,e,a,b⟩:=o
  rw [e,List.length_append,K.own_len a,ih b,List.length_cons,Nat.succ_mul,Nat.add_comm]
theorem rI {K:Kind α}{I h:Hp}{xs:List α}{cs:List Value}(o:gF K I h xs cs):∀ u∈cs,u.oneCell'=true:=by
 induction xs generalizing h cs with
 | nil=>intro u g; rw [o.2] at g; cases g
 | cons x xs ih =>
  obtain ⟨h1,h2,i,l,j,e,a,b⟩:=o
  intro u g
  rw [e] at g
  rcases List.mem_append.1 g with g | g
  ·exact K.own_one a u g
  ·exact ih b u g
theorem ma {K:Kind α}{I h h1 h2:Hp}{xs ys:List α}{g i:List Value}(j:Join h1 h2 h)(a:gF K I h1 xs g)(b:gF K I h2 ys i):gF K I h (xs++ys) (g++i):=by
 induction xs generalizing h h1 g with
 | nil =>
  obtain ⟨m,s⟩:=a
  subst m; subst s
  rw [j.eq_of_none]
  exact b
 | cons x xs ih =>
  obtain ⟨g1,u,d1,d2,l,e,p,q⟩:=a
  obtain ⟨k,k1,r⟩:=Join.assoc l j
  exact ⟨g1,k,d1,d2++i,r,by rw [e,List.append_assoc],p,ih k1 q⟩
theorem oZ {K:Kind α}{I h:Hp}{xs ys:List α}{cs:List Value}(o:gF K I h (xs++ys) cs):∃ h1 h2 g i,Join h1 h2 h∧cs=g++i∧gF K I h1 xs g∧gF K I h2 ys i:=by
 induction xs generalizing h cs with
 | nil=>exact ⟨Hp.none,h,[],cs,Join.none h,rfl,⟨rfl,rfl⟩,o⟩
 | cons x xs ih =>
  obtain ⟨h1,h2,g,i,j,e,a,b⟩:=o
  obtain ⟨g1,r,d1,d2,l,s,p,q⟩:=ih b
  obtain ⟨k,k1,m⟩:=Join.assoc' l j
  exact ⟨k,r,g++d1,d2,m,by rw [e,s,List.append_assoc],⟨h1,g1,g,d1,k1,rfl,a,p⟩,q⟩
theorem kw {K:Kind α}{I h:Hp}{xs:List α}{cs:List Value}(o:gF K I h xs cs){i:Nat}{x:α}(F:xs[i]?=some x) :
  ∃ a c b h1 h2,cs=a++c++b∧a.length=i*K.sz∧Join h1 h2 h∧K.own I h1 x c ∧
   ∀ D s x' u E,Hp.le I D→Join s h2 E→K.own D s x' u→gF K D E (xs.set i x') (a++u++b):=by
 have B:i<xs.length:=(List.getElem?_eq_some_iff.1 F).1
 have g:xs=xs.take i++(x::xs.drop (i+1)):=by
  have:xs.drop i=x::xs.drop (i+1):=by
   rw [List.drop_eq_getElem_cons B]
   congr 1
   rw [List.getElem?_eq_getElem B] at F
   exact Option.some.inj F
  rw [← this,List.take_append_drop]
 rw [g] at o
 obtain ⟨h1,h2,M,c2,j,e,G,g1,O,d1,d2,j',e',p,q⟩:=oZ o
 obtain ⟨k,k1,J⟩:=Join.assoc' j' j
 obtain ⟨m,m1,Z⟩:=Join.assoc k1.symm J
 refine ⟨M,d1,d2,g1,m,by rw [e,e',List.append_assoc],?_,Z,p,?_⟩
 ·rw [m9 G,List.length_take,Nat.min_eq_left (Nat.le_of_lt B)]
 ·intro D s x' u E l T U
  have r:xs.set i x'=xs.take i++(x'::xs.drop (i+1)):=by
   rw [List.set_eq_take_append_cons_drop,if_pos B]
  rw [r,List.append_assoc]
  obtain ⟨n,n1,L⟩:=Join.assoc' m1 T
  obtain ⟨q1,Y,q3⟩:=Join.assoc n1.symm L
  exact ma q3 (kY l G) ⟨s,O,u,d2,Y,rfl,U,kY l q⟩
theorem tX {K:Kind α}{I J h:Hp}{xs:List α}{cs:List Value}(o:gF K I h xs cs)(lI:Hp.le I J)(q:Hp.le h J){i:Nat}{x:α}(r:xs[i]?=some x) :
  ∃ c,K.rd J x c∧∀ k u,c[k]?=some u→cs[i*K.sz+k]?=some u:=by
 obtain ⟨a,c,b,h1,h2,e,m,j,p,_⟩:=kw o r
 refine ⟨c,K.own_rd lI (Hp.le_trans j.left q) p,fun k u g=>?_⟩
 have l:=(List.getElem?_eq_some_iff.1 g).1
 rw [e,List.append_assoc,List.getElem?_append_right (by omega),m,Nat.add_sub_cancel_left,List.getElem?_append_left l]
 exact g
def pT (I:Hp)(v:Value)(xs:List α):Prop :=
 ∃ A c,v=.slice A xs.length c∧xs.length≤c∧xs.length≤maxLen ∧
  (0<xs.length→∃ g a,A=some ⟨g,a,none⟩∧∀ j x,xs[j]?=some x→∃ cs,K.rd I x cs∧∀ i u,cs[i]?=some u→iE I g (a+j*K.sz+i)=some u)
def o0 (e:Nat)(I h:Hp)(v:Value)(xs:List α):Prop :=
 (∃ A,v=.slice A 0 0∧xs=[]∧h=Hp.none) ∨
 ∃ g c pre b a fr h1,v=.slice (some ⟨g,pre.length,none⟩) xs.length c∧xs.length≤c∧c≤maxLen∧a.length=(c - xs.length)*K.sz ∧
  (fr=(0,0)∨pre.length+b.length+a.length≤fr.1)∧Join (Hp.one g (.cells (pre++b++a).toArray e fr)) h1 h∧gF K I h1 xs b
theorem mc {K:Kind α}{I J:Hp}(l:Hp.le I J){v:Value}{xs:List α}(h:pT K I v xs):pT K J v xs:=by
 obtain ⟨A,c,e,h1,h2,D⟩:=h
 refine ⟨A,c,e,h1,h2,fun q=>?_⟩
 obtain ⟨g,m,B,s⟩:=D q
 refine ⟨g,m,B,fun j x E=>?_⟩
 obtain ⟨cs,a,b⟩:=s j x E
 exact ⟨cs,K.rd_mono l a,fun i u r=>kh l (b i u r)⟩
theorem o3 {K:Kind α}{e:Nat}{I J h:Hp}(l:Hp.le I J){v:Value}{xs:List α}(o:o0 K e I h v xs):o0 K e J h v xs:=by
 rcases o with o | ⟨g,c,pre,m,i,fr,h1,a,b,d,s,f,j,o⟩
 ·exact .inl o
 ·exact   .inr ⟨g,c,pre,m,i,fr,h1,a,b,d,s,f,j,kY l o⟩
theorem p0 {K:Kind α}(m:K.Closed){e:Nat}{I J h:Hp}{v:Value}{xs:List α}(o:o0 K e I h v xs):o0 K e J h v xs:=by
 rcases o with o | ⟨g,c,pre,l,i,fr,h1,a,b,d,s,f,j,o⟩
 ·exact .inl o
 ·exact   .inr ⟨g,c,pre,l,i,fr,h1,a,b,d,s,f,j,n' m o⟩
theorem kx {K:Kind α}{e:Nat}{I J h:Hp}{v:Value}{xs:List α}(lI:Hp.le I J)(B:Hp.le h J)(o:o0 K e I h v xs):pT K J v xs:=by
 rcases o with ⟨A,rfl,rfl,rfl⟩|⟨g,c,pre,m,l,fr,h1,a,b,d,s,f,j,o⟩
 ·exact ⟨A,0,rfl,Nat.le_refl _,Nat.zero_le _,fun h=>absurd h (Nat.lt_irrefl _)⟩
 ·refine ⟨_,c,a,b,Nat.le_trans b d,fun _=>⟨g,pre.length,rfl,fun k x F=>?_⟩⟩
  obtain ⟨cs,p,q⟩:=tX o lI (Hp.le_trans j.right B) F
  refine ⟨cs,p,fun i u E=>?_⟩
  have G:J g=some (.cells (pre++m++l).toArray e fr):=B _ _ (j.left g _ (by simp [Hp.one]))
  unfold iE
  rw [G]
  show (pre++m++l).toArray[pre.length+k*K.sz+i]?=some u
  have D:=q i u E
  have r:=(List.getElem?_eq_some_iff.1 D).1
  rw [List.getElem?_toArray,List.append_assoc,List.getElem?_append_right (by omega),show pre.length+k*K.sz+i - pre.length=k*K.sz+i by omega,List.getElem?_append_left r]
  exact D
end
def Kind.scal {α:Type}(enc:α→Value)(h1:∀ x,(enc x).oneCell'=true):Kind α where
 sz:=1
 rd _ x cs:=cs=[enc x]
 own _ h x cs:=h=Hp.none∧cs=[enc x]
 rd_mono _ h:=h
 own_mono _ h:=h
 own_rd _ _ h:=h.2
 rd_len h:=by rw [h]; rfl
 own_len h:=by rw [h.2]; rfl
 rd_one h u hu:=by rw [h] at hu; rw [List.mem_singleton.1 hu]; exact h1 _
 own_one h u hu:=by rw [h.2] at hu; rw [List.mem_singleton.1 hu]; exact h1 _
def aD (s:aM):Value:=.string ⟨s.toArray⟩
def Kind.int (k:IntKind):Kind Int:=Kind.scal (Value.int k) (fun _=>rfl)
def Kind.bool:Kind Bool:=Kind.scal Value.bool (fun _=>rfl)
def Kind.str:Kind aM:=Kind.scal aD (fun _=>rfl)
def Kind.sl {α:Type}(e:Nat)(K:Kind α):Kind (List α) where
 sz:=1
 rd I xs cs:=∃ v,cs=[v]∧pT K I v xs
 own I h xs cs:=∃ v,cs=[v]∧o0 K e I h v xs
 rd_mono l h:=by obtain ⟨v,e,a⟩:=h; exact ⟨v,e,mc l a⟩
 own_mono l h:=by obtain ⟨v,e,a⟩:=h; exact ⟨v,e,o3 l a⟩
 own_rd l m h:=by obtain ⟨v,e,a⟩:=h; exact ⟨v,e,kx l m a⟩
 rd_len h:=by obtain ⟨v,e,a⟩:=h; rw [e]; rfl
 own_len h:=by obtain ⟨v,e,a⟩:=h; rw [e]; rfl
 rd_one h u hu:=by
  obtain ⟨v,e,A,c,rfl,_⟩:=h
  rw [e] at hu; rw [List.mem_singleton.1 hu]; rfl
 own_one h u hu:=by
  obtain ⟨v,e,a⟩:=h
  rw [e] at hu; rw [List.mem_singleton.1 hu]
  rcases a with ⟨A,rfl,_⟩|⟨g,c,pre,i,b,fr,h1,rfl,_⟩<;>rfl
def Kind.pair {α β:Type}(A:Kind α)(B:Kind β):Kind (α×β) where
 sz:=A.sz+B.sz
 rd I x cs:=∃ g i,cs=g++i∧A.rd I x.1 g∧B.rd I x.2 i
 own I h x cs:=∃ h1 h2 g i,Join h1 h2 h∧cs=g++i∧A.own I h1 x.1 g∧B.own I h2 x.2 i
 rd_mono l h:=by obtain ⟨g,i,e,a,b⟩:=h; exact ⟨g,i,e,A.rd_mono l a,B.rd_mono l b⟩
 own_mono l h:=by obtain ⟨h1,h2,g,i,j,e,a,b⟩:=h; exact ⟨h1,h2,g,i,j,e,A.own_mono l a,B.own_mono l b⟩
 own_rd l m h:=by
  obtain ⟨h1,h2,g,i,j,e,a,b⟩:=h
  exact ⟨g,i,e,A.own_rd l (Hp.le_trans j.left m) a,B.own_rd l (Hp.le_trans j.right m) b⟩
 rd_len h:=by obtain ⟨g,i,e,a,b⟩:=h; rw [e,List.length_append,A.rd_len a,B.rd_len b]
 own_len h:=by obtain ⟨h1,h2,g,i,j,e,a,b⟩:=h; rw [e,List.length_append,A.own_len a,B.own_len b]
 rd_one h u q:=by
  obtain ⟨g,i,e,a,b⟩:=h
  rw [e] at q
  rcases List.mem_append.1 q with q | q
  ·exact A.rd_one a u q
  ·exact B.rd_one b u q
 own_one h u q:=by
  obtain ⟨h1,h2,g,i,j,e,a,b⟩:=h
  rw [e] at q
  rcases List.mem_append.1 q with q | q
  ·exact A.own_one a u q
  ·exact B.own_one b u q
def Kind.iso {α β:Type}(K:Kind α)(f:β→α):Kind β where
 sz:=K.sz
 rd I x cs:=K.rd I (f x) cs
 own I h x cs:=K.own I h (f x) cs
 rd_mono:=K.rd_mono
 own_mono:=K.own_mono
 own_rd:=K.own_rd
 rd_len:=K.rd_len
 own_len:=K.own_len
 rd_one:=K.rd_one
 own_one:=K.own_one
def Kind.share {α:Type}(K:Kind α):Kind α where
 sz:=K.sz
 rd:=K.rd
 own I h x cs:=h=Hp.none∧K.rd I x cs
 rd_mono:=K.rd_mono
 own_mono l h:=⟨h.1,K.rd_mono l h.2⟩
 own_rd l _ h:=K.rd_mono l h.2
 rd_len:=K.rd_len
 own_len h:=K.rd_len h.2
 rd_one:=K.rd_one
 own_one h:=K.rd_one h.2
theorem Kind.scal_closed {α:Type}(enc:α→Value)(h1:∀ x,(enc x).oneCell'=true):(Kind.scal enc h1).Closed:=fun _ _ _ _ _ h=>h
theorem Kind.pair_closed {α β:Type}{A:Kind α}{B:Kind β}(a:A.Closed)(b:B.Closed):(Kind.pair A B).Closed :=
 fun _ _ _ _ _ ⟨h1,h2,g,h,j,e,p,q⟩=>⟨h1,h2,g,h,j,e,a _ _ _ _ _ p,b _ _ _ _ _ q⟩
theorem Kind.iso_closed {α β:Type}{K:Kind α}(h:K.Closed)(f:β→α):(Kind.iso K f).Closed:=fun _ _ _ _ _ o=>h _ _ _ _ _ o
theorem Kind.scal_flat {α:Type}(enc:α→Value)(h1:∀ x,(enc x).oneCell'=true):(Kind.scal enc h1).Flat:=fun _ _ _ h=>⟨rfl,h⟩
def bx (b:Nat)(cs:Array Value)(T:Nat):HP:=⟨fun _ h=>h=Hp.one b (.cells cs T (0,0)),fun _ e=>e⟩
def ow {α:Type}(K:Kind α)(e:Nat)(v:Value)(xs:List α):HP:=⟨fun I h=>o0 K e I h v xs,fun l o=>o3 l o⟩
def aN {α:Type}(K:Kind α)(v:Value)(xs:List α):HP:=⟨fun I h=>h=Hp.none∧pT K I v xs,fun l o=>⟨o.1,mc l o.2⟩⟩
end Go.Pg
namespace Go.Pg
structure Cx where
 P:Program
 n:Nn
 C:World
def TC (X:Cx)(V:List HP)(σ:cZ)(c:Code)(Q:Exit→cZ→World→Prop):Prop:=∀ w,St X.C w V→W X.P X.n c Q σ w
def TL (X:Cx)(ops:Array Oper)(V:List HP)(σ:cZ)(rest:List Oper)(Q:Exit→cZ→World→Prop):Prop:=∀ w,St X.C w V→WL X.P X.n ops rest Q σ w
def TQ (X:Cx)(V:List HP)(σ:cZ)(e:Exit)(Q:Exit→cZ→World→Prop):Prop:=∀ w,St X.C w V→Q e σ w
def Nx (X:Cx)(c:Code)(Q:Exit→cZ→World→Prop):cZ→World→Prop:=fun σ w=>W X.P X.n c Q σ w
section
variable {X:Cx}{V:List HP}{σ:cZ}{Q:Exit→cZ→World→Prop}{x y:Code}{ops:Array Oper}{rest:List Oper}{o:Oper}
theorem aO (h:TC X V σ x (iu (Nx X y Q) Q)):TC X V σ (.seq x y) Q:=fun w s=>xZ (h w s)
theorem dE (h:TQ X V σ .normal Q):TC X V σ .skip Q:=fun w s=>w4 (h w s)
theorem bY (h:TQ X V σ .ret Q):TC X V σ .ret Q:=fun w s=>y1 (h w s)
theorem hJ {a:Nat}(h:TQ X V σ (.exit a) Q):TC X V σ (.exit a) Q:=fun w s=>w6 (h w s)
theorem dJ {a:Nat}(h:TC X V σ x (j9 a Q)):TC X V σ (.block a x) Q:=fun w s=>tV (h w s)
theorem aE {a:Nat}{l:List Oper}(h:TL X l.toArray V σ l Q):TC X V σ (.region a l.toArray false) Q:=fun w s=>rG (h w s)
theorem cC {k:Operand}{b:Bool}(a:ev σ k=.bool b)(e:b=true)(h:TC X V σ x Q):TC X V σ (.cond k x y) Q:=fun w s=>rF a (by rw [e]; exact h w s)
theorem bM {k:Operand}{b:Bool}(a:ev σ k=.bool b)(e:b=false)(h:TC X V σ y Q):TC X V σ (.cond k x y) Q:=fun w s=>rF a (by rw [e]; exact h w s)
theorem aC (h:TQ X V σ .normal Q):TL X ops V σ [] Q:=fun w s=>w7 (h w s)
theorem aI (h:TC X V σ y Q):TQ X V σ .normal (iu (Nx X y Q) Q):=fun w s=>h w s
theorem eD {a:Nat}{K:cZ→World→Prop}(h:TQ X V σ (.exit a) Q):TQ X V σ (.exit a) (iu K Q):=fun w s=>h w s
theorem cF {K:cZ→World→Prop}(h:TQ X V σ .ret Q):TQ X V σ .ret (iu K Q):=fun w s=>h w s
theorem fX {a:Nat}(h:TQ X V σ .normal Q):TQ X V σ (.exit a) (j9 a Q):=fun w s=>by
 show cond (Nat.beq a a) _ _
 rw [show Nat.beq a a=true from Nat.beq_refl a]
 exact h w s
theorem dY {a:Nat}(h:TQ X V σ .normal Q):TQ X V σ .normal (j9 a Q):=fun w s=>h w s
theorem dC {a:Nat}(h:TQ X V σ .ret Q):TQ X V σ .ret (j9 a Q):=fun w s=>h w s
theorem rJ {e a:Nat}(b:Nat.beq a e=false)(h:TQ X V σ (.exit a) Q):TQ X V σ (.exit a) (j9 e Q):=fun w s=>by
 show cond (Nat.beq a e) _ _
 rw [b]
 exact h w s
theorem lL {ops:Array Oper}{σ:cZ}{o:Oper}{j:Nat}{b c:Bool}(h:o.guard=some (j,b))(a:kX ops σ j=some c)(e:c=b):dP ops σ o=true:=by
 unfold dP; rw [h]; simp only [a,e]; cases b<;>rfl
theorem ky {ops:Array Oper}{σ:cZ}{o:Oper}{j:Nat}{b c:Bool}(h:o.guard=some (j,b))(a:kX ops σ j=some c)(e:c=!b):dP ops σ o=false:=by
 unfold dP; rw [h]; simp only [a,e]; cases b<;>rfl
theorem vl (a:iD X.n o.dst=true)(hw:dP ops σ o=false)(h:TL X ops V (fV σ o.dst undef) rest Q):TL X ops V σ (o::rest) Q:=fun w s=>w9 a hw (h w s)
def nk (k:IntKind):BinOp→Int→Int→Option Value
 | .add,a,b=>some (.int k (k.wrap (a+b)))
 | .sub,a,b=>some (.int k (k.wrap (a - b)))
 | .mul,a,b=>some (.int k (k.wrap (a*b)))
 | .and,a,b=>some (.int k (bits .and k a b))
 | .or,a,b=>some (.int k (bits .or k a b))
 | .xor,a,b=>some (.int k (bits .xor k a b))
 | .andNot,a,b=>some (.int k (bits .andNot k a b))
 | .eql,a,b=>some (.bool (a==b))
 | .neq,a,b=>some (.bool (a != b))
 | .lss,a,b=>some (.bool (decide (a<b)))
 | .leq,a,b=>some (.bool (decide (a≤b)))
 | .gtr,a,b=>some (.bool (decide (a>b)))
 | .geq,a,b=>some (.bool (decide (a≥b)))
 | _,_,_=>none
def pv (σ:cZ):Op→Option Value
 | .move x | .assign x=>some (ev σ x)
 | .pick c a b=>match ev σ c with
  | .bool t=>some (cond t (ev σ a) (ev σ b))
  | _=>none
 | .unOp .not _ x=>match ev σ x with
  | .bool b=>some (.bool !b)
  | _=>none
 | .unOp .neg _ x=>match ev σ x with
  | .int k a=>some (.int k (k.wrap (0 - a)))
  | _=>none
 | .unOp .xor _ x=>match ev σ x with
  | .int k a=>some (.int k (bits .xor k (if k.signed then -1 else k.max) a))
  | _=>none
 | .binOp op _ x y _=>match ev σ x,ev σ y with
  | .int .i64 a,.int .i64 b=>nk .i64 op a b
  | .int .u8 a,.int .u8 b=>nk .u8 op a b
  | .int .i32 a,.int .i32 b=>nk .i32 op a b
  | .int .u64 a,.int .u64 b=>nk .u64 op a b
  | .int .u32 a,.int .u32 b=>nk .u32 op a b
  | _,_=>none
 | .extract x i=>match ev σ x with
  | .tuple vs=>vs[i]?
  | _=>none
 | .makeFunc fn first captured=>some (.func fn (first.toList.map (ev σ)).toArray (captured.toList.map (ev σ)).toArray)
 | .nilCheck x=>match ev σ x with
  | .pointer (some a)=>some (.pointer (some a))
  | .func (.func f) a c=>some (.func (.func f) a c)
  | _=>none
 | _=>none
theorem rK {P:Program}{w:World}{k:IntKind}{op:BinOp}{a b:Int}{v:Value}(t:TypeId)(x y:Operand)(h:nk k op a b=some v) :
  (do eqGuard op t x y (.int k a) (.int k b); binOp op t (.int k a) (.int k b):Sem Value).run P w=.ok v w:=by
 cases op<;>simp only [nk,Option.some.injEq,reduceCtorEq] at h<;>subst h <;>
  simp [eqGuard_at_int,binOp,Op.intArith,intBits_and,intBits_or,intBits_xor,intBits_andNot,Op.intCmp]
theorem wa {P:Program}{w:World}{v:Value}(h:pv σ o.op=some v):(execOp (ev σ) o).run P w=.ok (.value v) w:=by
 unfold execOp
 revert h
 generalize o.op=op
 intro h
 cases op<;>simp only [pv,reduceCtorEq] at h
 case move x=>simp only [Option.some.injEq] at h; subst h; rfl
 case assign x=>simp only [Option.some.injEq] at h; subst h; rfl
 case pick c a b =>
  cases hc:ev σ c<;>simp only [hc,reduceCtorEq,Option.some.injEq] at h
  subst h
  simp only [hc,asBool,Sem.run_bind,Sem.run_pure,Result.andThen_ok]
  rename_i t
  cases t<;>rfl
 case unOp u t x =>
  cases u<;>simp only [reduceCtorEq] at h<;>cases j:ev σ x<;>simp only [j,reduceCtorEq,Option.some.injEq] at h<;>subst h <;>
   simp [j,Op.unary,Op.intArith,intBits_xor]
 case binOp op t x y ty =>
  have g:∀ (k:IntKind) (a b:Int),ev σ x=.int k a→ev σ y=.int k b→nk k op a b=some v →
    (do let r ← (do eqGuard op t x y (ev σ x) (ev σ y); binOp op t (ev σ x) (ev σ y):Sem Value); pure (Next.value r):Sem Next).run P w=.ok (.value v) w:=by
   intro k a b j l m
   rw [j,l]
   simp only [Sem.run_bind] at *
   have:=rK (P:=P) (w:=w) t x y m
   simp only [Sem.run_bind] at this
   rw [this]
   rfl
  split at h
  ·exact g _ _ _ ‹_› ‹_› h
  ·exact g _ _ _ ‹_› ‹_› h
  ·exact g _ _ _ ‹_› ‹_› h
  ·exact g _ _ _ ‹_› ‹_› h
  ·exact g _ _ _ ‹_› ‹_› h
  ·cases h
 case extract x i =>
  cases j:ev σ x<;>simp only [j,reduceCtorEq] at h
  simp [j,Instr.extract,h]
 case makeFunc fn first captured =>
  simp only [Option.some.injEq] at h; subst h
  simp [Instr.makeFunc]
  exact ⟨by apply Array.ext'; simp,by apply Array.ext'; simp⟩
 case nilCheck x =>
  split at h
  ·rename_i a e
   simp only [Option.some.injEq] at h
   subst h
   simp [e]
  ·rename_i f a c e
   simp only [Option.some.injEq] at h
   subst h
   simp [e]
  ·cases h
def VO (X:Cx)(V:List HP)(σ:cZ)(o:Oper)(v:Value):Prop:=∀ w,St X.C w V→(execOp (ev σ) o).run X.P w=.ok (.value v) w
theorem Ap {v:Value}(b:iD X.n o.dst=true)(hw:dP ops σ o=true)(a:VO X V σ o v)(h:TL X ops V (fV σ o.dst v) rest Q):TL X ops V σ (o::rest) Q :=
 fun w s=>eN b hw (by rw [a w s]; exact h w s)
theorem iw {v:Value}(a:pv σ o.op=some v):VO X V σ o v:=fun _ _=>wa a
end
end Go.Pg
namespace Go.Pg
def qO {α:Type}:List α→Nat→Option α
 | [],_=>none
 | x::_,0=>some x
 | _::l,k+1=>qO l k
theorem ki {α:Type}(l:List α)(k:Nat):qO l k=l[k]?:=by
 induction l generalizing k with
 | nil=>rfl
 | cons x l ih =>
  cases k with
  | zero=>rfl
  | succ k=>simpa [qO] using ih k
theorem ja {α:Type}[Inhabited α]{xs:List α}{i:Int}(a:0≤i)(h1:i<xs.length):xs[i.toNat]?=some (ix xs i):=by
 unfold ix
 have:i.toNat<xs.length:=by omega
 rw [List.getD_eq_getElem?_getD,List.getElem?_eq_getElem this]
 rfl
def aJ (b:Nat)(cs:List Value)(T:Nat):HP:=bx b cs.toArray T
def eX (P:Program)(T:TypeId):Option Bool:=(P.underlying T).map fun d=>match d with | .struct _ | .array _ _=>true | _=>false
def hK (P:Program)(T:TypeId):Option Nat:=(P.info? T).map (·.size)
def gQ (P:Program)(T:TypeId):Option Nat:=(P.info? T).map (·.bytes)
def kv (P:Program)(T:TypeId):Option (List Value):=((P.info? T).bind (·.zero)).map (·.cells.toList)
def li (P:Program)(T:TypeId):Option TypeId:=match P.underlying T with
 | some (.slice e)=>some e
 | _=>none
def cW (P:Program)(S:TypeId)(f:Nat):Option Nat:=match P.underlying S with
 | some (.struct fs)=>match fs[f]? with
  | some fl=>match P.info? fl.type with
   | some i=>if i.size=0 then none else some fl.offset
   | none=>none
  | none=>none
 | _=>none
section
variable {P:Program}{w:World}
theorem mW {T:TypeId}{b:Bool}(h:eX P T=some b):(isAgg T).run P w=.ok b w:=by
 unfold eX at h
 cases hd:P.underlying T with
 | none=>rw [hd] at h; cases h
 | some d =>
  rw [hd] at h
  simp only [Option.map_some,Option.some.injEq] at h
  subst h
  unfold isAgg
  rw [Sem.run_bind,run_underlying hd w]
  cases d<;>rfl
theorem eI {T:TypeId}{n:Nat}(h:hK P T=some n):(sizeOf T).run P w=.ok n w:=by
 unfold hK at h
 cases hd:P.info? T with
 | none=>rw [hd] at h; cases h
 | some d =>
  rw [hd] at h
  simp only [Option.map_some,Option.some.injEq] at h
  subst h
  simp [sizeOf,typeInfo,hd]
theorem kz {T:TypeId}{cs:List Value}(h:kv P T=some cs):∃ z,(zeroValue T).run P w=.ok z w∧z.cells=cs.toArray:=by
 unfold kv at h
 cases hd:P.info? T with
 | none=>rw [hd] at h; cases h
 | some d =>
  rw [hd] at h
  cases hz:d.zero with
  | none=>simp [hz] at h
  | some z =>
   refine ⟨z,by simp [zeroValue,typeInfo,hd,hz],?_⟩
   simp [hz] at h
   rw [← h]
theorem iO {T e:TypeId}(h:li P T=some e):P.underlying T=some (.slice e):=by
 unfold li at h
 split at h
 ·rename_i b a
  simp only [Option.some.injEq] at h
  rw [a,h]
 ·cases h
theorem eM {T:TypeId}{a:Addr}{v:Value}(h:eX P T=some false)(b:w.cell? a=some v):(loadVar T a).run P w=.ok v w:=by
 unfold loadVar
 rw [Sem.run_bind,mW h]
 simp [b]
theorem eY {T:TypeId}{a:Addr}{cs:List Value}(h:eX P T=some true)(e:hK P T=some cs.length)(b:∀ j u,cs[j]?=some u→w.cell? (a.add j)=some u) :
  (loadVar T a).run P w=.ok (.agg cs.toArray) w:=by
 unfold loadVar
 rw [Sem.run_bind,mW h]
 simp [Sem.run_bind,eI e,run_loadCells_list (P:=P) w a cs b]
theorem fS (g k j:Nat):(⟨g,k,none⟩:Addr).add j=⟨g,k+j,none⟩:=by
 unfold Addr.add
 split
 ·rename_i h; subst h; rfl
 ·rfl
end
section
variable {X:Cx}{V:List HP}{σ:cZ}{Q:Exit→cZ→World→Prop}{ops:Array Oper}{rest:List Oper}
variable {d:Option Nat}{ty:TypeId}{pos:String}{af:Array Edge}{gd:Option (Nat×Bool)}
theorem bF {T:TypeId}{cs:List Value}(r:iD X.n d=true)(hw:dP ops σ ⟨d,.alloc T,ty,pos,af,gd⟩=true)(m:kv X.P T=some cs)
  (h:∀ b,TL X ops (aJ b cs T::V) (fV σ d (.pointer (some ⟨b,0,none⟩))) rest Q):TL X ops V σ (⟨d,.alloc T,ty,pos,af,gd⟩::rest) Q:=by
 intro w s
 refine eN r hw ?_
 obtain ⟨z,j,i⟩:=kz (P:=X.P) (w:=w) m
 have q:(execOp (ev σ) ⟨d,.alloc T,ty,pos,af,gd⟩).run X.P w=.ok (.value (.pointer (some ⟨w.heap.size,0,none⟩))) (w.alloc (.cells cs.toArray T)):=by
  simp [execOp,Instr.alloc,j,newVar,newRow,i]
 rw [q]
 refine h _ _ (St.new s (fun a=>a.alloc _) (fun I _=>⟨_,rfl,?_,?_⟩) ?_)
 ·intro b o e
  simp only [Hp.one] at e
  split at e
  ·rename_i g
   subst g
   rw [← Option.some.inj e]
   show (w.heap.push _)[w.heap.size]?=_
   simp
  ·cases e
 ·intro b g
  simp only [Hp.one] at g
  split at g
  ·rename_i e; exact Nat.le_of_eq e.symm
  ·exact absurd rfl g
 ·intro b o e
  have l:=(Array.getElem?_eq_some_iff.1 e).1
  show (w.heap.push _)[b]?=_
  rw [Array.getElem?_push,if_neg (Nat.ne_of_lt l)]
  exact e
theorem eZ {T:TypeId}{x:Operand}{cs:List Value}(l:iD X.n d=true)(hw:dP ops σ ⟨d,.box T x,ty,pos,af,gd⟩=true)(m:(ev σ x).cells.toList=cs)
  (h:∀ b,TL X ops (aJ b cs T::V) (fV σ d (.pointer (some ⟨b,0,none⟩))) rest Q):TL X ops V σ (⟨d,.box T x,ty,pos,af,gd⟩::rest) Q:=by
 intro w s
 refine eN l hw ?_
 have j:(execOp (ev σ) ⟨d,.box T x,ty,pos,af,gd⟩).run X.P w=.ok (.value (.pointer (some ⟨w.heap.size,0,none⟩))) (w.alloc (.cells cs.toArray T)):=by
  subst m
  simp [execOp,Instr.box,newVar,newRow]
 rw [j]
 refine h _ _ (St.new s (fun a=>a.alloc _) (fun I _=>⟨_,rfl,?_,?_⟩) ?_)
 ·intro b o e
  simp only [Hp.one] at e
  split at e
  ·rename_i g
   subst g
   rw [← Option.some.inj e]
   show (w.heap.push _)[w.heap.size]?=_
   simp
  ·cases e
 ·intro b g
  simp only [Hp.one] at g
  split at g
  ·rename_i e; exact Nat.le_of_eq e.symm
  ·exact absurd rfl g
 ·intro b o e
  have i:=(Array.getElem?_eq_some_iff.1 e).1
  show (w.heap.push _)[b]?=_
  rw [Array.getElem?_push,if_neg (Nat.ne_of_lt i)]
  exact e
theorem kA {C w:World}{V:List HP}(s:St C w V)(i:Nat){b:Nat}{cs:List Value}{T:Nat}(a:lk V i=aJ b cs T):w.heap[b]?=some (.cells cs.toArray T (0,0)):=by
 obtain ⟨I,h,p,_,l,_⟩:=s.look i
 rw [a] at p
 exact l b _ (by rw [show h=_ from p]; simp [Hp.one])
theorem kB {w:World}{b:Nat}{cs:List Value}{T:Nat}(h:w.heap[b]?=some (.cells cs.toArray T (0,0)))(k:Nat):w.cell? ⟨b,k,none⟩=cs[k]?:=by
 simp [World.cell?,h]
theorem rL {T:TypeId}{x:Operand}{b k:Nat}{cs:List Value}{j:Nat}{v:Value}(i:Nat)(g:eX X.P T=some false)
  (h:lk V i=aJ b cs j) (l:ev σ x=.pointer (some ⟨b,k,none⟩)) (a:qO cs k=some v):VO X V σ ⟨d,.load T x,ty,pos,af,gd⟩ v:=by
 intro w s
 have e:=kA s i h
 simp only [execOp,Instr.loadAt,l,Instr.sureAddr,Sem.run_bind,Sem.run_pure,Result.andThen_ok,eM g (show w.cell? ⟨b,k,none⟩=some v by rw [kB e,← ki]; exact a)]
theorem tY {T:TypeId}{x:Operand}{b k n:Nat}{cs:List Value}{q:Nat}(i:Nat)(m:eX X.P T=some true)(l:hK X.P T=some n)
  (h:lk V i=aJ b cs q) (B:ev σ x=.pointer (some ⟨b,k,none⟩)) (g:((cs.drop k).take n).length=n):VO X V σ ⟨d,.load T x,ty,pos,af,gd⟩ (.agg ((cs.drop k).take n).toArray):=by
 intro w s
 have r:=kA s i h
 ·have:=eY (P:=X.P) (w:=w) (a:=⟨b,k,none⟩) (cs:=(cs.drop k).take n) m (by rw [g]; exact l) (by
   intro j u e
   rw [fS,kB r]
   rw [List.getElem?_take] at e
   split at e
   ·rw [List.getElem?_drop] at e; exact e
   ·cases e)
  simp only [execOp,Instr.loadAt,B,Instr.sureAddr,Sem.run_bind,Sem.run_pure,Result.andThen_ok,this]
theorem tZ {S:TypeId}{x:Operand}{f fo:Nat}{a:Addr}(b:cW X.P S f=some fo)
  (q:ev σ x=.pointer (some a)):VO X V σ ⟨d,.fieldAddr S x f,ty,pos,af,gd⟩ (.pointer (some (a.add fo))):=by
 intro w _
 unfold cW at b
 split at b
 ·rename_i fs l
  split at b
  ·rename_i j h
   split at b
   ·rename_i i m
    split at b
    ·cases b
    ·rename_i e
     simp only [Option.some.injEq] at b
     subst b
     have g:(sizeOf j.type).run X.P w=.ok i.size w:=eI (by simp [hK,m])
     simp [execOp,Instr.fieldAt,run_underlying l w,h,q,Instr.sureAddr,fieldPlace,Sem.run_bind,g,e]
   ·cases b
  ·cases b
 ·cases b
theorem o4 {w:World}{P:Program}{b k:Nat}{cs:List Value}{T:Nat}{v:Value}(a:w.heap[b]?=some (.cells cs.toArray T (0,0)))(e:k<cs.length)(g:v.oneCell'=true) :
  (store ⟨b,k,none⟩ v).run P w=.ok () (w.setCell ⟨b,k,none⟩ v):=by
 rw [run_store P w _ v _ g]
 have:w.cell? ⟨b,k,none⟩=some cs[k]:=by rw [kB a,List.getElem?_eq_getElem e]
 simp [this,World.frozen?,a]
theorem gZ {w:World}{b k:Nat}{c:Array Value}{T:Nat}{fr:Nat×Nat}{v:Value}(a:w.heap[b]?=some (.cells c T fr)):(w.setCell ⟨b,k,none⟩ v).heap[b]?=some (.cells (c.setIfInBounds k v) T fr):=by
 simp only [World.setCell,Array.getElem?_modify,a]
 simp
theorem fH {w:World}{b k j:Nat}{v:Value}(h:j≠b):(w.setCell ⟨b,k,none⟩ v).heap[j]?=w.heap[j]?:=by
 simp only [World.setCell,Array.getElem?_modify]
 rw [if_neg (fun e=>h e.symm)]
theorem iX {P:Program}{w:World}{T:TypeId}{a:Addr}{v:Value}{b:World}(g:hK P T=some 1)(h:v.oneCell'=true)(i:(store a v).run P w=.ok () b):(storeVar T a v).run P w=.ok () b:=by
 have e:v.cells=#[v]:=by cases v<;>first | rfl | (simp [Value.oneCell'] at h)
 unfold storeVar
 rw [Sem.run_bind,eI g]
 have j:a.add 0=a:=by simp [Addr.add]
 simp [e,storeCells,Sem.run_bind,j,i]
theorem cK {T:TypeId}{x y:Operand}{b k:Nat}{cs:List Value}{q:Nat}{v:Value}(i:Nat)(L:iD X.n d=true)(hw:dP ops σ ⟨d,.store T x y,ty,pos,af,gd⟩=true)(E:hK X.P T=some 1)
  (D:lk V i=aJ b cs q) (M:ev σ x=.pointer (some ⟨b,k,none⟩)) (F:ev σ y=v) (u:v.oneCell'=true) (G:Nat.blt k cs.length=true)
  (h:TL X ops (vk V i (aJ b (cs.set k v) q)) (fV σ d undef) rest Q):TL X ops V σ (⟨d,.store T x y,ty,pos,af,gd⟩::rest) Q:=by
 intro w s
 refine eN L hw ?_
 have B:=kA s i D
 have m:k<cs.length:=Nat.lt_of_lt_of_le (Nat.lt_succ_self _) (Nat.le_of_ble_eq_true G)
 have J:(execOp (ev σ) ⟨d,.store T x y,ty,pos,af,gd⟩).run X.P w=.ok .skip (w.setCell ⟨b,k,none⟩ v):=by
  simp only [execOp,Instr.storeAt,M,F,Instr.sureAddr,Sem.run_bind,Sem.run_pure,Result.andThen_ok,iX E u (o4 B m u)]
 rw [J]
 refine h _ (St.turn s i (fun a=>a.setCell _ _) ?_)
 intro I g p _ _
 rw [D] at p
 have p:g=Hp.one b (.cells cs.toArray q (0,0)):=p
 subst p
 refine ⟨_,rfl,?_,?_,?_⟩
 ·intro j o e
  simp only [Hp.one] at e
  split at e
  ·rename_i l
   subst l
   rw [← Option.some.inj e,gZ B]
   simp
  ·cases e
 ·intro j l
  refine .inl ?_
  simp only [Hp.one] at *
  split at l
  ·rename_i e; rw [if_pos e]; exact fun h=>by cases h
  ·exact absurd rfl l
 ·intro j o l e
  simp only [Hp.one] at l
  split at l
  ·cases l
  ·rename_i r; rw [fH r]; exact e
theorem mO {P:Program}{b:Nat}{T:Nat}:∀ (vs:List Value) (k j:Nat) (cs:List Value) (w:World),w.heap[b]?=some (.cells cs.toArray T (0,0))→k+j+vs.length≤cs.length→(∀ v∈vs,v.oneCell'=true) →
  ∃ a,(storeCells ⟨b,k,none⟩ vs j).run P w=.ok () a∧a.heap[b]?=some (.cells (cs.take (k+j)++vs++cs.drop (k+j+vs.length)).toArray T (0,0))∧(∀ i,i≠b→a.heap[i]?=w.heap[i]?)∧∀ C,Same C w→Same C a:=by
 intro vs
 induction vs with
 | nil =>
  intro k j cs w l _ _
  exact ⟨w,by simp [storeCells],by simpa using l,fun _ _=>rfl,fun _ h=>h⟩
 | cons v vs ih =>
  intro k j cs w l E q
  have g:k+j<cs.length:=by simp at E; omega
  have h1:=o4 (P:=P) l g (q v (by simp))
  have m:(w.setCell ⟨b,k+j,none⟩ v).heap[b]?=some (.cells (cs.set (k+j) v).toArray T (0,0)):=by rw [gZ l]; simp
  obtain ⟨a,r,e,o,B⟩:=ih k (j+1) (cs.set (k+j) v) _ m (by simp at *; omega) (fun u D=>q u (by simp [D]))
  refine ⟨a,?_,?_,fun i s=>?_,fun C F=>B C (F.setCell _ _)⟩
  ·simp only [storeCells,Sem.run_bind,fS,h1,Result.andThen_ok,r]
  ·rw [e]
   congr 2
   rw [show k+(j+1)=(k+j)+1 by omega,List.take_succ_eq_append_getElem (by simp; exact g),List.take_set_of_le (Nat.le_refl _),List.drop_set_of_lt (by omega)]
   simp [Nat.add_assoc,Nat.add_comm,Nat.add_left_comm]
  ·rw [o i s,fH s]
theorem aK {T:TypeId}{x y:Operand}{b k n:Nat}{cs vs:List Value}{q:Nat}(i:Nat)(Y:iD X.n d=true)(hw:dP ops σ ⟨d,.store T x y,ty,pos,af,gd⟩=true)(L:hK X.P T=some n)
  (E:lk V i=aJ b cs q) (hx:ev σ x=.pointer (some ⟨b,k,none⟩)) (F:ev σ y=.agg vs.toArray) (D:vs.length=n) (U:vs.all (·.oneCell')=true) (G:Nat.ble (k+n) cs.length=true)
  (h:TL X ops (vk V i (aJ b (cs.take k++vs++cs.drop (k+n)) q)) (fV σ d undef) rest Q):TL X ops V σ (⟨d,.store T x y,ty,pos,af,gd⟩::rest) Q:=by
 intro w s
 refine eN Y hw ?_
 have Z:=kA s i E
 obtain ⟨O,r,e,o,J⟩:=mO (P:=X.P) vs k 0 cs w Z (by have:=Nat.le_of_ble_eq_true G; omega) (fun v B=>List.all_eq_true.1 U v B)
 have M:(execOp (ev σ) ⟨d,.store T x y,ty,pos,af,gd⟩).run X.P w=.ok .skip O:=by
  simp [execOp,Instr.storeAt,hx,F,Instr.sureAddr,storeVar,eI L,Value.cells,D,r,Sem.run_bind]
 rw [M]
 refine h _ (St.turn s i (fun a=>J _ a) ?_)
 intro I g p _ _
 rw [E] at p
 have p:g=Hp.one b (.cells cs.toArray q (0,0)):=p
 subst p
 refine ⟨_,rfl,?_,?_,?_⟩
 ·intro j o' m
  simp only [Hp.one] at m
  split at m
  ·rename_i l
   subst l
   rw [← Option.some.inj m,e]
   simp [D]
  ·cases m
 ·intro j l
  refine .inl ?_
  simp only [Hp.one] at *
  split at l
  ·rename_i e; rw [if_pos e]; exact fun h=>by cases h
  ·exact absurd rfl l
 ·intro j o' l m
  simp only [Hp.one] at l
  split at l
  ·cases l
  ·rename_i u; rw [o j u]; exact m
end
end Go.Pg
namespace Go.Pg
theorem St.act {β:Type}{C w:World}{V:List HP}(s:St C w V)(i:Nat){q:β→HP}{Ψ:β→World→Prop}
  (f:∀ I h,(lk V i).p I h→Le I w→Le h w→(∀ k,I k=Option.none∨h k=Option.none)→∃ b u B,Ψ b u∧(Same C w→Same C u)∧(q b).p I B∧Le B u∧(∀ k,B k≠Option.none→h k≠Option.none∨w.heap.size≤k)∧∀ (k:Nat) (o:Obj),h k=Option.none→w.heap[k]?=some o→u.heap[k]?=some o) :
  ∃ b u,Ψ b u∧St C u (vk V i (q b)):=by
 obtain ⟨a,I,h,g,j,l,s⟩:=s
 obtain ⟨h1,h2,r,c,s'⟩:=eS i s
 obtain ⟨b,u,B,U,Y,Z,T,O,L⟩:=f I h1 c (l.mono j.left) (l.mono (Hp.le_trans r.left j.right)) (fun k=>by
  rcases j.disj k with e | e
  ·exact .inl e
  ·exact .inr ((r.is_none k).1 e).1)
 refine ⟨b,u,U,?_⟩
 have F:∀ b,B b≠Option.none→I b=Option.none∧h2 b=Option.none:=by
  intro b hb
  rcases O b hb with e | e
  ·refine ⟨?_,?_⟩
   ·rcases j.disj b with f | f
    ·exact f
    ·exact absurd ((r.is_none b).1 f).1 e
   ·rcases r.disj b with f | f
    ·exact absurd f e
    ·exact f
  ·have:g b=Option.none:=by
    cases hg:g b with
    | none=>rfl
    | some o =>
     have:=(l.lt (b:=b) (by rw [hg]; exact fun h=>by cases h))
     omega
   have:=(j.is_none b).1 this
   exact ⟨this.1,((r.is_none b).1 this.2).2⟩
 obtain ⟨m,J⟩:=Join.of_disj (h1:=B) (h2:=h2) (fun b=>by
  by_cases e:B b=Option.none
  ·exact .inl e
  ·exact .inr (F b e).2)
 obtain ⟨g',E⟩:=Join.of_disj (h1:=I) (h2:=m) (fun b=>by
  by_cases e:B b=Option.none
  ·rcases j.disj b with f | f
   ·exact .inl f
   ·exact .inr ((J.is_none b).2 ⟨e,((r.is_none b).1 f).2⟩)
  ·exact .inl (F b e).1)
 refine ⟨Y a,I,m,g',E,?_,nZ i J Z s'⟩
 intro b o e
 rcases E.cases e with ⟨G,e2⟩|⟨G,e2⟩
 ·refine L b o ?_ (l b o (j.left b o G))
  rcases j.disj b with f | f
  ·rw [f] at G; cases G
  ·exact ((r.is_none b).1 f).1
 ·rcases J.cases G with ⟨D,M⟩|⟨D,M⟩
  ·exact T b o D
  ·refine L b o ?_ (l b o (j.right b o (r.right b o D)))
   rcases r.disj b with f | f
   ·exact f
   ·rw [f] at D; cases D
theorem St.see {C w:World}{V:List HP}(s:St C w V)(i:Nat):∃ I h J,(lk V i).p I h∧Hp.le I J∧Hp.le h J∧Le J w:=by
 obtain ⟨I,h,p,g,a,l⟩:=s.look i
 obtain ⟨J,j⟩:=Join.of_disj l
 refine ⟨I,h,J,p,j.left,j.right,fun b o e=>?_⟩
 rcases j.cases e with ⟨e,_⟩|⟨e,_⟩
 ·exact g b o e
 ·exact a b o e
def jC {α:Type}(q:HP)(K:Kind α)(v:Value)(xs:List α):Prop:=∀ I h J,Hp.le I J→Hp.le h J→q.p I h→pT K J v xs
section
variable {α:Type}{K:Kind α}
theorem aA {v:Value}{xs:List α}:jC (aN K v xs) K v xs:=fun I h J l _ p=>mc l p.2
theorem aB {e:Nat}{v:Value}{xs:List α}:jC (ow K e v xs) K v xs:=fun I h J l m p=>kx l m p
theorem St.reads {C w:World}{V:List HP}(s:St C w V){i:Nat}{v:Value}{xs:List α}(h:jC (lk V i) K v xs):∃ J,Le J w∧pT K J v xs:=by
 obtain ⟨I,g,J,p,a,b,lw⟩:=s.see i
 exact ⟨J,lw,h I g J a b p⟩
end
def sep (p q:HP):HP:=⟨fun I h=>∃ h1 h2,Join h1 h2 h∧p.p I h1∧q.p I h2,fun l ⟨h1,h2,j,a,b⟩=>⟨h1,h2,j,p.mono l a,q.mono l b⟩⟩
theorem St.sep {C w:World}{p q:HP}{V:List HP}(s:St C w (p::q::V)):St C w (Pg.sep p q::V):=by
 obtain ⟨a,I,h,g,j,l,h1,h2,i,c,u,b,r,d,e⟩:=s
 obtain ⟨k,k1,m⟩:=Join.assoc' r i
 exact ⟨a,I,h,g,j,l,k,b,m,⟨h1,u,k1,c,d⟩,e⟩
section
variable {X:Cx}{V:List HP}{σ:cZ}{Q:Exit→cZ→World→Prop}{ops:Array Oper}{rest:List Oper}
variable {d:Option Nat}{ty:TypeId}{pos:String}{af:Array Edge}{gd:Option (Nat×Bool)}
variable {α β:Type}
theorem kc {t:TypeId}{x:Operand}{a:Option Addr}{n c:Nat}{e:TypeId}(g:li X.P t=some e)(h:ev σ x=.slice a n c):VO X V σ ⟨d,.call ⟨.builtin .len,#[x],#[t]⟩,ty,pos,af,gd⟩ (.int .i64 n):=by
 intro w _
 have b:=iO g
 simp [execOp,resolve,invoke,builtin,h,Builtin.len_,run_underlying b,goInt]
theorem bA {K:Kind α}{a:Option Addr}{n c:Nat}{xs:List α}(i:Nat)(m:jC (lk V i) K (.slice a n c) xs)(h1:0<n)(h:∀ g o,a=some ⟨g,o,none⟩→TL X ops V σ rest Q):TL X ops V σ rest Q:=by
 intro w s
 obtain ⟨J,lw,A,r,b,h2,u,e⟩:=s.reads m
 have q:n=xs.length:=by injection b
 have j:a=A:=by injection b
 obtain ⟨g,o,l,_⟩:=e (by omega)
 exact h g o (by rw [j,l]) w s
theorem bB {K:Kind α}{a:Option Addr}{n c:Nat}{xs:List α}{cd:Code}(i:Nat)(m:jC (lk V i) K (.slice a n c) xs)(h1:0<n)(h:∀ g o,a=some ⟨g,o,none⟩→TC X V σ cd Q):TC X V σ cd Q:=by
 intro w s
 obtain ⟨J,lw,A,r,b,h2,u,e⟩:=s.reads m
 have q:n=xs.length:=by injection b
 have j:a=A:=by injection b
 obtain ⟨g,o,l,_⟩:=e (by omega)
 exact h g o (by rw [j,l]) w s
theorem pU {t e:TypeId}{x y:Operand}{g o n c sz:Nat}{k:IntKind}{j:Int}(h:li X.P t=some e)(a:hK X.P e=some sz)(m:ev σ x=.slice (some ⟨g,o,none⟩) n c)(b:ev σ y=.int k j)(l:0≤j)(h1:j<n) :
  VO X V σ ⟨d,.indexAddr t x y,ty,pos,af,gd⟩ (.pointer (some ⟨g,o+j.toNat*sz,none⟩)):=by
 intro w _
 have i:=iO h
 simp [execOp,m,b,Instr.indexAt,asIntOf,run_underlying i,l,h1,eI a,fS]
def y5 (K:Kind α)(fo:Nat)(pr:α→Value):Prop:=∀ I x cs,K.rd I x cs→qO cs fo=some (pr x)
def y6 (K:Kind α)(fo:Nat)(L:Kind β)(pr:α→List β):Prop:=∀ I x cs,K.rd I x cs→∃ v,qO cs fo=some v∧pT L I v (pr x)
theorem jW {K:Kind α}{J:Hp}{g o n c:Nat}{xs:List α}(r:pT K J (.slice (some ⟨g,o,none⟩) n c) xs){j:Nat}{x:α}(a:xs[j]?=some x) :
  ∃ cs,K.rd J x cs∧∀ k u,cs[k]?=some u→iE J g (o+j*K.sz+k)=some u:=by
 obtain ⟨A,s,l,h2,D,b⟩:=r
 have m:=(List.getElem?_eq_some_iff.1 a).1
 obtain ⟨B,o',e,i⟩:=b (by omega)
 injection l with e1 e2 e3
 rw [e] at e1
 injection e1 with e1
 injection e1 with e1 e4
 subst e1; subst e4
 obtain ⟨cs,p,q⟩:=i j x a
 exact ⟨cs,p,fun k u h=>q k u h⟩
theorem jH [Inhabited α]{K:Kind α}{T:TypeId}{x:Operand}{g o n c fo:Nat}{xs:List α}{pr:α→Value}(i:Nat)(j:Int)(b:eX X.P T=some false)
  (e:y5 K fo pr) (m:jC (lk V i) K (.slice (some ⟨g,o,none⟩) n c) xs) (u:ev σ x=.pointer (some ⟨g,o+j.toNat*K.sz+fo,none⟩)) (h:0≤j) (h1:j<n) :
  VO X V σ ⟨d,.load T x,ty,pos,af,gd⟩ (pr (ix xs j)):=by
 intro w s
 obtain ⟨J,lw,r⟩:=s.reads m
 have B:n=xs.length:=by obtain ⟨A,D,l,_⟩:=r; injection l
 obtain ⟨cs,p,q⟩:=jW r (ja h (by omega))
 have a:=iC lw (q fo _ (by rw [← ki]; exact e J _ cs p))
 simp only [execOp,Instr.loadAt,u,Instr.sureAddr,Sem.run_bind,Sem.run_pure,Result.andThen_ok,eM b a]
theorem wc [Inhabited α]{K:Kind α}{cells:α→List Value}{T:TypeId}{x:Operand}{g o n c:Nat}{xs:List α}(i:Nat)(j:Int)(m:eX X.P T=some true)(l:hK X.P T=some K.sz)
  (h:∀ I x cs,K.rd I x cs→cs=cells x) (F:jC (lk V i) K (.slice (some ⟨g,o,none⟩) n c) xs) (E:ev σ x=.pointer (some ⟨g,o+j.toNat*K.sz,none⟩)) (D:0≤j) (h1:j<n) :
  VO X V σ ⟨d,.load T x,ty,pos,af,gd⟩ (.agg (cells (ix xs j)).toArray):=by
 intro w s
 obtain ⟨J,lw,r⟩:=s.reads F
 have M:n=xs.length:=by obtain ⟨A,L,G,_⟩:=r; injection G
 obtain ⟨cs,p,q⟩:=jW r (ja D (by omega))
 have e:=K.rd_len p
 obtain rfl:=h _ _ _ p
 have b:=eY (P:=X.P) (w:=w) (a:=⟨g,o+j.toNat*K.sz,none⟩) m (by rw [e]; exact l) (fun k u B=>by rw [fS]; exact iC lw (q k u B))
 simp only [execOp,Instr.loadAt,E,Instr.sureAddr,Sem.run_bind,Sem.run_pure,Result.andThen_ok,b]
def cl (g k:Nat)(cs:List Value):HP:=⟨fun I h=>h=Hp.none∧∀ i u,cs[i]?=some u→iE I g (k+i)=some u,fun l p=>⟨p.1,fun i u a=>kh l (p.2 i u a)⟩⟩
theorem pV {C w:World}{V:List HP}(s:St C w V)(i:Nat){g k:Nat}{cs:List Value}(b:lk V i=cl g k cs):∀ (j:Nat) (u:Value),cs[j]?=some u→w.cell? ⟨g,k+j,none⟩=some u:=by
 obtain ⟨I,h,p,lI,_,_⟩:=s.look i
 rw [b] at p
 exact fun j u a=>iC lI (p.2 j u a)
theorem o8 {L:Kind β}{I:Hp}{v:Value}{ys:List β}(r:pT L I v ys):∃ a c,v=.slice a ys.length c:=by
 obtain ⟨A,c,e,_⟩:=r
 exact ⟨A,c,e⟩
theorem St.more {C w:World}{V:List HP}(s:St C w V)(i:Nat){A:Type}{E:A→List HP}(f:∀ I h,(lk V i).p I h→Le I w→Le h w→∃ a,eQ (E a) I Hp.none):∃ a,St C w (E a++V):=by
 obtain ⟨j,I,g,q,b,lw,st⟩:=s
 obtain ⟨h1,h2,l,p,m⟩:=eS i st
 obtain ⟨a,e⟩:=f I h1 p (lw.mono b.left) (lw.mono (Hp.le_trans l.left b.right))
 exact ⟨a,j,I,g,q,b,lw,cD.2 ⟨Hp.none,g,Join.none g,e,st⟩⟩
theorem rM {p q:HP}{I:Hp}(a:p.p I Hp.none)(b:q.p I Hp.none):eQ [p,q] I Hp.none:=⟨_,_,Join.none _,a,_,_,Join.none _,b,rfl⟩
theorem St.leaf [Inhabited α]{C w:World}{V:List HP}{K:Kind α}{L:Kind β}{g o n c fo:Nat}{xs:List α}{pr:α→List β}(s:St C w V)(i:Nat)(j:Int)
  (B:y6 K fo L pr) (F:lk V i=aN K (.slice (some ⟨g,o,none⟩) n c) xs) (D:0≤j) (h1:j<n) :
  ∃ p:Option Addr×Nat,St C w ([cl g (o+j.toNat*K.sz+fo) [.slice p.1 (pr (ix xs j)).length p.2],aN L (.slice p.1 (pr (ix xs j)).length p.2) (pr (ix xs j))]++V):=by
 refine St.more (E:=fun p:Option Addr×Nat=>[cl g (o+j.toNat*K.sz+fo) [.slice p.1 (pr (ix xs j)).length p.2],aN L (.slice p.1 (pr (ix xs j)).length p.2) (pr (ix xs j))]) s i ?_
 intro I h p _ _
 rw [F] at p
 obtain ⟨_,r⟩:=p
 have G:n=xs.length:=by obtain ⟨A,m,e,_⟩:=r; injection e
 obtain ⟨cs,p,q⟩:=jW r (ja D (by omega))
 obtain ⟨v,e,l⟩:=B I _ cs p
 obtain ⟨a,m,rfl⟩:=o8 l
 exact ⟨⟨a,m⟩,rM ⟨rfl,fun k u b=>by
  cases k with
  | zero =>
   simp only [List.getElem?_cons_zero,Option.some.injEq] at b
   subst b
   exact q fo _ (by rw [← ki]; exact e)
  | succ k=>simp at b⟩ ⟨rfl,l⟩⟩
def Ag (K:Kind α){A:Type}(cells:A→α→List Value)(b:A→α→List HP):Prop:=∀ I x cs,K.rd I x cs→∃ a,cs=cells a x∧eQ (b a x) I Hp.none
theorem St.elem [Inhabited α]{C w:World}{V:List HP}{K:Kind α}{A:Type}{cells:A→α→List Value}{b:A→α→List HP}{g o n c:Nat}{xs:List α}(s:St C w V)(i:Nat)(j:Int)
  (l:Ag K cells b) (B:lk V i=aN K (.slice (some ⟨g,o,none⟩) n c) xs) (m:0≤j) (h1:j<n) :
  ∃ a,St C w ((cl g (o+j.toNat*K.sz) (cells a (ix xs j))::b a (ix xs j))++V):=by
 refine St.more (E:=fun a=>cl g (o+j.toNat*K.sz) (cells a (ix xs j))::b a (ix xs j)) s i ?_
 intro I h p _ _
 rw [B] at p
 obtain ⟨_,r⟩:=p
 have D:n=xs.length:=by obtain ⟨A,F,u,_⟩:=r; injection u
 obtain ⟨cs,p,q⟩:=jW r (ja m (by omega))
 obtain ⟨a,rfl,e⟩:=l I _ cs p
 exact ⟨a,_,_,Join.none _,⟨rfl,q⟩,e⟩
theorem gG [Inhabited α]{K:Kind α}{A:Type}{cells:A→α→List Value}{b:A→α→List HP}{g o n c:Nat}{xs:List α}(i:Nat)(j:Int)
  (e:Ag K cells b) (m:lk V i=aN K (.slice (some ⟨g,o,none⟩) n c) xs) (l:0≤j) (h1:j<n)
  (h:∀ a,TL X ops (cl g (o+j.toNat*K.sz) (cells a (ix xs j))::(b a (ix xs j)++V)) σ rest Q):TL X ops V σ rest Q:=by
 intro w s
 obtain ⟨a,s'⟩:=s.elem i j e m l h1
 exact h a w s'
theorem dL [Inhabited α]{K:Kind α}{A:Type}{cells:A→α→List Value}{b:A→α→List HP}{g o n c:Nat}{xs:List α}{cd:Code}(i:Nat)(j:Int)
  (e:Ag K cells b) (m:lk V i=aN K (.slice (some ⟨g,o,none⟩) n c) xs) (l:0≤j) (h1:j<n)
  (h:∀ a,TC X (cl g (o+j.toNat*K.sz) (cells a (ix xs j))::(b a (ix xs j)++V)) σ cd Q):TC X V σ cd Q:=by
 intro w s
 obtain ⟨a,s'⟩:=s.elem i j e m l h1
 exact h a w s'
end
end Go.Pg
namespace Go.Pg
section
variable {X:Cx}{V:List HP}{σ:cZ}{Q:Exit→cZ→World→Prop}{ops:Array Oper}{rest:List Oper}
variable {d:Option Nat}{ty:TypeId}{pos:String}{af:Array Edge}{gd:Option (Nat×Bool)}
variable {α β:Type}
def SetL (K:Kind α)(fo:Nat)(v:Value)(f:α→α):Prop:=fo<K.sz∧∀ I h x cs,K.own I h x cs→K.own I h (f x) (cs.set fo v)
theorem ke {P:Program}{w:World}{g k:Nat}{cs:List Value}{e:Nat}{fr:Nat×Nat}{v:Value}(b:w.heap[g]?=some (.cells cs.toArray e fr))(h:k<cs.length)(a:fr=(0,0)∨cs.length≤fr.1)(i:v.oneCell'=true) :
  (store ⟨g,k,none⟩ v).run P w=.ok () (w.setCell ⟨g,k,none⟩ v):=by
 rw [run_store P w _ v _ i]
 have h1:w.cell? ⟨g,k,none⟩=some cs[k]:=by simp [World.cell?,b,h]
 have h2:w.frozen? ⟨g,k,none⟩=false:=by
  simp only [World.frozen?,b]
  rcases a with rfl | a
  ·simp
  ·obtain ⟨lo,j⟩:=fr
   simp only at a
   simp; omega
 simp [h1,h2]
theorem vm [Inhabited α]{K:Kind α}{T e:TypeId}{x y:Operand}{g o n c fo:Nat}{xs:List α}{v:Value}{f:α→α}(i:Nat)(j:Int)(hd:iD X.n d=true)(hw:dP ops σ ⟨d,.store T x y,ty,pos,af,gd⟩=true)(hs:hK X.P T=some 1)
  (hl:SetL K fo v f) (hV:lk V i=ow K e (.slice (some ⟨g,o,none⟩) n c) xs) (hx:ev σ x=.pointer (some ⟨g,o+j.toNat*K.sz+fo,none⟩)) (hy:ev σ y=v) (E:v.oneCell'=true) (h0:0≤j) (h1:j<n)
  (h:TL X ops (vk V i (ow K e (.slice (some ⟨g,o,none⟩) n c) (xs.set j.toNat (f (ix xs j))))) (fV σ d undef) rest Q):TL X ops V σ (⟨d,.store T x y,ty,pos,af,gd⟩::rest) Q:=by
 intro w s
 have Z:∃ (_:Unit) (M:World),(execOp (ev σ) ⟨d,.store T x y,ty,pos,af,gd⟩).run X.P w=.ok .skip M∧St X.C M (vk V i (ow K e (.slice (some ⟨g,o,none⟩) n c) (xs.set j.toNat (f (ix xs j))))):=by
  refine St.act s i (q:=fun _=>_) (Ψ:=fun _ M=>_) ?_
  intro I hh p _ lw _
  rw [hV] at p
  have p:o0 K e I hh (.slice (some ⟨g,o,none⟩) n c) xs:=p
  rcases p with ⟨A,E,rfl,_⟩|⟨g',c',pre,l,b,fr,hb,E,h2,h3,h4,u,G,ol⟩
  ·injection E with _ E _
   omega
  injection E with r e2 e3
  injection r with r
  injection r with r e4
  subst r; subst e3; subst e4; subst e2
  obtain ⟨L,Y,b1,g1,g2,hc,a2,jn,ox,U⟩:=kw ol (ja h0 h1)
  have a4:=K.own_len ox
  have B:w.heap[g]?=some (.cells (pre++l++b).toArray e fr):=lw g _ (G.left g _ (by simp [Hp.one]))
  have a3:l.length=L.length+Y.length+b1.length:=by rw [hc]; simp [Nat.add_assoc]
  have J:pre.length+j.toNat*K.sz+fo<(pre++l++b).length:=by
   have:=hl.1
   simp only [List.length_append]
   omega
  have a0:=ke (P:=X.P) B J (by rcases u with u | u; exact .inl u; exact .inr (by simpa [Nat.add_assoc] using u)) E
  refine ⟨(),w.setCell ⟨g,pre.length+j.toNat*K.sz+fo,none⟩ v,?_⟩
  obtain ⟨h',D⟩:=Join.of_disj (h1:=Hp.one g (.cells ((pre++l++b).set (pre.length+j.toNat*K.sz+fo) v).toArray e fr)) (h2:=hb) (fun k=>by
   rcases G.disj k with e | e
   ·refine .inl ?_
    simp only [Hp.one] at *
    split at e
    ·cases e
    ·rename_i m; rw [if_neg m]
   ·exact .inr e)
  refine ⟨h',?_,fun a=>a.setCell _ _,?_,?_,?_,?_⟩
  ·simp only [execOp,Instr.storeAt,hx,hy,Instr.sureAddr,Sem.run_bind,Sem.run_pure,Result.andThen_ok,iX hs E a0]
  ·have O:(pre++l++b).set (pre.length+j.toNat*K.sz+fo) v=pre++(L++Y.set fo v++b1)++b:=by
    have:=hl.1
    rw [List.append_assoc,List.set_append_right _ _ (by omega),show pre.length+j.toNat*K.sz+fo - pre.length=j.toNat*K.sz+fo by omega,List.set_append_left _ _ (by omega),hc,List.append_assoc L,
     List.set_append_right _ _ (by omega),show j.toNat*K.sz+fo - L.length=fo by omega,List.set_append_left _ _ (by omega)]
    simp [List.append_assoc]
   refine .inr ⟨g,_,pre,L++Y.set fo v++b1,b,fr,hb,by rw [List.length_set],by rw [List.length_set]; exact h2,h3,by rw [List.length_set]; exact h4,?_,?_,?_⟩
   ·rcases u with u | u
    ·exact .inl u
    ·refine .inr ?_
     simp only [List.length_append,List.length_set] at *
     omega
   ·rw [← O]; exact D
   ·exact U I _ _ _ _ (Hp.le_refl I) jn (hl.2 I _ _ _ ox)
  ·intro k o' e'
   rcases D.cases e' with ⟨r,_⟩|⟨r,e2⟩
   ·simp only [Hp.one] at r
    split at r
    ·rename_i F
     subst F
     rw [← Option.some.inj r,gZ B]
     simp
    ·cases r
   ·have m:k≠g:=by
     rintro rfl
     simp [Hp.one] at e2
    rw [fH m]
    exact lw k _ (G.right k _ r)
  ·intro k F
   refine .inl fun hn=>F ?_
   have:=(G.is_none k).1 hn
   refine (D.is_none k).2 ⟨?_,this.2⟩
   have:=this.1
   simp only [Hp.one] at *
   split at this
   ·cases this
   ·rename_i m; rw [if_neg m]
  ·intro k o' F e'
   have:=((G.is_none k).1 F).1
   have m:k≠g:=by
    rintro rfl
    simp [Hp.one] at this
   rw [fH m]
   exact e'
 obtain ⟨_,M,hr,s'⟩:=Z
 exact eN hd hw (by rw [hr]; exact h M s')
def o9 (P:Program)(K:Kind α)(e:TypeId)(z:α):Prop:=∃ cs,kv P e=some cs∧cs.length=K.sz∧∀ I,K.own I Hp.none z cs
theorem rN {K:Kind α}{I:Hp}{z:α}{cs:List Value}(h:K.own I Hp.none z cs)(m:Nat):gF K I Hp.none (List.replicate m z) (List.replicate m cs).flatten:=by
 induction m with
 | zero=>exact ⟨rfl,rfl⟩
 | succ m ih=>exact ⟨Hp.none,Hp.none,cs,(List.replicate m cs).flatten,Join.none _,by simp [List.replicate_succ],h,ih⟩
theorem mX (z:Array Value)(e:0<z.size)(m:Nat):(madeCells z (m*z.size)).toList=(List.replicate m z.toList).flatten:=by
 induction m with
 | zero=>simp [madeCells]
 | succ m ih =>
  have h1:(madeCells z ((m+1)*z.size)).toList=(madeCells z (m*z.size)).toList++z.toList:=by
   apply List.ext_getElem?
   intro k
   simp only [madeCells,Array.toList_map,Array.toList_range,List.getElem?_map,List.getElem?_append,List.length_map,List.length_range]
   by_cases hk:k<m*z.size
   ·rw [List.getElem?_range (by rw [Nat.succ_mul]; omega),if_pos hk,List.getElem?_range hk]
   ·rw [if_neg hk]
    by_cases hk2:k<(m+1)*z.size
    ·rw [List.getElem?_range hk2]
     have a:k - m*z.size<z.size:=by rw [Nat.succ_mul] at hk2; omega
     have b:k % z.size=k - m*z.size:=by
      rw [← Nat.mod_eq_of_lt a]
      conv=>lhs; rw [show k=(k - m*z.size)+m*z.size by omega]
      rw [Nat.add_mul_mod_self_right]
     simp only [Option.map_some,b]
     rw [getElem!_pos z _ a]
     simp [a]
    ·rw [List.getElem?_eq_none (by simp; omega)]
     rw [Nat.succ_mul] at hk2
     rw [List.getElem?_eq_none (by simp; omega)]
     rfl
  rw [h1,ih]
  clear h1 ih
  induction m with
  | zero=>simp
  | succ m ih=>rw [List.replicate_succ,List.flatten_cons,List.append_assoc,ih,← List.flatten_cons,← List.replicate_succ]
theorem fI {K:Kind α}{t e:TypeId}{x y:Operand}{m:Int}{z:α}{r:Nat}(hd:iD X.n d=true)(hw:dP ops σ ⟨d,.makeSlice t x y,ty,pos,af,gd⟩=true)(ht:li X.P t=some e)(q:hK X.P e=some K.sz)(u:gQ X.P e=some r)
  (Y:o9 X.P K e z) (Z:0<K.sz) (hx:ev σ x=.int .i64 m) (M:ev σ y=.int .i64 m) (h0:0≤m) (h1:m≤140737488355328) (h2:r*m≤281474976710656)
  (h:∀ a c,TL X ops (ow K e (.slice a (List.replicate m.toNat z).length c) (List.replicate m.toNat z)::V) (fV σ d (.slice a (List.replicate m.toNat z).length c)) rest Q):TL X ops V σ (⟨d,.makeSlice t x y,ty,pos,af,gd⟩::rest) Q:=by
 intro w s
 obtain ⟨cs,g,D,E⟩:=Y
 unfold kv at g
 unfold hK at q
 unfold gQ at u
 cases hi:X.P.info? e with
 | none=>rw [hi] at q; cases q
 | some info =>
  rw [hi] at g q u
  simp only [Option.map_some,Option.some.injEq,Option.bind_some] at g q u
  cases hzz:info.zero with
  | none=>rw [hzz] at g; cases g
  | some zv =>
   rw [hzz] at g
   simp only [Option.map_some,Option.some.injEq] at g
   have hr:=run_make (P:=X.P) w t e info zv (iO ht) hi hzz .i64 .i64 m m h0 (Int.le_refl _) (by rw [u]; exact h2) (by omega)
   refine eN hd hw ?_
   have B:(execOp (ev σ) ⟨d,.makeSlice t x y,ty,pos,af,gd⟩).run X.P w=.ok (.value (.slice (some ⟨w.heap.size,0,none⟩) m.toNat m.toNat)) (w.alloc (.cells (madeCells zv.cells (m.toNat*info.size)) e)):=by
    simp only [execOp,hx,M,Sem.run_bind,hr,Result.andThen_ok,Sem.run_pure]
   rw [B]
   have G:zv.cells.size=K.sz:=by rw [← D,← g]; simp
   have j:(madeCells zv.cells (m.toNat*info.size)).toList=(List.replicate m.toNat cs).flatten:=by
    rw [q,← G,mX _ (by omega),← g]
   have T:(List.replicate m.toNat z).length=m.toNat:=by simp
   have:=h (some ⟨w.heap.size,0,none⟩) m.toNat
   rw [T] at this
   refine this _ (St.new s (fun a=>a.alloc _) (fun I _=>?_) ?_)
   ·obtain ⟨O,J⟩:=Join.of_disj (h1:=Hp.one w.heap.size (.cells (madeCells zv.cells (m.toNat*info.size)) e)) (h2:=Hp.none) (fun _=>.inr rfl)
    have L:=J.symm.eq_of_none
    refine ⟨O,.inr ⟨w.heap.size,m.toNat,[],(List.replicate m.toNat cs).flatten,[],(0,0),Hp.none,by simp,by simp,by simp only [maxLen]; omega,by simp,.inl rfl,?_,rN (E I) _⟩,?_,?_⟩
    ·have U:((List.replicate m.toNat cs).flatten).toArray=madeCells zv.cells (m.toNat*info.size):=by rw [← j]
     simp only [List.nil_append,List.append_nil,U]
     exact J
    ·rw [L]
     intro b o l
     simp only [Hp.one] at l
     split at l
     ·rename_i i
      subst i
      rw [← Option.some.inj l]
      show (w.heap.push _)[w.heap.size]?=_
      simp
     ·cases l
    ·rw [L]
     intro b i
     simp only [Hp.one] at i
     split at i
     ·rename_i l; exact Nat.le_of_eq l.symm
     ·exact absurd rfl i
   ·intro b o l
    have F:=(Array.getElem?_eq_some_iff.1 l).1
    show (w.heap.push _)[b]?=_
    rw [Array.getElem?_push,if_neg (Nat.ne_of_lt F)]
    exact l
end
end Go.Pg
namespace Go.Pg
theorem jI {P:Program}{b:Nat}{T:Nat}{fr:Nat×Nat}{N:Nat}(F:fr=(0,0)∨N≤fr.1):∀ (vs:List Value) (k j:Nat) (cs:List Value) (w:World),cs.length=N→w.heap[b]?=some (.cells cs.toArray T fr)→k+j+vs.length≤cs.length→(∀ v∈vs,v.oneCell'=true) →
  ∃ a,(storeCells ⟨b,k,none⟩ vs j).run P w=.ok () a∧a.heap[b]?=some (.cells (cs.take (k+j)++vs++cs.drop (k+j+vs.length)).toArray T fr)∧(∀ i,i≠b→a.heap[i]?=w.heap[i]?)∧∀ C,Same C w→Same C a:=by
 intro vs
 induction vs with
 | nil =>
  intro k j cs w _ l _ _
  exact ⟨w,by simp [storeCells],by simpa using l,fun _ _=>rfl,fun _ h=>h⟩
 | cons v vs ih =>
  intro k j cs w q l G s
  have g:k+j<cs.length:=by simp at G; omega
  have h1:=ke (P:=P) l g (by rw [q]; exact F) (s v (by simp))
  have m:(w.setCell ⟨b,k+j,none⟩ v).heap[b]?=some (.cells (cs.set (k+j) v).toArray T fr):=by rw [gZ l]; simp
  obtain ⟨a,r,e,o,D⟩:=ih k (j+1) (cs.set (k+j) v) _ (by simpa using q) m (by simp at *; omega) (fun u E=>s u (by simp [E]))
  refine ⟨a,?_,?_,fun i B=>?_,fun C I=>D C (I.setCell _ _)⟩
  ·simp only [storeCells,Sem.run_bind,fS,h1,Result.andThen_ok,r]
  ·rw [e]
   congr 2
   rw [show k+(j+1)=(k+j)+1 by omega,List.take_succ_eq_append_getElem (by simp; exact g),List.take_set_of_le (Nat.le_refl _),List.drop_set_of_lt (by omega)]
   simp [Nat.add_assoc,Nat.add_comm,Nat.add_left_comm]
  ·rw [o i B,fH B]
def Ah {α:Type}(q:HP)(K:Kind α)(x:Value)(ys:List α):Prop :=
 ∀ I h,q.p I h→∃ A c a b,x=.slice A ys.length c∧ys.length≤maxLen∧Hp.le b h∧gF K I b ys a ∧
  (∀ J,Hp.le I J→Hp.le h J→0<ys.length→∃ g o,A=some ⟨g,o,none⟩∧∀ k u,a[k]?=some u→iE J g (o+k)=some u)
theorem dM {α:Type}{K:Kind α}{e:Nat}{v:Value}{ys:List α}:Ah (ow K e v ys) K v ys:=by
 intro I h p
 have p:o0 K e I h v ys:=p
 rcases p with ⟨A,rfl,rfl,rfl⟩|⟨g,c,pre,b,a,fr,r,rfl,h2,B,D,E,l,q⟩
 ·exact ⟨A,0,[],Hp.none,rfl,Nat.zero_le _,Hp.le_refl _,⟨rfl,rfl⟩,fun _ _ _ h=>absurd h (Nat.lt_irrefl _)⟩
 ·refine ⟨_,c,b,r,rfl,Nat.le_trans h2 B,l.right,q,fun J _ s _=>⟨g,pre.length,rfl,fun k u m=>?_⟩⟩
  have i:J g=some (.cells (pre++b++a).toArray e fr):=s _ _ (l.left g _ (by simp [Hp.one]))
  unfold iE
  rw [i]
  have j:=(List.getElem?_eq_some_iff.1 m).1
  show (pre++b++a).toArray[pre.length+k]?=some u
  rw [List.getElem?_toArray,List.append_assoc,List.getElem?_append_right (by omega),Nat.add_sub_cancel_left,List.getElem?_append_left j]
  exact m
theorem p6 {α:Type}{K:Kind α}(l:K.Flat){J:Hp}{g o:Nat}:∀ (ys:List α) (b:Nat),(∀ j x,ys[j]?=some x→∃ cs,K.rd J x cs∧∀ i u,cs[i]?=some u→iE J g (o+(b+j)*K.sz+i)=some u) →
  ∃ a,gF K J Hp.none ys a∧∀ k u,a[k]?=some u→iE J g (o+b*K.sz+k)=some u:=by
 intro ys
 induction ys with
 | nil=>intro b _; exact ⟨[],⟨rfl,rfl⟩,fun k u e=>by simp at e⟩
 | cons y ys ih =>
  intro b h
  obtain ⟨cs,h1,h2⟩:=h 0 y rfl
  obtain ⟨a,o1,o2⟩:=ih (b+1) (fun j x m=>by
   obtain ⟨cs,p,q⟩:=h (j+1) x (by simpa using m)
   exact ⟨cs,p,fun i u e=>by rw [show b+1+j=b+(j+1) by omega]; exact q i u e⟩)
  refine ⟨cs++a,⟨Hp.none,Hp.none,cs,a,Join.none _,rfl,l _ _ _ h1,o1⟩,fun k u e=>?_⟩
  have r:=K.rd_len h1
  by_cases hk:k<cs.length
  ·rw [List.getElem?_append_left hk] at e
   simpa using h2 k u e
  ·rw [List.getElem?_append_right (by omega)] at e
   have:=o2 _ u e
   rw [Nat.succ_mul] at this
   rw [show o+b*K.sz+k=o+(b*K.sz+K.sz)+(k - cs.length) by omega]
   exact this
theorem rO {α:Type}{K:Kind α}(B:K.Flat){v:Value}{ys:List α}:Ah (aN K v ys) K v ys:=by
 rintro I h ⟨rfl,A,c,e,h2,m,r⟩
 by_cases hp:0<ys.length
 ·obtain ⟨g,o,s,D⟩:=r hp
  obtain ⟨a,o1,o2⟩:=p6 B ys 0 (fun j x E=>by
   obtain ⟨cs,p,q⟩:=D j x E
   exact ⟨cs,p,fun i u b=>by rw [show 0+j=j from Nat.zero_add j]; exact q i u b⟩)
  refine ⟨A,c,a,Hp.none,e,m,Hp.le_refl _,o1,fun J l _ _=>⟨g,o,s,fun k u b=>kh l ?_⟩⟩
  simpa using o2 k u b
 ·obtain rfl:ys=[]:=List.eq_nil_of_length_eq_zero (by omega)
  exact ⟨A,c,[],Hp.none,e,m,Hp.le_refl _,⟨rfl,rfl⟩,fun _ _ _ h=>absurd h hp⟩
theorem Le.one_new {w a:World}{o:Obj}(h:a.heap[w.heap.size]?=some o):Le (Hp.one w.heap.size o) a:=by
 intro b o' e
 simp only [Hp.one] at e
 split at e
 ·rename_i g; subst g; rw [← Option.some.inj e]; exact h
 ·cases e
theorem t' {α:Type}{P:Program}{K:Kind α}{t ty e:TypeId}{ae:Nat}{w:World}{s x:Value}{xs ys:List α}{z:α}(ht:li P t=some e)(hs:hK P e=some K.sz)(hb:gQ P e=some ae)(hz:o9 P K e z)(aw:0<K.sz)
  {I h1 h2 L:Hp} {q:HP} (hj:Join h1 h2 L) (ho:o0 K e I h1 s xs) (hq:q.p I h2) (am:Ah q K x ys) (lI:Le I w) (a1:Le L w) (dj:∀ b,I b=Option.none∨L b=Option.none) (hl:(xs.length+ys.length)*ae≤140737488355328) (au:xs.length+ys.length≤140737488355328) (az:0<ae) :
  ∃ a c w' U,(Builtin.append_ #[t,t] ty #[s,x]).run P w=.ok (.slice a (xs++ys).length c) w'∧(∀ C,Same C w→Same C w')∧o0 K e I U (.slice a (xs++ys).length c) (xs++ys)∧Le U w' ∧
   (∀ k,U k≠Option.none→L k≠Option.none∨w.heap.size≤k)∧∀ (k:Nat) (o:Obj),L k=Option.none→w.heap[k]?=some o→w'.heap[k]?=some o:=by
 obtain ⟨A,cx,i,a6,rfl,hm,a8,on,ah⟩:=am I h2 hq
 have aj:=m9 on
 obtain ⟨J,jJ⟩:=Join.of_disj dj
 have lJ:Le J w:=fun b o e=>by
  rcases jJ.cases e with ⟨e,_⟩|⟨e,_⟩
  ·exact lI b o e
  ·exact a1 b o e
 have ar:=ah J jJ.left (Hp.le_trans hj.right jJ.right)
 obtain ⟨zc,Z,ap,ay⟩:=hz
 have hu:=iO ht
 unfold kv at Z
 unfold hK at hs
 unfold gQ at hb
 cases hi:P.info? e with
 | none=>rw [hi] at hs; cases hs
 | some info =>
 rw [hi] at Z hs hb
 simp only [Option.map_some,Option.some.injEq,Option.bind_some] at Z hs hb
 cases hzz:info.zero with
 | none=>rw [hzz] at Z; cases Z
 | some zv =>
 have D:(xs++ys).length=xs.length+ys.length:=List.length_append
 rcases Nat.eq_zero_or_pos ys.length with h0 | Y
 ·-- nothing comes
  obtain rfl:ys=[]:=List.eq_nil_of_length_eq_zero h0
  have ax:i=[]:=on.2
  have e0:a6=Hp.none:=on.1
  rcases ho with ⟨B,rfl,rfl,rfl⟩|⟨g,c,pre,m,l,fr,ab,rfl,p2,p3,p4,p5,jo,ol⟩
  ·refine ⟨B,0,w,Hp.none,?_,fun _ h=>h,.inl ⟨B,rfl,rfl,rfl⟩,fun _ _ e=>(by cases e),fun _ h=>absurd rfl h,fun _ _ _ h=>h⟩
   cases B<;>cases A with
   | none=>simp [Builtin.append_,run_underlying hu,sizeOf,typeInfo,hi,Builtin.lenOf,Builtin.firstCells,loadCells,loadCellsFrom,storeCells]
   | some a=>simp [Builtin.append_,run_underlying hu,sizeOf,typeInfo,hi,Builtin.lenOf,Builtin.firstCells,loadCells,loadCellsFrom,storeCells]
  ·refine ⟨some ⟨g,pre.length,none⟩,c,w,h1,?_,fun _ h=>h,.inr ⟨g,c,pre,m,l,fr,ab,by simp,by simpa using p2,p3,by simpa using p4,p5,jo,by simpa using ol⟩,?_,?_,fun _ _ _ h=>h⟩
   ·cases A with
    | none=>simp [Builtin.append_,run_underlying hu,sizeOf,typeInfo,hi,Builtin.lenOf,Builtin.firstCells,loadCells,loadCellsFrom,p2,storeCells]
    | some a=>simp [Builtin.append_,run_underlying hu,sizeOf,typeInfo,hi,Builtin.lenOf,Builtin.firstCells,loadCells,loadCellsFrom,p2,storeCells]
   ·exact a1.mono hj.left
   ·exact fun k hk=>.inl fun hn=>hk ((hj.is_none k).1 hn).1
 ·obtain ⟨g2,o2,rfl,aa⟩:=ar Y
  have M:∀ (j:Nat) (v:Value),i[j]?=some v→w.cell? ((⟨g2,o2,none⟩:Addr).add j)=some v:=fun j v hv=>by
   rw [fS]
   exact iC lJ (aa j v hv)
  have a2:i.length=ys.length*info.size:=by rw [aj,hs]
  have a0:∀ (G:Nat) (E:List Value) (a7:Hp),G<xs.length+ys.length→Hp.le a7 h1→gF K I a7 xs E →
    ∃ U,o0 K e I U (.slice (some ⟨w.heap.size,0,none⟩) (xs++ys).length (grownCap w (xs.length+ys.length) G e)) (xs++ys) ∧
     Le U (w.drew.alloc (.cells (E.toArray++i.toArray++Builtin.zeroCells zv.cells (grownCap w (xs.length+ys.length) G e - (xs.length+ys.length))) e)) ∧
     (∀ k,U k≠Option.none→L k≠Option.none∨w.heap.size≤k):=by
   intro G E a7 a3 an ol
   obtain ⟨F,ju⟩:=Join.of_disj (h1:=a7) (h2:=a6) (fun b=>by
    rcases hj.disj b with f | f
    ·refine .inl ?_
     cases hh:a7 b with
     | none=>rfl
     | some o=>rw [an b o hh] at f; cases f
    ·refine .inr ?_
     cases hh:a6 b with
     | none=>rfl
     | some o=>rw [a8 b o hh] at f; cases f)
   have u:Hp.le F L:=fun b o e=>by
    rcases ju.cases e with ⟨e,_⟩|⟨e,_⟩
    ·exact hj.left b o (an b o e)
    ·exact hj.right b o (a8 b o e)
   obtain ⟨U,jo⟩:=Join.of_disj (h1:=Hp.one w.heap.size (.cells (E.toArray++i.toArray++Builtin.zeroCells zv.cells (grownCap w (xs.length+ys.length) G e - (xs.length+ys.length))) e)) (h2:=F) (fun b=>by
    by_cases a4:b=w.heap.size
    ·refine .inr ?_
     cases hh:F b with
     | none=>rfl
     | some o =>
      have:=a1.lt (b:=b) (by rw [u b o hh]; exact fun h=>by cases h)
      omega
    ·exact .inl (by simp [Hp.one,a4]))
   have ak:=grownCap_ge w (xs.length+ys.length) G e
   have aq:=grownCap_le_maxLen w (xs.length+ys.length) G e (by simp only [maxLen]; omega)
   refine ⟨U,.inr ⟨w.heap.size,_,[],E++i,(Builtin.zeroCells zv.cells (grownCap w (xs.length+ys.length) G e - (xs.length+ys.length))).toList,(0,0),F,rfl,by rw [D]; exact ak,aq,?_,.inl rfl,?_,ma ju ol on⟩,?_,?_⟩
   ·rw [D]
    have:zv.cells.size=K.sz:=by
     rw [hzz] at Z
     simp only [Option.map_some,Option.some.injEq] at Z
     rw [← ap,← Z]; simp
    simp [size_zeroCells,this]
   ·have:([]++(E++i)++(Builtin.zeroCells zv.cells (grownCap w (xs.length+ys.length) G e - (xs.length+ys.length))).toList).toArray=E.toArray++i.toArray++Builtin.zeroCells zv.cells (grownCap w (xs.length+ys.length) G e - (xs.length+ys.length)):=by
     apply Array.ext'
     simp
    rw [this]
    exact jo
   ·intro b o e
    rcases jo.cases e with ⟨e,_⟩|⟨e,_⟩
    ·exact Le.one_new (w:=w) (by show (w.heap.push _)[w.heap.size]?=_; simp) b o e
    ·have a3:=a1.lt (b:=b) (by rw [u b o e]; exact fun h=>by cases h)
     show (w.heap.push _)[b]?=_
     rw [Array.getElem?_push,if_neg (Nat.ne_of_lt a3)]
     exact a1 b o (u b o e)
   ·intro k hk
    by_cases hkk:k=w.heap.size
    ·exact .inr (Nat.le_of_eq hkk.symm)
    ·refine .inl fun hn=>hk ((jo.is_none k).2 ⟨by simp [Hp.one,hkk],?_⟩)
     cases hh:F k with
     | none=>rfl
     | some o=>rw [u k o hh] at hn; cases hn
  have a5:∀ (O:Obj) (k:Nat) (o:Obj),L k=Option.none→w.heap[k]?=some o→(w.drew.alloc O).heap[k]?=some o:=by
   intro O k o _ e
   have a3:=(Array.getElem?_eq_some_iff.1 e).1
   show (w.heap.push _)[k]?=_
   rw [Array.getElem?_push,if_neg (Nat.ne_of_lt a3)]
   exact e
  have a9:∀ (O:Obj) (C:World),Same C w→Same C (w.drew.alloc O):=fun O C h=>h.drew.alloc O
  rcases ho with ⟨B,rfl,rfl,rfl⟩|⟨g,c,pre,m,l,fr,ab,rfl,p2,p3,p4,p5,jo,ol⟩
  ·cases B with
   | some b =>
    have hr:=run_append_grow (P:=P) w t ty e info zv hu hi hzz b 0 0 [] (by simp) (fun j v hv=>by simp at hv) ⟨g2,o2,none⟩ ys.length cx i a2 M (by omega) (by omega) (by rw [hb,Nat.zero_add]; exact growslice_fits Y (by simpa using hl))
    obtain ⟨U,f1,f2,f3⟩:=a0 0 [] Hp.none (by simp; exact Y) (Hp.le_refl _) ⟨rfl,rfl⟩
    simp only [List.length_nil,Nat.zero_add,List.nil_append] at f1 f2 hr ⊢
    exact ⟨_,_,_,U,hr,a9 _,f1,f2,f3,a5 _⟩
   | none =>
   have hr:=run_append_nil (P:=P) w t ty e info zv hu hi hzz ⟨g2,o2,none⟩ ys.length cx i a2 M Y (by omega) (by rw [hb]; simp only [List.length_nil,Nat.zero_add] at hl; omega)
   obtain ⟨U,f1,f2,f3⟩:=a0 0 [] Hp.none (by simp; exact Y) (Hp.le_refl _) ⟨rfl,rfl⟩
   simp only [List.length_nil,Nat.zero_add,List.nil_append] at f1 f2 hr ⊢
   refine ⟨_,_,_,U,hr,a9 _,f1,?_,f3,a5 _⟩
   rw [show ([]:List Value).toArray++i.toArray=i.toArray by simp] at f2
   exact f2
  ·have ac:w.heap[g]?=some (.cells (pre++m++l).toArray e fr):=a1 g _ (hj.left g _ (jo.left g _ (by simp [Hp.one])))
   have al:=m9 ol
   by_cases hroom:xs.length+ys.length≤c
   ·-- in place
    have av:ys.length*K.sz≤l.length:=by rw [p4]; exact Nat.mul_le_mul_right _ (by omega)
    obtain ⟨w',r,e',ot,sm⟩:=jI (P:=P) (N:=(pre++m++l).length) (T:=e) (fr:=fr) (b:=g) (by simpa [Nat.add_assoc] using p5) i (pre.length+xs.length*K.sz) 0 (pre++m++l) w rfl ac (by simp only [List.length_append]; omega) (rI on)
    obtain ⟨F,ju⟩:=Join.of_disj (h1:=ab) (h2:=a6) (fun b=>by
     rcases hj.disj b with f | f
     ·exact .inl ((jo.is_none b).1 f).2
     ·refine .inr ?_
      cases hh:a6 b with
      | none=>rfl
      | some o=>rw [a8 b o hh] at f; cases f)
    have u:∀ b o,F b=some o→L b=some o∧b≠g:=fun b o e=>by
     rcases ju.cases e with ⟨e,_⟩|⟨e,_⟩
     ·refine ⟨hj.left b o (jo.right b o e),?_⟩
      rintro rfl
      rcases jo.disj b with f | f
      ·simp [Hp.one] at f
      ·rw [f] at e; cases e
     ·refine ⟨hj.right b o (a8 b o e),?_⟩
      rintro rfl
      rcases hj.disj b with f | f
      ·have:=((jo.is_none b).1 f).1
       simp [Hp.one] at this
      ·rw [a8 b o e] at f; cases f
    obtain ⟨U,jn⟩:=Join.of_disj (h1:=Hp.one g (.cells (pre++(m++i)++l.drop i.length).toArray e fr)) (h2:=F) (fun b=>by
     by_cases a4:b=g
     ·refine .inr ?_
      cases hh:F b with
      | none=>rfl
      | some o=>exact absurd a4 (u b o hh).2
     ·exact .inl (by simp [Hp.one,a4]))
    have ao:(pre++m++l).take (pre.length+xs.length*K.sz+0)++i++(pre++m++l).drop (pre.length+xs.length*K.sz+0+i.length)=pre++(m++i)++l.drop i.length:=by
     have h1:pre.length+xs.length*K.sz+0=(pre++m).length:=by simp [al]
     rw [h1,List.take_left,List.drop_append,List.drop_of_length_le (by omega),Nat.add_sub_cancel_left]
     simp [List.append_assoc]
    rw [ao] at e'
    refine ⟨some ⟨g,pre.length,none⟩,c,w',U,?_,sm,.inr ⟨g,c,pre,m++i,l.drop i.length,fr,F,rfl,by rw [D]; exact hroom,p3,?_,?_,jn,ma ju ol on⟩,?_,?_,?_⟩
    ·have hf:=run_firstCells_some (P:=P) w info.size ys.length ⟨g2,o2,none⟩ ys.length cx i a2 M
     rw [hs] at hf
     simp [Builtin.append_,run_underlying hu,sizeOf,typeInfo,hi,Builtin.lenOf,hroom,hf,fS,hs,r,Sem.run_bind]
    ·rw [List.length_drop,p4,aj,← Nat.sub_mul,D]
     congr 1
     omega
    ·rcases p5 with p5 | p5
     ·exact .inl p5
     ·refine .inr ?_
      simp only [List.length_append,List.length_drop]
      omega
    ·intro b o e
     rcases jn.cases e with ⟨e1,_⟩|⟨e1,_⟩
     ·simp only [Hp.one] at e1
      split at e1
      ·rename_i a4; subst a4; rw [← Option.some.inj e1]; exact e'
      ·cases e1
     ·obtain ⟨q1,q2⟩:=u b o e1
      rw [ot b q2]
      exact a1 b o q1
    ·intro k hk
     refine .inl fun hn=>hk ((jn.is_none k).2 ⟨?_,?_⟩)
     ·have:=((jo.is_none k).1 ((hj.is_none k).1 hn).1).1
      simp only [Hp.one] at *
      split at this
      ·cases this
      ·rename_i ai; rw [if_neg ai]
     ·cases hh:F k with
      | none=>rfl
      | some o=>rw [(u k o hh).1] at hn; cases hn
    ·intro k o hk e
     have ai:k≠g:=by
      rintro rfl
      have:=((jo.is_none k).1 ((hj.is_none k).1 hk).1).1
      simp [Hp.one] at this
     rw [ot k ai]
     exact e
   ·have ag:∀ (j:Nat) (v:Value),m[j]?=some v→w.cell? ((⟨g,pre.length,none⟩:Addr).add j)=some v:=fun j v hv=>by
     have a3:=(List.getElem?_eq_some_iff.1 hv).1
     rw [fS]
     simp only [World.cell?,ac,Option.isSome_none,Bool.false_eq_true,if_false,List.getElem?_toArray]
     rw [List.append_assoc,List.getElem?_append_right (by omega),Nat.add_sub_cancel_left,List.getElem?_append_left a3]
     exact hv
    have hr:=run_append_grow (P:=P) w t ty e info zv hu hi hzz ⟨g,pre.length,none⟩ xs.length c m (by rw [al,hs]) ag ⟨g2,o2,none⟩ ys.length cx i a2 M (by omega) (by omega) (by rw [hb]; exact growslice_fits (by omega) hl)
    obtain ⟨U,f1,f2,f3⟩:=a0 c m ab (by omega) jo.right ol
    rw [← D] at hr
    rw [D] at hr f1
    refine ⟨_,_,_,U,by rw [D]; exact hr,a9 _,by rw [D]; exact f1,f2,f3,a5 _⟩
end Go.Pg
