import Derived.WalkKit
import Derived.Deep.LoopGhost
import Derived.Test.YtmpnollfdpdipaaGreatDoorPgF
set_option linter.unusedVariables false
set_option linter.unusedSimpArgs false
namespace Go.Pg
abbrev bL:=Nat→Value
def gX (σ:bL)(d:Nat)(v:Value):bL:=fun t=>cond (Nat.beq t d) v (σ t)
def dS (σ:bL):Option Nat→Value→bL
 | some d,v=>gX σ d v
 | none,_=>σ
def jU (σ:bL):List (Nat×Value)→bL
 | []=>σ
 | (d,v)::l=>gX (jU σ l) d v
def cT (a:Act):bL:=fun t=>a.tmps.getD t undef
def ev (σ:bL):Operand→Value
 | .tmp t=>σ t
 | .const v=>v
 | .global g=>.pointer (some ⟨g,0,none⟩)
 | .func f=>.func (.func f) #[] #[]
theorem f' (a:Act):a.eval=ev (cT a):=by
 funext x
 cases x<;>rfl
theorem jV (σ:bL)(d:Nat)(v:Value):gX σ d v d=v:=by simp [gX]
theorem my (σ:bL){d t:Nat}(v:Value)(h:t≠d):gX σ d v t=σ t:=by
 have:Nat.beq t d=false:=by
  cases hb:Nat.beq t d with
  | false=>rfl
  | true=>exact absurd (Nat.eq_of_beq_eq_true hb) h
 simp [gX,this]
theorem mz (σ:bL)(d:Nat){v:Value}(h:σ d=v):gX σ d v=σ:=by
 funext t
 by_cases e:t=d
 ·subst e; rw [jV,h]
 ·rw [my _ _ e]
theorem gf (a:Act)(g:Option Tmp)(v:Value)(h:∀ d,g=some d→d<a.tmps.size):cT (a.put g v)=dS (cT a) g v:=by
 cases g with
 | none=>rfl
 | some d =>
  funext t
  show (a.tmps.setIfInBounds d v).getD t undef=gX (cT a) d v t
  have j:=h d rfl
  by_cases e:t=d
  ·subst e
   rw [jV]
   simp [Array.getD_eq_getD_getElem?,j]
  ·rw [my _ _ e]
   have i:¬ d=t:=fun h=>e h.symm
   simp [cT,Array.getD_eq_getD_getElem?,Array.getElem?_setIfInBounds,i]
structure Nn where
 n:Nat
 ds:List Deferred
 alt:Act→World→Prop
@[reducible] def Nn.of (n:Nat):Nn:=⟨n,[],fun _ _=>False⟩
def dT (N:Nn)(Q:Exit→bL→World→Prop):Exit→Act→World→Prop:=fun e a w=>(a.tmps.size=N.n∧a.defers=N.ds∧Q e (cT a) w)∨(e=.ret∧N.alt a w)
theorem dK {N:Nn}{Q:Exit→bL→World→Prop}{e:Exit}{a:Act}{w:World}(h:dT N Q e a w)(g:e≠.ret):a.tmps.size=N.n∧a.defers=N.ds∧Q e (cT a) w:=h.resolve_right fun h=>g h.1
theorem gg {N:Nn}{Q Q':Exit→bL→World→Prop}{e:Exit}{a:Act}{w:World}(h:dT N Q e a w)(g:Q e (cT a) w→Q' e (cT a) w):dT N Q' e a w:=h.imp (fun ⟨a,b,c⟩=>⟨a,b,g c⟩) id
def W (P:Program)(N:Nn)(c:Code)(Q:Exit→bL→World→Prop)(σ:bL)(w:World):Prop :=
 ∀ a:Act,a.tmps.size=N.n→a.defers=N.ds→cT a=σ→c.wp P (dT N Q) a w
def WL (P:Program)(N:Nn)(ops:Array Oper)(rest:List Oper)(Q:Exit→bL→World→Prop)(σ:bL)(w:World):Prop :=
 ∀ a:Act,a.tmps.size=N.n→a.defers=N.ds→cT a=σ→wpList P ops (dT N Q) rest a w
def fy (N:Nn):Option Nat→Bool
 | some d=>Nat.blt d N.n
 | none=>true
def hR (ops:Array Oper)(σ:bL)(j:Nat):Option Bool :=
 match (ops[j]?).bind (·.dst) with
 | some d=>match σ d with
  | .bool b=>some b
  | _=>none
 | none=>none
theorem jW (ops:Array Oper)(a:Act)(j:Nat):yielded ops a.tmps j=hR ops (cT a) j:=by
 unfold yielded hR
 cases h:(ops[j]?).bind (·.dst) with
 | none=>rfl
 | some d =>
  simp only [Option.bind_some,cT,Array.getD_eq_getD_getElem?]
  cases ht:a.tmps[d]? with
  | none=>simp [undef]
  | some v=>cases v<;>simp
def cE (ops:Array Oper)(σ:bL)(o:Oper):Bool :=
 match o.guard with
 | none=>true
 | some (j,b)=>hR ops σ j==some b
theorem fN (ops:Array Oper)(a:Act)(o:Oper):Region.wanted o (yielded ops a.tmps)=cE ops (cT a) o:=by
 unfold Region.wanted cE
 cases o.guard with
 | none=>rfl
 | some g=>simp only [jW]
section
variable {P:Program}{n:Nn}{ops:Array Oper}{rest:List Oper}{o:Oper}{Q Q':Exit→bL→World→Prop}{σ:bL}{w:World}{c x y:Code}
theorem W.mono (h:W P n c Q σ w)(i:∀ e σ w,Q e σ w→Q' e σ w):W P n c Q' σ w :=
 fun a h1 h2 g=>wp_mono (h a h1 h2 g) fun _ _ _ q=>gg q (i _ _ _)
def eP (K:bL→World→Prop)(Q:Exit→bL→World→Prop):Exit→bL→World→Prop
 | .normal,σ,w=>K σ w
 | e,σ,w=>Q e σ w
def fO (a:Nat)(Q:Exit→bL→World→Prop):Exit→bL→World→Prop
 | .exit id',σ,w=>cond (Nat.beq id' a) (Q .normal σ w) (Q (.exit id') σ w)
 | e,σ,w=>Q e σ w
theorem s8 (h:W P n x (eP (fun σ w=>W P n y Q σ w) Q) σ w):W P n (.seq x y) Q σ w:=by
 intro a h1 h2 i
 refine wp_seq (wp_mono (h a h1 h2 i) ?_)
 rintro e g u q
 cases e with
 | normal =>
  obtain ⟨j,m,r⟩:=dK q (by simp)
  exact r g j m rfl
 | _=>exact q
theorem pZ (h:Q .normal σ w):W P n .skip Q σ w:=fun a h1 h2 e=>wp_skip (.inl ⟨h1,h2,e▸h⟩)
theorem s9 (h:Q .ret σ w):W P n .ret Q σ w:=fun a h1 h2 e=>wp_ret (.inl ⟨h1,h2,e▸h⟩)
theorem q8 {e:Nat}(h:Q (.exit e) σ w):W P n (.exit e) Q σ w:=fun a h1 h2 g=>wp_exit (.inl ⟨h1,h2,g▸h⟩)
theorem mA {k:Operand}{b:Bool}(g:ev σ k=.bool b)(h:W P n (cond b x y) Q σ w):W P n (.cond k x y) Q σ w:=by
 intro a h1 h2 e
 refine wp_cond (t:=b) (by rw [f',e]; exact g) ?_
 cases b
 ·exact h a h1 h2 e
 ·exact h a h1 h2 e
theorem o3 {g:Nat}(h:W P n c (fO g Q) σ w):W P n (.block g c) Q σ w:=by
 intro a h1 h2 B
 refine wp_block (wp_mono (h a h1 h2 B) ?_)
 rintro e j u q
 cases e with
 | exit id' =>
  obtain ⟨m,r,i⟩:=dK q (by simp)
  unfold fO at i
  show if id'=g then dT n Q .normal j u else dT n Q (.exit id') j u
  by_cases e:id'=g
  ·subst e
   rw [if_pos rfl]
   have:Nat.beq id' id'=true:=Nat.beq_refl id'
   simp only [this,cond_true] at i
   exact .inl ⟨m,r,i⟩
  ·rw [if_neg e]
   have:Nat.beq id' g=false:=by
    cases hb:Nat.beq id' g with
    | false=>rfl
    | true=>exact absurd (Nat.eq_of_beq_eq_true hb) e
   simp only [this,cond_false] at i
   exact .inl ⟨m,r,i⟩
 | _=>exact q
theorem mB {g:Nat}{l:List Oper}(h:WL P n l.toArray l Q σ w):W P n (.region g l.toArray false) Q σ w :=
 fun a h1 h2 e=>wp_region_lit (h a h1 h2 e)
theorem qa (h:Q .normal σ w):WL P n ops [] Q σ w:=fun a h1 h2 e=>wpList_nil (.inl ⟨h1,h2,e▸h⟩)
theorem qb (I:Nat→bL→World→Prop)(k:Nat)(r:I k σ w)
  (g:∀ k σ w,I k σ w→W P n c (eP (fun σ' i=>∃ h,h<k∧I h σ' i) Q) σ w):W P n (.loop c) Q σ w:=by
 intro a h1 h2 u
 refine wp_loop_ghost (fun k a w=>a.tmps.size=n.n∧a.defers=n.ds∧I k (cT a) w) k ⟨h1,h2,u▸r⟩ ?_
 rintro k a w ⟨g1,j,m⟩
 refine wp_mono (g k _ w m a g1 j rfl) ?_
 rintro e G i q
 cases e with
 | normal =>
  obtain ⟨E,F,h,D,B⟩:=dK q (by simp)
  exact ⟨h,D,E,F,B⟩
 | _=>exact q
def ud (P:Program)(o:Oper)(σ:bL)(a:bL→World→Prop)(Q:Exit→bL→World→Prop):Result Next→Prop
 | .ok (.value v) w'=>a (dS σ o.dst v) w'
 | .ok .skip w'=>a (dS σ o.dst undef) w'
 | .ok (.enter f args) w'=>Calls P f args w' fun
   | .returned v,w''=>a (dS σ o.dst v) w''
   | .panicked chain,w''=>Q (.panic chain) σ w''
   | .outgrown,_=>False
 | .halt (.panic v) w'=>Q (.panic [{v,recovered:=false}]) σ w'
 | _=>False
theorem Calls.mono' {P:Program}{f:FuncId}{args:Array Value}{w:World}{R g:Ending→World→Prop}(h:Calls P f args w R)(i:∀ e a,R e a→g e a):Calls P f args w g :=
 fun cs=>let ⟨e,a,fr,r,s⟩:=h cs; ⟨e,a,fr,i _ _ r,s⟩
theorem dA (B:fy n o.dst=true)(hw:cE ops σ o=true)(h:ud P o σ (fun σ w=>WL P n ops rest Q σ w) Q ((execOp (ev σ) o).run P w)):WL P n ops (o::rest) Q σ w:=by
 intro a h1 h2 m
 refine wpList_step fun K q=>?_
 rw [fN,m,hw,if_pos rfl]
 have g:∀ v,cT (a.put o.dst v)=dS σ o.dst v:=fun v=>by
  rw [gf,m]
  intro d e
  rw [e] at B
  rw [h1]
  exact Nat.lt_of_lt_of_le (Nat.lt_succ_self _) (Nat.le_of_ble_eq_true B)
 have j:∀ v,(a.put o.dst v).tmps.size=n.n:=fun v=>by
  cases hdd:o.dst with
  | none=>exact h1
  | some d=>show (a.tmps.setIfInBounds d v).size=n.n; rw [Array.size_setIfInBounds,h1]
 have i:∀ v,(a.put o.dst v).defers=n.ds:=fun v=>by
  cases hdd:o.dst with
  | none=>exact h2
  | some d=>exact h2
 unfold Oper.wp
 rw [f',m]
 revert h
 generalize (execOp (ev σ) o).run P w=r
 intro h
 match r,h with
 | .ok (.value v) w',h=>exact q _ _ (h _ (j v) (i v) (g v))
 | .ok .skip w',h=>exact q _ _ (h _ (j _) (i _) (g _))
 | .ok (.enter f args) w',h =>
  refine Calls.mono' h ?_
  intro e D u
  cases e with
  | returned v=>exact q _ _ (u _ (j v) (i v) (g v))
  | panicked chain=>exact .inl ⟨h1,h2,m▸u⟩
  | outgrown=>exact u.elim
 | .halt (.panic v) w',h=>exact .inl ⟨h1,h2,m▸h⟩
theorem qc (i:fy n o.dst=true)(hw:cE ops σ o=false)(h:WL P n ops rest Q (dS σ o.dst undef) w):WL P n ops (o::rest) Q σ w:=by
 intro a h1 h2 g
 refine wpList_step fun K j=>?_
 rw [fN,g,hw]
 simp only [Bool.false_eq_true,if_false]
 refine j _ _ (h _ ?_ ?_ ?_)
 ·cases hdd:o.dst with
  | none=>exact h1
  | some d=>show (a.tmps.setIfInBounds d _).size=n.n; rw [Array.size_setIfInBounds,h1]
 ·cases hdd:o.dst with
  | none=>exact h2
  | some d=>exact h2
 ·rw [gf,g]
  intro d e
  rw [e] at i
  rw [h1]
  exact Nat.lt_of_lt_of_le (Nat.lt_succ_self _) (Nat.le_of_ble_eq_true i)
end
def g0 (fn:Func)(σ:bL):Sem Value:=do
 let vs ← fn.results.mapM fun
  | .tmp t=>pure (σ t)
  | .cell a t=>do loadVar t (← asAddr (σ a))
 pure (if h:vs.size=1 then vs[0] else .tuple vs)
def ie (P:Program)(fn:Func)(R:Value→World→Prop):Exit→bL→World→Prop
 | .normal,σ,w | .ret,σ,w=>∃ v,(g0 fn σ).run P w=.ok v w∧R v w
 | _,_,_=>False
def mC (args:Array Value):bL:=fun t=>args.getD t undef
theorem li {args:Array Value}{n:Nat}:cT {tmps:=args++Array.replicate (n - args.size) undef,defers:=[]}=mC args:=by
 funext t
 simp only [cT,mC,Array.getD_eq_getD_getElem?,Array.getElem?_append]
 split
 ·rfl
 ·rename_i a
  rw [Array.getElem?_eq_none (by omega:args.size≤t)]
  by_cases h2:t - args.size<n - args.size
  ·simp [h2]
  ·simp [h2]
theorem kE {P:Program}{f:FuncId}{fn:Func}{c:Code}{args:Array Value}{w:World}{R:Value→World→Prop}
  (B:P.funcs[f]?=some fn) (u:fn.body=some c) (D:args.size≤fn.ntmps) (h:W P (.of fn.ntmps) c (ie P fn R) (mC args) w) :
  Calls P f args w fun e r=>∃ v,e=.returned v∧R v r:=by
 refine calls_of_wp B u ?_
 refine wp_mono (h _ (by simp; omega) rfl ?_) ?_
 ·exact li
 ·rintro e a r q
  obtain ⟨E,m,j⟩:=q.resolve_right fun h=>h.2
  cases e with
  | normal =>
   obtain ⟨v,i,g⟩:=j
   exact ⟨m,v,i,v,rfl,g⟩
  | ret =>
   obtain ⟨v,i,g⟩:=j
   exact ⟨m,v,i,v,rfl,g⟩
  | _=>exact j.elim
end Go.Pg
namespace Go.Pg
abbrev Hp:=Nat→Option Obj
def Hp.none:Hp:=fun _=>Option.none
def Hp.one (b:Nat)(o:Obj):Hp:=fun k=>if k=b then some o else Option.none
def Hp.le (h g:Hp):Prop:=∀ b o,h b=some o→g b=some o
def Join (h1 h2 g:Hp):Prop:=∀ b,(h1 b=Option.none∧g b=h2 b)∨(h2 b=Option.none∧g b=h1 b)
theorem Hp.le_refl (h:Hp):Hp.le h h:=fun _ _ e=>e
theorem Hp.le_trans {f g h:Hp}(a:Hp.le f g)(b:Hp.le g h):Hp.le f h:=fun _ _ e=>b _ _ (a _ _ e)
theorem Hp.none_le (h:Hp):Hp.le Hp.none h:=fun _ _ e=>by cases e
theorem Join.symm {h1 h2 g:Hp}(j:Join h1 h2 g):Join h2 h1 g:=fun b=>(j b).symm
theorem Join.none (h:Hp):Join Hp.none h h:=fun b=>.inl ⟨rfl,rfl⟩
theorem Join.none' (h:Hp):Join h Hp.none h:=(Join.none h).symm
theorem Join.eq_of_none {h g:Hp}(j:Join Hp.none h g):g=h:=by
 funext b
 rcases j b with ⟨_,e⟩|⟨a,e⟩
 ·exact e
 ·rw [e,a]; rfl
theorem Join.left {h1 h2 g:Hp}(j:Join h1 h2 g):Hp.le h1 g:=fun b o e=>by
 rcases j b with ⟨a,_⟩|⟨_,h⟩
 ·rw [a] at e; cases e
 ·rw [h]; exact e
theorem Join.right {h1 h2 g:Hp}(j:Join h1 h2 g):Hp.le h2 g:=j.symm.left
theorem Join.of_disj {h1 h2:Hp}(d:∀ b,h1 b=Option.none∨h2 b=Option.none):∃ g,Join h1 h2 g:=by
 refine ⟨fun b=>(h1 b).or (h2 b),fun b=>?_⟩
 rcases d b with e | e
 ·exact .inl ⟨e,by simp [e]⟩
 ·refine .inr ⟨e,by simp [e]⟩
theorem Join.disj {h1 h2 g:Hp}(j:Join h1 h2 g)(b:Nat):h1 b=Option.none∨h2 b=Option.none:=by
 rcases j b with ⟨e,_⟩|⟨e,_⟩
 ·exact .inl e
 ·exact .inr e
theorem Join.cases {h1 h2 g:Hp}(j:Join h1 h2 g){b:Nat}{o:Obj}(e:g b=some o):(h1 b=some o∧h2 b=Option.none)∨(h2 b=some o∧h1 b=Option.none):=by
 rcases j b with ⟨a,c⟩|⟨a,c⟩
 ·exact .inr ⟨c▸e,a⟩
 ·exact .inl ⟨c▸e,a⟩
theorem Join.is_none {h1 h2 g:Hp}(j:Join h1 h2 g)(b:Nat):g b=Option.none↔h1 b=Option.none∧h2 b=Option.none:=by
 rcases j b with ⟨a,c⟩|⟨a,c⟩
 ·rw [c]; exact ⟨fun h=>⟨a,h⟩,fun h=>h.2⟩
 ·rw [c]; exact ⟨fun h=>⟨h,a⟩,fun h=>h.1⟩
theorem Join.assoc {a b c B g:Hp}(D:Join a b B)(u:Join B c g):∃ q,Join b c q∧Join a q g:=by
 obtain ⟨q,i⟩:=Join.of_disj (h1:=b) (h2:=c) (fun k=>by
  rcases u.disj k with e | e
  ·exact .inl ((D.is_none k).1 e).2
  ·exact .inr e)
 refine ⟨q,i,fun k=>?_⟩
 rcases D k with ⟨r,m⟩|⟨r,m⟩
 ·refine .inl ⟨r,?_⟩
  rcases u k with ⟨f1,j⟩|⟨f1,j⟩
  ·rw [j]
   rcases i k with ⟨g1,h⟩|⟨g1,h⟩
   ·exact h.symm
   ·rw [g1,h]; rw [m] at f1; exact f1.symm
  ·rw [j,m]
   rcases i k with ⟨g1,h⟩|⟨g1,h⟩
   ·rw [h,f1]; exact g1
   ·exact h.symm
 ·rcases u k with ⟨f1,j⟩|⟨f1,j⟩
  ·rw [m] at f1
   refine .inl ⟨f1,?_⟩
   rw [j]
   rcases i k with ⟨g1,h⟩|⟨g1,h⟩
   ·exact h.symm
   ·rw [g1,h,r]
  ·refine .inr ⟨?_,by rw [j,m]⟩
   rcases i k with ⟨g1,h⟩|⟨g1,h⟩
   ·rw [h,f1]
   ·rw [h,r]
theorem Join.assoc' {a b c h g:Hp}(j:Join b c h)(m:Join a h g):∃ e,Join a b e∧Join e c g:=by
 obtain ⟨i,h1,h2⟩:=Join.assoc j.symm m.symm
 exact ⟨i,h1.symm,h2.symm⟩
structure HP where
 p:Hp→Hp→Prop
 mono:∀ {I J h},Hp.le I J→p I h→p J h
def sd:HP:=⟨fun _ h=>h=Hp.none,fun _ e=>e⟩
def cU:List HP→Hp→Hp→Prop
 | [],_,h=>h=Hp.none
 | q::V,I,h=>∃ h1 h2,Join h1 h2 h∧q.p I h1∧cU V I h2
theorem fG {V:List HP}{I J h:Hp}(l:Hp.le I J)(s:cU V I h):cU V J h:=by
 induction V generalizing h with
 | nil=>exact s
 | cons q V ih =>
  obtain ⟨h1,h2,j,a,b⟩:=s
  exact ⟨h1,h2,j,q.mono l a,ih b⟩
def lk:List HP→Nat→HP
 | [],_=>sd
 | q::_,0=>q
 | _::V,i+1=>lk V i
def o4:List HP→Nat→HP→List HP
 | [],_,q=>[q]
 | _::V,0,q=>q::V
 | p::V,i+1,q=>p::o4 V i q
def rm:List HP→Nat→List HP
 | [],_=>[]
 | _::V,0=>V
 | p::V,i+1=>p::rm V i
def mv (V:List HP)(i:Nat):List HP:=lk V i::rm V i
theorem dE {V:List HP}{I h:Hp}(i:Nat)(s:cU V I h):∃ h1 h2,Join h1 h2 h∧(lk V i).p I h1∧cU (rm V i) I h2:=by
 induction V generalizing h i with
 | nil=>exact ⟨Hp.none,h,Join.none h,rfl,s⟩
 | cons q V ih =>
  cases i with
  | zero=>exact s
  | succ i =>
   obtain ⟨h1,h2,j,a,b⟩:=s
   obtain ⟨g1,e,g,c,d⟩:=ih i b
   obtain ⟨k,r,u⟩:=Join.assoc' g j
   obtain ⟨m,B,D⟩:=Join.assoc r.symm u
   exact ⟨g1,m,D,c,h1,e,B,a,d⟩
theorem jX {V:List HP}{I h h1 h2:Hp}(i:Nat){q:HP}(j:Join h1 h2 h)(a:q.p I h1)(b:cU (rm V i) I h2):cU (o4 V i q) I h:=by
 induction V generalizing h h2 i with
 | nil=>exact ⟨h1,h2,j,a,b⟩
 | cons p V ih =>
  cases i with
  | zero=>exact ⟨h1,h2,j,a,b⟩
  | succ i =>
   obtain ⟨g1,D,e,c,d⟩:=b
   obtain ⟨k,g,r⟩:=Join.assoc' e j
   obtain ⟨m,u,B⟩:=Join.assoc g.symm r
   exact ⟨g1,m,B,c,ih i u d⟩
theorem o5 {V:List HP}{I h:Hp}(i:Nat)(s:cU V I h):cU (mv V i) I h:=dE i s
theorem bG {A V:List HP}{I h:Hp}:cU (A++V) I h↔∃ h1 h2,Join h1 h2 h∧cU A I h1∧cU V I h2:=by
 induction A generalizing h with
 | nil=>exact ⟨fun s=>⟨Hp.none,h,Join.none h,rfl,s⟩,fun ⟨h1,h2,j,a,b⟩=>by cases a; rw [j.eq_of_none]; exact b⟩
 | cons q A ih =>
  constructor
  ·rintro ⟨h1,h2,j,a,b⟩
   obtain ⟨g1,e,g,c,d⟩:=ih.1 b
   obtain ⟨k,i,m⟩:=Join.assoc' g j
   exact ⟨k,e,m,⟨h1,g1,i,a,c⟩,d⟩
  ·rintro ⟨h1,h2,j,⟨g1,e,g,a,b⟩,c⟩
   obtain ⟨k,i,m⟩:=Join.assoc g j
   exact ⟨g1,k,m,a,ih.2 ⟨e,h2,i,b,c⟩⟩
def Le (g:Hp)(w:World):Prop:=∀ b o,g b=some o→w.heap[b]?=some o
structure Same (C w:World):Prop where
 os:w.os=C.os
 tape:w.tape=C.tape
 output:w.output=C.output
def St (C w:World)(V:List HP):Prop:=Same C w∧∃ I h g,Join I h g∧Le g w∧cU V I h
theorem Le.lt {g:Hp}{w:World}(l:Le g w){b:Nat}(h:g b≠Option.none):b<w.heap.size:=by
 cases e:g b with
 | none=>exact absurd e h
 | some o=>exact (Array.getElem?_eq_some_iff.1 (l b o e)).1
theorem Le.mono {g a:Hp}{w:World}(l:Le g w)(h:Hp.le a g):Le a w:=fun b o e=>l b o (h b o e)
theorem Le.alloc {g:Hp}{w:World}(l:Le g w)(o:Obj):Le g (w.alloc o):=fun b o' e=>by
 have a:=l.lt (b:=b) (by rw [e]; exact fun h=>by cases h)
 show (w.heap.push o)[b]?=some o'
 rw [Array.getElem?_push,if_neg (Nat.ne_of_lt a)]
 exact l b o' e
theorem Same.alloc {C w:World}(s:Same C w)(o:Obj):Same C (w.alloc o):=⟨s.os,s.tape,s.output⟩
theorem Same.setCell {C w:World}(s:Same C w)(a:Addr)(v:Value):Same C (w.setCell a v):=⟨s.os,s.tape,s.output⟩
theorem Same.drew {C w:World}(s:Same C w):Same C w.drew:=⟨s.os,s.tape,s.output⟩
theorem St.mv {C w:World}{V:List HP}(s:St C w V)(i:Nat):St C w (mv V i):=by
 obtain ⟨a,I,h,g,j,l,s⟩:=s
 exact ⟨a,I,h,g,j,l,o5 i s⟩
theorem St.rm {C w:World}{V:List HP}(s:St C w V)(i:Nat):St C w (rm V i):=by
 obtain ⟨a,I,h,g,j,l,s⟩:=s
 obtain ⟨h1,h2,e,_,s'⟩:=dE i s
 obtain ⟨k,q,r⟩:=Join.assoc' e j
 obtain ⟨m,u,B⟩:=Join.assoc q.symm r
 exact ⟨a,I,h2,m,u,l.mono B.right,s'⟩
theorem St.drew {C w:World}{V:List HP}(s:St C w V):St C w.drew V:=by
 obtain ⟨a,I,h,g,j,l,s⟩:=s
 exact ⟨a.drew,I,h,g,j,l,s⟩
theorem St.look {C w:World}{V:List HP}(s:St C w V)(i:Nat):∃ I h,(lk V i).p I h∧Le I w∧Le h w∧(∀ b,I b=Option.none∨h b=Option.none):=by
 obtain ⟨a,I,h,g,j,l,s⟩:=s
 obtain ⟨h1,h2,m,c,s'⟩:=dE i s
 exact ⟨I,h1,c,l.mono j.left,l.mono (Hp.le_trans m.left j.right),fun b=>by
  rcases j.disj b with e | e
  ·exact .inl e
  ·exact .inr ((m.is_none b).1 e).1⟩
theorem St.turn {C w G:World}{V:List HP}(s:St C w V)(i:Nat){q:HP}(hs:Same C w→Same C G)
  (f:∀ I h,(lk V i).p I h→Le I w→Le h w→∃ r,q.p I r∧Le r G∧(∀ b,r b≠Option.none→h b≠Option.none∨w.heap.size≤b)∧∀ b o,h b=Option.none→w.heap[b]?=some o→G.heap[b]?=some o) :
  St C G (o4 V i q):=by
 obtain ⟨a,I,h,g,j,l,s⟩:=s
 obtain ⟨h1,h2,u,c,s'⟩:=dE i s
 obtain ⟨r,hq,Z,hn,M⟩:=f I h1 c (l.mono j.left) (l.mono (Hp.le_trans u.left j.right))
 have F:∀ b,r b≠Option.none→I b=Option.none∧h2 b=Option.none:=by
  intro b Y
  rcases hn b Y with e | e
  ·refine ⟨?_,?_⟩
   ·rcases j.disj b with f | f
    ·exact f
    ·exact absurd ((u.is_none b).1 f).1 e
   ·rcases u.disj b with f | f
    ·exact absurd f e
    ·exact f
  ·have:g b=Option.none:=by
    cases hg:g b with
    | none=>rfl
    | some o =>
     have:=(l.lt (b:=b) (by rw [hg]; exact fun h=>by cases h))
     omega
   have:=(j.is_none b).1 this
   exact ⟨this.1,((u.is_none b).1 this.2).2⟩
 obtain ⟨m,J⟩:=Join.of_disj (h1:=r) (h2:=h2) (fun b=>by
  by_cases e:r b=Option.none
  ·exact .inl e
  ·exact .inr (F b e).2)
 obtain ⟨U,E⟩:=Join.of_disj (h1:=I) (h2:=m) (fun b=>by
  by_cases e:r b=Option.none
  ·rcases j.disj b with f | f
   ·exact .inl f
   ·exact .inr ((J.is_none b).2 ⟨e,((u.is_none b).1 f).2⟩)
  ·exact .inl (F b e).1)
 refine ⟨hs a,I,m,U,E,?_,jX i J hq s'⟩
 intro b o e
 rcases E.cases e with ⟨B,O⟩|⟨B,O⟩
 ·refine M b o ?_ (l b o (j.left b o B))
  rcases j.disj b with f | f
  ·rw [f] at B; cases B
  ·exact ((u.is_none b).1 f).1
 ·rcases J.cases B with ⟨D,T⟩|⟨D,T⟩
  ·exact Z b o D
  ·refine M b o ?_ (l b o (j.right b o (u.right b o D)))
   rcases u.disj b with f | f
   ·exact f
   ·rw [f] at D; cases D
theorem St.new {C w m:World}{V:List HP}(s:St C w V){q:HP}(B:Same C w→Same C m)
  (f:∀ I,Le I w→∃ i,q.p I i∧Le i m∧(∀ b,i b≠Option.none→w.heap.size≤b)) (u:∀ (b:Nat) (o:Obj),w.heap[b]?=some o→m.heap[b]?=some o) :
  St C m (q::V):=by
 have D:St C w (sd::V):=by
  obtain ⟨a,I,h,g,j,l,s⟩:=s
  exact ⟨a,I,h,g,j,l,Hp.none,h,Join.none h,rfl,s⟩
 refine St.turn D 0 B ?_
 rintro I h e lI _
 obtain ⟨i,a,b,c⟩:=f I lI
 exact ⟨i,a,b,fun k r=>.inr (c k r),fun b o _ e=>u b o e⟩
theorem St.imp {C w:World}{A B V:List HP}(s:St C w (A++V))(f:∀ I h,Le I w→Le h w→cU A I h→cU B I h):St C w (B++V):=by
 obtain ⟨a,I,h,g,j,l,s⟩:=s
 obtain ⟨h1,h2,e,c,d⟩:=bG.1 s
 exact ⟨a,I,h,g,j,l,bG.2 ⟨h1,h2,e,f I h1 (l.mono j.left) (l.mono (Hp.le_trans e.left j.right)) c,d⟩⟩
theorem St.share {C w:World}{p q:HP}{V:List HP}(s:St C w (p::V))(f:∀ I J h,Hp.le I J→Hp.le h J→p.p I h→q.p J Hp.none):St C w (q::V):=by
 obtain ⟨a,I,h,g,j,l,h1,h2,i,c,d⟩:=s
 obtain ⟨k,e,m⟩:=Join.assoc' i j
 exact ⟨a,k,h2,g,m,l,Hp.none,h2,Join.none h2,f I k h1 e.left e.right c,fG e.left d⟩
end Go.Pg
namespace Go.Pg
def eN (g:Hp)(b k:Nat):Option Value :=
 match g b with
 | some (.cells c _ _)=>c[k]?
 | _=>none
theorem gt {g a:Hp}(l:Hp.le g a){b k:Nat}{v:Value}(h:eN g b k=some v):eN a b k=some v:=by
 unfold eN at *
 cases e:g b with
 | none=>rw [e] at h; cases h
 | some o=>rw [l b o e]; rw [e] at h; exact h
theorem fH {g:Hp}{w:World}(l:Le g w){b k:Nat}{v:Value}(h:eN g b k=some v):w.cell? ⟨b,k,none⟩=some v:=by
 unfold eN at h
 cases e:g b with
 | none=>rw [e] at h; cases h
 | some o =>
  have:=l b o e
  rw [e] at h
  cases o<;>simp at h
  simp [World.cell?,this,h]
structure Kind (α:Type) where
 sz:Nat
 rd:Hp→α→List Value→Prop
 own:Hp→Hp→α→List Value→Prop
 rd_mono:∀ {I J x cs},Hp.le I J→rd I x cs→rd J x cs
 own_mono:∀ {I J h x cs},Hp.le I J→own I h x cs→own J h x cs
 own_rd:∀ {I J h x cs},Hp.le I J→Hp.le h J→own I h x cs→rd J x cs
 rd_len:∀ {I x cs},rd I x cs→cs.length=sz
 own_len:∀ {I h x cs},own I h x cs→cs.length=sz
 rd_one:∀ {I x cs},rd I x cs→∀ u∈cs,u.oneCell'=true
 own_one:∀ {I h x cs},own I h x cs→∀ u∈cs,u.oneCell'=true
def Kind.Closed {α:Type}(K:Kind α):Prop:=∀ I J h x cs,K.own I h x cs→K.own J h x cs
def Kind.Flat {α:Type}(K:Kind α):Prop:=∀ I x cs,K.rd I x cs→K.own I Hp.none x cs
section
variable {α:Type}(K:Kind α)
def dX (I:Hp):Hp→List α→List Value→Prop
 | h,[],cs=>h=Hp.none∧cs=[]
 | h,x::xs,cs=>∃ h1 h2 a e,Join h1 h2 h∧cs=a++e∧K.own I h1 x a∧dX I h2 xs e
theorem gY {K:Kind α}{I J:Hp}(l:Hp.le I J){h:Hp}{xs:List α}{cs:List Value}(o:dX K I h xs cs):dX K J h xs cs:=by
 induction xs generalizing h cs with
 | nil=>exact o
 | cons x xs ih =>
  obtain ⟨h1,h2,g,i,j,e,a,b⟩:=o
  exact ⟨h1,h2,g,i,j,e,K.own_mono l a,ih b⟩
theorem jY {K:Kind α}(m:K.Closed){I J:Hp}{h:Hp}{xs:List α}{cs:List Value}(o:dX K I h xs cs):dX K J h xs cs:=by
 induction xs generalizing h cs with
 | nil=>exact o
 | cons x xs ih =>
  obtain ⟨h1,h2,g,i,j,e,a,b⟩:=o
  exact ⟨h1,h2,g,i,j,e,m _ _ _ _ _ a,ih b⟩
theorem ig {K:Kind α}{I h:Hp}{xs:List α}{cs:List Value}(o:dX K I h xs cs):cs.length=xs.length*K.sz:=by
 induction xs generalizing h cs with
 | nil=>rw [o.2]; simp
 | cons x xs ih =>
  obtain ⟨h1,h2,g,i,j,e,a,b⟩:=o
  rw [e,List.length_append,K.own_len a,ih b,List.length_cons,Nat.succ_mul,Nat.add_comm]
theorem mD {K:Kind α}{I h:Hp}{xs:List α}{cs:List Value}(o:dX K I h xs cs):∀ u∈cs,u.oneCell'=true:=by
 induction xs generalizing h cs with
 | nil=>intro u g; rw [o.2] at g; cases g
 | cons x xs ih =>
  obtain ⟨h1,h2,i,m,j,e,a,b⟩:=o
  intro u g
  rw [e] at g
  rcases List.mem_append.1 g with g | g
  ·exact K.own_one a u g
  ·exact ih b u g
theorem ij {K:Kind α}{I h h1 h2:Hp}{xs ys:List α}{g i:List Value}(j:Join h1 h2 h)(a:dX K I h1 xs g)(b:dX K I h2 ys i):dX K I h (xs++ys) (g++i):=by
 induction xs generalizing h h1 g with
 | nil =>
  obtain ⟨m,r⟩:=a
  subst m; subst r
  rw [j.eq_of_none]
  exact b
 | cons x xs ih =>
  obtain ⟨g1,E,d1,d2,u,e,p,q⟩:=a
  obtain ⟨k,B,D⟩:=Join.assoc u j
  exact ⟨g1,k,d1,d2++i,D,by rw [e,List.append_assoc],p,ih B q⟩
theorem kF {K:Kind α}{I h:Hp}{xs ys:List α}{cs:List Value}(o:dX K I h (xs++ys) cs):∃ h1 h2 g i,Join h1 h2 h∧cs=g++i∧dX K I h1 xs g∧dX K I h2 ys i:=by
 induction xs generalizing h cs with
 | nil=>exact ⟨Hp.none,h,[],cs,Join.none h,rfl,⟨rfl,rfl⟩,o⟩
 | cons x xs ih =>
  obtain ⟨h1,h2,g,i,j,e,a,b⟩:=o
  obtain ⟨g1,r,d1,d2,u,m,p,q⟩:=ih b
  obtain ⟨k,B,D⟩:=Join.assoc' u j
  exact ⟨k,r,g++d1,d2,D,by rw [e,m,List.append_assoc],⟨h1,g1,g,d1,B,rfl,a,p⟩,q⟩
theorem jd {K:Kind α}{I h:Hp}{xs:List α}{cs:List Value}(o:dX K I h xs cs){i:Nat}{x:α}(G:xs[i]?=some x) :
  ∃ a c b h1 h2,cs=a++c++b∧a.length=i*K.sz∧Join h1 h2 h∧K.own I h1 x c ∧
   ∀ u D x' B F,Hp.le I u→Join D h2 F→K.own u D x' B→dX K u F (xs.set i x') (a++B++b):=by
 have E:i<xs.length:=(List.getElem?_eq_some_iff.1 G).1
 have g:xs=xs.take i++(x::xs.drop (i+1)):=by
  have:xs.drop i=x::xs.drop (i+1):=by
   rw [List.drop_eq_getElem_cons E]
   congr 1
   rw [List.getElem?_eq_getElem E] at G
   exact Option.some.inj G
  rw [← this,List.take_append_drop]
 rw [g] at o
 obtain ⟨h1,h2,M,c2,j,e,J,g1,T,d1,d2,U,O,p,q⟩:=kF o
 obtain ⟨k,Z,k2⟩:=Join.assoc' U j
 obtain ⟨m,m1,m2⟩:=Join.assoc Z.symm k2
 refine ⟨M,d1,d2,g1,m,by rw [e,O,List.append_assoc],?_,m2,p,?_⟩
 ·rw [ig J,List.length_take,Nat.min_eq_left (Nat.le_of_lt E)]
 ·intro u D x' B F l Y ox
  have r:xs.set i x'=xs.take i++(x'::xs.drop (i+1)):=by
   rw [List.set_eq_take_append_cons_drop,if_pos E]
  rw [r,List.append_assoc]
  obtain ⟨n,n1,n2⟩:=Join.assoc' m1 Y
  obtain ⟨q1,q2,q3⟩:=Join.assoc n1.symm n2
  exact ij q3 (gY l J) ⟨D,T,B,d2,q2,rfl,ox,gY l q⟩
theorem o6 {K:Kind α}{I J h:Hp}{xs:List α}{cs:List Value}(o:dX K I h xs cs)(lI:Hp.le I J)(B:Hp.le h J){i:Nat}{x:α}(r:xs[i]?=some x) :
  ∃ c,K.rd J x c∧∀ k u,c[k]?=some u→cs[i*K.sz+k]?=some u:=by
 obtain ⟨a,c,b,h1,h2,e,m,j,p,_⟩:=jd o r
 refine ⟨c,K.own_rd lI (Hp.le_trans j.left B) p,fun k u g=>?_⟩
 have q:=(List.getElem?_eq_some_iff.1 g).1
 rw [e,List.append_assoc,List.getElem?_append_right (by omega),m,Nat.add_sub_cancel_left,List.getElem?_append_left q]
 exact g
def m8 (I:Hp)(v:Value)(xs:List α):Prop :=
 ∃ A c,v=.slice A xs.length c∧xs.length≤c∧xs.length≤maxLen ∧
  (0<xs.length→∃ g a,A=some ⟨g,a,none⟩∧∀ j x,xs[j]?=some x→∃ cs,K.rd I x cs∧∀ i u,cs[i]?=some u→eN I g (a+j*K.sz+i)=some u)
def kG (e:Nat)(I h:Hp)(v:Value)(xs:List α):Prop :=
 (∃ A,v=.slice A 0 0∧xs=[]∧h=Hp.none) ∨
 ∃ g c pre i a fr h1,v=.slice (some ⟨g,pre.length,none⟩) xs.length c∧xs.length≤c∧c≤maxLen∧a.length=(c - xs.length)*K.sz ∧
  (fr=(0,0)∨pre.length+i.length+a.length≤fr.1)∧Join (Hp.one g (.cells (pre++i++a).toArray e fr)) h1 h∧dX K I h1 xs i
theorem ik {K:Kind α}{I J:Hp}(l:Hp.le I J){v:Value}{xs:List α}(h:m8 K I v xs):m8 K J v xs:=by
 obtain ⟨A,c,e,h1,h2,r⟩:=h
 refine ⟨A,c,e,h1,h2,fun D=>?_⟩
 obtain ⟨g,m,q,B⟩:=r D
 refine ⟨g,m,q,fun j x F=>?_⟩
 obtain ⟨cs,a,b⟩:=B j x F
 exact ⟨cs,K.rd_mono l a,fun i u E=>gt l (b i u E)⟩
theorem jZ {K:Kind α}{e:Nat}{I J h:Hp}(l:Hp.le I J){v:Value}{xs:List α}(o:kG K e I h v xs):kG K e J h v xs:=by
 rcases o with o | ⟨g,c,pre,m,i,fr,h1,a,b,d,s,f,j,o⟩
 ·exact .inl o
 ·exact   .inr ⟨g,c,pre,m,i,fr,h1,a,b,d,s,f,j,gY l o⟩
theorem im {K:Kind α}(q:K.Closed){e:Nat}{I J h:Hp}{v:Value}{xs:List α}(o:kG K e I h v xs):kG K e J h v xs:=by
 rcases o with o | ⟨g,c,pre,m,i,fr,h1,a,b,d,s,f,j,o⟩
 ·exact .inl o
 ·exact   .inr ⟨g,c,pre,m,i,fr,h1,a,b,d,s,f,j,jY q o⟩
theorem gC {K:Kind α}{e:Nat}{I J h:Hp}{v:Value}{xs:List α}(lI:Hp.le I J)(E:Hp.le h J)(o:kG K e I h v xs):m8 K J v xs:=by
 rcases o with ⟨A,rfl,rfl,rfl⟩|⟨g,c,pre,r,m,fr,h1,a,b,d,s,f,j,o⟩
 ·exact ⟨A,0,rfl,Nat.le_refl _,Nat.zero_le _,fun h=>absurd h (Nat.lt_irrefl _)⟩
 ·refine ⟨_,c,a,b,Nat.le_trans b d,fun _=>⟨g,pre.length,rfl,fun k x M=>?_⟩⟩
  obtain ⟨cs,p,q⟩:=o6 o lI (Hp.le_trans j.right E) M
  refine ⟨cs,p,fun i u G=>?_⟩
  have F:J g=some (.cells (pre++r++m).toArray e fr):=E _ _ (j.left g _ (by simp [Hp.one]))
  unfold eN
  rw [F]
  show (pre++r++m).toArray[pre.length+k*K.sz+i]?=some u
  have D:=q i u G
  have B:=(List.getElem?_eq_some_iff.1 D).1
  rw [List.getElem?_toArray,List.append_assoc,List.getElem?_append_right (by omega),show pre.length+k*K.sz+i - pre.length=k*K.sz+i by omega,List.getElem?_append_left B]
  exact D
end
def Kind.scal {α:Type}(enc:α→Value)(h1:∀ x,(enc x).oneCell'=true):Kind α where
 sz:=1
 rd _ x cs:=cs=[enc x]
 own _ h x cs:=h=Hp.none∧cs=[enc x]
 rd_mono _ h:=h
 own_mono _ h:=h
 own_rd _ _ h:=h.2
 rd_len h:=by rw [h]; rfl
 own_len h:=by rw [h.2]; rfl
 rd_one h u hu:=by rw [h] at hu; rw [List.mem_singleton.1 hu]; exact h1 _
 own_one h u hu:=by rw [h.2] at hu; rw [List.mem_singleton.1 hu]; exact h1 _
def aA (s:aD):Value:=.string ⟨s.toArray⟩
def Kind.int (k:IntKind):Kind Int:=Kind.scal (Value.int k) (fun _=>rfl)
def Kind.bool:Kind Bool:=Kind.scal Value.bool (fun _=>rfl)
def Kind.str:Kind aD:=Kind.scal aA (fun _=>rfl)
def Kind.sl {α:Type}(e:Nat)(K:Kind α):Kind (List α) where
 sz:=1
 rd I xs cs:=∃ v,cs=[v]∧m8 K I v xs
 own I h xs cs:=∃ v,cs=[v]∧kG K e I h v xs
 rd_mono l h:=by obtain ⟨v,e,a⟩:=h; exact ⟨v,e,ik l a⟩
 own_mono l h:=by obtain ⟨v,e,a⟩:=h; exact ⟨v,e,jZ l a⟩
 own_rd l m h:=by obtain ⟨v,e,a⟩:=h; exact ⟨v,e,gC l m a⟩
 rd_len h:=by obtain ⟨v,e,a⟩:=h; rw [e]; rfl
 own_len h:=by obtain ⟨v,e,a⟩:=h; rw [e]; rfl
 rd_one h u hu:=by
  obtain ⟨v,e,A,c,rfl,_⟩:=h
  rw [e] at hu; rw [List.mem_singleton.1 hu]; rfl
 own_one h u hu:=by
  obtain ⟨v,e,a⟩:=h
  rw [e] at hu; rw [List.mem_singleton.1 hu]
  rcases a with ⟨A,rfl,_⟩|⟨g,c,pre,j,i,fr,h1,rfl,_⟩<;>rfl
def Kind.pair {α β:Type}(A:Kind α)(B:Kind β):Kind (α×β) where
 sz:=A.sz+B.sz
 rd I x cs:=∃ g i,cs=g++i∧A.rd I x.1 g∧B.rd I x.2 i
 own I h x cs:=∃ h1 h2 g i,Join h1 h2 h∧cs=g++i∧A.own I h1 x.1 g∧B.own I h2 x.2 i
 rd_mono l h:=by obtain ⟨g,i,e,a,b⟩:=h; exact ⟨g,i,e,A.rd_mono l a,B.rd_mono l b⟩
 own_mono l h:=by obtain ⟨h1,h2,g,i,j,e,a,b⟩:=h; exact ⟨h1,h2,g,i,j,e,A.own_mono l a,B.own_mono l b⟩
 own_rd l m h:=by
  obtain ⟨h1,h2,g,i,j,e,a,b⟩:=h
  exact ⟨g,i,e,A.own_rd l (Hp.le_trans j.left m) a,B.own_rd l (Hp.le_trans j.right m) b⟩
 rd_len h:=by obtain ⟨g,i,e,a,b⟩:=h; rw [e,List.length_append,A.rd_len a,B.rd_len b]
 own_len h:=by obtain ⟨h1,h2,g,i,j,e,a,b⟩:=h; rw [e,List.length_append,A.own_len a,B.own_len b]
 rd_one h u q:=by
  obtain ⟨g,i,e,a,b⟩:=h
  rw [e] at q
  rcases List.mem_append.1 q with q | q
  ·exact A.rd_one a u q
  ·exact B.rd_one b u q
 own_one h u q:=by
  obtain ⟨h1,h2,g,i,j,e,a,b⟩:=h
  rw [e] at q
  rcases List.mem_append.1 q with q | q
  ·exact A.own_one a u q
  ·exact B.own_one b u q
def Kind.iso {α β:Type}(K:Kind α)(f:β→α):Kind β where
 sz:=K.sz
 rd I x cs:=K.rd I (f x) cs
 own I h x cs:=K.own I h (f x) cs
 rd_mono:=K.rd_mono
 own_mono:=K.own_mono
 own_rd:=K.own_rd
 rd_len:=K.rd_len
 own_len:=K.own_len
 rd_one:=K.rd_one
 own_one:=K.own_one
def Kind.share {α:Type}(K:Kind α):Kind α where
 sz:=K.sz
 rd:=K.rd
 own I h x cs:=h=Hp.none∧K.rd I x cs
 rd_mono:=K.rd_mono
 own_mono l h:=⟨h.1,K.rd_mono l h.2⟩
 own_rd l _ h:=K.rd_mono l h.2
 rd_len:=K.rd_len
 own_len h:=K.rd_len h.2
 rd_one:=K.rd_one
 own_one h:=K.rd_one h.2
theorem Kind.scal_closed {α:Type}(enc:α→Value)(h1:∀ x,(enc x).oneCell'=true):(Kind.scal enc h1).Closed:=fun _ _ _ _ _ h=>h
theorem Kind.sl_closed {α:Type}{K:Kind α}(h:K.Closed)(e:Nat):(Kind.sl e K).Closed:=fun _ _ _ _ _ ⟨v,a,b⟩=>⟨v,a,im h b⟩
theorem Kind.pair_closed {α β:Type}{A:Kind α}{B:Kind β}(a:A.Closed)(b:B.Closed):(Kind.pair A B).Closed :=
 fun _ _ _ _ _ ⟨h1,h2,g,h,j,e,p,q⟩=>⟨h1,h2,g,h,j,e,a _ _ _ _ _ p,b _ _ _ _ _ q⟩
theorem Kind.iso_closed {α β:Type}{K:Kind α}(h:K.Closed)(f:β→α):(Kind.iso K f).Closed:=fun _ _ _ _ _ o=>h _ _ _ _ _ o
theorem Kind.scal_flat {α:Type}(enc:α→Value)(h1:∀ x,(enc x).oneCell'=true):(Kind.scal enc h1).Flat:=fun _ _ _ h=>⟨rfl,h⟩
def bx (b:Nat)(cs:Array Value)(T:Nat):HP:=⟨fun _ h=>h=Hp.one b (.cells cs T (0,0)),fun _ e=>e⟩
def ow {α:Type}(K:Kind α)(e:Nat)(v:Value)(xs:List α):HP:=⟨fun I h=>kG K e I h v xs,fun l o=>jZ l o⟩
def bF {α:Type}(K:Kind α)(v:Value)(xs:List α):HP:=⟨fun I h=>h=Hp.none∧m8 K I v xs,fun l o=>⟨o.1,ik l o.2⟩⟩
end Go.Pg
namespace Go.Pg
structure Cx where
 P:Program
 n:Nn
 C:World
def TC (X:Cx)(V:List HP)(σ:bL)(c:Code)(Q:Exit→bL→World→Prop):Prop:=∀ w,St X.C w V→W X.P X.n c Q σ w
def TL (X:Cx)(ops:Array Oper)(V:List HP)(σ:bL)(rest:List Oper)(Q:Exit→bL→World→Prop):Prop:=∀ w,St X.C w V→WL X.P X.n ops rest Q σ w
def TQ (X:Cx)(V:List HP)(σ:bL)(e:Exit)(Q:Exit→bL→World→Prop):Prop:=∀ w,St X.C w V→Q e σ w
def Nx (X:Cx)(c:Code)(Q:Exit→bL→World→Prop):bL→World→Prop:=fun σ w=>W X.P X.n c Q σ w
section
variable {X:Cx}{V:List HP}{σ:bL}{Q:Exit→bL→World→Prop}{x y:Code}{ops:Array Oper}{rest:List Oper}{o:Oper}
theorem aL (h:TC X V σ x (eP (Nx X y Q) Q)):TC X V σ (.seq x y) Q:=fun w s=>s8 (h w s)
theorem dF (h:TQ X V σ .normal Q):TC X V σ .skip Q:=fun w s=>pZ (h w s)
theorem cK (h:TQ X V σ .ret Q):TC X V σ .ret Q:=fun w s=>s9 (h w s)
theorem io {a:Nat}(h:TQ X V σ (.exit a) Q):TC X V σ (.exit a) Q:=fun w s=>q8 (h w s)
theorem dY {a:Nat}(h:TC X V σ x (fO a Q)):TC X V σ (.block a x) Q:=fun w s=>o3 (h w s)
theorem aE {a:Nat}{l:List Oper}(h:TL X l.toArray V σ l Q):TC X V σ (.region a l.toArray false) Q:=fun w s=>mB (h w s)
theorem dG {k:Operand}{b:Bool}(e:ev σ k=.bool b)(a:b=true)(h:TC X V σ x Q):TC X V σ (.cond k x y) Q:=fun w s=>mA e (by rw [a]; exact h w s)
theorem bW {k:Operand}{b:Bool}(e:ev σ k=.bool b)(a:b=false)(h:TC X V σ y Q):TC X V σ (.cond k x y) Q:=fun w s=>mA e (by rw [a]; exact h w s)
theorem aG (h:TQ X V σ .normal Q):TL X ops V σ [] Q:=fun w s=>qa (h w s)
theorem aH (h:TC X V σ y Q):TQ X V σ .normal (eP (Nx X y Q) Q):=fun w s=>h w s
theorem fz {a:Nat}{K:bL→World→Prop}(h:TQ X V σ (.exit a) Q):TQ X V σ (.exit a) (eP K Q):=fun w s=>h w s
theorem dJ {K:bL→World→Prop}(h:TQ X V σ .ret Q):TQ X V σ .ret (eP K Q):=fun w s=>h w s
theorem gD {a:Nat}(h:TQ X V σ .normal Q):TQ X V σ (.exit a) (fO a Q):=fun w s=>by
 show cond (Nat.beq a a) _ _
 rw [show Nat.beq a a=true from Nat.beq_refl a]
 exact h w s
theorem eO {a:Nat}(h:TQ X V σ .normal Q):TQ X V σ .normal (fO a Q):=fun w s=>h w s
theorem gE {a:Nat}(h:TQ X V σ .ret Q):TQ X V σ .ret (fO a Q):=fun w s=>h w s
theorem mE {g a:Nat}(e:Nat.beq a g=false)(h:TQ X V σ (.exit a) Q):TQ X V σ (.exit a) (fO g Q):=fun w s=>by
 show cond (Nat.beq a g) _ _
 rw [e]
 exact h w s
theorem hZ {ops:Array Oper}{σ:bL}{o:Oper}{j:Nat}{b c:Bool}(h:o.guard=some (j,b))(a:hR ops σ j=some c)(e:c=b):cE ops σ o=true:=by
 unfold cE; rw [h]; simp only [a,e]; cases b<;>rfl
theorem ip {ops:Array Oper}{σ:bL}{o:Oper}{j:Nat}{b c:Bool}(h:o.guard=some (j,b))(a:hR ops σ j=some c)(e:c=!b):cE ops σ o=false:=by
 unfold cE; rw [h]; simp only [a,e]; cases b<;>rfl
theorem px (a:fy X.n o.dst=true)(hw:cE ops σ o=false)(h:TL X ops V (dS σ o.dst undef) rest Q):TL X ops V σ (o::rest) Q:=fun w s=>qc a hw (h w s)
def je (k:IntKind):BinOp→Int→Int→Option Value
 | .add,a,b=>some (.int k (k.wrap (a+b)))
 | .sub,a,b=>some (.int k (k.wrap (a - b)))
 | .mul,a,b=>some (.int k (k.wrap (a*b)))
 | .and,a,b=>some (.int k (bits .and k a b))
 | .or,a,b=>some (.int k (bits .or k a b))
 | .xor,a,b=>some (.int k (bits .xor k a b))
 | .andNot,a,b=>some (.int k (bits .andNot k a b))
 | .eql,a,b=>some (.bool (a==b))
 | .neq,a,b=>some (.bool (a != b))
 | .lss,a,b=>some (.bool (decide (a<b)))
 | .leq,a,b=>some (.bool (decide (a≤b)))
 | .gtr,a,b=>some (.bool (decide (a>b)))
 | .geq,a,b=>some (.bool (decide (a≥b)))
 | _,_,_=>none
def pv (σ:bL):Op→Option Value
 | .move x | .assign x=>some (ev σ x)
 | .pick c a b=>match ev σ c with
  | .bool t=>some (cond t (ev σ a) (ev σ b))
  | _=>none
 | .unOp .not _ x=>match ev σ x with
  | .bool b=>some (.bool !b)
  | _=>none
 | .unOp .neg _ x=>match ev σ x with
  | .int k a=>some (.int k (k.wrap (0 - a)))
  | _=>none
 | .unOp .xor _ x=>match ev σ x with
  | .int k a=>some (.int k (bits .xor k (if k.signed then -1 else k.max) a))
  | _=>none
 | .binOp op _ x y _=>match ev σ x,ev σ y with
  | .int .i64 a,.int .i64 b=>je .i64 op a b
  | .int .u8 a,.int .u8 b=>je .u8 op a b
  | .int .i32 a,.int .i32 b=>je .i32 op a b
  | .int .u64 a,.int .u64 b=>je .u64 op a b
  | .int .u32 a,.int .u32 b=>je .u32 op a b
  | _,_=>none
 | .extract x i=>match ev σ x with
  | .tuple vs=>vs[i]?
  | _=>none
 | .makeFunc fn first captured=>some (.func fn (first.toList.map (ev σ)).toArray (captured.toList.map (ev σ)).toArray)
 | .nilCheck x=>match ev σ x with
  | .pointer (some a)=>some (.pointer (some a))
  | .func (.func f) a c=>some (.func (.func f) a c)
  | _=>none
 | _=>none
theorem mF {P:Program}{w:World}{k:IntKind}{op:BinOp}{a b:Int}{v:Value}(t:TypeId)(x y:Operand)(h:je k op a b=some v) :
  (do eqGuard op t x y (.int k a) (.int k b); binOp op t (.int k a) (.int k b):Sem Value).run P w=.ok v w:=by
 cases op<;>simp only [je,Option.some.injEq,reduceCtorEq] at h<;>subst h <;>
  simp [eqGuard_at_int,binOp,Op.intArith,intBits_and,intBits_or,intBits_xor,intBits_andNot,Op.intCmp]
theorem qd {P:Program}{w:World}{v:Value}(h:pv σ o.op=some v):(execOp (ev σ) o).run P w=.ok (.value v) w:=by
 unfold execOp
 revert h
 generalize o.op=op
 intro h
 cases op<;>simp only [pv,reduceCtorEq] at h
 case move x=>simp only [Option.some.injEq] at h; subst h; rfl
 case assign x=>simp only [Option.some.injEq] at h; subst h; rfl
 case pick c a b =>
  cases hc:ev σ c<;>simp only [hc,reduceCtorEq,Option.some.injEq] at h
  subst h
  simp only [hc,asBool,Sem.run_bind,Sem.run_pure,Result.andThen_ok]
  rename_i t
  cases t<;>rfl
 case unOp u t x =>
  cases u<;>simp only [reduceCtorEq] at h<;>cases j:ev σ x<;>simp only [j,reduceCtorEq,Option.some.injEq] at h<;>subst h <;>
   simp [j,Op.unary,Op.intArith,intBits_xor]
 case binOp op t x y ty =>
  have g:∀ (k:IntKind) (a b:Int),ev σ x=.int k a→ev σ y=.int k b→je k op a b=some v →
    (do let r ← (do eqGuard op t x y (ev σ x) (ev σ y); binOp op t (ev σ x) (ev σ y):Sem Value); pure (Next.value r):Sem Next).run P w=.ok (.value v) w:=by
   intro k a b j q m
   rw [j,q]
   simp only [Sem.run_bind] at *
   have:=mF (P:=P) (w:=w) t x y m
   simp only [Sem.run_bind] at this
   rw [this]
   rfl
  split at h
  ·exact g _ _ _ ‹_› ‹_› h
  ·exact g _ _ _ ‹_› ‹_› h
  ·exact g _ _ _ ‹_› ‹_› h
  ·exact g _ _ _ ‹_› ‹_› h
  ·exact g _ _ _ ‹_› ‹_› h
  ·cases h
 case extract x i =>
  cases j:ev σ x<;>simp only [j,reduceCtorEq] at h
  simp [j,Instr.extract,h]
 case makeFunc fn first captured =>
  simp only [Option.some.injEq] at h; subst h
  simp [Instr.makeFunc]
  exact ⟨by apply Array.ext'; simp,by apply Array.ext'; simp⟩
 case nilCheck x =>
  split at h
  ·rename_i a e
   simp only [Option.some.injEq] at h
   subst h
   simp [e]
  ·rename_i f a c e
   simp only [Option.some.injEq] at h
   subst h
   simp [e]
  ·cases h
def VO (X:Cx)(V:List HP)(σ:bL)(o:Oper)(v:Value):Prop:=∀ w,St X.C w V→(execOp (ev σ) o).run X.P w=.ok (.value v) w
theorem ue {v:Value}(a:fy X.n o.dst=true)(hw:cE ops σ o=true)(e:VO X V σ o v)(h:TL X ops V (dS σ o.dst v) rest Q):TL X ops V σ (o::rest) Q :=
 fun w s=>dA a hw (by rw [e w s]; exact h w s)
theorem eS {v:Value}(a:pv σ o.op=some v):VO X V σ o v:=fun _ _=>qd a
end
end Go.Pg
namespace Go.Pg
def m9 {α:Type}:List α→Nat→Option α
 | [],_=>none
 | x::_,0=>some x
 | _::l,k+1=>m9 l k
theorem gu {α:Type}(l:List α)(k:Nat):m9 l k=l[k]?:=by
 induction l generalizing k with
 | nil=>rfl
 | cons x l ih =>
  cases k with
  | zero=>rfl
  | succ k=>simpa [m9] using ih k
theorem iq {α:Type}[Inhabited α]{xs:List α}{i:Int}(a:0≤i)(h1:i<xs.length):xs[i.toNat]?=some (ix xs i):=by
 unfold ix
 have:i.toNat<xs.length:=by omega
 rw [List.getD_eq_getElem?_getD,List.getElem?_eq_getElem this]
 rfl
def aV (b:Nat)(cs:List Value)(T:Nat):HP:=bx b cs.toArray T
def eG (P:Program)(T:TypeId):Option Bool:=(P.underlying T).map fun d=>match d with | .struct _ | .array _ _=>true | _=>false
def fI (P:Program)(T:TypeId):Option Nat:=(P.info? T).map (·.size)
def eQ (P:Program)(T:TypeId):Option Nat:=(P.info? T).map (·.bytes)
def iX (P:Program)(T:TypeId):Option (List Value):=((P.info? T).bind (·.zero)).map (·.cells.toList)
def iP (P:Program)(T:TypeId):Option TypeId:=match P.underlying T with
 | some (.slice e)=>some e
 | _=>none
def dH (P:Program)(S:TypeId)(f:Nat):Option Nat:=match P.underlying S with
 | some (.struct fs)=>match fs[f]? with
  | some fl=>match P.info? fl.type with
   | some i=>if i.size=0 then none else some fl.offset
   | none=>none
  | none=>none
 | _=>none
section
variable {P:Program}{w:World}
theorem gZ {T:TypeId}{b:Bool}(h:eG P T=some b):(isAgg T).run P w=.ok b w:=by
 unfold eG at h
 cases hd:P.underlying T with
 | none=>rw [hd] at h; cases h
 | some d =>
  rw [hd] at h
  simp only [Option.map_some,Option.some.injEq] at h
  subst h
  unfold isAgg
  rw [Sem.run_bind,run_underlying hd w]
  cases d<;>rfl
theorem cJ {T:TypeId}{n:Nat}(h:fI P T=some n):(sizeOf T).run P w=.ok n w:=by
 unfold fI at h
 cases hd:P.info? T with
 | none=>rw [hd] at h; cases h
 | some d =>
  rw [hd] at h
  simp only [Option.map_some,Option.some.injEq] at h
  subst h
  simp [sizeOf,typeInfo,hd]
theorem gF {T:TypeId}{cs:List Value}(h:iX P T=some cs):∃ z,(zeroValue T).run P w=.ok z w∧z.cells=cs.toArray:=by
 unfold iX at h
 cases hd:P.info? T with
 | none=>rw [hd] at h; cases h
 | some d =>
  rw [hd] at h
  cases hz:d.zero with
  | none=>simp [hz] at h
  | some z =>
   refine ⟨z,by simp [zeroValue,typeInfo,hd,hz],?_⟩
   simp [hz] at h
   rw [← h]
theorem fP {T e:TypeId}(h:iP P T=some e):P.underlying T=some (.slice e):=by
 unfold iP at h
 split at h
 ·rename_i g a
  simp only [Option.some.injEq] at h
  rw [a,h]
 ·cases h
theorem dB {T:TypeId}{a:Addr}{v:Value}(h:eG P T=some false)(e:w.cell? a=some v):(loadVar T a).run P w=.ok v w:=by
 unfold loadVar
 rw [Sem.run_bind,gZ h]
 simp [e]
theorem eR {T:TypeId}{a:Addr}{cs:List Value}(h:eG P T=some true)(g:fI P T=some cs.length)(e:∀ j u,cs[j]?=some u→w.cell? (a.add j)=some u) :
  (loadVar T a).run P w=.ok (.agg cs.toArray) w:=by
 unfold loadVar
 rw [Sem.run_bind,gZ h]
 simp [Sem.run_bind,cJ g,run_loadCells_list (P:=P) w a cs e]
theorem dZ (g k j:Nat):(⟨g,k,none⟩:Addr).add j=⟨g,k+j,none⟩:=by
 unfold Addr.add
 split
 ·rename_i h; subst h; rfl
 ·rfl
end
section
variable {X:Cx}{V:List HP}{σ:bL}{Q:Exit→bL→World→Prop}{ops:Array Oper}{rest:List Oper}
variable {d:Option Nat}{ty:TypeId}{pos:String}{af:Array Edge}{gd:Option (Nat×Bool)}
theorem bO {T:TypeId}{cs:List Value}(q:fy X.n d=true)(hw:cE ops σ ⟨d,.alloc T,ty,pos,af,gd⟩=true)(u:iX X.P T=some cs)
  (h:∀ b,TL X ops (aV b cs T::V) (dS σ d (.pointer (some ⟨b,0,none⟩))) rest Q):TL X ops V σ (⟨d,.alloc T,ty,pos,af,gd⟩::rest) Q:=by
 intro w s
 refine dA q hw ?_
 obtain ⟨z,j,m⟩:=gF (P:=X.P) (w:=w) u
 have r:(execOp (ev σ) ⟨d,.alloc T,ty,pos,af,gd⟩).run X.P w=.ok (.value (.pointer (some ⟨w.heap.size,0,none⟩))) (w.alloc (.cells cs.toArray T)):=by
  simp [execOp,Instr.alloc,j,newVar,newRow,m]
 rw [r]
 refine h _ _ (St.new s (fun a=>a.alloc _) (fun I _=>⟨_,rfl,?_,?_⟩) ?_)
 ·intro b o e
  simp only [Hp.one] at e
  split at e
  ·rename_i g
   subst g
   rw [← Option.some.inj e]
   show (w.heap.push _)[w.heap.size]?=_
   simp
  ·cases e
 ·intro b g
  simp only [Hp.one] at g
  split at g
  ·rename_i e; exact Nat.le_of_eq e.symm
  ·exact absurd rfl g
 ·intro b o e
  have i:=(Array.getElem?_eq_some_iff.1 e).1
  show (w.heap.push _)[b]?=_
  rw [Array.getElem?_push,if_neg (Nat.ne_of_lt i)]
  exact e
theorem gG {T:TypeId}{x:Operand}{cs:List Value}(j:fy X.n d=true)(hw:cE ops σ ⟨d,.box T x,ty,pos,af,gd⟩=true)(q:(ev σ x).cells.toList=cs)
  (h:∀ b,TL X ops (aV b cs T::V) (dS σ d (.pointer (some ⟨b,0,none⟩))) rest Q):TL X ops V σ (⟨d,.box T x,ty,pos,af,gd⟩::rest) Q:=by
 intro w s
 refine dA j hw ?_
 have m:(execOp (ev σ) ⟨d,.box T x,ty,pos,af,gd⟩).run X.P w=.ok (.value (.pointer (some ⟨w.heap.size,0,none⟩))) (w.alloc (.cells cs.toArray T)):=by
  subst q
  simp [execOp,Instr.box,newVar,newRow]
 rw [m]
 refine h _ _ (St.new s (fun a=>a.alloc _) (fun I _=>⟨_,rfl,?_,?_⟩) ?_)
 ·intro b o e
  simp only [Hp.one] at e
  split at e
  ·rename_i g
   subst g
   rw [← Option.some.inj e]
   show (w.heap.push _)[w.heap.size]?=_
   simp
  ·cases e
 ·intro b g
  simp only [Hp.one] at g
  split at g
  ·rename_i e; exact Nat.le_of_eq e.symm
  ·exact absurd rfl g
 ·intro b o e
  have i:=(Array.getElem?_eq_some_iff.1 e).1
  show (w.heap.push _)[b]?=_
  rw [Array.getElem?_push,if_neg (Nat.ne_of_lt i)]
  exact e
theorem gH {C w:World}{V:List HP}(s:St C w V)(i:Nat){b:Nat}{cs:List Value}{T:Nat}(a:lk V i=aV b cs T):w.heap[b]?=some (.cells cs.toArray T (0,0)):=by
 obtain ⟨I,h,p,_,l,_⟩:=s.look i
 rw [a] at p
 exact l b _ (by rw [show h=_ from p]; simp [Hp.one])
theorem gI {w:World}{b:Nat}{cs:List Value}{T:Nat}(h:w.heap[b]?=some (.cells cs.toArray T (0,0)))(k:Nat):w.cell? ⟨b,k,none⟩=cs[k]?:=by
 simp [World.cell?,h]
theorem mH {T:TypeId}{x:Operand}{b k:Nat}{cs:List Value}{a:Nat}{v:Value}(i:Nat)(g:eG X.P T=some false)
  (e:lk V i=aV b cs a) (m:ev σ x=.pointer (some ⟨b,k,none⟩)) (j:m9 cs k=some v):VO X V σ ⟨d,.load T x,ty,pos,af,gd⟩ v:=by
 intro w s
 have h:=gH s i e
 simp only [execOp,Instr.loadAt,m,Instr.sureAddr,Sem.run_bind,Sem.run_pure,Result.andThen_ok,dB g (show w.cell? ⟨b,k,none⟩=some v by rw [gI h,← gu]; exact j)]
theorem o7 {T:TypeId}{x:Operand}{b k n:Nat}{cs:List Value}{g:Nat}(i:Nat)(m:eG X.P T=some true)(B:fI X.P T=some n)
  (h:lk V i=aV b cs g) (D:ev σ x=.pointer (some ⟨b,k,none⟩)) (r:((cs.drop k).take n).length=n):VO X V σ ⟨d,.load T x,ty,pos,af,gd⟩ (.agg ((cs.drop k).take n).toArray):=by
 intro w s
 have q:=gH s i h
 ·have:=eR (P:=X.P) (w:=w) (a:=⟨b,k,none⟩) (cs:=(cs.drop k).take n) m (by rw [r]; exact B) (by
   intro j u e
   rw [dZ,gI q]
   rw [List.getElem?_take] at e
   split at e
   ·rw [List.getElem?_drop] at e; exact e
   ·cases e)
  simp only [execOp,Instr.loadAt,D,Instr.sureAddr,Sem.run_bind,Sem.run_pure,Result.andThen_ok,this]
theorem o8 {S:TypeId}{x:Operand}{f fo:Nat}{a:Addr}(e:dH X.P S f=some fo)
  (u:ev σ x=.pointer (some a)):VO X V σ ⟨d,.fieldAddr S x f,ty,pos,af,gd⟩ (.pointer (some (a.add fo))):=by
 intro w _
 unfold dH at e
 split at e
 ·rename_i fs r
  split at e
  ·rename_i m g
   split at e
   ·rename_i i q
    split at e
    ·cases e
    ·rename_i h
     simp only [Option.some.injEq] at e
     subst e
     have j:(sizeOf m.type).run X.P w=.ok i.size w:=cJ (by simp [fI,q])
     simp [execOp,Instr.fieldAt,run_underlying r w,g,u,Instr.sureAddr,fieldPlace,Sem.run_bind,j,h]
   ·cases e
  ·cases e
 ·cases e
theorem k0 {w:World}{P:Program}{b k:Nat}{cs:List Value}{T:Nat}{v:Value}(a:w.heap[b]?=some (.cells cs.toArray T (0,0)))(e:k<cs.length)(g:v.oneCell'=true) :
  (store ⟨b,k,none⟩ v).run P w=.ok () (w.setCell ⟨b,k,none⟩ v):=by
 rw [run_store P w _ v _ g]
 have:w.cell? ⟨b,k,none⟩=some cs[k]:=by rw [gI a,List.getElem?_eq_getElem e]
 simp [this,World.frozen?,a]
theorem fA {w:World}{b k:Nat}{c:Array Value}{T:Nat}{fr:Nat×Nat}{v:Value}(a:w.heap[b]?=some (.cells c T fr)):(w.setCell ⟨b,k,none⟩ v).heap[b]?=some (.cells (c.setIfInBounds k v) T fr):=by
 simp only [World.setCell,Array.getElem?_modify,a]
 simp
theorem eY {w:World}{b k j:Nat}{v:Value}(h:j≠b):(w.setCell ⟨b,k,none⟩ v).heap[j]?=w.heap[j]?:=by
 simp only [World.setCell,Array.getElem?_modify]
 rw [if_neg (fun e=>h e.symm)]
theorem h5 {P:Program}{w:World}{T:TypeId}{a:Addr}{v:Value}{e:World}(j:fI P T=some 1)(m:v.oneCell'=true)(i:(store a v).run P w=.ok () e):(storeVar T a v).run P w=.ok () e:=by
 have h:v.cells=#[v]:=by cases v<;>first | rfl | (simp [Value.oneCell'] at m)
 unfold storeVar
 rw [Sem.run_bind,cJ j]
 have g:a.add 0=a:=by simp [Addr.add]
 simp [h,storeCells,Sem.run_bind,g,i]
theorem eA {T:TypeId}{x y:Operand}{b k:Nat}{cs:List Value}{q:Nat}{v:Value}(i:Nat)(F:fy X.n d=true)(hw:cE ops σ ⟨d,.store T x y,ty,pos,af,gd⟩=true)(M:fI X.P T=some 1)
  (B:lk V i=aV b cs q) (O:ev σ x=.pointer (some ⟨b,k,none⟩)) (U:ev σ y=v) (E:v.oneCell'=true) (G:Nat.blt k cs.length=true)
  (h:TL X ops (o4 V i (aV b (cs.set k v) q)) (dS σ d undef) rest Q):TL X ops V σ (⟨d,.store T x y,ty,pos,af,gd⟩::rest) Q:=by
 intro w s
 refine dA F hw ?_
 have D:=gH s i B
 have r:k<cs.length:=Nat.lt_of_lt_of_le (Nat.lt_succ_self _) (Nat.le_of_ble_eq_true G)
 have J:(execOp (ev σ) ⟨d,.store T x y,ty,pos,af,gd⟩).run X.P w=.ok .skip (w.setCell ⟨b,k,none⟩ v):=by
  simp only [execOp,Instr.storeAt,O,U,Instr.sureAddr,Sem.run_bind,Sem.run_pure,Result.andThen_ok,h5 M E (k0 D r E)]
 rw [J]
 refine h _ (St.turn s i (fun a=>a.setCell _ _) ?_)
 intro I g p _ _
 rw [B] at p
 have p:g=Hp.one b (.cells cs.toArray q (0,0)):=p
 subst p
 refine ⟨_,rfl,?_,?_,?_⟩
 ·intro j o e
  simp only [Hp.one] at e
  split at e
  ·rename_i m
   subst m
   rw [← Option.some.inj e,fA D]
   simp
  ·cases e
 ·intro j m
  refine .inl ?_
  simp only [Hp.one] at *
  split at m
  ·rename_i e; rw [if_pos e]; exact fun h=>by cases h
  ·exact absurd rfl m
 ·intro j o m e
  simp only [Hp.one] at m
  split at m
  ·cases m
  ·rename_i u; rw [eY u]; exact e
theorem iQ {P:Program}{b:Nat}{T:Nat}:∀ (vs:List Value) (k j:Nat) (cs:List Value) (w:World),w.heap[b]?=some (.cells cs.toArray T (0,0))→k+j+vs.length≤cs.length→(∀ v∈vs,v.oneCell'=true) →
  ∃ a,(storeCells ⟨b,k,none⟩ vs j).run P w=.ok () a∧a.heap[b]?=some (.cells (cs.take (k+j)++vs++cs.drop (k+j+vs.length)).toArray T (0,0))∧(∀ i,i≠b→a.heap[i]?=w.heap[i]?)∧∀ C,Same C w→Same C a:=by
 intro vs
 induction vs with
 | nil =>
  intro k j cs w m _ _
  exact ⟨w,by simp [storeCells],by simpa using m,fun _ _=>rfl,fun _ h=>h⟩
 | cons v vs ih =>
  intro k j cs w m F D
  have g:k+j<cs.length:=by simp at F; omega
  have h1:=k0 (P:=P) m g (D v (by simp))
  have q:(w.setCell ⟨b,k+j,none⟩ v).heap[b]?=some (.cells (cs.set (k+j) v).toArray T (0,0)):=by rw [fA m]; simp
  obtain ⟨a,r,e,o,I⟩:=ih k (j+1) (cs.set (k+j) v) _ q (by simp at *; omega) (fun u G=>D u (by simp [G]))
  refine ⟨a,?_,?_,fun i B=>?_,fun C E=>I C (E.setCell _ _)⟩
  ·simp only [storeCells,Sem.run_bind,dZ,h1,Result.andThen_ok,r]
  ·rw [e]
   congr 2
   rw [show k+(j+1)=(k+j)+1 by omega,List.take_succ_eq_append_getElem (by simp; exact g),List.take_set_of_le (Nat.le_refl _),List.drop_set_of_lt (by omega)]
   simp [Nat.add_assoc,Nat.add_comm,Nat.add_left_comm]
  ·rw [o i B,eY B]
theorem aQ {T:TypeId}{x y:Operand}{b k n:Nat}{cs vs:List Value}{u:Nat}(i:Nat)(J:fy X.n d=true)(hw:cE ops σ ⟨d,.store T x y,ty,pos,af,gd⟩=true)(U:fI X.P T=some n)
  (E:lk V i=aV b cs u) (Z:ev σ x=.pointer (some ⟨b,k,none⟩)) (hy:ev σ y=.agg vs.toArray) (F:vs.length=n) (Y:vs.all (·.oneCell')=true) (M:Nat.ble (k+n) cs.length=true)
  (h:TL X ops (o4 V i (aV b (cs.take k++vs++cs.drop (k+n)) u)) (dS σ d undef) rest Q):TL X ops V σ (⟨d,.store T x y,ty,pos,af,gd⟩::rest) Q:=by
 intro w s
 refine dA J hw ?_
 have G:=gH s i E
 obtain ⟨w',r,e,o,sm⟩:=iQ (P:=X.P) vs k 0 cs w G (by have:=Nat.le_of_ble_eq_true M; omega) (fun v D=>List.all_eq_true.1 Y v D)
 have O:(execOp (ev σ) ⟨d,.store T x y,ty,pos,af,gd⟩).run X.P w=.ok .skip w':=by
  simp [execOp,Instr.storeAt,Z,hy,Instr.sureAddr,storeVar,cJ U,Value.cells,F,r,Sem.run_bind]
 rw [O]
 refine h _ (St.turn s i (fun a=>sm _ a) ?_)
 intro I g p _ _
 rw [E] at p
 have p:g=Hp.one b (.cells cs.toArray u (0,0)):=p
 subst p
 refine ⟨_,rfl,?_,?_,?_⟩
 ·intro j o' q
  simp only [Hp.one] at q
  split at q
  ·rename_i m
   subst m
   rw [← Option.some.inj q,e]
   simp [F]
  ·cases q
 ·intro j m
  refine .inl ?_
  simp only [Hp.one] at *
  split at m
  ·rename_i e; rw [if_pos e]; exact fun h=>by cases h
  ·exact absurd rfl m
 ·intro j o' m q
  simp only [Hp.one] at m
  split at m
  ·cases m
  ·rename_i B; rw [o j B]; exact q
end
end Go.Pg
namespace Go.Pg
theorem St.act {β:Type}{C w:World}{V:List HP}(s:St C w V)(i:Nat){q:β→HP}{Ψ:β→World→Prop}
  (f:∀ I h,(lk V i).p I h→Le I w→Le h w→(∀ k,I k=Option.none∨h k=Option.none)→∃ b u B,Ψ b u∧(Same C w→Same C u)∧(q b).p I B∧Le B u∧(∀ k,B k≠Option.none→h k≠Option.none∨w.heap.size≤k)∧∀ (k:Nat) (o:Obj),h k=Option.none→w.heap[k]?=some o→u.heap[k]?=some o) :
  ∃ b u,Ψ b u∧St C u (o4 V i (q b)):=by
 obtain ⟨a,I,h,g,j,l,s⟩:=s
 obtain ⟨h1,h2,r,c,s'⟩:=dE i s
 obtain ⟨b,u,B,hΨ,hs,hq,Z,hn,M⟩:=f I h1 c (l.mono j.left) (l.mono (Hp.le_trans r.left j.right)) (fun k=>by
  rcases j.disj k with e | e
  ·exact .inl e
  ·exact .inr ((r.is_none k).1 e).1)
 refine ⟨b,u,hΨ,?_⟩
 have G:∀ b,B b≠Option.none→I b=Option.none∧h2 b=Option.none:=by
  intro b Y
  rcases hn b Y with e | e
  ·refine ⟨?_,?_⟩
   ·rcases j.disj b with f | f
    ·exact f
    ·exact absurd ((r.is_none b).1 f).1 e
   ·rcases r.disj b with f | f
    ·exact absurd f e
    ·exact f
  ·have:g b=Option.none:=by
    cases hg:g b with
    | none=>rfl
    | some o =>
     have:=(l.lt (b:=b) (by rw [hg]; exact fun h=>by cases h))
     omega
   have:=(j.is_none b).1 this
   exact ⟨this.1,((r.is_none b).1 this.2).2⟩
 obtain ⟨m,J⟩:=Join.of_disj (h1:=B) (h2:=h2) (fun b=>by
  by_cases e:B b=Option.none
  ·exact .inl e
  ·exact .inr (G b e).2)
 obtain ⟨U,F⟩:=Join.of_disj (h1:=I) (h2:=m) (fun b=>by
  by_cases e:B b=Option.none
  ·rcases j.disj b with f | f
   ·exact .inl f
   ·exact .inr ((J.is_none b).2 ⟨e,((r.is_none b).1 f).2⟩)
  ·exact .inl (G b e).1)
 refine ⟨hs a,I,m,U,F,?_,jX i J hq s'⟩
 intro b o e
 rcases F.cases e with ⟨D,O⟩|⟨D,O⟩
 ·refine M b o ?_ (l b o (j.left b o D))
  rcases j.disj b with f | f
  ·rw [f] at D; cases D
  ·exact ((r.is_none b).1 f).1
 ·rcases J.cases D with ⟨E,T⟩|⟨E,T⟩
  ·exact Z b o E
  ·refine M b o ?_ (l b o (j.right b o (r.right b o E)))
   rcases r.disj b with f | f
   ·exact f
   ·rw [f] at E; cases E
theorem St.see {C w:World}{V:List HP}(s:St C w V)(i:Nat):∃ I h J,(lk V i).p I h∧Hp.le I J∧Hp.le h J∧Le J w:=by
 obtain ⟨I,h,p,g,m,a⟩:=s.look i
 obtain ⟨J,j⟩:=Join.of_disj a
 refine ⟨I,h,J,p,j.left,j.right,fun b o e=>?_⟩
 rcases j.cases e with ⟨e,_⟩|⟨e,_⟩
 ·exact g b o e
 ·exact m b o e
def fV {α:Type}(q:HP)(K:Kind α)(v:Value)(xs:List α):Prop:=∀ I h J,Hp.le I J→Hp.le h J→q.p I h→m8 K J v xs
section
variable {α:Type}{K:Kind α}
theorem aB {v:Value}{xs:List α}:fV (bF K v xs) K v xs:=fun I h J l _ p=>ik l p.2
theorem aC {e:Nat}{v:Value}{xs:List α}:fV (ow K e v xs) K v xs:=fun I h J l m p=>gC l m p
theorem St.reads {C w:World}{V:List HP}(s:St C w V){i:Nat}{v:Value}{xs:List α}(h:fV (lk V i) K v xs):∃ J,Le J w∧m8 K J v xs:=by
 obtain ⟨I,g,J,p,a,e,lw⟩:=s.see i
 exact ⟨J,lw,h I g J a e p⟩
end
def sep (p q:HP):HP:=⟨fun I h=>∃ h1 h2,Join h1 h2 h∧p.p I h1∧q.p I h2,fun l ⟨h1,h2,j,a,b⟩=>⟨h1,h2,j,p.mono l a,q.mono l b⟩⟩
theorem St.sep {C w:World}{p q:HP}{V:List HP}(s:St C w (p::q::V)):St C w (Pg.sep p q::V):=by
 obtain ⟨a,I,h,g,j,l,h1,h2,r,c,i,m,u,d,e⟩:=s
 obtain ⟨k,B,D⟩:=Join.assoc' u r
 exact ⟨a,I,h,g,j,l,k,m,D,⟨h1,i,B,c,d⟩,e⟩
section
variable {X:Cx}{V:List HP}{σ:bL}{Q:Exit→bL→World→Prop}{ops:Array Oper}{rest:List Oper}
variable {d:Option Nat}{ty:TypeId}{pos:String}{af:Array Edge}{gd:Option (Nat×Bool)}
variable {α β:Type}
theorem py {t:TypeId}{x:Operand}{a:Option Addr}{n c:Nat}{e:TypeId}(g:iP X.P t=some e)(i:ev σ x=.slice a n c):VO X V σ ⟨d,.call ⟨.builtin .len,#[x],#[t]⟩,ty,pos,af,gd⟩ (.int .i64 n):=by
 intro w _
 have h:=fP g
 simp [execOp,resolve,invoke,builtin,i,Builtin.len_,run_underlying h,goInt]
theorem aZ {K:Kind α}{a:Option Addr}{n c:Nat}{xs:List α}(i:Nat)(q:fV (lk V i) K (.slice a n c) xs)(h1:0<n)(h:∀ g o,a=some ⟨g,o,none⟩→TL X ops V σ rest Q):TL X ops V σ rest Q:=by
 intro w s
 obtain ⟨J,lw,A,u,e,h2,B,j⟩:=s.reads q
 have D:n=xs.length:=by injection e
 have r:a=A:=by injection e
 obtain ⟨g,o,m,_⟩:=j (by omega)
 exact h g o (by rw [r,m]) w s
theorem bU {K:Kind α}{a:Option Addr}{n c:Nat}{xs:List α}{cd:Code}(i:Nat)(q:fV (lk V i) K (.slice a n c) xs)(h1:0<n)(h:∀ g o,a=some ⟨g,o,none⟩→TC X V σ cd Q):TC X V σ cd Q:=by
 intro w s
 obtain ⟨J,lw,A,u,e,h2,B,j⟩:=s.reads q
 have D:n=xs.length:=by injection e
 have r:a=A:=by injection e
 obtain ⟨g,o,m,_⟩:=j (by omega)
 exact h g o (by rw [r,m]) w s
theorem lj {t e:TypeId}{x y:Operand}{g o n c sz:Nat}{k:IntKind}{j:Int}(i:iP X.P t=some e)(h:fI X.P e=some sz)(q:ev σ x=.slice (some ⟨g,o,none⟩) n c)(r:ev σ y=.int k j)(a:0≤j)(h1:j<n) :
  VO X V σ ⟨d,.indexAddr t x y,ty,pos,af,gd⟩ (.pointer (some ⟨g,o+j.toNat*sz,none⟩)):=by
 intro w _
 have m:=fP i
 simp [execOp,q,r,Instr.indexAt,asIntOf,run_underlying m,a,h1,cJ h,dZ]
def se (K:Kind α)(fo:Nat)(pr:α→Value):Prop:=∀ I x cs,K.rd I x cs→m9 cs fo=some (pr x)
def sf (K:Kind α)(fo:Nat)(L:Kind β)(pr:α→List β):Prop:=∀ I x cs,K.rd I x cs→∃ v,m9 cs fo=some v∧m8 L I v (pr x)
theorem h7 {K:Kind α}{J:Hp}{g o n c:Nat}{xs:List α}(r:m8 K J (.slice (some ⟨g,o,none⟩) n c) xs){j:Nat}{x:α}(a:xs[j]?=some x) :
  ∃ cs,K.rd J x cs∧∀ k u,cs[k]?=some u→eN J g (o+j*K.sz+k)=some u:=by
 obtain ⟨A,E,D,h2,G,e⟩:=r
 have m:=(List.getElem?_eq_some_iff.1 a).1
 obtain ⟨F,o',h,i⟩:=e (by omega)
 injection D with e1 e2 e3
 rw [h] at e1
 injection e1 with e1
 injection e1 with e1 e4
 subst e1; subst e4
 obtain ⟨cs,p,q⟩:=i j x a
 exact ⟨cs,p,fun k u B=>q k u B⟩
theorem eE [Inhabited α]{K:Kind α}{T:TypeId}{x:Operand}{g o n c fo:Nat}{xs:List α}{pr:α→Value}(i:Nat)(j:Int)(m:eG X.P T=some false)
  (u:se K fo pr) (h:fV (lk V i) K (.slice (some ⟨g,o,none⟩) n c) xs) (D:ev σ x=.pointer (some ⟨g,o+j.toNat*K.sz+fo,none⟩)) (e:0≤j) (h1:j<n) :
  VO X V σ ⟨d,.load T x,ty,pos,af,gd⟩ (pr (ix xs j)):=by
 intro w s
 obtain ⟨J,lw,r⟩:=s.reads h
 have F:n=xs.length:=by obtain ⟨A,E,B,_⟩:=r; injection B
 obtain ⟨cs,p,q⟩:=h7 r (iq e (by omega))
 have a:=fH lw (q fo _ (by rw [← gu]; exact u J _ cs p))
 simp only [execOp,Instr.loadAt,D,Instr.sureAddr,Sem.run_bind,Sem.run_pure,Result.andThen_ok,dB m a]
def cl (g k:Nat)(cs:List Value):HP:=⟨fun I h=>h=Hp.none∧∀ i u,cs[i]?=some u→eN I g (k+i)=some u,fun l p=>⟨p.1,fun i u a=>gt l (p.2 i u a)⟩⟩
theorem ll {C w:World}{V:List HP}(s:St C w V)(i:Nat){g k:Nat}{cs:List Value}(a:lk V i=cl g k cs):∀ (j:Nat) (u:Value),cs[j]?=some u→w.cell? ⟨g,k+j,none⟩=some u:=by
 obtain ⟨I,h,p,lI,_,_⟩:=s.look i
 rw [a] at p
 exact fun j u e=>fH lI (p.2 j u e)
theorem k7 {L:Kind β}{I:Hp}{v:Value}{ys:List β}(r:m8 L I v ys):∃ a c,v=.slice a ys.length c:=by
 obtain ⟨A,c,e,_⟩:=r
 exact ⟨A,c,e⟩
theorem St.more {C w:World}{V:List HP}(s:St C w V)(i:Nat){A:Type}{E:A→List HP}(f:∀ I h,(lk V i).p I h→Le I w→Le h w→∃ a,cU (E a) I Hp.none):∃ a,St C w (E a++V):=by
 obtain ⟨u,I,g,q,j,lw,m⟩:=s
 obtain ⟨h1,h2,r,p,B⟩:=dE i m
 obtain ⟨a,e⟩:=f I h1 p (lw.mono j.left) (lw.mono (Hp.le_trans r.left j.right))
 exact ⟨a,u,I,g,q,j,lw,bG.2 ⟨Hp.none,g,Join.none g,e,m⟩⟩
theorem mI {p q:HP}{I:Hp}(a:p.p I Hp.none)(b:q.p I Hp.none):cU [p,q] I Hp.none:=⟨_,_,Join.none _,a,_,_,Join.none _,b,rfl⟩
theorem St.leaf [Inhabited α]{C w:World}{V:List HP}{K:Kind α}{L:Kind β}{g o n c fo:Nat}{xs:List α}{pr:α→List β}(s:St C w V)(i:Nat)(j:Int)
  (J:sf K fo L pr) (G:lk V i=bF K (.slice (some ⟨g,o,none⟩) n c) xs) (F:0≤j) (h1:j<n) :
  ∃ p:Option Addr×Nat,St C w ([cl g (o+j.toNat*K.sz+fo) [.slice p.1 (pr (ix xs j)).length p.2],bF L (.slice p.1 (pr (ix xs j)).length p.2) (pr (ix xs j))]++V):=by
 refine St.more (E:=fun p:Option Addr×Nat=>[cl g (o+j.toNat*K.sz+fo) [.slice p.1 (pr (ix xs j)).length p.2],bF L (.slice p.1 (pr (ix xs j)).length p.2) (pr (ix xs j))]) s i ?_
 intro I h p _ _
 rw [G] at p
 obtain ⟨_,r⟩:=p
 have M:n=xs.length:=by obtain ⟨A,B,m,_⟩:=r; injection m
 obtain ⟨cs,p,q⟩:=h7 r (iq F (by omega))
 obtain ⟨v,m,D⟩:=J I _ cs p
 obtain ⟨a,B,rfl⟩:=k7 D
 exact ⟨⟨a,B⟩,mI ⟨rfl,fun k u e=>by
  cases k with
  | zero =>
   simp only [List.getElem?_cons_zero,Option.some.injEq] at e
   subst e
   exact q fo _ (by rw [← gu]; exact m)
  | succ k=>simp at e⟩ ⟨rfl,D⟩⟩
def u9 (K:Kind α){A:Type}(e:A→α→List Value)(g:A→α→List HP):Prop:=∀ I x cs,K.rd I x cs→∃ a,cs=e a x∧cU (g a x) I Hp.none
theorem St.elem [Inhabited α]{C w:World}{V:List HP}{K:Kind α}{A:Type}{e:A→α→List Value}{m:A→α→List HP}{g o n c:Nat}{xs:List α}(s:St C w V)(i:Nat)(j:Int)
  (F:u9 K e m) (D:lk V i=bF K (.slice (some ⟨g,o,none⟩) n c) xs) (B:0≤j) (h1:j<n) :
  ∃ a,St C w ((cl g (o+j.toNat*K.sz) (e a (ix xs j))::m a (ix xs j))++V):=by
 refine St.more (E:=fun a=>cl g (o+j.toNat*K.sz) (e a (ix xs j))::m a (ix xs j)) s i ?_
 intro I h p _ _
 rw [D] at p
 obtain ⟨_,r⟩:=p
 have M:n=xs.length:=by obtain ⟨A,J,G,_⟩:=r; injection G
 obtain ⟨cs,p,q⟩:=h7 r (iq B (by omega))
 obtain ⟨a,rfl,u⟩:=F I _ cs p
 exact ⟨a,_,_,Join.none _,⟨rfl,q⟩,u⟩
theorem eH [Inhabited α]{K:Kind α}{A:Type}{e:A→α→List Value}{m:A→α→List HP}{g o n c:Nat}{xs:List α}(i:Nat)(j:Int)
  (u:u9 K e m) (r:lk V i=bF K (.slice (some ⟨g,o,none⟩) n c) xs) (q:0≤j) (h1:j<n)
  (h:∀ a,TL X ops (cl g (o+j.toNat*K.sz) (e a (ix xs j))::(m a (ix xs j)++V)) σ rest Q):TL X ops V σ rest Q:=by
 intro w s
 obtain ⟨a,s'⟩:=s.elem i j u r q h1
 exact h a w s'
theorem fQ [Inhabited α]{K:Kind α}{A:Type}{e:A→α→List Value}{m:A→α→List HP}{g o n c:Nat}{xs:List α}{cd:Code}(i:Nat)(j:Int)
  (u:u9 K e m) (r:lk V i=bF K (.slice (some ⟨g,o,none⟩) n c) xs) (q:0≤j) (h1:j<n)
  (h:∀ a,TC X (cl g (o+j.toNat*K.sz) (e a (ix xs j))::(m a (ix xs j)++V)) σ cd Q):TC X V σ cd Q:=by
 intro w s
 obtain ⟨a,s'⟩:=s.elem i j u r q h1
 exact h a w s'
end
end Go.Pg
namespace Go.Pg
section
variable {X:Cx}{V:List HP}{σ:bL}{Q:Exit→bL→World→Prop}{ops:Array Oper}{rest:List Oper}
variable {d:Option Nat}{ty:TypeId}{pos:String}{af:Array Edge}{gd:Option (Nat×Bool)}
variable {α β:Type}
theorem iR {P:Program}{w:World}{g k:Nat}{cs:List Value}{e:Nat}{fr:Nat×Nat}{v:Value}(h:w.heap[g]?=some (.cells cs.toArray e fr))(i:k<cs.length)(a:fr=(0,0)∨cs.length≤fr.1)(j:v.oneCell'=true) :
  (store ⟨g,k,none⟩ v).run P w=.ok () (w.setCell ⟨g,k,none⟩ v):=by
 rw [run_store P w _ v _ j]
 have h1:w.cell? ⟨g,k,none⟩=some cs[k]:=by simp [World.cell?,h,i]
 have h2:w.frozen? ⟨g,k,none⟩=false:=by
  simp only [World.frozen?,h]
  rcases a with rfl | a
  ·simp
  ·obtain ⟨lo,m⟩:=fr
   simp only at a
   simp; omega
 simp [h1,h2]
def k8 (P:Program)(K:Kind α)(e:TypeId)(z:α):Prop:=∃ cs,iX P e=some cs∧cs.length=K.sz∧∀ I,K.own I Hp.none z cs
theorem mJ {K:Kind α}{I:Hp}{z:α}{cs:List Value}(h:K.own I Hp.none z cs)(m:Nat):dX K I Hp.none (List.replicate m z) (List.replicate m cs).flatten:=by
 induction m with
 | zero=>exact ⟨rfl,rfl⟩
 | succ m ih=>exact ⟨Hp.none,Hp.none,cs,(List.replicate m cs).flatten,Join.none _,by simp [List.replicate_succ],h,ih⟩
theorem iY (z:Array Value)(g:0<z.size)(m:Nat):(madeCells z (m*z.size)).toList=(List.replicate m z.toList).flatten:=by
 induction m with
 | zero=>simp [madeCells]
 | succ m ih =>
  have h1:(madeCells z ((m+1)*z.size)).toList=(madeCells z (m*z.size)).toList++z.toList:=by
   apply List.ext_getElem?
   intro k
   simp only [madeCells,Array.toList_map,Array.toList_range,List.getElem?_map,List.getElem?_append,List.length_map,List.length_range]
   by_cases hk:k<m*z.size
   ·rw [List.getElem?_range (by rw [Nat.succ_mul]; omega),if_pos hk,List.getElem?_range hk]
   ·rw [if_neg hk]
    by_cases hk2:k<(m+1)*z.size
    ·rw [List.getElem?_range hk2]
     have a:k - m*z.size<z.size:=by rw [Nat.succ_mul] at hk2; omega
     have e:k % z.size=k - m*z.size:=by
      rw [← Nat.mod_eq_of_lt a]
      conv=>lhs; rw [show k=(k - m*z.size)+m*z.size by omega]
      rw [Nat.add_mul_mod_self_right]
     simp only [Option.map_some,e]
     rw [getElem!_pos z _ a]
     simp [a]
    ·rw [List.getElem?_eq_none (by simp; omega)]
     rw [Nat.succ_mul] at hk2
     rw [List.getElem?_eq_none (by simp; omega)]
     rfl
  rw [h1,ih]
  clear h1 ih
  induction m with
  | zero=>simp
  | succ m ih=>rw [List.replicate_succ,List.flatten_cons,List.append_assoc,ih,← List.flatten_cons,← List.replicate_succ]
theorem eZ {K:Kind α}{t e:TypeId}{x y:Operand}{m:Int}{z:α}{u:Nat}(Y:fy X.n d=true)(hw:cE ops σ ⟨d,.makeSlice t x y,ty,pos,af,gd⟩=true)(ht:iP X.P t=some e)(r:fI X.P e=some K.sz)(B:eQ X.P e=some u)
  (hz:k8 X.P K e z) (a0:0<K.sz) (hx:ev σ x=.int .i64 m) (hy:ev σ y=.int .i64 m) (U:0≤m) (h1:m≤140737488355328) (h2:u*m≤281474976710656)
  (h:∀ a c,TL X ops (ow K e (.slice a (List.replicate m.toNat z).length c) (List.replicate m.toNat z)::V) (dS σ d (.slice a (List.replicate m.toNat z).length c)) rest Q):TL X ops V σ (⟨d,.makeSlice t x y,ty,pos,af,gd⟩::rest) Q:=by
 intro w s
 obtain ⟨cs,g,F,G⟩:=hz
 unfold iX at g
 unfold fI at r
 unfold eQ at B
 cases hi:X.P.info? e with
 | none=>rw [hi] at r; cases r
 | some info =>
  rw [hi] at g r B
  simp only [Option.map_some,Option.some.injEq,Option.bind_some] at g r B
  cases hzz:info.zero with
  | none=>rw [hzz] at g; cases g
  | some zv =>
   rw [hzz] at g
   simp only [Option.map_some,Option.some.injEq] at g
   have hr:=run_make (P:=X.P) w t e info zv (fP ht) hi hzz .i64 .i64 m m U (Int.le_refl _) (by rw [B]; exact h2) (by omega)
   refine dA Y hw ?_
   have E:(execOp (ev σ) ⟨d,.makeSlice t x y,ty,pos,af,gd⟩).run X.P w=.ok (.value (.slice (some ⟨w.heap.size,0,none⟩) m.toNat m.toNat)) (w.alloc (.cells (madeCells zv.cells (m.toNat*info.size)) e)):=by
    simp only [execOp,hx,hy,Sem.run_bind,hr,Result.andThen_ok,Sem.run_pure]
   rw [E]
   have J:zv.cells.size=K.sz:=by rw [← F,← g]; simp
   have q:(madeCells zv.cells (m.toNat*info.size)).toList=(List.replicate m.toNat cs).flatten:=by
    rw [r,← J,iY _ (by omega),← g]
   have hl:(List.replicate m.toNat z).length=m.toNat:=by simp
   have:=h (some ⟨w.heap.size,0,none⟩) m.toNat
   rw [hl] at this
   refine this _ (St.new s (fun a=>a.alloc _) (fun I _=>?_) ?_)
   ·obtain ⟨T,O⟩:=Join.of_disj (h1:=Hp.one w.heap.size (.cells (madeCells zv.cells (m.toNat*info.size)) e)) (h2:=Hp.none) (fun _=>.inr rfl)
    have M:=O.symm.eq_of_none
    refine ⟨T,.inr ⟨w.heap.size,m.toNat,[],(List.replicate m.toNat cs).flatten,[],(0,0),Hp.none,by simp,by simp,by simp only [maxLen]; omega,by simp,.inl rfl,?_,mJ (G I) _⟩,?_,?_⟩
    ·have Z:((List.replicate m.toNat cs).flatten).toArray=madeCells zv.cells (m.toNat*info.size):=by rw [← q]
     simp only [List.nil_append,List.append_nil,Z]
     exact O
    ·rw [M]
     intro b o j
     simp only [Hp.one] at j
     split at j
     ·rename_i i
      subst i
      rw [← Option.some.inj j]
      show (w.heap.push _)[w.heap.size]?=_
      simp
     ·cases j
    ·rw [M]
     intro b i
     simp only [Hp.one] at i
     split at i
     ·rename_i j; exact Nat.le_of_eq j.symm
     ·exact absurd rfl i
   ·intro b o j
    have D:=(Array.getElem?_eq_some_iff.1 j).1
    show (w.heap.push _)[b]?=_
    rw [Array.getElem?_push,if_neg (Nat.ne_of_lt D)]
    exact j
end
end Go.Pg
namespace Go.Pg
theorem g5 {P:Program}{b:Nat}{T:Nat}{fr:Nat×Nat}{N:Nat}(G:fr=(0,0)∨N≤fr.1):∀ (vs:List Value) (k j:Nat) (cs:List Value) (w:World),cs.length=N→w.heap[b]?=some (.cells cs.toArray T fr)→k+j+vs.length≤cs.length→(∀ v∈vs,v.oneCell'=true) →
  ∃ a,(storeCells ⟨b,k,none⟩ vs j).run P w=.ok () a∧a.heap[b]?=some (.cells (cs.take (k+j)++vs++cs.drop (k+j+vs.length)).toArray T fr)∧(∀ i,i≠b→a.heap[i]?=w.heap[i]?)∧∀ C,Same C w→Same C a:=by
 intro vs
 induction vs with
 | nil =>
  intro k j cs w _ m _ _
  exact ⟨w,by simp [storeCells],by simpa using m,fun _ _=>rfl,fun _ h=>h⟩
 | cons v vs ih =>
  intro k j cs w B m I E
  have g:k+j<cs.length:=by simp at I; omega
  have h1:=iR (P:=P) m g (by rw [B]; exact G) (E v (by simp))
  have q:(w.setCell ⟨b,k+j,none⟩ v).heap[b]?=some (.cells (cs.set (k+j) v).toArray T fr):=by rw [fA m]; simp
  obtain ⟨a,r,e,o,M⟩:=ih k (j+1) (cs.set (k+j) v) _ (by simpa using B) q (by simp at *; omega) (fun u J=>E u (by simp [J]))
  refine ⟨a,?_,?_,fun i D=>?_,fun C F=>M C (F.setCell _ _)⟩
  ·simp only [storeCells,Sem.run_bind,dZ,h1,Result.andThen_ok,r]
  ·rw [e]
   congr 2
   rw [show k+(j+1)=(k+j)+1 by omega,List.take_succ_eq_append_getElem (by simp; exact g),List.take_set_of_le (Nat.le_refl _),List.drop_set_of_lt (by omega)]
   simp [Nat.add_assoc,Nat.add_comm,Nat.add_left_comm]
  ·rw [o i D,eY D]
def ua {α:Type}(q:HP)(K:Kind α)(x:Value)(ys:List α):Prop :=
 ∀ I h,q.p I h→∃ A c a e,x=.slice A ys.length c∧ys.length≤maxLen∧Hp.le e h∧dX K I e ys a ∧
  (∀ J,Hp.le I J→Hp.le h J→0<ys.length→∃ g o,A=some ⟨g,o,none⟩∧∀ k u,a[k]?=some u→eN J g (o+k)=some u)
theorem eI {α:Type}{K:Kind α}{e:Nat}{v:Value}{ys:List α}:ua (ow K e v ys) K v ys:=by
 intro I h p
 have p:kG K e I h v ys:=p
 rcases p with ⟨A,rfl,rfl,rfl⟩|⟨g,c,pre,i,a,fr,D,rfl,h2,B,G,M,r,F⟩
 ·exact ⟨A,0,[],Hp.none,rfl,Nat.zero_le _,Hp.le_refl _,⟨rfl,rfl⟩,fun _ _ _ h=>absurd h (Nat.lt_irrefl _)⟩
 ·refine ⟨_,c,i,D,rfl,Nat.le_trans h2 B,r.right,F,fun J _ E _=>⟨g,pre.length,rfl,fun k u q=>?_⟩⟩
  have j:J g=some (.cells (pre++i++a).toArray e fr):=E _ _ (r.left g _ (by simp [Hp.one]))
  unfold eN
  rw [j]
  have m:=(List.getElem?_eq_some_iff.1 q).1
  show (pre++i++a).toArray[pre.length+k]?=some u
  rw [List.getElem?_toArray,List.append_assoc,List.getElem?_append_right (by omega),Nat.add_sub_cancel_left,List.getElem?_append_left m]
  exact q
theorem kH {α:Type}{K:Kind α}(m:K.Flat){J:Hp}{g o:Nat}:∀ (ys:List α) (b:Nat),(∀ j x,ys[j]?=some x→∃ cs,K.rd J x cs∧∀ i u,cs[i]?=some u→eN J g (o+(b+j)*K.sz+i)=some u) →
  ∃ a,dX K J Hp.none ys a∧∀ k u,a[k]?=some u→eN J g (o+b*K.sz+k)=some u:=by
 intro ys
 induction ys with
 | nil=>intro b _; exact ⟨[],⟨rfl,rfl⟩,fun k u e=>by simp at e⟩
 | cons y ys ih =>
  intro b h
  obtain ⟨cs,h1,h2⟩:=h 0 y rfl
  obtain ⟨a,o1,o2⟩:=ih (b+1) (fun j x r=>by
   obtain ⟨cs,p,q⟩:=h (j+1) x (by simpa using r)
   exact ⟨cs,p,fun i u e=>by rw [show b+1+j=b+(j+1) by omega]; exact q i u e⟩)
  refine ⟨cs++a,⟨Hp.none,Hp.none,cs,a,Join.none _,rfl,m _ _ _ h1,o1⟩,fun k u e=>?_⟩
  have B:=K.rd_len h1
  by_cases hk:k<cs.length
  ·rw [List.getElem?_append_left hk] at e
   simpa using h2 k u e
  ·rw [List.getElem?_append_right (by omega)] at e
   have:=o2 _ u e
   rw [Nat.succ_mul] at this
   rw [show o+b*K.sz+k=o+(b*K.sz+K.sz)+(k - cs.length) by omega]
   exact this
theorem mK {α:Type}{K:Kind α}(F:K.Flat){v:Value}{ys:List α}:ua (bF K v ys) K v ys:=by
 rintro I h ⟨rfl,A,c,r,h2,m,B⟩
 by_cases hp:0<ys.length
 ·obtain ⟨g,o,D,E⟩:=B hp
  obtain ⟨a,o1,o2⟩:=kH F ys 0 (fun j x G=>by
   obtain ⟨cs,p,q⟩:=E j x G
   exact ⟨cs,p,fun i u e=>by rw [show 0+j=j from Nat.zero_add j]; exact q i u e⟩)
  refine ⟨A,c,a,Hp.none,r,m,Hp.le_refl _,o1,fun J l _ _=>⟨g,o,D,fun k u e=>gt l ?_⟩⟩
  simpa using o2 k u e
 ·obtain rfl:ys=[]:=List.eq_nil_of_length_eq_zero (by omega)
  exact ⟨A,c,[],Hp.none,r,m,Hp.le_refl _,⟨rfl,rfl⟩,fun _ _ _ h=>absurd h hp⟩
theorem Le.one_new {w a:World}{o:Obj}(h:a.heap[w.heap.size]?=some o):Le (Hp.one w.heap.size o) a:=by
 intro b o' e
 simp only [Hp.one] at e
 split at e
 ·rename_i g; subst g; rw [← Option.some.inj e]; exact h
 ·cases e
theorem o9 {α:Type}{P:Program}{K:Kind α}{t ty e:TypeId}{ah:Nat}{w:World}{s x:Value}{xs ys:List α}{z:α}(ht:iP P t=some e)(hs:fI P e=some K.sz)(hb:eQ P e=some ah)(hz:k8 P K e z)(b0:0<K.sz)
  {I h1 h2 U:Hp} {q:HP} (hj:Join h1 h2 U) (ho:kG K e I h1 s xs) (hq:q.p I h2) (ao:ua q K x ys) (lI:Le I w) (a3:Le U w) (dj:∀ b,I b=Option.none∨U b=Option.none) (hl:(xs.length+ys.length)*ah≤140737488355328) (ax:xs.length+ys.length≤140737488355328) (aw:0<ah) :
  ∃ a c w' Z,(Builtin.append_ #[t,t] ty #[s,x]).run P w=.ok (.slice a (xs++ys).length c) w'∧(∀ C,Same C w→Same C w')∧kG K e I Z (.slice a (xs++ys).length c) (xs++ys)∧Le Z w' ∧
   (∀ k,Z k≠Option.none→U k≠Option.none∨w.heap.size≤k)∧∀ (k:Nat) (o:Obj),U k=Option.none→w.heap[k]?=some o→w'.heap[k]?=some o:=by
 obtain ⟨A,cx,i,a8,rfl,hm,aa,on,aj⟩:=ao I h2 hq
 have an:=ig on
 obtain ⟨J,jJ⟩:=Join.of_disj dj
 have lJ:Le J w:=fun b o e=>by
  rcases jJ.cases e with ⟨e,_⟩|⟨e,_⟩
  ·exact lI b o e
  ·exact a3 b o e
 have au:=aj J jJ.left (Hp.le_trans hj.right jJ.right)
 obtain ⟨zc,a1,av,b1⟩:=hz
 have hu:=fP ht
 unfold iX at a1
 unfold fI at hs
 unfold eQ at hb
 cases hi:P.info? e with
 | none=>rw [hi] at hs; cases hs
 | some info =>
 rw [hi] at a1 hs hb
 simp only [Option.map_some,Option.some.injEq,Option.bind_some] at a1 hs hb
 cases hzz:info.zero with
 | none=>rw [hzz] at a1; cases a1
 | some zv =>
 have D:(xs++ys).length=xs.length+ys.length:=List.length_append
 rcases Nat.eq_zero_or_pos ys.length with h0 | a0
 ·-- nothing comes
  obtain rfl:ys=[]:=List.eq_nil_of_length_eq_zero h0
  have ay:i=[]:=on.2
  have e0:a8=Hp.none:=on.1
  rcases ho with ⟨B,rfl,rfl,rfl⟩|⟨g,c,pre,u,m,fr,ac,rfl,p2,p3,p4,p5,jo,ol⟩
  ·refine ⟨B,0,w,Hp.none,?_,fun _ h=>h,.inl ⟨B,rfl,rfl,rfl⟩,fun _ _ e=>(by cases e),fun _ h=>absurd rfl h,fun _ _ _ h=>h⟩
   cases B<;>cases A with
   | none=>simp [Builtin.append_,run_underlying hu,sizeOf,typeInfo,hi,Builtin.lenOf,Builtin.firstCells,loadCells,loadCellsFrom,storeCells]
   | some a=>simp [Builtin.append_,run_underlying hu,sizeOf,typeInfo,hi,Builtin.lenOf,Builtin.firstCells,loadCells,loadCellsFrom,storeCells]
  ·refine ⟨some ⟨g,pre.length,none⟩,c,w,h1,?_,fun _ h=>h,.inr ⟨g,c,pre,u,m,fr,ac,by simp,by simpa using p2,p3,by simpa using p4,p5,jo,by simpa using ol⟩,?_,?_,fun _ _ _ h=>h⟩
   ·cases A with
    | none=>simp [Builtin.append_,run_underlying hu,sizeOf,typeInfo,hi,Builtin.lenOf,Builtin.firstCells,loadCells,loadCellsFrom,p2,storeCells]
    | some a=>simp [Builtin.append_,run_underlying hu,sizeOf,typeInfo,hi,Builtin.lenOf,Builtin.firstCells,loadCells,loadCellsFrom,p2,storeCells]
   ·exact a3.mono hj.left
   ·exact fun k hk=>.inl fun hn=>hk ((hj.is_none k).1 hn).1
 ·obtain ⟨g2,o2,rfl,ae⟩:=au a0
  have Y:∀ (j:Nat) (v:Value),i[j]?=some v→w.cell? ((⟨g2,o2,none⟩:Addr).add j)=some v:=fun j v hv=>by
   rw [dZ]
   exact fH lJ (ae j v hv)
  have a4:i.length=ys.length*info.size:=by rw [an,hs]
  have a2:∀ (M:Nat) (G:List Value) (a7:Hp),M<xs.length+ys.length→Hp.le a7 h1→dX K I a7 xs G →
    ∃ Z,kG K e I Z (.slice (some ⟨w.heap.size,0,none⟩) (xs++ys).length (grownCap w (xs.length+ys.length) M e)) (xs++ys) ∧
     Le Z (w.drew.alloc (.cells (G.toArray++i.toArray++Builtin.zeroCells zv.cells (grownCap w (xs.length+ys.length) M e - (xs.length+ys.length))) e)) ∧
     (∀ k,Z k≠Option.none→U k≠Option.none∨w.heap.size≤k):=by
   intro M G a7 a6 aq ol
   obtain ⟨F,ju⟩:=Join.of_disj (h1:=a7) (h2:=a8) (fun b=>by
    rcases hj.disj b with f | f
    ·refine .inl ?_
     cases hh:a7 b with
     | none=>rfl
     | some o=>rw [aq b o hh] at f; cases f
    ·refine .inr ?_
     cases hh:a8 b with
     | none=>rfl
     | some o=>rw [aa b o hh] at f; cases f)
   have E:Hp.le F U:=fun b o e=>by
    rcases ju.cases e with ⟨e,_⟩|⟨e,_⟩
    ·exact hj.left b o (aq b o e)
    ·exact hj.right b o (aa b o e)
   obtain ⟨Z,jo⟩:=Join.of_disj (h1:=Hp.one w.heap.size (.cells (G.toArray++i.toArray++Builtin.zeroCells zv.cells (grownCap w (xs.length+ys.length) M e - (xs.length+ys.length))) e)) (h2:=F) (fun b=>by
    by_cases a5:b=w.heap.size
    ·refine .inr ?_
     cases hh:F b with
     | none=>rfl
     | some o =>
      have:=a3.lt (b:=b) (by rw [E b o hh]; exact fun h=>by cases h)
      omega
    ·exact .inl (by simp [Hp.one,a5]))
   have al:=grownCap_ge w (xs.length+ys.length) M e
   have ar:=grownCap_le_maxLen w (xs.length+ys.length) M e (by simp only [maxLen]; omega)
   refine ⟨Z,.inr ⟨w.heap.size,_,[],G++i,(Builtin.zeroCells zv.cells (grownCap w (xs.length+ys.length) M e - (xs.length+ys.length))).toList,(0,0),F,rfl,by rw [D]; exact al,ar,?_,.inl rfl,?_,ij ju ol on⟩,?_,?_⟩
   ·rw [D]
    have:zv.cells.size=K.sz:=by
     rw [hzz] at a1
     simp only [Option.map_some,Option.some.injEq] at a1
     rw [← av,← a1]; simp
    simp [size_zeroCells,this]
   ·have:([]++(G++i)++(Builtin.zeroCells zv.cells (grownCap w (xs.length+ys.length) M e - (xs.length+ys.length))).toList).toArray=G.toArray++i.toArray++Builtin.zeroCells zv.cells (grownCap w (xs.length+ys.length) M e - (xs.length+ys.length)):=by
     apply Array.ext'
     simp
    rw [this]
    exact jo
   ·intro b o e
    rcases jo.cases e with ⟨e,_⟩|⟨e,_⟩
    ·exact Le.one_new (w:=w) (by show (w.heap.push _)[w.heap.size]?=_; simp) b o e
    ·have a6:=a3.lt (b:=b) (by rw [E b o e]; exact fun h=>by cases h)
     show (w.heap.push _)[b]?=_
     rw [Array.getElem?_push,if_neg (Nat.ne_of_lt a6)]
     exact a3 b o (E b o e)
   ·intro k hk
    by_cases hkk:k=w.heap.size
    ·exact .inr (Nat.le_of_eq hkk.symm)
    ·refine .inl fun hn=>hk ((jo.is_none k).2 ⟨by simp [Hp.one,hkk],?_⟩)
     cases hh:F k with
     | none=>rfl
     | some o=>rw [E k o hh] at hn; cases hn
  have a9:∀ (O:Obj) (k:Nat) (o:Obj),U k=Option.none→w.heap[k]?=some o→(w.drew.alloc O).heap[k]?=some o:=by
   intro O k o _ e
   have a6:=(Array.getElem?_eq_some_iff.1 e).1
   show (w.heap.push _)[k]?=_
   rw [Array.getElem?_push,if_neg (Nat.ne_of_lt a6)]
   exact e
  have ab:∀ (O:Obj) (C:World),Same C w→Same C (w.drew.alloc O):=fun O C h=>h.drew.alloc O
  rcases ho with ⟨B,rfl,rfl,rfl⟩|⟨g,c,pre,u,m,fr,ac,rfl,p2,p3,p4,p5,jo,ol⟩
  ·cases B with
   | some b =>
    have hr:=run_append_grow (P:=P) w t ty e info zv hu hi hzz b 0 0 [] (by simp) (fun j v hv=>by simp at hv) ⟨g2,o2,none⟩ ys.length cx i a4 Y (by omega) (by omega) (by rw [hb,Nat.zero_add]; exact growslice_fits a0 (by simpa using hl))
    obtain ⟨Z,f1,f2,f3⟩:=a2 0 [] Hp.none (by simp; exact a0) (Hp.le_refl _) ⟨rfl,rfl⟩
    simp only [List.length_nil,Nat.zero_add,List.nil_append] at f1 f2 hr ⊢
    exact ⟨_,_,_,Z,hr,ab _,f1,f2,f3,a9 _⟩
   | none =>
   have hr:=run_append_nil (P:=P) w t ty e info zv hu hi hzz ⟨g2,o2,none⟩ ys.length cx i a4 Y a0 (by omega) (by rw [hb]; simp only [List.length_nil,Nat.zero_add] at hl; omega)
   obtain ⟨Z,f1,f2,f3⟩:=a2 0 [] Hp.none (by simp; exact a0) (Hp.le_refl _) ⟨rfl,rfl⟩
   simp only [List.length_nil,Nat.zero_add,List.nil_append] at f1 f2 hr ⊢
   refine ⟨_,_,_,Z,hr,ab _,f1,?_,f3,a9 _⟩
   rw [show ([]:List Value).toArray++i.toArray=i.toArray by simp] at f2
   exact f2
  ·have ag:w.heap[g]?=some (.cells (pre++u++m).toArray e fr):=a3 g _ (hj.left g _ (jo.left g _ (by simp [Hp.one])))
   have ap:=ig ol
   by_cases hroom:xs.length+ys.length≤c
   ·-- in place
    have az:ys.length*K.sz≤m.length:=by rw [p4]; exact Nat.mul_le_mul_right _ (by omega)
    obtain ⟨w',r,e',ot,sm⟩:=g5 (P:=P) (N:=(pre++u++m).length) (T:=e) (fr:=fr) (b:=g) (by simpa [Nat.add_assoc] using p5) i (pre.length+xs.length*K.sz) 0 (pre++u++m) w rfl ag (by simp only [List.length_append]; omega) (mD on)
    obtain ⟨F,ju⟩:=Join.of_disj (h1:=ac) (h2:=a8) (fun b=>by
     rcases hj.disj b with f | f
     ·exact .inl ((jo.is_none b).1 f).2
     ·refine .inr ?_
      cases hh:a8 b with
      | none=>rfl
      | some o=>rw [aa b o hh] at f; cases f)
    have E:∀ b o,F b=some o→U b=some o∧b≠g:=fun b o e=>by
     rcases ju.cases e with ⟨e,_⟩|⟨e,_⟩
     ·refine ⟨hj.left b o (jo.right b o e),?_⟩
      rintro rfl
      rcases jo.disj b with f | f
      ·simp [Hp.one] at f
      ·rw [f] at e; cases e
     ·refine ⟨hj.right b o (aa b o e),?_⟩
      rintro rfl
      rcases hj.disj b with f | f
      ·have:=((jo.is_none b).1 f).1
       simp [Hp.one] at this
      ·rw [aa b o e] at f; cases f
    obtain ⟨Z,jn⟩:=Join.of_disj (h1:=Hp.one g (.cells (pre++(u++i)++m.drop i.length).toArray e fr)) (h2:=F) (fun b=>by
     by_cases a5:b=g
     ·refine .inr ?_
      cases hh:F b with
      | none=>rfl
      | some o=>exact absurd a5 (E b o hh).2
     ·exact .inl (by simp [Hp.one,a5]))
    have am:(pre++u++m).take (pre.length+xs.length*K.sz+0)++i++(pre++u++m).drop (pre.length+xs.length*K.sz+0+i.length)=pre++(u++i)++m.drop i.length:=by
     have h1:pre.length+xs.length*K.sz+0=(pre++u).length:=by simp [ap]
     rw [h1,List.take_left,List.drop_append,List.drop_of_length_le (by omega),Nat.add_sub_cancel_left]
     simp [List.append_assoc]
    rw [am] at e'
    refine ⟨some ⟨g,pre.length,none⟩,c,w',Z,?_,sm,.inr ⟨g,c,pre,u++i,m.drop i.length,fr,F,rfl,by rw [D]; exact hroom,p3,?_,?_,jn,ij ju ol on⟩,?_,?_,?_⟩
    ·have hf:=run_firstCells_some (P:=P) w info.size ys.length ⟨g2,o2,none⟩ ys.length cx i a4 Y
     rw [hs] at hf
     simp [Builtin.append_,run_underlying hu,sizeOf,typeInfo,hi,Builtin.lenOf,hroom,hf,dZ,hs,r,Sem.run_bind]
    ·rw [List.length_drop,p4,an,← Nat.sub_mul,D]
     congr 1
     omega
    ·rcases p5 with p5 | p5
     ·exact .inl p5
     ·refine .inr ?_
      simp only [List.length_append,List.length_drop]
      omega
    ·intro b o e
     rcases jn.cases e with ⟨e1,_⟩|⟨e1,_⟩
     ·simp only [Hp.one] at e1
      split at e1
      ·rename_i a5; subst a5; rw [← Option.some.inj e1]; exact e'
      ·cases e1
     ·obtain ⟨q1,q2⟩:=E b o e1
      rw [ot b q2]
      exact a3 b o q1
    ·intro k hk
     refine .inl fun hn=>hk ((jn.is_none k).2 ⟨?_,?_⟩)
     ·have:=((jo.is_none k).1 ((hj.is_none k).1 hn).1).1
      simp only [Hp.one] at *
      split at this
      ·cases this
      ·rename_i ai; rw [if_neg ai]
     ·cases hh:F k with
      | none=>rfl
      | some o=>rw [(E k o hh).1] at hn; cases hn
    ·intro k o hk e
     have ai:k≠g:=by
      rintro rfl
      have:=((jo.is_none k).1 ((hj.is_none k).1 hk).1).1
      simp [Hp.one] at this
     rw [ot k ai]
     exact e
   ·have ak:∀ (j:Nat) (v:Value),u[j]?=some v→w.cell? ((⟨g,pre.length,none⟩:Addr).add j)=some v:=fun j v hv=>by
     have a6:=(List.getElem?_eq_some_iff.1 hv).1
     rw [dZ]
     simp only [World.cell?,ag,Option.isSome_none,Bool.false_eq_true,if_false,List.getElem?_toArray]
     rw [List.append_assoc,List.getElem?_append_right (by omega),Nat.add_sub_cancel_left,List.getElem?_append_left a6]
     exact hv
    have hr:=run_append_grow (P:=P) w t ty e info zv hu hi hzz ⟨g,pre.length,none⟩ xs.length c u (by rw [ap,hs]) ak ⟨g2,o2,none⟩ ys.length cx i a4 Y (by omega) (by omega) (by rw [hb]; exact growslice_fits (by omega) hl)
    obtain ⟨Z,f1,f2,f3⟩:=a2 c u ac (by omega) jo.right ol
    rw [← D] at hr
    rw [D] at hr f1
    refine ⟨_,_,_,Z,by rw [D]; exact hr,ab _,by rw [D]; exact f1,f2,f3,a9 _⟩
end Go.Pg
