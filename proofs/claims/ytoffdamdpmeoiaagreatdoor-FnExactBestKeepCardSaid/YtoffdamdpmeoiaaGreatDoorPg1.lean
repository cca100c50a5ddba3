import Derived.WalkKit
import Derived.Deep.LoopGhost
import Derived.Test.YtoffdamdpmeoiaaGreatDoorPgF
set_option linter.unusedVariables false
set_option linter.unusedSimpArgs false
namespace Go.Pg
abbrev dQ:=Nat→Value
def kT (σ:dQ)(d:Nat)(v:Value):dQ:=fun t=>cond (Nat.beq t d) v (σ t)
def gJ (σ:dQ):Option Nat→Value→dQ
 | some d,v=>kT σ d v
 | none,_=>σ
def qi (σ:dQ):List (Nat×Value)→dQ
 | []=>σ
 | (d,v)::l=>kT (qi σ l) d v
def fM (a:Act):dQ:=fun t=>a.tmps.getD t undef
def ev (σ:dQ):Operand→Value
 | .tmp t=>σ t
 | .const v=>v
 | .global g=>.pointer (some ⟨g,0,none⟩)
 | .func f=>.func (.func f) #[] #[]
theorem km (a:Act):a.eval=ev (fM a):=by
 funext x
 cases x<;>rfl
theorem pd (σ:dQ)(d:Nat)(v:Value):kT σ d v d=v:=by simp [kT]
theorem tn (σ:dQ){d t:Nat}(v:Value)(h:t≠d):kT σ d v t=σ t:=by
 have:Nat.beq t d=false:=by
  cases hb:Nat.beq t d with
  | false=>rfl
  | true=>exact absurd (Nat.eq_of_beq_eq_true hb) h
 simp [kT,this]
theorem tp (σ:dQ)(d:Nat){v:Value}(h:σ d=v):kT σ d v=σ:=by
 funext t
 by_cases e:t=d
 ·subst e; rw [pd,h]
 ·rw [tn _ _ e]
theorem kA (a:Act)(b:Option Tmp)(v:Value)(h:∀ d,b=some d→d<a.tmps.size):fM (a.put b v)=gJ (fM a) b v:=by
 cases b with
 | none=>rfl
 | some d =>
  funext t
  show (a.tmps.setIfInBounds d v).getD t undef=kT (fM a) d v t
  have j:=h d rfl
  by_cases e:t=d
  ·subst e
   rw [pd]
   simp [Array.getD_eq_getD_getElem?,j]
  ·rw [tn _ _ e]
   have i:¬ d=t:=fun h=>e h.symm
   simp [fM,Array.getD_eq_getD_getElem?,Array.getElem?_setIfInBounds,i]
structure Nn where
 n:Nat
 ds:List Deferred
 alt:Act→World→Prop
@[reducible] def Nn.of (n:Nat):Nn:=⟨n,[],fun _ _=>False⟩
def hD (N:Nn)(Q:Exit→dQ→World→Prop):Exit→Act→World→Prop:=fun e a w=>(a.tmps.size=N.n∧a.defers=N.ds∧Q e (fM a) w)∨(e=.ret∧N.alt a w)
theorem fY {N:Nn}{Q:Exit→dQ→World→Prop}{e:Exit}{a:Act}{w:World}(h:hD N Q e a w)(b:e≠.ret):a.tmps.size=N.n∧a.defers=N.ds∧Q e (fM a) w:=h.resolve_right fun h=>b h.1
theorem nX {N:Nn}{Q Q':Exit→dQ→World→Prop}{e:Exit}{a:Act}{w:World}(h:hD N Q e a w)(i:Q e (fM a) w→Q' e (fM a) w):hD N Q' e a w:=h.imp (fun ⟨a,b,c⟩=>⟨a,b,i c⟩) id
def W (P:Program)(N:Nn)(c:Code)(Q:Exit→dQ→World→Prop)(σ:dQ)(w:World):Prop :=
 ∀ a:Act,a.tmps.size=N.n→a.defers=N.ds→fM a=σ→c.wp P (hD N Q) a w
def WL (P:Program)(N:Nn)(ops:Array Oper)(rest:List Oper)(Q:Exit→dQ→World→Prop)(σ:dQ)(w:World):Prop :=
 ∀ a:Act,a.tmps.size=N.n→a.defers=N.ds→fM a=σ→wpList P ops (hD N Q) rest a w
def j3 (N:Nn):Option Nat→Bool
 | some d=>Nat.blt d N.n
 | none=>true
def m0 (ops:Array Oper)(σ:dQ)(j:Nat):Option Bool :=
 match (ops[j]?).bind (·.dst) with
 | some d=>match σ d with
  | .bool b=>some b
  | _=>none
 | none=>none
theorem pg (ops:Array Oper)(a:Act)(j:Nat):yielded ops a.tmps j=m0 ops (fM a) j:=by
 unfold yielded m0
 cases h:(ops[j]?).bind (·.dst) with
 | none=>rfl
 | some d =>
  simp only [Option.bind_some,fM,Array.getD_eq_getD_getElem?]
  cases ht:a.tmps[d]? with
  | none=>simp [undef]
  | some v=>cases v<;>simp
def eF (ops:Array Oper)(σ:dQ)(o:Oper):Bool :=
 match o.guard with
 | none=>true
 | some (j,b)=>m0 ops σ j==some b
theorem jQ (ops:Array Oper)(a:Act)(o:Oper):Region.wanted o (yielded ops a.tmps)=eF ops (fM a) o:=by
 unfold Region.wanted eF
 cases o.guard with
 | none=>rfl
 | some g=>simp only [pg]
section
variable {P:Program}{n:Nn}{ops:Array Oper}{rest:List Oper}{o:Oper}{Q Q':Exit→dQ→World→Prop}{σ:dQ}{w:World}{c x y:Code}
theorem W.mono (h:W P n c Q σ w)(i:∀ e σ w,Q e σ w→Q' e σ w):W P n c Q' σ w :=
 fun a h1 h2 b=>wp_mono (h a h1 h2 b) fun _ _ _ q=>nX q (i _ _ _)
def iU (K:dQ→World→Prop)(Q:Exit→dQ→World→Prop):Exit→dQ→World→Prop
 | .normal,σ,w=>K σ w
 | e,σ,w=>Q e σ w
def jR (a:Nat)(Q:Exit→dQ→World→Prop):Exit→dQ→World→Prop
 | .exit id',σ,w=>cond (Nat.beq id' a) (Q .normal σ w) (Q (.exit id') σ w)
 | e,σ,w=>Q e σ w
theorem zY (h:W P n x (iU (fun σ w=>W P n y Q σ w) Q) σ w):W P n (.seq x y) Q σ w:=by
 intro a h1 h2 i
 refine wp_seq (wp_mono (h a h1 h2 i) ?_)
 rintro e b s q
 cases e with
 | normal =>
  obtain ⟨j,l,r⟩:=fY q (by simp)
  exact r b j l rfl
 | _=>exact q
theorem xP (h:Q .normal σ w):W P n .skip Q σ w:=fun a h1 h2 b=>wp_skip (.inl ⟨h1,h2,b▸h⟩)
theorem zZ (h:Q .ret σ w):W P n .ret Q σ w:=fun a h1 h2 b=>wp_ret (.inl ⟨h1,h2,b▸h⟩)
theorem xQ {b:Nat}(h:Q (.exit b) σ w):W P n (.exit b) Q σ w:=fun a h1 h2 e=>wp_exit (.inl ⟨h1,h2,e▸h⟩)
theorem tq {k:Operand}{b:Bool}(i:ev σ k=.bool b)(h:W P n (cond b x y) Q σ w):W P n (.cond k x y) Q σ w:=by
 intro a h1 h2 e
 refine wp_cond (t:=b) (by rw [km,e]; exact i) ?_
 cases b
 ·exact h a h1 h2 e
 ·exact h a h1 h2 e
theorem vw {b:Nat}(h:W P n c (jR b Q) σ w):W P n (.block b c) Q σ w:=by
 intro a h1 h2 u
 refine wp_block (wp_mono (h a h1 h2 u) ?_)
 rintro e j s q
 cases e with
 | exit id' =>
  obtain ⟨l,r,i⟩:=fY q (by simp)
  unfold jR at i
  show if id'=b then hD n Q .normal j s else hD n Q (.exit id') j s
  by_cases e:id'=b
  ·subst e
   rw [if_pos rfl]
   have:Nat.beq id' id'=true:=Nat.beq_refl id'
   simp only [this,cond_true] at i
   exact .inl ⟨l,r,i⟩
  ·rw [if_neg e]
   have:Nat.beq id' b=false:=by
    cases hb:Nat.beq id' b with
    | false=>rfl
    | true=>exact absurd (Nat.eq_of_beq_eq_true hb) e
   simp only [this,cond_false] at i
   exact .inl ⟨l,r,i⟩
 | _=>exact q
theorem ts {e:Nat}{l:List Oper}(h:WL P n l.toArray l Q σ w):W P n (.region e l.toArray false) Q σ w :=
 fun a h1 h2 b=>wp_region_lit (h a h1 h2 b)
theorem xR (h:Q .normal σ w):WL P n ops [] Q σ w:=fun a h1 h2 b=>wpList_nil (.inl ⟨h1,h2,b▸h⟩)
theorem xS (I:Nat→dQ→World→Prop)(k:Nat)(r:I k σ w)
  (b:∀ k σ w,I k σ w→W P n c (iU (fun σ' i=>∃ h,h<k∧I h σ' i) Q) σ w):W P n (.loop c) Q σ w:=by
 intro a h1 h2 s
 refine wp_loop_ghost (fun k a w=>a.tmps.size=n.n∧a.defers=n.ds∧I k (fM a) w) k ⟨h1,h2,s▸r⟩ ?_
 rintro k a w ⟨g1,j,l⟩
 refine wp_mono (b k _ w l a g1 j rfl) ?_
 rintro e E i q
 cases e with
 | normal =>
  obtain ⟨B,D,h,hk,u⟩:=fY q (by simp)
  exact ⟨h,hk,B,D,u⟩
 | _=>exact q
def Cj (P:Program)(o:Oper)(σ:dQ)(a:dQ→World→Prop)(Q:Exit→dQ→World→Prop):Result Next→Prop
 | .ok (.value v) w'=>a (gJ σ o.dst v) w'
 | .ok .skip w'=>a (gJ σ o.dst undef) w'
 | .ok (.enter f args) w'=>Calls P f args w' fun
   | .returned v,w''=>a (gJ σ o.dst v) w''
   | .panicked chain,w''=>Q (.panic chain) σ w''
   | .outgrown,_=>False
 | .halt (.panic v) w'=>Q (.panic [{v,recovered:=false}]) σ w'
 | _=>False
theorem Calls.mono' {P:Program}{f:FuncId}{args:Array Value}{w:World}{R b:Ending→World→Prop}(h:Calls P f args w R)(i:∀ e a,R e a→b e a):Calls P f args w b :=
 fun cs=>let ⟨e,a,fr,r,s⟩:=h cs; ⟨e,a,fr,i _ _ r,s⟩
theorem fE (u:j3 n o.dst=true)(hw:eF ops σ o=true)(h:Cj P o σ (fun σ w=>WL P n ops rest Q σ w) Q ((execOp (ev σ) o).run P w)):WL P n ops (o::rest) Q σ w:=by
 intro a h1 h2 l
 refine wpList_step fun K q=>?_
 rw [jQ,l,hw,if_pos rfl]
 have b:∀ v,fM (a.put o.dst v)=gJ σ o.dst v:=fun v=>by
  rw [kA,l]
  intro d e
  rw [e] at u
  rw [h1]
  exact Nat.lt_of_lt_of_le (Nat.lt_succ_self _) (Nat.le_of_ble_eq_true u)
 have j:∀ v,(a.put o.dst v).tmps.size=n.n:=fun v=>by
  cases hdd:o.dst with
  | none=>exact h1
  | some d=>show (a.tmps.setIfInBounds d v).size=n.n; rw [Array.size_setIfInBounds,h1]
 have i:∀ v,(a.put o.dst v).defers=n.ds:=fun v=>by
  cases hdd:o.dst with
  | none=>exact h2
  | some d=>exact h2
 unfold Oper.wp
 rw [km,l]
 revert h
 generalize (execOp (ev σ) o).run P w=r
 intro h
 match r,h with
 | .ok (.value v) w',h=>exact q _ _ (h _ (j v) (i v) (b v))
 | .ok .skip w',h=>exact q _ _ (h _ (j _) (i _) (b _))
 | .ok (.enter f args) w',h =>
  refine Calls.mono' h ?_
  intro e B s
  cases e with
  | returned v=>exact q _ _ (s _ (j v) (i v) (b v))
  | panicked chain=>exact .inl ⟨h1,h2,l▸s⟩
  | outgrown=>exact s.elim
 | .halt (.panic v) w',h=>exact .inl ⟨h1,h2,l▸h⟩
theorem xT (i:j3 n o.dst=true)(hw:eF ops σ o=false)(h:WL P n ops rest Q (gJ σ o.dst undef) w):WL P n ops (o::rest) Q σ w:=by
 intro a h1 h2 b
 refine wpList_step fun K j=>?_
 rw [jQ,b,hw]
 simp only [Bool.false_eq_true,if_false]
 refine j _ _ (h _ ?_ ?_ ?_)
 ·cases hdd:o.dst with
  | none=>exact h1
  | some d=>show (a.tmps.setIfInBounds d _).size=n.n; rw [Array.size_setIfInBounds,h1]
 ·cases hdd:o.dst with
  | none=>exact h2
  | some d=>exact h2
 ·rw [kA,b]
  intro d e
  rw [e] at i
  rw [h1]
  exact Nat.lt_of_lt_of_le (Nat.lt_succ_self _) (Nat.le_of_ble_eq_true i)
end
def iI (fn:Func)(σ:dQ):Sem Value:=do
 let vs ← fn.results.mapM fun
  | .tmp t=>pure (σ t)
  | .cell a t=>do loadVar t (← asAddr (σ a))
 pure (if h:vs.size=1 then vs[0] else .tuple vs)
def m' (P:Program)(fn:Func)(R:Value→World→Prop):Exit→dQ→World→Prop
 | .normal,σ,w | .ret,σ,w=>∃ v,(iI fn σ).run P w=.ok v w∧R v w
 | _,_,_=>False
def tt (args:Array Value):dQ:=fun t=>args.getD t undef
theorem rA {args:Array Value}{n:Nat}:fM {tmps:=args++Array.replicate (n - args.size) undef,defers:=[]}=tt args:=by
 funext t
 simp only [fM,tt,Array.getD_eq_getD_getElem?,Array.getElem?_append]
 split
 ·rfl
 ·rename_i a
  rw [Array.getElem?_eq_none (by omega:args.size≤t)]
  by_cases h2:t - args.size<n - args.size
  ·simp [h2]
  ·simp [h2]
theorem qk {P:Program}{f:FuncId}{fn:Func}{c:Code}{args:Array Value}{w:World}{R:Value→World→Prop}
  (u:P.funcs[f]?=some fn) (s:fn.body=some c) (B:args.size≤fn.ntmps) (h:W P (.of fn.ntmps) c (m' P fn R) (tt args) w) :
  Calls P f args w fun e r=>∃ v,e=.returned v∧R v r:=by
 refine calls_of_wp u s ?_
 refine wp_mono (h _ (by simp; omega) rfl ?_) ?_
 ·exact rA
 ·rintro e a r q
  obtain ⟨D,l,j⟩:=q.resolve_right fun h=>h.2
  cases e with
  | normal =>
   obtain ⟨v,i,b⟩:=j
   exact ⟨l,v,i,v,rfl,b⟩
  | ret =>
   obtain ⟨v,i,b⟩:=j
   exact ⟨l,v,i,v,rfl,b⟩
  | _=>exact j.elim
end Go.Pg
namespace Go.Pg
abbrev Hp:=Nat→Option Obj
def Hp.none:Hp:=fun _=>Option.none
def Hp.one (b:Nat)(o:Obj):Hp:=fun k=>if k=b then some o else Option.none
def Hp.le (h g:Hp):Prop:=∀ b o,h b=some o→g b=some o
def Join (h1 h2 g:Hp):Prop:=∀ b,(h1 b=Option.none∧g b=h2 b)∨(h2 b=Option.none∧g b=h1 b)
theorem Hp.le_refl (h:Hp):Hp.le h h:=fun _ _ e=>e
theorem Hp.le_trans {f g h:Hp}(a:Hp.le f g)(b:Hp.le g h):Hp.le f h:=fun _ _ e=>b _ _ (a _ _ e)
theorem Hp.none_le (h:Hp):Hp.le Hp.none h:=fun _ _ e=>by cases e
theorem Join.symm {h1 h2 g:Hp}(j:Join h1 h2 g):Join h2 h1 g:=fun b=>(j b).symm
theorem Join.none (h:Hp):Join Hp.none h h:=fun b=>.inl ⟨rfl,rfl⟩
theorem Join.none' (h:Hp):Join h Hp.none h:=(Join.none h).symm
theorem Join.eq_of_none {h g:Hp}(j:Join Hp.none h g):g=h:=by
 funext b
 rcases j b with ⟨_,e⟩|⟨a,e⟩
 ·exact e
 ·rw [e,a]; rfl
theorem Join.left {h1 h2 g:Hp}(j:Join h1 h2 g):Hp.le h1 g:=fun b o e=>by
 rcases j b with ⟨a,_⟩|⟨_,h⟩
 ·rw [a] at e; cases e
 ·rw [h]; exact e
theorem Join.right {h1 h2 g:Hp}(j:Join h1 h2 g):Hp.le h2 g:=j.symm.left
theorem Join.of_disj {h1 h2:Hp}(d:∀ b,h1 b=Option.none∨h2 b=Option.none):∃ g,Join h1 h2 g:=by
 refine ⟨fun b=>(h1 b).or (h2 b),fun b=>?_⟩
 rcases d b with e | e
 ·exact .inl ⟨e,by simp [e]⟩
 ·refine .inr ⟨e,by simp [e]⟩
theorem Join.disj {h1 h2 g:Hp}(j:Join h1 h2 g)(b:Nat):h1 b=Option.none∨h2 b=Option.none:=by
 rcases j b with ⟨e,_⟩|⟨e,_⟩
 ·exact .inl e
 ·exact .inr e
theorem Join.cases {h1 h2 g:Hp}(j:Join h1 h2 g){b:Nat}{o:Obj}(e:g b=some o):(h1 b=some o∧h2 b=Option.none)∨(h2 b=some o∧h1 b=Option.none):=by
 rcases j b with ⟨a,c⟩|⟨a,c⟩
 ·exact .inr ⟨c▸e,a⟩
 ·exact .inl ⟨c▸e,a⟩
theorem Join.is_none {h1 h2 g:Hp}(j:Join h1 h2 g)(b:Nat):g b=Option.none↔h1 b=Option.none∧h2 b=Option.none:=by
 rcases j b with ⟨a,c⟩|⟨a,c⟩
 ·rw [c]; exact ⟨fun h=>⟨a,h⟩,fun h=>h.2⟩
 ·rw [c]; exact ⟨fun h=>⟨h,a⟩,fun h=>h.1⟩
theorem Join.assoc {a b c u g:Hp}(B:Join a b u)(s:Join u c g):∃ q,Join b c q∧Join a q g:=by
 obtain ⟨q,i⟩:=Join.of_disj (h1:=b) (h2:=c) (fun k=>by
  rcases s.disj k with e | e
  ·exact .inl ((B.is_none k).1 e).2
  ·exact .inr e)
 refine ⟨q,i,fun k=>?_⟩
 rcases B k with ⟨r,l⟩|⟨r,l⟩
 ·refine .inl ⟨r,?_⟩
  rcases s k with ⟨f1,j⟩|⟨f1,j⟩
  ·rw [j]
   rcases i k with ⟨g1,h⟩|⟨g1,h⟩
   ·exact h.symm
   ·rw [g1,h]; rw [l] at f1; exact f1.symm
  ·rw [j,l]
   rcases i k with ⟨g1,h⟩|⟨g1,h⟩
   ·rw [h,f1]; exact g1
   ·exact h.symm
 ·rcases s k with ⟨f1,j⟩|⟨f1,j⟩
  ·rw [l] at f1
   refine .inl ⟨f1,?_⟩
   rw [j]
   rcases i k with ⟨g1,h⟩|⟨g1,h⟩
   ·exact h.symm
   ·rw [g1,h,r]
  ·refine .inr ⟨?_,by rw [j,l]⟩
   rcases i k with ⟨g1,h⟩|⟨g1,h⟩
   ·rw [h,f1]
   ·rw [h,r]
theorem Join.assoc' {a b c h g:Hp}(j:Join b c h)(l:Join a h g):∃ e,Join a b e∧Join e c g:=by
 obtain ⟨i,h1,h2⟩:=Join.assoc j.symm l.symm
 exact ⟨i,h1.symm,h2.symm⟩
structure HP where
 p:Hp→Hp→Prop
 mono:∀ {I J h},Hp.le I J→p I h→p J h
def Ck:HP:=⟨fun _ h=>h=Hp.none,fun _ e=>e⟩
def fH:List HP→Hp→Hp→Prop
 | [],_,h=>h=Hp.none
 | q::V,I,h=>∃ h1 h2,Join h1 h2 h∧q.p I h1∧fH V I h2
theorem j4 {V:List HP}{I J h:Hp}(l:Hp.le I J)(s:fH V I h):fH V J h:=by
 induction V generalizing h with
 | nil=>exact s
 | cons q V ih =>
  obtain ⟨h1,h2,j,a,b⟩:=s
  exact ⟨h1,h2,j,q.mono l a,ih b⟩
def lk:List HP→Nat→HP
 | [],_=>Ck
 | q::_,0=>q
 | _::V,i+1=>lk V i
def x7:List HP→Nat→HP→List HP
 | [],_,q=>[q]
 | _::V,0,q=>q::V
 | p::V,i+1,q=>p::x7 V i q
def rm:List HP→Nat→List HP
 | [],_=>[]
 | _::V,0=>V
 | p::V,i+1=>p::rm V i
def mv (V:List HP)(i:Nat):List HP:=lk V i::rm V i
theorem fJ {V:List HP}{I h:Hp}(i:Nat)(s:fH V I h):∃ h1 h2,Join h1 h2 h∧(lk V i).p I h1∧fH (rm V i) I h2:=by
 induction V generalizing h i with
 | nil=>exact ⟨Hp.none,h,Join.none h,rfl,s⟩
 | cons q V ih =>
  cases i with
  | zero=>exact s
  | succ i =>
   obtain ⟨h1,h2,j,a,b⟩:=s
   obtain ⟨g1,e,l,c,d⟩:=ih i b
   obtain ⟨k,k1,r⟩:=Join.assoc' l j
   obtain ⟨m,u,B⟩:=Join.assoc k1.symm r
   exact ⟨g1,m,B,c,h1,e,u,a,d⟩
theorem ph {V:List HP}{I h h1 h2:Hp}(i:Nat){q:HP}(j:Join h1 h2 h)(a:q.p I h1)(b:fH (rm V i) I h2):fH (x7 V i q) I h:=by
 induction V generalizing h h2 i with
 | nil=>exact ⟨h1,h2,j,a,b⟩
 | cons p V ih =>
  cases i with
  | zero=>exact ⟨h1,h2,j,a,b⟩
  | succ i =>
   obtain ⟨g1,u,e,c,d⟩:=b
   obtain ⟨k,k1,l⟩:=Join.assoc' e j
   obtain ⟨m,r,s⟩:=Join.assoc k1.symm l
   exact ⟨g1,m,s,c,ih i r d⟩
theorem vx {V:List HP}{I h:Hp}(i:Nat)(s:fH V I h):fH (mv V i) I h:=fJ i s
theorem cY {A V:List HP}{I h:Hp}:fH (A++V) I h↔∃ h1 h2,Join h1 h2 h∧fH A I h1∧fH V I h2:=by
 induction A generalizing h with
 | nil=>exact ⟨fun s=>⟨Hp.none,h,Join.none h,rfl,s⟩,fun ⟨h1,h2,j,a,b⟩=>by cases a; rw [j.eq_of_none]; exact b⟩
 | cons q A ih =>
  constructor
  ·rintro ⟨h1,h2,j,a,b⟩
   obtain ⟨g1,e,i,c,d⟩:=ih.1 b
   obtain ⟨k,k1,l⟩:=Join.assoc' i j
   exact ⟨k,e,l,⟨h1,g1,k1,a,c⟩,d⟩
  ·rintro ⟨h1,h2,j,⟨g1,e,i,a,b⟩,c⟩
   obtain ⟨k,k1,l⟩:=Join.assoc i j
   exact ⟨g1,k,l,a,ih.2 ⟨e,h2,k1,b,c⟩⟩
def Le (g:Hp)(w:World):Prop:=∀ b o,g b=some o→w.heap[b]?=some o
structure Same (C w:World):Prop where
 os:w.os=C.os
 tape:w.tape=C.tape
 output:w.output=C.output
def St (C w:World)(V:List HP):Prop:=Same C w∧∃ I h g,Join I h g∧Le g w∧fH V I h
theorem Le.lt {g:Hp}{w:World}(l:Le g w){b:Nat}(h:g b≠Option.none):b<w.heap.size:=by
 cases e:g b with
 | none=>exact absurd e h
 | some o=>exact (Array.getElem?_eq_some_iff.1 (l b o e)).1
theorem Le.mono {g g':Hp}{w:World}(l:Le g w)(h:Hp.le g' g):Le g' w:=fun b o e=>l b o (h b o e)
theorem Le.alloc {g:Hp}{w:World}(l:Le g w)(o:Obj):Le g (w.alloc o):=fun b o' e=>by
 have a:=l.lt (b:=b) (by rw [e]; exact fun h=>by cases h)
 show (w.heap.push o)[b]?=some o'
 rw [Array.getElem?_push,if_neg (Nat.ne_of_lt a)]
 exact l b o' e
theorem Same.alloc {C w:World}(s:Same C w)(o:Obj):Same C (w.alloc o):=⟨s.os,s.tape,s.output⟩
theorem Same.setCell {C w:World}(s:Same C w)(a:Addr)(v:Value):Same C (w.setCell a v):=⟨s.os,s.tape,s.output⟩
theorem Same.drew {C w:World}(s:Same C w):Same C w.drew:=⟨s.os,s.tape,s.output⟩
theorem St.mv {C w:World}{V:List HP}(s:St C w V)(i:Nat):St C w (mv V i):=by
 obtain ⟨a,I,h,g,j,l,s⟩:=s
 exact ⟨a,I,h,g,j,l,vx i s⟩
theorem St.rm {C w:World}{V:List HP}(s:St C w V)(i:Nat):St C w (rm V i):=by
 obtain ⟨a,I,h,g,j,l,s⟩:=s
 obtain ⟨h1,h2,b,_,s'⟩:=fJ i s
 obtain ⟨k,k1,e⟩:=Join.assoc' b j
 obtain ⟨m,q,r⟩:=Join.assoc k1.symm e
 exact ⟨a,I,h2,m,q,l.mono r.right,s'⟩
theorem St.drew {C w:World}{V:List HP}(s:St C w V):St C w.drew V:=by
 obtain ⟨a,I,h,g,j,l,s⟩:=s
 exact ⟨a.drew,I,h,g,j,l,s⟩
theorem St.look {C w:World}{V:List HP}(s:St C w V)(i:Nat):∃ I h,(lk V i).p I h∧Le I w∧Le h w∧(∀ b,I b=Option.none∨h b=Option.none):=by
 obtain ⟨a,I,h,g,j,l,s⟩:=s
 obtain ⟨h1,h2,q,c,s'⟩:=fJ i s
 exact ⟨I,h1,c,l.mono j.left,l.mono (Hp.le_trans q.left j.right),fun b=>by
  rcases j.disj b with e | e
  ·exact .inl e
  ·exact .inr ((q.is_none b).1 e).1⟩
theorem St.turn {C w G:World}{V:List HP}(s:St C w V)(i:Nat){q:HP}(Z:Same C w→Same C G)
  (f:∀ I h,(lk V i).p I h→Le I w→Le h w→∃ r,q.p I r∧Le r G∧(∀ b,r b≠Option.none→h b≠Option.none∨w.heap.size≤b)∧∀ b o,h b=Option.none→w.heap[b]?=some o→G.heap[b]?=some o) :
  St C G (x7 V i q):=by
 obtain ⟨a,I,h,g,j,l,s⟩:=s
 obtain ⟨h1,h2,u,c,s'⟩:=fJ i s
 obtain ⟨r,Y,T,U,hk⟩:=f I h1 c (l.mono j.left) (l.mono (Hp.le_trans u.left j.right))
 have F:∀ b,r b≠Option.none→I b=Option.none∧h2 b=Option.none:=by
  intro b O
  rcases U b O with e | e
  ·refine ⟨?_,?_⟩
   ·rcases j.disj b with f | f
    ·exact f
    ·exact absurd ((u.is_none b).1 f).1 e
   ·rcases u.disj b with f | f
    ·exact absurd f e
    ·exact f
  ·have:g b=Option.none:=by
    cases hg:g b with
    | none=>rfl
    | some o =>
     have:=(l.lt (b:=b) (by rw [hg]; exact fun h=>by cases h))
     omega
   have:=(j.is_none b).1 this
   exact ⟨this.1,((u.is_none b).1 this.2).2⟩
 obtain ⟨m,J⟩:=Join.of_disj (h1:=r) (h2:=h2) (fun b=>by
  by_cases e:r b=Option.none
  ·exact .inl e
  ·exact .inr (F b e).2)
 obtain ⟨g',E⟩:=Join.of_disj (h1:=I) (h2:=m) (fun b=>by
  by_cases e:r b=Option.none
  ·rcases j.disj b with f | f
   ·exact .inl f
   ·exact .inr ((J.is_none b).2 ⟨e,((u.is_none b).1 f).2⟩)
  ·exact .inl (F b e).1)
 refine ⟨Z a,I,m,g',E,?_,ph i J Y s'⟩
 intro b o e
 rcases E.cases e with ⟨B,L⟩|⟨B,L⟩
 ·refine hk b o ?_ (l b o (j.left b o B))
  rcases j.disj b with f | f
  ·rw [f] at B; cases B
  ·exact ((u.is_none b).1 f).1
 ·rcases J.cases B with ⟨D,M⟩|⟨D,M⟩
  ·exact T b o D
  ·refine hk b o ?_ (l b o (j.right b o (u.right b o D)))
   rcases u.disj b with f | f
   ·exact f
   ·rw [f] at D; cases D
theorem St.new {C w r:World}{V:List HP}(s:St C w V){q:HP}(B:Same C w→Same C r)
  (f:∀ I,Le I w→∃ i,q.p I i∧Le i r∧(∀ b,i b≠Option.none→w.heap.size≤b)) (hk:∀ (b:Nat) (o:Obj),w.heap[b]?=some o→r.heap[b]?=some o) :
  St C r (q::V):=by
 have D:St C w (Ck::V):=by
  obtain ⟨a,I,h,g,j,l,s⟩:=s
  exact ⟨a,I,h,g,j,l,Hp.none,h,Join.none h,rfl,s⟩
 refine St.turn D 0 B ?_
 rintro I h e lI _
 obtain ⟨i,a,b,c⟩:=f I lI
 exact ⟨i,a,b,fun k u=>.inr (c k u),fun b o _ e=>hk b o e⟩
theorem St.imp {C w:World}{A B V:List HP}(s:St C w (A++V))(f:∀ I h,Le I w→Le h w→fH A I h→fH B I h):St C w (B++V):=by
 obtain ⟨a,I,h,g,j,l,s⟩:=s
 obtain ⟨h1,h2,b,c,d⟩:=cY.1 s
 exact ⟨a,I,h,g,j,l,cY.2 ⟨h1,h2,b,f I h1 (l.mono j.left) (l.mono (Hp.le_trans b.left j.right)) c,d⟩⟩
theorem St.share {C w:World}{p q:HP}{V:List HP}(s:St C w (p::V))(f:∀ I J h,Hp.le I J→Hp.le h J→p.p I h→q.p J Hp.none):St C w (q::V):=by
 obtain ⟨a,I,h,g,j,l,h1,h2,b,c,d⟩:=s
 obtain ⟨k,k1,e⟩:=Join.assoc' b j
 exact ⟨a,k,h2,g,e,l,Hp.none,h2,Join.none h2,f I k h1 k1.left k1.right c,j4 k1.left d⟩
end Go.Pg
namespace Go.Pg
def iP (g:Hp)(b k:Nat):Option Value :=
 match g b with
 | some (.cells c _ _)=>c[k]?
 | _=>none
theorem kU {g g':Hp}(l:Hp.le g g'){b k:Nat}{v:Value}(h:iP g b k=some v):iP g' b k=some v:=by
 unfold iP at *
 cases e:g b with
 | none=>rw [e] at h; cases h
 | some o=>rw [l b o e]; rw [e] at h; exact h
theorem hO {g:Hp}{w:World}(l:Le g w){b k:Nat}{v:Value}(h:iP g b k=some v):w.cell? ⟨b,k,none⟩=some v:=by
 unfold iP at h
 cases e:g b with
 | none=>rw [e] at h; cases h
 | some o =>
  have:=l b o e
  rw [e] at h
  cases o<;>simp at h
  simp [World.cell?,this,h]
structure Kind (α:Type) where
 sz:Nat
 rd:Hp→α→List Value→Prop
 own:Hp→Hp→α→List Value→Prop
 rd_mono:∀ {I J x cs},Hp.le I J→rd I x cs→rd J x cs
 own_mono:∀ {I J h x cs},Hp.le I J→own I h x cs→own J h x cs
 own_rd:∀ {I J h x cs},Hp.le I J→Hp.le h J→own I h x cs→rd J x cs
 rd_len:∀ {I x cs},rd I x cs→cs.length=sz
 own_len:∀ {I h x cs},own I h x cs→cs.length=sz
 rd_one:∀ {I x cs},rd I x cs→∀ u∈cs,u.oneCell'=true
 own_one:∀ {I h x cs},own I h x cs→∀ u∈cs,u.oneCell'=true
def Kind.Closed {α:Type}(K:Kind α):Prop:=∀ I J h x cs,K.own I h x cs→K.own J h x cs
def Kind.Flat {α:Type}(K:Kind α):Prop:=∀ I x cs,K.rd I x cs→K.own I Hp.none x cs
section
variable {α:Type}(K:Kind α)
def gU (I:Hp):Hp→List α→List Value→Prop
 | h,[],cs=>h=Hp.none∧cs=[]
 | h,x::xs,cs=>∃ h1 h2 a b,Join h1 h2 h∧cs=a++b∧K.own I h1 x a∧gU I h2 xs b
theorem m5 {K:Kind α}{I J:Hp}(l:Hp.le I J){h:Hp}{xs:List α}{cs:List Value}(o:gU K I h xs cs):gU K J h xs cs:=by
 induction xs generalizing h cs with
 | nil=>exact o
 | cons x xs ih =>
  obtain ⟨h1,h2,i,q,j,e,a,b⟩:=o
  exact ⟨h1,h2,i,q,j,e,K.own_mono l a,ih b⟩
theorem pi {K:Kind α}(q:K.Closed){I J:Hp}{h:Hp}{xs:List α}{cs:List Value}(o:gU K I h xs cs):gU K J h xs cs:=by
 induction xs generalizing h cs with
 | nil=>exact o
 | cons x xs ih =>
  obtain ⟨h1,h2,i,l,j,e,a,b⟩:=o
  exact ⟨h1,h2,i,l,j,e,q _ _ _ _ _ a,ih b⟩
theorem n0 {K:Kind α}{I h:Hp}{xs:List α}{cs:List Value}(o:gU K I h xs cs):cs.length=xs.length*K.sz:=by
 induction xs generalizing h cs with
 | nil=>rw [o.2]; simp
 | cons x xs ih =>
  obtain ⟨h1,h2,i,l,j,e,a,b⟩:=o
  rw [e,List.length_append,K.own_len a,ih b,List.length_cons,Nat.succ_mul,Nat.add_comm]
theorem tu {K:Kind α}{I h:Hp}{xs:List α}{cs:List Value}(o:gU K I h xs cs):∀ u∈cs,u.oneCell'=true:=by
 induction xs generalizing h cs with
 | nil=>intro u i; rw [o.2] at i; cases i
 | cons x xs ih =>
  obtain ⟨h1,h2,l,q,j,e,a,b⟩:=o
  intro u i
  rw [e] at i
  rcases List.mem_append.1 i with i | i
  ·exact K.own_one a u i
  ·exact ih b u i
theorem n5 {K:Kind α}{I h h1 h2:Hp}{xs ys:List α}{i l:List Value}(j:Join h1 h2 h)(a:gU K I h1 xs i)(b:gU K I h2 ys l):gU K I h (xs++ys) (i++l):=by
 induction xs generalizing h h1 i with
 | nil =>
  obtain ⟨r,s⟩:=a
  subst r; subst s
  rw [j.eq_of_none]
  exact b
 | cons x xs ih =>
  obtain ⟨g1,D,d1,d2,u,e,p,q⟩:=a
  obtain ⟨k,k1,B⟩:=Join.assoc u j
  exact ⟨g1,k,d1,d2++l,B,by rw [e,List.append_assoc],p,ih k1 q⟩
theorem ql {K:Kind α}{I h:Hp}{xs ys:List α}{cs:List Value}(o:gU K I h (xs++ys) cs):∃ h1 h2 i l,Join h1 h2 h∧cs=i++l∧gU K I h1 xs i∧gU K I h2 ys l:=by
 induction xs generalizing h cs with
 | nil=>exact ⟨Hp.none,h,[],cs,Join.none h,rfl,⟨rfl,rfl⟩,o⟩
 | cons x xs ih =>
  obtain ⟨h1,h2,i,l,j,e,a,b⟩:=o
  obtain ⟨g1,s,d1,d2,u,r,p,q⟩:=ih b
  obtain ⟨k,k1,B⟩:=Join.assoc' u j
  exact ⟨k,s,i++d1,d2,B,by rw [e,r,List.append_assoc],⟨h1,g1,i,d1,k1,rfl,a,p⟩,q⟩
theorem lb {K:Kind α}{I h:Hp}{xs:List α}{cs:List Value}(o:gU K I h xs cs){i:Nat}{x:α}(F:xs[i]?=some x) :
  ∃ a c b h1 h2,cs=a++c++b∧a.length=i*K.sz∧Join h1 h2 h∧K.own I h1 x c ∧
   ∀ u D x' B g',Hp.le I u→Join D h2 g'→K.own u D x' B→gU K u g' (xs.set i x') (a++B++b):=by
 have E:i<xs.length:=(List.getElem?_eq_some_iff.1 F).1
 have r:xs=xs.take i++(x::xs.drop (i+1)):=by
  have:xs.drop i=x::xs.drop (i+1):=by
   rw [List.drop_eq_getElem_cons E]
   congr 1
   rw [List.getElem?_eq_getElem E] at F
   exact Option.some.inj F
  rw [← this,List.take_append_drop]
 rw [r] at o
 obtain ⟨h1,h2,J,c2,j,e,G,g1,M,d1,d2,O,L,p,q⟩:=ql o
 obtain ⟨k,k1,U⟩:=Join.assoc' O j
 obtain ⟨m,Y,Z⟩:=Join.assoc k1.symm U
 refine ⟨J,d1,d2,g1,m,by rw [e,L,List.append_assoc],?_,Z,p,?_⟩
 ·rw [n0 G,List.length_take,Nat.min_eq_left (Nat.le_of_lt E)]
 ·intro u D x' B g' l T ox
  have s:xs.set i x'=xs.take i++(x'::xs.drop (i+1)):=by
   rw [List.set_eq_take_append_cons_drop,if_pos E]
  rw [s,List.append_assoc]
  obtain ⟨n,n1,n2⟩:=Join.assoc' Y T
  obtain ⟨q1,q2,q3⟩:=Join.assoc n1.symm n2
  exact n5 q3 (m5 l G) ⟨D,M,B,d2,q2,rfl,ox,m5 l q⟩
theorem vy {K:Kind α}{I J h:Hp}{xs:List α}{cs:List Value}(o:gU K I h xs cs)(lI:Hp.le I J)(s:Hp.le h J){i:Nat}{x:α}(r:xs[i]?=some x) :
  ∃ c,K.rd J x c∧∀ k u,c[k]?=some u→cs[i*K.sz+k]?=some u:=by
 obtain ⟨a,c,b,h1,h2,e,q,j,p,_⟩:=lb o r
 refine ⟨c,K.own_rd lI (Hp.le_trans j.left s) p,fun k u l=>?_⟩
 have hk:=(List.getElem?_eq_some_iff.1 l).1
 rw [e,List.append_assoc,List.getElem?_append_right (by omega),q,Nat.add_sub_cancel_left,List.getElem?_append_left hk]
 exact l
def rB (I:Hp)(v:Value)(xs:List α):Prop :=
 ∃ A c,v=.slice A xs.length c∧xs.length≤c∧xs.length≤maxLen ∧
  (0<xs.length→∃ g a,A=some ⟨g,a,none⟩∧∀ j x,xs[j]?=some x→∃ cs,K.rd I x cs∧∀ i u,cs[i]?=some u→iP I g (a+j*K.sz+i)=some u)
def pj (e:Nat)(I h:Hp)(v:Value)(xs:List α):Prop :=
 (∃ A,v=.slice A 0 0∧xs=[]∧h=Hp.none) ∨
 ∃ g c pre b a fr h1,v=.slice (some ⟨g,pre.length,none⟩) xs.length c∧xs.length≤c∧c≤maxLen∧a.length=(c - xs.length)*K.sz ∧
  (fr=(0,0)∨pre.length+b.length+a.length≤fr.1)∧Join (Hp.one g (.cells (pre++b++a).toArray e fr)) h1 h∧gU K I h1 xs b
theorem n6 {K:Kind α}{I J:Hp}(l:Hp.le I J){v:Value}{xs:List α}(h:rB K I v xs):rB K J v xs:=by
 obtain ⟨A,c,e,h1,h2,s⟩:=h
 refine ⟨A,c,e,h1,h2,fun D=>?_⟩
 obtain ⟨g,q,r,B⟩:=s D
 refine ⟨g,q,r,fun j x F=>?_⟩
 obtain ⟨cs,a,b⟩:=B j x F
 exact ⟨cs,K.rd_mono l a,fun i u E=>kU l (b i u E)⟩
theorem pl {K:Kind α}{e:Nat}{I J h:Hp}(l:Hp.le I J){v:Value}{xs:List α}(o:pj K e I h v xs):pj K e J h v xs:=by
 rcases o with o | ⟨g,c,pre,q,i,fr,h1,a,b,d,s,f,j,o⟩
 ·exact .inl o
 ·exact   .inr ⟨g,c,pre,q,i,fr,h1,a,b,d,s,f,j,m5 l o⟩
theorem qm {K:Kind α}(q:K.Closed){e:Nat}{I J h:Hp}{v:Value}{xs:List α}(o:pj K e I h v xs):pj K e J h v xs:=by
 rcases o with o | ⟨g,c,pre,l,i,fr,h1,a,b,d,s,f,j,o⟩
 ·exact .inl o
 ·exact   .inr ⟨g,c,pre,l,i,fr,h1,a,b,d,s,f,j,pi q o⟩
theorem lc {K:Kind α}{e:Nat}{I J h:Hp}{v:Value}{xs:List α}(lI:Hp.le I J)(E:Hp.le h J)(o:pj K e I h v xs):rB K J v xs:=by
 rcases o with ⟨A,rfl,rfl,rfl⟩|⟨g,c,pre,r,l,fr,h1,a,b,d,s,f,j,o⟩
 ·exact ⟨A,0,rfl,Nat.le_refl _,Nat.zero_le _,fun h=>absurd h (Nat.lt_irrefl _)⟩
 ·refine ⟨_,c,a,b,Nat.le_trans b d,fun _=>⟨g,pre.length,rfl,fun k x L=>?_⟩⟩
  obtain ⟨cs,p,q⟩:=vy o lI (Hp.le_trans j.right E) L
  refine ⟨cs,p,fun i u G=>?_⟩
  have F:J g=some (.cells (pre++r++l).toArray e fr):=E _ _ (j.left g _ (by simp [Hp.one]))
  unfold iP
  rw [F]
  show (pre++r++l).toArray[pre.length+k*K.sz+i]?=some u
  have D:=q i u G
  have B:=(List.getElem?_eq_some_iff.1 D).1
  rw [List.getElem?_toArray,List.append_assoc,List.getElem?_append_right (by omega),show pre.length+k*K.sz+i - pre.length=k*K.sz+i by omega,List.getElem?_append_left B]
  exact D
end
def Kind.scal {α:Type}(enc:α→Value)(h1:∀ x,(enc x).oneCell'=true):Kind α where
 sz:=1
 rd _ x cs:=cs=[enc x]
 own _ h x cs:=h=Hp.none∧cs=[enc x]
 rd_mono _ h:=h
 own_mono _ h:=h
 own_rd _ _ h:=h.2
 rd_len h:=by rw [h]; rfl
 own_len h:=by rw [h.2]; rfl
 rd_one h u hu:=by rw [h] at hu; rw [List.mem_singleton.1 hu]; exact h1 _
 own_one h u hu:=by rw [h.2] at hu; rw [List.mem_singleton.1 hu]; exact h1 _
def aG (s:aN):Value:=.string ⟨s.toArray⟩
def Kind.int (k:IntKind):Kind Int:=Kind.scal (Value.int k) (fun _=>rfl)
def Kind.bool:Kind Bool:=Kind.scal Value.bool (fun _=>rfl)
def Kind.str:Kind aN:=Kind.scal aG (fun _=>rfl)
def Kind.sl {α:Type}(e:Nat)(K:Kind α):Kind (List α) where
 sz:=1
 rd I xs cs:=∃ v,cs=[v]∧rB K I v xs
 own I h xs cs:=∃ v,cs=[v]∧pj K e I h v xs
 rd_mono l h:=by obtain ⟨v,e,a⟩:=h; exact ⟨v,e,n6 l a⟩
 own_mono l h:=by obtain ⟨v,e,a⟩:=h; exact ⟨v,e,pl l a⟩
 own_rd l m h:=by obtain ⟨v,e,a⟩:=h; exact ⟨v,e,lc l m a⟩
 rd_len h:=by obtain ⟨v,e,a⟩:=h; rw [e]; rfl
 own_len h:=by obtain ⟨v,e,a⟩:=h; rw [e]; rfl
 rd_one h u hu:=by
  obtain ⟨v,e,A,c,rfl,_⟩:=h
  rw [e] at hu; rw [List.mem_singleton.1 hu]; rfl
 own_one h u hu:=by
  obtain ⟨v,e,a⟩:=h
  rw [e] at hu; rw [List.mem_singleton.1 hu]
  rcases a with ⟨A,rfl,_⟩|⟨g,c,pre,i,b,fr,h1,rfl,_⟩<;>rfl
def Kind.pair {α β:Type}(A:Kind α)(B:Kind β):Kind (α×β) where
 sz:=A.sz+B.sz
 rd I x cs:=∃ i q,cs=i++q∧A.rd I x.1 i∧B.rd I x.2 q
 own I h x cs:=∃ h1 h2 i q,Join h1 h2 h∧cs=i++q∧A.own I h1 x.1 i∧B.own I h2 x.2 q
 rd_mono l h:=by obtain ⟨i,q,e,a,b⟩:=h; exact ⟨i,q,e,A.rd_mono l a,B.rd_mono l b⟩
 own_mono l h:=by obtain ⟨h1,h2,i,q,j,e,a,b⟩:=h; exact ⟨h1,h2,i,q,j,e,A.own_mono l a,B.own_mono l b⟩
 own_rd l m h:=by
  obtain ⟨h1,h2,i,q,j,e,a,b⟩:=h
  exact ⟨i,q,e,A.own_rd l (Hp.le_trans j.left m) a,B.own_rd l (Hp.le_trans j.right m) b⟩
 rd_len h:=by obtain ⟨i,q,e,a,b⟩:=h; rw [e,List.length_append,A.rd_len a,B.rd_len b]
 own_len h:=by obtain ⟨h1,h2,i,q,j,e,a,b⟩:=h; rw [e,List.length_append,A.own_len a,B.own_len b]
 rd_one h u r:=by
  obtain ⟨i,q,e,a,b⟩:=h
  rw [e] at r
  rcases List.mem_append.1 r with r | r
  ·exact A.rd_one a u r
  ·exact B.rd_one b u r
 own_one h u r:=by
  obtain ⟨h1,h2,i,q,j,e,a,b⟩:=h
  rw [e] at r
  rcases List.mem_append.1 r with r | r
  ·exact A.own_one a u r
  ·exact B.own_one b u r
def Kind.iso {α β:Type}(K:Kind α)(f:β→α):Kind β where
 sz:=K.sz
 rd I x cs:=K.rd I (f x) cs
 own I h x cs:=K.own I h (f x) cs
 rd_mono:=K.rd_mono
 own_mono:=K.own_mono
 own_rd:=K.own_rd
 rd_len:=K.rd_len
 own_len:=K.own_len
 rd_one:=K.rd_one
 own_one:=K.own_one
def Kind.share {α:Type}(K:Kind α):Kind α where
 sz:=K.sz
 rd:=K.rd
 own I h x cs:=h=Hp.none∧K.rd I x cs
 rd_mono:=K.rd_mono
 own_mono l h:=⟨h.1,K.rd_mono l h.2⟩
 own_rd l _ h:=K.rd_mono l h.2
 rd_len:=K.rd_len
 own_len h:=K.rd_len h.2
 rd_one:=K.rd_one
 own_one h:=K.rd_one h.2
theorem Kind.scal_closed {α:Type}(enc:α→Value)(h1:∀ x,(enc x).oneCell'=true):(Kind.scal enc h1).Closed:=fun _ _ _ _ _ h=>h
theorem Kind.pair_closed {α β:Type}{A:Kind α}{B:Kind β}(a:A.Closed)(b:B.Closed):(Kind.pair A B).Closed :=
 fun _ _ _ _ _ ⟨h1,h2,h,i,j,e,p,q⟩=>⟨h1,h2,h,i,j,e,a _ _ _ _ _ p,b _ _ _ _ _ q⟩
theorem Kind.iso_closed {α β:Type}{K:Kind α}(h:K.Closed)(f:β→α):(Kind.iso K f).Closed:=fun _ _ _ _ _ o=>h _ _ _ _ _ o
theorem Kind.scal_flat {α:Type}(enc:α→Value)(h1:∀ x,(enc x).oneCell'=true):(Kind.scal enc h1).Flat:=fun _ _ _ h=>⟨rfl,h⟩
def bx (b:Nat)(cs:Array Value)(T:Nat):HP:=⟨fun _ h=>h=Hp.one b (.cells cs T (0,0)),fun _ e=>e⟩
def ow {α:Type}(K:Kind α)(e:Nat)(v:Value)(xs:List α):HP:=⟨fun I h=>pj K e I h v xs,fun l o=>pl l o⟩
def aO {α:Type}(K:Kind α)(v:Value)(xs:List α):HP:=⟨fun I h=>h=Hp.none∧rB K I v xs,fun l o=>⟨o.1,n6 l o.2⟩⟩
end Go.Pg
namespace Go.Pg
structure Cx where
 P:Program
 n:Nn
 C:World
def TC (X:Cx)(V:List HP)(σ:dQ)(c:Code)(Q:Exit→dQ→World→Prop):Prop:=∀ w,St X.C w V→W X.P X.n c Q σ w
def TL (X:Cx)(ops:Array Oper)(V:List HP)(σ:dQ)(rest:List Oper)(Q:Exit→dQ→World→Prop):Prop:=∀ w,St X.C w V→WL X.P X.n ops rest Q σ w
def TQ (X:Cx)(V:List HP)(σ:dQ)(e:Exit)(Q:Exit→dQ→World→Prop):Prop:=∀ w,St X.C w V→Q e σ w
def Nx (X:Cx)(c:Code)(Q:Exit→dQ→World→Prop):dQ→World→Prop:=fun σ w=>W X.P X.n c Q σ w
section
variable {X:Cx}{V:List HP}{σ:dQ}{Q:Exit→dQ→World→Prop}{x y:Code}{ops:Array Oper}{rest:List Oper}{o:Oper}
theorem aH (h:TC X V σ x (iU (Nx X y Q) Q)):TC X V σ (.seq x y) Q:=fun w s=>zY (h w s)
theorem bQ (h:TQ X V σ .normal Q):TC X V σ .skip Q:=fun w s=>xP (h w s)
theorem bY (h:TQ X V σ .ret Q):TC X V σ .ret Q:=fun w s=>zZ (h w s)
theorem eA {a:Nat}(h:TQ X V σ (.exit a) Q):TC X V σ (.exit a) Q:=fun w s=>xQ (h w s)
theorem bV {a:Nat}(h:TC X V σ x (jR a Q)):TC X V σ (.block a x) Q:=fun w s=>vw (h w s)
theorem aC {a:Nat}{l:List Oper}(h:TL X l.toArray V σ l Q):TC X V σ (.region a l.toArray false) Q:=fun w s=>ts (h w s)
theorem bJ {k:Operand}{b:Bool}(hk:ev σ k=.bool b)(a:b=true)(h:TC X V σ x Q):TC X V σ (.cond k x y) Q:=fun w s=>tq hk (by rw [a]; exact h w s)
theorem aY {k:Operand}{b:Bool}(hk:ev σ k=.bool b)(a:b=false)(h:TC X V σ y Q):TC X V σ (.cond k x y) Q:=fun w s=>tq hk (by rw [a]; exact h w s)
theorem aB (h:TQ X V σ .normal Q):TL X ops V σ [] Q:=fun w s=>xR (h w s)
theorem aE (h:TC X V σ y Q):TQ X V σ .normal (iU (Nx X y Q) Q):=fun w s=>h w s
theorem cE {a:Nat}{K:dQ→World→Prop}(h:TQ X V σ (.exit a) Q):TQ X V σ (.exit a) (iU K Q):=fun w s=>h w s
theorem bZ {K:dQ→World→Prop}(h:TQ X V σ .ret Q):TQ X V σ .ret (iU K Q):=fun w s=>h w s
theorem dH {a:Nat}(h:TQ X V σ .normal Q):TQ X V σ (.exit a) (jR a Q):=fun w s=>by
 show cond (Nat.beq a a) _ _
 rw [show Nat.beq a a=true from Nat.beq_refl a]
 exact h w s
theorem cD {a:Nat}(h:TQ X V σ .normal Q):TQ X V σ .normal (jR a Q):=fun w s=>h w s
theorem cG {a:Nat}(h:TQ X V σ .ret Q):TQ X V σ .ret (jR a Q):=fun w s=>h w s
theorem tv {e a:Nat}(b:Nat.beq a e=false)(h:TQ X V σ (.exit a) Q):TQ X V σ (.exit a) (jR e Q):=fun w s=>by
 show cond (Nat.beq a e) _ _
 rw [b]
 exact h w s
theorem mH {ops:Array Oper}{σ:dQ}{o:Oper}{j:Nat}{b c:Bool}(h:o.guard=some (j,b))(a:m0 ops σ j=some c)(e:c=b):eF ops σ o=true:=by
 unfold eF; rw [h]; simp only [a,e]; cases b<;>rfl
theorem ld {ops:Array Oper}{σ:dQ}{o:Oper}{j:Nat}{b c:Bool}(h:o.guard=some (j,b))(a:m0 ops σ j=some c)(e:c=!b):eF ops σ o=false:=by
 unfold eF; rw [h]; simp only [a,e]; cases b<;>rfl
theorem x8 (a:j3 X.n o.dst=true)(hw:eF ops σ o=false)(h:TL X ops V (gJ σ o.dst undef) rest Q):TL X ops V σ (o::rest) Q:=fun w s=>xT a hw (h w s)
def oj (k:IntKind):BinOp→Int→Int→Option Value
 | .add,a,b=>some (.int k (k.wrap (a+b)))
 | .sub,a,b=>some (.int k (k.wrap (a - b)))
 | .mul,a,b=>some (.int k (k.wrap (a*b)))
 | .and,a,b=>some (.int k (bits .and k a b))
 | .or,a,b=>some (.int k (bits .or k a b))
 | .xor,a,b=>some (.int k (bits .xor k a b))
 | .andNot,a,b=>some (.int k (bits .andNot k a b))
 | .eql,a,b=>some (.bool (a==b))
 | .neq,a,b=>some (.bool (a != b))
 | .lss,a,b=>some (.bool (decide (a<b)))
 | .leq,a,b=>some (.bool (decide (a≤b)))
 | .gtr,a,b=>some (.bool (decide (a>b)))
 | .geq,a,b=>some (.bool (decide (a≥b)))
 | _,_,_=>none
def pv (σ:dQ):Op→Option Value
 | .move x | .assign x=>some (ev σ x)
 | .pick c a b=>match ev σ c with
  | .bool t=>some (cond t (ev σ a) (ev σ b))
  | _=>none
 | .unOp .not _ x=>match ev σ x with
  | .bool b=>some (.bool !b)
  | _=>none
 | .unOp .neg _ x=>match ev σ x with
  | .int k a=>some (.int k (k.wrap (0 - a)))
  | _=>none
 | .unOp .xor _ x=>match ev σ x with
  | .int k a=>some (.int k (bits .xor k (if k.signed then -1 else k.max) a))
  | _=>none
 | .binOp op _ x y _=>match ev σ x,ev σ y with
  | .int .i64 a,.int .i64 b=>oj .i64 op a b
  | .int .u8 a,.int .u8 b=>oj .u8 op a b
  | .int .i32 a,.int .i32 b=>oj .i32 op a b
  | .int .u64 a,.int .u64 b=>oj .u64 op a b
  | .int .u32 a,.int .u32 b=>oj .u32 op a b
  | _,_=>none
 | .extract x i=>match ev σ x with
  | .tuple vs=>vs[i]?
  | _=>none
 | .makeFunc fn first captured=>some (.func fn (first.toList.map (ev σ)).toArray (captured.toList.map (ev σ)).toArray)
 | .nilCheck x=>match ev σ x with
  | .pointer (some a)=>some (.pointer (some a))
  | .func (.func f) a c=>some (.func (.func f) a c)
  | _=>none
 | _=>none
theorem tw {P:Program}{w:World}{k:IntKind}{op:BinOp}{a b:Int}{v:Value}(t:TypeId)(x y:Operand)(h:oj k op a b=some v) :
  (do eqGuard op t x y (.int k a) (.int k b); binOp op t (.int k a) (.int k b):Sem Value).run P w=.ok v w:=by
 cases op<;>simp only [oj,Option.some.injEq,reduceCtorEq] at h<;>subst h <;>
  simp [eqGuard_at_int,binOp,Op.intArith,intBits_and,intBits_or,intBits_xor,intBits_andNot,Op.intCmp]
theorem xU {P:Program}{w:World}{v:Value}(h:pv σ o.op=some v):(execOp (ev σ) o).run P w=.ok (.value v) w:=by
 unfold execOp
 revert h
 generalize o.op=op
 intro h
 cases op<;>simp only [pv,reduceCtorEq] at h
 case move x=>simp only [Option.some.injEq] at h; subst h; rfl
 case assign x=>simp only [Option.some.injEq] at h; subst h; rfl
 case pick c a b =>
  cases hc:ev σ c<;>simp only [hc,reduceCtorEq,Option.some.injEq] at h
  subst h
  simp only [hc,asBool,Sem.run_bind,Sem.run_pure,Result.andThen_ok]
  rename_i t
  cases t<;>rfl
 case unOp u t x =>
  cases u<;>simp only [reduceCtorEq] at h<;>cases l:ev σ x<;>simp only [l,reduceCtorEq,Option.some.injEq] at h<;>subst h <;>
   simp [l,Op.unary,Op.intArith,intBits_xor]
 case binOp op t x y ty =>
  have j:∀ (k:IntKind) (a b:Int),ev σ x=.int k a→ev σ y=.int k b→oj k op a b=some v →
    (do let r ← (do eqGuard op t x y (ev σ x) (ev σ y); binOp op t (ev σ x) (ev σ y):Sem Value); pure (Next.value r):Sem Next).run P w=.ok (.value v) w:=by
   intro k a b l s q
   rw [l,s]
   simp only [Sem.run_bind] at *
   have:=tw (P:=P) (w:=w) t x y q
   simp only [Sem.run_bind] at this
   rw [this]
   rfl
  split at h
  ·exact j _ _ _ ‹_› ‹_› h
  ·exact j _ _ _ ‹_› ‹_› h
  ·exact j _ _ _ ‹_› ‹_› h
  ·exact j _ _ _ ‹_› ‹_› h
  ·exact j _ _ _ ‹_› ‹_› h
  ·cases h
 case extract x i =>
  cases l:ev σ x<;>simp only [l,reduceCtorEq] at h
  simp [l,Instr.extract,h]
 case makeFunc fn first captured =>
  simp only [Option.some.injEq] at h; subst h
  simp [Instr.makeFunc]
  exact ⟨by apply Array.ext'; simp,by apply Array.ext'; simp⟩
 case nilCheck x =>
  split at h
  ·rename_i a e
   simp only [Option.some.injEq] at h
   subst h
   simp [e]
  ·rename_i f a c e
   simp only [Option.some.injEq] at h
   subst h
   simp [e]
  ·cases h
def VO (X:Cx)(V:List HP)(σ:dQ)(o:Oper)(v:Value):Prop:=∀ w,St X.C w V→(execOp (ev σ) o).run X.P w=.ok (.value v) w
theorem Cl {v:Value}(a:j3 X.n o.dst=true)(hw:eF ops σ o=true)(b:VO X V σ o v)(h:TL X ops V (gJ σ o.dst v) rest Q):TL X ops V σ (o::rest) Q :=
 fun w s=>fE a hw (by rw [b w s]; exact h w s)
theorem iV {v:Value}(a:pv σ o.op=some v):VO X V σ o v:=fun _ _=>xU a
end
end Go.Pg
namespace Go.Pg
def sy {α:Type}:List α→Nat→Option α
 | [],_=>none
 | x::_,0=>some x
 | _::l,k+1=>sy l k
theorem kV {α:Type}(l:List α)(k:Nat):sy l k=l[k]?:=by
 induction l generalizing k with
 | nil=>rfl
 | cons x l ih =>
  cases k with
  | zero=>rfl
  | succ k=>simpa [sy] using ih k
theorem jT {α:Type}[Inhabited α]{xs:List α}{i:Int}(a:0≤i)(h1:i<xs.length):xs[i.toNat]?=some (ix xs i):=by
 unfold ix
 have:i.toNat<xs.length:=by omega
 rw [List.getD_eq_getElem?_getD,List.getElem?_eq_getElem this]
 rfl
def aK (b:Nat)(cs:List Value)(T:Nat):HP:=bx b cs.toArray T
def fO (P:Program)(T:TypeId):Option Bool:=(P.underlying T).map fun d=>match d with | .struct _ | .array _ _=>true | _=>false
def iK (P:Program)(T:TypeId):Option Nat:=(P.info? T).map (·.size)
def hR (P:Program)(T:TypeId):Option Nat:=(P.info? T).map (·.bytes)
def kW (P:Program)(T:TypeId):Option (List Value):=((P.info? T).bind (·.zero)).map (·.cells.toList)
def mz (P:Program)(T:TypeId):Option TypeId:=match P.underlying T with
 | some (.slice e)=>some e
 | _=>none
def dK (P:Program)(S:TypeId)(f:Nat):Option Nat:=match P.underlying S with
 | some (.struct fs)=>match fs[f]? with
  | some fl=>match P.info? fl.type with
   | some i=>if i.size=0 then none else some fl.offset
   | none=>none
  | none=>none
 | _=>none
section
variable {P:Program}{w:World}
theorem nY {T:TypeId}{b:Bool}(h:fO P T=some b):(isAgg T).run P w=.ok b w:=by
 unfold fO at h
 cases hd:P.underlying T with
 | none=>rw [hd] at h; cases h
 | some d =>
  rw [hd] at h
  simp only [Option.map_some,Option.some.injEq] at h
  subst h
  unfold isAgg
  rw [Sem.run_bind,run_underlying hd w]
  cases d<;>rfl
theorem fA {T:TypeId}{n:Nat}(h:iK P T=some n):(sizeOf T).run P w=.ok n w:=by
 unfold iK at h
 cases hd:P.info? T with
 | none=>rw [hd] at h; cases h
 | some d =>
  rw [hd] at h
  simp only [Option.map_some,Option.some.injEq] at h
  subst h
  simp [sizeOf,typeInfo,hd]
theorem lg {T:TypeId}{cs:List Value}(h:kW P T=some cs):∃ z,(zeroValue T).run P w=.ok z w∧z.cells=cs.toArray:=by
 unfold kW at h
 cases hd:P.info? T with
 | none=>rw [hd] at h; cases h
 | some d =>
  rw [hd] at h
  cases hz:d.zero with
  | none=>simp [hz] at h
  | some z =>
   refine ⟨z,by simp [zeroValue,typeInfo,hd,hz],?_⟩
   simp [hz] at h
   rw [← h]
theorem js {T e:TypeId}(h:mz P T=some e):P.underlying T=some (.slice e):=by
 unfold mz at h
 split at h
 ·rename_i b a
  simp only [Option.some.injEq] at h
  rw [a,h]
 ·cases h
theorem fD {T:TypeId}{a:Addr}{v:Value}(h:fO P T=some false)(b:w.cell? a=some v):(loadVar T a).run P w=.ok v w:=by
 unfold loadVar
 rw [Sem.run_bind,nY h]
 simp [b]
theorem fR {T:TypeId}{a:Addr}{cs:List Value}(h:fO P T=some true)(e:iK P T=some cs.length)(b:∀ j u,cs[j]?=some u→w.cell? (a.add j)=some u) :
  (loadVar T a).run P w=.ok (.agg cs.toArray) w:=by
 unfold loadVar
 rw [Sem.run_bind,nY h]
 simp [Sem.run_bind,fA e,run_loadCells_list (P:=P) w a cs b]
theorem gH (g k j:Nat):(⟨g,k,none⟩:Addr).add j=⟨g,k+j,none⟩:=by
 unfold Addr.add
 split
 ·rename_i h; subst h; rfl
 ·rfl
end
section
variable {X:Cx}{V:List HP}{σ:dQ}{Q:Exit→dQ→World→Prop}{ops:Array Oper}{rest:List Oper}
variable {d:Option Nat}{ty:TypeId}{pos:String}{af:Array Edge}{gd:Option (Nat×Bool)}
theorem bG {T:TypeId}{cs:List Value}(r:j3 X.n d=true)(hw:eF ops σ ⟨d,.alloc T,ty,pos,af,gd⟩=true)(B:kW X.P T=some cs)
  (h:∀ b,TL X ops (aK b cs T::V) (gJ σ d (.pointer (some ⟨b,0,none⟩))) rest Q):TL X ops V σ (⟨d,.alloc T,ty,pos,af,gd⟩::rest) Q:=by
 intro w s
 refine fE r hw ?_
 obtain ⟨z,l,q⟩:=lg (P:=X.P) (w:=w) B
 have u:(execOp (ev σ) ⟨d,.alloc T,ty,pos,af,gd⟩).run X.P w=.ok (.value (.pointer (some ⟨w.heap.size,0,none⟩))) (w.alloc (.cells cs.toArray T)):=by
  simp [execOp,Instr.alloc,l,newVar,newRow,q]
 rw [u]
 refine h _ _ (St.new s (fun a=>a.alloc _) (fun I _=>⟨_,rfl,?_,?_⟩) ?_)
 ·intro b o e
  simp only [Hp.one] at e
  split at e
  ·rename_i i
   subst i
   rw [← Option.some.inj e]
   show (w.heap.push _)[w.heap.size]?=_
   simp
  ·cases e
 ·intro b i
  simp only [Hp.one] at i
  split at i
  ·rename_i e; exact Nat.le_of_eq e.symm
  ·exact absurd rfl i
 ·intro b o e
  have j:=(Array.getElem?_eq_some_iff.1 e).1
  show (w.heap.push _)[b]?=_
  rw [Array.getElem?_push,if_neg (Nat.ne_of_lt j)]
  exact e
theorem fS {T:TypeId}{x:Operand}{cs:List Value}(l:j3 X.n d=true)(hw:eF ops σ ⟨d,.box T x,ty,pos,af,gd⟩=true)(r:(ev σ x).cells.toList=cs)
  (h:∀ b,TL X ops (aK b cs T::V) (gJ σ d (.pointer (some ⟨b,0,none⟩))) rest Q):TL X ops V σ (⟨d,.box T x,ty,pos,af,gd⟩::rest) Q:=by
 intro w s
 refine fE l hw ?_
 have q:(execOp (ev σ) ⟨d,.box T x,ty,pos,af,gd⟩).run X.P w=.ok (.value (.pointer (some ⟨w.heap.size,0,none⟩))) (w.alloc (.cells cs.toArray T)):=by
  subst r
  simp [execOp,Instr.box,newVar,newRow]
 rw [q]
 refine h _ _ (St.new s (fun a=>a.alloc _) (fun I _=>⟨_,rfl,?_,?_⟩) ?_)
 ·intro b o e
  simp only [Hp.one] at e
  split at e
  ·rename_i i
   subst i
   rw [← Option.some.inj e]
   show (w.heap.push _)[w.heap.size]?=_
   simp
  ·cases e
 ·intro b i
  simp only [Hp.one] at i
  split at i
  ·rename_i e; exact Nat.le_of_eq e.symm
  ·exact absurd rfl i
 ·intro b o e
  have j:=(Array.getElem?_eq_some_iff.1 e).1
  show (w.heap.push _)[b]?=_
  rw [Array.getElem?_push,if_neg (Nat.ne_of_lt j)]
  exact e
theorem li {C w:World}{V:List HP}(s:St C w V)(i:Nat){b:Nat}{cs:List Value}{T:Nat}(a:lk V i=aK b cs T):w.heap[b]?=some (.cells cs.toArray T (0,0)):=by
 obtain ⟨I,h,p,_,l,_⟩:=s.look i
 rw [a] at p
 exact l b _ (by rw [show h=_ from p]; simp [Hp.one])
theorem lj {w:World}{b:Nat}{cs:List Value}{T:Nat}(h:w.heap[b]?=some (.cells cs.toArray T (0,0)))(k:Nat):w.cell? ⟨b,k,none⟩=cs[k]?:=by
 simp [World.cell?,h]
theorem tx {T:TypeId}{x:Operand}{b k:Nat}{cs:List Value}{a:Nat}{v:Value}(i:Nat)(h:fO X.P T=some false)
  (e:lk V i=aK b cs a) (q:ev σ x=.pointer (some ⟨b,k,none⟩)) (l:sy cs k=some v):VO X V σ ⟨d,.load T x,ty,pos,af,gd⟩ v:=by
 intro w s
 have j:=li s i e
 simp only [execOp,Instr.loadAt,q,Instr.sureAddr,Sem.run_bind,Sem.run_pure,Result.andThen_ok,fD h (show w.cell? ⟨b,k,none⟩=some v by rw [lj j,← kV]; exact l)]
theorem vC {T:TypeId}{x:Operand}{b k n:Nat}{cs:List Value}{h:Nat}(i:Nat)(q:fO X.P T=some true)(D:iK X.P T=some n)
  (l:lk V i=aK b cs h) (E:ev σ x=.pointer (some ⟨b,k,none⟩)) (B:((cs.drop k).take n).length=n):VO X V σ ⟨d,.load T x,ty,pos,af,gd⟩ (.agg ((cs.drop k).take n).toArray):=by
 intro w s
 have r:=li s i l
 ·have:=fR (P:=X.P) (w:=w) (a:=⟨b,k,none⟩) (cs:=(cs.drop k).take n) q (by rw [B]; exact D) (by
   intro j u e
   rw [gH,lj r]
   rw [List.getElem?_take] at e
   split at e
   ·rw [List.getElem?_drop] at e; exact e
   ·cases e)
  simp only [execOp,Instr.loadAt,E,Instr.sureAddr,Sem.run_bind,Sem.run_pure,Result.andThen_ok,this]
theorem vD {S:TypeId}{x:Operand}{f fo:Nat}{a:Addr}(b:dK X.P S f=some fo)
  (s:ev σ x=.pointer (some a)):VO X V σ ⟨d,.fieldAddr S x f,ty,pos,af,gd⟩ (.pointer (some (a.add fo))):=by
 intro w _
 unfold dK at b
 split at b
 ·rename_i fs r
  split at b
  ·rename_i l e
   split at b
   ·rename_i i q
    split at b
    ·cases b
    ·rename_i h
     simp only [Option.some.injEq] at b
     subst b
     have j:(sizeOf l.type).run X.P w=.ok i.size w:=fA (by simp [iK,q])
     simp [execOp,Instr.fieldAt,run_underlying r w,e,s,Instr.sureAddr,fieldPlace,Sem.run_bind,j,h]
   ·cases b
  ·cases b
 ·cases b
theorem pm {w:World}{P:Program}{b k:Nat}{cs:List Value}{T:Nat}{v:Value}(a:w.heap[b]?=some (.cells cs.toArray T (0,0)))(hk:k<cs.length)(e:v.oneCell'=true) :
  (store ⟨b,k,none⟩ v).run P w=.ok () (w.setCell ⟨b,k,none⟩ v):=by
 rw [run_store P w _ v _ e]
 have:w.cell? ⟨b,k,none⟩=some cs[k]:=by rw [lj a,List.getElem?_eq_getElem hk]
 simp [this,World.frozen?,a]
theorem iD {w:World}{b k:Nat}{c:Array Value}{T:Nat}{fr:Nat×Nat}{v:Value}(a:w.heap[b]?=some (.cells c T fr)):(w.setCell ⟨b,k,none⟩ v).heap[b]?=some (.cells (c.setIfInBounds k v) T fr):=by
 simp only [World.setCell,Array.getElem?_modify,a]
 simp
theorem fZ {w:World}{b k j:Nat}{v:Value}(h:j≠b):(w.setCell ⟨b,k,none⟩ v).heap[j]?=w.heap[j]?:=by
 simp only [World.setCell,Array.getElem?_modify]
 rw [if_neg (fun e=>h e.symm)]
theorem jD {P:Program}{w:World}{T:TypeId}{a:Addr}{v:Value}{b:World}(j:iK P T=some 1)(l:v.oneCell'=true)(i:(store a v).run P w=.ok () b):(storeVar T a v).run P w=.ok () b:=by
 have h:v.cells=#[v]:=by cases v<;>first | rfl | (simp [Value.oneCell'] at l)
 unfold storeVar
 rw [Sem.run_bind,fA j]
 have e:a.add 0=a:=by simp [Addr.add]
 simp [h,storeCells,Sem.run_bind,e,i]
theorem dI {T:TypeId}{x y:Operand}{b k:Nat}{cs:List Value}{q:Nat}{v:Value}(i:Nat)(F:j3 X.n d=true)(hw:eF ops σ ⟨d,.store T x y,ty,pos,af,gd⟩=true)(J:iK X.P T=some 1)
  (B:lk V i=aK b cs q) (L:ev σ x=.pointer (some ⟨b,k,none⟩)) (M:ev σ y=v) (E:v.oneCell'=true) (hk:Nat.blt k cs.length=true)
  (h:TL X ops (x7 V i (aK b (cs.set k v) q)) (gJ σ d undef) rest Q):TL X ops V σ (⟨d,.store T x y,ty,pos,af,gd⟩::rest) Q:=by
 intro w s
 refine fE F hw ?_
 have D:=li s i B
 have r:k<cs.length:=Nat.lt_of_lt_of_le (Nat.lt_succ_self _) (Nat.le_of_ble_eq_true hk)
 have G:(execOp (ev σ) ⟨d,.store T x y,ty,pos,af,gd⟩).run X.P w=.ok .skip (w.setCell ⟨b,k,none⟩ v):=by
  simp only [execOp,Instr.storeAt,L,M,Instr.sureAddr,Sem.run_bind,Sem.run_pure,Result.andThen_ok,jD J E (pm D r E)]
 rw [G]
 refine h _ (St.turn s i (fun a=>a.setCell _ _) ?_)
 intro I g p _ _
 rw [B] at p
 have p:g=Hp.one b (.cells cs.toArray q (0,0)):=p
 subst p
 refine ⟨_,rfl,?_,?_,?_⟩
 ·intro j o e
  simp only [Hp.one] at e
  split at e
  ·rename_i l
   subst l
   rw [← Option.some.inj e,iD D]
   simp
  ·cases e
 ·intro j l
  refine .inl ?_
  simp only [Hp.one] at *
  split at l
  ·rename_i e; rw [if_pos e]; exact fun h=>by cases h
  ·exact absurd rfl l
 ·intro j o l e
  simp only [Hp.one] at l
  split at l
  ·cases l
  ·rename_i u; rw [fZ u]; exact e
theorem nN {P:Program}{b:Nat}{T:Nat}:∀ (vs:List Value) (k j:Nat) (cs:List Value) (w:World),w.heap[b]?=some (.cells cs.toArray T (0,0))→k+j+vs.length≤cs.length→(∀ v∈vs,v.oneCell'=true) →
  ∃ a,(storeCells ⟨b,k,none⟩ vs j).run P w=.ok () a∧a.heap[b]?=some (.cells (cs.take (k+j)++vs++cs.drop (k+j+vs.length)).toArray T (0,0))∧(∀ i,i≠b→a.heap[i]?=w.heap[i]?)∧∀ C,Same C w→Same C a:=by
 intro vs
 induction vs with
 | nil =>
  intro k j cs w q _ _
  exact ⟨w,by simp [storeCells],by simpa using q,fun _ _=>rfl,fun _ h=>h⟩
 | cons v vs ih =>
  intro k j cs w q F D
  have l:k+j<cs.length:=by simp at F; omega
  have h1:=pm (P:=P) q l (D v (by simp))
  have s:(w.setCell ⟨b,k+j,none⟩ v).heap[b]?=some (.cells (cs.set (k+j) v).toArray T (0,0)):=by rw [iD q]; simp
  obtain ⟨a,r,e,o,I⟩:=ih k (j+1) (cs.set (k+j) v) _ s (by simp at *; omega) (fun u G=>D u (by simp [G]))
  refine ⟨a,?_,?_,fun i B=>?_,fun C E=>I C (E.setCell _ _)⟩
  ·simp only [storeCells,Sem.run_bind,gH,h1,Result.andThen_ok,r]
  ·rw [e]
   congr 2
   rw [show k+(j+1)=(k+j)+1 by omega,List.take_succ_eq_append_getElem (by simp; exact l),List.take_set_of_le (Nat.le_refl _),List.drop_set_of_lt (by omega)]
   simp [Nat.add_assoc,Nat.add_comm,Nat.add_left_comm]
  ·rw [o i B,fZ B]
theorem aL {T:TypeId}{x y:Operand}{b k n:Nat}{cs vs:List Value}{u:Nat}(i:Nat)(J:j3 X.n d=true)(hw:eF ops σ ⟨d,.store T x y,ty,pos,af,gd⟩=true)(M:iK X.P T=some n)
  (E:lk V i=aK b cs u) (U:ev σ x=.pointer (some ⟨b,k,none⟩)) (Y:ev σ y=.agg vs.toArray) (F:vs.length=n) (O:vs.all (·.oneCell')=true) (hk:Nat.ble (k+n) cs.length=true)
  (h:TL X ops (x7 V i (aK b (cs.take k++vs++cs.drop (k+n)) u)) (gJ σ d undef) rest Q):TL X ops V σ (⟨d,.store T x y,ty,pos,af,gd⟩::rest) Q:=by
 intro w s
 refine fE J hw ?_
 have G:=li s i E
 obtain ⟨w',r,e,o,Z⟩:=nN (P:=X.P) vs k 0 cs w G (by have:=Nat.le_of_ble_eq_true hk; omega) (fun v D=>List.all_eq_true.1 O v D)
 have L:(execOp (ev σ) ⟨d,.store T x y,ty,pos,af,gd⟩).run X.P w=.ok .skip w':=by
  simp [execOp,Instr.storeAt,U,Y,Instr.sureAddr,storeVar,fA M,Value.cells,F,r,Sem.run_bind]
 rw [L]
 refine h _ (St.turn s i (fun a=>Z _ a) ?_)
 intro I g p _ _
 rw [E] at p
 have p:g=Hp.one b (.cells cs.toArray u (0,0)):=p
 subst p
 refine ⟨_,rfl,?_,?_,?_⟩
 ·intro j o' q
  simp only [Hp.one] at q
  split at q
  ·rename_i l
   subst l
   rw [← Option.some.inj q,e]
   simp [F]
  ·cases q
 ·intro j l
  refine .inl ?_
  simp only [Hp.one] at *
  split at l
  ·rename_i e; rw [if_pos e]; exact fun h=>by cases h
  ·exact absurd rfl l
 ·intro j o' l q
  simp only [Hp.one] at l
  split at l
  ·cases l
  ·rename_i B; rw [o j B]; exact q
end
end Go.Pg
namespace Go.Pg
theorem St.act {β:Type}{C w:World}{V:List HP}(s:St C w V)(i:Nat){q:β→HP}{Ψ:β→World→Prop}
  (f:∀ I h,(lk V i).p I h→Le I w→Le h w→(∀ k,I k=Option.none∨h k=Option.none)→∃ b u B,Ψ b u∧(Same C w→Same C u)∧(q b).p I B∧Le B u∧(∀ k,B k≠Option.none→h k≠Option.none∨w.heap.size≤k)∧∀ (k:Nat) (o:Obj),h k=Option.none→w.heap[k]?=some o→u.heap[k]?=some o) :
  ∃ b u,Ψ b u∧St C u (x7 V i (q b)):=by
 obtain ⟨a,I,h,g,j,l,s⟩:=s
 obtain ⟨h1,h2,r,c,s'⟩:=fJ i s
 obtain ⟨b,u,B,hΨ,Z,Y,T,U,hk⟩:=f I h1 c (l.mono j.left) (l.mono (Hp.le_trans r.left j.right)) (fun k=>by
  rcases j.disj k with e | e
  ·exact .inl e
  ·exact .inr ((r.is_none k).1 e).1)
 refine ⟨b,u,hΨ,?_⟩
 have G:∀ b,B b≠Option.none→I b=Option.none∧h2 b=Option.none:=by
  intro b O
  rcases U b O with e | e
  ·refine ⟨?_,?_⟩
   ·rcases j.disj b with f | f
    ·exact f
    ·exact absurd ((r.is_none b).1 f).1 e
   ·rcases r.disj b with f | f
    ·exact absurd f e
    ·exact f
  ·have:g b=Option.none:=by
    cases hg:g b with
    | none=>rfl
    | some o =>
     have:=(l.lt (b:=b) (by rw [hg]; exact fun h=>by cases h))
     omega
   have:=(j.is_none b).1 this
   exact ⟨this.1,((r.is_none b).1 this.2).2⟩
 obtain ⟨m,J⟩:=Join.of_disj (h1:=B) (h2:=h2) (fun b=>by
  by_cases e:B b=Option.none
  ·exact .inl e
  ·exact .inr (G b e).2)
 obtain ⟨g',F⟩:=Join.of_disj (h1:=I) (h2:=m) (fun b=>by
  by_cases e:B b=Option.none
  ·rcases j.disj b with f | f
   ·exact .inl f
   ·exact .inr ((J.is_none b).2 ⟨e,((r.is_none b).1 f).2⟩)
  ·exact .inl (G b e).1)
 refine ⟨Z a,I,m,g',F,?_,ph i J Y s'⟩
 intro b o e
 rcases F.cases e with ⟨D,L⟩|⟨D,L⟩
 ·refine hk b o ?_ (l b o (j.left b o D))
  rcases j.disj b with f | f
  ·rw [f] at D; cases D
  ·exact ((r.is_none b).1 f).1
 ·rcases J.cases D with ⟨E,M⟩|⟨E,M⟩
  ·exact T b o E
  ·refine hk b o ?_ (l b o (j.right b o (r.right b o E)))
   rcases r.disj b with f | f
   ·exact f
   ·rw [f] at E; cases E
theorem St.see {C w:World}{V:List HP}(s:St C w V)(i:Nat):∃ I h J,(lk V i).p I h∧Hp.le I J∧Hp.le h J∧Le J w:=by
 obtain ⟨I,h,p,l,q,a⟩:=s.look i
 obtain ⟨J,j⟩:=Join.of_disj a
 refine ⟨I,h,J,p,j.left,j.right,fun b o e=>?_⟩
 rcases j.cases e with ⟨e,_⟩|⟨e,_⟩
 ·exact l b o e
 ·exact q b o e
def kh {α:Type}(q:HP)(K:Kind α)(v:Value)(xs:List α):Prop:=∀ I h J,Hp.le I J→Hp.le h J→q.p I h→rB K J v xs
section
variable {α:Type}{K:Kind α}
theorem aA {v:Value}{xs:List α}:kh (aO K v xs) K v xs:=fun I h J l _ p=>n6 l p.2
theorem aD {e:Nat}{v:Value}{xs:List α}:kh (ow K e v xs) K v xs:=fun I h J l m p=>lc l m p
theorem St.reads {C w:World}{V:List HP}(s:St C w V){i:Nat}{v:Value}{xs:List α}(h:kh (lk V i) K v xs):∃ J,Le J w∧rB K J v xs:=by
 obtain ⟨I,g,J,p,a,b,lw⟩:=s.see i
 exact ⟨J,lw,h I g J a b p⟩
end
def sep (p q:HP):HP:=⟨fun I h=>∃ h1 h2,Join h1 h2 h∧p.p I h1∧q.p I h2,fun l ⟨h1,h2,j,a,b⟩=>⟨h1,h2,j,p.mono l a,q.mono l b⟩⟩
theorem St.sep {C w:World}{p q:HP}{V:List HP}(s:St C w (p::q::V)):St C w (Pg.sep p q::V):=by
 obtain ⟨a,I,h,g,j,l,h1,h2,r,c,b,i,u,d,e⟩:=s
 obtain ⟨k,k1,B⟩:=Join.assoc' u r
 exact ⟨a,I,h,g,j,l,k,i,B,⟨h1,b,k1,c,d⟩,e⟩
section
variable {X:Cx}{V:List HP}{σ:dQ}{Q:Exit→dQ→World→Prop}{ops:Array Oper}{rest:List Oper}
variable {d:Option Nat}{ty:TypeId}{pos:String}{af:Array Edge}{gd:Option (Nat×Bool)}
variable {α β:Type}
theorem eN {t:TypeId}{x:Operand}{a:Option Addr}{n c:Nat}{e:TypeId}(b:mz X.P t=some e)(i:ev σ x=.slice a n c):VO X V σ ⟨d,.call ⟨.builtin .len,#[x],#[t]⟩,ty,pos,af,gd⟩ (.int .i64 n):=by
 intro w _
 have h:=js b
 simp [execOp,resolve,invoke,builtin,i,Builtin.len_,run_underlying h,goInt]
theorem bE {K:Kind α}{a:Option Addr}{n c:Nat}{xs:List α}(i:Nat)(l:kh (lk V i) K (.slice a n c) xs)(h1:0<n)(h:∀ g o,a=some ⟨g,o,none⟩→TL X ops V σ rest Q):TL X ops V σ rest Q:=by
 intro w s
 obtain ⟨J,lw,A,r,b,h2,u,e⟩:=s.reads l
 have B:n=xs.length:=by injection b
 have q:a=A:=by injection b
 obtain ⟨g,o,j,_⟩:=e (by omega)
 exact h g o (by rw [q,j]) w s
theorem bC {K:Kind α}{a:Option Addr}{n c:Nat}{xs:List α}{cd:Code}(i:Nat)(l:kh (lk V i) K (.slice a n c) xs)(h1:0<n)(h:∀ g o,a=some ⟨g,o,none⟩→TC X V σ cd Q):TC X V σ cd Q:=by
 intro w s
 obtain ⟨J,lw,A,r,b,h2,u,e⟩:=s.reads l
 have B:n=xs.length:=by injection b
 have q:a=A:=by injection b
 obtain ⟨g,o,j,_⟩:=e (by omega)
 exact h g o (by rw [q,j]) w s
theorem rC {t e:TypeId}{x y:Operand}{g o n c sz:Nat}{k:IntKind}{j:Int}(h:mz X.P t=some e)(b:iK X.P e=some sz)(l:ev σ x=.slice (some ⟨g,o,none⟩) n c)(q:ev σ y=.int k j)(a:0≤j)(h1:j<n) :
  VO X V σ ⟨d,.indexAddr t x y,ty,pos,af,gd⟩ (.pointer (some ⟨g,o+j.toNat*sz,none⟩)):=by
 intro w _
 have i:=js h
 simp [execOp,l,q,Instr.indexAt,asIntOf,run_underlying i,a,h1,fA b,gH]
def z' (K:Kind α)(fo:Nat)(pr:α→Value):Prop:=∀ I x cs,K.rd I x cs→sy cs fo=some (pr x)
def A0 (K:Kind α)(fo:Nat)(L:Kind β)(pr:α→List β):Prop:=∀ I x cs,K.rd I x cs→∃ v,sy cs fo=some v∧rB L I v (pr x)
theorem kB {K:Kind α}{J:Hp}{g o n c:Nat}{xs:List α}(r:rB K J (.slice (some ⟨g,o,none⟩) n c) xs){j:Nat}{x:α}(a:xs[j]?=some x) :
  ∃ cs,K.rd J x cs∧∀ k u,cs[k]?=some u→iP J g (o+j*K.sz+k)=some u:=by
 obtain ⟨A,B,s,h2,D,b⟩:=r
 have i:=(List.getElem?_eq_some_iff.1 a).1
 obtain ⟨g',o',e,h⟩:=b (by omega)
 injection s with e1 e2 e3
 rw [e] at e1
 injection e1 with e1
 injection e1 with e1 e4
 subst e1; subst e4
 obtain ⟨cs,p,q⟩:=h j x a
 exact ⟨cs,p,fun k u l=>q k u l⟩
theorem kn [Inhabited α]{K:Kind α}{T:TypeId}{x:Operand}{g o n c fo:Nat}{xs:List α}{pr:α→Value}(i:Nat)(j:Int)(h:fO X.P T=some false)
  (l:z' K fo pr) (e:kh (lk V i) K (.slice (some ⟨g,o,none⟩) n c) xs) (B:ev σ x=.pointer (some ⟨g,o+j.toNat*K.sz+fo,none⟩)) (b:0≤j) (h1:j<n) :
  VO X V σ ⟨d,.load T x,ty,pos,af,gd⟩ (pr (ix xs j)):=by
 intro w s
 obtain ⟨J,lw,r⟩:=s.reads e
 have E:n=xs.length:=by obtain ⟨A,D,u,_⟩:=r; injection u
 obtain ⟨cs,p,q⟩:=kB r (jT b (by omega))
 have a:=hO lw (q fo _ (by rw [← kV]; exact l J _ cs p))
 simp only [execOp,Instr.loadAt,B,Instr.sureAddr,Sem.run_bind,Sem.run_pure,Result.andThen_ok,fD h a]
theorem xV [Inhabited α]{K:Kind α}{cells:α→List Value}{T:TypeId}{x:Operand}{g o n c:Nat}{xs:List α}(i:Nat)(j:Int)(B:fO X.P T=some true)(E:iK X.P T=some K.sz)
  (D:∀ I x cs,K.rd I x cs→cs=cells x) (l:kh (lk V i) K (.slice (some ⟨g,o,none⟩) n c) xs) (L:ev σ x=.pointer (some ⟨g,o+j.toNat*K.sz,none⟩)) (h:0≤j) (h1:j<n) :
  VO X V σ ⟨d,.load T x,ty,pos,af,gd⟩ (.agg (cells (ix xs j)).toArray):=by
 intro w s
 obtain ⟨J,lw,r⟩:=s.reads l
 have O:n=xs.length:=by obtain ⟨A,M,G,_⟩:=r; injection G
 obtain ⟨cs,p,q⟩:=kB r (jT h (by omega))
 have e:=K.rd_len p
 obtain rfl:=D _ _ _ p
 have b:=fR (P:=X.P) (w:=w) (a:=⟨g,o+j.toNat*K.sz,none⟩) B (by rw [e]; exact E) (fun k u F=>by rw [gH]; exact hO lw (q k u F))
 simp only [execOp,Instr.loadAt,L,Instr.sureAddr,Sem.run_bind,Sem.run_pure,Result.andThen_ok,b]
def cl (g k:Nat)(cs:List Value):HP:=⟨fun I h=>h=Hp.none∧∀ i u,cs[i]?=some u→iP I g (k+i)=some u,fun l p=>⟨p.1,fun i u a=>kU l (p.2 i u a)⟩⟩
theorem rD {C w:World}{V:List HP}(s:St C w V)(i:Nat){g k:Nat}{cs:List Value}(a:lk V i=cl g k cs):∀ (j:Nat) (u:Value),cs[j]?=some u→w.cell? ⟨g,k+j,none⟩=some u:=by
 obtain ⟨I,h,p,lI,_,_⟩:=s.look i
 rw [a] at p
 exact fun j u b=>hO lI (p.2 j u b)
theorem pn {L:Kind β}{I:Hp}{v:Value}{ys:List β}(r:rB L I v ys):∃ a c,v=.slice a ys.length c:=by
 obtain ⟨A,c,e,_⟩:=r
 exact ⟨A,c,e⟩
theorem St.more {C w:World}{V:List HP}(s:St C w V)(i:Nat){A:Type}{E:A→List HP}(f:∀ I h,(lk V i).p I h→Le I w→Le h w→∃ a,fH (E a) I Hp.none):∃ a,St C w (E a++V):=by
 obtain ⟨r,I,b,l,j,lw,st⟩:=s
 obtain ⟨h1,h2,q,p,u⟩:=fJ i st
 obtain ⟨a,e⟩:=f I h1 p (lw.mono j.left) (lw.mono (Hp.le_trans q.left j.right))
 exact ⟨a,r,I,b,l,j,lw,cY.2 ⟨Hp.none,b,Join.none b,e,st⟩⟩
theorem tz {p q:HP}{I:Hp}(a:p.p I Hp.none)(b:q.p I Hp.none):fH [p,q] I Hp.none:=⟨_,_,Join.none _,a,_,_,Join.none _,b,rfl⟩
theorem St.leaf [Inhabited α]{C w:World}{V:List HP}{K:Kind α}{L:Kind β}{g o n c fo:Nat}{xs:List α}{pr:α→List β}(s:St C w V)(i:Nat)(j:Int)
  (G:A0 K fo L pr) (F:lk V i=aO K (.slice (some ⟨g,o,none⟩) n c) xs) (D:0≤j) (h1:j<n) :
  ∃ p:Option Addr×Nat,St C w ([cl g (o+j.toNat*K.sz+fo) [.slice p.1 (pr (ix xs j)).length p.2],aO L (.slice p.1 (pr (ix xs j)).length p.2) (pr (ix xs j))]++V):=by
 refine St.more (E:=fun p:Option Addr×Nat=>[cl g (o+j.toNat*K.sz+fo) [.slice p.1 (pr (ix xs j)).length p.2],aO L (.slice p.1 (pr (ix xs j)).length p.2) (pr (ix xs j))]) s i ?_
 intro I h p _ _
 rw [F] at p
 obtain ⟨_,r⟩:=p
 have J:n=xs.length:=by obtain ⟨A,l,e,_⟩:=r; injection e
 obtain ⟨cs,p,q⟩:=kB r (jT D (by omega))
 obtain ⟨v,e,B⟩:=G I _ cs p
 obtain ⟨a,l,rfl⟩:=pn B
 exact ⟨⟨a,l⟩,tz ⟨rfl,fun k u b=>by
  cases k with
  | zero =>
   simp only [List.getElem?_cons_zero,Option.some.injEq] at b
   subst b
   exact q fo _ (by rw [← kV]; exact e)
  | succ k=>simp at b⟩ ⟨rfl,B⟩⟩
def Cb (K:Kind α){A:Type}(cells:A→α→List Value)(b:A→α→List HP):Prop:=∀ I x cs,K.rd I x cs→∃ a,cs=cells a x∧fH (b a x) I Hp.none
theorem St.elem [Inhabited α]{C w:World}{V:List HP}{K:Kind α}{A:Type}{cells:A→α→List Value}{b:A→α→List HP}{g o n c:Nat}{xs:List α}(s:St C w V)(i:Nat)(j:Int)
  (B:Cb K cells b) (u:lk V i=aO K (.slice (some ⟨g,o,none⟩) n c) xs) (l:0≤j) (h1:j<n) :
  ∃ a,St C w ((cl g (o+j.toNat*K.sz) (cells a (ix xs j))::b a (ix xs j))++V):=by
 refine St.more (E:=fun a=>cl g (o+j.toNat*K.sz) (cells a (ix xs j))::b a (ix xs j)) s i ?_
 intro I h p _ _
 rw [u] at p
 obtain ⟨_,r⟩:=p
 have G:n=xs.length:=by obtain ⟨A,F,D,_⟩:=r; injection D
 obtain ⟨cs,p,q⟩:=kB r (jT l (by omega))
 obtain ⟨a,rfl,e⟩:=B I _ cs p
 exact ⟨a,_,_,Join.none _,⟨rfl,q⟩,e⟩
theorem fV [Inhabited α]{K:Kind α}{A:Type}{cells:A→α→List Value}{b:A→α→List HP}{g o n c:Nat}{xs:List α}(i:Nat)(j:Int)
  (q:Cb K cells b) (l:lk V i=aO K (.slice (some ⟨g,o,none⟩) n c) xs) (e:0≤j) (h1:j<n)
  (h:∀ a,TL X ops (cl g (o+j.toNat*K.sz) (cells a (ix xs j))::(b a (ix xs j)++V)) σ rest Q):TL X ops V σ rest Q:=by
 intro w s
 obtain ⟨a,s'⟩:=s.elem i j q l e h1
 exact h a w s'
theorem dU [Inhabited α]{K:Kind α}{A:Type}{cells:A→α→List Value}{b:A→α→List HP}{g o n c:Nat}{xs:List α}{cd:Code}(i:Nat)(j:Int)
  (q:Cb K cells b) (l:lk V i=aO K (.slice (some ⟨g,o,none⟩) n c) xs) (e:0≤j) (h1:j<n)
  (h:∀ a,TC X (cl g (o+j.toNat*K.sz) (cells a (ix xs j))::(b a (ix xs j)++V)) σ cd Q):TC X V σ cd Q:=by
 intro w s
 obtain ⟨a,s'⟩:=s.elem i j q l e h1
 exact h a w s'
end
end Go.Pg
namespace Go.Pg
section
variable {X:Cx}{V:List HP}{σ:dQ}{Q:Exit→dQ→World→Prop}{ops:Array Oper}{rest:List Oper}
variable {d:Option Nat}{ty:TypeId}{pos:String}{af:Array Edge}{gd:Option (Nat×Bool)}
variable {α β:Type}
def SetL (K:Kind α)(fo:Nat)(v:Value)(f:α→α):Prop:=fo<K.sz∧∀ I h x cs,K.own I h x cs→K.own I h (f x) (cs.set fo v)
theorem kN {P:Program}{w:World}{g k:Nat}{cs:List Value}{e:Nat}{fr:Nat×Nat}{v:Value}(b:w.heap[g]?=some (.cells cs.toArray e fr))(hk:k<cs.length)(a:fr=(0,0)∨cs.length≤fr.1)(h:v.oneCell'=true) :
  (store ⟨g,k,none⟩ v).run P w=.ok () (w.setCell ⟨g,k,none⟩ v):=by
 rw [run_store P w _ v _ h]
 have h1:w.cell? ⟨g,k,none⟩=some cs[k]:=by simp [World.cell?,b,hk]
 have h2:w.frozen? ⟨g,k,none⟩=false:=by
  simp only [World.frozen?,b]
  rcases a with rfl | a
  ·simp
  ·obtain ⟨lo,i⟩:=fr
   simp only at a
   simp; omega
 simp [h1,h2]
theorem x9 [Inhabited α]{K:Kind α}{T e:TypeId}{x y:Operand}{g o n c fo:Nat}{xs:List α}{v:Value}{f:α→α}(i:Nat)(j:Int)(hd:j3 X.n d=true)(hw:eF ops σ ⟨d,.store T x y,ty,pos,af,gd⟩=true)(hs:iK X.P T=some 1)
  (hl:SetL K fo v f) (hV:lk V i=ow K e (.slice (some ⟨g,o,none⟩) n c) xs) (hx:ev σ x=.pointer (some ⟨g,o+j.toNat*K.sz+fo,none⟩)) (hy:ev σ y=v) (E:v.oneCell'=true) (h0:0≤j) (h1:j<n)
  (h:TL X ops (x7 V i (ow K e (.slice (some ⟨g,o,none⟩) n c) (xs.set j.toNat (f (ix xs j))))) (gJ σ d undef) rest Q):TL X ops V σ (⟨d,.store T x y,ty,pos,af,gd⟩::rest) Q:=by
 intro w s
 have a2:∃ (_:Unit) (U:World),(execOp (ev σ) ⟨d,.store T x y,ty,pos,af,gd⟩).run X.P w=.ok .skip U∧St X.C U (x7 V i (ow K e (.slice (some ⟨g,o,none⟩) n c) (xs.set j.toNat (f (ix xs j))))):=by
  refine St.act s i (q:=fun _=>_) (Ψ:=fun _ U=>_) ?_
  intro I hh p _ lw _
  rw [hV] at p
  have p:pj K e I hh (.slice (some ⟨g,o,none⟩) n c) xs:=p
  rcases p with ⟨A,E,rfl,_⟩|⟨g',c',pre,l,b,fr,hb,E,h2,h3,h4,B,O,ol⟩
  ·injection E with _ E _
   omega
  injection E with u e2 e3
  injection u with u
  injection u with u e4
  subst u; subst e3; subst e4; subst e2
  obtain ⟨G,Z,Y,g1,g2,hc,a3,jn,ox,L⟩:=lb ol (jT h0 h1)
  have a4:=K.own_len ox
  have D:w.heap[g]?=some (.cells (pre++l++b).toArray e fr):=lw g _ (O.left g _ (by simp [Hp.one]))
  have a5:l.length=G.length+Z.length+Y.length:=by rw [hc]; simp [Nat.add_assoc]
  have J:pre.length+j.toNat*K.sz+fo<(pre++l++b).length:=by
   have:=hl.1
   simp only [List.length_append]
   omega
  have a0:=kN (P:=X.P) D J (by rcases B with B | B; exact .inl B; exact .inr (by simpa [Nat.add_assoc] using B)) E
  refine ⟨(),w.setCell ⟨g,pre.length+j.toNat*K.sz+fo,none⟩ v,?_⟩
  obtain ⟨h',F⟩:=Join.of_disj (h1:=Hp.one g (.cells ((pre++l++b).set (pre.length+j.toNat*K.sz+fo) v).toArray e fr)) (h2:=hb) (fun k=>by
   rcases O.disj k with e | e
   ·refine .inl ?_
    simp only [Hp.one] at *
    split at e
    ·cases e
    ·rename_i r; rw [if_neg r]
   ·exact .inr e)
  refine ⟨h',?_,fun a=>a.setCell _ _,?_,?_,?_,?_⟩
  ·simp only [execOp,Instr.storeAt,hx,hy,Instr.sureAddr,Sem.run_bind,Sem.run_pure,Result.andThen_ok,jD hs E a0]
  ·have M:(pre++l++b).set (pre.length+j.toNat*K.sz+fo) v=pre++(G++Z.set fo v++Y)++b:=by
    have:=hl.1
    rw [List.append_assoc,List.set_append_right _ _ (by omega),show pre.length+j.toNat*K.sz+fo - pre.length=j.toNat*K.sz+fo by omega,List.set_append_left _ _ (by omega),hc,List.append_assoc G,
     List.set_append_right _ _ (by omega),show j.toNat*K.sz+fo - G.length=fo by omega,List.set_append_left _ _ (by omega)]
    simp [List.append_assoc]
   refine .inr ⟨g,_,pre,G++Z.set fo v++Y,b,fr,hb,by rw [List.length_set],by rw [List.length_set]; exact h2,h3,by rw [List.length_set]; exact h4,?_,?_,?_⟩
   ·rcases B with B | B
    ·exact .inl B
    ·refine .inr ?_
     simp only [List.length_append,List.length_set] at *
     omega
   ·rw [← M]; exact F
   ·exact L I _ _ _ _ (Hp.le_refl I) jn (hl.2 I _ _ _ ox)
  ·intro k o' e'
   rcases F.cases e' with ⟨u,_⟩|⟨u,e2⟩
   ·simp only [Hp.one] at u
    split at u
    ·rename_i hk
     subst hk
     rw [← Option.some.inj u,iD D]
     simp
    ·cases u
   ·have r:k≠g:=by
     rintro rfl
     simp [Hp.one] at e2
    rw [fZ r]
    exact lw k _ (O.right k _ u)
  ·intro k hk
   refine .inl fun hn=>hk ?_
   have:=(O.is_none k).1 hn
   refine (F.is_none k).2 ⟨?_,this.2⟩
   have:=this.1
   simp only [Hp.one] at *
   split at this
   ·cases this
   ·rename_i r; rw [if_neg r]
  ·intro k o' hk e'
   have:=((O.is_none k).1 hk).1
   have r:k≠g:=by
    rintro rfl
    simp [Hp.one] at this
   rw [fZ r]
   exact e'
 obtain ⟨_,U,hr,s'⟩:=a2
 exact fE hd hw (by rw [hr]; exact h U s')
def po (P:Program)(K:Kind α)(e:TypeId)(z:α):Prop:=∃ cs,kW P e=some cs∧cs.length=K.sz∧∀ I,K.own I Hp.none z cs
theorem tA {K:Kind α}{I:Hp}{z:α}{cs:List Value}(h:K.own I Hp.none z cs)(m:Nat):gU K I Hp.none (List.replicate m z) (List.replicate m cs).flatten:=by
 induction m with
 | zero=>exact ⟨rfl,rfl⟩
 | succ m ih=>exact ⟨Hp.none,Hp.none,cs,(List.replicate m cs).flatten,Join.none _,by simp [List.replicate_succ],h,ih⟩
theorem nZ (z:Array Value)(e:0<z.size)(m:Nat):(madeCells z (m*z.size)).toList=(List.replicate m z.toList).flatten:=by
 induction m with
 | zero=>simp [madeCells]
 | succ m ih =>
  have h1:(madeCells z ((m+1)*z.size)).toList=(madeCells z (m*z.size)).toList++z.toList:=by
   apply List.ext_getElem?
   intro k
   simp only [madeCells,Array.toList_map,Array.toList_range,List.getElem?_map,List.getElem?_append,List.length_map,List.length_range]
   by_cases hk:k<m*z.size
   ·rw [List.getElem?_range (by rw [Nat.succ_mul]; omega),if_pos hk,List.getElem?_range hk]
   ·rw [if_neg hk]
    by_cases hk2:k<(m+1)*z.size
    ·rw [List.getElem?_range hk2]
     have a:k - m*z.size<z.size:=by rw [Nat.succ_mul] at hk2; omega
     have b:k % z.size=k - m*z.size:=by
      rw [← Nat.mod_eq_of_lt a]
      conv=>lhs; rw [show k=(k - m*z.size)+m*z.size by omega]
      rw [Nat.add_mul_mod_self_right]
     simp only [Option.map_some,b]
     rw [getElem!_pos z _ a]
     simp [a]
    ·rw [List.getElem?_eq_none (by simp; omega)]
     rw [Nat.succ_mul] at hk2
     rw [List.getElem?_eq_none (by simp; omega)]
     rfl
  rw [h1,ih]
  clear h1 ih
  induction m with
  | zero=>simp
  | succ m ih=>rw [List.replicate_succ,List.flatten_cons,List.append_assoc,ih,← List.flatten_cons,← List.replicate_succ]
theorem fW {K:Kind α}{t e:TypeId}{x y:Operand}{m:Int}{z:α}{u:Nat}(U:j3 X.n d=true)(hw:eF ops σ ⟨d,.makeSlice t x y,ty,pos,af,gd⟩=true)(ht:mz X.P t=some e)(r:iK X.P e=some K.sz)(B:hR X.P e=some u)
  (hz:po X.P K e z) (a0:0<K.sz) (hx:ev σ x=.int .i64 m) (hy:ev σ y=.int .i64 m) (T:0≤m) (h1:m≤140737488355328) (h2:u*m≤281474976710656)
  (h:∀ a c,TL X ops (ow K e (.slice a (List.replicate m.toNat z).length c) (List.replicate m.toNat z)::V) (gJ σ d (.slice a (List.replicate m.toNat z).length c)) rest Q):TL X ops V σ (⟨d,.makeSlice t x y,ty,pos,af,gd⟩::rest) Q:=by
 intro w s
 obtain ⟨cs,i,F,G⟩:=hz
 unfold kW at i
 unfold iK at r
 unfold hR at B
 cases hi:X.P.info? e with
 | none=>rw [hi] at r; cases r
 | some info =>
  rw [hi] at i r B
  simp only [Option.map_some,Option.some.injEq,Option.bind_some] at i r B
  cases hzz:info.zero with
  | none=>rw [hzz] at i; cases i
  | some zv =>
   rw [hzz] at i
   simp only [Option.map_some,Option.some.injEq] at i
   have hr:=run_make (P:=X.P) w t e info zv (js ht) hi hzz .i64 .i64 m m T (Int.le_refl _) (by rw [B]; exact h2) (by omega)
   refine fE U hw ?_
   have E:(execOp (ev σ) ⟨d,.makeSlice t x y,ty,pos,af,gd⟩).run X.P w=.ok (.value (.slice (some ⟨w.heap.size,0,none⟩) m.toNat m.toNat)) (w.alloc (.cells (madeCells zv.cells (m.toNat*info.size)) e)):=by
    simp only [execOp,hx,hy,Sem.run_bind,hr,Result.andThen_ok,Sem.run_pure]
   rw [E]
   have J:zv.cells.size=K.sz:=by rw [← F,← i]; simp
   have q:(madeCells zv.cells (m.toNat*info.size)).toList=(List.replicate m.toNat cs).flatten:=by
    rw [r,← J,nZ _ (by omega),← i]
   have Z:(List.replicate m.toNat z).length=m.toNat:=by simp
   have:=h (some ⟨w.heap.size,0,none⟩) m.toNat
   rw [Z] at this
   refine this _ (St.new s (fun a=>a.alloc _) (fun I _=>?_) ?_)
   ·obtain ⟨O,M⟩:=Join.of_disj (h1:=Hp.one w.heap.size (.cells (madeCells zv.cells (m.toNat*info.size)) e)) (h2:=Hp.none) (fun _=>.inr rfl)
    have L:=M.symm.eq_of_none
    refine ⟨O,.inr ⟨w.heap.size,m.toNat,[],(List.replicate m.toNat cs).flatten,[],(0,0),Hp.none,by simp,by simp,by simp only [maxLen]; omega,by simp,.inl rfl,?_,tA (G I) _⟩,?_,?_⟩
    ·have Y:((List.replicate m.toNat cs).flatten).toArray=madeCells zv.cells (m.toNat*info.size):=by rw [← q]
     simp only [List.nil_append,List.append_nil,Y]
     exact M
    ·rw [L]
     intro b o l
     simp only [Hp.one] at l
     split at l
     ·rename_i j
      subst j
      rw [← Option.some.inj l]
      show (w.heap.push _)[w.heap.size]?=_
      simp
     ·cases l
    ·rw [L]
     intro b j
     simp only [Hp.one] at j
     split at j
     ·rename_i l; exact Nat.le_of_eq l.symm
     ·exact absurd rfl j
   ·intro b o l
    have D:=(Array.getElem?_eq_some_iff.1 l).1
    show (w.heap.push _)[b]?=_
    rw [Array.getElem?_push,if_neg (Nat.ne_of_lt D)]
    exact l
end
end Go.Pg
namespace Go.Pg
theorem ko {P:Program}{b:Nat}{T:Nat}{fr:Nat×Nat}{N:Nat}(G:fr=(0,0)∨N≤fr.1):∀ (vs:List Value) (k j:Nat) (cs:List Value) (w:World),cs.length=N→w.heap[b]?=some (.cells cs.toArray T fr)→k+j+vs.length≤cs.length→(∀ v∈vs,v.oneCell'=true) →
  ∃ a,(storeCells ⟨b,k,none⟩ vs j).run P w=.ok () a∧a.heap[b]?=some (.cells (cs.take (k+j)++vs++cs.drop (k+j+vs.length)).toArray T fr)∧(∀ i,i≠b→a.heap[i]?=w.heap[i]?)∧∀ C,Same C w→Same C a:=by
 intro vs
 induction vs with
 | nil =>
  intro k j cs w _ q _ _
  exact ⟨w,by simp [storeCells],by simpa using q,fun _ _=>rfl,fun _ h=>h⟩
 | cons v vs ih =>
  intro k j cs w B q I E
  have l:k+j<cs.length:=by simp at I; omega
  have h1:=kN (P:=P) q l (by rw [B]; exact G) (E v (by simp))
  have s:(w.setCell ⟨b,k+j,none⟩ v).heap[b]?=some (.cells (cs.set (k+j) v).toArray T fr):=by rw [iD q]; simp
  obtain ⟨a,r,e,o,L⟩:=ih k (j+1) (cs.set (k+j) v) _ (by simpa using B) s (by simp at *; omega) (fun u J=>E u (by simp [J]))
  refine ⟨a,?_,?_,fun i D=>?_,fun C F=>L C (F.setCell _ _)⟩
  ·simp only [storeCells,Sem.run_bind,gH,h1,Result.andThen_ok,r]
  ·rw [e]
   congr 2
   rw [show k+(j+1)=(k+j)+1 by omega,List.take_succ_eq_append_getElem (by simp; exact l),List.take_set_of_le (Nat.le_refl _),List.drop_set_of_lt (by omega)]
   simp [Nat.add_assoc,Nat.add_comm,Nat.add_left_comm]
  ·rw [o i D,fZ D]
def Cc {α:Type}(q:HP)(K:Kind α)(x:Value)(ys:List α):Prop :=
 ∀ I h,q.p I h→∃ A c a b,x=.slice A ys.length c∧ys.length≤maxLen∧Hp.le b h∧gU K I b ys a ∧
  (∀ J,Hp.le I J→Hp.le h J→0<ys.length→∃ g o,A=some ⟨g,o,none⟩∧∀ k u,a[k]?=some u→iP J g (o+k)=some u)
theorem eB {α:Type}{K:Kind α}{e:Nat}{v:Value}{ys:List α}:Cc (ow K e v ys) K v ys:=by
 intro I h p
 have p:pj K e I h v ys:=p
 rcases p with ⟨A,rfl,rfl,rfl⟩|⟨g,c,pre,b,a,fr,s,rfl,h2,r,E,F,q,D⟩
 ·exact ⟨A,0,[],Hp.none,rfl,Nat.zero_le _,Hp.le_refl _,⟨rfl,rfl⟩,fun _ _ _ h=>absurd h (Nat.lt_irrefl _)⟩
 ·refine ⟨_,c,b,s,rfl,Nat.le_trans h2 r,q.right,D,fun J _ B _=>⟨g,pre.length,rfl,fun k u l=>?_⟩⟩
  have i:J g=some (.cells (pre++b++a).toArray e fr):=B _ _ (q.left g _ (by simp [Hp.one]))
  unfold iP
  rw [i]
  have j:=(List.getElem?_eq_some_iff.1 l).1
  show (pre++b++a).toArray[pre.length+k]?=some u
  rw [List.getElem?_toArray,List.append_assoc,List.getElem?_append_right (by omega),Nat.add_sub_cancel_left,List.getElem?_append_left j]
  exact l
theorem qn {α:Type}{K:Kind α}(l:K.Flat){J:Hp}{g o:Nat}:∀ (ys:List α) (b:Nat),(∀ j x,ys[j]?=some x→∃ cs,K.rd J x cs∧∀ i u,cs[i]?=some u→iP J g (o+(b+j)*K.sz+i)=some u) →
  ∃ a,gU K J Hp.none ys a∧∀ k u,a[k]?=some u→iP J g (o+b*K.sz+k)=some u:=by
 intro ys
 induction ys with
 | nil=>intro b _; exact ⟨[],⟨rfl,rfl⟩,fun k u e=>by simp at e⟩
 | cons y ys ih =>
  intro b h
  obtain ⟨cs,h1,h2⟩:=h 0 y rfl
  obtain ⟨a,o1,o2⟩:=ih (b+1) (fun j x r=>by
   obtain ⟨cs,p,q⟩:=h (j+1) x (by simpa using r)
   exact ⟨cs,p,fun i u e=>by rw [show b+1+j=b+(j+1) by omega]; exact q i u e⟩)
  refine ⟨cs++a,⟨Hp.none,Hp.none,cs,a,Join.none _,rfl,l _ _ _ h1,o1⟩,fun k u e=>?_⟩
  have s:=K.rd_len h1
  by_cases hk:k<cs.length
  ·rw [List.getElem?_append_left hk] at e
   simpa using h2 k u e
  ·rw [List.getElem?_append_right (by omega)] at e
   have:=o2 _ u e
   rw [Nat.succ_mul] at this
   rw [show o+b*K.sz+k=o+(b*K.sz+K.sz)+(k - cs.length) by omega]
   exact this
theorem tB {α:Type}{K:Kind α}(E:K.Flat){v:Value}{ys:List α}:Cc (aO K v ys) K v ys:=by
 rintro I h ⟨rfl,A,c,r,h2,e,s⟩
 by_cases hp:0<ys.length
 ·obtain ⟨g,o,B,D⟩:=s hp
  obtain ⟨a,o1,o2⟩:=qn E ys 0 (fun j x F=>by
   obtain ⟨cs,p,q⟩:=D j x F
   exact ⟨cs,p,fun i u b=>by rw [show 0+j=j from Nat.zero_add j]; exact q i u b⟩)
  refine ⟨A,c,a,Hp.none,r,e,Hp.le_refl _,o1,fun J l _ _=>⟨g,o,B,fun k u b=>kU l ?_⟩⟩
  simpa using o2 k u b
 ·obtain rfl:ys=[]:=List.eq_nil_of_length_eq_zero (by omega)
  exact ⟨A,c,[],Hp.none,r,e,Hp.le_refl _,⟨rfl,rfl⟩,fun _ _ _ h=>absurd h hp⟩
theorem Le.one_new {w a:World}{o:Obj}(h:a.heap[w.heap.size]?=some o):Le (Hp.one w.heap.size o) a:=by
 intro b o' e
 simp only [Hp.one] at e
 split at e
 ·rename_i i; subst i; rw [← Option.some.inj e]; exact h
 ·cases e
theorem vE {α:Type}{P:Program}{K:Kind α}{t ty e:TypeId}{ag:Nat}{w:World}{s x:Value}{xs ys:List α}{z:α}(ht:mz P t=some e)(hs:iK P e=some K.sz)(hb:hR P e=some ag)(hz:po P K e z)(b0:0<K.sz)
  {I h1 h2 M:Hp} {q:HP} (hj:Join h1 h2 M) (ho:pj K e I h1 s xs) (hq:q.p I h2) (ao:Cc q K x ys) (lI:Le I w) (a2:Le M w) (dj:∀ b,I b=Option.none∨M b=Option.none) (hl:(xs.length+ys.length)*ag≤140737488355328) (ax:xs.length+ys.length≤140737488355328) (aw:0<ag) :
  ∃ a c w' Y,(Builtin.append_ #[t,t] ty #[s,x]).run P w=.ok (.slice a (xs++ys).length c) w'∧(∀ C,Same C w→Same C w')∧pj K e I Y (.slice a (xs++ys).length c) (xs++ys)∧Le Y w' ∧
   (∀ k,Y k≠Option.none→M k≠Option.none∨w.heap.size≤k)∧∀ (k:Nat) (o:Obj),M k=Option.none→w.heap[k]?=some o→w'.heap[k]?=some o:=by
 obtain ⟨A,cx,i,a7,rfl,hm,a9,on,aj⟩:=ao I h2 hq
 have an:=n0 on
 obtain ⟨J,jJ⟩:=Join.of_disj dj
 have lJ:Le J w:=fun b o e=>by
  rcases jJ.cases e with ⟨e,_⟩|⟨e,_⟩
  ·exact lI b o e
  ·exact a2 b o e
 have au:=aj J jJ.left (Hp.le_trans hj.right jJ.right)
 obtain ⟨zc,a0,av,b1⟩:=hz
 have hu:=js ht
 unfold kW at a0
 unfold iK at hs
 unfold hR at hb
 cases hi:P.info? e with
 | none=>rw [hi] at hs; cases hs
 | some info =>
 rw [hi] at a0 hs hb
 simp only [Option.map_some,Option.some.injEq,Option.bind_some] at a0 hs hb
 cases hzz:info.zero with
 | none=>rw [hzz] at a0; cases a0
 | some zv =>
 have D:(xs++ys).length=xs.length+ys.length:=List.length_append
 rcases Nat.eq_zero_or_pos ys.length with h0 | Z
 ·-- nothing comes
  obtain rfl:ys=[]:=List.eq_nil_of_length_eq_zero h0
  have ay:i=[]:=on.2
  have e0:a7=Hp.none:=on.1
  rcases ho with ⟨B,rfl,rfl,rfl⟩|⟨g,c,pre,u,l,fr,ab,rfl,p2,p3,p4,p5,jo,ol⟩
  ·refine ⟨B,0,w,Hp.none,?_,fun _ h=>h,.inl ⟨B,rfl,rfl,rfl⟩,fun _ _ e=>(by cases e),fun _ h=>absurd rfl h,fun _ _ _ h=>h⟩
   cases B<;>cases A with
   | none=>simp [Builtin.append_,run_underlying hu,sizeOf,typeInfo,hi,Builtin.lenOf,Builtin.firstCells,loadCells,loadCellsFrom,storeCells]
   | some a=>simp [Builtin.append_,run_underlying hu,sizeOf,typeInfo,hi,Builtin.lenOf,Builtin.firstCells,loadCells,loadCellsFrom,storeCells]
  ·refine ⟨some ⟨g,pre.length,none⟩,c,w,h1,?_,fun _ h=>h,.inr ⟨g,c,pre,u,l,fr,ab,by simp,by simpa using p2,p3,by simpa using p4,p5,jo,by simpa using ol⟩,?_,?_,fun _ _ _ h=>h⟩
   ·cases A with
    | none=>simp [Builtin.append_,run_underlying hu,sizeOf,typeInfo,hi,Builtin.lenOf,Builtin.firstCells,loadCells,loadCellsFrom,p2,storeCells]
    | some a=>simp [Builtin.append_,run_underlying hu,sizeOf,typeInfo,hi,Builtin.lenOf,Builtin.firstCells,loadCells,loadCellsFrom,p2,storeCells]
   ·exact a2.mono hj.left
   ·exact fun k hk=>.inl fun hn=>hk ((hj.is_none k).1 hn).1
 ·obtain ⟨g2,o2,rfl,ac⟩:=au Z
  have U:∀ (j:Nat) (v:Value),i[j]?=some v→w.cell? ((⟨g2,o2,none⟩:Addr).add j)=some v:=fun j v hv=>by
   rw [gH]
   exact hO lJ (ac j v hv)
  have a3:i.length=ys.length*info.size:=by rw [an,hs]
  have a1:∀ (L:Nat) (G:List Value) (a6:Hp),L<xs.length+ys.length→Hp.le a6 h1→gU K I a6 xs G →
    ∃ Y,pj K e I Y (.slice (some ⟨w.heap.size,0,none⟩) (xs++ys).length (grownCap w (xs.length+ys.length) L e)) (xs++ys) ∧
     Le Y (w.drew.alloc (.cells (G.toArray++i.toArray++Builtin.zeroCells zv.cells (grownCap w (xs.length+ys.length) L e - (xs.length+ys.length))) e)) ∧
     (∀ k,Y k≠Option.none→M k≠Option.none∨w.heap.size≤k):=by
   intro L G a6 a5 aq ol
   obtain ⟨F,ju⟩:=Join.of_disj (h1:=a6) (h2:=a7) (fun b=>by
    rcases hj.disj b with f | f
    ·refine .inl ?_
     cases hh:a6 b with
     | none=>rfl
     | some o=>rw [aq b o hh] at f; cases f
    ·refine .inr ?_
     cases hh:a7 b with
     | none=>rfl
     | some o=>rw [a9 b o hh] at f; cases f)
   have E:Hp.le F M:=fun b o e=>by
    rcases ju.cases e with ⟨e,_⟩|⟨e,_⟩
    ·exact hj.left b o (aq b o e)
    ·exact hj.right b o (a9 b o e)
   obtain ⟨Y,jo⟩:=Join.of_disj (h1:=Hp.one w.heap.size (.cells (G.toArray++i.toArray++Builtin.zeroCells zv.cells (grownCap w (xs.length+ys.length) L e - (xs.length+ys.length))) e)) (h2:=F) (fun b=>by
    by_cases a4:b=w.heap.size
    ·refine .inr ?_
     cases hh:F b with
     | none=>rfl
     | some o =>
      have:=a2.lt (b:=b) (by rw [E b o hh]; exact fun h=>by cases h)
      omega
    ·exact .inl (by simp [Hp.one,a4]))
   have al:=grownCap_ge w (xs.length+ys.length) L e
   have ar:=grownCap_le_maxLen w (xs.length+ys.length) L e (by simp only [maxLen]; omega)
   refine ⟨Y,.inr ⟨w.heap.size,_,[],G++i,(Builtin.zeroCells zv.cells (grownCap w (xs.length+ys.length) L e - (xs.length+ys.length))).toList,(0,0),F,rfl,by rw [D]; exact al,ar,?_,.inl rfl,?_,n5 ju ol on⟩,?_,?_⟩
   ·rw [D]
    have:zv.cells.size=K.sz:=by
     rw [hzz] at a0
     simp only [Option.map_some,Option.some.injEq] at a0
     rw [← av,← a0]; simp
    simp [size_zeroCells,this]
   ·have:([]++(G++i)++(Builtin.zeroCells zv.cells (grownCap w (xs.length+ys.length) L e - (xs.length+ys.length))).toList).toArray=G.toArray++i.toArray++Builtin.zeroCells zv.cells (grownCap w (xs.length+ys.length) L e - (xs.length+ys.length)):=by
     apply Array.ext'
     simp
    rw [this]
    exact jo
   ·intro b o e
    rcases jo.cases e with ⟨e,_⟩|⟨e,_⟩
    ·exact Le.one_new (w:=w) (by show (w.heap.push _)[w.heap.size]?=_; simp) b o e
    ·have a5:=a2.lt (b:=b) (by rw [E b o e]; exact fun h=>by cases h)
     show (w.heap.push _)[b]?=_
     rw [Array.getElem?_push,if_neg (Nat.ne_of_lt a5)]
     exact a2 b o (E b o e)
   ·intro k hk
    by_cases hkk:k=w.heap.size
    ·exact .inr (Nat.le_of_eq hkk.symm)
    ·refine .inl fun hn=>hk ((jo.is_none k).2 ⟨by simp [Hp.one,hkk],?_⟩)
     cases hh:F k with
     | none=>rfl
     | some o=>rw [E k o hh] at hn; cases hn
  have a8:∀ (O:Obj) (k:Nat) (o:Obj),M k=Option.none→w.heap[k]?=some o→(w.drew.alloc O).heap[k]?=some o:=by
   intro O k o _ e
   have a5:=(Array.getElem?_eq_some_iff.1 e).1
   show (w.heap.push _)[k]?=_
   rw [Array.getElem?_push,if_neg (Nat.ne_of_lt a5)]
   exact e
  have aa:∀ (O:Obj) (C:World),Same C w→Same C (w.drew.alloc O):=fun O C h=>h.drew.alloc O
  rcases ho with ⟨B,rfl,rfl,rfl⟩|⟨g,c,pre,u,l,fr,ab,rfl,p2,p3,p4,p5,jo,ol⟩
  ·cases B with
   | some b =>
    have hr:=run_append_grow (P:=P) w t ty e info zv hu hi hzz b 0 0 [] (by simp) (fun j v hv=>by simp at hv) ⟨g2,o2,none⟩ ys.length cx i a3 U (by omega) (by omega) (by rw [hb,Nat.zero_add]; exact growslice_fits Z (by simpa using hl))
    obtain ⟨Y,f1,f2,f3⟩:=a1 0 [] Hp.none (by simp; exact Z) (Hp.le_refl _) ⟨rfl,rfl⟩
    simp only [List.length_nil,Nat.zero_add,List.nil_append] at f1 f2 hr ⊢
    exact ⟨_,_,_,Y,hr,aa _,f1,f2,f3,a8 _⟩
   | none =>
   have hr:=run_append_nil (P:=P) w t ty e info zv hu hi hzz ⟨g2,o2,none⟩ ys.length cx i a3 U Z (by omega) (by rw [hb]; simp only [List.length_nil,Nat.zero_add] at hl; omega)
   obtain ⟨Y,f1,f2,f3⟩:=a1 0 [] Hp.none (by simp; exact Z) (Hp.le_refl _) ⟨rfl,rfl⟩
   simp only [List.length_nil,Nat.zero_add,List.nil_append] at f1 f2 hr ⊢
   refine ⟨_,_,_,Y,hr,aa _,f1,?_,f3,a8 _⟩
   rw [show ([]:List Value).toArray++i.toArray=i.toArray by simp] at f2
   exact f2
  ·have ae:w.heap[g]?=some (.cells (pre++u++l).toArray e fr):=a2 g _ (hj.left g _ (jo.left g _ (by simp [Hp.one])))
   have ap:=n0 ol
   by_cases hroom:xs.length+ys.length≤c
   ·-- in place
    have az:ys.length*K.sz≤l.length:=by rw [p4]; exact Nat.mul_le_mul_right _ (by omega)
    obtain ⟨w',r,e',ot,sm⟩:=ko (P:=P) (N:=(pre++u++l).length) (T:=e) (fr:=fr) (b:=g) (by simpa [Nat.add_assoc] using p5) i (pre.length+xs.length*K.sz) 0 (pre++u++l) w rfl ae (by simp only [List.length_append]; omega) (tu on)
    obtain ⟨F,ju⟩:=Join.of_disj (h1:=ab) (h2:=a7) (fun b=>by
     rcases hj.disj b with f | f
     ·exact .inl ((jo.is_none b).1 f).2
     ·refine .inr ?_
      cases hh:a7 b with
      | none=>rfl
      | some o=>rw [a9 b o hh] at f; cases f)
    have E:∀ b o,F b=some o→M b=some o∧b≠g:=fun b o e=>by
     rcases ju.cases e with ⟨e,_⟩|⟨e,_⟩
     ·refine ⟨hj.left b o (jo.right b o e),?_⟩
      rintro rfl
      rcases jo.disj b with f | f
      ·simp [Hp.one] at f
      ·rw [f] at e; cases e
     ·refine ⟨hj.right b o (a9 b o e),?_⟩
      rintro rfl
      rcases hj.disj b with f | f
      ·have:=((jo.is_none b).1 f).1
       simp [Hp.one] at this
      ·rw [a9 b o e] at f; cases f
    obtain ⟨Y,jn⟩:=Join.of_disj (h1:=Hp.one g (.cells (pre++(u++i)++l.drop i.length).toArray e fr)) (h2:=F) (fun b=>by
     by_cases a4:b=g
     ·refine .inr ?_
      cases hh:F b with
      | none=>rfl
      | some o=>exact absurd a4 (E b o hh).2
     ·exact .inl (by simp [Hp.one,a4]))
    have am:(pre++u++l).take (pre.length+xs.length*K.sz+0)++i++(pre++u++l).drop (pre.length+xs.length*K.sz+0+i.length)=pre++(u++i)++l.drop i.length:=by
     have h1:pre.length+xs.length*K.sz+0=(pre++u).length:=by simp [ap]
     rw [h1,List.take_left,List.drop_append,List.drop_of_length_le (by omega),Nat.add_sub_cancel_left]
     simp [List.append_assoc]
    rw [am] at e'
    refine ⟨some ⟨g,pre.length,none⟩,c,w',Y,?_,sm,.inr ⟨g,c,pre,u++i,l.drop i.length,fr,F,rfl,by rw [D]; exact hroom,p3,?_,?_,jn,n5 ju ol on⟩,?_,?_,?_⟩
    ·have hf:=run_firstCells_some (P:=P) w info.size ys.length ⟨g2,o2,none⟩ ys.length cx i a3 U
     rw [hs] at hf
     simp [Builtin.append_,run_underlying hu,sizeOf,typeInfo,hi,Builtin.lenOf,hroom,hf,gH,hs,r,Sem.run_bind]
    ·rw [List.length_drop,p4,an,← Nat.sub_mul,D]
     congr 1
     omega
    ·rcases p5 with p5 | p5
     ·exact .inl p5
     ·refine .inr ?_
      simp only [List.length_append,List.length_drop]
      omega
    ·intro b o e
     rcases jn.cases e with ⟨e1,_⟩|⟨e1,_⟩
     ·simp only [Hp.one] at e1
      split at e1
      ·rename_i a4; subst a4; rw [← Option.some.inj e1]; exact e'
      ·cases e1
     ·obtain ⟨q1,q2⟩:=E b o e1
      rw [ot b q2]
      exact a2 b o q1
    ·intro k hk
     refine .inl fun hn=>hk ((jn.is_none k).2 ⟨?_,?_⟩)
     ·have:=((jo.is_none k).1 ((hj.is_none k).1 hn).1).1
      simp only [Hp.one] at *
      split at this
      ·cases this
      ·rename_i ai; rw [if_neg ai]
     ·cases hh:F k with
      | none=>rfl
      | some o=>rw [(E k o hh).1] at hn; cases hn
    ·intro k o hk e
     have ai:k≠g:=by
      rintro rfl
      have:=((jo.is_none k).1 ((hj.is_none k).1 hk).1).1
      simp [Hp.one] at this
     rw [ot k ai]
     exact e
   ·have ak:∀ (j:Nat) (v:Value),u[j]?=some v→w.cell? ((⟨g,pre.length,none⟩:Addr).add j)=some v:=fun j v hv=>by
     have a5:=(List.getElem?_eq_some_iff.1 hv).1
     rw [gH]
     simp only [World.cell?,ae,Option.isSome_none,Bool.false_eq_true,if_false,List.getElem?_toArray]
     rw [List.append_assoc,List.getElem?_append_right (by omega),Nat.add_sub_cancel_left,List.getElem?_append_left a5]
     exact hv
    have hr:=run_append_grow (P:=P) w t ty e info zv hu hi hzz ⟨g,pre.length,none⟩ xs.length c u (by rw [ap,hs]) ak ⟨g2,o2,none⟩ ys.length cx i a3 U (by omega) (by omega) (by rw [hb]; exact growslice_fits (by omega) hl)
    obtain ⟨Y,f1,f2,f3⟩:=a1 c u ab (by omega) jo.right ol
    rw [← D] at hr
    rw [D] at hr f1
    refine ⟨_,_,_,Y,by rw [D]; exact hr,aa _,by rw [D]; exact f1,f2,f3,a8 _⟩
end Go.Pg
