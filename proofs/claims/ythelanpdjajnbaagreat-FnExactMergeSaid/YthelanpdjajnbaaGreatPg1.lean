import Derived.WalkKit
import Derived.Deep.LoopGhost
import Derived.Test.YthelanpdjajnbaaGreatPgF
set_option linter.unusedVariables false
set_option linter.unusedSimpArgs false
namespace Go.Pg
abbrev dI:=Nat→Value
def kI (σ:dI)(d:Nat)(v:Value):dI:=fun t=>cond (Nat.beq t d) v (σ t)
def gV (σ:dI):Option Nat→Value→dI
 | some d,v=>kI σ d v
 | none,_=>σ
def pJ (σ:dI):List (Nat×Value)→dI
 | []=>σ
 | (d,v)::l=>kI (pJ σ l) d v
def fL (a:Act):dI:=fun t=>a.tmps.getD t undef
def ev (σ:dI):Operand→Value
 | .tmp t=>σ t
 | .const v=>v
 | .global g=>.pointer (some ⟨g,0,none⟩)
 | .func f=>.func (.func f) #[] #[]
theorem kc (a:Act):a.eval=ev (fL a):=by
 funext x
 cases x<;>rfl
theorem oO (σ:dI)(d:Nat)(v:Value):kI σ d v d=v:=by simp [kI]
theorem sk (σ:dI){d t:Nat}(v:Value)(h:t≠d):kI σ d v t=σ t:=by
 have:Nat.beq t d=false:=by
  cases hb:Nat.beq t d with
  | false=>rfl
  | true=>exact absurd (Nat.eq_of_beq_eq_true hb) h
 simp [kI,this]
theorem sn (σ:dI)(d:Nat){v:Value}(h:σ d=v):kI σ d v=σ:=by
 funext t
 by_cases e:t=d
 ·subst e; rw [oO,h]
 ·rw [sk _ _ e]
theorem kr (a:Act)(b:Option Tmp)(v:Value)(h:∀ d,b=some d→d<a.tmps.size):fL (a.put b v)=gV (fL a) b v:=by
 cases b with
 | none=>rfl
 | some d =>
  funext t
  show (a.tmps.setIfInBounds d v).getD t undef=kI (fL a) d v t
  have i:=h d rfl
  by_cases e:t=d
  ·subst e
   rw [oO]
   simp [Array.getD_eq_getD_getElem?,i]
  ·rw [sk _ _ e]
   have g:¬ d=t:=fun h=>e h.symm
   simp [fL,Array.getD_eq_getD_getElem?,Array.getElem?_setIfInBounds,g]
structure Nn where
 n:Nat
 ds:List Deferred
 alt:Act→World→Prop
@[reducible] def Nn.of (n:Nat):Nn:=⟨n,[],fun _ _=>False⟩
def hL (N:Nn)(Q:Exit→dI→World→Prop):Exit→Act→World→Prop:=fun e a w=>(a.tmps.size=N.n∧a.defers=N.ds∧Q e (fL a) w)∨(e=.ret∧N.alt a w)
theorem gD {N:Nn}{Q:Exit→dI→World→Prop}{e:Exit}{a:Act}{w:World}(h:hL N Q e a w)(b:e≠.ret):a.tmps.size=N.n∧a.defers=N.ds∧Q e (fL a) w:=h.resolve_right fun h=>b h.1
theorem nI {N:Nn}{Q Q':Exit→dI→World→Prop}{e:Exit}{a:Act}{w:World}(h:hL N Q e a w)(g:Q e (fL a) w→Q' e (fL a) w):hL N Q' e a w:=h.imp (fun ⟨a,b,c⟩=>⟨a,b,g c⟩) id
def W (P:Program)(N:Nn)(c:Code)(Q:Exit→dI→World→Prop)(σ:dI)(w:World):Prop :=
 ∀ a:Act,a.tmps.size=N.n→a.defers=N.ds→fL a=σ→c.wp P (hL N Q) a w
def WL (P:Program)(N:Nn)(ops:Array Oper)(rest:List Oper)(Q:Exit→dI→World→Prop)(σ:dI)(w:World):Prop :=
 ∀ a:Act,a.tmps.size=N.n→a.defers=N.ds→fL a=σ→wpList P ops (hL N Q) rest a w
def iU (N:Nn):Option Nat→Bool
 | some d=>Nat.blt d N.n
 | none=>true
def lE (ops:Array Oper)(σ:dI)(j:Nat):Option Bool :=
 match (ops[j]?).bind (·.dst) with
 | some d=>match σ d with
  | .bool b=>some b
  | _=>none
 | none=>none
theorem oP (ops:Array Oper)(a:Act)(j:Nat):yielded ops a.tmps j=lE ops (fL a) j:=by
 unfold yielded lE
 cases h:(ops[j]?).bind (·.dst) with
 | none=>rfl
 | some d =>
  simp only [Option.bind_some,fL,Array.getD_eq_getD_getElem?]
  cases ht:a.tmps[d]? with
  | none=>simp [undef]
  | some v=>cases v<;>simp
def dY (ops:Array Oper)(σ:dI)(o:Oper):Bool :=
 match o.guard with
 | none=>true
 | some (j,b)=>lE ops σ j==some b
theorem jI (ops:Array Oper)(a:Act)(o:Oper):Region.wanted o (yielded ops a.tmps)=dY ops (fL a) o:=by
 unfold Region.wanted dY
 cases o.guard with
 | none=>rfl
 | some g=>simp only [oP]
section
variable {P:Program}{n:Nn}{ops:Array Oper}{rest:List Oper}{o:Oper}{Q Q':Exit→dI→World→Prop}{σ:dI}{w:World}{c x y:Code}
theorem W.mono (h:W P n c Q σ w)(g:∀ e σ w,Q e σ w→Q' e σ w):W P n c Q' σ w :=
 fun a h1 h2 b=>wp_mono (h a h1 h2 b) fun _ _ _ q=>nI q (g _ _ _)
def iN (K:dI→World→Prop)(Q:Exit→dI→World→Prop):Exit→dI→World→Prop
 | .normal,σ,w=>K σ w
 | e,σ,w=>Q e σ w
def jK (a:Nat)(Q:Exit→dI→World→Prop):Exit→dI→World→Prop
 | .exit id',σ,w=>cond (Nat.beq id' a) (Q .normal σ w) (Q (.exit id') σ w)
 | e,σ,w=>Q e σ w
theorem yR (h:W P n x (iN (fun σ w=>W P n y Q σ w) Q) σ w):W P n (.seq x y) Q σ w:=by
 intro a h1 h2 g
 refine wp_seq (wp_mono (h a h1 h2 g) ?_)
 rintro e b m q
 cases e with
 | normal =>
  obtain ⟨i,j,l⟩:=gD q (by simp)
  exact l b i j rfl
 | _=>exact q
theorem wY (h:Q .normal σ w):W P n .skip Q σ w:=fun a h1 h2 b=>wp_skip (.inl ⟨h1,h2,b▸h⟩)
theorem yS (h:Q .ret σ w):W P n .ret Q σ w:=fun a h1 h2 b=>wp_ret (.inl ⟨h1,h2,b▸h⟩)
theorem wZ {b:Nat}(h:Q (.exit b) σ w):W P n (.exit b) Q σ w:=fun a h1 h2 e=>wp_exit (.inl ⟨h1,h2,e▸h⟩)
theorem sq {k:Operand}{b:Bool}(g:ev σ k=.bool b)(h:W P n (cond b x y) Q σ w):W P n (.cond k x y) Q σ w:=by
 intro a h1 h2 e
 refine wp_cond (t:=b) (by rw [kc,e]; exact g) ?_
 cases b
 ·exact h a h1 h2 e
 ·exact h a h1 h2 e
theorem uJ {b:Nat}(h:W P n c (jK b Q) σ w):W P n (.block b c) Q σ w:=by
 intro a h1 h2 r
 refine wp_block (wp_mono (h a h1 h2 r) ?_)
 rintro e i m q
 cases e with
 | exit id' =>
  obtain ⟨j,l,g⟩:=gD q (by simp)
  unfold jK at g
  show if id'=b then hL n Q .normal i m else hL n Q (.exit id') i m
  by_cases e:id'=b
  ·subst e
   rw [if_pos rfl]
   have:Nat.beq id' id'=true:=Nat.beq_refl id'
   simp only [this,cond_true] at g
   exact .inl ⟨j,l,g⟩
  ·rw [if_neg e]
   have:Nat.beq id' b=false:=by
    cases hb:Nat.beq id' b with
    | false=>rfl
    | true=>exact absurd (Nat.eq_of_beq_eq_true hb) e
   simp only [this,cond_false] at g
   exact .inl ⟨j,l,g⟩
 | _=>exact q
theorem sr {e:Nat}{l:List Oper}(h:WL P n l.toArray l Q σ w):W P n (.region e l.toArray false) Q σ w :=
 fun a h1 h2 b=>wp_region_lit (h a h1 h2 b)
theorem x0 (h:Q .normal σ w):WL P n ops [] Q σ w:=fun a h1 h2 b=>wpList_nil (.inl ⟨h1,h2,b▸h⟩)
theorem x5 (I:Nat→dI→World→Prop)(k:Nat)(l:I k σ w)
  (b:∀ k σ w,I k σ w→W P n c (iN (fun σ' h=>∃ g,g<k∧I g σ' h) Q) σ w):W P n (.loop c) Q σ w:=by
 intro a h1 h2 m
 refine wp_loop_ghost (fun k a w=>a.tmps.size=n.n∧a.defers=n.ds∧I k (fL a) w) k ⟨h1,h2,m▸l⟩ ?_
 rintro k a w ⟨g1,i,j⟩
 refine wp_mono (b k _ w j a g1 i rfl) ?_
 rintro e D h q
 cases e with
 | normal =>
  obtain ⟨u,B,g,s,r⟩:=gD q (by simp)
  exact ⟨g,s,u,B,r⟩
 | _=>exact q
def Ba (P:Program)(o:Oper)(σ:dI)(a:dI→World→Prop)(Q:Exit→dI→World→Prop):Result Next→Prop
 | .ok (.value v) w'=>a (gV σ o.dst v) w'
 | .ok .skip w'=>a (gV σ o.dst undef) w'
 | .ok (.enter f args) w'=>Calls P f args w' fun
   | .returned v,w''=>a (gV σ o.dst v) w''
   | .panicked chain,w''=>Q (.panic chain) σ w''
   | .outgrown,_=>False
 | .halt (.panic v) w'=>Q (.panic [{v,recovered:=false}]) σ w'
 | _=>False
theorem Calls.mono' {P:Program}{f:FuncId}{args:Array Value}{w:World}{R b:Ending→World→Prop}(h:Calls P f args w R)(g:∀ e a,R e a→b e a):Calls P f args w b :=
 fun cs=>let ⟨e,a,fr,r,s⟩:=h cs; ⟨e,a,fr,g _ _ r,s⟩
theorem eW (q:iU n o.dst=true)(hw:dY ops σ o=true)(h:Ba P o σ (fun σ w=>WL P n ops rest Q σ w) Q ((execOp (ev σ) o).run P w)):WL P n ops (o::rest) Q σ w:=by
 intro a h1 h2 j
 refine wpList_step fun K l=>?_
 rw [jI,j,hw,if_pos rfl]
 have b:∀ v,fL (a.put o.dst v)=gV σ o.dst v:=fun v=>by
  rw [kr,j]
  intro d e
  rw [e] at q
  rw [h1]
  exact Nat.lt_of_lt_of_le (Nat.lt_succ_self _) (Nat.le_of_ble_eq_true q)
 have i:∀ v,(a.put o.dst v).tmps.size=n.n:=fun v=>by
  cases hdd:o.dst with
  | none=>exact h1
  | some d=>show (a.tmps.setIfInBounds d v).size=n.n; rw [Array.size_setIfInBounds,h1]
 have g:∀ v,(a.put o.dst v).defers=n.ds:=fun v=>by
  cases hdd:o.dst with
  | none=>exact h2
  | some d=>exact h2
 unfold Oper.wp
 rw [kc,j]
 revert h
 generalize (execOp (ev σ) o).run P w=r
 intro h
 match r,h with
 | .ok (.value v) w',h=>exact l _ _ (h _ (i v) (g v) (b v))
 | .ok .skip w',h=>exact l _ _ (h _ (i _) (g _) (b _))
 | .ok (.enter f args) w',h =>
  refine Calls.mono' h ?_
  intro e s m
  cases e with
  | returned v=>exact l _ _ (m _ (i v) (g v) (b v))
  | panicked chain=>exact .inl ⟨h1,h2,j▸m⟩
  | outgrown=>exact m.elim
 | .halt (.panic v) w',h=>exact .inl ⟨h1,h2,j▸h⟩
theorem x7 (g:iU n o.dst=true)(hw:dY ops σ o=false)(h:WL P n ops rest Q (gV σ o.dst undef) w):WL P n ops (o::rest) Q σ w:=by
 intro a h1 h2 b
 refine wpList_step fun K i=>?_
 rw [jI,b,hw]
 simp only [Bool.false_eq_true,if_false]
 refine i _ _ (h _ ?_ ?_ ?_)
 ·cases hdd:o.dst with
  | none=>exact h1
  | some d=>show (a.tmps.setIfInBounds d _).size=n.n; rw [Array.size_setIfInBounds,h1]
 ·cases hdd:o.dst with
  | none=>exact h2
  | some d=>exact h2
 ·rw [kr,b]
  intro d e
  rw [e] at g
  rw [h1]
  exact Nat.lt_of_lt_of_le (Nat.lt_succ_self _) (Nat.le_of_ble_eq_true g)
end
def iF (fn:Func)(σ:dI):Sem Value:=do
 let vs ← fn.results.mapM fun
  | .tmp t=>pure (σ t)
  | .cell a t=>do loadVar t (← asAddr (σ a))
 pure (if h:vs.size=1 then vs[0] else .tuple vs)
def mM (P:Program)(fn:Func)(R:Value→World→Prop):Exit→dI→World→Prop
 | .normal,σ,w | .ret,σ,w=>∃ v,(iF fn σ).run P w=.ok v w∧R v w
 | _,_,_=>False
def su (args:Array Value):dI:=fun t=>args.getD t undef
theorem qB {args:Array Value}{n:Nat}:fL {tmps:=args++Array.replicate (n - args.size) undef,defers:=[]}=su args:=by
 funext t
 simp only [fL,su,Array.getD_eq_getD_getElem?,Array.getElem?_append]
 split
 ·rfl
 ·rename_i a
  rw [Array.getElem?_eq_none (by omega:args.size≤t)]
  by_cases h2:t - args.size<n - args.size
  ·simp [h2]
  ·simp [h2]
theorem pK {P:Program}{f:FuncId}{fn:Func}{c:Code}{args:Array Value}{w:World}{R:Value→World→Prop}
  (r:P.funcs[f]?=some fn) (m:fn.body=some c) (s:args.size≤fn.ntmps) (h:W P (.of fn.ntmps) c (mM P fn R) (su args) w) :
  Calls P f args w fun e l=>∃ v,e=.returned v∧R v l:=by
 refine calls_of_wp r m ?_
 refine wp_mono (h _ (by simp; omega) rfl ?_) ?_
 ·exact qB
 ·rintro e a l q
  obtain ⟨u,j,i⟩:=q.resolve_right fun h=>h.2
  cases e with
  | normal =>
   obtain ⟨v,g,b⟩:=i
   exact ⟨j,v,g,v,rfl,b⟩
  | ret =>
   obtain ⟨v,g,b⟩:=i
   exact ⟨j,v,g,v,rfl,b⟩
  | _=>exact i.elim
end Go.Pg
namespace Go.Pg
abbrev Hp:=Nat→Option Obj
def Hp.none:Hp:=fun _=>Option.none
def Hp.one (b:Nat)(o:Obj):Hp:=fun k=>if k=b then some o else Option.none
def Hp.le (h g:Hp):Prop:=∀ b o,h b=some o→g b=some o
def Join (h1 h2 g:Hp):Prop:=∀ b,(h1 b=Option.none∧g b=h2 b)∨(h2 b=Option.none∧g b=h1 b)
theorem Hp.le_refl (h:Hp):Hp.le h h:=fun _ _ e=>e
theorem Hp.le_trans {f g h:Hp}(a:Hp.le f g)(b:Hp.le g h):Hp.le f h:=fun _ _ e=>b _ _ (a _ _ e)
theorem Hp.none_le (h:Hp):Hp.le Hp.none h:=fun _ _ e=>by cases e
theorem Join.symm {h1 h2 g:Hp}(j:Join h1 h2 g):Join h2 h1 g:=fun b=>(j b).symm
theorem Join.none (h:Hp):Join Hp.none h h:=fun b=>.inl ⟨rfl,rfl⟩
theorem Join.none' (h:Hp):Join h Hp.none h:=(Join.none h).symm
theorem Join.eq_of_none {h g:Hp}(j:Join Hp.none h g):g=h:=by
 funext b
 rcases j b with ⟨_,e⟩|⟨a,e⟩
 ·exact e
 ·rw [e,a]; rfl
theorem Join.left {h1 h2 g:Hp}(j:Join h1 h2 g):Hp.le h1 g:=fun b o e=>by
 rcases j b with ⟨a,_⟩|⟨_,h⟩
 ·rw [a] at e; cases e
 ·rw [h]; exact e
theorem Join.right {h1 h2 g:Hp}(j:Join h1 h2 g):Hp.le h2 g:=j.symm.left
theorem Join.of_disj {h1 h2:Hp}(d:∀ b,h1 b=Option.none∨h2 b=Option.none):∃ g,Join h1 h2 g:=by
 refine ⟨fun b=>(h1 b).or (h2 b),fun b=>?_⟩
 rcases d b with e | e
 ·exact .inl ⟨e,by simp [e]⟩
 ·refine .inr ⟨e,by simp [e]⟩
theorem Join.disj {h1 h2 g:Hp}(j:Join h1 h2 g)(b:Nat):h1 b=Option.none∨h2 b=Option.none:=by
 rcases j b with ⟨e,_⟩|⟨e,_⟩
 ·exact .inl e
 ·exact .inr e
theorem Join.cases {h1 h2 g:Hp}(j:Join h1 h2 g){b:Nat}{o:Obj}(e:g b=some o):(h1 b=some o∧h2 b=Option.none)∨(h2 b=some o∧h1 b=Option.none):=by
 rcases j b with ⟨a,c⟩|⟨a,c⟩
 ·exact .inr ⟨c▸e,a⟩
 ·exact .inl ⟨c▸e,a⟩
theorem Join.is_none {h1 h2 g:Hp}(j:Join h1 h2 g)(b:Nat):g b=Option.none↔h1 b=Option.none∧h2 b=Option.none:=by
 rcases j b with ⟨a,c⟩|⟨a,c⟩
 ·rw [c]; exact ⟨fun h=>⟨a,h⟩,fun h=>h.2⟩
 ·rw [c]; exact ⟨fun h=>⟨h,a⟩,fun h=>h.1⟩
theorem Join.assoc {a b c s g:Hp}(u:Join a b s)(r:Join s c g):∃ m,Join b c m∧Join a m g:=by
 obtain ⟨m,i⟩:=Join.of_disj (h1:=b) (h2:=c) (fun k=>by
  rcases r.disj k with e | e
  ·exact .inl ((u.is_none k).1 e).2
  ·exact .inr e)
 refine ⟨m,i,fun k=>?_⟩
 rcases u k with ⟨q,l⟩|⟨q,l⟩
 ·refine .inl ⟨q,?_⟩
  rcases r k with ⟨f1,j⟩|⟨f1,j⟩
  ·rw [j]
   rcases i k with ⟨g1,h⟩|⟨g1,h⟩
   ·exact h.symm
   ·rw [g1,h]; rw [l] at f1; exact f1.symm
  ·rw [j,l]
   rcases i k with ⟨g1,h⟩|⟨g1,h⟩
   ·rw [h,f1]; exact g1
   ·exact h.symm
 ·rcases r k with ⟨f1,j⟩|⟨f1,j⟩
  ·rw [l] at f1
   refine .inl ⟨f1,?_⟩
   rw [j]
   rcases i k with ⟨g1,h⟩|⟨g1,h⟩
   ·exact h.symm
   ·rw [g1,h,q]
  ·refine .inr ⟨?_,by rw [j,l]⟩
   rcases i k with ⟨g1,h⟩|⟨g1,h⟩
   ·rw [h,f1]
   ·rw [h,q]
theorem Join.assoc' {a b c h g:Hp}(j:Join b c h)(l:Join a h g):∃ e,Join a b e∧Join e c g:=by
 obtain ⟨i,h1,h2⟩:=Join.assoc j.symm l.symm
 exact ⟨i,h1.symm,h2.symm⟩
structure HP where
 p:Hp→Hp→Prop
 mono:∀ {I J h},Hp.le I J→p I h→p J h
def Bb:HP:=⟨fun _ h=>h=Hp.none,fun _ e=>e⟩
def fD:List HP→Hp→Hp→Prop
 | [],_,h=>h=Hp.none
 | q::V,I,h=>∃ h1 h2,Join h1 h2 h∧q.p I h1∧fD V I h2
theorem iV {V:List HP}{I J h:Hp}(l:Hp.le I J)(s:fD V I h):fD V J h:=by
 induction V generalizing h with
 | nil=>exact s
 | cons q V ih =>
  obtain ⟨h1,h2,j,a,b⟩:=s
  exact ⟨h1,h2,j,q.mono l a,ih b⟩
def lk:List HP→Nat→HP
 | [],_=>Bb
 | q::_,0=>q
 | _::V,i+1=>lk V i
def wm:List HP→Nat→HP→List HP
 | [],_,q=>[q]
 | _::V,0,q=>q::V
 | p::V,i+1,q=>p::wm V i q
def rm:List HP→Nat→List HP
 | [],_=>[]
 | _::V,0=>V
 | p::V,i+1=>p::rm V i
def mv (V:List HP)(i:Nat):List HP:=lk V i::rm V i
theorem fG {V:List HP}{I h:Hp}(i:Nat)(s:fD V I h):∃ h1 h2,Join h1 h2 h∧(lk V i).p I h1∧fD (rm V i) I h2:=by
 induction V generalizing h i with
 | nil=>exact ⟨Hp.none,h,Join.none h,rfl,s⟩
 | cons q V ih =>
  cases i with
  | zero=>exact s
  | succ i =>
   obtain ⟨h1,h2,j,a,b⟩:=s
   obtain ⟨g1,e,g,c,d⟩:=ih i b
   obtain ⟨k,k1,l⟩:=Join.assoc' g j
   obtain ⟨m,r,u⟩:=Join.assoc k1.symm l
   exact ⟨g1,m,u,c,h1,e,r,a,d⟩
theorem oQ {V:List HP}{I h h1 h2:Hp}(i:Nat){q:HP}(j:Join h1 h2 h)(a:q.p I h1)(b:fD (rm V i) I h2):fD (wm V i q) I h:=by
 induction V generalizing h h2 i with
 | nil=>exact ⟨h1,h2,j,a,b⟩
 | cons p V ih =>
  cases i with
  | zero=>exact ⟨h1,h2,j,a,b⟩
  | succ i =>
   obtain ⟨g1,s,e,c,d⟩:=b
   obtain ⟨k,k1,g⟩:=Join.assoc' e j
   obtain ⟨m,l,r⟩:=Join.assoc k1.symm g
   exact ⟨g1,m,r,c,ih i l d⟩
theorem uK {V:List HP}{I h:Hp}(i:Nat)(s:fD V I h):fD (mv V i) I h:=fG i s
theorem cS {A V:List HP}{I h:Hp}:fD (A++V) I h↔∃ h1 h2,Join h1 h2 h∧fD A I h1∧fD V I h2:=by
 induction A generalizing h with
 | nil=>exact ⟨fun s=>⟨Hp.none,h,Join.none h,rfl,s⟩,fun ⟨h1,h2,j,a,b⟩=>by cases a; rw [j.eq_of_none]; exact b⟩
 | cons q A ih =>
  constructor
  ·rintro ⟨h1,h2,j,a,b⟩
   obtain ⟨g1,e,g,c,d⟩:=ih.1 b
   obtain ⟨k,k1,i⟩:=Join.assoc' g j
   exact ⟨k,e,i,⟨h1,g1,k1,a,c⟩,d⟩
  ·rintro ⟨h1,h2,j,⟨g1,e,g,a,b⟩,c⟩
   obtain ⟨k,k1,i⟩:=Join.assoc g j
   exact ⟨g1,k,i,a,ih.2 ⟨e,h2,k1,b,c⟩⟩
def Le (g:Hp)(w:World):Prop:=∀ b o,g b=some o→w.heap[b]?=some o
structure Same (C w:World):Prop where
 os:w.os=C.os
 tape:w.tape=C.tape
 output:w.output=C.output
def St (C w:World)(V:List HP):Prop:=Same C w∧∃ I h g,Join I h g∧Le g w∧fD V I h
theorem Le.lt {g:Hp}{w:World}(l:Le g w){b:Nat}(h:g b≠Option.none):b<w.heap.size:=by
 cases e:g b with
 | none=>exact absurd e h
 | some o=>exact (Array.getElem?_eq_some_iff.1 (l b o e)).1
theorem Le.mono {g a:Hp}{w:World}(l:Le g w)(h:Hp.le a g):Le a w:=fun b o e=>l b o (h b o e)
theorem Le.alloc {g:Hp}{w:World}(l:Le g w)(o:Obj):Le g (w.alloc o):=fun b o' e=>by
 have a:=l.lt (b:=b) (by rw [e]; exact fun h=>by cases h)
 show (w.heap.push o)[b]?=some o'
 rw [Array.getElem?_push,if_neg (Nat.ne_of_lt a)]
 exact l b o' e
theorem Same.alloc {C w:World}(s:Same C w)(o:Obj):Same C (w.alloc o):=⟨s.os,s.tape,s.output⟩
theorem Same.setCell {C w:World}(s:Same C w)(a:Addr)(v:Value):Same C (w.setCell a v):=⟨s.os,s.tape,s.output⟩
theorem Same.drew {C w:World}(s:Same C w):Same C w.drew:=⟨s.os,s.tape,s.output⟩
theorem St.mv {C w:World}{V:List HP}(s:St C w V)(i:Nat):St C w (mv V i):=by
 obtain ⟨a,I,h,g,j,l,s⟩:=s
 exact ⟨a,I,h,g,j,l,uK i s⟩
theorem St.rm {C w:World}{V:List HP}(s:St C w V)(i:Nat):St C w (rm V i):=by
 obtain ⟨a,I,h,g,j,l,s⟩:=s
 obtain ⟨h1,h2,b,_,s'⟩:=fG i s
 obtain ⟨k,k1,e⟩:=Join.assoc' b j
 obtain ⟨m,q,r⟩:=Join.assoc k1.symm e
 exact ⟨a,I,h2,m,q,l.mono r.right,s'⟩
theorem St.drew {C w:World}{V:List HP}(s:St C w V):St C w.drew V:=by
 obtain ⟨a,I,h,g,j,l,s⟩:=s
 exact ⟨a.drew,I,h,g,j,l,s⟩
theorem St.look {C w:World}{V:List HP}(s:St C w V)(i:Nat):∃ I h,(lk V i).p I h∧Le I w∧Le h w∧(∀ b,I b=Option.none∨h b=Option.none):=by
 obtain ⟨a,I,h,g,j,l,s⟩:=s
 obtain ⟨h1,h2,m,c,s'⟩:=fG i s
 exact ⟨I,h1,c,l.mono j.left,l.mono (Hp.le_trans m.left j.right),fun b=>by
  rcases j.disj b with e | e
  ·exact .inl e
  ·exact .inr ((m.is_none b).1 e).1⟩
theorem St.turn {C w G:World}{V:List HP}(s:St C w V)(i:Nat){q:HP}(hs:Same C w→Same C G)
  (f:∀ I h,(lk V i).p I h→Le I w→Le h w→∃ r,q.p I r∧Le r G∧(∀ b,r b≠Option.none→h b≠Option.none∨w.heap.size≤b)∧∀ b o,h b=Option.none→w.heap[b]?=some o→G.heap[b]?=some o) :
  St C G (wm V i q):=by
 obtain ⟨a,I,h,g,j,l,s⟩:=s
 obtain ⟨h1,h2,u,c,s'⟩:=fG i s
 obtain ⟨r,hq,Y,Z,L⟩:=f I h1 c (l.mono j.left) (l.mono (Hp.le_trans u.left j.right))
 have F:∀ b,r b≠Option.none→I b=Option.none∧h2 b=Option.none:=by
  intro b U
  rcases Z b U with e | e
  ·refine ⟨?_,?_⟩
   ·rcases j.disj b with f | f
    ·exact f
    ·exact absurd ((u.is_none b).1 f).1 e
   ·rcases u.disj b with f | f
    ·exact absurd f e
    ·exact f
  ·have:g b=Option.none:=by
    cases hg:g b with
    | none=>rfl
    | some o =>
     have:=(l.lt (b:=b) (by rw [hg]; exact fun h=>by cases h))
     omega
   have:=(j.is_none b).1 this
   exact ⟨this.1,((u.is_none b).1 this.2).2⟩
 obtain ⟨m,J⟩:=Join.of_disj (h1:=r) (h2:=h2) (fun b=>by
  by_cases e:r b=Option.none
  ·exact .inl e
  ·exact .inr (F b e).2)
 obtain ⟨T,E⟩:=Join.of_disj (h1:=I) (h2:=m) (fun b=>by
  by_cases e:r b=Option.none
  ·rcases j.disj b with f | f
   ·exact .inl f
   ·exact .inr ((J.is_none b).2 ⟨e,((u.is_none b).1 f).2⟩)
  ·exact .inl (F b e).1)
 refine ⟨hs a,I,m,T,E,?_,oQ i J hq s'⟩
 intro b o e
 rcases E.cases e with ⟨B,M⟩|⟨B,M⟩
 ·refine L b o ?_ (l b o (j.left b o B))
  rcases j.disj b with f | f
  ·rw [f] at B; cases B
  ·exact ((u.is_none b).1 f).1
 ·rcases J.cases B with ⟨D,O⟩|⟨D,O⟩
  ·exact Y b o D
  ·refine L b o ?_ (l b o (j.right b o (u.right b o D)))
   rcases u.disj b with f | f
   ·exact f
   ·rw [f] at D; cases D
theorem St.new {C w m:World}{V:List HP}(s:St C w V){q:HP}(B:Same C w→Same C m)
  (f:∀ I,Le I w→∃ i,q.p I i∧Le i m∧(∀ b,i b≠Option.none→w.heap.size≤b)) (u:∀ (b:Nat) (o:Obj),w.heap[b]?=some o→m.heap[b]?=some o) :
  St C m (q::V):=by
 have D:St C w (Bb::V):=by
  obtain ⟨a,I,h,g,j,l,s⟩:=s
  exact ⟨a,I,h,g,j,l,Hp.none,h,Join.none h,rfl,s⟩
 refine St.turn D 0 B ?_
 rintro I h e lI _
 obtain ⟨i,a,b,c⟩:=f I lI
 exact ⟨i,a,b,fun k r=>.inr (c k r),fun b o _ e=>u b o e⟩
theorem St.imp {C w:World}{A B V:List HP}(s:St C w (A++V))(f:∀ I h,Le I w→Le h w→fD A I h→fD B I h):St C w (B++V):=by
 obtain ⟨a,I,h,g,j,l,s⟩:=s
 obtain ⟨h1,h2,b,c,d⟩:=cS.1 s
 exact ⟨a,I,h,g,j,l,cS.2 ⟨h1,h2,b,f I h1 (l.mono j.left) (l.mono (Hp.le_trans b.left j.right)) c,d⟩⟩
theorem St.share {C w:World}{p q:HP}{V:List HP}(s:St C w (p::V))(f:∀ I J h,Hp.le I J→Hp.le h J→p.p I h→q.p J Hp.none):St C w (q::V):=by
 obtain ⟨a,I,h,g,j,l,h1,h2,b,c,d⟩:=s
 obtain ⟨k,k1,e⟩:=Join.assoc' b j
 exact ⟨a,k,h2,g,e,l,Hp.none,h2,Join.none h2,f I k h1 k1.left k1.right c,iV k1.left d⟩
end Go.Pg
namespace Go.Pg
def iX (g:Hp)(b k:Nat):Option Value :=
 match g b with
 | some (.cells c _ _)=>c[k]?
 | _=>none
theorem kJ {g a:Hp}(l:Hp.le g a){b k:Nat}{v:Value}(h:iX g b k=some v):iX a b k=some v:=by
 unfold iX at *
 cases e:g b with
 | none=>rw [e] at h; cases h
 | some o=>rw [l b o e]; rw [e] at h; exact h
theorem iW {g:Hp}{w:World}(l:Le g w){b k:Nat}{v:Value}(h:iX g b k=some v):w.cell? ⟨b,k,none⟩=some v:=by
 unfold iX at h
 cases e:g b with
 | none=>rw [e] at h; cases h
 | some o =>
  have:=l b o e
  rw [e] at h
  cases o<;>simp at h
  simp [World.cell?,this,h]
structure Kind (α:Type) where
 sz:Nat
 rd:Hp→α→List Value→Prop
 own:Hp→Hp→α→List Value→Prop
 rd_mono:∀ {I J x cs},Hp.le I J→rd I x cs→rd J x cs
 own_mono:∀ {I J h x cs},Hp.le I J→own I h x cs→own J h x cs
 own_rd:∀ {I J h x cs},Hp.le I J→Hp.le h J→own I h x cs→rd J x cs
 rd_len:∀ {I x cs},rd I x cs→cs.length=sz
 own_len:∀ {I h x cs},own I h x cs→cs.length=sz
 rd_one:∀ {I x cs},rd I x cs→∀ u∈cs,u.oneCell'=true
 own_one:∀ {I h x cs},own I h x cs→∀ u∈cs,u.oneCell'=true
def Kind.Closed {α:Type}(K:Kind α):Prop:=∀ I J h x cs,K.own I h x cs→K.own J h x cs
def Kind.Flat {α:Type}(K:Kind α):Prop:=∀ I x cs,K.rd I x cs→K.own I Hp.none x cs
section
variable {α:Type}(K:Kind α)
def hH (I:Hp):Hp→List α→List Value→Prop
 | h,[],cs=>h=Hp.none∧cs=[]
 | h,x::xs,cs=>∃ h1 h2 a b,Join h1 h2 h∧cs=a++b∧K.own I h1 x a∧hH I h2 xs b
theorem lF {K:Kind α}{I J:Hp}(l:Hp.le I J){h:Hp}{xs:List α}{cs:List Value}(o:hH K I h xs cs):hH K J h xs cs:=by
 induction xs generalizing h cs with
 | nil=>exact o
 | cons x xs ih =>
  obtain ⟨h1,h2,g,i,j,e,a,b⟩:=o
  exact ⟨h1,h2,g,i,j,e,K.own_mono l a,ih b⟩
theorem oR {K:Kind α}(l:K.Closed){I J:Hp}{h:Hp}{xs:List α}{cs:List Value}(o:hH K I h xs cs):hH K J h xs cs:=by
 induction xs generalizing h cs with
 | nil=>exact o
 | cons x xs ih =>
  obtain ⟨h1,h2,g,i,j,e,a,b⟩:=o
  exact ⟨h1,h2,g,i,j,e,l _ _ _ _ _ a,ih b⟩
theorem mN {K:Kind α}{I h:Hp}{xs:List α}{cs:List Value}(o:hH K I h xs cs):cs.length=xs.length*K.sz:=by
 induction xs generalizing h cs with
 | nil=>rw [o.2]; simp
 | cons x xs ih =>
  obtain ⟨h1,h2,g,i,j,e,a,b⟩:=o
  rw [e,List.length_append,K.own_len a,ih b,List.length_cons,Nat.succ_mul,Nat.add_comm]
theorem sv {K:Kind α}{I h:Hp}{xs:List α}{cs:List Value}(o:hH K I h xs cs):∀ u∈cs,u.oneCell'=true:=by
 induction xs generalizing h cs with
 | nil=>intro u g; rw [o.2] at g; cases g
 | cons x xs ih =>
  obtain ⟨h1,h2,i,l,j,e,a,b⟩:=o
  intro u g
  rw [e] at g
  rcases List.mem_append.1 g with g | g
  ·exact K.own_one a u g
  ·exact ih b u g
theorem mO {K:Kind α}{I h h1 h2:Hp}{xs ys:List α}{g i:List Value}(j:Join h1 h2 h)(a:hH K I h1 xs g)(b:hH K I h2 ys i):hH K I h (xs++ys) (g++i):=by
 induction xs generalizing h h1 g with
 | nil =>
  obtain ⟨l,m⟩:=a
  subst l; subst m
  rw [j.eq_of_none]
  exact b
 | cons x xs ih =>
  obtain ⟨g1,u,d1,d2,r,e,p,q⟩:=a
  obtain ⟨k,k1,s⟩:=Join.assoc r j
  exact ⟨g1,k,d1,d2++i,s,by rw [e,List.append_assoc],p,ih k1 q⟩
theorem pL {K:Kind α}{I h:Hp}{xs ys:List α}{cs:List Value}(o:hH K I h (xs++ys) cs):∃ h1 h2 g i,Join h1 h2 h∧cs=g++i∧hH K I h1 xs g∧hH K I h2 ys i:=by
 induction xs generalizing h cs with
 | nil=>exact ⟨Hp.none,h,[],cs,Join.none h,rfl,⟨rfl,rfl⟩,o⟩
 | cons x xs ih =>
  obtain ⟨h1,h2,g,i,j,e,a,b⟩:=o
  obtain ⟨g1,m,d1,d2,r,l,p,q⟩:=ih b
  obtain ⟨k,k1,s⟩:=Join.assoc' r j
  exact ⟨k,m,g++d1,d2,s,by rw [e,l,List.append_assoc],⟨h1,g1,g,d1,k1,rfl,a,p⟩,q⟩
theorem kY {K:Kind α}{I h:Hp}{xs:List α}{cs:List Value}(o:hH K I h xs cs){i:Nat}{x:α}(F:xs[i]?=some x) :
  ∃ a c b h1 h2,cs=a++c++b∧a.length=i*K.sz∧Join h1 h2 h∧K.own I h1 x c ∧
   ∀ s B x' u E,Hp.le I s→Join B h2 E→K.own s B x' u→hH K s E (xs.set i x') (a++u++b):=by
 have D:i<xs.length:=(List.getElem?_eq_some_iff.1 F).1
 have g:xs=xs.take i++(x::xs.drop (i+1)):=by
  have:xs.drop i=x::xs.drop (i+1):=by
   rw [List.drop_eq_getElem_cons D]
   congr 1
   rw [List.getElem?_eq_getElem D] at F
   exact Option.some.inj F
  rw [← this,List.take_append_drop]
 rw [g] at o
 obtain ⟨h1,h2,J,c2,j,e,G,g1,M,d1,d2,O,L,p,q⟩:=pL o
 obtain ⟨k,k1,U⟩:=Join.assoc' O j
 obtain ⟨m,Y,Z⟩:=Join.assoc k1.symm U
 refine ⟨J,d1,d2,g1,m,by rw [e,L,List.append_assoc],?_,Z,p,?_⟩
 ·rw [mN G,List.length_take,Nat.min_eq_left (Nat.le_of_lt D)]
 ·intro s B x' u E l T ox
  have r:xs.set i x'=xs.take i++(x'::xs.drop (i+1)):=by
   rw [List.set_eq_take_append_cons_drop,if_pos D]
  rw [r,List.append_assoc]
  obtain ⟨n,n1,n2⟩:=Join.assoc' Y T
  obtain ⟨q1,q2,q3⟩:=Join.assoc n1.symm n2
  exact mO q3 (lF l G) ⟨B,M,u,d2,q2,rfl,ox,lF l q⟩
theorem uL {K:Kind α}{I J h:Hp}{xs:List α}{cs:List Value}(o:hH K I h xs cs)(lI:Hp.le I J)(r:Hp.le h J){i:Nat}{x:α}(q:xs[i]?=some x) :
  ∃ c,K.rd J x c∧∀ k u,c[k]?=some u→cs[i*K.sz+k]?=some u:=by
 obtain ⟨a,c,b,h1,h2,e,l,j,p,_⟩:=kY o q
 refine ⟨c,K.own_rd lI (Hp.le_trans j.left r) p,fun k u g=>?_⟩
 have m:=(List.getElem?_eq_some_iff.1 g).1
 rw [e,List.append_assoc,List.getElem?_append_right (by omega),l,Nat.add_sub_cancel_left,List.getElem?_append_left m]
 exact g
def qC (I:Hp)(v:Value)(xs:List α):Prop :=
 ∃ A c,v=.slice A xs.length c∧xs.length≤c∧xs.length≤maxLen ∧
  (0<xs.length→∃ g a,A=some ⟨g,a,none⟩∧∀ j x,xs[j]?=some x→∃ cs,K.rd I x cs∧∀ i u,cs[i]?=some u→iX I g (a+j*K.sz+i)=some u)
def oS (e:Nat)(I h:Hp)(v:Value)(xs:List α):Prop :=
 (∃ A,v=.slice A 0 0∧xs=[]∧h=Hp.none) ∨
 ∃ g c pre b a fr h1,v=.slice (some ⟨g,pre.length,none⟩) xs.length c∧xs.length≤c∧c≤maxLen∧a.length=(c - xs.length)*K.sz ∧
  (fr=(0,0)∨pre.length+b.length+a.length≤fr.1)∧Join (Hp.one g (.cells (pre++b++a).toArray e fr)) h1 h∧hH K I h1 xs b
theorem mP {K:Kind α}{I J:Hp}(l:Hp.le I J){v:Value}{xs:List α}(h:qC K I v xs):qC K J v xs:=by
 obtain ⟨A,c,e,h1,h2,r⟩:=h
 refine ⟨A,c,e,h1,h2,fun B=>?_⟩
 obtain ⟨g,m,q,s⟩:=r B
 refine ⟨g,m,q,fun j x E=>?_⟩
 obtain ⟨cs,a,b⟩:=s j x E
 exact ⟨cs,K.rd_mono l a,fun i u D=>kJ l (b i u D)⟩
theorem oU {K:Kind α}{e:Nat}{I J h:Hp}(l:Hp.le I J){v:Value}{xs:List α}(o:oS K e I h v xs):oS K e J h v xs:=by
 rcases o with o | ⟨g,c,pre,m,i,fr,h1,a,b,d,s,f,j,o⟩
 ·exact .inl o
 ·exact   .inr ⟨g,c,pre,m,i,fr,h1,a,b,d,s,f,j,lF l o⟩
theorem mQ {K:Kind α}(m:K.Closed){e:Nat}{I J h:Hp}{v:Value}{xs:List α}(o:oS K e I h v xs):oS K e J h v xs:=by
 rcases o with o | ⟨g,c,pre,l,i,fr,h1,a,b,d,s,f,j,o⟩
 ·exact .inl o
 ·exact   .inr ⟨g,c,pre,l,i,fr,h1,a,b,d,s,f,j,oR m o⟩
theorem kZ {K:Kind α}{e:Nat}{I J h:Hp}{v:Value}{xs:List α}(lI:Hp.le I J)(D:Hp.le h J)(o:oS K e I h v xs):qC K J v xs:=by
 rcases o with ⟨A,rfl,rfl,rfl⟩|⟨g,c,pre,m,l,fr,h1,a,b,d,s,f,j,o⟩
 ·exact ⟨A,0,rfl,Nat.le_refl _,Nat.zero_le _,fun h=>absurd h (Nat.lt_irrefl _)⟩
 ·refine ⟨_,c,a,b,Nat.le_trans b d,fun _=>⟨g,pre.length,rfl,fun k x G=>?_⟩⟩
  obtain ⟨cs,p,q⟩:=uL o lI (Hp.le_trans j.right D) G
  refine ⟨cs,p,fun i u F=>?_⟩
  have E:J g=some (.cells (pre++m++l).toArray e fr):=D _ _ (j.left g _ (by simp [Hp.one]))
  unfold iX
  rw [E]
  show (pre++m++l).toArray[pre.length+k*K.sz+i]?=some u
  have B:=q i u F
  have r:=(List.getElem?_eq_some_iff.1 B).1
  rw [List.getElem?_toArray,List.append_assoc,List.getElem?_append_right (by omega),show pre.length+k*K.sz+i - pre.length=k*K.sz+i by omega,List.getElem?_append_left r]
  exact B
end
def Kind.scal {α:Type}(enc:α→Value)(h1:∀ x,(enc x).oneCell'=true):Kind α where
 sz:=1
 rd _ x cs:=cs=[enc x]
 own _ h x cs:=h=Hp.none∧cs=[enc x]
 rd_mono _ h:=h
 own_mono _ h:=h
 own_rd _ _ h:=h.2
 rd_len h:=by rw [h]; rfl
 own_len h:=by rw [h.2]; rfl
 rd_one h u hu:=by rw [h] at hu; rw [List.mem_singleton.1 hu]; exact h1 _
 own_one h u hu:=by rw [h.2] at hu; rw [List.mem_singleton.1 hu]; exact h1 _
def aH (s:aP):Value:=.string ⟨s.toArray⟩
def Kind.int (k:IntKind):Kind Int:=Kind.scal (Value.int k) (fun _=>rfl)
def Kind.bool:Kind Bool:=Kind.scal Value.bool (fun _=>rfl)
def Kind.str:Kind aP:=Kind.scal aH (fun _=>rfl)
def Kind.sl {α:Type}(e:Nat)(K:Kind α):Kind (List α) where
 sz:=1
 rd I xs cs:=∃ v,cs=[v]∧qC K I v xs
 own I h xs cs:=∃ v,cs=[v]∧oS K e I h v xs
 rd_mono l h:=by obtain ⟨v,e,a⟩:=h; exact ⟨v,e,mP l a⟩
 own_mono l h:=by obtain ⟨v,e,a⟩:=h; exact ⟨v,e,oU l a⟩
 own_rd l m h:=by obtain ⟨v,e,a⟩:=h; exact ⟨v,e,kZ l m a⟩
 rd_len h:=by obtain ⟨v,e,a⟩:=h; rw [e]; rfl
 own_len h:=by obtain ⟨v,e,a⟩:=h; rw [e]; rfl
 rd_one h u hu:=by
  obtain ⟨v,e,A,c,rfl,_⟩:=h
  rw [e] at hu; rw [List.mem_singleton.1 hu]; rfl
 own_one h u hu:=by
  obtain ⟨v,e,a⟩:=h
  rw [e] at hu; rw [List.mem_singleton.1 hu]
  rcases a with ⟨A,rfl,_⟩|⟨g,c,pre,i,b,fr,h1,rfl,_⟩<;>rfl
def Kind.pair {α β:Type}(A:Kind α)(B:Kind β):Kind (α×β) where
 sz:=A.sz+B.sz
 rd I x cs:=∃ g i,cs=g++i∧A.rd I x.1 g∧B.rd I x.2 i
 own I h x cs:=∃ h1 h2 g i,Join h1 h2 h∧cs=g++i∧A.own I h1 x.1 g∧B.own I h2 x.2 i
 rd_mono l h:=by obtain ⟨g,i,e,a,b⟩:=h; exact ⟨g,i,e,A.rd_mono l a,B.rd_mono l b⟩
 own_mono l h:=by obtain ⟨h1,h2,g,i,j,e,a,b⟩:=h; exact ⟨h1,h2,g,i,j,e,A.own_mono l a,B.own_mono l b⟩
 own_rd l m h:=by
  obtain ⟨h1,h2,g,i,j,e,a,b⟩:=h
  exact ⟨g,i,e,A.own_rd l (Hp.le_trans j.left m) a,B.own_rd l (Hp.le_trans j.right m) b⟩
 rd_len h:=by obtain ⟨g,i,e,a,b⟩:=h; rw [e,List.length_append,A.rd_len a,B.rd_len b]
 own_len h:=by obtain ⟨h1,h2,g,i,j,e,a,b⟩:=h; rw [e,List.length_append,A.own_len a,B.own_len b]
 rd_one h u q:=by
  obtain ⟨g,i,e,a,b⟩:=h
  rw [e] at q
  rcases List.mem_append.1 q with q | q
  ·exact A.rd_one a u q
  ·exact B.rd_one b u q
 own_one h u q:=by
  obtain ⟨h1,h2,g,i,j,e,a,b⟩:=h
  rw [e] at q
  rcases List.mem_append.1 q with q | q
  ·exact A.own_one a u q
  ·exact B.own_one b u q
def Kind.iso {α β:Type}(K:Kind α)(f:β→α):Kind β where
 sz:=K.sz
 rd I x cs:=K.rd I (f x) cs
 own I h x cs:=K.own I h (f x) cs
 rd_mono:=K.rd_mono
 own_mono:=K.own_mono
 own_rd:=K.own_rd
 rd_len:=K.rd_len
 own_len:=K.own_len
 rd_one:=K.rd_one
 own_one:=K.own_one
def Kind.share {α:Type}(K:Kind α):Kind α where
 sz:=K.sz
 rd:=K.rd
 own I h x cs:=h=Hp.none∧K.rd I x cs
 rd_mono:=K.rd_mono
 own_mono l h:=⟨h.1,K.rd_mono l h.2⟩
 own_rd l _ h:=K.rd_mono l h.2
 rd_len:=K.rd_len
 own_len h:=K.rd_len h.2
 rd_one:=K.rd_one
 own_one h:=K.rd_one h.2
theorem Kind.scal_closed {α:Type}(enc:α→Value)(h1:∀ x,(enc x).oneCell'=true):(Kind.scal enc h1).Closed:=fun _ _ _ _ _ h=>h
theorem Kind.sl_closed {α:Type}{K:Kind α}(h:K.Closed)(e:Nat):(Kind.sl e K).Closed:=fun _ _ _ _ _ ⟨v,a,b⟩=>⟨v,a,mQ h b⟩
theorem Kind.pair_closed {α β:Type}{A:Kind α}{B:Kind β}(a:A.Closed)(b:B.Closed):(Kind.pair A B).Closed :=
 fun _ _ _ _ _ ⟨h1,h2,g,h,j,e,p,q⟩=>⟨h1,h2,g,h,j,e,a _ _ _ _ _ p,b _ _ _ _ _ q⟩
theorem Kind.iso_closed {α β:Type}{K:Kind α}(h:K.Closed)(f:β→α):(Kind.iso K f).Closed:=fun _ _ _ _ _ o=>h _ _ _ _ _ o
theorem Kind.scal_flat {α:Type}(enc:α→Value)(h1:∀ x,(enc x).oneCell'=true):(Kind.scal enc h1).Flat:=fun _ _ _ h=>⟨rfl,h⟩
def bx (b:Nat)(cs:Array Value)(T:Nat):HP:=⟨fun _ h=>h=Hp.one b (.cells cs T (0,0)),fun _ e=>e⟩
def ow {α:Type}(K:Kind α)(e:Nat)(v:Value)(xs:List α):HP:=⟨fun I h=>oS K e I h v xs,fun l o=>oU l o⟩
def aO {α:Type}(K:Kind α)(v:Value)(xs:List α):HP:=⟨fun I h=>h=Hp.none∧qC K I v xs,fun l o=>⟨o.1,mP l o.2⟩⟩
end Go.Pg
namespace Go.Pg
structure Cx where
 P:Program
 n:Nn
 C:World
def TC (X:Cx)(V:List HP)(σ:dI)(c:Code)(Q:Exit→dI→World→Prop):Prop:=∀ w,St X.C w V→W X.P X.n c Q σ w
def TL (X:Cx)(ops:Array Oper)(V:List HP)(σ:dI)(rest:List Oper)(Q:Exit→dI→World→Prop):Prop:=∀ w,St X.C w V→WL X.P X.n ops rest Q σ w
def TQ (X:Cx)(V:List HP)(σ:dI)(e:Exit)(Q:Exit→dI→World→Prop):Prop:=∀ w,St X.C w V→Q e σ w
def Nx (X:Cx)(c:Code)(Q:Exit→dI→World→Prop):dI→World→Prop:=fun σ w=>W X.P X.n c Q σ w
section
variable {X:Cx}{V:List HP}{σ:dI}{Q:Exit→dI→World→Prop}{x y:Code}{ops:Array Oper}{rest:List Oper}{o:Oper}
theorem aI (h:TC X V σ x (iN (Nx X y Q) Q)):TC X V σ (.seq x y) Q:=fun w s=>yR (h w s)
theorem bS (h:TQ X V σ .normal Q):TC X V σ .skip Q:=fun w s=>wY (h w s)
theorem bO (h:TQ X V σ .ret Q):TC X V σ .ret Q:=fun w s=>yS (h w s)
theorem eL {a:Nat}(h:TQ X V σ (.exit a) Q):TC X V σ (.exit a) Q:=fun w s=>wZ (h w s)
theorem cB {a:Nat}(h:TC X V σ x (jK a Q)):TC X V σ (.block a x) Q:=fun w s=>uJ (h w s)
theorem aD {a:Nat}{l:List Oper}(h:TL X l.toArray V σ l Q):TC X V σ (.region a l.toArray false) Q:=fun w s=>sr (h w s)
theorem bM {k:Operand}{b:Bool}(e:ev σ k=.bool b)(a:b=true)(h:TC X V σ x Q):TC X V σ (.cond k x y) Q:=fun w s=>sq e (by rw [a]; exact h w s)
theorem aX {k:Operand}{b:Bool}(e:ev σ k=.bool b)(a:b=false)(h:TC X V σ y Q):TC X V σ (.cond k x y) Q:=fun w s=>sq e (by rw [a]; exact h w s)
theorem aB (h:TQ X V σ .normal Q):TL X ops V σ [] Q:=fun w s=>x0 (h w s)
theorem aE (h:TC X V σ y Q):TQ X V σ .normal (iN (Nx X y Q) Q):=fun w s=>h w s
theorem cR {a:Nat}{K:dI→World→Prop}(h:TQ X V σ (.exit a) Q):TQ X V σ (.exit a) (iN K Q):=fun w s=>h w s
theorem bP {K:dI→World→Prop}(h:TQ X V σ .ret Q):TQ X V σ .ret (iN K Q):=fun w s=>h w s
theorem dU {a:Nat}(h:TQ X V σ .normal Q):TQ X V σ (.exit a) (jK a Q):=fun w s=>by
 show cond (Nat.beq a a) _ _
 rw [show Nat.beq a a=true from Nat.beq_refl a]
 exact h w s
theorem cT {a:Nat}(h:TQ X V σ .normal Q):TQ X V σ .normal (jK a Q):=fun w s=>h w s
theorem b' {a:Nat}(h:TQ X V σ .ret Q):TQ X V σ .ret (jK a Q):=fun w s=>h w s
theorem sw {e a:Nat}(b:Nat.beq a e=false)(h:TQ X V σ (.exit a) Q):TQ X V σ (.exit a) (jK e Q):=fun w s=>by
 show cond (Nat.beq a e) _ _
 rw [b]
 exact h w s
theorem mx {ops:Array Oper}{σ:dI}{o:Oper}{j:Nat}{b c:Bool}(h:o.guard=some (j,b))(a:lE ops σ j=some c)(e:c=b):dY ops σ o=true:=by
 unfold dY; rw [h]; simp only [a,e]; cases b<;>rfl
theorem l2 {ops:Array Oper}{σ:dI}{o:Oper}{j:Nat}{b c:Bool}(h:o.guard=some (j,b))(a:lE ops σ j=some c)(e:c=!b):dY ops σ o=false:=by
 unfold dY; rw [h]; simp only [a,e]; cases b<;>rfl
theorem wo (a:iU X.n o.dst=true)(hw:dY ops σ o=false)(h:TL X ops V (gV σ o.dst undef) rest Q):TL X ops V σ (o::rest) Q:=fun w s=>x7 a hw (h w s)
def o0 (k:IntKind):BinOp→Int→Int→Option Value
 | .add,a,b=>some (.int k (k.wrap (a+b)))
 | .sub,a,b=>some (.int k (k.wrap (a - b)))
 | .mul,a,b=>some (.int k (k.wrap (a*b)))
 | .and,a,b=>some (.int k (bits .and k a b))
 | .or,a,b=>some (.int k (bits .or k a b))
 | .xor,a,b=>some (.int k (bits .xor k a b))
 | .andNot,a,b=>some (.int k (bits .andNot k a b))
 | .eql,a,b=>some (.bool (a==b))
 | .neq,a,b=>some (.bool (a != b))
 | .lss,a,b=>some (.bool (decide (a<b)))
 | .leq,a,b=>some (.bool (decide (a≤b)))
 | .gtr,a,b=>some (.bool (decide (a>b)))
 | .geq,a,b=>some (.bool (decide (a≥b)))
 | _,_,_=>none
def pv (σ:dI):Op→Option Value
 | .move x | .assign x=>some (ev σ x)
 | .pick c a b=>match ev σ c with
  | .bool t=>some (cond t (ev σ a) (ev σ b))
  | _=>none
 | .unOp .not _ x=>match ev σ x with
  | .bool b=>some (.bool !b)
  | _=>none
 | .unOp .neg _ x=>match ev σ x with
  | .int k a=>some (.int k (k.wrap (0 - a)))
  | _=>none
 | .unOp .xor _ x=>match ev σ x with
  | .int k a=>some (.int k (bits .xor k (if k.signed then -1 else k.max) a))
  | _=>none
 | .binOp op _ x y _=>match ev σ x,ev σ y with
  | .int .i64 a,.int .i64 b=>o0 .i64 op a b
  | .int .u8 a,.int .u8 b=>o0 .u8 op a b
  | .int .i32 a,.int .i32 b=>o0 .i32 op a b
  | .int .u64 a,.int .u64 b=>o0 .u64 op a b
  | .int .u32 a,.int .u32 b=>o0 .u32 op a b
  | _,_=>none
 | .extract x i=>match ev σ x with
  | .tuple vs=>vs[i]?
  | _=>none
 | .makeFunc fn first captured=>some (.func fn (first.toList.map (ev σ)).toArray (captured.toList.map (ev σ)).toArray)
 | .nilCheck x=>match ev σ x with
  | .pointer (some a)=>some (.pointer (some a))
  | .func (.func f) a c=>some (.func (.func f) a c)
  | _=>none
 | _=>none
theorem sx {P:Program}{w:World}{k:IntKind}{op:BinOp}{a b:Int}{v:Value}(t:TypeId)(x y:Operand)(h:o0 k op a b=some v) :
  (do eqGuard op t x y (.int k a) (.int k b); binOp op t (.int k a) (.int k b):Sem Value).run P w=.ok v w:=by
 cases op<;>simp only [o0,Option.some.injEq,reduceCtorEq] at h<;>subst h <;>
  simp [eqGuard_at_int,binOp,Op.intArith,intBits_and,intBits_or,intBits_xor,intBits_andNot,Op.intCmp]
theorem x8 {P:Program}{w:World}{v:Value}(h:pv σ o.op=some v):(execOp (ev σ) o).run P w=.ok (.value v) w:=by
 unfold execOp
 revert h
 generalize o.op=op
 intro h
 cases op<;>simp only [pv,reduceCtorEq] at h
 case move x=>simp only [Option.some.injEq] at h; subst h; rfl
 case assign x=>simp only [Option.some.injEq] at h; subst h; rfl
 case pick c a b =>
  cases hc:ev σ c<;>simp only [hc,reduceCtorEq,Option.some.injEq] at h
  subst h
  simp only [hc,asBool,Sem.run_bind,Sem.run_pure,Result.andThen_ok]
  rename_i t
  cases t<;>rfl
 case unOp u t x =>
  cases u<;>simp only [reduceCtorEq] at h<;>cases j:ev σ x<;>simp only [j,reduceCtorEq,Option.some.injEq] at h<;>subst h <;>
   simp [j,Op.unary,Op.intArith,intBits_xor]
 case binOp op t x y ty =>
  have g:∀ (k:IntKind) (a b:Int),ev σ x=.int k a→ev σ y=.int k b→o0 k op a b=some v →
    (do let r ← (do eqGuard op t x y (ev σ x) (ev σ y); binOp op t (ev σ x) (ev σ y):Sem Value); pure (Next.value r):Sem Next).run P w=.ok (.value v) w:=by
   intro k a b j m l
   rw [j,m]
   simp only [Sem.run_bind] at *
   have:=sx (P:=P) (w:=w) t x y l
   simp only [Sem.run_bind] at this
   rw [this]
   rfl
  split at h
  ·exact g _ _ _ ‹_› ‹_› h
  ·exact g _ _ _ ‹_› ‹_› h
  ·exact g _ _ _ ‹_› ‹_› h
  ·exact g _ _ _ ‹_› ‹_› h
  ·exact g _ _ _ ‹_› ‹_› h
  ·cases h
 case extract x i =>
  cases j:ev σ x<;>simp only [j,reduceCtorEq] at h
  simp [j,Instr.extract,h]
 case makeFunc fn first captured =>
  simp only [Option.some.injEq] at h; subst h
  simp [Instr.makeFunc]
  exact ⟨by apply Array.ext'; simp,by apply Array.ext'; simp⟩
 case nilCheck x =>
  split at h
  ·rename_i a e
   simp only [Option.some.injEq] at h
   subst h
   simp [e]
  ·rename_i f a c e
   simp only [Option.some.injEq] at h
   subst h
   simp [e]
  ·cases h
def VO (X:Cx)(V:List HP)(σ:dI)(o:Oper)(v:Value):Prop:=∀ w,St X.C w V→(execOp (ev σ) o).run X.P w=.ok (.value v) w
theorem Bc {v:Value}(a:iU X.n o.dst=true)(hw:dY ops σ o=true)(b:VO X V σ o v)(h:TL X ops V (gV σ o.dst v) rest Q):TL X ops V σ (o::rest) Q :=
 fun w s=>eW a hw (by rw [b w s]; exact h w s)
theorem iO {v:Value}(a:pv σ o.op=some v):VO X V σ o v:=fun _ _=>x8 a
end
end Go.Pg
namespace Go.Pg
def rG {α:Type}:List α→Nat→Option α
 | [],_=>none
 | x::_,0=>some x
 | _::l,k+1=>rG l k
theorem kK {α:Type}(l:List α)(k:Nat):rG l k=l[k]?:=by
 induction l generalizing k with
 | nil=>rfl
 | cons x l ih =>
  cases k with
  | zero=>rfl
  | succ k=>simpa [rG] using ih k
theorem jL {α:Type}[Inhabited α]{xs:List α}{i:Int}(a:0≤i)(h1:i<xs.length):xs[i.toNat]?=some (ix xs i):=by
 unfold ix
 have:i.toNat<xs.length:=by omega
 rw [List.getD_eq_getElem?_getD,List.getElem?_eq_getElem this]
 rfl
def aJ (b:Nat)(cs:List Value)(T:Nat):HP:=bx b cs.toArray T
def fP (P:Program)(T:TypeId):Option Bool:=(P.underlying T).map fun d=>match d with | .struct _ | .array _ _=>true | _=>false
def iK (P:Program)(T:TypeId):Option Nat:=(P.info? T).map (·.size)
def hT (P:Program)(T:TypeId):Option Nat:=(P.info? T).map (·.bytes)
def kX (P:Program)(T:TypeId):Option (List Value):=((P.info? T).bind (·.zero)).map (·.cells.toList)
def mo (P:Program)(T:TypeId):Option TypeId:=match P.underlying T with
 | some (.slice e)=>some e
 | _=>none
def dC (P:Program)(S:TypeId)(f:Nat):Option Nat:=match P.underlying S with
 | some (.struct fs)=>match fs[f]? with
  | some fl=>match P.info? fl.type with
   | some i=>if i.size=0 then none else some fl.offset
   | none=>none
  | none=>none
 | _=>none
section
variable {P:Program}{w:World}
theorem nJ {T:TypeId}{b:Bool}(h:fP P T=some b):(isAgg T).run P w=.ok b w:=by
 unfold fP at h
 cases hd:P.underlying T with
 | none=>rw [hd] at h; cases h
 | some d =>
  rw [hd] at h
  simp only [Option.map_some,Option.some.injEq] at h
  subst h
  unfold isAgg
  rw [Sem.run_bind,run_underlying hd w]
  cases d<;>rfl
theorem eQ {T:TypeId}{n:Nat}(h:iK P T=some n):(sizeOf T).run P w=.ok n w:=by
 unfold iK at h
 cases hd:P.info? T with
 | none=>rw [hd] at h; cases h
 | some d =>
  rw [hd] at h
  simp only [Option.map_some,Option.some.injEq] at h
  subst h
  simp [sizeOf,typeInfo,hd]
theorem l3 {T:TypeId}{cs:List Value}(h:kX P T=some cs):∃ z,(zeroValue T).run P w=.ok z w∧z.cells=cs.toArray:=by
 unfold kX at h
 cases hd:P.info? T with
 | none=>rw [hd] at h; cases h
 | some d =>
  rw [hd] at h
  cases hz:d.zero with
  | none=>simp [hz] at h
  | some z =>
   refine ⟨z,by simp [zeroValue,typeInfo,hd,hz],?_⟩
   simp [hz] at h
   rw [← h]
theorem je {T e:TypeId}(h:mo P T=some e):P.underlying T=some (.slice e):=by
 unfold mo at h
 split at h
 ·rename_i b a
  simp only [Option.some.injEq] at h
  rw [a,h]
 ·cases h
theorem eV {T:TypeId}{a:Addr}{v:Value}(h:fP P T=some false)(b:w.cell? a=some v):(loadVar T a).run P w=.ok v w:=by
 unfold loadVar
 rw [Sem.run_bind,nJ h]
 simp [b]
theorem fQ {T:TypeId}{a:Addr}{cs:List Value}(h:fP P T=some true)(e:iK P T=some cs.length)(b:∀ j u,cs[j]?=some u→w.cell? (a.add j)=some u) :
  (loadVar T a).run P w=.ok (.agg cs.toArray) w:=by
 unfold loadVar
 rw [Sem.run_bind,nJ h]
 simp [Sem.run_bind,eQ e,run_loadCells_list (P:=P) w a cs b]
theorem gN (g k j:Nat):(⟨g,k,none⟩:Addr).add j=⟨g,k+j,none⟩:=by
 unfold Addr.add
 split
 ·rename_i h; subst h; rfl
 ·rfl
end
section
variable {X:Cx}{V:List HP}{σ:dI}{Q:Exit→dI→World→Prop}{ops:Array Oper}{rest:List Oper}
variable {d:Option Nat}{ty:TypeId}{pos:String}{af:Array Edge}{gd:Option (Nat×Bool)}
theorem aY {T:TypeId}{cs:List Value}(m:iU X.n d=true)(hw:dY ops σ ⟨d,.alloc T,ty,pos,af,gd⟩=true)(r:kX X.P T=some cs)
  (h:∀ b,TL X ops (aJ b cs T::V) (gV σ d (.pointer (some ⟨b,0,none⟩))) rest Q):TL X ops V σ (⟨d,.alloc T,ty,pos,af,gd⟩::rest) Q:=by
 intro w s
 refine eW m hw ?_
 obtain ⟨z,j,l⟩:=l3 (P:=X.P) (w:=w) r
 have q:(execOp (ev σ) ⟨d,.alloc T,ty,pos,af,gd⟩).run X.P w=.ok (.value (.pointer (some ⟨w.heap.size,0,none⟩))) (w.alloc (.cells cs.toArray T)):=by
  simp [execOp,Instr.alloc,j,newVar,newRow,l]
 rw [q]
 refine h _ _ (St.new s (fun a=>a.alloc _) (fun I _=>⟨_,rfl,?_,?_⟩) ?_)
 ·intro b o e
  simp only [Hp.one] at e
  split at e
  ·rename_i g
   subst g
   rw [← Option.some.inj e]
   show (w.heap.push _)[w.heap.size]?=_
   simp
  ·cases e
 ·intro b g
  simp only [Hp.one] at g
  split at g
  ·rename_i e; exact Nat.le_of_eq e.symm
  ·exact absurd rfl g
 ·intro b o e
  have i:=(Array.getElem?_eq_some_iff.1 e).1
  show (w.heap.push _)[b]?=_
  rw [Array.getElem?_push,if_neg (Nat.ne_of_lt i)]
  exact e
theorem fR {T:TypeId}{x:Operand}{cs:List Value}(j:iU X.n d=true)(hw:dY ops σ ⟨d,.box T x,ty,pos,af,gd⟩=true)(m:(ev σ x).cells.toList=cs)
  (h:∀ b,TL X ops (aJ b cs T::V) (gV σ d (.pointer (some ⟨b,0,none⟩))) rest Q):TL X ops V σ (⟨d,.box T x,ty,pos,af,gd⟩::rest) Q:=by
 intro w s
 refine eW j hw ?_
 have l:(execOp (ev σ) ⟨d,.box T x,ty,pos,af,gd⟩).run X.P w=.ok (.value (.pointer (some ⟨w.heap.size,0,none⟩))) (w.alloc (.cells cs.toArray T)):=by
  subst m
  simp [execOp,Instr.box,newVar,newRow]
 rw [l]
 refine h _ _ (St.new s (fun a=>a.alloc _) (fun I _=>⟨_,rfl,?_,?_⟩) ?_)
 ·intro b o e
  simp only [Hp.one] at e
  split at e
  ·rename_i g
   subst g
   rw [← Option.some.inj e]
   show (w.heap.push _)[w.heap.size]?=_
   simp
  ·cases e
 ·intro b g
  simp only [Hp.one] at g
  split at g
  ·rename_i e; exact Nat.le_of_eq e.symm
  ·exact absurd rfl g
 ·intro b o e
  have i:=(Array.getElem?_eq_some_iff.1 e).1
  show (w.heap.push _)[b]?=_
  rw [Array.getElem?_push,if_neg (Nat.ne_of_lt i)]
  exact e
theorem l4 {C w:World}{V:List HP}(s:St C w V)(i:Nat){b:Nat}{cs:List Value}{T:Nat}(a:lk V i=aJ b cs T):w.heap[b]?=some (.cells cs.toArray T (0,0)):=by
 obtain ⟨I,h,p,_,l,_⟩:=s.look i
 rw [a] at p
 exact l b _ (by rw [show h=_ from p]; simp [Hp.one])
theorem l5 {w:World}{b:Nat}{cs:List Value}{T:Nat}(h:w.heap[b]?=some (.cells cs.toArray T (0,0)))(k:Nat):w.cell? ⟨b,k,none⟩=cs[k]?:=by
 simp [World.cell?,h]
theorem sy {T:TypeId}{x:Operand}{b k:Nat}{cs:List Value}{a:Nat}{v:Value}(i:Nat)(g:fP X.P T=some false)
  (e:lk V i=aJ b cs a) (l:ev σ x=.pointer (some ⟨b,k,none⟩)) (j:rG cs k=some v):VO X V σ ⟨d,.load T x,ty,pos,af,gd⟩ v:=by
 intro w s
 have h:=l4 s i e
 simp only [execOp,Instr.loadAt,l,Instr.sureAddr,Sem.run_bind,Sem.run_pure,Result.andThen_ok,eV g (show w.cell? ⟨b,k,none⟩=some v by rw [l5 h,← kK]; exact j)]
theorem uM {T:TypeId}{x:Operand}{b k n:Nat}{cs:List Value}{g:Nat}(i:Nat)(l:fP X.P T=some true)(r:iK X.P T=some n)
  (h:lk V i=aJ b cs g) (B:ev σ x=.pointer (some ⟨b,k,none⟩)) (q:((cs.drop k).take n).length=n):VO X V σ ⟨d,.load T x,ty,pos,af,gd⟩ (.agg ((cs.drop k).take n).toArray):=by
 intro w s
 have m:=l4 s i h
 ·have:=fQ (P:=X.P) (w:=w) (a:=⟨b,k,none⟩) (cs:=(cs.drop k).take n) l (by rw [q]; exact r) (by
   intro j u e
   rw [gN,l5 m]
   rw [List.getElem?_take] at e
   split at e
   ·rw [List.getElem?_drop] at e; exact e
   ·cases e)
  simp only [execOp,Instr.loadAt,B,Instr.sureAddr,Sem.run_bind,Sem.run_pure,Result.andThen_ok,this]
theorem uN {S:TypeId}{x:Operand}{f fo:Nat}{a:Addr}(b:dC X.P S f=some fo)
  (q:ev σ x=.pointer (some a)):VO X V σ ⟨d,.fieldAddr S x f,ty,pos,af,gd⟩ (.pointer (some (a.add fo))):=by
 intro w _
 unfold dC at b
 split at b
 ·rename_i fs m
  split at b
  ·rename_i j e
   split at b
   ·rename_i i l
    split at b
    ·cases b
    ·rename_i g
     simp only [Option.some.injEq] at b
     subst b
     have h:(sizeOf j.type).run X.P w=.ok i.size w:=eQ (by simp [iK,l])
     simp [execOp,Instr.fieldAt,run_underlying m w,e,q,Instr.sureAddr,fieldPlace,Sem.run_bind,h,g]
   ·cases b
  ·cases b
 ·cases b
theorem oV {w:World}{P:Program}{b k:Nat}{cs:List Value}{T:Nat}{v:Value}(a:w.heap[b]?=some (.cells cs.toArray T (0,0)))(e:k<cs.length)(g:v.oneCell'=true) :
  (store ⟨b,k,none⟩ v).run P w=.ok () (w.setCell ⟨b,k,none⟩ v):=by
 rw [run_store P w _ v _ g]
 have:w.cell? ⟨b,k,none⟩=some cs[k]:=by rw [l5 a,List.getElem?_eq_getElem e]
 simp [this,World.frozen?,a]
theorem iB {w:World}{b k:Nat}{c:Array Value}{T:Nat}{fr:Nat×Nat}{v:Value}(a:w.heap[b]?=some (.cells c T fr)):(w.setCell ⟨b,k,none⟩ v).heap[b]?=some (.cells (c.setIfInBounds k v) T fr):=by
 simp only [World.setCell,Array.getElem?_modify,a]
 simp
theorem gE {w:World}{b k j:Nat}{v:Value}(h:j≠b):(w.setCell ⟨b,k,none⟩ v).heap[j]?=w.heap[j]?:=by
 simp only [World.setCell,Array.getElem?_modify]
 rw [if_neg (fun e=>h e.symm)]
theorem jw {P:Program}{w:World}{T:TypeId}{a:Addr}{v:Value}{b:World}(i:iK P T=some 1)(j:v.oneCell'=true)(h:(store a v).run P w=.ok () b):(storeVar T a v).run P w=.ok () b:=by
 have g:v.cells=#[v]:=by cases v<;>first | rfl | (simp [Value.oneCell'] at j)
 unfold storeVar
 rw [Sem.run_bind,eQ i]
 have e:a.add 0=a:=by simp [Addr.add]
 simp [g,storeCells,Sem.run_bind,e,h]
theorem cO {T:TypeId}{x y:Operand}{b k:Nat}{cs:List Value}{m:Nat}{v:Value}(i:Nat)(E:iU X.n d=true)(hw:dY ops σ ⟨d,.store T x y,ty,pos,af,gd⟩=true)(J:iK X.P T=some 1)
  (u:lk V i=aJ b cs m) (L:ev σ x=.pointer (some ⟨b,k,none⟩)) (M:ev σ y=v) (D:v.oneCell'=true) (F:Nat.blt k cs.length=true)
  (h:TL X ops (wm V i (aJ b (cs.set k v) m)) (gV σ d undef) rest Q):TL X ops V σ (⟨d,.store T x y,ty,pos,af,gd⟩::rest) Q:=by
 intro w s
 refine eW E hw ?_
 have B:=l4 s i u
 have q:k<cs.length:=Nat.lt_of_lt_of_le (Nat.lt_succ_self _) (Nat.le_of_ble_eq_true F)
 have G:(execOp (ev σ) ⟨d,.store T x y,ty,pos,af,gd⟩).run X.P w=.ok .skip (w.setCell ⟨b,k,none⟩ v):=by
  simp only [execOp,Instr.storeAt,L,M,Instr.sureAddr,Sem.run_bind,Sem.run_pure,Result.andThen_ok,jw J D (oV B q D)]
 rw [G]
 refine h _ (St.turn s i (fun a=>a.setCell _ _) ?_)
 intro I g p _ _
 rw [u] at p
 have p:g=Hp.one b (.cells cs.toArray m (0,0)):=p
 subst p
 refine ⟨_,rfl,?_,?_,?_⟩
 ·intro j o e
  simp only [Hp.one] at e
  split at e
  ·rename_i l
   subst l
   rw [← Option.some.inj e,iB B]
   simp
  ·cases e
 ·intro j l
  refine .inl ?_
  simp only [Hp.one] at *
  split at l
  ·rename_i e; rw [if_pos e]; exact fun h=>by cases h
  ·exact absurd rfl l
 ·intro j o l e
  simp only [Hp.one] at l
  split at l
  ·cases l
  ·rename_i r; rw [gE r]; exact e
theorem nA {P:Program}{b:Nat}{T:Nat}:∀ (vs:List Value) (k j:Nat) (cs:List Value) (w:World),w.heap[b]?=some (.cells cs.toArray T (0,0))→k+j+vs.length≤cs.length→(∀ v∈vs,v.oneCell'=true) →
  ∃ a,(storeCells ⟨b,k,none⟩ vs j).run P w=.ok () a∧a.heap[b]?=some (.cells (cs.take (k+j)++vs++cs.drop (k+j+vs.length)).toArray T (0,0))∧(∀ i,i≠b→a.heap[i]?=w.heap[i]?)∧∀ C,Same C w→Same C a:=by
 intro vs
 induction vs with
 | nil =>
  intro k j cs w l _ _
  exact ⟨w,by simp [storeCells],by simpa using l,fun _ _=>rfl,fun _ h=>h⟩
 | cons v vs ih =>
  intro k j cs w l D s
  have g:k+j<cs.length:=by simp at D; omega
  have h1:=oV (P:=P) l g (s v (by simp))
  have m:(w.setCell ⟨b,k+j,none⟩ v).heap[b]?=some (.cells (cs.set (k+j) v).toArray T (0,0)):=by rw [iB l]; simp
  obtain ⟨a,r,e,o,F⟩:=ih k (j+1) (cs.set (k+j) v) _ m (by simp at *; omega) (fun u E=>s u (by simp [E]))
  refine ⟨a,?_,?_,fun i q=>?_,fun C B=>F C (B.setCell _ _)⟩
  ·simp only [storeCells,Sem.run_bind,gN,h1,Result.andThen_ok,r]
  ·rw [e]
   congr 2
   rw [show k+(j+1)=(k+j)+1 by omega,List.take_succ_eq_append_getElem (by simp; exact g),List.take_set_of_le (Nat.le_refl _),List.drop_set_of_lt (by omega)]
   simp [Nat.add_assoc,Nat.add_comm,Nat.add_left_comm]
  ·rw [o i q,gE q]
theorem aL {T:TypeId}{x y:Operand}{b k n:Nat}{cs vs:List Value}{q:Nat}(i:Nat)(G:iU X.n d=true)(hw:dY ops σ ⟨d,.store T x y,ty,pos,af,gd⟩=true)(M:iK X.P T=some n)
  (D:lk V i=aJ b cs q) (U:ev σ x=.pointer (some ⟨b,k,none⟩)) (Y:ev σ y=.agg vs.toArray) (E:vs.length=n) (O:vs.all (·.oneCell')=true) (J:Nat.ble (k+n) cs.length=true)
  (h:TL X ops (wm V i (aJ b (cs.take k++vs++cs.drop (k+n)) q)) (gV σ d undef) rest Q):TL X ops V σ (⟨d,.store T x y,ty,pos,af,gd⟩::rest) Q:=by
 intro w s
 refine eW G hw ?_
 have F:=l4 s i D
 obtain ⟨w',r,e,o,Z⟩:=nA (P:=X.P) vs k 0 cs w F (by have:=Nat.le_of_ble_eq_true J; omega) (fun v B=>List.all_eq_true.1 O v B)
 have L:(execOp (ev σ) ⟨d,.store T x y,ty,pos,af,gd⟩).run X.P w=.ok .skip w':=by
  simp [execOp,Instr.storeAt,U,Y,Instr.sureAddr,storeVar,eQ M,Value.cells,E,r,Sem.run_bind]
 rw [L]
 refine h _ (St.turn s i (fun a=>Z _ a) ?_)
 intro I g p _ _
 rw [D] at p
 have p:g=Hp.one b (.cells cs.toArray q (0,0)):=p
 subst p
 refine ⟨_,rfl,?_,?_,?_⟩
 ·intro j o' m
  simp only [Hp.one] at m
  split at m
  ·rename_i l
   subst l
   rw [← Option.some.inj m,e]
   simp [E]
  ·cases m
 ·intro j l
  refine .inl ?_
  simp only [Hp.one] at *
  split at l
  ·rename_i e; rw [if_pos e]; exact fun h=>by cases h
  ·exact absurd rfl l
 ·intro j o' l m
  simp only [Hp.one] at l
  split at l
  ·cases l
  ·rename_i u; rw [o j u]; exact m
end
end Go.Pg
namespace Go.Pg
theorem St.act {β:Type}{C w:World}{V:List HP}(s:St C w V)(i:Nat){q:β→HP}{Ψ:β→World→Prop}
  (f:∀ I h,(lk V i).p I h→Le I w→Le h w→(∀ k,I k=Option.none∨h k=Option.none)→∃ b u B,Ψ b u∧(Same C w→Same C u)∧(q b).p I B∧Le B u∧(∀ k,B k≠Option.none→h k≠Option.none∨w.heap.size≤k)∧∀ (k:Nat) (o:Obj),h k=Option.none→w.heap[k]?=some o→u.heap[k]?=some o) :
  ∃ b u,Ψ b u∧St C u (wm V i (q b)):=by
 obtain ⟨a,I,h,g,j,l,s⟩:=s
 obtain ⟨h1,h2,r,c,s'⟩:=fG i s
 obtain ⟨b,u,B,hΨ,hs,hq,Y,Z,L⟩:=f I h1 c (l.mono j.left) (l.mono (Hp.le_trans r.left j.right)) (fun k=>by
  rcases j.disj k with e | e
  ·exact .inl e
  ·exact .inr ((r.is_none k).1 e).1)
 refine ⟨b,u,hΨ,?_⟩
 have G:∀ b,B b≠Option.none→I b=Option.none∧h2 b=Option.none:=by
  intro b U
  rcases Z b U with e | e
  ·refine ⟨?_,?_⟩
   ·rcases j.disj b with f | f
    ·exact f
    ·exact absurd ((r.is_none b).1 f).1 e
   ·rcases r.disj b with f | f
    ·exact absurd f e
    ·exact f
  ·have:g b=Option.none:=by
    cases hg:g b with
    | none=>rfl
    | some o =>
     have:=(l.lt (b:=b) (by rw [hg]; exact fun h=>by cases h))
     omega
   have:=(j.is_none b).1 this
   exact ⟨this.1,((r.is_none b).1 this.2).2⟩
 obtain ⟨m,J⟩:=Join.of_disj (h1:=B) (h2:=h2) (fun b=>by
  by_cases e:B b=Option.none
  ·exact .inl e
  ·exact .inr (G b e).2)
 obtain ⟨T,F⟩:=Join.of_disj (h1:=I) (h2:=m) (fun b=>by
  by_cases e:B b=Option.none
  ·rcases j.disj b with f | f
   ·exact .inl f
   ·exact .inr ((J.is_none b).2 ⟨e,((r.is_none b).1 f).2⟩)
  ·exact .inl (G b e).1)
 refine ⟨hs a,I,m,T,F,?_,oQ i J hq s'⟩
 intro b o e
 rcases F.cases e with ⟨D,M⟩|⟨D,M⟩
 ·refine L b o ?_ (l b o (j.left b o D))
  rcases j.disj b with f | f
  ·rw [f] at D; cases D
  ·exact ((r.is_none b).1 f).1
 ·rcases J.cases D with ⟨E,O⟩|⟨E,O⟩
  ·exact Y b o E
  ·refine L b o ?_ (l b o (j.right b o (r.right b o E)))
   rcases r.disj b with f | f
   ·exact f
   ·rw [f] at E; cases E
theorem St.see {C w:World}{V:List HP}(s:St C w V)(i:Nat):∃ I h J,(lk V i).p I h∧Hp.le I J∧Hp.le h J∧Le J w:=by
 obtain ⟨I,h,p,g,l,a⟩:=s.look i
 obtain ⟨J,j⟩:=Join.of_disj a
 refine ⟨I,h,J,p,j.left,j.right,fun b o e=>?_⟩
 rcases j.cases e with ⟨e,_⟩|⟨e,_⟩
 ·exact g b o e
 ·exact l b o e
def k9 {α:Type}(q:HP)(K:Kind α)(v:Value)(xs:List α):Prop:=∀ I h J,Hp.le I J→Hp.le h J→q.p I h→qC K J v xs
section
variable {α:Type}{K:Kind α}
theorem aA {v:Value}{xs:List α}:k9 (aO K v xs) K v xs:=fun I h J l _ p=>mP l p.2
theorem aC {e:Nat}{v:Value}{xs:List α}:k9 (ow K e v xs) K v xs:=fun I h J l m p=>kZ l m p
theorem St.reads {C w:World}{V:List HP}(s:St C w V){i:Nat}{v:Value}{xs:List α}(h:k9 (lk V i) K v xs):∃ J,Le J w∧qC K J v xs:=by
 obtain ⟨I,g,J,p,a,b,lw⟩:=s.see i
 exact ⟨J,lw,h I g J a b p⟩
end
def sep (p q:HP):HP:=⟨fun I h=>∃ h1 h2,Join h1 h2 h∧p.p I h1∧q.p I h2,fun l ⟨h1,h2,j,a,b⟩=>⟨h1,h2,j,p.mono l a,q.mono l b⟩⟩
theorem St.sep {C w:World}{p q:HP}{V:List HP}(s:St C w (p::q::V)):St C w (Pg.sep p q::V):=by
 obtain ⟨a,I,h,g,j,l,h1,h2,m,c,b,i,r,d,e⟩:=s
 obtain ⟨k,k1,u⟩:=Join.assoc' r m
 exact ⟨a,I,h,g,j,l,k,i,u,⟨h1,b,k1,c,d⟩,e⟩
section
variable {X:Cx}{V:List HP}{σ:dI}{Q:Exit→dI→World→Prop}{ops:Array Oper}{rest:List Oper}
variable {d:Option Nat}{ty:TypeId}{pos:String}{af:Array Edge}{gd:Option (Nat×Bool)}
variable {α β:Type}
theorem eT {t:TypeId}{x:Operand}{a:Option Addr}{n c:Nat}{e:TypeId}(b:mo X.P t=some e)(h:ev σ x=.slice a n c):VO X V σ ⟨d,.call ⟨.builtin .len,#[x],#[t]⟩,ty,pos,af,gd⟩ (.int .i64 n):=by
 intro w _
 have g:=je b
 simp [execOp,resolve,invoke,builtin,h,Builtin.len_,run_underlying g,goInt]
theorem bC {K:Kind α}{a:Option Addr}{n c:Nat}{xs:List α}(i:Nat)(l:k9 (lk V i) K (.slice a n c) xs)(h1:0<n)(h:∀ g o,a=some ⟨g,o,none⟩→TL X ops V σ rest Q):TL X ops V σ rest Q:=by
 intro w s
 obtain ⟨J,lw,A,q,b,h2,r,e⟩:=s.reads l
 have u:n=xs.length:=by injection b
 have m:a=A:=by injection b
 obtain ⟨g,o,j,_⟩:=e (by omega)
 exact h g o (by rw [m,j]) w s
theorem bB {K:Kind α}{a:Option Addr}{n c:Nat}{xs:List α}{cd:Code}(i:Nat)(l:k9 (lk V i) K (.slice a n c) xs)(h1:0<n)(h:∀ g o,a=some ⟨g,o,none⟩→TC X V σ cd Q):TC X V σ cd Q:=by
 intro w s
 obtain ⟨J,lw,A,q,b,h2,r,e⟩:=s.reads l
 have u:n=xs.length:=by injection b
 have m:a=A:=by injection b
 obtain ⟨g,o,j,_⟩:=e (by omega)
 exact h g o (by rw [m,j]) w s
theorem qD {t e:TypeId}{x y:Operand}{g o n c sz:Nat}{k:IntKind}{j:Int}(h:mo X.P t=some e)(b:iK X.P e=some sz)(l:ev σ x=.slice (some ⟨g,o,none⟩) n c)(m:ev σ y=.int k j)(a:0≤j)(h1:j<n) :
  VO X V σ ⟨d,.indexAddr t x y,ty,pos,af,gd⟩ (.pointer (some ⟨g,o+j.toNat*sz,none⟩)):=by
 intro w _
 have i:=je h
 simp [execOp,l,m,Instr.indexAt,asIntOf,run_underlying i,a,h1,eQ b,gN]
def yT (K:Kind α)(fo:Nat)(pr:α→Value):Prop:=∀ I x cs,K.rd I x cs→rG cs fo=some (pr x)
def yU (K:Kind α)(fo:Nat)(L:Kind β)(pr:α→List β):Prop:=∀ I x cs,K.rd I x cs→∃ v,rG cs fo=some v∧qC L I v (pr x)
theorem ks {K:Kind α}{J:Hp}{g o n c:Nat}{xs:List α}(r:qC K J (.slice (some ⟨g,o,none⟩) n c) xs){j:Nat}{x:α}(a:xs[j]?=some x) :
  ∃ cs,K.rd J x cs∧∀ k u,cs[k]?=some u→iX J g (o+j*K.sz+k)=some u:=by
 obtain ⟨A,s,m,h2,D,b⟩:=r
 have i:=(List.getElem?_eq_some_iff.1 a).1
 obtain ⟨B,o',e,h⟩:=b (by omega)
 injection m with e1 e2 e3
 rw [e] at e1
 injection e1 with e1
 injection e1 with e1 e4
 subst e1; subst e4
 obtain ⟨cs,p,q⟩:=h j x a
 exact ⟨cs,p,fun k u l=>q k u l⟩
theorem ja [Inhabited α]{K:Kind α}{T:TypeId}{x:Operand}{g o n c fo:Nat}{xs:List α}{pr:α→Value}(i:Nat)(j:Int)(h:fP X.P T=some false)
  (l:yT K fo pr) (e:k9 (lk V i) K (.slice (some ⟨g,o,none⟩) n c) xs) (u:ev σ x=.pointer (some ⟨g,o+j.toNat*K.sz+fo,none⟩)) (b:0≤j) (h1:j<n) :
  VO X V σ ⟨d,.load T x,ty,pos,af,gd⟩ (pr (ix xs j)):=by
 intro w s
 obtain ⟨J,lw,r⟩:=s.reads e
 have D:n=xs.length:=by obtain ⟨A,B,m,_⟩:=r; injection m
 obtain ⟨cs,p,q⟩:=ks r (jL b (by omega))
 have a:=iW lw (q fo _ (by rw [← kK]; exact l J _ cs p))
 simp only [execOp,Instr.loadAt,u,Instr.sureAddr,Sem.run_bind,Sem.run_pure,Result.andThen_ok,eV h a]
theorem x9 [Inhabited α]{K:Kind α}{cells:α→List Value}{T:TypeId}{x:Operand}{g o n c:Nat}{xs:List α}(i:Nat)(j:Int)(m:fP X.P T=some true)(D:iK X.P T=some K.sz)
  (B:∀ I x cs,K.rd I x cs→cs=cells x) (l:k9 (lk V i) K (.slice (some ⟨g,o,none⟩) n c) xs) (G:ev σ x=.pointer (some ⟨g,o+j.toNat*K.sz,none⟩)) (h:0≤j) (h1:j<n) :
  VO X V σ ⟨d,.load T x,ty,pos,af,gd⟩ (.agg (cells (ix xs j)).toArray):=by
 intro w s
 obtain ⟨J,lw,r⟩:=s.reads l
 have M:n=xs.length:=by obtain ⟨A,L,F,_⟩:=r; injection F
 obtain ⟨cs,p,q⟩:=ks r (jL h (by omega))
 have e:=K.rd_len p
 obtain rfl:=B _ _ _ p
 have b:=fQ (P:=X.P) (w:=w) (a:=⟨g,o+j.toNat*K.sz,none⟩) m (by rw [e]; exact D) (fun k u E=>by rw [gN]; exact iW lw (q k u E))
 simp only [execOp,Instr.loadAt,G,Instr.sureAddr,Sem.run_bind,Sem.run_pure,Result.andThen_ok,b]
def cl (g k:Nat)(cs:List Value):HP:=⟨fun I h=>h=Hp.none∧∀ i u,cs[i]?=some u→iX I g (k+i)=some u,fun l p=>⟨p.1,fun i u a=>kJ l (p.2 i u a)⟩⟩
theorem qG {C w:World}{V:List HP}(s:St C w V)(i:Nat){g k:Nat}{cs:List Value}(a:lk V i=cl g k cs):∀ (j:Nat) (u:Value),cs[j]?=some u→w.cell? ⟨g,k+j,none⟩=some u:=by
 obtain ⟨I,h,p,lI,_,_⟩:=s.look i
 rw [a] at p
 exact fun j u b=>iW lI (p.2 j u b)
theorem oW {L:Kind β}{I:Hp}{v:Value}{ys:List β}(r:qC L I v ys):∃ a c,v=.slice a ys.length c:=by
 obtain ⟨A,c,e,_⟩:=r
 exact ⟨A,c,e⟩
theorem St.more {C w:World}{V:List HP}(s:St C w V)(i:Nat){A:Type}{E:A→List HP}(f:∀ I h,(lk V i).p I h→Le I w→Le h w→∃ a,fD (E a) I Hp.none):∃ a,St C w (E a++V):=by
 obtain ⟨m,I,b,j,g,lw,st⟩:=s
 obtain ⟨h1,h2,l,p,q⟩:=fG i st
 obtain ⟨a,e⟩:=f I h1 p (lw.mono g.left) (lw.mono (Hp.le_trans l.left g.right))
 exact ⟨a,m,I,b,j,g,lw,cS.2 ⟨Hp.none,b,Join.none b,e,st⟩⟩
theorem sA {p q:HP}{I:Hp}(a:p.p I Hp.none)(b:q.p I Hp.none):fD [p,q] I Hp.none:=⟨_,_,Join.none _,a,_,_,Join.none _,b,rfl⟩
theorem St.leaf [Inhabited α]{C w:World}{V:List HP}{K:Kind α}{L:Kind β}{g o n c fo:Nat}{xs:List α}{pr:α→List β}(s:St C w V)(i:Nat)(j:Int)
  (F:yU K fo L pr) (D:lk V i=aO K (.slice (some ⟨g,o,none⟩) n c) xs) (B:0≤j) (h1:j<n) :
  ∃ p:Option Addr×Nat,St C w ([cl g (o+j.toNat*K.sz+fo) [.slice p.1 (pr (ix xs j)).length p.2],aO L (.slice p.1 (pr (ix xs j)).length p.2) (pr (ix xs j))]++V):=by
 refine St.more (E:=fun p:Option Addr×Nat=>[cl g (o+j.toNat*K.sz+fo) [.slice p.1 (pr (ix xs j)).length p.2],aO L (.slice p.1 (pr (ix xs j)).length p.2) (pr (ix xs j))]) s i ?_
 intro I h p _ _
 rw [D] at p
 obtain ⟨_,r⟩:=p
 have G:n=xs.length:=by obtain ⟨A,l,e,_⟩:=r; injection e
 obtain ⟨cs,p,q⟩:=ks r (jL B (by omega))
 obtain ⟨v,e,m⟩:=F I _ cs p
 obtain ⟨a,l,rfl⟩:=oW m
 exact ⟨⟨a,l⟩,sA ⟨rfl,fun k u b=>by
  cases k with
  | zero =>
   simp only [List.getElem?_cons_zero,Option.some.injEq] at b
   subst b
   exact q fo _ (by rw [← kK]; exact e)
  | succ k=>simp at b⟩ ⟨rfl,m⟩⟩
def B3 (K:Kind α){A:Type}(cells:A→α→List Value)(b:A→α→List HP):Prop:=∀ I x cs,K.rd I x cs→∃ a,cs=cells a x∧fD (b a x) I Hp.none
theorem St.elem [Inhabited α]{C w:World}{V:List HP}{K:Kind α}{A:Type}{cells:A→α→List Value}{b:A→α→List HP}{g o n c:Nat}{xs:List α}(s:St C w V)(i:Nat)(j:Int)
  (u:B3 K cells b) (m:lk V i=aO K (.slice (some ⟨g,o,none⟩) n c) xs) (l:0≤j) (h1:j<n) :
  ∃ a,St C w ((cl g (o+j.toNat*K.sz) (cells a (ix xs j))::b a (ix xs j))++V):=by
 refine St.more (E:=fun a=>cl g (o+j.toNat*K.sz) (cells a (ix xs j))::b a (ix xs j)) s i ?_
 intro I h p _ _
 rw [m] at p
 obtain ⟨_,r⟩:=p
 have F:n=xs.length:=by obtain ⟨A,D,B,_⟩:=r; injection B
 obtain ⟨cs,p,q⟩:=ks r (jL l (by omega))
 obtain ⟨a,rfl,e⟩:=u I _ cs p
 exact ⟨a,_,_,Join.none _,⟨rfl,q⟩,e⟩
theorem gO [Inhabited α]{K:Kind α}{A:Type}{cells:A→α→List Value}{b:A→α→List HP}{g o n c:Nat}{xs:List α}(i:Nat)(j:Int)
  (m:B3 K cells b) (l:lk V i=aO K (.slice (some ⟨g,o,none⟩) n c) xs) (e:0≤j) (h1:j<n)
  (h:∀ a,TL X ops (cl g (o+j.toNat*K.sz) (cells a (ix xs j))::(b a (ix xs j)++V)) σ rest Q):TL X ops V σ rest Q:=by
 intro w s
 obtain ⟨a,s'⟩:=s.elem i j m l e h1
 exact h a w s'
theorem dP [Inhabited α]{K:Kind α}{A:Type}{cells:A→α→List Value}{b:A→α→List HP}{g o n c:Nat}{xs:List α}{cd:Code}(i:Nat)(j:Int)
  (m:B3 K cells b) (l:lk V i=aO K (.slice (some ⟨g,o,none⟩) n c) xs) (e:0≤j) (h1:j<n)
  (h:∀ a,TC X (cl g (o+j.toNat*K.sz) (cells a (ix xs j))::(b a (ix xs j)++V)) σ cd Q):TC X V σ cd Q:=by
 intro w s
 obtain ⟨a,s'⟩:=s.elem i j m l e h1
 exact h a w s'
end
end Go.Pg
namespace Go.Pg
section
variable {X:Cx}{V:List HP}{σ:dI}{Q:Exit→dI→World→Prop}{ops:Array Oper}{rest:List Oper}
variable {d:Option Nat}{ty:TypeId}{pos:String}{af:Array Edge}{gd:Option (Nat×Bool)}
variable {α β:Type}
def SetL (K:Kind α)(fo:Nat)(v:Value)(f:α→α):Prop:=fo<K.sz∧∀ I h x cs,K.own I h x cs→K.own I h (f x) (cs.set fo v)
theorem kE {P:Program}{w:World}{g k:Nat}{cs:List Value}{e:Nat}{fr:Nat×Nat}{v:Value}(b:w.heap[g]?=some (.cells cs.toArray e fr))(h:k<cs.length)(a:fr=(0,0)∨cs.length≤fr.1)(i:v.oneCell'=true) :
  (store ⟨g,k,none⟩ v).run P w=.ok () (w.setCell ⟨g,k,none⟩ v):=by
 rw [run_store P w _ v _ i]
 have h1:w.cell? ⟨g,k,none⟩=some cs[k]:=by simp [World.cell?,b,h]
 have h2:w.frozen? ⟨g,k,none⟩=false:=by
  simp only [World.frozen?,b]
  rcases a with rfl | a
  ·simp
  ·obtain ⟨lo,j⟩:=fr
   simp only at a
   simp; omega
 simp [h1,h2]
theorem wq [Inhabited α]{K:Kind α}{T e:TypeId}{x y:Operand}{g o n c fo:Nat}{xs:List α}{v:Value}{f:α→α}(i:Nat)(j:Int)(hd:iU X.n d=true)(hw:dY ops σ ⟨d,.store T x y,ty,pos,af,gd⟩=true)(hs:iK X.P T=some 1)
  (hl:SetL K fo v f) (hV:lk V i=ow K e (.slice (some ⟨g,o,none⟩) n c) xs) (hx:ev σ x=.pointer (some ⟨g,o+j.toNat*K.sz+fo,none⟩)) (hy:ev σ y=v) (D:v.oneCell'=true) (h0:0≤j) (h1:j<n)
  (h:TL X ops (wm V i (ow K e (.slice (some ⟨g,o,none⟩) n c) (xs.set j.toNat (f (ix xs j))))) (gV σ d undef) rest Q):TL X ops V σ (⟨d,.store T x y,ty,pos,af,gd⟩::rest) Q:=by
 intro w s
 have a2:∃ (_:Unit) (O:World),(execOp (ev σ) ⟨d,.store T x y,ty,pos,af,gd⟩).run X.P w=.ok .skip O∧St X.C O (wm V i (ow K e (.slice (some ⟨g,o,none⟩) n c) (xs.set j.toNat (f (ix xs j))))):=by
  refine St.act s i (q:=fun _=>_) (Ψ:=fun _ O=>_) ?_
  intro I hh p _ lw _
  rw [hV] at p
  have p:oS K e I hh (.slice (some ⟨g,o,none⟩) n c) xs:=p
  rcases p with ⟨A,D,rfl,_⟩|⟨g',c',pre,l,b,fr,hb,D,h2,h3,h4,u,M,ol⟩
  ·injection D with _ D _
   omega
  injection D with r e2 e3
  injection r with r
  injection r with r e4
  subst r; subst e3; subst e4; subst e2
  obtain ⟨a1,Y,U,g1,g2,hc,a3,jn,ox,J⟩:=kY ol (jL h0 h1)
  have a4:=K.own_len ox
  have B:w.heap[g]?=some (.cells (pre++l++b).toArray e fr):=lw g _ (M.left g _ (by simp [Hp.one]))
  have a5:l.length=a1.length+Y.length+U.length:=by rw [hc]; simp [Nat.add_assoc]
  have G:pre.length+j.toNat*K.sz+fo<(pre++l++b).length:=by
   have:=hl.1
   simp only [List.length_append]
   omega
  have a0:=kE (P:=X.P) B G (by rcases u with u | u; exact .inl u; exact .inr (by simpa [Nat.add_assoc] using u)) D
  refine ⟨(),w.setCell ⟨g,pre.length+j.toNat*K.sz+fo,none⟩ v,?_⟩
  obtain ⟨h',E⟩:=Join.of_disj (h1:=Hp.one g (.cells ((pre++l++b).set (pre.length+j.toNat*K.sz+fo) v).toArray e fr)) (h2:=hb) (fun k=>by
   rcases M.disj k with e | e
   ·refine .inl ?_
    simp only [Hp.one] at *
    split at e
    ·cases e
    ·rename_i m; rw [if_neg m]
   ·exact .inr e)
  refine ⟨h',?_,fun a=>a.setCell _ _,?_,?_,?_,?_⟩
  ·simp only [execOp,Instr.storeAt,hx,hy,Instr.sureAddr,Sem.run_bind,Sem.run_pure,Result.andThen_ok,jw hs D a0]
  ·have L:(pre++l++b).set (pre.length+j.toNat*K.sz+fo) v=pre++(a1++Y.set fo v++U)++b:=by
    have:=hl.1
    rw [List.append_assoc,List.set_append_right _ _ (by omega),show pre.length+j.toNat*K.sz+fo - pre.length=j.toNat*K.sz+fo by omega,List.set_append_left _ _ (by omega),hc,List.append_assoc a1,
     List.set_append_right _ _ (by omega),show j.toNat*K.sz+fo - a1.length=fo by omega,List.set_append_left _ _ (by omega)]
    simp [List.append_assoc]
   refine .inr ⟨g,_,pre,a1++Y.set fo v++U,b,fr,hb,by rw [List.length_set],by rw [List.length_set]; exact h2,h3,by rw [List.length_set]; exact h4,?_,?_,?_⟩
   ·rcases u with u | u
    ·exact .inl u
    ·refine .inr ?_
     simp only [List.length_append,List.length_set] at *
     omega
   ·rw [← L]; exact E
   ·exact J I _ _ _ _ (Hp.le_refl I) jn (hl.2 I _ _ _ ox)
  ·intro k o' Z
   rcases E.cases Z with ⟨r,_⟩|⟨r,e2⟩
   ·simp only [Hp.one] at r
    split at r
    ·rename_i F
     subst F
     rw [← Option.some.inj r,iB B]
     simp
    ·cases r
   ·have m:k≠g:=by
     rintro rfl
     simp [Hp.one] at e2
    rw [gE m]
    exact lw k _ (M.right k _ r)
  ·intro k F
   refine .inl fun hn=>F ?_
   have:=(M.is_none k).1 hn
   refine (E.is_none k).2 ⟨?_,this.2⟩
   have:=this.1
   simp only [Hp.one] at *
   split at this
   ·cases this
   ·rename_i m; rw [if_neg m]
  ·intro k o' F Z
   have:=((M.is_none k).1 F).1
   have m:k≠g:=by
    rintro rfl
    simp [Hp.one] at this
   rw [gE m]
   exact Z
 obtain ⟨_,O,hr,s'⟩:=a2
 exact eW hd hw (by rw [hr]; exact h O s')
def oX (P:Program)(K:Kind α)(e:TypeId)(z:α):Prop:=∃ cs,kX P e=some cs∧cs.length=K.sz∧∀ I,K.own I Hp.none z cs
theorem sB {K:Kind α}{I:Hp}{z:α}{cs:List Value}(h:K.own I Hp.none z cs)(m:Nat):hH K I Hp.none (List.replicate m z) (List.replicate m cs).flatten:=by
 induction m with
 | zero=>exact ⟨rfl,rfl⟩
 | succ m ih=>exact ⟨Hp.none,Hp.none,cs,(List.replicate m cs).flatten,Join.none _,by simp [List.replicate_succ],h,ih⟩
theorem nK (z:Array Value)(e:0<z.size)(m:Nat):(madeCells z (m*z.size)).toList=(List.replicate m z.toList).flatten:=by
 induction m with
 | zero=>simp [madeCells]
 | succ m ih =>
  have h1:(madeCells z ((m+1)*z.size)).toList=(madeCells z (m*z.size)).toList++z.toList:=by
   apply List.ext_getElem?
   intro k
   simp only [madeCells,Array.toList_map,Array.toList_range,List.getElem?_map,List.getElem?_append,List.length_map,List.length_range]
   by_cases hk:k<m*z.size
   ·rw [List.getElem?_range (by rw [Nat.succ_mul]; omega),if_pos hk,List.getElem?_range hk]
   ·rw [if_neg hk]
    by_cases hk2:k<(m+1)*z.size
    ·rw [List.getElem?_range hk2]
     have a:k - m*z.size<z.size:=by rw [Nat.succ_mul] at hk2; omega
     have b:k % z.size=k - m*z.size:=by
      rw [← Nat.mod_eq_of_lt a]
      conv=>lhs; rw [show k=(k - m*z.size)+m*z.size by omega]
      rw [Nat.add_mul_mod_self_right]
     simp only [Option.map_some,b]
     rw [getElem!_pos z _ a]
     simp [a]
    ·rw [List.getElem?_eq_none (by simp; omega)]
     rw [Nat.succ_mul] at hk2
     rw [List.getElem?_eq_none (by simp; omega)]
     rfl
  rw [h1,ih]
  clear h1 ih
  induction m with
  | zero=>simp
  | succ m ih=>rw [List.replicate_succ,List.flatten_cons,List.append_assoc,ih,← List.flatten_cons,← List.replicate_succ]
theorem fH {K:Kind α}{t e:TypeId}{x y:Operand}{m:Int}{z:α}{r:Nat}(T:iU X.n d=true)(hw:dY ops σ ⟨d,.makeSlice t x y,ty,pos,af,gd⟩=true)(ht:mo X.P t=some e)(q:iK X.P e=some K.sz)(u:hT X.P e=some r)
  (hz:oX X.P K e z) (a0:0<K.sz) (hx:ev σ x=.int .i64 m) (hy:ev σ y=.int .i64 m) (O:0≤m) (h1:m≤140737488355328) (h2:r*m≤281474976710656)
  (h:∀ a c,TL X ops (ow K e (.slice a (List.replicate m.toNat z).length c) (List.replicate m.toNat z)::V) (gV σ d (.slice a (List.replicate m.toNat z).length c)) rest Q):TL X ops V σ (⟨d,.makeSlice t x y,ty,pos,af,gd⟩::rest) Q:=by
 intro w s
 obtain ⟨cs,g,E,F⟩:=hz
 unfold kX at g
 unfold iK at q
 unfold hT at u
 cases hi:X.P.info? e with
 | none=>rw [hi] at q; cases q
 | some info =>
  rw [hi] at g q u
  simp only [Option.map_some,Option.some.injEq,Option.bind_some] at g q u
  cases hzz:info.zero with
  | none=>rw [hzz] at g; cases g
  | some zv =>
   rw [hzz] at g
   simp only [Option.map_some,Option.some.injEq] at g
   have Z:=run_make (P:=X.P) w t e info zv (je ht) hi hzz .i64 .i64 m m O (Int.le_refl _) (by rw [u]; exact h2) (by omega)
   refine eW T hw ?_
   have D:(execOp (ev σ) ⟨d,.makeSlice t x y,ty,pos,af,gd⟩).run X.P w=.ok (.value (.slice (some ⟨w.heap.size,0,none⟩) m.toNat m.toNat)) (w.alloc (.cells (madeCells zv.cells (m.toNat*info.size)) e)):=by
    simp only [execOp,hx,hy,Sem.run_bind,Z,Result.andThen_ok,Sem.run_pure]
   rw [D]
   have G:zv.cells.size=K.sz:=by rw [← E,← g]; simp
   have l:(madeCells zv.cells (m.toNat*info.size)).toList=(List.replicate m.toNat cs).flatten:=by
    rw [q,← G,nK _ (by omega),← g]
   have Y:(List.replicate m.toNat z).length=m.toNat:=by simp
   have:=h (some ⟨w.heap.size,0,none⟩) m.toNat
   rw [Y] at this
   refine this _ (St.new s (fun a=>a.alloc _) (fun I _=>?_) ?_)
   ·obtain ⟨M,L⟩:=Join.of_disj (h1:=Hp.one w.heap.size (.cells (madeCells zv.cells (m.toNat*info.size)) e)) (h2:=Hp.none) (fun _=>.inr rfl)
    have J:=L.symm.eq_of_none
    refine ⟨M,.inr ⟨w.heap.size,m.toNat,[],(List.replicate m.toNat cs).flatten,[],(0,0),Hp.none,by simp,by simp,by simp only [maxLen]; omega,by simp,.inl rfl,?_,sB (F I) _⟩,?_,?_⟩
    ·have U:((List.replicate m.toNat cs).flatten).toArray=madeCells zv.cells (m.toNat*info.size):=by rw [← l]
     simp only [List.nil_append,List.append_nil,U]
     exact L
    ·rw [J]
     intro b o j
     simp only [Hp.one] at j
     split at j
     ·rename_i i
      subst i
      rw [← Option.some.inj j]
      show (w.heap.push _)[w.heap.size]?=_
      simp
     ·cases j
    ·rw [J]
     intro b i
     simp only [Hp.one] at i
     split at i
     ·rename_i j; exact Nat.le_of_eq j.symm
     ·exact absurd rfl i
   ·intro b o j
    have B:=(Array.getElem?_eq_some_iff.1 j).1
    show (w.heap.push _)[b]?=_
    rw [Array.getElem?_push,if_neg (Nat.ne_of_lt B)]
    exact j
end
end Go.Pg
namespace Go.Pg
theorem ke {P:Program}{b:Nat}{T:Nat}{fr:Nat×Nat}{N:Nat}(E:fr=(0,0)∨N≤fr.1):∀ (vs:List Value) (k j:Nat) (cs:List Value) (w:World),cs.length=N→w.heap[b]?=some (.cells cs.toArray T fr)→k+j+vs.length≤cs.length→(∀ v∈vs,v.oneCell'=true) →
  ∃ a,(storeCells ⟨b,k,none⟩ vs j).run P w=.ok () a∧a.heap[b]?=some (.cells (cs.take (k+j)++vs++cs.drop (k+j+vs.length)).toArray T fr)∧(∀ i,i≠b→a.heap[i]?=w.heap[i]?)∧∀ C,Same C w→Same C a:=by
 intro vs
 induction vs with
 | nil =>
  intro k j cs w _ l _ _
  exact ⟨w,by simp [storeCells],by simpa using l,fun _ _=>rfl,fun _ h=>h⟩
 | cons v vs ih =>
  intro k j cs w q l F B
  have g:k+j<cs.length:=by simp at F; omega
  have h1:=kE (P:=P) l g (by rw [q]; exact E) (B v (by simp))
  have m:(w.setCell ⟨b,k+j,none⟩ v).heap[b]?=some (.cells (cs.set (k+j) v).toArray T fr):=by rw [iB l]; simp
  obtain ⟨a,r,e,o,I⟩:=ih k (j+1) (cs.set (k+j) v) _ (by simpa using q) m (by simp at *; omega) (fun u G=>B u (by simp [G]))
  refine ⟨a,?_,?_,fun i s=>?_,fun C D=>I C (D.setCell _ _)⟩
  ·simp only [storeCells,Sem.run_bind,gN,h1,Result.andThen_ok,r]
  ·rw [e]
   congr 2
   rw [show k+(j+1)=(k+j)+1 by omega,List.take_succ_eq_append_getElem (by simp; exact g),List.take_set_of_le (Nat.le_refl _),List.drop_set_of_lt (by omega)]
   simp [Nat.add_assoc,Nat.add_comm,Nat.add_left_comm]
  ·rw [o i s,gE s]
def B4 {α:Type}(q:HP)(K:Kind α)(x:Value)(ys:List α):Prop :=
 ∀ I h,q.p I h→∃ A c a b,x=.slice A ys.length c∧ys.length≤maxLen∧Hp.le b h∧hH K I b ys a ∧
  (∀ J,Hp.le I J→Hp.le h J→0<ys.length→∃ g o,A=some ⟨g,o,none⟩∧∀ k u,a[k]?=some u→iX J g (o+k)=some u)
theorem dA {α:Type}{K:Kind α}{e:Nat}{v:Value}{ys:List α}:B4 (ow K e v ys) K v ys:=by
 intro I h p
 have p:oS K e I h v ys:=p
 rcases p with ⟨A,rfl,rfl,rfl⟩|⟨g,c,pre,b,a,fr,r,rfl,h2,q,D,E,m,B⟩
 ·exact ⟨A,0,[],Hp.none,rfl,Nat.zero_le _,Hp.le_refl _,⟨rfl,rfl⟩,fun _ _ _ h=>absurd h (Nat.lt_irrefl _)⟩
 ·refine ⟨_,c,b,r,rfl,Nat.le_trans h2 q,m.right,B,fun J _ s _=>⟨g,pre.length,rfl,fun k u l=>?_⟩⟩
  have i:J g=some (.cells (pre++b++a).toArray e fr):=s _ _ (m.left g _ (by simp [Hp.one]))
  unfold iX
  rw [i]
  have j:=(List.getElem?_eq_some_iff.1 l).1
  show (pre++b++a).toArray[pre.length+k]?=some u
  rw [List.getElem?_toArray,List.append_assoc,List.getElem?_append_right (by omega),Nat.add_sub_cancel_left,List.getElem?_append_left j]
  exact l
theorem pM {α:Type}{K:Kind α}(l:K.Flat){J:Hp}{g o:Nat}:∀ (ys:List α) (b:Nat),(∀ j x,ys[j]?=some x→∃ cs,K.rd J x cs∧∀ i u,cs[i]?=some u→iX J g (o+(b+j)*K.sz+i)=some u) →
  ∃ a,hH K J Hp.none ys a∧∀ k u,a[k]?=some u→iX J g (o+b*K.sz+k)=some u:=by
 intro ys
 induction ys with
 | nil=>intro b _; exact ⟨[],⟨rfl,rfl⟩,fun k u e=>by simp at e⟩
 | cons y ys ih =>
  intro b h
  obtain ⟨cs,h1,h2⟩:=h 0 y rfl
  obtain ⟨a,o1,o2⟩:=ih (b+1) (fun j x m=>by
   obtain ⟨cs,p,q⟩:=h (j+1) x (by simpa using m)
   exact ⟨cs,p,fun i u e=>by rw [show b+1+j=b+(j+1) by omega]; exact q i u e⟩)
  refine ⟨cs++a,⟨Hp.none,Hp.none,cs,a,Join.none _,rfl,l _ _ _ h1,o1⟩,fun k u e=>?_⟩
  have r:=K.rd_len h1
  by_cases hk:k<cs.length
  ·rw [List.getElem?_append_left hk] at e
   simpa using h2 k u e
  ·rw [List.getElem?_append_right (by omega)] at e
   have:=o2 _ u e
   rw [Nat.succ_mul] at this
   rw [show o+b*K.sz+k=o+(b*K.sz+K.sz)+(k - cs.length) by omega]
   exact this
theorem sC {α:Type}{K:Kind α}(D:K.Flat){v:Value}{ys:List α}:B4 (aO K v ys) K v ys:=by
 rintro I h ⟨rfl,A,c,m,h2,e,r⟩
 by_cases hp:0<ys.length
 ·obtain ⟨g,o,s,B⟩:=r hp
  obtain ⟨a,o1,o2⟩:=pM D ys 0 (fun j x E=>by
   obtain ⟨cs,p,q⟩:=B j x E
   exact ⟨cs,p,fun i u b=>by rw [show 0+j=j from Nat.zero_add j]; exact q i u b⟩)
  refine ⟨A,c,a,Hp.none,m,e,Hp.le_refl _,o1,fun J l _ _=>⟨g,o,s,fun k u b=>kJ l ?_⟩⟩
  simpa using o2 k u b
 ·obtain rfl:ys=[]:=List.eq_nil_of_length_eq_zero (by omega)
  exact ⟨A,c,[],Hp.none,m,e,Hp.le_refl _,⟨rfl,rfl⟩,fun _ _ _ h=>absurd h hp⟩
theorem Le.one_new {w a:World}{o:Obj}(h:a.heap[w.heap.size]?=some o):Le (Hp.one w.heap.size o) a:=by
 intro b o' e
 simp only [Hp.one] at e
 split at e
 ·rename_i g; subst g; rw [← Option.some.inj e]; exact h
 ·cases e
theorem uO {α:Type}{P:Program}{K:Kind α}{t ty e:TypeId}{ae:Nat}{w:World}{s x:Value}{xs ys:List α}{z:α}(ht:mo P t=some e)(hs:iK P e=some K.sz)(hb:hT P e=some ae)(hz:oX P K e z)(ay:0<K.sz)
  {I h1 h2 L:Hp} {q:HP} (hj:Join h1 h2 L) (ho:oS K e I h1 s xs) (hq:q.p I h2) (am:B4 q K x ys) (lI:Le I w) (a1:Le L w) (dj:∀ b,I b=Option.none∨L b=Option.none) (hl:(xs.length+ys.length)*ae≤140737488355328) (av:xs.length+ys.length≤140737488355328) (au:0<ae) :
  ∃ a c w' U,(Builtin.append_ #[t,t] ty #[s,x]).run P w=.ok (.slice a (xs++ys).length c) w'∧(∀ C,Same C w→Same C w')∧oS K e I U (.slice a (xs++ys).length c) (xs++ys)∧Le U w' ∧
   (∀ k,U k≠Option.none→L k≠Option.none∨w.heap.size≤k)∧∀ (k:Nat) (o:Obj),L k=Option.none→w.heap[k]?=some o→w'.heap[k]?=some o:=by
 obtain ⟨A,cx,i,a6,rfl,hm,a8,on,ah⟩:=am I h2 hq
 have al:=mN on
 obtain ⟨J,jJ⟩:=Join.of_disj dj
 have lJ:Le J w:=fun b o e=>by
  rcases jJ.cases e with ⟨e,_⟩|⟨e,_⟩
  ·exact lI b o e
  ·exact a1 b o e
 have aq:=ah J jJ.left (Hp.le_trans hj.right jJ.right)
 obtain ⟨zc,Z,ar,az⟩:=hz
 have hu:=je ht
 unfold kX at Z
 unfold iK at hs
 unfold hT at hb
 cases hi:P.info? e with
 | none=>rw [hi] at hs; cases hs
 | some info =>
 rw [hi] at Z hs hb
 simp only [Option.map_some,Option.some.injEq,Option.bind_some] at Z hs hb
 cases hzz:info.zero with
 | none=>rw [hzz] at Z; cases Z
 | some zv =>
 have u:(xs++ys).length=xs.length+ys.length:=List.length_append
 rcases Nat.eq_zero_or_pos ys.length with h0 | Y
 ·-- nothing comes
  obtain rfl:ys=[]:=List.eq_nil_of_length_eq_zero h0
  have aw:i=[]:=on.2
  have e0:a6=Hp.none:=on.1
  rcases ho with ⟨B,rfl,rfl,rfl⟩|⟨g,c,pre,m,l,fr,aa,rfl,p2,p3,p4,p5,jo,ol⟩
  ·refine ⟨B,0,w,Hp.none,?_,fun _ h=>h,.inl ⟨B,rfl,rfl,rfl⟩,fun _ _ e=>(by cases e),fun _ h=>absurd rfl h,fun _ _ _ h=>h⟩
   cases B<;>cases A with
   | none=>simp [Builtin.append_,run_underlying hu,sizeOf,typeInfo,hi,Builtin.lenOf,Builtin.firstCells,loadCells,loadCellsFrom,storeCells]
   | some a=>simp [Builtin.append_,run_underlying hu,sizeOf,typeInfo,hi,Builtin.lenOf,Builtin.firstCells,loadCells,loadCellsFrom,storeCells]
  ·refine ⟨some ⟨g,pre.length,none⟩,c,w,h1,?_,fun _ h=>h,.inr ⟨g,c,pre,m,l,fr,aa,by simp,by simpa using p2,p3,by simpa using p4,p5,jo,by simpa using ol⟩,?_,?_,fun _ _ _ h=>h⟩
   ·cases A with
    | none=>simp [Builtin.append_,run_underlying hu,sizeOf,typeInfo,hi,Builtin.lenOf,Builtin.firstCells,loadCells,loadCellsFrom,p2,storeCells]
    | some a=>simp [Builtin.append_,run_underlying hu,sizeOf,typeInfo,hi,Builtin.lenOf,Builtin.firstCells,loadCells,loadCellsFrom,p2,storeCells]
   ·exact a1.mono hj.left
   ·exact fun k hk=>.inl fun hn=>hk ((hj.is_none k).1 hn).1
 ·obtain ⟨g2,o2,rfl,ab⟩:=aq Y
  have M:∀ (j:Nat) (v:Value),i[j]?=some v→w.cell? ((⟨g2,o2,none⟩:Addr).add j)=some v:=fun j v hv=>by
   rw [gN]
   exact iW lJ (ab j v hv)
  have a2:i.length=ys.length*info.size:=by rw [al,hs]
  have a0:∀ (G:Nat) (F:List Value) (a5:Hp),G<xs.length+ys.length→Hp.le a5 h1→hH K I a5 xs F →
    ∃ U,oS K e I U (.slice (some ⟨w.heap.size,0,none⟩) (xs++ys).length (grownCap w (xs.length+ys.length) G e)) (xs++ys) ∧
     Le U (w.drew.alloc (.cells (F.toArray++i.toArray++Builtin.zeroCells zv.cells (grownCap w (xs.length+ys.length) G e - (xs.length+ys.length))) e)) ∧
     (∀ k,U k≠Option.none→L k≠Option.none∨w.heap.size≤k):=by
   intro G F a5 a4 ao ol
   obtain ⟨E,ju⟩:=Join.of_disj (h1:=a5) (h2:=a6) (fun b=>by
    rcases hj.disj b with f | f
    ·refine .inl ?_
     cases hh:a5 b with
     | none=>rfl
     | some o=>rw [ao b o hh] at f; cases f
    ·refine .inr ?_
     cases hh:a6 b with
     | none=>rfl
     | some o=>rw [a8 b o hh] at f; cases f)
   have D:Hp.le E L:=fun b o e=>by
    rcases ju.cases e with ⟨e,_⟩|⟨e,_⟩
    ·exact hj.left b o (ao b o e)
    ·exact hj.right b o (a8 b o e)
   obtain ⟨U,jo⟩:=Join.of_disj (h1:=Hp.one w.heap.size (.cells (F.toArray++i.toArray++Builtin.zeroCells zv.cells (grownCap w (xs.length+ys.length) G e - (xs.length+ys.length))) e)) (h2:=E) (fun b=>by
    by_cases a3:b=w.heap.size
    ·refine .inr ?_
     cases hh:E b with
     | none=>rfl
     | some o =>
      have:=a1.lt (b:=b) (by rw [D b o hh]; exact fun h=>by cases h)
      omega
    ·exact .inl (by simp [Hp.one,a3]))
   have aj:=grownCap_ge w (xs.length+ys.length) G e
   have ap:=grownCap_le_maxLen w (xs.length+ys.length) G e (by simp only [maxLen]; omega)
   refine ⟨U,.inr ⟨w.heap.size,_,[],F++i,(Builtin.zeroCells zv.cells (grownCap w (xs.length+ys.length) G e - (xs.length+ys.length))).toList,(0,0),E,rfl,by rw [u]; exact aj,ap,?_,.inl rfl,?_,mO ju ol on⟩,?_,?_⟩
   ·rw [u]
    have:zv.cells.size=K.sz:=by
     rw [hzz] at Z
     simp only [Option.map_some,Option.some.injEq] at Z
     rw [← ar,← Z]; simp
    simp [size_zeroCells,this]
   ·have:([]++(F++i)++(Builtin.zeroCells zv.cells (grownCap w (xs.length+ys.length) G e - (xs.length+ys.length))).toList).toArray=F.toArray++i.toArray++Builtin.zeroCells zv.cells (grownCap w (xs.length+ys.length) G e - (xs.length+ys.length)):=by
     apply Array.ext'
     simp
    rw [this]
    exact jo
   ·intro b o e
    rcases jo.cases e with ⟨e,_⟩|⟨e,_⟩
    ·exact Le.one_new (w:=w) (by show (w.heap.push _)[w.heap.size]?=_; simp) b o e
    ·have a4:=a1.lt (b:=b) (by rw [D b o e]; exact fun h=>by cases h)
     show (w.heap.push _)[b]?=_
     rw [Array.getElem?_push,if_neg (Nat.ne_of_lt a4)]
     exact a1 b o (D b o e)
   ·intro k hk
    by_cases hkk:k=w.heap.size
    ·exact .inr (Nat.le_of_eq hkk.symm)
    ·refine .inl fun hn=>hk ((jo.is_none k).2 ⟨by simp [Hp.one,hkk],?_⟩)
     cases hh:E k with
     | none=>rfl
     | some o=>rw [D k o hh] at hn; cases hn
  have a7:∀ (O:Obj) (k:Nat) (o:Obj),L k=Option.none→w.heap[k]?=some o→(w.drew.alloc O).heap[k]?=some o:=by
   intro O k o _ e
   have a4:=(Array.getElem?_eq_some_iff.1 e).1
   show (w.heap.push _)[k]?=_
   rw [Array.getElem?_push,if_neg (Nat.ne_of_lt a4)]
   exact e
  have a9:∀ (O:Obj) (C:World),Same C w→Same C (w.drew.alloc O):=fun O C h=>h.drew.alloc O
  rcases ho with ⟨B,rfl,rfl,rfl⟩|⟨g,c,pre,m,l,fr,aa,rfl,p2,p3,p4,p5,jo,ol⟩
  ·cases B with
   | some b =>
    have hr:=run_append_grow (P:=P) w t ty e info zv hu hi hzz b 0 0 [] (by simp) (fun j v hv=>by simp at hv) ⟨g2,o2,none⟩ ys.length cx i a2 M (by omega) (by omega) (by rw [hb,Nat.zero_add]; exact growslice_fits Y (by simpa using hl))
    obtain ⟨U,f1,f2,f3⟩:=a0 0 [] Hp.none (by simp; exact Y) (Hp.le_refl _) ⟨rfl,rfl⟩
    simp only [List.length_nil,Nat.zero_add,List.nil_append] at f1 f2 hr ⊢
    exact ⟨_,_,_,U,hr,a9 _,f1,f2,f3,a7 _⟩
   | none =>
   have hr:=run_append_nil (P:=P) w t ty e info zv hu hi hzz ⟨g2,o2,none⟩ ys.length cx i a2 M Y (by omega) (by rw [hb]; simp only [List.length_nil,Nat.zero_add] at hl; omega)
   obtain ⟨U,f1,f2,f3⟩:=a0 0 [] Hp.none (by simp; exact Y) (Hp.le_refl _) ⟨rfl,rfl⟩
   simp only [List.length_nil,Nat.zero_add,List.nil_append] at f1 f2 hr ⊢
   refine ⟨_,_,_,U,hr,a9 _,f1,?_,f3,a7 _⟩
   rw [show ([]:List Value).toArray++i.toArray=i.toArray by simp] at f2
   exact f2
  ·have ac:w.heap[g]?=some (.cells (pre++m++l).toArray e fr):=a1 g _ (hj.left g _ (jo.left g _ (by simp [Hp.one])))
   have an:=mN ol
   by_cases hroom:xs.length+ys.length≤c
   ·-- in place
    have ax:ys.length*K.sz≤l.length:=by rw [p4]; exact Nat.mul_le_mul_right _ (by omega)
    obtain ⟨w',r,e',ot,sm⟩:=ke (P:=P) (N:=(pre++m++l).length) (T:=e) (fr:=fr) (b:=g) (by simpa [Nat.add_assoc] using p5) i (pre.length+xs.length*K.sz) 0 (pre++m++l) w rfl ac (by simp only [List.length_append]; omega) (sv on)
    obtain ⟨E,ju⟩:=Join.of_disj (h1:=aa) (h2:=a6) (fun b=>by
     rcases hj.disj b with f | f
     ·exact .inl ((jo.is_none b).1 f).2
     ·refine .inr ?_
      cases hh:a6 b with
      | none=>rfl
      | some o=>rw [a8 b o hh] at f; cases f)
    have D:∀ b o,E b=some o→L b=some o∧b≠g:=fun b o e=>by
     rcases ju.cases e with ⟨e,_⟩|⟨e,_⟩
     ·refine ⟨hj.left b o (jo.right b o e),?_⟩
      rintro rfl
      rcases jo.disj b with f | f
      ·simp [Hp.one] at f
      ·rw [f] at e; cases e
     ·refine ⟨hj.right b o (a8 b o e),?_⟩
      rintro rfl
      rcases hj.disj b with f | f
      ·have:=((jo.is_none b).1 f).1
       simp [Hp.one] at this
      ·rw [a8 b o e] at f; cases f
    obtain ⟨U,jn⟩:=Join.of_disj (h1:=Hp.one g (.cells (pre++(m++i)++l.drop i.length).toArray e fr)) (h2:=E) (fun b=>by
     by_cases a3:b=g
     ·refine .inr ?_
      cases hh:E b with
      | none=>rfl
      | some o=>exact absurd a3 (D b o hh).2
     ·exact .inl (by simp [Hp.one,a3]))
    have ak:(pre++m++l).take (pre.length+xs.length*K.sz+0)++i++(pre++m++l).drop (pre.length+xs.length*K.sz+0+i.length)=pre++(m++i)++l.drop i.length:=by
     have h1:pre.length+xs.length*K.sz+0=(pre++m).length:=by simp [an]
     rw [h1,List.take_left,List.drop_append,List.drop_of_length_le (by omega),Nat.add_sub_cancel_left]
     simp [List.append_assoc]
    rw [ak] at e'
    refine ⟨some ⟨g,pre.length,none⟩,c,w',U,?_,sm,.inr ⟨g,c,pre,m++i,l.drop i.length,fr,E,rfl,by rw [u]; exact hroom,p3,?_,?_,jn,mO ju ol on⟩,?_,?_,?_⟩
    ·have hf:=run_firstCells_some (P:=P) w info.size ys.length ⟨g2,o2,none⟩ ys.length cx i a2 M
     rw [hs] at hf
     simp [Builtin.append_,run_underlying hu,sizeOf,typeInfo,hi,Builtin.lenOf,hroom,hf,gN,hs,r,Sem.run_bind]
    ·rw [List.length_drop,p4,al,← Nat.sub_mul,u]
     congr 1
     omega
    ·rcases p5 with p5 | p5
     ·exact .inl p5
     ·refine .inr ?_
      simp only [List.length_append,List.length_drop]
      omega
    ·intro b o e
     rcases jn.cases e with ⟨e1,_⟩|⟨e1,_⟩
     ·simp only [Hp.one] at e1
      split at e1
      ·rename_i a3; subst a3; rw [← Option.some.inj e1]; exact e'
      ·cases e1
     ·obtain ⟨q1,q2⟩:=D b o e1
      rw [ot b q2]
      exact a1 b o q1
    ·intro k hk
     refine .inl fun hn=>hk ((jn.is_none k).2 ⟨?_,?_⟩)
     ·have:=((jo.is_none k).1 ((hj.is_none k).1 hn).1).1
      simp only [Hp.one] at *
      split at this
      ·cases this
      ·rename_i ag; rw [if_neg ag]
     ·cases hh:E k with
      | none=>rfl
      | some o=>rw [(D k o hh).1] at hn; cases hn
    ·intro k o hk e
     have ag:k≠g:=by
      rintro rfl
      have:=((jo.is_none k).1 ((hj.is_none k).1 hk).1).1
      simp [Hp.one] at this
     rw [ot k ag]
     exact e
   ·have ai:∀ (j:Nat) (v:Value),m[j]?=some v→w.cell? ((⟨g,pre.length,none⟩:Addr).add j)=some v:=fun j v hv=>by
     have a4:=(List.getElem?_eq_some_iff.1 hv).1
     rw [gN]
     simp only [World.cell?,ac,Option.isSome_none,Bool.false_eq_true,if_false,List.getElem?_toArray]
     rw [List.append_assoc,List.getElem?_append_right (by omega),Nat.add_sub_cancel_left,List.getElem?_append_left a4]
     exact hv
    have hr:=run_append_grow (P:=P) w t ty e info zv hu hi hzz ⟨g,pre.length,none⟩ xs.length c m (by rw [an,hs]) ai ⟨g2,o2,none⟩ ys.length cx i a2 M (by omega) (by omega) (by rw [hb]; exact growslice_fits (by omega) hl)
    obtain ⟨U,f1,f2,f3⟩:=a0 c m aa (by omega) jo.right ol
    rw [← u] at hr
    rw [u] at hr f1
    refine ⟨_,_,_,U,by rw [u]; exact hr,a9 _,by rw [u]; exact f1,f2,f3,a7 _⟩
end Go.Pg
