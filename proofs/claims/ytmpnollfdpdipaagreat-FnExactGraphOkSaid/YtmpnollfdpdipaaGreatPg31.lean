import Derived.Test.YtmpnollfdpdipaaGreatPg30
import Derived.RangeFuncRecord
set_option linter.unusedVariables false
set_option linter.unusedSimpArgs false
namespace Go.Pg
def ob (l:Nat)(o:Obj):HP:=⟨fun _ h=>h=Hp.one l o,fun _ e=>e⟩
abbrev lpe (l:Nat)(r:Loop):HP:=ob l (.loop r)
def pe {A:Type}(f:A→List HP):HP:=⟨fun I h=>∃ x,star (f x) I h,fun l ⟨x,s⟩=>⟨x,star_mono l s⟩⟩
theorem St.pei {C w:World}{A:Type}{f:A→List HP}{V:List HP}(x:A)(s:St C w (f x++V)):St C w (pe f::V):=by
 refine St.imp (A:=f x) (B:=[pe f]) s ?_
 intro I h _ _ a
 exact ⟨h,Hp.none,(Join.none h).symm,⟨x,a⟩,rfl⟩
theorem St.peo {C w:World}{A:Type}{f:A→List HP}{V:List HP}(s:St C w (pe f::V)):∃ x,St C w (f x++V):=by
 obtain ⟨a,I,h,g,j,l,h1,h2,j',⟨x,c⟩,d⟩:=s
 exact ⟨x,a,I,h,g,j,l,star_app.2 ⟨h1,h2,j',c,d⟩⟩
theorem one_self (l:Nat)(o:Obj):Hp.one l o l=some o:=by simp [Hp.one]
theorem one_ne {l b:Nat}{o:Obj}(h:Hp.one l o b≠none):b=l:=by
 unfold Hp.one at h
 split at h
 ·assumption
 ·exact absurd rfl h
theorem look_ob {C w:World}{V:List HP}{l:Nat}{o:Obj}(s:St C w V)(i:Nat)(h:lk V i=ob l o):w.heap[l]?=some o:=by
 obtain ⟨I,g,p,_,lh,_⟩:=s.look i
 rw [h] at p
 cases p
 exact lh l o (one_self l o)
theorem Same.putObj {C w:World}(s:Same C w)(l:Nat)(o:Obj):Same C (w.putObj l o):=⟨s.os,s.tape,s.output⟩
theorem St.putObj {C w:World}{V:List HP}{l:Nat}{o o':Obj}(s:St C w (ob l o::V)):St C (w.putObj l o') (ob l o'::V):=by
 have hl:=look_ob s 0 rfl
 have hlt:l<w.heap.size:=(Array.getElem?_eq_some_iff.1 hl).1
 refine St.turn s 0 (q:=ob l o') (fun a=>a.putObj l o') ?_
 rintro I h e _ _
 cases e
 refine ⟨_,rfl,?_,?_,?_⟩
 ·intro b o2 e
  have:=one_ne (by rw [e]; exact fun h=>by cases h)
  subst this
  rw [one_self] at e
  cases e
  exact World.putObj_heap_same hlt
 ·intro b hb
  have:=one_ne hb
  subst this
  exact .inl (by rw [one_self]; exact fun h=>by cases h)
 ·intro b o2 e h2
  rw [World.putObj_heap_other]
  ·exact h2
  ·rintro rfl
   rw [one_self] at e; cases e
theorem St.newOb {C w:World}{V:List HP}(s:St C w V)(o:Obj):St C (w.alloc o) (ob w.heap.size o::V):=by
 refine St.new s (q:=ob w.heap.size o) (fun a=>a.alloc o) (fun I _=>⟨_,rfl,?_,?_⟩) ?_
 ·intro b o2 e
  have:=one_ne (by rw [e]; exact fun h=>by cases h)
  subst this
  rw [one_self] at e
  cases e
  exact World.alloc_heap_new w o
 ·intro b hb
  exact Nat.le_of_eq (one_ne hb).symm
 ·intro b o2 e
  show (w.heap.push o)[b]?=some o2
  have hlt:=(Array.getElem?_eq_some_iff.1 e).1
  rw [Array.getElem?_push,if_neg (Nat.ne_of_lt hlt)]
  exact e
def inW (ro:Option Nat):Fence:={Fence.wide with round:=ro}
theorem calls_inW {ro:Option Nat}{n:Nat}{P:Program}{f:FuncId}{args:Array Value}{w:World}{R:Ending→World→Prop}(h:Calls P f args w R):CallsIn (inW ro) n P f args w R :=
 (callsIn_wide (n:=n)).2 h
theorem rows_inW {ro:Option Nat}{n:Nat}{P:Program}{row:String}{args:Array Value}{w:World}{R:Value→World→Prop}(h:Rows P row args w R):RowsIn (inW ro) n P row args w R:=by
 intro c cs _
 obtain ⟨v,w',r,s⟩:=h c cs
 exact ⟨v,w',r,stepsIn_wide.2 s⟩
theorem upon_inW {ro:Option Nat}{P:Program}{o:Oper}{a:Act}{next:Act→World→Prop}{Q:Exit→Act→World→Prop}{r:Result Next}(h:o.upon P a next Q r):o.uponIn (inW ro) 0 P a next Q r:=by
 match r,h with
 | .ok (.value v) w',h=>exact h
 | .ok .skip w',h=>exact h
 | .ok (.defer d) w',h=>exact h
 | .ok (.enter f args) w',h =>
  refine ⟨(fun h=>by cases h),?_⟩
  refine (calls_inW h).mono ?_
  intro e w'' he
  cases e<;>exact he
 | .ok (.row row args) w',h=>exact ⟨(fun h=>by cases h),rows_inW h⟩
 | .halt (.panic v) w',h=>exact h
def noDefer (l:List Oper):Bool:=l.all fun o=>match o.op with
 | .defer _=>false
 | _=>true
theorem list_inW {ro:Option Nat}{P:Program}{ops:Array Oper}{Q:Exit→Act→World→Prop}(hq:¬ LetsOut Q):∀ (l:List Oper) (a:Act) (w:World),noDefer l=true→wpList P ops Q l a w→wpListIn (inW ro) 0 P ops Q l a w:=by
 intro l
 induction l with
 | nil=>exact fun a w _ h=>h
 | cons o l ih =>
  intro a w hd h
  simp only [noDefer,List.all_cons,Bool.and_eq_true] at hd
  have hno:∀ c,o.op≠.defer c:=by
   intro c hc
   have:=hd.1
   rw [hc] at this
   cases this
  unfold wpList at h
  unfold wpListIn
  split
  ·rename_i hw
   rw [if_pos hw] at h
   have h:=h.resolve_right fun h=>hq h.2
   refine ⟨fun _ _=>trivial,?_⟩
   have e:o.semAt (inW ro).round a.eval=execOp a.eval o:=Oper.semAt_eq _ _ _ hno
   rw [e]
   unfold Oper.wp at h
   have mono:∀ r,o.upon P a (wpList P ops Q l) Q r→o.upon P a (wpListIn (inW ro) 0 P ops Q l) Q r:=by
    intro r hr
    match r,hr with
    | .ok (.value v) w',hr=>exact ih _ _ hd.2 hr
    | .ok .skip w',hr=>exact ih _ _ hd.2 hr
    | .ok (.defer _) w',hr=>exact ih _ _ hd.2 hr
    | .ok (.enter f args) w',hr =>
     refine Calls.mono' hr ?_
     intro e w'' he
     cases e with
     | returned v=>exact ih _ _ hd.2 he
     | panicked c=>exact he
     | outgrown=>exact he
    | .ok (.row row args) w',hr=>exact Rows.mono hr fun v w'' h=>ih _ _ hd.2 h
    | .halt (.panic v) w',hr=>exact hr
   exact upon_inW (mono _ h)
  ·rename_i hw
   rw [if_neg hw] at h
   exact ⟨fun _ _=>trivial,ih _ _ hd.2 h⟩
def YOk {A:Type}(P:Program)(l:Nat)(args:List Value)(Pre:List HP)(post:A→Value×List HP):Prop :=
 ∀ C w V,St C w (Pre++V)→∃ f tmps asn body,(Instr.yield l args.toArray).run P w=.ok (.round l f tmps asn body) w ∧
  RoundIn Fence.wide 0 P l f tmps asn body w (fun e w'=>∃ x,e=.returned (post x).1∧St C w' ((post x).2++V))
def WLI (P:Program)(N:Nn)(ops:Array Oper)(rest:List Oper)(Q:Exit→Env→World→Prop)(σ:Env)(w:World):Prop :=
 ∀ a:Act,a.tmps.size=N.n→a.defers=N.ds→envOf a=σ→wpListIn Fence.wide 0 P ops (lift N Q) rest a w
section
variable {X:Cx}{V:List HP}{σ:Env}{Q:Exit→Env→World→Prop}{ops:Array Oper}{rest:List Oper}
variable {d:Option Nat}{ty:TypeId}{pos:String}{af:Array Edge}{gd:Option (Nat×Bool)}
theorem noOut {N:Nn}{Q:Exit→Env→World→Prop}(h:∀ σ w,Q .outgrown σ w→False):¬ LetsOut (lift N Q):=by
 rintro ⟨a,w,q⟩
 exact h _ _ (lift_n q (by simp)).2.2
theorem c_regy {id:Nat}{l:List Oper}(k:Nat)(hd:noDefer (l.take k)=true)(hQ:∀ σ w,Q .outgrown σ w→False)
  (h:TL X l.toArray V σ (l.take k) (Then (fun σ w=>WLI X.P X.n l.toArray (l.drop k) Q σ w) Q)):TC X V σ (.region id l.toArray false) Q:=by
 intro w s a h1 h2 h3
 refine (wpIn_wide (n:=0)).1 (wpIn_region_lit ?_)
 have h:=list_inW (ro:=none) (noOut (N:=X.n) (Q:=Then (fun σ w=>WLI X.P X.n l.toArray (l.drop k) Q σ w) Q) hQ) _ a w hd (h w s a h1 h2 h3)
 have mono:∀ (l1:List Oper) (a:Act) (w:World),wpListIn Fence.wide 0 X.P l.toArray (lift X.n (Then (fun σ w=>WLI X.P X.n l.toArray (l.drop k) Q σ w) Q)) l1 a w→wpListIn Fence.wide 0 X.P l.toArray (lift X.n Q) (l1++l.drop k) a w:=by
  intro l1
  induction l1 with
  | nil =>
   intro a w h
   obtain ⟨q1,q2,q3⟩:=lift_n h (by simp)
   exact q3 a q1 q2 rfl
  | cons o l1 ih =>
   intro a w h
   have hq:∀ e,e≠Exit.normal→∀ a w,lift X.n (Then (fun σ w=>WLI X.P X.n l.toArray (l.drop k) Q σ w) Q) e a w→lift X.n Q e a w:=by
    intro e he a w q
    cases e with
    | normal=>exact absurd rfl he
    | _=>exact q
   unfold wpListIn at h
   show wpListIn Fence.wide 0 X.P l.toArray (lift X.n Q) (o::(l1++l.drop k)) a w
   unfold wpListIn
   split
   ·rename_i hw
    rw [if_pos hw] at h
    refine ⟨h.1,?_⟩
    have h:=h.2
    revert h
    generalize (o.semAt Fence.wide.round a.eval).run X.P w=r
    intro hr
    match r,hr with
    | .ok (.value v) w',hr=>exact ih _ _ hr
    | .ok .skip w',hr=>exact ih _ _ hr
    | .ok (.defer _) w',hr=>exact ih _ _ hr
    | .ok (.enter f args) w',hr =>
     refine ⟨hr.1,hr.2.mono ?_⟩
     intro e w'' he
     cases e with
     | returned v=>exact ih _ _ he
     | panicked c=>exact hq _ (by intro h; cases h) _ _ he
     | outgrown=>obtain ⟨b,u,hb⟩:=he; exact ⟨b,u,hq _ (by intro h; cases h) _ _ hb⟩
    | .ok (.row row args) w',hr=>exact ⟨hr.1,hr.2.mono fun v w'' h=>ih _ _ h⟩
    | .ok (.round l0 f tmps asn body) w',hr =>
     refine ⟨hr.1,hr.2.mono ?_⟩
     intro e w'' he
     cases e with
     | returned v=>exact ih _ _ he
     | panicked c=>exact hq _ (by intro h; cases h) _ _ he
     | outgrown=>obtain ⟨b,u,hb⟩:=he; exact ⟨b,u,hq _ (by intro h; cases h) _ _ hb⟩
    | .halt (.panic v) w',hr=>exact hq _ (by intro h; cases h) _ _ hr
   ·rename_i hw
    rw [if_neg hw] at h
    exact ⟨h.1,ih _ _ h.2⟩
 have:=mono _ a w h
 rw [List.take_append_drop] at this
 exact this
theorem q_yield {A:Type}{fv:Operand}{l:Nat}{xs:Array Operand}{ats:Array TypeId}{as:List Value}{post:A→Value×List HP}{Pre:List HP}{dd:Nat}(m:Nat)
  (hv:ev σ fv=.func (.yield l) #[] #[]) (ha:xs.toList.map (ev σ)=as) (hc:YOk X.P l as Pre post) (hV:tk m V=Pre) (hQ:∀ σ w,Q .outgrown σ w→False) (hd:noDefer rest=true)
  (k:∀ x,TL X ops ((post x).2++dp m V) (upd σ dd (post x).1) rest Q) (hdd:dok X.n (some dd)=true:=by exact rfl) :
  TQ X V σ .normal (Then (fun σ w=>WLI X.P X.n ops (⟨some dd,.call ⟨.value fv,xs,ats⟩,ty,pos,af,none⟩::rest) Q σ w) Q):=by
 intro w s a h1 h2 h3
 refine wpListIn_plain rfl fun K hK=>⟨fun _ _=>trivial,?_⟩
 rw [← tk_dp m V,hV] at s
 obtain ⟨f,tmps,asn,body,hy,hr⟩:=hc X.C w _ s
 have hr':(execOp (ev σ) ⟨some dd,.call ⟨.value fv,xs,ats⟩,ty,pos,af,none⟩).run X.P w=.ok (.round l f tmps asn body) w:=by
  have e:(#[]++xs.map (ev σ))=as.toArray:=by rw [arr_map xs _ ha]; simp
  simp only [execOp,resolve,hv,Deferred.ofValue,Sem.run_bind,Sem.run_pure,Result.andThen_ok,invoke,e,hy]
 rw [show Fence.wide.round=none from rfl,Oper.semAt_none,eval_env,h3,hr']
 refine ⟨(fun h=>by cases h),hr.mono ?_⟩
 rintro e w' ⟨x,rfl,s'⟩
 refine hK _ _ ?_
 obtain ⟨p1,p2,p3⟩:=put_facts (o:=⟨some dd,.call ⟨.value fv,xs,ats⟩,ty,pos,af,none⟩) hdd h1 h2 h3 (post x).1
 exact list_inW (ro:=none) (noOut hQ) _ _ _ hd (k x w' s' _ p1 p2 p3)
end
end Go.Pg
