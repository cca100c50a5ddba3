import Derived.Test.YtmpnollfdpdipaaGreatPg31
set_option linter.unusedVariables false
set_option linter.unusedSimpArgs false
namespace Go.Pg
theorem St.dn {C w:World}{p:HP}{A V:List HP}(s:St C w (p::(A++V))):St C w (A++p::V):=by
 obtain ⟨q,I,h,g,j,lw,g1,g2,j1,c,d⟩:=s
 obtain ⟨k1,k2,j2,e1,e2⟩:=star_app.1 d
 obtain ⟨m,m1,m2⟩:=Join.assoc' j2.symm j1
 exact ⟨q,I,h,g,j,lw,star_app.2 ⟨k1,m,m2.symm,e1,g1,k2,m1,c,e2⟩⟩
theorem St.up {C w:World}{p:HP}{A V:List HP}(s:St C w (A++p::V)):St C w (p::(A++V)):=by
 obtain ⟨q,I,h,g,j,lw,d⟩:=s
 obtain ⟨k1,k2,j2,e1,g1,g2,j3,c,e2⟩:=star_app.1 d
 obtain ⟨m,m1,m2⟩:=Join.assoc' j3.symm j2
 exact ⟨q,I,h,g,j,lw,g1,m,m2.symm,c,star_app.2 ⟨k1,g2,m1,e1,e2⟩⟩
structure Rec (rc:Loop)(ps:Array Tmp)(asn body:Code)(n:Nat)(σ:Env):Prop where
 st:rc.state=.ready
 pe:rc.pending=none
 ps:rc.params=ps
 asn:rc.assign=asn
 body:rc.body=body
 sz:rc.tmps.size=n
 env:(fun t=>rc.tmps.getD t undef)=σ
def Mid (X:Cx)(σ2:Env)(V:List HP):Exit→Env→World→Prop
 | .normal,σ,w=>σ=σ2∧St X.C w V
 | _,_,_=>False
def RdQ (X:Cx)(go:Bool){A:Type}(f:A→List HP)(V:List HP):Exit→Env→World→Prop
 | .normal,_,w=>go=true∧∃ x,St X.C w (f x++V)
 | _,_,_=>False
theorem q_mid {X:Cx}{V:List HP}{σ:Env}:TQ X V σ .normal (Mid X σ V):=fun w s=>⟨rfl,s⟩
theorem q_rd {X:Cx}{A:Type}{f:A→List HP}{V0 V:List HP}{σ:Env}{go:Bool}(x:A)(hg:go=true)(h:∀ w,St X.C w V0→St X.C w (f x++V)):TQ X V0 σ .normal (RdQ X go f V):=fun w s=>⟨hg,x,h w s⟩
theorem rec_back {rc:Loop}{s:LoopState}(h1:rc.state=.ready)(h2:rc.pending=none):({{rc with state:=s} with state:=.ready,pending:=none}:Loop)=rc:=by
 cases rc; simp only at h1 h2; subst h1; subst h2; rfl
theorem yok {A:Type}{P:Program}{l:Nat}{rc:Loop}{p:Tmp}{n i1 b i2:Nat}{l1 l2:List Oper}{σ:Env}{x:Value}{go:Bool}(Bd Bd':A→List HP)
  (hr:Rec rc #[p] (.region i1 l1.toArray false) (.block b (.region i2 l2.toArray false)) n σ) (h1:noDefer l1=true) (h2:noDefer l2=true) (hp:Nat.blt p n=true)
  (walk:∀ a,∃ σ2,∀ C V,TL ⟨P,.of n,C⟩ l1.toArray (Bd a++V) (upd σ p x) l1 (Mid ⟨P,.of n,C⟩ σ2 (Bd a++V))∧TL ⟨P,.of n,C⟩ l2.toArray (Bd a++V) σ2 l2 (RdQ ⟨P,.of n,C⟩ go Bd' V)) :
  YOk P l [x] [pe fun a=>lpe l rc::Bd a] (fun _:Unit=>(.bool go,[pe fun a=>lpe l rc::Bd' a])):=by
 intro C w V s
 obtain ⟨a,s⟩:=s.peo
 have hl:=look_ob s 0 rfl
 refine ⟨rc.fn,_,rc.assign,rc.body,run_yield hl (by rw [hr.ps]; rfl),?_⟩
 rw [hr.asn,hr.body,hr.ps]
 have hfold:((#[p]:Array Tmp).zip [x].toArray).foldl (fun tmps (t,a)=>tmps.setIfInBounds t a) rc.tmps=rc.tmps.setIfInBounds p x:=by
  simp
 rw [hfold]
 have hsz:(rc.tmps.setIfInBounds p x).size=n:=by rw [Array.size_setIfInBounds,hr.sz]
 have hpn:p<rc.tmps.size:=by rw [hr.sz]; exact Nat.lt_of_lt_of_le (Nat.lt_succ_self _) (Nat.le_of_ble_eq_true hp)
 have henv:envOf {tmps:=rc.tmps.setIfInBounds p x,defers:=[]}=upd σ p x:=by
  have:=envOf_put {tmps:=rc.tmps,defers:=[]} (some p) x (fun d e=>by cases e; exact hpn)
  rw [show ({tmps:=rc.tmps,defers:=[]}:Act).put (some p) x={tmps:=rc.tmps.setIfInBounds p x,defers:=[]} from rfl] at this
  rw [this,← hr.env]
  rfl
 obtain ⟨σ2,wk⟩:=walk a
 have wa:=(wk C (lpe l rc::V)).1
 have wb:=(wk C (lpe l {rc with state:=.busy}::V)).2
 refine roundIn_of_wpIn trivial (n:=0) ?_
 have g1:=list_inW (ro:=some l) (noOut (N:=.of n) (Q:=Mid ⟨P,.of n,C⟩ σ2 (Bd a++lpe l rc::V)) fun _ _ h=>h) _ _ w h1 (wa w (St.dn s) _ hsz rfl henv)
 refine wpIn_mono (wpIn_region_lit g1) ?_
 rintro e a' w' q
 cases e with
 | normal =>
  obtain ⟨q1,q2,q3,q4⟩:=lift_n q (by simp)
  have q4:=St.up q4
  have hl':=look_ob q4 0 rfl
  refine ⟨_,run_beginRound hl' hr.st,?_⟩
  have s2:=St.dn (q4.putObj (o':=.loop {rc with state:=.busy}))
  have g2:=list_inW (ro:=some l) (noOut (N:=.of n) (Q:=RdQ ⟨P,.of n,C⟩ go Bd' (lpe l {rc with state:=.busy}::V)) fun _ _ h=>h) _ _ _ h2 (wb _ s2 _ q1 q2 q3)
  refine wpIn_block (wpIn_mono (wpIn_region_lit g2) ?_)
  rintro e a'' w'' q
  cases e with
  | normal =>
   obtain ⟨q1,q2,rfl,y,q3⟩:=lift_n q (by simp)
   have q3:=St.up q3
   have hl'':=look_ob q3 0 rfl
   refine ⟨_,_,run_endRound none hl'',(),rfl,?_⟩
   have s3:=q3.putObj (o':=.loop {{rc with state:=.busy} with state:=.ready,pending:=none})
   rw [rec_back hr.st hr.pe] at s3
   refine Eq.mp (congrArg (fun o=>St C (w''.putObj l o) (pe (fun a=>lpe l rc::Bd' a)::V)) ?_) (St.pei y s3)
   exact (congrArg Obj.loop (rec_back (s:=.busy) hr.st hr.pe)).symm
  | ret=>rcases q with ⟨_,_,q⟩|⟨_,q⟩<;>exact q.elim
  | _=>exact (lift_n q (by simp)).2.2.elim
 | ret=>rcases q with ⟨_,_,q⟩|⟨_,q⟩<;>exact q.elim
 | _=>exact (lift_n q (by simp)).2.2.elim
def tmpsOnly (fn:Func):Bool:=fn.results.toList.all fun r=>match r with
 | .tmp _=>true
 | _=>false
theorem results_still {fn:Func}{σ:Env}{P:Program}{w w':World}{v:Value}(ht:tmpsOnly fn=true)(h:(resultsE fn σ).run P w=.ok v w):(resultsE fn σ).run P w'=.ok v w':=by
 unfold resultsE at h ⊢
 obtain ⟨rs,hrs⟩:∃ rs:List ResultVar,fn.results=rs.toArray:=⟨fn.results.toList,by simp⟩
 rw [hrs,List.mapM_toArray] at h ⊢
 unfold tmpsOnly at ht
 rw [hrs] at ht
 have key:∀ (rs:List ResultVar),rs.all (fun r=>match r with | .tmp _=>true | _=>false)=true→∃ vs,∀ w,(rs.mapM (fun | .tmp t=>pure (σ t) | .cell a t=>do loadVar t (← asAddr (σ a)):ResultVar→Sem Value)).run P w=.ok vs w:=by
  intro rs
  induction rs with
  | nil=>exact fun _=>⟨[],fun _=>rfl⟩
  | cons r rs ih =>
   intro h
   simp only [List.all_cons,Bool.and_eq_true] at h
   obtain ⟨vs,hvs⟩:=ih h.2
   cases r with
   | tmp t=>exact ⟨σ t::vs,fun w=>by simp [List.mapM_cons,hvs]⟩
   | cell a t=>cases h.1
 obtain ⟨vs,hvs⟩:=key rs (by simpa using ht)
 simp only [Sem.run_bind,Sem.run_map] at h ⊢
 have e1:=hvs w
 have e2:=hvs w'
 refine (congrArg (fun r=>Result.andThen (Result.andThen r _) _) e2).trans ?_
 have h:=(congrArg (fun r=>Result.andThen (Result.andThen r _) _) e1).symm.trans h
 simp only [Result.andThen_ok,Sem.run_pure] at h ⊢
 cases h
 rfl
abbrev markOf (D:Nat):Deferred:={target:=.collected D,args:=#[]}
def Alt {A:Type}(P:Program)(fn:Func)(C:World)(V:List HP)(post:A→Value×List HP):Act→World→Prop :=
 fun a w=>LeavesInM Fence.wide 0 P fn a.tmps (fun e w'=>∃ x,e=.returned (post x).1∧St C w' ((post x).2++V)) a.defers .returning w
theorem fn_okm {A:Type}{P:Program}{f:FuncId}{fn:Func}{c:Code}{args:List Value}{Pre:List HP}{post:A→Value×List HP}(hf:P.funcs[f]?=some fn)(hb:fn.body=some c)(n:Nat)(hn0:fn.ntmps=n)(hn:Nat.ble args.length n=true)
  (h:∀ C V,TC ⟨P,⟨n,[],Alt P fn C V post⟩,C⟩ (Pre++V) (env0 args.toArray) c (Ends P fn (Fin ⟨P,⟨n,[],Alt P fn C V post⟩,C⟩ V post))):FnOk P f args Pre post:=by
 subst hn0
 intro C w V s
 refine callsIn_wide.1 (callsIn_of_wp_marks (n:=0) hf hb trivial ?_)
 have hn:args.toArray.size≤fn.ntmps:=by have:=Nat.le_of_ble_eq_true hn; simpa using this
 refine (wpIn_wide (n:=0)).2 (wp_mono (h C V w s _ (by simp at hn ⊢; omega) rfl env0_eq) ?_)
 rintro e a w' q
 rcases q with ⟨q1,q2,q3⟩|⟨rfl,q⟩
 ·have fin:∀ v,(resultsE fn (envOf a)).run P w'=.ok v w'→Fin ⟨P,⟨fn.ntmps,[],Alt P fn C V post⟩,C⟩ V post v w'→LeavesInM Fence.wide 0 P fn a.tmps (fun e w'=>∃ x,e=.returned (post x).1∧St C w' ((post x).2++V)) a.defers .returning w':=by
   rintro v hr ⟨x,rfl,s'⟩
   rw [q2]
   exact ⟨_,hr,x,rfl,s'⟩
  cases e with
  | normal =>
   obtain ⟨v,hr,hR⟩:=q3
   exact fin v hr hR
  | ret =>
   obtain ⟨v,hr,hR⟩:=q3
   exact fin v hr hR
  | _=>exact q3.elim
 ·exact q
def EndsR (P:Program)(fn:Func)(R:Value→World→Prop):Exit→Env→World→Prop
 | .ret,σ,w=>∃ v,(resultsE fn σ).run P w=.ok v w∧R v w
 | _,_,_=>False
theorem q_endr {A:Type}{X X':Cx}{V V0:List HP}{σ:Env}{post:A→Value×List HP}{P:Program}{fn:Func}(h:TQ X V σ .ret (Ends P fn (Fin X' V0 post))):TQ X V σ .ret (EndsR P fn (Fin X' V0 post)):=fun w s=>h w s
def Rg (X:Cx)(rf rest:Code)(Q:Exit→Env→World→Prop):Env→World→Prop:=fun σ w =>
 ∀ a:Act,a.tmps.size=X.n.n→a.defers=X.n.ds→envOf a=σ→rf.wp X.P (Exit.then (rest.wp X.P (lift X.n Q)) (lift X.n Q)) a w
theorem c_rseq {X:Cx}{V:List HP}{σ:Env}{Q:Exit→Env→World→Prop}{c0 rf rest:Code}(h:TC X V σ c0 (Then (Rg X rf rest Q) Q)):TC X V σ (.seq (.seq c0 rf) rest) Q:=by
 intro w s a h1 h2 h3
 refine wp_seq (wp_seq (wp_mono (h w s a h1 h2 h3) ?_))
 rintro e a' w' q
 cases e with
 | normal =>
  obtain ⟨q1,q2,q3⟩:=lift_n q (by simp)
  exact q3 a' q1 q2 rfl
 | _=>exact q
theorem q_range {A B H:Type}{P:Program}{n:Nat}{fn:Func}{C:World}{V:List HP}{post:A→Value×List HP}{Vc:List HP}{σ:Env}{Q:Exit→Env→World→Prop}{id:Nat}{g:Operand}{ps:Array Tmp}{asn body rest:Code}{gf:Nat}{lb:List Value}
  (Wc:List HP) (E E':Nat→Loop→HP) (Pre' W3:List HP) (cp:B→List HP) (Wd:H→List HP)
  (hV:Vc=Wc++V) (hg:ev σ g=.func (.func gf) #[] lb.toArray) (hcb:callB P gf=true)
  (hin:∀ V w l rc,St C w (lpe l rc::(Wc++V))→St C w (E l rc::(Pre'++(W3++V))))
  (hcall:∀ l rc,Rec rc ps asn body n σ→FnOk P gf (.func (.yield l) #[] #[]::lb) (E l rc::Pre') (fun x:B=>(.tuple [].toArray,E' l rc::cp x)))
  (hout:∀ V w l rc x,St C w (E' l rc::(cp x++(W3++V)))→∃ y,St C w (lpe l rc::(Wd y++V)))
  (ht:tmpsOnly fn=true)
  (hk:∀ y D V,TC ⟨P,⟨n,[markOf D],fun _ _=>False⟩,C⟩ (Wd y++V) σ rest (EndsR P fn (Fin ⟨P,⟨n,[markOf D],fun _ _=>False⟩,C⟩ V post))) :
  TQ ⟨P,⟨n,[],Alt P fn C V post⟩,C⟩ Vc σ .normal (Then (Rg ⟨P,⟨n,[],Alt P fn C V post⟩,C⟩ (.block id (.rangeFunc g ps asn body)) rest (Ends P fn (Fin ⟨P,⟨n,[],Alt P fn C V post⟩,C⟩ V post))) Q):=by
 intro w s a h1 h2 h3
 subst hV
 refine wp_block ((wpIn_wide (n:=0)).1 (wpIn_rangeFunc ?_))
 intro fnid _
 obtain ⟨rc,hrc⟩:∃ rc:Loop,rc={state:=.ready,pending:=none,fn:=fnid,tmps:=a.tmps,params:=ps,assign:=asn,body:=body,defers:=w.heap.size}:=⟨_,rfl⟩
 have hrec:Rec rc ps asn body n σ:=by
  subst hrc
  exact ⟨rfl,rfl,rfl,rfl,rfl,h1,h3⟩
 have s1:=St.dn (St.newOb s (.deferred (some [])))
 have s2:=St.newOb s1 (.loop rc)
 rw [World.size_alloc] at s2
 obtain ⟨W1,hW1⟩:∃ W1,(w.alloc (.deferred (some []))).alloc (.loop rc)=W1:=⟨_,rfl⟩
 rw [hW1] at s2
 refine ⟨w.heap.size+1,[markOf w.heap.size],W1,{target:=.fn (.func gf) lb.toArray,args:=#[.func (.yield (w.heap.size+1)) #[] #[]]},W1,gf,
  #[.func (.yield (w.heap.size+1)) #[] #[]]++lb.toArray,W1,?_,?_,fun _ _=>trivial,?_,fun h=>(by cases h),?_⟩
 ·rw [← hW1,hrc]; exact run_enterLoop_outer _ _ _ _ _
 ·have:a.eval g=.func (.func gf) #[] lb.toArray:=by rw [eval_env,h3]; exact hg
  simp only [resolve,this]
  simp [go_sem]
 ·simp [invoke,go_sem,run_callFunc hcb]
 ·refine callsIn_wide.2 ?_
  have hc:=hcall (w.heap.size+1) rc hrec C W1 _ (hin _ _ _ _ s2)
  have e:(Value.func (.yield (w.heap.size+1)) #[] #[]::lb).toArray=#[Value.func (.yield (w.heap.size+1)) #[] #[]]++lb.toArray:=by
   apply Array.ext'; simp
  rw [e] at hc
  refine Calls.mono' hc ?_
  rintro e w2 ⟨x,rfl,s3⟩
  obtain ⟨y,s4⟩:=hout _ _ _ _ x s3
  have hl:=look_ob s4 0 rfl
  refine ⟨none,w2.putObj (w.heap.size+1) (.loop {rc with state:=.exhausted}),?_,?_⟩
  ·have:=run_endLoop (P:=P) hl (by rw [hrec.st]; simp)
   exact this.trans (by rw [hrec.pe])
  ·have s5:=(s4.putObj (o':=.loop {rc with state:=.exhausted})).rm 0
   refine wp_mono (hk y w.heap.size _ _ s5 _ h1 (by rw [h2]; rfl) h3) ?_
   rintro e a5 w5 q
   rcases q with ⟨q1,q2,q3⟩|⟨_,q⟩
   ·cases e with
    | ret =>
     obtain ⟨v,hr,x,rfl,s6⟩:=q3
     refine .inr ⟨rfl,?_⟩
     have s6:=St.up s6
     show LeavesInM Fence.wide 0 P fn a5.tmps _ a5.defers .returning w5
     rw [q2]
     exact ⟨by simp,.inl ⟨_,_,rfl,run_takeDeferred (look_ob s6 0 rfl),_,results_still ht hr,x,rfl,(s6.putObj (o':=.deferred none)).rm 0⟩⟩
    | _=>exact q3.elim
   ·exact q.elim
end Go.Pg
