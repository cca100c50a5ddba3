import Derived.Test.YtmpnollfdpdipaaGreatDoorPg37
set_option linter.unusedVariables false
set_option linter.unusedSimpArgs false
namespace Go.Pg
def pG {A:Type}(X:Cx)(fn:Func)(V0:List HP)(a:A→Value×List HP):Exit→bL→World→Prop
  | .ret,σ,w=>∃ E,St X.C w (E++V0)∧∀ V w,St X.C w (E++V)→∃ v,(g0 fn σ).run X.P w=.ok v w∧mx X V a v w
  | _,_,_=>False
theorem qD {A:Type}{X:Cx}{V V0:List HP}{σ:bL}{a:A→Value×List HP}{fn:Func}(n:Nat)(h:∀ V0,TQ X (tk n V++V0) σ .ret (ie X.P fn (mx X V0 a)))(e:tk n V++V0=V:=by exact rfl):TQ X V σ .ret (pG X fn V0 a):=by
  intro w s
  rw [← e] at s
  exact ⟨_,s,fun V' g s'=>h V' g s'⟩
theorem n7 {A B H:Type}{P:Program}{n:Nat}{fn:Func}{C:World}{V:List HP}{j:A→Value×List HP}{Vc:List HP}{σ:bL}{Q:Exit→bL→World→Prop}{id:Nat}{g:Operand}{ps:Array Tmp}{r body rest:Code}{I:Nat}{F:List Value}
    (Wc:List HP) (E E':Nat→Loop→HP) (Pre' W3:List HP) (cp:B→List HP) (Wd:H→List HP)
    (hV:Vc=Wc++V) (hg:ev σ g=.func (.func I) #[] F.toArray) (Z:aO P I=true)
    (a0:∀ V w l i,St C w (nZ l i::(Wc++V))→St C w (E l i::(Pre'++(W3++V))))
    (u:∀ l i,Rec i ps r body n σ→FnOk P I (.func (.yield l) #[] #[]::F) (E l i::Pre') (fun x:B=>(.tuple [].toArray,E' l i::cp x)))
    (O:∀ V w l i x,St C w (E' l i::(cp x++(W3++V)))→∃ y,St C w (nZ l i::(Wd y++V)))
    (hk:∀ y D V,TC ⟨P,⟨n,[kP D],fun _ _=>False⟩,C⟩ (Wd y++V) σ rest (pG ⟨P,⟨n,[kP D],fun _ _=>False⟩,C⟩ fn V j)) :
    TQ ⟨P,⟨n,[],rV P fn C V j⟩,C⟩ Vc σ .normal (eP (Rg ⟨P,⟨n,[],rV P fn C V j⟩,C⟩ (.block id (.rangeFunc g ps r body)) rest (ie P fn (mx ⟨P,⟨n,[],rV P fn C V j⟩,C⟩ V j))) Q):=by
  intro w s a h1 h2 Y
  subst hV
  refine wp_block ((wpIn_wide (n:=0)).1 (wpIn_rangeFunc ?_))
  intro J _
  obtain ⟨i,T⟩:∃ i:Loop,i={state:=.ready,pending:=none,fn:=J,tmps:=a.tmps,params:=ps,assign:=r,body:=body,defers:=w.heap.size}:=⟨_,rfl⟩
  have m:Rec i ps r body n σ:=by
    subst T
    exact ⟨rfl,rfl,rfl,rfl,rfl,h1,Y⟩
  have s1:=St.dn (St.newOb s (.deferred (some [])))
  have s2:=St.newOb s1 (.loop i)
  rw [World.size_alloc] at s2
  obtain ⟨G,M⟩:∃ G,(w.alloc (.deferred (some []))).alloc (.loop i)=G:=⟨_,rfl⟩
  rw [M] at s2
  refine ⟨w.heap.size+1,[kP w.heap.size],G,{target:=.fn (.func I) F.toArray,args:=#[.func (.yield (w.heap.size+1)) #[] #[]]},G,I,
    #[.func (.yield (w.heap.size+1)) #[] #[]]++F.toArray,G,?_,?_,fun _ _=>trivial,?_,fun h=>(by cases h),?_⟩
  · rw [← M,T]; exact run_enterLoop_outer _ _ _ _ _
  · have:a.eval g=.func (.func I) #[] F.toArray:=by rw [f',Y]; exact hg
    simp only [resolve,this]
    simp [go_sem]
  · simp [invoke,go_sem,fR Z]
  · refine callsIn_wide.2 ?_
    have hc:=u (w.heap.size+1) i m C G _ (a0 _ _ _ _ s2)
    have e:(Value.func (.yield (w.heap.size+1)) #[] #[]::F).toArray=#[Value.func (.yield (w.heap.size+1)) #[] #[]]++F.toArray:=by
      apply Array.ext'; simp
    rw [e] at hc
    refine Calls.mono' hc ?_
    rintro e w2 ⟨x,rfl,s3⟩
    obtain ⟨y,s4⟩:=O _ _ _ _ x s3
    have hl:=gj s4 0 rfl
    refine ⟨none,w2.putObj (w.heap.size+1) (.loop {i with state:=.exhausted}),?_,?_⟩
    · have:=run_endLoop (P:=P) hl (by rw [m.st]; simp)
      exact this.trans (by rw [m.pe])
    · have s5:=(s4.putObj (o':=.loop {i with state:=.exhausted})).rm 0
      refine wp_mono (hk y w.heap.size _ _ s5 _ h1 (by rw [h2]; rfl) Y) ?_
      rintro e a5 w5 q
      rcases q with ⟨q1,q2,q3⟩|⟨_,q⟩
      · cases e with
        | ret =>
          obtain ⟨E0,U,hE⟩:=q3
          refine .inr ⟨rfl,?_⟩
          have U:=St.up U
          show LeavesInM Fence.wide 0 P fn a5.tmps _ a5.defers .returning w5
          rw [q2]
          obtain ⟨v,hr,x,rfl,s7⟩:=hE _ _ (St.dn (U.putObj (o':=.deferred none)))
          exact ⟨by simp,.inl ⟨_,_,rfl,run_takeDeferred (gj U 0 rfl),_,hr,x,rfl,(St.up s7).rm 0⟩⟩
        | _=>exact q3.elim
      · exact q.elim
end Go.Pg
