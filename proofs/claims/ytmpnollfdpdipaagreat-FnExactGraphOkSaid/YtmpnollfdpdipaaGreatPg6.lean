import Derived.Test.YtmpnollfdpdipaaGreatPg5
set_option linter.unusedVariables false
set_option linter.unusedSimpArgs false
namespace Go.Pg
theorem St.act {β:Type}{C w:World}{V:List HP}(s:St C w V)(i:Nat){q:β→HP}{Ψ:β→World→Prop}
  (f:∀ I h,(lk V i).p I h→Le I w→Le h w→(∀ k,I k=Option.none∨h k=Option.none)→∃ b w' h',Ψ b w'∧(Same C w→Same C w')∧(q b).p I h'∧Le h' w'∧(∀ k,h' k≠Option.none→h k≠Option.none∨w.heap.size≤k)∧∀ (k:Nat) (o:Obj),h k=Option.none→w.heap[k]?=some o→w'.heap[k]?=some o) :
  ∃ b w',Ψ b w'∧St C w' (stt V i (q b)):=by
 obtain ⟨a,I,h,g,j,l,s⟩:=s
 obtain ⟨h1,h2,j',c,s'⟩:=star_take i s
 obtain ⟨b,w',h',hΨ,hs,hq,hl,hn,hk⟩:=f I h1 c (l.mono j.left) (l.mono (Hp.le_trans j'.left j.right)) (fun k=>by
  rcases j.disj k with e | e
  ·exact .inl e
  ·exact .inr ((j'.is_none k).1 e).1)
 refine ⟨b,w',hΨ,?_⟩
 have old:∀ b,h' b≠Option.none→I b=Option.none∧h2 b=Option.none:=by
  intro b hb
  rcases hn b hb with e | e
  ·refine ⟨?_,?_⟩
   ·rcases j.disj b with f | f
    ·exact f
    ·exact absurd ((j'.is_none b).1 f).1 e
   ·rcases j'.disj b with f | f
    ·exact absurd f e
    ·exact f
  ·have:g b=Option.none:=by
    cases hg:g b with
    | none=>rfl
    | some o =>
     have:=(l.lt (b:=b) (by rw [hg]; exact fun h=>by cases h))
     omega
   have:=(j.is_none b).1 this
   exact ⟨this.1,((j'.is_none b).1 this.2).2⟩
 obtain ⟨m,hm⟩:=Join.of_disj (h1:=h') (h2:=h2) (fun b=>by
  by_cases e:h' b=Option.none
  ·exact .inl e
  ·exact .inr (old b e).2)
 obtain ⟨g',hg'⟩:=Join.of_disj (h1:=I) (h2:=m) (fun b=>by
  by_cases e:h' b=Option.none
  ·rcases j.disj b with f | f
   ·exact .inl f
   ·exact .inr ((hm.is_none b).2 ⟨e,((j'.is_none b).1 f).2⟩)
  ·exact .inl (old b e).1)
 refine ⟨hs a,I,m,g',hg',?_,star_put i hm hq s'⟩
 intro b o e
 rcases hg'.cases e with ⟨e1,e2⟩|⟨e1,e2⟩
 ·refine hk b o ?_ (l b o (j.left b o e1))
  rcases j.disj b with f | f
  ·rw [f] at e1; cases e1
  ·exact ((j'.is_none b).1 f).1
 ·rcases hm.cases e1 with ⟨e3,e4⟩|⟨e3,e4⟩
  ·exact hl b o e3
  ·refine hk b o ?_ (l b o (j.right b o (j'.right b o e3)))
   rcases j'.disj b with f | f
   ·exact f
   ·rw [f] at e3; cases e3
theorem St.see {C w:World}{V:List HP}(s:St C w V)(i:Nat):∃ I h J,(lk V i).p I h∧Hp.le I J∧Hp.le h J∧Le J w:=by
 obtain ⟨I,h,p,l1,l2,dj⟩:=s.look i
 obtain ⟨J,j⟩:=Join.of_disj dj
 refine ⟨I,h,J,p,j.left,j.right,fun b o e=>?_⟩
 rcases j.cases e with ⟨e,_⟩|⟨e,_⟩
 ·exact l1 b o e
 ·exact l2 b o e
def Sees {α:Type}(q:HP)(K:Kind α)(v:Value)(xs:List α):Prop:=∀ I h J,Hp.le I J→Hp.le h J→q.p I h→rdS K J v xs
section
variable {α:Type}{K:Kind α}
theorem sees_rd {v:Value}{xs:List α}:Sees (rds K v xs) K v xs:=fun I h J l _ p=>rdS_mono l p.2
theorem sees_ow {e:Nat}{v:Value}{xs:List α}:Sees (ow K e v xs) K v xs:=fun I h J l m p=>owS_rdS l m p
theorem St.reads {C w:World}{V:List HP}(s:St C w V){i:Nat}{v:Value}{xs:List α}(h:Sees (lk V i) K v xs):∃ J,Le J w∧rdS K J v xs:=by
 obtain ⟨I,g,J,p,l1,l2,lw⟩:=s.see i
 exact ⟨J,lw,h I g J l1 l2 p⟩
end
def sep (p q:HP):HP:=⟨fun I h=>∃ h1 h2,Join h1 h2 h∧p.p I h1∧q.p I h2,fun l ⟨h1,h2,j,a,b⟩=>⟨h1,h2,j,p.mono l a,q.mono l b⟩⟩
theorem St.sep {C w:World}{p q:HP}{V:List HP}(s:St C w (p::q::V)):St C w (Pg.sep p q::V):=by
 obtain ⟨a,I,h,g,j,l,h1,h2,j1,c,h3,h4,j2,d,e⟩:=s
 obtain ⟨k,k1,k2⟩:=Join.assoc' j2 j1
 exact ⟨a,I,h,g,j,l,k,h4,k2,⟨h1,h3,k1,c,d⟩,e⟩
section
variable {X:Cx}{V:List HP}{σ:Env}{Q:Exit→Env→World→Prop}{ops:Array Oper}{rest:List Oper}
variable {d:Option Nat}{ty:TypeId}{pos:String}{af:Array Edge}{gd:Option (Nat×Bool)}
variable {α β:Type}
theorem v_len {t:TypeId}{x:Operand}{a:Option Addr}{n c:Nat}{e:TypeId}(ht:slB X.P t=some e)(hx:ev σ x=.slice a n c):VO X V σ ⟨d,.call ⟨.builtin .len,#[x],#[t]⟩,ty,pos,af,gd⟩ (.int .i64 n):=by
 intro w _
 have hu:=slB_eq ht
 simp [execOp,resolve,invoke,builtin,hx,Builtin.len_,run_underlying hu,goInt]
theorem t_some {K:Kind α}{a:Option Addr}{n c:Nat}{xs:List α}(i:Nat)(hV:Sees (lk V i) K (.slice a n c) xs)(h1:0<n)(h:∀ g o,a=some ⟨g,o,none⟩→TL X ops V σ rest Q):TL X ops V σ rest Q:=by
 intro w s
 obtain ⟨J,lw,A,c',hv,h2,h3,h4⟩:=s.reads hV
 have hn:n=xs.length:=by injection hv
 have ha:a=A:=by injection hv
 obtain ⟨g,o,hA,_⟩:=h4 (by omega)
 exact h g o (by rw [ha,hA]) w s
theorem c_some {K:Kind α}{a:Option Addr}{n c:Nat}{xs:List α}{cd:Code}(i:Nat)(hV:Sees (lk V i) K (.slice a n c) xs)(h1:0<n)(h:∀ g o,a=some ⟨g,o,none⟩→TC X V σ cd Q):TC X V σ cd Q:=by
 intro w s
 obtain ⟨J,lw,A,c',hv,h2,h3,h4⟩:=s.reads hV
 have hn:n=xs.length:=by injection hv
 have ha:a=A:=by injection hv
 obtain ⟨g,o,hA,_⟩:=h4 (by omega)
 exact h g o (by rw [ha,hA]) w s
theorem v_iaddr {t e:TypeId}{x y:Operand}{g o n c sz:Nat}{k:IntKind}{j:Int}(ht:slB X.P t=some e)(hs:szB X.P e=some sz)(hx:ev σ x=.slice (some ⟨g,o,none⟩) n c)(hy:ev σ y=.int k j)(h0:0≤j)(h1:j<n) :
  VO X V σ ⟨d,.indexAddr t x y,ty,pos,af,gd⟩ (.pointer (some ⟨g,o+j.toNat*sz,none⟩)):=by
 intro w _
 have hu:=slB_eq ht
 simp [execOp,hx,hy,Instr.indexAt,asIntOf,run_underlying hu,h0,h1,run_sizeOf hs,add_eq]
def Leaf (K:Kind α)(fo:Nat)(pr:α→Value):Prop:=∀ I x cs,K.rd I x cs→nth cs fo=some (pr x)
def LeafS (K:Kind α)(fo:Nat)(L:Kind β)(pr:α→List β):Prop:=∀ I x cs,K.rd I x cs→∃ v,nth cs fo=some v∧rdS L I v (pr x)
theorem read_cell {K:Kind α}{J:Hp}{g o n c:Nat}{xs:List α}(r:rdS K J (.slice (some ⟨g,o,none⟩) n c) xs){j:Nat}{x:α}(hx:xs[j]?=some x) :
  ∃ cs,K.rd J x cs∧∀ k u,cs[k]?=some u→cellH J g (o+j*K.sz+k)=some u:=by
 obtain ⟨A,c',hv,h2,h3,h4⟩:=r
 have hlt:=(List.getElem?_eq_some_iff.1 hx).1
 obtain ⟨g',o',hA,hc⟩:=h4 (by omega)
 injection hv with e1 e2 e3
 rw [hA] at e1
 injection e1 with e1
 injection e1 with e1 e4
 subst e1; subst e4
 obtain ⟨cs,p,q⟩:=hc j x hx
 exact ⟨cs,p,fun k u hu=>q k u hu⟩
theorem v_lde [Inhabited α]{K:Kind α}{T:TypeId}{x:Operand}{g o n c fo:Nat}{xs:List α}{pr:α→Value}(i:Nat)(j:Int)(ha:aggB X.P T=some false)
  (hl:Leaf K fo pr) (hV:Sees (lk V i) K (.slice (some ⟨g,o,none⟩) n c) xs) (hx:ev σ x=.pointer (some ⟨g,o+j.toNat*K.sz+fo,none⟩)) (h0:0≤j) (h1:j<n) :
  VO X V σ ⟨d,.load T x,ty,pos,af,gd⟩ (pr (ix xs j)):=by
 intro w s
 obtain ⟨J,lw,r⟩:=s.reads hV
 have hn:n=xs.length:=by obtain ⟨A,c',hv,_⟩:=r; injection hv
 obtain ⟨cs,p,q⟩:=read_cell r (ix_get h0 (by omega))
 have hcell:=cell_of_H lw (q fo _ (by rw [← nth_eq]; exact hl J _ cs p))
 simp only [execOp,Instr.loadAt,hx,Instr.sureAddr,Sem.run_bind,Sem.run_pure,Result.andThen_ok,run_loadVar_one ha hcell]
theorem v_ldef [Inhabited α]{K:Kind α}{cells:α→List Value}{T:TypeId}{x:Operand}{g o n c:Nat}{xs:List α}(i:Nat)(j:Int)(ha:aggB X.P T=some true)(hs:szB X.P T=some K.sz)
  (hl:∀ I x cs,K.rd I x cs→cs=cells x) (hV:Sees (lk V i) K (.slice (some ⟨g,o,none⟩) n c) xs) (hx:ev σ x=.pointer (some ⟨g,o+j.toNat*K.sz,none⟩)) (h0:0≤j) (h1:j<n) :
  VO X V σ ⟨d,.load T x,ty,pos,af,gd⟩ (.agg (cells (ix xs j)).toArray):=by
 intro w s
 obtain ⟨J,lw,r⟩:=s.reads hV
 have hn:n=xs.length:=by obtain ⟨A,c',hv,_⟩:=r; injection hv
 obtain ⟨cs,p,q⟩:=read_cell r (ix_get h0 (by omega))
 have hlen:=K.rd_len p
 obtain rfl:=hl _ _ _ p
 have hcell:=run_loadVar_agg (P:=X.P) (w:=w) (a:=⟨g,o+j.toNat*K.sz,none⟩) ha (by rw [hlen]; exact hs) (fun k u hu=>by rw [add_eq]; exact cell_of_H lw (q k u hu))
 simp only [execOp,Instr.loadAt,hx,Instr.sureAddr,Sem.run_bind,Sem.run_pure,Result.andThen_ok,hcell]
def cl (g k:Nat)(cs:List Value):HP:=⟨fun I h=>h=Hp.none∧∀ i u,cs[i]?=some u→cellH I g (k+i)=some u,fun l p=>⟨p.1,fun i u hu=>cellH_mono l (p.2 i u hu)⟩⟩
theorem look_cl {C w:World}{V:List HP}(s:St C w V)(i:Nat){g k:Nat}{cs:List Value}(hV:lk V i=cl g k cs):∀ (j:Nat) (u:Value),cs[j]?=some u→w.cell? ⟨g,k+j,none⟩=some u:=by
 obtain ⟨I,h,p,lI,_,_⟩:=s.look i
 rw [hV] at p
 exact fun j u hu=>cell_of_H lI (p.2 j u hu)
theorem rdS_form {L:Kind β}{I:Hp}{v:Value}{ys:List β}(r:rdS L I v ys):∃ a c,v=.slice a ys.length c:=by
 obtain ⟨A,c,e,_⟩:=r
 exact ⟨A,c,e⟩
theorem St.more {C w:World}{V:List HP}(s:St C w V)(i:Nat){A:Type}{E:A→List HP}(f:∀ I h,(lk V i).p I h→Le I w→Le h w→∃ a,star (E a) I Hp.none):∃ a,St C w (E a++V):=by
 obtain ⟨sm,I,hh,gg,jj,lw,st⟩:=s
 obtain ⟨h1,h2,j',p,st'⟩:=star_take i st
 obtain ⟨a,e⟩:=f I h1 p (lw.mono jj.left) (lw.mono (Hp.le_trans j'.left jj.right))
 exact ⟨a,sm,I,hh,gg,jj,lw,star_app.2 ⟨Hp.none,hh,Join.none hh,e,st⟩⟩
theorem star_two {p q:HP}{I:Hp}(a:p.p I Hp.none)(b:q.p I Hp.none):star [p,q] I Hp.none:=⟨_,_,Join.none _,a,_,_,Join.none _,b,rfl⟩
theorem St.leaf [Inhabited α]{C w:World}{V:List HP}{K:Kind α}{L:Kind β}{g o n c fo:Nat}{xs:List α}{pr:α→List β}(s:St C w V)(i:Nat)(j:Int)
  (hl:LeafS K fo L pr) (hV:lk V i=rds K (.slice (some ⟨g,o,none⟩) n c) xs) (h0:0≤j) (h1:j<n) :
  ∃ p:Option Addr×Nat,St C w ([cl g (o+j.toNat*K.sz+fo) [.slice p.1 (pr (ix xs j)).length p.2],rds L (.slice p.1 (pr (ix xs j)).length p.2) (pr (ix xs j))]++V):=by
 refine St.more (E:=fun p:Option Addr×Nat=>[cl g (o+j.toNat*K.sz+fo) [.slice p.1 (pr (ix xs j)).length p.2],rds L (.slice p.1 (pr (ix xs j)).length p.2) (pr (ix xs j))]) s i ?_
 intro I h p _ _
 rw [hV] at p
 obtain ⟨_,r⟩:=p
 have hn:n=xs.length:=by obtain ⟨A,c',hv,_⟩:=r; injection hv
 obtain ⟨cs,p,q⟩:=read_cell r (ix_get h0 (by omega))
 obtain ⟨v,hv,hr⟩:=hl I _ cs p
 obtain ⟨a,c',rfl⟩:=rdS_form hr
 exact ⟨⟨a,c'⟩,star_two ⟨rfl,fun k u hu=>by
  cases k with
  | zero =>
   simp only [List.getElem?_cons_zero,Option.some.injEq] at hu
   subst hu
   exact q fo _ (by rw [← nth_eq]; exact hv)
  | succ k=>simp at hu⟩ ⟨rfl,hr⟩⟩
def Dec (K:Kind α){A:Type}(cells:A→α→List Value)(ents:A→α→List HP):Prop:=∀ I x cs,K.rd I x cs→∃ a,cs=cells a x∧star (ents a x) I Hp.none
theorem St.elem [Inhabited α]{C w:World}{V:List HP}{K:Kind α}{A:Type}{cells:A→α→List Value}{ents:A→α→List HP}{g o n c:Nat}{xs:List α}(s:St C w V)(i:Nat)(j:Int)
  (hl:Dec K cells ents) (hV:lk V i=rds K (.slice (some ⟨g,o,none⟩) n c) xs) (h0:0≤j) (h1:j<n) :
  ∃ a,St C w ((cl g (o+j.toNat*K.sz) (cells a (ix xs j))::ents a (ix xs j))++V):=by
 refine St.more (E:=fun a=>cl g (o+j.toNat*K.sz) (cells a (ix xs j))::ents a (ix xs j)) s i ?_
 intro I h p _ _
 rw [hV] at p
 obtain ⟨_,r⟩:=p
 have hn:n=xs.length:=by obtain ⟨A,c',hv,_⟩:=r; injection hv
 obtain ⟨cs,p,q⟩:=read_cell r (ix_get h0 (by omega))
 obtain ⟨a,rfl,hst⟩:=hl I _ cs p
 exact ⟨a,_,_,Join.none _,⟨rfl,q⟩,hst⟩
theorem t_elem [Inhabited α]{K:Kind α}{A:Type}{cells:A→α→List Value}{ents:A→α→List HP}{g o n c:Nat}{xs:List α}(i:Nat)(j:Int)
  (hl:Dec K cells ents) (hV:lk V i=rds K (.slice (some ⟨g,o,none⟩) n c) xs) (h0:0≤j) (h1:j<n)
  (h:∀ a,TL X ops (cl g (o+j.toNat*K.sz) (cells a (ix xs j))::(ents a (ix xs j)++V)) σ rest Q):TL X ops V σ rest Q:=by
 intro w s
 obtain ⟨a,s'⟩:=s.elem i j hl hV h0 h1
 exact h a w s'
theorem c_elem [Inhabited α]{K:Kind α}{A:Type}{cells:A→α→List Value}{ents:A→α→List HP}{g o n c:Nat}{xs:List α}{cd:Code}(i:Nat)(j:Int)
  (hl:Dec K cells ents) (hV:lk V i=rds K (.slice (some ⟨g,o,none⟩) n c) xs) (h0:0≤j) (h1:j<n)
  (h:∀ a,TC X (cl g (o+j.toNat*K.sz) (cells a (ix xs j))::(ents a (ix xs j)++V)) σ cd Q):TC X V σ cd Q:=by
 intro w s
 obtain ⟨a,s'⟩:=s.elem i j hl hV h0 h1
 exact h a w s'
end
end Go.Pg
