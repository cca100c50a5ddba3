import Derived.Test.YtmpnollfdpdipaaGreatPg13
set_option linter.unusedVariables false
set_option linter.unusedSimpArgs false
namespace Go.Pg
def placesB (P:Program)(T:TypeId):Option (List (Nat×Nat)):=match P.underlying T with
 | some (.struct fs)=>fs.toList.mapM fun f=>(P.info? f.type).map fun i=>(f.offset,i.size)
 | _=>none
def fillB (ps:List (Nat×Nat)):List Value→List (Nat×Value)→Option (List Value)
 | z,[]=>some z
 | z,(i,v)::rest=>match nth ps i with
  | some (off,sz)=>cond (Nat.beq v.cells.toList.length sz&&Nat.ble (off+sz) z.length) (fillB ps (z.take off++v.cells.toList++z.drop (off+sz)) rest) none
  | none=>none
theorem fold_put:∀ (l:List Value) (off j:Nat) (cs:Array Value),off+j+l.length≤cs.size →
  ((l.zipIdx j).foldl (fun cs (c,j)=>cs.setIfInBounds (off+j) c) cs).toList=cs.toList.take (off+j)++l++cs.toList.drop (off+j+l.length):=by
 intro l
 induction l with
 | nil=>intro off j cs _; simp
 | cons u l ihl =>
  intro off j cs hcs
  simp only [List.zipIdx_cons,List.foldl_cons]
  rw [ihl off (j+1) _ (by simp at *; omega)]
  simp only [List.length_cons] at hcs
  rw [Array.toList_setIfInBounds,show off+(j+1)=(off+j)+1 by omega,List.take_succ_eq_append_getElem (by simp; omega),List.take_set_of_le (Nat.le_refl _),List.drop_set_of_lt (by omega)]
  simp [Nat.add_assoc,Nat.add_comm,Nat.add_left_comm]
theorem fill_B {ps:List (Nat×Nat)}:∀ (parts:List (Nat×Value)) (z:Array Value) (cs:List Value),fillB ps z.toList parts=some cs→∃ r,Instr.fill (ps.toArray[·]?) z parts=some r∧r.toList=cs:=by
 intro parts
 induction parts with
 | nil=>intro z cs h; exact ⟨z,rfl,Option.some.inj h⟩
 | cons p parts ih =>
  intro z cs h
  obtain ⟨i,v⟩:=p
  unfold fillB at h
  rw [nth_eq] at h
  unfold Instr.fill
  have he:ps.toArray[i]?=ps[i]?:=by simp
  simp only [he]
  cases hp:ps[i]? with
  | none=>rw [hp] at h; cases h
  | some q =>
   obtain ⟨off,sz⟩:=q
   rw [hp] at h
   simp only at h ⊢
   cases hb:(Nat.beq v.cells.toList.length sz&&Nat.ble (off+sz) z.toList.length) with
   | false=>rw [hb] at h; cases h
   | true =>
    rw [hb] at h
    simp only [cond_true,Bool.and_eq_true] at h hb
    have h1:v.cells.size=sz:=by simpa using Nat.eq_of_beq_eq_true hb.1
    have h2:off+sz≤z.size:=by simpa using Nat.le_of_ble_eq_true hb.2
    have hc:¬ (v.cells.size≠sz∨off+v.cells.size>z.size):=by rw [h1]; omega
    rw [if_neg (by simpa using hc)]
    have hz:v.cells.zipIdx.foldl (fun cs (c,j)=>cs.setIfInBounds (off+j) c) z=(v.cells.toList.zipIdx 0).foldl (fun cs (c,j)=>cs.setIfInBounds (off+j) c) z:=by
     rw [← Array.foldl_toList]
     congr 1
     simp
    rw [hz]
    refine ih _ cs ?_
    rw [fold_put _ _ _ _ (by simp [h1]; omega)]
    simpa [h1] using h
section
variable {X:Cx}{V:List HP}{σ:Env}{Q:Exit→Env→World→Prop}{ops:Array Oper}{rest:List Oper}{o:Oper}
variable {d:Option Nat}{ty:TypeId}{pos:String}{af:Array Edge}{gd:Option (Nat×Bool)}
variable {α β:Type}
theorem mapM_places {P:Program}{w:World}:∀ (fs:List Field) (ps:List (Nat×Nat)),fs.mapM (fun f=>(P.info? f.type).map fun i=>(f.offset,i.size))=some ps →
  (fs.mapM (fun f=>(do pure (f.offset,← sizeOf f.type):Sem (Nat×Nat)))).run P w=.ok ps w:=by
 intro fs
 induction fs with
 | nil=>intro ps h; simp at h; subst h; rfl
 | cons f fs ih =>
  intro ps h
  rw [List.mapM_cons] at h ⊢
  cases hi:P.info? f.type with
  | none=>rw [hi] at h; cases h
  | some i =>
   rw [hi] at h
   cases hm:fs.mapM (fun f=>(P.info? f.type).map fun i=>(f.offset,i.size)) with
   | none=>rw [hm] at h; cases h
   | some qs =>
    rw [hm] at h
    obtain rfl:=Option.some.inj h
    have h1:=ih qs hm
    simp only [Sem.run_bind,Sem.run_pure,Result.andThen_ok,run_sizeOf (show szB P f.type=some i.size by simp [szB,hi]),h1]
theorem v_build {T:TypeId}{parts:Array (Nat×Operand)}{cs z:List Value}{ps:List (Nat×Nat)}{l:List (Nat×Value)}(hp:placesB X.P T=some ps)(hz:zcB X.P T=some z)(hl:parts.toList.map (fun p=>(p.1,ev σ p.2))=l)(hr:fillB ps z l=some cs) :
  VO X V σ ⟨d,.build T parts,ty,pos,af,gd⟩ (.agg cs.toArray):=by
 intro w _
 unfold placesB at hp
 split at hp
 ·rename_i fs hu
  obtain ⟨zv,hz1,hz2⟩:=run_zero (P:=X.P) (w:=w) hz
  have hm:=mapM_places (P:=X.P) (w:=w) _ _ hp
  obtain ⟨r,hr1,hr2⟩:=fill_B (ps:=ps) l z.toArray cs (by simpa using hr)
  have hpp:(parts.map fun (i,x)=>(i,ev σ x)).toList=l:=by
   rw [← hl]; simp
  have hm':(fs.mapM (fun f=>(do pure (f.offset,← sizeOf f.type):Sem (Nat×Nat)))).run X.P w=.ok ps.toArray w:=by
   rw [show fs=fs.toList.toArray by simp,List.mapM_toArray,Sem.run_map]
   exact congrArg (fun r=>Result.andThen r _) hm
  have hrc:r=cs.toArray:=by apply Array.ext'; simpa using hr2
  simp only [execOp,Instr.build,Sem.run_bind,hz1,Result.andThen_ok,run_underlying hu,hm',hpp,hz2,hr1,hrc,Sem.run_pure]
 ·cases hp
def OwnDec (K:Kind α){A:Type}(cells:A→α→List Value)(ents:A→α→List HP):Prop:=∀ I h x cs,K.own I h x cs→∃ a,cs=cells a x∧star (ents a x) I Hp.none
theorem own_more {A:Type}{cells:A→α→List Value}{ents:A→α→List HP}{K:Kind α}{C w:World}{e g o n c:Nat}{xs:List α}(s:St C w V)(i:Nat)(hl:OwnDec K cells ents)(hV:lk V i=ow K e (.slice (some ⟨g,o,none⟩) n c) xs){j:Nat}{x:α}(hx:xs[j]?=some x) :
  ∃ a,(∀ k u,(cells a x)[k]?=some u→w.cell? ⟨g,o+j*K.sz+k,none⟩=some u)∧(cells a x).length=K.sz∧St C w (ents a x++V):=by
 obtain ⟨sm,I,h,g0,jg,l,st⟩:=s
 obtain ⟨h1,h2,j',p,s'⟩:=star_take i st
 rw [hV] at p
 have p:owS K e I h1 (.slice (some ⟨g,o,none⟩) n c) xs:=p
 rcases p with ⟨A,hv,rfl,_⟩|⟨g',c',pre,used,spare,fr,hb,hv,q2,q3,q4,q5,jo,ol⟩
 ·simp at hx
 injection hv with e1 e2 e3
 injection e1 with e1
 injection e1 with e1 e4
 subst e1; subst e4
 obtain ⟨a1,c1,b1,g1,g2,hc,hlen,jn,ox,hput⟩:=ownL_at ol hx
 obtain ⟨a,rfl,hst⟩:=hl _ _ _ _ ox
 have hblk:w.heap[g]?=some (.cells (pre++used++spare).toArray e fr):=l g _ (jg.right g _ (j'.left g _ (jo.left g _ (by simp [Hp.one]))))
 refine ⟨a,fun k u hu=>?_,K.own_len ox,sm,I,h,g0,jg,l,star_app.2 ⟨Hp.none,h,Join.none h,hst,st⟩⟩
 have hk:=(List.getElem?_eq_some_iff.1 hu).1
 have:w.cell? ⟨g,pre.length+j*K.sz+k,none⟩=(pre++used++spare)[pre.length+j*K.sz+k]?:=by simp [World.cell?,hblk]
 rw [this,List.append_assoc,List.getElem?_append_right (by omega),hc,show pre.length+j*K.sz+k - pre.length=j*K.sz+k by omega,List.append_assoc,List.append_assoc,List.getElem?_append_right (by omega),show j*K.sz+k - a1.length=k by omega,List.getElem?_append_left hk]
 exact hu
theorem l_ldo [Inhabited α]{A:Type}{cells:A→α→List Value}{ents:A→α→List HP}{K:Kind α}{T:TypeId}{x:Operand}{e g o n c:Nat}{xs:List α}(i:Nat)(j:Int)(hd:dok X.n d=true)(hw:want ops σ ⟨d,.load T x,ty,pos,af,gd⟩=true)(ha:aggB X.P T=some true)(hs:szB X.P T=some K.sz)
  (hl:OwnDec K cells ents) (hV:lk V i=ow K e (.slice (some ⟨g,o,none⟩) n c) xs) (hx:ev σ x=.pointer (some ⟨g,o+j.toNat*K.sz,none⟩)) (h0:0≤j) (h1:j<n)
  (h:∀ a,TL X ops (ents a (ix xs j)++V) (updo σ d (.agg (cells a (ix xs j)).toArray)) rest Q):TL X ops V σ (⟨d,.load T x,ty,pos,af,gd⟩::rest) Q:=by
 intro w s
 have hn:n=xs.length:=s.len i (by rw [hV]; exact sees_ow)
 obtain ⟨a,hc,hlen,s'⟩:=own_more s i hl hV (ix_get h0 (by omega))
 refine WL_step hd hw ?_
 have:=run_loadVar_agg (P:=X.P) (w:=w) (a:=⟨g,o+j.toNat*K.sz,none⟩) (cs:=cells a (ix xs j)) ha (by rw [hlen]; exact hs) (fun k u hu=>by rw [add_eq]; exact hc k u hu)
 have hr:(execOp (ev σ) ⟨d,.load T x,ty,pos,af,gd⟩).run X.P w=.ok (.value (.agg (cells a (ix xs j)).toArray)) w:=by
  simp only [execOp,Instr.loadAt,hx,Instr.sureAddr,Sem.run_bind,Sem.run_pure,Result.andThen_ok,this]
 rw [hr]
 exact h a w s'
theorem l_ldof [Inhabited α]{A:Type}{cells:A→α→List Value}{ents:A→α→List HP}{K:Kind α}{T:TypeId}{x:Operand}{e g o n c fo:Nat}{xs:List α}{pr:A→α→Value}(i:Nat)(j:Int)(hd:dok X.n d=true)(hw:want ops σ ⟨d,.load T x,ty,pos,af,gd⟩=true)(ha:aggB X.P T=some false)
  (hl:OwnDec K cells ents) (hp:∀ a x,nth (cells a x) fo=some (pr a x)) (hV:lk V i=ow K e (.slice (some ⟨g,o,none⟩) n c) xs) (hx:ev σ x=.pointer (some ⟨g,o+j.toNat*K.sz+fo,none⟩)) (h0:0≤j) (h1:j<n)
  (h:∀ a,TL X ops (ents a (ix xs j)++V) (updo σ d (pr a (ix xs j))) rest Q):TL X ops V σ (⟨d,.load T x,ty,pos,af,gd⟩::rest) Q:=by
 intro w s
 have hn:n=xs.length:=s.len i (by rw [hV]; exact sees_ow)
 obtain ⟨a,hc,hlen,s'⟩:=own_more s i hl hV (ix_get h0 (by omega))
 refine WL_step hd hw ?_
 have:=run_loadVar_one (P:=X.P) (w:=w) (a:=⟨g,o+j.toNat*K.sz+fo,none⟩) ha (hc fo _ (by rw [← nth_eq]; exact hp a _))
 have hr:(execOp (ev σ) ⟨d,.load T x,ty,pos,af,gd⟩).run X.P w=.ok (.value (pr a (ix xs j))) w:=by
  simp only [execOp,Instr.loadAt,hx,Instr.sureAddr,Sem.run_bind,Sem.run_pure,Result.andThen_ok,this]
 rw [hr]
 exact h a w s'
theorem St.seps {C w:World}{p:HP}{A V:List HP}(s:St C w (p::(A++V))):St C w (⟨fun I h=>∃ h1 h2,Join h1 h2 h∧p.p I h1∧star A I h2,fun l ⟨h1,h2,j,a,b⟩=>⟨h1,h2,j,p.mono l a,star_mono l b⟩⟩::V):=by
 obtain ⟨a,I,h,g,j,l,h1,h2,j1,c,s⟩:=s
 obtain ⟨h3,h4,j2,d,e⟩:=star_app.1 s
 obtain ⟨k,k1,k2⟩:=Join.assoc' j2 j1
 exact ⟨a,I,h,g,j,l,k,h4,k2,⟨h1,h3,k1,c,d⟩,e⟩
theorem l_stx [Inhabited α]{K:Kind α}{T e:TypeId}{x y:Operand}{g o n c:Nat}{xs:List α}{vs:List Value}{x':α}(k:Nat)(j:Int)(hd:dok X.n d=true)(hw:want ops σ ⟨d,.store T x y,ty,pos,af,gd⟩=true)(hs:szB X.P T=some K.sz)
  (hx:ev σ x=.pointer (some ⟨g,o+j.toNat*K.sz,none⟩)) (hy:(ev σ y).cells.toList=vs) (h0:0≤j) (h1:j<n) (ho:∀ I h,star (tk k V) I h→K.own I h x' vs)
  (h:TL X ops (ow K e (.slice (some ⟨g,o,none⟩) n c) (xs.set j.toNat x')::dp k V) (updo σ d undef) rest Q):TL X ops (ow K e (.slice (some ⟨g,o,none⟩) n c) xs::V) σ (⟨d,.store T x y,ty,pos,af,gd⟩::rest) Q:=by
 intro w s
 have s2:St X.C w (_::dp k V):=St.seps (A:=tk k V) (V:=dp k V) (by rw [tk_dp]; exact s)
 obtain ⟨_,w',hr,s'⟩:=St.act s2 0 (q:=fun _:Unit=>ow K e (.slice (some ⟨g,o,none⟩) n c) (xs.set j.toNat x')) (Ψ:=fun _ w'=>(execOp (ev σ) ⟨d,.store T x y,ty,pos,af,gd⟩).run X.P w=.ok .skip w') (by
  rintro I hh ⟨h1',hA,jS,p,stA⟩ lI lw dj
  have ox':=ho I hA stA
  have p:owS K e I h1' (.slice (some ⟨g,o,none⟩) n c) xs:=p
  rcases p with ⟨A,hv,rfl,_⟩|⟨g',c',pre,used,spare,fr,hb,hv,h2,h3,h4,h5,jo,ol⟩
  ·injection hv with _ hv _
   omega
  injection hv with e1 e2 e3
  injection e1 with e1
  injection e1 with e1 e4
  subst e1; subst e3; subst e4; subst e2
  obtain ⟨a1,c1,b1,g1,g2,hc,hlen,jn,ox,hput⟩:=ownL_at ol (ix_get h0 h1)
  have hlc:=K.own_len ox
  have hlv:=K.own_len ox'
  have hblk:w.heap[g]?=some (.cells (pre++used++spare).toArray e fr):=lw g _ (jS.left g _ (jo.left g _ (by simp [Hp.one])))
  have hlu:used.length=a1.length+c1.length+b1.length:=by rw [hc]; simp [Nat.add_assoc]
  obtain ⟨w',r,e',ot,sm⟩:=storeCells_blk (P:=X.P) (N:=(pre++used++spare).length) (T:=e) (fr:=fr) (b:=g) (by simpa [Nat.add_assoc] using h5) vs (pre.length+j.toNat*K.sz) 0 (pre++used++spare) w rfl hblk (by simp only [List.length_append]; omega) (K.own_one ox')
  obtain ⟨m,jm⟩:=Join.of_disj (h1:=hA) (h2:=g2) (fun b=>by
   rcases jS.disj b with f | f
   ·exact .inr ((jn.is_none b).1 ((jo.is_none b).1 f).2).2
   ·exact .inl f)
  have hnew:pre++used++spare=(pre++used++spare):=rfl
  have hset:(pre++used++spare).take (pre.length+j.toNat*K.sz+0)++vs++(pre++used++spare).drop (pre.length+j.toNat*K.sz+0+vs.length)=pre++(a1++vs++b1)++spare:=by
   have e1:pre++used++spare=(pre++a1)++(c1++(b1++spare)):=by rw [hc]; simp [List.append_assoc]
   have e2:pre.length+j.toNat*K.sz+0=(pre++a1).length:=by rw [List.length_append]; omega
   rw [e1,e2,List.take_left,List.drop_append,List.drop_of_length_le (by omega),List.nil_append,Nat.add_sub_cancel_left,hlv,← hlc,List.drop_left]
   simp [List.append_assoc]
  obtain ⟨h',jo'⟩:=Join.of_disj (h1:=Hp.one g (.cells (pre++(a1++vs++b1)++spare).toArray e fr)) (h2:=m) (fun b=>by
   by_cases hbg:b=g
   ·subst hbg
    refine .inr ((jm.is_none b).2 ⟨?_,?_⟩)
    ·rcases jS.disj b with f | f
     ·have:=((jo.is_none b).1 f).1
      simp [Hp.one] at this
     ·exact f
    ·rcases jo.disj b with f | f
     ·simp [Hp.one] at f
     ·exact ((jn.is_none b).1 f).2
   ·exact .inl (by simp [Hp.one,hbg]))
  refine ⟨(),w',h',?_,sm _,?_,?_,?_,?_⟩
  ·have hsz:(ev σ y).cells.size=K.sz:=by rw [← hlv,← hy]; simp
   simp only [execOp,Instr.storeAt,hx,Instr.sureAddr,Sem.run_bind,Sem.run_pure,Result.andThen_ok,storeVar,run_sizeOf hs,hy,hsz,ne_eq,not_true_eq_false,if_false,r]
  ·refine .inr ⟨g,_,pre,a1++vs++b1,spare,fr,m,by rw [List.length_set],by rw [List.length_set]; exact h2,h3,by rw [List.length_set]; exact h4,?_,jo',hput I hA x' vs m (Hp.le_refl I) jm ox'⟩
   rcases h5 with h5 | h5
   ·exact .inl h5
   ·refine .inr ?_
    simp only [List.length_append] at *
    omega
  ·intro b o' e1
   rcases jo'.cases e1 with ⟨e1,_⟩|⟨e1,e2⟩
   ·simp only [Hp.one] at e1
    split at e1
    ·rename_i hb'
     subst hb'
     rw [← Option.some.inj e1,e',hset]
    ·cases e1
   ·have hne:b≠g:=by rintro rfl; simp [Hp.one] at e2
    rw [ot b hne]
    rcases jm.cases e1 with ⟨e1,_⟩|⟨e1,_⟩
    ·exact lw b _ (jS.right b _ e1)
    ·exact lw b _ (jS.left b _ (jo.right b _ (jn.right b _ e1)))
  ·intro b hb'
   refine .inl fun hn=>hb' ?_
   have q1:=(jS.is_none b).1 hn
   have q2:=(jo.is_none b).1 q1.1
   refine (jo'.is_none b).2 ⟨?_,(jm.is_none b).2 ⟨q1.2,((jn.is_none b).1 q2.2).2⟩⟩
   have:=q2.1
   simp only [Hp.one] at *
   split at this
   ·cases this
   ·rename_i hne; rw [if_neg hne]
  ·intro b o' hn e1
   have q1:=(jS.is_none b).1 hn
   have q2:=((jo.is_none b).1 q1.1).1
   have hne:b≠g:=by rintro rfl; simp [Hp.one] at q2
   rw [ot b hne]
   exact e1)
 exact WL_step hd hw (by rw [hr]; exact h w' s')
end
end Go.Pg
