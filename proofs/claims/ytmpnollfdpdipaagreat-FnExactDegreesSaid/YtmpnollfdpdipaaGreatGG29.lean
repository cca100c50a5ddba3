import Derived.Test.YtmpnollfdpdipaaGreatGG13
import Derived.Test.YtmpnollfdpdipaaGreatGkF
import Derived.Test.YtmpnollfdpdipaaGreatPL1
set_option linter.unusedVariables false
set_option linter.unusedSimpArgs false
namespace Go.Proofs.YtmpnollfdpdipaaGreat
open Go Go.Pg
theorem tq {c:UInt8}(h:97≤c.toNat∧c.toNat≤122):IntKind.wrap .u8 ((c.toNat:Int) - 97)=(c.toNat:Int) - 97:=by
 unfold IntKind.wrap
 simp [IntKind.bits,IntKind.signed]
 omega
theorem qD {g:aM}{k:Nat}(h:k<g.length):sub g (k:Int) ((k+1:Nat):Int)=[ix g (k:Int)]:=by
 unfold sub
 rw [Int.toNat_natCast,Int.toNat_natCast,List.take_succ_eq_append_getElem h,List.drop_append_of_le_length (by simp; omega),bS h]
 simp
theorem xB {gs:List aM}{dss:List (List Int)}{b:List aM×aM×Bool}{x:Nat}(T:b.1=gs)(hx:x<gs.length)(u:LT (ix gs (x:Int))){m:Nat}(Y:m≤100){s:aM×List Int}(h1:s.1.length≤m)(h2:s.2.length=26)(B:(ix gs (x:Int)).length=(ix dss (x:Int)).length) :
  (∃ s',la (ix gs (x:Int)) (ix dss (x:Int)) s=some s'∧aR (fun s:aM×List Int×Int=>Z3_L2 dss b (x:Int) s.1 s.2.1 s.2.2) (s.1,s.2,0)=some (.inr (s'.1,s'.2))∧s'.1.length≤m+6∧s'.2.length=26) ∨
  (la (ix gs (x:Int)) (ix dss (x:Int)) s=none∧∃ e,aR (fun s:aM×List Int×Int=>Z3_L2 dss b (x:Int) s.1 s.2.1 s.2.2) (s.1,s.2,0)=some (.inl e)∧e.2=false):=by
 obtain ⟨g,a⟩:∃ g,g=ix gs (x:Int):=⟨_,rfl⟩
 obtain ⟨ds,l⟩:∃ ds,ds=ix dss (x:Int):=⟨_,rfl⟩
 have h:ix b.1 (x:Int)=g:=by rw [T,a]
 rw [← a] at u B ⊢
 rw [← l] at B ⊢
 unfold la
 rw [if_pos B]
 rcases j5 (f:=fun s:aM×List Int×Int=>Z3_L2 dss b (x:Int) s.1 s.2.1 s.2.2) (fun s k=>kS s (ix g (k:Int)) (ix ds (k:Int))) (fun s i=>(s.1,s.2,i)) (fun s=>(s.1,s.2)) (fun e=>e.2=false) (fun j s=>s.1.length≤m+j∧s.2.length=26) g.length
  (fun j s F G=>by
   obtain ⟨Z,U⟩:=G
   have L:=u.2 _ (bE F)
   have I:=u.1
   have D:bt g (j:Int)=((ix g (j:Int)).toNat:Int):=rfl
   simp only [Z3_L2]
   rw [h,← l,if_pos (by simp; omega),if_pos (by omega),D,tq L,if_pos (by omega),if_pos (fun _=>by omega)]
   show (∃ s',kS s _ _=_∧_)∨_
   unfold kS
   by_cases c:lk s.2 (ix g (j:Int))≠0∧lk s.2 (ix g (j:Int))≠ix ds (j:Int)
   ·rw [if_pos c,if_pos (by unfold lk at c; simpa using c)]
    exact .inr ⟨rfl,_,rfl,rfl⟩
   ·rw [if_neg c]
    obtain ⟨r,J,E⟩:=nO s.1 (ix g (j:Int))
    have M:((((ix g (j:Int)).toNat:Int) - 97)).toNat=(ix g (j:Int)).toNat - 97:=by omega
    have O:¬ (((ix s.2 (((ix g (j:Int)).toNat:Int) - 97)) != 0)&&((ix s.2 (((ix g (j:Int)).toNat:Int) - 97)) != (ix ds (j:Int))))=true:=by
     unfold lk at c; simpa using c
    refine .inl ⟨_,rfl,?_,?_,by simpa using U⟩
    ·rw [if_neg O,if_pos (by omega)]
     simp only [nm,Option.bind_some]
     rw [J,M]
     simp only [Option.bind_some]
     by_cases q:ix g (j:Int)∈s.1
     ·rw [if_neg (by simp; have:¬ r<0:=fun z=>E.1 z q; omega),if_pos q]
      simp only [Z3_J5]
      rw [bW (by unfold b'; omega)]
     ·rw [if_pos (decide_eq_true (E.2 q)),bW (by unfold b'; omega),if_pos (by omega),qD F,if_pos (by simp; omega),if_neg q]
      simp only [Z3_J5]
      rw [bW (by unfold b'; omega)]
    ·by_cases q:ix g (j:Int)∈s.1
     ·simp only [if_pos q]; omega
     ·simp only [if_neg q]; simp; omega)
  (fun s G=>by
   simp only [Z3_L2]
   rw [h,if_neg (by simp)])
  (s:=s) ⟨by omega,h2⟩ with ⟨s',a1,a2,a3,a4⟩|⟨a1,e,a2,a3⟩
 ·have:=u.1
  exact .inl ⟨s',a1,a2,by omega,a4⟩
 ·exact .inr ⟨a1,e,a2,a3⟩
theorem xC {gs:List aM}{dss:List (List Int)}{b:List aM×aM×Bool}(l:b.1=gs)(E:gs.length≤6)(B:∀ g∈gs,LT g)(F:gs.length=dss.length){s:aM×List Int}(h1:s.1.length≤6)(h2:s.2.length=26) :
  (∃ s',mS gs dss s=some s'∧aR (fun s:aM×List Int×Int=>Z3_L1 dss b s.1 s.2.1 s.2.2) (s.1,s.2,0)=some (.inr (s'.1,s'.2))∧s'.1.length≤42∧s'.2.length=26) ∨
  (mS gs dss s=none∧∃ e,aR (fun s:aM×List Int×Int=>Z3_L1 dss b s.1 s.2.1 s.2.2) (s.1,s.2,0)=some (.inl e)∧e.2=false):=by
 unfold mS
 rcases j5 (f:=fun s:aM×List Int×Int=>Z3_L1 dss b s.1 s.2.1 s.2.2) (fun s k=>la (ix gs (k:Int)) (ix dss (k:Int)) s) (fun s i=>(s.1,s.2,i)) (fun s=>(s.1,s.2)) (fun e=>e.2=false) (fun j s=>s.1.length≤6+6*j∧s.2.length=26) gs.length
  (fun j s r q=>by
   obtain ⟨u,D⟩:=q
   simp only [Z3_L1]
   rw [l,if_pos (by simp; omega),if_pos (by omega),if_pos (by omega)]
   by_cases c:(ix gs (j:Int)).length=(ix dss (j:Int)).length
   ·rw [if_neg (by simp; omega)]
    rcases xB (m:=6+6*j) l r (B _ (bE r)) (by omega) u D c with ⟨s',a,h,a3,a4⟩|⟨a,e,h,a3⟩
    ·rw [h]
     refine .inl ⟨s',a,?_,by omega,a4⟩
     simp only [Option.bind_some,Z3_J6]
     rw [bW (by unfold b'; omega)]
    ·rw [h]
     exact .inr ⟨a,e,rfl,a3⟩
   ·rw [if_pos (by simp; omega)]
    refine .inr ⟨by unfold la; rw [if_neg c],_,rfl,rfl⟩)
  (fun s q=>by
   simp only [Z3_L1]
   rw [l,if_neg (by simp)])
  (s:=s) ⟨by omega,h2⟩ with ⟨s',a,h,a3,a4⟩|⟨a,e,h,a3⟩
 ·exact .inl ⟨s',a,h,by omega,a4⟩
 ·exact .inr ⟨a,e,h,a3⟩
theorem ts:∀ {f:aM} {c:UInt8} {j:Nat},j<f.idxOf c→∀ h:j<f.length,f[j]≠c
 | [],_,_,_,h=>by simp at h
 | b::l,c,j,hj,h=>by
  rw [List.idxOf_cons] at hj
  cases e:b==c with
  | true=>rw [e] at hj; simp at hj
  | false =>
   rw [e] at hj
   cases j with
   | zero=>simpa using e
   | succ j=>exact ts (f:=l) (by simp at hj; omega) (by simpa using h)
theorem xD {gs:List aM}{k i:Nat}{f:aM}(r:f.length<b')(m:i<(ix gs (k:Int)).length):aR (fun s:Int=>Z2_L3 gs (k:Int) f (i:Int) s) 0=some ((f.idxOf (ix (ix gs (k:Int)) (i:Int)):Nat):Int):=by
 obtain ⟨c,g⟩:∃ c,c=ix (ix gs (k:Int)) (i:Int):=⟨_,rfl⟩
 rw [← g]
 have l:f.idxOf c≤f.length:=List.idxOf_le_length
 have a:bt (ix gs (k:Int)) (i:Int)=(c.toNat:Int):=by rw [g]; rfl
 have b:∀ j:Nat,(bt f (j:Int) != (c.toNat:Int))=!decide (ix f (j:Int)=c):=by
  intro j
  have:(bt f (j:Int)==(c.toNat:Int))=decide (ix f (j:Int)=c):=kP
  unfold bne; rw [this]
 refine eC (f:=fun s:Int=>Z2_L3 gs (k:Int) f (i:Int) s) (fun j=>(j:Int)) (f.idxOf c) (fun j h=>?_) ?_ rfl
 ·have e:j<f.length:=by omega
  simp only [Z2_L3]
  rw [if_pos (fun _=>by omega),if_pos (fun _=>by omega),a,b,bW (by omega),if_pos]
  have:ix f (j:Int)≠c:=by
   rw [bS e]; exact ts h e
  simp [this]; omega
 ·simp only [Z2_L3]
  rw [if_pos (fun z=>by simp at z; omega),if_pos (fun _=>by omega),a,b,if_neg]
  by_cases q:f.idxOf c<f.length
  ·have:ix f ((f.idxOf c:Nat):Int)=c:=by rw [bS q]; exact List.getElem_idxOf q
   simp [this]
  ·simp; omega
theorem lb {lens:List Int}(h:lens.length=26){c a:UInt8}(g:97≤c.toNat∧c.toNat≤122)(b:97≤a.toNat∧a.toNat≤122)(d:Int):lk (lens.set (c.toNat - 97) d) a=if a=c then d else lk lens a:=by
 unfold lk
 have e:((a.toNat:Int) - 97)=((a.toNat - 97:Nat):Int):=by omega
 rw [e,bS (by simp; omega),List.getElem_set]
 by_cases q:a=c
 ·rw [if_pos q,if_pos (by rw [q])]
 ·have:a.toNat≠c.toNat:=fun z=>q (UInt8.toNat_inj.1 z)
  rw [if_neg q,if_neg (by omega),bS (by omega)]
theorem qG:∀ {f:aM} {c:UInt8} {g h:UInt8→Int} {d:Int},f.Nodup→c∈f→h c=d→(∀ x∈f,x≠c→h x=g x)→(f.map g).set (f.idxOf c) d=f.map h
 | [],_,_,_,_,_,hm,_,_=>by simp at hm
 | b::l,c,g,h,d,hn,hm,h1,h2=>by
  rw [List.nodup_cons] at hn
  rw [List.idxOf_cons]
  by_cases q:b=c
  ·subst q
   simp only [beq_self_eq_true,cond_true,List.map_cons,List.set_cons_zero,h1]
   congr 1
   apply List.map_congr_left
   intro x a
   exact (h2 x (List.mem_cons_of_mem _ a) (fun z=>hn.1 (z▸a))).symm
  ·have e:(b==c)=false:=by simpa using q
   have i:c∈l:=by
    rcases List.mem_cons.1 hm with z | z
    ·exact absurd z.symm q
    ·exact z
   rw [e]
   simp only [cond_false,List.map_cons,List.set_cons_succ]
   rw [qG hn.2 i h1 (fun x a j=>h2 x (List.mem_cons_of_mem _ a) j),h2 b (List.mem_cons_self ..) q]
structure IS (s:aM×List Int):Prop where
 l:s.2.length=26
 n:s.1.Nodup
 c:∀ c∈s.1,97≤c.toNat∧c.toNat≤122
 z:∀ c:UInt8,97≤c.toNat→c.toNat≤122→c ∉ s.1→lk s.2 c=0
theorem qH {s s':aM×List Int}{c:UInt8}{d:Int}(e:IS s)(i:97≤c.toNat∧c.toNat≤122)(h:kS s c d=some s'):IS s'∧s'.1.length≤s.1.length+1:=by
 unfold kS at h
 split at h
 ·cases h
 ·cases h
  by_cases q:c∈s.1
  ·simp only [if_pos q]
   refine ⟨⟨by simpa using e.l,e.n,e.c,fun x h1 h2 g=>?_⟩,by omega⟩
   rw [lb e.l i ⟨h1,h2⟩,if_neg (fun z=>g (by rw [z]; exact q))]
   exact e.z x h1 h2 g
  ·simp only [if_neg q]
   refine ⟨⟨by simpa using e.l,?_,?_,fun x h1 h2 g=>?_⟩,by simp⟩
   ·rw [List.nodup_append]
    refine ⟨e.n,by simp,?_⟩
    intro a m b j
    simp at j; subst j
    exact fun z=>q (z▸m)
   ·intro x r
    rcases List.mem_append.1 r with z | z
    ·exact e.c x z
    ·simp at z; rw [z]; exact i
   ·simp at g
    rw [lb e.l i ⟨h1,h2⟩,if_neg g.2]
    exact e.z x h1 h2 g.1
theorem pH {f:aM}{g:UInt8→Int}{p:Nat}(h:p<f.length):ix (f.map g) (p:Int)=g f[p]:=by
 rw [bS (by simpa using h)]; simp
theorem tt {gs:List aM}{dss:List (List Int)}{x j:Nat}{s:aM×List Int}(r:IS s)(J:s.1.length≤100)(U:j<(ix gs (x:Int)).length)(hl:(ix gs (x:Int)).length=(ix dss (x:Int)).length)(h6:(ix gs (x:Int)).length≤6)(g:97≤(ix (ix gs (x:Int)) (j:Int)).toNat∧(ix (ix gs (x:Int)) (j:Int)).toNat≤122) :
  (∃ s',kS s (ix (ix gs (x:Int)) (j:Int)) (ix (ix dss (x:Int)) (j:Int))=some s'∧Z2_L2 gs dss (x:Int) s.1 (s.1.map (lk s.2)) (j:Int)=some (.inl (s'.1,s'.1.map (lk s'.2),((j+1:Nat):Int)))) ∨
  (kS s (ix (ix gs (x:Int)) (j:Int)) (ix (ix dss (x:Int)) (j:Int))=none∧∃ e,Z2_L2 gs dss (x:Int) s.1 (s.1.map (lk s.2)) (j:Int)=some (.inr (.inl e))∧e.2.2=false):=by
 obtain ⟨c,m⟩:∃ c,c=ix (ix gs (x:Int)) (j:Int):=⟨_,rfl⟩
 obtain ⟨d,Y⟩:∃ d,d=ix (ix dss (x:Int)) (j:Int):=⟨_,rfl⟩
 rw [← m] at g ⊢
 rw [← Y]
 have G:=xD (gs:=gs) (k:=x) (i:=j) (f:=s.1) (by unfold b'; omega) U
 rw [← m] at G
 simp only [Z2_L2]
 rw [if_pos (by simp; omega),G]
 simp only [Option.bind_some]
 have T:∀ (f:aM) (ls:List Int),f.Nodup→c∈f→s.1.idxOf c=f.idxOf c→ls=f.map (lk s.2)→(∀ y∈f,97≤y.toNat∧y.toNat≤122) →
   Z2_J9 dss (x:Int) (j:Int) ((s.1.idxOf c:Nat):Int) f ls=if lk s.2 c≠0∧lk s.2 c≠d then some (.inr (.inl ([],ls,false))) else some (.inl (f,f.map (lk (s.2.set (c.toNat - 97) d)),((j+1:Nat):Int))):=by
  intro f ls hn J hi B u
  have D:f.idxOf c<f.length:=List.idxOf_lt_length_iff.2 J
  have e:ix ls ((f.idxOf c:Nat):Int)=lk s.2 c:=by
   rw [B,pH D]; congr 1; exact List.getElem_idxOf D
  have a0:ls.length=f.length:=by rw [B]; simp
  unfold Z2_J9
  rw [hi,e,← Y,if_pos (by omega),if_pos (fun _=>by omega)]
  by_cases q:lk s.2 c≠0∧lk s.2 c≠d
  ·rw [if_pos q,if_pos (by simpa using q)]
  ·rw [if_neg q,if_neg (by simpa using q),if_pos (by omega),bW (by unfold b'; omega),Int.toNat_natCast,B,qG hn J (h:=lk (s.2.set (c.toNat - 97) d))]
   ·rw [lb r.l g g,if_pos rfl]
   ·intro y I O
    rw [lb r.l g (u y I),if_neg O]
 have R:∀ f,(if c∈s.1 then s.1 else s.1++[c])=f→(∀ z,z=(if lk s.2 c≠0∧lk s.2 c≠d then some (.inr (.inl ([],f.map (lk s.2),false))) else some (.inl (f,f.map (lk (s.2.set (c.toNat - 97) d)),((j+1:Nat):Int))):Option ((aM×(List Int)×Int)⊕((aM×(List Int)×Bool)⊕(aM×(List Int))))) →
   (∃ s',kS s c d=some s'∧z=some (.inl (s'.1,s'.1.map (lk s'.2),((j+1:Nat):Int))))∨(kS s c d=none∧∃ e,z=some (.inr (.inl e))∧e.2.2=false)):=by
  intro f G z F
  unfold kS
  by_cases q:lk s.2 c≠0∧lk s.2 c≠d
  ·rw [if_pos q] at F ⊢
   exact .inr ⟨rfl,_,F,rfl⟩
  ·rw [if_neg q] at F ⊢
   rw [G]
   exact .inl ⟨_,rfl,F⟩
 unfold Z2_J8
 by_cases q:c∈s.1
 ·have D:s.1.idxOf c<s.1.length:=List.idxOf_lt_length_iff.2 q
  rw [if_neg (by simp; omega),T s.1 _ r.n q rfl rfl r.c]
  exact R s.1 (if_pos q) _ rfl
 ·have D:s.1.idxOf c=s.1.length:=by
   have:¬ s.1.idxOf c<s.1.length:=fun z=>q (List.idxOf_lt_length_iff.1 z)
   have:s.1.idxOf c≤s.1.length:=List.idxOf_le_length
   omega
  have L:(s.1++[c]).idxOf c=s.1.length:=by
   rw [List.idxOf_append,if_neg q]; simp
  have M:(s.1++[c]).Nodup:=by
   rw [List.nodup_append]
   refine ⟨r.n,by simp,?_⟩
   intro a ha b Z
   simp at Z; subst Z
   exact fun z=>q (z▸ha)
  have u:∀ y∈s.1++[c],97≤y.toNat∧y.toNat≤122:=by
   intro y I
   rcases List.mem_append.1 I with z | z
   ·exact r.c y z
   ·simp at z; rw [z]; exact g
  have E:s.1.map (lk s.2)++[0]=(s.1++[c]).map (lk s.2):=by
   rw [List.map_append]; simp [r.z c g.1 g.2 q]
  rw [if_pos (by rw [D]; simp),bW (by unfold b'; omega),if_pos (by omega),qD U,← m,if_pos (by simp; omega),if_pos (by simp; omega),T (s.1++[c]) _ M (by simp) (by rw [D,L]) E u,E]
  exact R _ (if_neg q) _ rfl
theorem xE {gs:List aM}{dss:List (List Int)}{x:Nat}(r:LT (ix gs (x:Int))){m:Nat}(G:m≤90){s:aM×List Int}(h1:s.1.length≤m)(B:IS s)(l:(ix gs (x:Int)).length=(ix dss (x:Int)).length) :
  (∃ s',la (ix gs (x:Int)) (ix dss (x:Int)) s=some s'∧aR (fun s:aM×List Int×Int=>Z2_L2 gs dss (x:Int) s.1 s.2.1 s.2.2) (s.1,s.1.map (lk s.2),0)=some (.inr (s'.1,s'.1.map (lk s'.2)))∧s'.1.length≤m+6∧IS s') ∨
  (la (ix gs (x:Int)) (ix dss (x:Int)) s=none∧∃ e,aR (fun s:aM×List Int×Int=>Z2_L2 gs dss (x:Int) s.1 s.2.1 s.2.2) (s.1,s.1.map (lk s.2),0)=some (.inl e)∧e.2.2=false):=by
 unfold la
 rw [if_pos l]
 have E:=r.1
 rcases j5 (f:=fun s:aM×List Int×Int=>Z2_L2 gs dss (x:Int) s.1 s.2.1 s.2.2) (fun s k=>kS s (ix (ix gs (x:Int)) (k:Int)) (ix (ix dss (x:Int)) (k:Int))) (fun s i=>(s.1,s.1.map (lk s.2),i)) (fun s=>(s.1,s.1.map (lk s.2))) (fun e=>e.2.2=false) (fun j s=>s.1.length≤m+j∧IS s) (ix gs (x:Int)).length
  (fun j s u b=>by
   have h:=r.2 _ (bE u)
   rcases tt b.2 (by have:=b.1; omega) u l E h with ⟨s',a,g⟩ | q
   ·obtain ⟨D,F⟩:=qH b.2 h a
    exact .inl ⟨s',a,g,by have:=b.1; omega,D⟩
   ·exact .inr q)
  (fun s b=>by
   simp only [Z2_L2]
   rw [if_neg (by simp)])
  (s:=s) ⟨by omega,B⟩ with ⟨s',a,g,a3,a4⟩|⟨a,e,g,a3⟩
 ·exact .inl ⟨s',a,g,by omega,a4⟩
 ·exact .inr ⟨a,e,g,a3⟩
theorem tu {gs:List aM}{dss:List (List Int)}(D:gs.length≤6)(r:∀ g∈gs,LT g)(E:gs.length=dss.length){s:aM×List Int}(h1:s.1.length≤6)(l:IS s) :
  (∃ s',mS gs dss s=some s'∧aR (fun s:aM×List Int×Int=>Z2_L1 gs dss s.1 s.2.1 s.2.2) (s.1,s.1.map (lk s.2),0)=some (.inr (s'.1,s'.1.map (lk s'.2)))∧s'.1.length≤42∧IS s') ∨
  (mS gs dss s=none∧∃ e,aR (fun s:aM×List Int×Int=>Z2_L1 gs dss s.1 s.2.1 s.2.2) (s.1,s.1.map (lk s.2),0)=some (.inl e)∧e.2.2=false):=by
 unfold mS
 rcases j5 (f:=fun s:aM×List Int×Int=>Z2_L1 gs dss s.1 s.2.1 s.2.2) (fun s k=>la (ix gs (k:Int)) (ix dss (k:Int)) s) (fun s i=>(s.1,s.1.map (lk s.2),i)) (fun s=>(s.1,s.1.map (lk s.2))) (fun e=>e.2.2=false) (fun j s=>s.1.length≤6+6*j∧IS s) gs.length
  (fun j s B h=>by
   obtain ⟨q,u⟩:=h
   simp only [Z2_L1]
   rw [if_pos (by simp; omega),if_pos (by omega),if_pos (by omega)]
   by_cases c:(ix gs (j:Int)).length=(ix dss (j:Int)).length
   ·rw [if_neg (by simp; omega)]
    rcases xE (m:=6+6*j) (r _ (bE B)) (by omega) q u c with ⟨s',a,b,a3,a4⟩|⟨a,e,b,a3⟩
    ·rw [b]
     refine .inl ⟨s',a,?_,by omega,a4⟩
     simp only [Option.bind_some,Z2_J10]
     rw [bW (by unfold b'; omega)]
    ·rw [b]
     exact .inr ⟨a,e,rfl,a3⟩
   ·rw [if_pos (by simp; omega)]
    refine .inr ⟨by unfold la; rw [if_neg c],_,rfl,rfl⟩)
  (fun s h=>by
   simp only [Z2_L1]
   rw [if_neg (by simp)])
  (s:=s) ⟨by omega,l⟩ with ⟨s',a,b,a3,a4⟩|⟨a,e,b,a3⟩
 ·exact .inl ⟨s',a,b,by omega,a4⟩
 ·exact .inr ⟨a,e,b,a3⟩
theorem nP {S:Type}{st:S→Nat→Option S}(I:Nat→S→Prop){s:S}(a:I 0 s):∀ (n:Nat),(∀ j s s',j<n→I j s→st s j=some s'→I (j+1) s')→∀ {s':S},pG st n s=some s'→I n s'
 | 0,_,s',h=>by cases h; exact a
 | n+1,hs,s',h=>by
  rw [pG] at h
  obtain ⟨m,h1,h2⟩:=bd h
  exact hs n m s' (by omega) (nP I a n (fun j s s' b=>hs j s s' (by omega)) h1) h2
structure Ext (s s':aM×List Int):Prop where
 i:IS s'
 p:∃ t,s'.1=s.1++t
 k:∀ c:UInt8,97≤c.toNat→c.toNat≤122→lk s.2 c≠0→lk s'.2 c=lk s.2 c
theorem Ext.rfl_ {s:aM×List Int}(h:IS s):Ext s s:=⟨h,⟨[],by simp⟩,fun _ _ _ _=>rfl⟩
theorem Ext.trans {a b c:aM×List Int}(h1:Ext a b)(h2:Ext b c):Ext a c:=by
 obtain ⟨t,g⟩:=h1.p
 obtain ⟨u,e⟩:=h2.p
 refine ⟨h2.i,⟨t++u,by rw [e,g,List.append_assoc]⟩,fun x a b h=>?_⟩
 have:=h1.k x a b h
 rw [h2.k x a b (by rw [this]; exact h),this]
theorem tv {s s':aM×List Int}{c:UInt8}{d:Int}(j:IS s)(g:97≤c.toNat∧c.toNat≤122)(h:kS s c d=some s'):Ext s s'∧c∈s'.1∧lk s'.2 c=d∧∀ x∈s'.1,x∈s.1∨x=c:=by
 have r:=(qH j g h).1
 unfold kS at h
 split at h
 ·cases h
 ·rename_i q
  cases h
  refine ⟨⟨r,?_,fun x a b u=>?_⟩,?_,?_,?_⟩
  ·by_cases m:c∈s.1
   ·exact ⟨[],by simp [m]⟩
   ·exact ⟨[c],by simp [m]⟩
  ·show lk (s.2.set _ _) x=_
   rw [lb j.l g ⟨a,b⟩]
   by_cases e:x=c
   ·subst e
    rw [if_pos rfl]
    exact Classical.byContradiction fun z=>q ⟨u,fun w=>z w.symm⟩
   ·rw [if_neg e]
  ·by_cases m:c∈s.1<;>simp [m]
  ·show lk (s.2.set _ _) c=_
   rw [lb j.l g g,if_pos rfl]
  ·intro x i
   by_cases m:c∈s.1
   ·simp only [if_pos m] at i; exact .inl i
   ·simp only [if_neg m] at i; simpa using i
theorem tw {g:aM}{ds:List Int}{s s':aM×List Int}(I:IS s)(F:LT g)(T:∀ d∈ds,d≠0)(h:la g ds s=some s') :
  Ext s s'∧g.length=ds.length∧(∀ j:Nat,j<g.length→ix g (j:Int)∈s'.1∧lk s'.2 (ix g (j:Int))=ix ds (j:Int))∧∀ x∈s'.1,x∈s.1∨x∈g:=by
 unfold la at h
 split at h
 ·rename_i O
  obtain ⟨a,b,c⟩:=nP (fun n z=>Ext s z∧(∀ j:Nat,j<n→ix g (j:Int)∈z.1∧lk z.2 (ix g (j:Int))=ix ds (j:Int))∧∀ x∈z.1,x∈s.1∨x∈g) ⟨Ext.rfl_ I,fun j D=>absurd D (Nat.not_lt_zero _),fun x B=>.inl B⟩ g.length
   (fun n z U E L J=>by
    obtain ⟨a,b,c⟩:=L
    obtain ⟨p,q,r,t⟩:=tv a.i (F.2 _ (bE E)) J
    refine ⟨a.trans p,fun j D=>?_,fun x B=>?_⟩
    ·by_cases e:j=n
     ·subst e; exact ⟨q,r⟩
     ·obtain ⟨m,l⟩:=b j (by omega)
      obtain ⟨u,M⟩:=p.p
      have G:=F.2 _ (bE (show j<g.length by omega))
      refine ⟨by rw [M]; exact List.mem_append_left _ m,?_⟩
      rw [p.k _ G.1 G.2 (by rw [l]; exact T _ (bE (by omega))),l]
    ·rcases t x B with y | y
     ·exact c x y
     ·rw [y]; exact .inr (bE E)) h
  exact ⟨a,O,b,c⟩
 ·cases h
theorem tx {gs:List aM}{dss:List (List Int)}{s s':aM×List Int}(O:IS s)(U:gs.length=dss.length)(F:∀ g∈gs,LT g)(G:∀ ds∈dss,∀ d∈ds,d≠0)(h:mS gs dss s=some s') :
  Ext s s'∧(∀ x:Nat,x<gs.length→(ix gs (x:Int)).length=(ix dss (x:Int)).length∧∀ j:Nat,j<(ix gs (x:Int)).length→ix (ix gs (x:Int)) (j:Int)∈s'.1∧lk s'.2 (ix (ix gs (x:Int)) (j:Int))=ix (ix dss (x:Int)) (j:Int))∧∀ y∈s'.1,y∈s.1∨∃ g∈gs,y∈g:=by
 unfold mS at h
 exact nP (fun n z=>Ext s z∧(∀ x:Nat,x<n→(ix gs (x:Int)).length=(ix dss (x:Int)).length∧∀ j:Nat,j<(ix gs (x:Int)).length→ix (ix gs (x:Int)) (j:Int)∈z.1∧lk z.2 (ix (ix gs (x:Int)) (j:Int))=ix (ix dss (x:Int)) (j:Int))∧∀ y∈z.1,y∈s.1∨∃ g∈gs,y∈g) ⟨Ext.rfl_ O,fun j B=>absurd B (Nat.not_lt_zero _),fun x J=>.inl J⟩ gs.length
  (fun n z Y E M T=>by
   obtain ⟨a,b,c⟩:=M
   have D:=F _ (bE E)
   obtain ⟨p,q,r,t⟩:=tw a.i D (G _ (bE (by omega))) T
   refine ⟨a.trans p,fun x J=>?_,fun y L=>?_⟩
   ·by_cases e:x=n
    ·subst e; exact ⟨q,r⟩
    ·obtain ⟨l,m⟩:=b x (by omega)
     refine ⟨l,fun j B=>?_⟩
     obtain ⟨u,v⟩:=m j B
     obtain ⟨w,hw⟩:=p.p
     have I:=(F _ (bE (show x<gs.length by omega))).2 _ (bE B)
     refine ⟨by rw [hw]; exact List.mem_append_left _ u,?_⟩
     rw [p.k _ I.1 I.2 (by rw [v]; exact G _ (bE (by omega)) _ (bE (by omega))),v]
   ·rcases t y L with w | w
    ·exact c y w
    ·exact .inr ⟨_,bE E,w⟩) h
theorem v2 {ds:List Int}{k:Int}(L:ds.length≤100)(h1:∀ d∈ds,1≤d∧d≤4096)(e:0≤k)(h:k≤65536):Zj ds k=some (gW ds k):=by
 have a:∀ j,1≤pr (ds.drop j):=fun j=>fE fun d g=>(h1 d (List.mem_of_mem_drop g)).1
 unfold Zj
 rw [if_pos (by omega)]
 have:=eC (f:=fun s:Int×List Int×Int=>Zj_L1 ds s.1 s.2.1 s.2.2) (r:=gW ds k)
  (fun j=>(k / pr (ds.drop (ds.length - j)),List.replicate (ds.length - j) 0++gW (ds.drop (ds.length - j)) k,(ds.length:Int) - 1 - j)) ds.length
  (fun j M=>by
   obtain ⟨i,E⟩:∃ i,i=ds.length - (j+1):=⟨_,rfl⟩
   have I:ds.length - j=i+1:=by omega
   have J:(ds.length:Int) - 1 - (j:Int)=(i:Int):=by omega
   have b:i<ds.length:=by omega
   have u:=h1 _ (bE b)
   have m:=a (i+1)
   have g:ds.drop i=ix ds (i:Int)::ds.drop (i+1):=by rw [List.drop_eq_getElem_cons b,bS b]
   have l:0≤k / pr (ds.drop (i+1)):=Int.ediv_nonneg e (by omega)
   have F:k / pr (ds.drop (i+1))≤65536:=Int.le_trans (Int.ediv_le_self _ e) h
   simp only [Zj_L1,I,J,← E]
   rw [if_pos (by simp),if_pos (by omega),if_pos (by omega),if_pos (by simp; omega)]
   have q:(k / pr (ds.drop (i+1))).tdiv (ix ds (i:Int))=k / pr (ds.drop i):=by
    rw [Int.tdiv_eq_ediv_of_nonneg l,g]; exact (sH m u.1).1.symm
   have B:(k / pr (ds.drop (i+1))).tmod (ix ds (i:Int))=k / pr (ds.drop (i+1)) % ix ds (i:Int):=Int.tmod_eq_emod_of_nonneg l
   have D:0≤k / pr (ds.drop i):=Int.ediv_nonneg e (by have:=a i; omega)
   have G:k / pr (ds.drop i)≤65536:=Int.le_trans (Int.ediv_le_self _ e) h
   rw [q,B,bC (by omega) (by omega),bC (by omega) (by omega)]
   congr 4
   ·rw [g,List.set_append_left _ _ (by simp),List.replicate_succ',List.set_append_right _ _ (by simp)]
    simp [gW]
   ·omega)
  (by
   simp only [Zj_L1,Nat.sub_self,List.drop_zero,List.replicate_zero,List.nil_append]
   rw [if_neg (by simp; omega)])
  (s:=(k,List.replicate (ds.length:Int).toNat 0,aH ((ds.length:Int) - 1))) (by
   rw [bC (by omega) (by omega)]
   simp [pr,gW])
 rw [this]
 rfl
def wk (ls:List Int)(s:Int)(j:Nat):Option Int:=if s*ix ls (j:Int)>65536 then none else some (s*ix ls (j:Int))
theorem qK {ls:List Int}{j:Nat}(h:j<ls.length):pr (ls.take (j+1))=pr (ls.take j)*ix ls (j:Int):=by
 rw [List.take_succ_eq_append_getElem h,mw,bS h]; simp [pr]
theorem Bw {ls:List Int}(h:∀ d∈ls,1≤d):∀ n,n≤ls.length→pG (wk ls) n 1=if pr (ls.take n)≤65536 then some (pr (ls.take n)) else none
 | 0,_=>by simp [pG,pr]
 | n+1,hn=>by
  have i:1≤pr (ls.take n):=fE fun d g=>h d (List.mem_of_mem_take g)
  have g:=h _ (bE (show n<ls.length by omega))
  rw [pG,Bw h n (by omega),qK (by omega)]
  by_cases c:pr (ls.take n)≤65536
  ·rw [if_pos c]
   simp only [Option.bind_some,wk]
   by_cases e:pr (ls.take n)*ix ls (n:Int)≤65536
   ·rw [if_neg (by omega),if_pos e]
   ·rw [if_pos (by omega),if_neg e]
  ·rw [if_neg c,if_neg]
   ·rfl
   ·have:=iI (a:=pr (ls.take n)) (b:=ix ls (n:Int)) (by omega) g
    omega
theorem xF {ls:List Int}(u:ls.length≤100)(h:∀ d∈ls,1≤d∧d≤4096) :
  (pr ls≤65536∧aR (fun s:Int×Int=>Z2_L4 ls s.1 s.2) (1,0)=some (.inr ())) ∨
  (¬ pr ls≤65536∧∃ e,aR (fun s:Int×Int=>Z2_L4 ls s.1 s.2) (1,0)=some (.inl e)∧e.2.2=false):=by
 have g:=Bw (fun d m=>(h d m).1) ls.length (Nat.le_refl _)
 rw [List.take_length] at g
 rcases j5 (f:=fun s:Int×Int=>Z2_L4 ls s.1 s.2) (wk ls) (fun s i=>(s,i)) (fun _=>()) (fun e=>e.2.2=false) (fun j s=>1≤s∧s≤65536) ls.length
  (fun j s l q=>by
   have r:=h _ (bE l)
   simp only [Z2_L4]
   rw [if_pos (by simp; omega),if_pos (by omega),iz (by omega) (by omega) (by omega) (by omega),bW (by unfold b'; omega)]
   unfold wk
   by_cases c:s*ix ls (j:Int)>65536
   ·rw [if_pos c,if_pos (decide_eq_true c)]
    exact .inr ⟨rfl,_,rfl,rfl⟩
   ·rw [if_neg c,if_neg (by simpa using c)]
    have:=iI (a:=s) (b:=ix ls (j:Int)) (by omega) r.1
    exact .inl ⟨_,rfl,rfl,by omega,by omega⟩)
  (fun s q=>by simp only [Z2_L4]; rw [if_neg (by simp)])
  (s:=1) ⟨by omega,by omega⟩ with ⟨s',a1,a2,a3⟩|⟨a1,e,a2,a3⟩
 ·rw [g] at a1
  refine .inl ⟨?_,a2⟩
  split at a1
  ·assumption
  ·cases a1
 ·rw [g] at a1
  refine .inr ⟨?_,e,a2,a3⟩
  split at a1
  ·cases a1
  ·assumption
theorem xG {f:aM}{lens:List Int}(I:f.length≤100)(E:∀ c∈f,97≤c.toNat∧c.toNat≤122)(h:∀ d∈f.map (lk lens),1≤d∧d≤4096) :
  (pr (f.map (lk lens))≤65536∧aR (fun s:List Int×Int×Int=>Z3_L3 f lens s.1 s.2.1 s.2.2) ([],1,0)=some (.inr (f.map (lk lens)))) ∨
  (¬ pr (f.map (lk lens))≤65536∧∃ e,aR (fun s:List Int×Int×Int=>Z3_L3 f lens s.1 s.2.1 s.2.2) ([],1,0)=some (.inl e)∧e.2=false):=by
 obtain ⟨ls,g⟩:∃ ls,ls=f.map (lk lens):=⟨_,rfl⟩
 rw [← g] at h ⊢
 have u:ls.length=f.length:=by rw [g]; simp
 have l:=Bw (fun d G=>(h d G).1) ls.length (Nat.le_refl _)
 rw [List.take_length] at l
 rcases j5 (f:=fun s:List Int×Int×Int=>Z3_L3 f lens s.1 s.2.1 s.2.2) (wk ls) (fun s i=>(ls.take i.toNat,s,i)) (fun _=>ls) (fun e=>e.2=false) (fun j s=>1≤s∧s≤65536) ls.length
  (fun j s q r=>by
   have D:=h _ (bE q)
   have F:=E _ (bE (show j<f.length by omega))
   have B:ix lens (((ix f (j:Int)).toNat:Int) - 97)=ix ls (j:Int):=by
    rw [g,pH (by omega),bS (xs:=f) (by omega)]; rfl
   have m:bt f (j:Int)=((ix f (j:Int)).toNat:Int):=rfl
   simp only [Z3_L3]
   rw [if_pos (by simp; omega),if_pos (by omega),m,tq F,if_pos (by omega),B,if_pos (by simp; omega),iz (by omega) (by omega) (by omega) (by omega),bW (by unfold b'; omega)]
   unfold wk
   by_cases c:s*ix ls (j:Int)>65536
   ·rw [if_pos c,if_pos (decide_eq_true c)]
    exact .inr ⟨rfl,_,rfl,rfl⟩
   ·rw [if_neg c,if_neg (by simpa using c)]
    have:=iI (a:=s) (b:=ix ls (j:Int)) (by omega) D.1
    refine .inl ⟨_,rfl,?_,by omega,by omega⟩
    rw [Int.toNat_natCast,Int.toNat_natCast,List.take_succ_eq_append_getElem q,bS q])
  (fun s r=>by simp only [Z3_L3]; rw [if_neg (by simp; omega)]; simp)
  (s:=1) ⟨by omega,by omega⟩ with ⟨s',a1,a2,a3⟩|⟨a1,e,a2,a3⟩
 ·rw [l] at a1
  refine .inl ⟨?_,a2⟩
  split at a1
  ·assumption
  ·cases a1
 ·rw [l] at a1
  refine .inr ⟨?_,e,a2,a3⟩
  split at a1
  ·cases a1
  ·assumption
theorem ng {f:form}{g:aM}{p:List Int}(l:f.order.length≤100)(m:g.length≤p.length)(e:p.length≤100):∃ r,Zl f g p=some r:=by
 unfold Zl
 rw [if_pos (by omega)]
 obtain ⟨r,h1,h2⟩:=hY (f:=fun s:List Int×Int=>Zl_L1 f g p s.1 s.2) (fun j s=>s.1.length=f.order.length∧s.2=(j:Int)) f.order.length (Post:=fun _=>True)
  (fun j s q a=>by
   obtain ⟨x,i⟩:=s
   obtain ⟨h1,rfl⟩:=a
   dsimp only at h1
   simp only [Zl_L1]
   rw [if_pos (by simp; omega)]
   obtain ⟨r,g1,b⟩:=hY (f:=fun s:List Int×Int=>Zl_L2 f g p (j:Int) s.1 s.2) (fun k s=>s.1.length=f.order.length∧s.2=(k:Int)) g.length (Post:=fun r=>r.length=f.order.length)
    (fun k s h a=>by
     obtain ⟨x,i⟩:=s
     obtain ⟨h1,rfl⟩:=a
     dsimp only at h1
     simp only [Zl_L2,Zl_J5]
     rw [if_pos (by simp; omega),if_pos (by omega),if_pos (by omega)]
     split
     ·rw [if_pos (by simp; omega),if_pos (by omega)]
      exact ⟨_,rfl,by simpa using h1,by rw [bW (by unfold b'; omega)]⟩
     ·exact ⟨_,rfl,h1,by rw [bW (by unfold b'; omega)]⟩)
    (fun s a=>by
     obtain ⟨x,i⟩:=s
     obtain ⟨h1,rfl⟩:=a
     simp only [Zl_L2]
     rw [if_neg (by simp)]
     exact ⟨_,rfl,h1⟩)
    (s:=(x,0)) ⟨h1,rfl⟩
   rw [g1]
   exact ⟨_,rfl,b,by rw [bW (by unfold b'; omega)]⟩)
  (fun s a=>by
   obtain ⟨x,i⟩:=s
   obtain ⟨h1,rfl⟩:=a
   simp only [Zl_L1]
   rw [if_neg (by simp)]
   exact ⟨_,rfl,trivial⟩)
  (s:=(List.replicate (f.order.length:Int).toNat 0,0)) ⟨by simp,rfl⟩
 rw [h1]
 exact ⟨r,rfl⟩
def oQ (gs:List aM)(o:aM)(dss:List (List Int))(s:aM×List Int):Prop:=mS gs dss (o,List.replicate 26 0)=some s∧pr (s.1.map (lk s.2))≤65536
theorem pI {o:aM}(b:o.Nodup)(a:∀ c∈o,97≤c.toNat∧c.toNat≤122):IS (o,List.replicate 26 0):=by
 refine ⟨rfl,b,a,fun c h1 h2 _=>?_⟩
 unfold lk
 have e:((c.toNat:Int) - 97)=((c.toNat - 97:Nat):Int):=by omega
 rw [e,bS (by rw [List.length_replicate]; omega)]
 exact List.getElem_replicate _
theorem v6 {o:aM}(a:∀ c∈o,97≤c.toNat∧c.toNat≤122):List.replicate (o.length:Int).toNat (0:Int)=o.map (lk (List.replicate 26 0)):=by
 rw [Int.toNat_natCast]
 symm
 rw [List.eq_replicate_iff]
 refine ⟨by simp,fun b g=>?_⟩
 obtain ⟨c,h,rfl⟩:=List.mem_map.1 g
 obtain ⟨h1,h2⟩:=a c h
 unfold lk
 have e:((c.toNat:Int) - 97)=((c.toNat - 97:Nat):Int):=by omega
 rw [e,bS (by rw [List.length_replicate]; omega)]
 exact List.getElem_replicate _
theorem mD {gs:List aM}{o:aM}(h:∀ i∈List.range o.length,OL gs o i):o.Nodup:=by
 refine List.pairwise_iff_getElem.2 fun i j g a b e=>?_
 have:=(h j (List.mem_range.2 a)).2
 rw [bS a] at this
 refine this ?_
 rw [← e,List.mem_take_iff_getElem]
 exact ⟨i,by omega,rfl⟩
structure Laid (gs:List aM)(o:aM)(dss:List (List Int))(s:aM×List Int):Prop where
 i:IS s
 l:s.1.length≤42
 p:∃ t,s.1=o++t
 g:∀ x:Nat,x<gs.length→(ix gs (x:Int)).length=(ix dss (x:Int)).length∧∀ j:Nat,j<(ix gs (x:Int)).length→ix (ix gs (x:Int)) (j:Int)∈s.1∧lk s.2 (ix (ix gs (x:Int)) (j:Int))=ix (ix dss (x:Int)) (j:Int)
 d:∀ d∈s.1.map (lk s.2),1≤d∧d≤4096
theorem nQ {gs:List aM}{o:aM}{dss:List (List Int)}{s:aM×List Int}(hp:PO gs o)(L:gs.length=dss.length)(O:∀ ds∈dss,eG ds)(h:mS gs dss (o,List.replicate 26 0)=some s):Laid gs o dss s:=by
 obtain ⟨p1,T,J,U⟩:=hp
 have M:=pI (mD U) T.2
 obtain ⟨a,b,c⟩:=tx M L J (fun ds B d D=>by have:=(O ds B).2.1 d D; omega) h
 have m:s.1.length≤42:=by
  rcases tu p1 J L (s:=(o,List.replicate 26 0)) T.1 M with ⟨s',r,_,q3,_⟩|⟨r,_⟩
  ·rw [h] at r; cases r; exact q3
  ·rw [h] at r; cases r
 refine ⟨a.i,m,a.p,b,fun d u=>?_⟩
 obtain ⟨y,Z,rfl⟩:=List.mem_map.1 u
 have:∃ g∈gs,y∈g:=by
  rcases c y Z with q | q
  ·obtain ⟨k,I,e⟩:=List.getElem_of_mem q
   have:=(U k (List.mem_range.2 I)).1
   rw [bS I,e] at this
   exact this
  ·exact q
 obtain ⟨g,hg,F⟩:=this
 obtain ⟨x,Y,rfl⟩:=List.getElem_of_mem hg
 obtain ⟨j,E,rfl⟩:=List.getElem_of_mem F
 have G:=b x Y
 rw [bS Y] at G
 have l:=(G.2 j E).2
 rw [bS E] at l
 rw [l]
 exact (O _ (bE (show x<dss.length by omega))).2.mem (bE (by rw [← G.1]; exact E))
theorem rt {gs:List aM}{o:aM}{dss:List (List Int)}(u:PO gs o)(m:gs.length=dss.length)(D:∀ ds∈dss,eG ds) :
  (∃ s,oQ gs o dss s∧Z2 gs o dss=some (s.1,s.1.map (lk s.2),true))∨((∀ s,¬ oQ gs o dss s)∧∃ e,Z2 gs o dss=some e∧e.2.2=false):=by
 obtain ⟨p1,g,l,q⟩:=u
 have r:=pI (mD q) g.2
 have F:=g.1
 unfold Z2
 rw [if_pos (by omega),v6 g.2]
 rcases tu p1 l m (s:=(o,List.replicate 26 0)) g.1 r with ⟨s,a,b,a3,a4⟩|⟨a,e,b,a3⟩
 ·have B:=nQ ⟨p1,g,l,q⟩ m D a
  simp only at b
  rw [b]
  simp only [Option.bind_some,Z2_J11]
  rcases xF (ls:=s.1.map (lk s.2)) (by simp; omega) B.d with ⟨j,i⟩|⟨j,e,i,E⟩
  ·rw [i]
   exact .inl ⟨s,⟨a,j⟩,rfl⟩
  ·rw [i]
   refine .inr ⟨fun s' h=>?_,e,rfl,E⟩
   have:=h.1
   rw [a] at this; cases this
   exact j h.2
 ·simp only at b
  rw [b]
  refine .inr ⟨fun s' h=>?_,e,rfl,a3⟩
  have:=h.1
  rw [a] at this; cases this
theorem tz {f:aM}{dss:List (List Int)}(hb:f.length≤1048576)(hd:∀ ds∈dss,eG ds) :
  ((parts f).2.2=true∧(parts f).1.length=dss.length∧∃ s,oQ (parts f).1 (parts f).2.1 dss s∧eG ((s.1.map (lk s.2)).take (parts f).2.1.length)∧∃ r,Z3 f dss=some (r,true)∧r.dims=(s.1.map (lk s.2)).take (parts f).2.1.length) ∨
  (¬ ((parts f).2.2=true∧(parts f).1.length=dss.length∧∃ s,oQ (parts f).1 (parts f).2.1 dss s∧eG ((s.1.map (lk s.2)).take (parts f).2.1.length))∧∃ r,Z3 f dss=some (r,false)):=by
 obtain ⟨b,D⟩:∃ b,b=parts f:=⟨_,rfl⟩
 have L:b.2.2=true→PO b.1 b.2.1:=by
  rw [D]; unfold parts
  split
  ·intro h; cases h
  ·split
   ·intro _; assumption
   ·intro h; cases h
 unfold Z3
 rw [u' hb,← D]
 simp only [Option.bind_some]
 by_cases a:b.2.2=true∧b.1.length=dss.length
 ·obtain ⟨a,E⟩:=a
  rw [if_neg (by simp [a,E])]
  have hP:=L a
  obtain ⟨p1,T,G,p4⟩:=hP
  have hs:=pI (mD p4) T.2
  rcases xC (gs:=b.1) (b:=b) (dss:=dss) rfl p1 G E (s:=(b.2.1,List.replicate 26 0)) T.1 rfl with ⟨s,u,B,a3,a4⟩|⟨u,e,B,a3⟩
  ·have m:=nQ ⟨p1,T,G,p4⟩ E hd u
   simp only at B
   rw [B]
   simp only [Option.bind_some,Z3_J7]
   rcases xG (f:=s.1) (lens:=s.2) (by omega) m.i.c m.d with ⟨I,J⟩|⟨I,e,J,w3⟩
   ·rw [J]
    simp only [Option.bind_some,Z3_J8]
    obtain ⟨t,ht⟩:=m.p
    have a0:b.2.1.length≤(s.1.map (lk s.2)).length:=by rw [ht]; simp
    have Z:(s.1.map (lk s.2)).length≤42:=by simpa using m.l
    rw [if_pos (by omega),kM,hB (by simp; omega)]
    simp only [Option.bind_some]
    rw [gV (by simp only [List.length_take]; unfold b'; omega)]
    simp only [Option.bind_some]
    by_cases c3:eG ((s.1.map (lk s.2)).take b.2.1.length)
    ·rw [decide_eq_true c3,if_neg (by simp)]
     refine .inl ⟨a,E,s,⟨u,I⟩,c3,?_⟩
     obtain ⟨r,h1,_⟩:=hY (f:=fun z:List (List Int)×Int=>Z3_L4 dss b s.1 (s.1.map (lk s.2)) ((s.1.map (lk s.2)).take b.2.1.length) z.1 z.2) (fun j z=>z.1.length=j∧z.2=(j:Int)) b.1.length (Post:=fun _=>True)
      (fun j z U F=>by
       obtain ⟨x,i⟩:=z
       obtain ⟨h1,rfl⟩:=F
       dsimp only at h1
       simp only [Z3_L4]
       have M:=hd _ (bE (show j<dss.length by omega))
       rw [if_pos (by simp; omega),if_pos (by omega),if_pos (by omega),nD M]
       simp only [Option.bind_some]
       have a5:=(m.g j U).1
       have Y:=(G _ (bE U)).1
       obtain ⟨q,O⟩:=ng (f:=(⟨b.1,b.2.1,s.1,s.1.map (lk s.2),(s.1.map (lk s.2)).take b.2.1.length,x,[]⟩:form)) (g:=ix b.1 (j:Int)) (p:=eK (ix dss (j:Int))) (by have:=m.l; show s.1.length≤100; omega) (by rw [dH]; omega) (by rw [dH]; omega)
       rw [O]
       simp only [Option.bind_some]
       rw [if_pos (by simp; omega),bW (by unfold b'; omega)]
       exact ⟨_,rfl,by simp; omega,rfl⟩)
      (fun z F=>by
       obtain ⟨x,i⟩:=z
       obtain ⟨h1,rfl⟩:=F
       simp only [Z3_L4]
       rw [if_neg (by simp)]
       exact ⟨_,rfl,trivial⟩)
      (s:=([],0)) ⟨rfl,rfl⟩
     rw [h1]
     simp only [Option.bind_some,Z3_J9]
     rw [nD c3]
     simp only [Option.bind_some]
     obtain ⟨q,O⟩:=ng (f:=(⟨b.1,b.2.1,s.1,s.1.map (lk s.2),(s.1.map (lk s.2)).take b.2.1.length,r,[]⟩:form)) (g:=b.2.1) (p:=eK ((s.1.map (lk s.2)).take b.2.1.length)) (by have:=m.l; show s.1.length≤100; omega) (by rw [dH]; simp only [List.length_take]; omega) (by rw [dH]; simp only [List.length_take]; omega)
     rw [O]
     exact ⟨_,rfl,rfl⟩
    ·rw [decide_eq_false c3,if_pos (by simp)]
     refine .inr ⟨?_,_,rfl⟩
     rintro ⟨_,_,s',h1,h2⟩
     have:=h1.1
     rw [u] at this; cases this
     exact c3 h2
   ·rw [J]
    obtain ⟨e1,e2⟩:=e
    simp only at w3; subst w3
    refine .inr ⟨?_,_,rfl⟩
    rintro ⟨_,_,s',h1,h2⟩
    have:=h1.1
    rw [u] at this; cases this
    exact I h1.2
  ·simp only at B
   rw [B]
   obtain ⟨e1,e2⟩:=e
   simp only at a3; subst a3
   refine .inr ⟨?_,_,rfl⟩
   rintro ⟨_,_,s',h1,h2⟩
   have:=h1.1
   rw [u] at this; cases this
 ·rw [if_pos]
  ·exact .inr ⟨fun z=>a ⟨z.1,z.2.1⟩,_,rfl⟩
  ·cases q:b.2.2
   ·rfl
   ·have:b.1.length≠dss.length:=fun z=>a ⟨q,z⟩
    simp; omega
theorem tA {g f:aM}{vs:List Int}(M:g.length≤6)(J:f.length≤42)(L:vs.length=f.length)(I:f.Nodup)(G:∀ c∈g,c∈f):Zg g f vs=some (g.map fun c=>ix vs ((f.idxOf c:Nat):Int)):=by
 unfold Zg
 rw [eC (f:=fun s:List Int×Int=>Zg_L1 g f vs s.1 s.2) (r:=g.map fun c=>ix vs ((f.idxOf c:Nat):Int)) (fun i=>((g.take i).map fun c=>ix vs ((f.idxOf c:Nat):Int),(i:Int))) g.length
  (fun i u=>by
   obtain ⟨c,l⟩:∃ c,c=g[i]:=⟨_,rfl⟩
   have j:ix g (i:Int)=c:=by rw [bS u,l]
   have B:c∈f:=G c (by rw [l]; exact List.getElem_mem u)
   have D:f.idxOf c<f.length:=List.idxOf_lt_length_iff.2 B
   obtain ⟨h,b⟩:∃ h,h=(g.take i).map fun c=>ix vs ((f.idxOf c:Nat):Int):=⟨_,rfl⟩
   have F:h.length≤6:=by rw [b]; simp; omega
   simp only [Zg_L1]
   rw [if_pos (by simp; omega),← b]
   rw [eC (f:=fun s:List Int×Int=>Zg_L2 g f vs (i:Int) s.1 s.2) (r:=h++[ix vs ((f.idxOf c:Nat):Int)]) (fun k=>(h++(if f.idxOf c<k then [ix vs ((f.idxOf c:Nat):Int)] else []),(k:Int))) f.length
    (fun k E=>by
     have m:(bt f (k:Int)==bt g (i:Int))=decide (f[k]=c):=by
      rw [show bt f (k:Int)=((ix f (k:Int)).toNat:Int) from rfl,show bt g (i:Int)=((ix g (i:Int)).toNat:Int) from rfl,kP,j,bS E]
     have a:f[k]=c↔f.idxOf c=k:=by
      constructor
      ·intro e
       rw [← e]
       exact I.idxOf_getElem k E
      ·intro e; subst e; exact List.getElem_idxOf D
     simp only [Zg_L2,Zg_J5]
     rw [if_pos (by simp; omega),if_pos (by omega),if_pos (by omega),m,bW (by unfold b'; omega)]
     by_cases q:f.idxOf c=k
     ·rw [if_pos (decide_eq_true (a.2 q)),if_pos (by omega),if_neg (show ¬ f.idxOf c<k by omega),if_pos (show f.idxOf c<k+1 by omega),List.append_nil,if_pos (by simp; omega),q]
     ·rw [if_neg (by simpa using fun z=>q (a.1 z))]
      by_cases r:f.idxOf c<k
      ·rw [if_pos r,if_pos (by omega)]
      ·rw [if_neg r,if_neg (by omega)])
    (by simp only [Zg_L2]; rw [if_neg (by simp),if_pos D])
    (s:=(h,0)) (by simp)]
   simp only [Option.bind_some,Zg_J6]
   rw [bW (by unfold b'; omega),List.take_succ_eq_append_getElem u,List.map_append,← b,← l]
   rfl)
  (by simp only [Zg_L1]; rw [if_neg (by simp),List.take_length])
  (s:=([],0)) rfl]
 rfl
theorem zX {ds is:List Int}(h:IV ds is){j:Nat}(a:j<ds.length):0≤ix is (j:Int)∧ix is (j:Int)<ix ds (j:Int):=by
 induction ds generalizing is j with
 | nil=>simp at a
 | cons d ds ih=>cases is with
  | nil=>exact h.elim
  | cons i is =>
   cases j with
   | zero=>simpa [ix] using h.1
   | succ j =>
    have:=ih h.2 (j:=j) (by simpa using a)
    simpa [ix] using this
theorem zY {ds is:List Int}(a:is.length=ds.length)(h:∀ j:Nat,j<ds.length→0≤ix is (j:Int)∧ix is (j:Int)<ix ds (j:Int)):IV ds is:=by
 induction ds generalizing is with
 | nil=>cases is with
  | nil=>trivial
  | cons=>simp at a
 | cons d ds ih=>cases is with
  | nil=>simp at a
  | cons i is =>
   refine ⟨by simpa [ix] using h 0 (by simp),ih (by simpa using a) fun j b=>?_⟩
   have:=h (j+1) (by simpa using b)
   simpa [ix] using this
theorem mE {ls:List Int}(h:∀ d∈ls,1≤d)(k:Nat):1≤pr (ls.take k)∧pr (ls.take k)≤pr ls:=by
 have h2:1≤pr (ls.drop k):=fE fun d a=>h d (List.mem_of_mem_drop a)
 have b:1≤pr (ls.take k):=fE fun d a=>h d (List.mem_of_mem_take a)
 exact ⟨b,by rw [gK ls k]; exact iI (by omega) h2⟩
def tB (f:aM)(dss:List (List Int))(s:aM×List Int):Prop:=(parts f).2.2=true∧(parts f).1.length=dss.length∧oQ (parts f).1 (parts f).2.1 dss s∧eG ((s.1.map (lk s.2)).take (parts f).2.1.length)
theorem pJ {f:aM}{D:List Tensor}(hb:f.length≤1048576)(ht:∀ t∈D,TT t)(hn:D.length≤6) :
  (∃ s,tB f (D.map Tensor.Dims) s∧∃ d,Z6 f D=some ⟨(s.1.map (lk s.2)).take (parts f).2.1.length,d⟩∧TOk ((s.1.map (lk s.2)).take (parts f).2.1.length) d)∨((¬ ∃ s,tB f (D.map Tensor.Dims) s)∧Z6 f D=some ⟨[],[]⟩):=by
 obtain ⟨dss,B⟩:∃ dss,dss=D.map Tensor.Dims:=⟨_,rfl⟩
 have hd:∀ ds∈dss,eG ds:=by
  intro ds h
  rw [B] at h
  obtain ⟨t,h1,rfl⟩:=List.mem_map.1 h
  exact (ht t h1).d
 have ah:dss.length=D.length:=by rw [B]; simp
 rw [← B]
 unfold tB
 obtain ⟨b,a0⟩:∃ b,b=parts f:=⟨_,rfl⟩
 have a8:b.2.2=true→PO b.1 b.2.1:=by
  rw [a0]; unfold parts
  split
  ·intro h; cases h
  ·split
   ·intro _; assumption
   ·intro h; cases h
 unfold Z6
 rw [uY hb,← a0]
 simp only [Option.bind_some]
 by_cases L:b.2.2=true∧b.1.length=dss.length
 ·obtain ⟨L,c2⟩:=L
  rw [if_neg (by simp [L]; omega)]
  have hP:=a8 L
  have ab:=hP
  obtain ⟨p1,p2,p3,p4⟩:=ab
  have L1:aR (fun s:List (List Int)×Int=>Z6_L1 D s.1 s.2) ([],0)=some (Sum.inr dss):=by
   refine eC (f:=fun s:List (List Int)×Int=>Z6_L1 D s.1 s.2) (fun k=>((D.take k).map Tensor.Dims,(k:Int))) D.length (fun k G=>?_) ?_ rfl
   ·simp only [Z6_L1]
    rw [if_pos (by simp; omega),if_pos (by omega),px (ht _ (bE G))]
    simp only [Option.bind_some]
    rw [if_neg (by simp),if_pos (by simp; omega),bW (by unfold b'; omega),List.take_succ_eq_append_getElem G,List.map_append,bS G]
    rfl
   ·simp only [Z6_L1]
    rw [if_neg (by simp),List.take_length,← B]
  rw [L1]
  simp only [Option.bind_some,Z6_J1]
  rcases rt hP c2 hd with ⟨s,h1,h2⟩|⟨h1,e,h2,h3⟩
  ·rw [h2]
   simp only [Option.bind_some]
   have hL:=nQ hP c2 hd h1.1
   obtain ⟨ls,E⟩:∃ ls,ls=s.1.map (lk s.2):=⟨_,rfl⟩
   have U:ls.length=s.1.length:=by rw [E]; simp
   have Z:=hL.l
   have I:=hL.d
   obtain ⟨t,Y⟩:=hL.p
   have ac:b.2.1.length≤ls.length:=by rw [U,Y]; simp
   have a5:=h1.2
   rw [← E] at a5 I ⊢
   have J:∀ d∈ls,1≤d:=fun d h=>(I d h).1
   rw [if_pos (fun _=>by omega)]
   simp only [bQ,Bool.not_true,Bool.not_false,cond_true,Bool.false_or]
   rw [kM,gB (by simp only [List.length_take]; unfold b'; omega)]
   simp only [Option.bind_some]
   obtain ⟨a,F⟩:∃ a,a=ls.take b.2.1.length:=⟨_,rfl⟩
   rw [← F]
   by_cases c3:eG a
   ·rw [decide_eq_true c3,if_neg (by simp),if_pos (by omega),kH c3]
    simp only [Option.bind_some]
    refine .inl ⟨s,⟨L,c2,h1,by rw [← E,← F]; exact c3⟩,?_⟩
    rw [← E,← F]
    have L2:aR (fun z:Int×Int=>Z6_L2 (s.1,ls,true) z.1 z.2) (1,0)=some (pr ls):=by
     refine eC (f:=fun z:Int×Int=>Z6_L2 (s.1,ls,true) z.1 z.2) (fun k=>(pr (ls.take k),(k:Int))) ls.length (fun k G=>?_) ?_ (by simp [pr])
     ·have a1:=mE J k
      have a2:=mE J (k+1)
      have a3:=I _ (bE G)
      simp only [Z6_L2]
      rw [if_pos (by simp; omega),if_pos (by omega),iz (by omega) (by omega) (by omega) (by omega),bW (by unfold b'; omega),qK G]
     ·simp only [Z6_L2]
      rw [if_neg (by simp),List.take_length]
    rw [L2]
    simp only [Option.bind_some,Z6_J2]
    have ai:=fE J
    have ae:=c3.2.pos
    obtain ⟨r,q1,q2⟩:=kK (f:=fun z:List Int×Int=>Z6_L3 D b (s.1,ls,true) ⟨a,List.replicate (pr a).toNat 0⟩ (pr ls) z.1 z.2) (Post:=fun r=>RG (pr a).toNat r) (pr a).toNat (pr ls).toNat
     (fun j hj x hx=>by
      have ag:(j:Int)<pr ls:=by omega
      simp only [Z6_L3]
      rw [if_pos (by simp; omega),v2 (by omega) I (by omega) (by omega)]
      simp only [Option.bind_some]
      have hI:=gX J (j:Int)
      obtain ⟨vs,a9⟩:∃ vs,vs=gW ls (j:Int):=⟨_,rfl⟩
      rw [← a9] at hI ⊢
      have aj:=hI.len
      obtain ⟨p,g1,_⟩:=hY (f:=fun z:Int×Int=>Z6_L4 D b (s.1,ls,true) vs z.1 z.2) (fun k z=>z.2=(k:Int)) b.1.length (Post:=fun _=>True)
       (fun k z G hz=>by
        obtain ⟨y,i⟩:=z
        dsimp only at hz; subst hz
        simp only [Z6_L4]
        have T:k<D.length:=by omega
        obtain ⟨e1,e2⟩:=hL.g k G
        have aa:ix dss (k:Int)=(ix D (k:Int)).Dims:=by rw [B,bS (by simpa using T),bS T]; simp
        have a7:=p3 _ (bE G)
        rw [if_pos (by simp; omega),if_pos (by omega),if_pos (by omega),tA a7.1 Z (by omega) hL.i.n (fun c hc=>by
         obtain ⟨m,hm,rfl⟩:=List.getElem_of_mem hc
         have:=(e2 m hm).1
         rwa [bS hm] at this)]
        simp only [Option.bind_some]
        obtain ⟨w,w1,_⟩:=n6 (ht _ (bE T)) (is:=(ix b.1 (k:Int)).map fun c=>ix vs ((s.1.idxOf c:Nat):Int)) (by
         rw [← aa]
         refine zY (by simp [e1]) fun m hm=>?_
         have O:m<(ix b.1 (k:Int)).length:=by omega
         obtain ⟨f1,f2⟩:=e2 m O
         have hp:s.1.idxOf (ix (ix b.1 (k:Int)) (m:Int))<s.1.length:=List.idxOf_lt_length_iff.2 f1
         have hv:=zX hI (j:=s.1.idxOf (ix (ix b.1 (k:Int)) (m:Int))) (by omega)
         have a4:ix ((ix b.1 (k:Int)).map fun c=>ix vs ((s.1.idxOf c:Nat):Int)) (m:Int)=ix vs ((s.1.idxOf (ix (ix b.1 (k:Int)) (m:Int)):Nat):Int):=by
          rw [bS (by simpa using O),List.getElem_map,bS (xs:=ix b.1 (k:Int)) O]
         have a6:ix ls ((s.1.idxOf (ix (ix b.1 (k:Int)) (m:Int)):Nat):Int)=ix (ix dss (k:Int)) (m:Int):=by
          rw [E,pH hp,List.getElem_idxOf hp,f2]
         rw [a4,← a6]
         exact hv)
        rw [w1]
        simp only [Option.bind_some]
        obtain ⟨u,u1,_⟩:=lY y w
        rw [u1]
        exact ⟨_,rfl,by rw [bW (by unfold b'; omega)]⟩)
       (fun z hz=>by
        obtain ⟨y,i⟩:=z
        dsimp only at hz; subst hz
        simp only [Z6_L4]
        rw [if_neg (by simp)]
        exact ⟨_,rfl,trivial⟩)
       (s:=(1,0)) rfl
      rw [g1]
      simp only [Option.bind_some,Z6_J4]
      have M:=qx hI b.2.1.length
      rw [← F] at M
      have ak:=mx c3.2.1 M
      rw [if_pos (by omega),kM,nC c3 M]
      simp only [Option.bind_some,List.length_replicate]
      rw [if_pos (by omega)]
      obtain ⟨u,u1,u2⟩:=nI (ix x (lV a (vs.take b.2.1.length))) p
      rw [u1]
      exact ⟨_,by rw [bW (by unfold b'; omega)]; rfl,hx.set u2 _⟩)
     (fun x hx=>by
      simp only [Z6_L3]
      rw [if_neg (by simp; omega)]
      exact ⟨_,rfl,hx⟩)
     (x:=List.replicate (pr a).toNat 0) (RG.rep _)
    rw [q1]
    exact ⟨r,rfl,gY c3 q2⟩
   ·rw [decide_eq_false c3,if_pos (by simp)]
    refine .inr ⟨?_,rfl⟩
    rintro ⟨s',_,_,g1,g2⟩
    have:=g1.1
    rw [h1.1] at this; cases this
    rw [← E,← F] at g2
    exact c3 g2
  ·rw [h2]
   obtain ⟨e1,e2,e3⟩:=e
   dsimp only at h3; subst h3
   simp only [Option.bind_some]
   rw [if_pos (fun z=>by simp at z)]
   simp only [bQ,Bool.not_true,Bool.not_false,cond_false,Option.bind_some,Bool.true_or,if_true]
   exact .inr ⟨fun ⟨s,_,_,z,_⟩=>h1 s z,trivial⟩
 ·rw [if_pos]
  ·exact .inr ⟨fun ⟨s,z1,z2,_⟩=>L ⟨z1,z2⟩,rfl⟩
  ·cases q:b.2.2
   ·rfl
   ·have:b.1.length≠dss.length:=fun z=>L ⟨q,z⟩
    simp; omega
theorem ru {f:aM}(h:(parts f).2.2=true):1≤(parts f).1.length∧(parts f).1.length≤6:=by
 unfold parts at h ⊢
 split
 ·rename_i e; rw [e] at h; cases h
 ·rename_i p e
  rw [e] at h
  simp only at h ⊢
  by_cases c:PO (fM p.1) p.2
  ·rw [if_pos c]
   refine ⟨?_,c.1⟩
   have:=l9 p.1
   cases q:fM p.1 with
   | nil=>exact absurd q this
   | cons=>simp
  ·rw [if_neg c] at h; cases h
theorem sh5 (b i j s n args):bO ⟨5,b,i,j,s⟩ n args=Z2v ⟨⟩ n args:=rfl
theorem v7 {n:Node}{e:List Tensor}(F:Caps n e)(g:n.Op=11):oP n e (Zf n (e.map Tensor.Dims)):=by
 have Z:nM n e.length→∀ t∈(n.Args.map fun a=>ix e a),TT t:=jR F
 have U:∀ A:List Tensor,(∀ t∈A,TT t)→∃ r j,bO ⟨5,false,0,0,[]⟩ n (A.map Tensor.Dims)=some (r,j)∧(j=true→∃ s,tB n.Form (A.map Tensor.Dims) s∧r=(s.1.map (lk s.2)).take (parts n.Form).2.1.length)∧(j=false→¬ ∃ s,tB n.Form (A.map Tensor.Dims) s):=by
  intro A q
  rw [sh5]
  unfold Z2v
  rcases tz (f:=n.Form) (dss:=A.map Tensor.Dims) F.f (fun ds h=>by
   obtain ⟨t,h1,rfl⟩:=List.mem_map.1 h
   exact (q t h1).d) with ⟨q1,q2,s,q3,q4,r,q5,q6⟩|⟨q1,r,q2⟩
  ·rw [q5]
   exact ⟨_,_,rfl,fun _=>⟨s,⟨q1,q2,q3,q4⟩,q6⟩,fun h=>by cases h⟩
  ·rw [q2]
   exact ⟨_,_,rfl,(fun h=>by cases h),fun _=>fun ⟨s,a,b,c,d⟩=>q1 ⟨a,b,s,c,d⟩⟩
 refine mB F (kd:=⟨5,false,0,0,[]⟩) (u:=ka) (fb:=decide (FM n 1 6 false 0 0)) (by rw [g]; rfl) rfl rfl (kN n ka false false true false xj xk xl xm) (gL (by omega) (by omega) (by rw [g]; rfl) (by rw [g]; rfl) (by rw [g]; rfl) (by rw [g]; rfl) ⟨by omega,by omega⟩) ?_ ?_ ?_
 ·intro B
  obtain ⟨f1,f2,f3,f4,T,f6,f7⟩:=of_decide_eq_true B
  have g3:n.Dims=[]:=f3.resolve_left (by simp)
  have g5:n.Data=[]:=T.resolve_left (by omega)
  have g6:n.Ints=[]:=List.eq_nil_of_length_eq_zero (by omega)
  exact ⟨by rw [g3,g5,g6]; rfl,by omega⟩
 ·intro E hw B
  obtain ⟨r,j,G,I,M⟩:=U _ (Z hw)
  cases j with
  | false=>exact ⟨r,G⟩
  | true =>
   obtain ⟨s,⟨m,D,_⟩,_⟩:=I rfl
   have O:=ru m
   refine absurd ?_ (of_decide_eq_false B)
   simp only [Bool.false_or,Bool.true_or,Bool.and_true,Bool.and_eq_true,kO,beq_iff_eq] at E
   have J:((n.Args.map fun a=>ix e a).map Tensor.Dims).length=n.Args.length:=by simp
   rw [J] at D
   exact ⟨by omega,by omega,.inr E.1.1,.inl g,.inr E.2,by omega,by rw [E.1.2]; decide⟩
 ·intro B hw
  obtain ⟨f1,f2,f3,f4,T,f6,f7⟩:=of_decide_eq_true B
  have q:=Z hw
  obtain ⟨A,l⟩:∃ A,A=n.Args.map fun a=>ix e a:=⟨_,rfl⟩
  have i:Do n e=(Z6 n.Form A).bind fun r=>some r:=by
   unfold Do Z1
   rw [if_neg (by omega),← l]
   simp only [Z1_J1,Z1_J2,g]
   simp only [Int.reduceBEq,Bool.false_eq_true,if_false,if_true,beq_self_eq_true]
  have O:A.length≤6:=by rw [l]; simp; omega
  rw [← l] at q ⊢
  obtain ⟨r,j,G,I,M⟩:=U A q
  rcases pJ F.f q O with ⟨s,m,d,D,c3⟩|⟨m,D⟩
  ·rw [D] at i
   cases j with
   | false=>exact absurd ⟨s,m⟩ (M rfl)
   | true =>
    obtain ⟨s',k1,k2⟩:=I rfl
    have L:s'=s:=by
     have Y:=k1.2.2.1.1
     rw [m.2.2.1.1] at Y
     exact (Option.some.inj Y).symm
    subst L
    exact ⟨⟨_,d⟩,.inl ⟨by rw [G,k2],i,c3⟩⟩
  ·rw [D] at i
   cases j with
   | false=>exact ⟨⟨[],[]⟩,.inr ⟨r,G,i⟩⟩
   | true=>obtain ⟨s',k1,_⟩:=I rfl; exact absurd ⟨s',k1⟩ m
theorem tC {n:Node}{i:List Tensor}(g:Caps n i):oP n i (Zf n (i.map Tensor.Dims)):=by
 by_cases h:1≤n.Op∧n.Op≤19
 ·by_cases h1:n.Op=1
  ·exact tc g h1
  by_cases h2:n.Op=2
  ·exact te g h2
  by_cases h3:n.Op≤5
  ·exact uN g (by omega) h3
  by_cases h4:n.Op≤9
  ·exact uO g ⟨by omega,h4⟩
  have:n.Op=10∨n.Op=11∨n.Op=12∨n.Op=13∨n.Op=14∨n.Op=15∨n.Op=16∨n.Op=17∨n.Op=18∨n.Op=19:=by omega
  rcases this with q | q | q | q | q | q | q | q | q | q
  ·exact xt g q
  ·exact v7 g q
  ·exact rn g q
  ·exact pC g q
  ·exact tg g q
  ·exact xy g q
  ·exact rq g q
  ·exact pD g q
  ·exact rp g q
  ·exact uT g q
 ·have e:∀ k:Int,1≤k→k≤19→(n.Op==k)=false:=fun k a b=>by simp; omega
  have j:Zz n.Op=some ⟨0,false,0,0,[]⟩:=by
   unfold Zz Zz_J1 Zz_J2 Zz_J3
   simp only [e 1 (by omega) (by omega),e 2 (by omega) (by omega),e 3 (by omega) (by omega),e 4 (by omega) (by omega),e 5 (by omega) (by omega),e 6 (by omega) (by omega),e 7 (by omega) (by omega),e 8 (by omega) (by omega),e 9 (by omega) (by omega),e 10 (by omega) (by omega),e 11 (by omega) (by omega),e 12 (by omega) (by omega),e 13 (by omega) (by omega),e 14 (by omega) (by omega),e 15 (by omega) (by omega),e 16 (by omega) (by omega),e 17 (by omega) (by omega),e 18 (by omega) (by omega),e 19 (by omega) (by omega),Bool.false_eq_true,if_false]
  refine .inr ⟨[],?_,.inl ?_⟩
  ·unfold Zf
   rw [j]
   rfl
  ·unfold Z10
   rw [if_pos (by simp; omega)]
structure GC (g:Graph):Prop where
 n:g.Nodes.length<b'
 o:g.Outs.length<b'
 a:∀ n∈g.Nodes,n.Args.length<b'
 d:∀ n∈g.Nodes,n.Dims.length<b'
 i:∀ n∈g.Nodes,n.Ints.length<b'
 x:∀ n∈g.Nodes,n.Data.length<b'
 f:∀ n∈g.Nodes,n.Form.length≤1048576
def Al (g:Graph)(k:Nat)(a:List Tensor):Prop:=∀ j:Nat,j<k→Z10 (ix g.Nodes (j:Int))=some true∧nM (ix g.Nodes (j:Int)) j∧Do (ix g.Nodes (j:Int)) (a.take j)=some (ix a (j:Int))
theorem xH {g:Graph}{b:List Tensor}{k:Nat}(h:k<g.Nodes.length)(l:b.length≤200)(i:(ix g.Nodes (k:Int)).Args.length≤100)(hw:nM (ix g.Nodes (k:Int)) b.length) :
  aR (fun s:List Tensor×Int=>Za_L2 g b (k:Int) s.1 s.2) ([],0)=some ((ix g.Nodes (k:Int)).Args.map fun a=>ix b a):=by
 refine eC (f:=fun s:List Tensor×Int=>Za_L2 g b (k:Int) s.1 s.2) (fun j=>(((ix g.Nodes (k:Int)).Args.take j).map fun a=>ix b a,(j:Int))) (ix g.Nodes (k:Int)).Args.length (fun j e=>?_) ?_ rfl
 ·have m:=hw _ (bE e)
  simp only [Za_L2]
  rw [if_pos (by simp; omega),if_pos (by omega),if_pos (by omega),if_pos (by simp; omega),bW (by unfold b'; omega),List.take_succ_eq_append_getElem e,List.map_append,bS e]
  rfl
 ·simp only [Za_L2]
  rw [if_neg (by simp),List.take_length]
theorem lc {n:Node}(h:Z10 n=some true):n.Args.length≤6:=by
 unfold Z10 at h
 split at h
 ·cases h
 ·obtain ⟨r,h1,h⟩:=bd h
  have a:r.2≤6:=by
   unfold Z2l at h1
   repeat' split at h1
   all_goals (cases h1; decide)
  split at h
  ·cases h
  ·rename_i q
   simp only [Bool.or_eq_true,decide_eq_true_eq,not_or] at q
   omega
theorem tD {g:Graph}{ins:List Tensor}{a:List Tensor}{k:Nat}{t:Tensor}(i:k<g.Nodes.length)(j:a.length=k)(m:g.Nodes.length≤200)(h:Z10 (ix g.Nodes (k:Int))=some true)(hw:nM (ix g.Nodes (k:Int)) a.length)(b:Do (ix g.Nodes (k:Int)) a=some t) :
  Za_L1 g ins true a 0 (k:Int)=Za_J4 a (k:Int) 0 t.Dims t.Data:=by
 have q:=lc h
 simp only [Za_L1]
 rw [if_pos (by simp; omega),if_pos (by omega),h]
 simp only [Option.bind_some,bQ,Bool.not_true,Bool.not_false,cond_true,Bool.false_or]
 rw [jQ (by unfold b'; omega)]
 have e:∀ x∈(ix g.Nodes (k:Int)).Args,0≤x∧x<(k:Int):=by
  intro x l
  have:=hw x l
  rwa [j] at this
 simp only [Option.bind_some]
 rw [decide_eq_true e,if_neg (by simp),xH i (by omega) (by omega) hw]
 simp only [Option.bind_some,Za_J3]
 unfold Do at b
 by_cases c:(ix g.Nodes (k:Int)).Op=1
 ·rw [if_pos c] at b
  rw [if_neg (by simp [c]),if_pos trivial,b]
  rfl
 ·rw [if_neg c] at b
  rw [if_pos (by simp [c]),b]
  rfl
theorem oR {g:Graph}{ins:List Tensor}(B:GC g)(M:g.Nodes.length≤200):∀ (m k:Nat) (h:List Tensor),k+m=g.Nodes.length→h.length=k→(∀ t∈h,TT t)→Al g k h →
  (∃ q,aR (fun s:List Tensor×Int×Int=>Za_L1 g ins true s.1 s.2.1 s.2.2) (h,0,(k:Int))=some (.inr (q,0))∧aR (fun s:List (List Int)×Int=>Zk_L1 g s.1 s.2) (h.map Tensor.Dims,(k:Int))=some (.inr (q.map Tensor.Dims))∧q.length=g.Nodes.length∧(∀ t∈q,TT t)∧Al g g.Nodes.length q) ∨
  ((∃ e,aR (fun s:List Tensor×Int×Int=>Za_L1 g ins true s.1 s.2.1 s.2.2) (h,0,(k:Int))=some (.inl e)∧e.2=false)∧∃ e,aR (fun s:List (List Int)×Int=>Zk_L1 g s.1 s.2) (h.map Tensor.Dims,(k:Int))=some (.inl e)∧e.2=false)
 | 0,k,h,I,ho,ht,hr=>by
  have I:k=g.Nodes.length:=by omega
  subst I
  refine .inl ⟨h,cR ?_,cR ?_,ho,ht,hr⟩
  ·simp only [Za_L1]; rw [if_neg (by simp)]
  ·simp only [Zk_L1]; rw [if_neg (by simp)]
 | m+1,k,h,I,ho,ht,hr=>by
  have r:k<g.Nodes.length:=by omega
  have D:=bE r
  have Z:Caps (ix g.Nodes (k:Int)) h:=⟨B.a _ D,B.d _ D,B.i _ D,B.x _ D,B.f _ D,by omega,ht⟩
  have Y:∀ p:List Int×Bool,Zf (ix g.Nodes (k:Int)) (h.map Tensor.Dims)=some p→Zk_L1 g (h.map Tensor.Dims) (k:Int)=if p.2=true then some (.inl (h.map Tensor.Dims++[p.1],((k+1:Nat):Int))) else some (.inr (.inl ([],false))):=by
   intro p T
   simp only [Zk_L1]
   rw [if_pos (by simp; omega),if_pos (by omega),T]
   simp only [Option.bind_some]
   cases p.2
   ·rfl
   ·rw [if_neg (by simp),if_pos (by simp; omega),bW (by unfold b'; omega)]; rfl
  rcases tC Z with ⟨t,h1,h2,G,U,J⟩|⟨ds,h1,h2⟩
  ·have O:=J.l
   have T:=J.d.2.pos
   have E:=tD (ins:=ins) r ho M h2 G U
   unfold Za_J4 at E
   rw [if_neg (by simp; intro z; rw [z] at O; simp at O; omega),if_pos (by simp; omega),bW (by unfold b'; omega)] at E
   have F:=Y _ h1
   rw [if_pos rfl] at F
   rw [dU (f:=fun s:List Tensor×Int×Int=>Za_L1 g ins true s.1 s.2.1 s.2.2) E,dU (f:=fun s:List (List Int)×Int=>Zk_L1 g s.1 s.2) F]
   have:=oR (ins:=ins) B M m (k+1) (h++[t]) (by omega) (by simp [ho]) (by
    intro u hu
    rcases List.mem_append.1 hu with z | z
    ·exact ht u z
    ·simp at z; subst z; exact J) (by
    intro j hj
    by_cases e:j<k
    ·obtain ⟨a,b,c⟩:=hr j e
     refine ⟨a,b,?_⟩
     rw [List.take_append_of_le_length (by omega),c,bS (by omega),bS (by simp; omega),List.getElem_append_left (by omega)]
    ·have e:j=k:=by omega
     subst e
     rw [ho] at G
     refine ⟨h2,G,?_⟩
     rw [List.take_append_of_le_length (by omega),List.take_of_length_le (by omega),bS (xs:=h++[t]) (by rw [List.length_append,List.length_singleton]; omega),List.getElem_append_right (by omega)]
     simpa [ho] using U)
   rw [List.map_append] at this
   exact this
  ·have F:=Y _ h1
   rw [if_neg (by simp)] at F
   refine .inr ⟨?_,_,cR F,rfl⟩
   rcases h2 with h2 | ⟨h2,G⟩
   ·refine ⟨(h,false),cR ?_,rfl⟩
    simp only [Za_L1]
    rw [if_pos (by simp; omega),if_pos (by omega),h2]
    rfl
   ·by_cases w:nM (ix g.Nodes (k:Int)) h.length
    ·have E:=tD (ins:=ins) r ho M h2 w (G w)
     exact ⟨(h,false),cR E,rfl⟩
    ·refine ⟨(h,false),cR ?_,rfl⟩
     have ha:=lc h2
     simp only [Za_L1]
     rw [if_pos (by simp; omega),if_pos (by omega),h2]
     simp only [Option.bind_some,bQ,Bool.not_true,Bool.not_false,cond_true,Bool.false_or]
     rw [jQ (by unfold b'; omega)]
     have L:¬ ∀ x∈(ix g.Nodes (k:Int)).Args,0≤x∧x<(k:Int):=by
      intro z; refine w fun x hx=>?_
      have:=z x hx
      rwa [ho]
     simp only [Option.bind_some]
     rw [decide_eq_false L,if_pos (by simp)]
theorem oS {g:Graph}(G:GC g):∃ b I B,Za g [] true=some (b,B)∧Zk g=some (I,B)∧(B=true→I=b.map Tensor.Dims∧b.length=g.Nodes.length∧(∀ t∈b,TT t)∧Al g g.Nodes.length b∧g.Nodes.length≤200∧g.Outs.length≤40∧∀ o∈g.Outs,0≤o∧o<(g.Nodes.length:Int)):=by
 unfold Za Zk
 by_cases c:g.Nodes.length≤200∧g.Outs.length≤40
 ·rw [if_neg (by simp; omega),if_neg (by simp; omega)]
  have r:∀ s:Int→Option (Int⊕(((List (List Int))×Bool)⊕Unit)),s=(fun x=>Zk_L2 g x)→aR s 0=some (if g.Outs.all (fun x=>!(decide (x<0)||decide (x≥(g.Nodes.length:Int)))) then .inr () else .inl ([],false)):=by
   rintro _ rfl
   refine eP g.Outs (fun x=>Zk_L2 g x) (fun i=>i) _ _ _ (fun j J=>?_) ?_
   ·simp only [Zk_L2]
    rw [if_pos (by simp; omega),if_pos (by omega),bW (by unfold b'; omega)]
    cases (decide (ix g.Outs (j:Int)<0)||decide (ix g.Outs (j:Int)≥(g.Nodes.length:Int)))<;>rfl
   ·simp only [Zk_L2]
    rw [if_neg (by simp)]
  have O:g.Outs.all (fun x=>!(decide (x<0)||decide (x≥(g.Nodes.length:Int))))=decide (∀ o∈g.Outs,0≤o∧o<(g.Nodes.length:Int)):=by
   rw [Bool.eq_iff_iff]
   simp only [List.all_eq_true,decide_eq_true_eq,Bool.not_eq_true',Bool.or_eq_false_iff,decide_eq_false_iff_not]
   exact ⟨fun h x F=>by have:=h x F; omega,fun h x F=>by have:=h x F; omega⟩
  have r:=r _ rfl
  rw [O] at r
  rcases oR (ins:=[]) G c.1 g.Nodes.length 0 [] (by omega) rfl (fun t h=>by simp at h) (fun j J=>absurd J (Nat.not_lt_zero _)) with ⟨l,h1,h2,E,m,M⟩|⟨⟨e,h1,h2⟩,L,E,m⟩
  ·have a:aR (fun s:List Tensor×Int×Int=>Za_L1 g [] true s.1 s.2.1 s.2.2) ([],0,0)=some (.inr (l,0)):=h1
   have D:aR (fun s:List (List Int)×Int=>Zk_L1 g s.1 s.2) ([],0)=some (.inr (l.map Tensor.Dims)):=h2
   rw [a,D]
   simp only [Option.bind_some,Za_J5,Zk_J1,Zk_J2]
   rw [jQ G.o,r]
   simp only [Option.bind_some]
   by_cases q:∀ o∈g.Outs,0≤o∧o<(g.Nodes.length:Int)
   ·rw [decide_eq_true q]
    exact ⟨_,_,_,rfl,rfl,fun _=>⟨rfl,E,m,M,c.1,c.2,q⟩⟩
   ·rw [decide_eq_false q]
    exact ⟨_,_,_,rfl,rfl,fun h=>by cases h⟩
  ·have a:aR (fun s:List Tensor×Int×Int=>Za_L1 g [] true s.1 s.2.1 s.2.2) ([],0,0)=some (.inl e):=h1
   have u:aR (fun s:List (List Int)×Int=>Zk_L1 g s.1 s.2) ([],0)=some (.inl L):=E
   rw [a,u]
   obtain ⟨Y,Z⟩:=e
   obtain ⟨T,U⟩:=L
   dsimp only at h2 m
   subst h2; subst m
   exact ⟨_,_,_,rfl,rfl,fun h=>by cases h⟩
 ·rw [if_pos (by simp; omega),if_pos (by simp; omega)]
  exact ⟨_,_,_,rfl,rfl,fun h=>by cases h⟩
def Am:Nat:=9223372036854775807
def fT (n:Nat)(a:Int):Int:=if a<(n:Int) then -1 else a - n
def mF {α:Type}(n:α→Nat)(xs:List α):Nat:=xs.length+(xs.map n).sum
theorem jv {a b:Nat}{e:Int}(g:0≤e):fT (a+b) e=if fT a e<0 then -1 else fT b (fT a e):=by
 unfold fT
 (repeat' split)<;>omega
theorem iU {a:Nat}{b:Int}(e:0≤b)(h:¬ fT a b<0):0≤fT a b∧fT a b≤b∧fT a b=b - a:=by
 unfold fT at *
 split at h<;>rename_i q
 ·exact absurd (by decide) h
 ·rw [if_neg q]; omega
theorem v8 {n:Nat}{a:Int}(b:n≤Am)(e:0≤a)(h1:a≤1048576) :
  (if (decide ((aH (a - (n:Int)))<(0:Int)))=true then (some (-1:Int)) else (some (aH (a - (n:Int)))))=some (fT n a):=by
 unfold Am at b
 rw [bC (by omega) (by omega)]
 unfold fT
 by_cases h:a<(n:Int)
 ·rw [if_pos (by simp; omega),if_pos h]
 ·rw [if_neg (by simp; omega),if_neg h]
theorem va {α:Type}[Inhabited α](xs:List α)(n:α→Nat)(G:xs.length<b')(g:α→Int→Option Int)(f:Int×Int→Option ((Int×Int)⊕(Int⊕Int)))
  (D:∀ x∈xs,∀ a:Int,0≤a→a≤1048576→g x a=some (fT (n x) a))
  (q:∀ a i,f (a,i)=if (decide (i<(xs.length:Int)))=true then (if (0≤i∧i<(xs.length:Int)) then (g (ix xs i) a).bind fun (r:Int)=>if (decide (r<(0:Int)))=true then (some (.inr (.inl (-1:Int)))) else (some (.inl (r,(aH (i+(1:Int)))))) else none) else (some (.inr (.inr a))))
  (a:Int) (u:0≤a) (h1:a≤1048576) :
  ((aR f (a,0)).bind fun e=>match e with | .inl e=>some e | .inr e=>some e)=some (fT ((xs.map n).sum) a):=by
 rw [j0 (S:=Int) xs (fun _ s=>0≤s∧s≤1048576) f (fun s i=>(s,i)) (fun s _ x=>if fT (n x) s<0 then .inr (.inl (-1)) else .inl (fT (n x) s)) (fun s=>.inr s) ?_ ?_ ?_ a ⟨u,h1⟩]
 ·rw [aY]
  clear q G
  generalize 0=k
  induction xs generalizing a k with
  | nil=>show some a=some (fT 0 a); unfold fT; rw [if_neg (by omega)]; congr 1; simp
  | cons x xs ih =>
   unfold qn
   rw [List.map_cons,List.sum_cons,jv u]
   by_cases h:fT (n x) a<0
   ·simp only [h,if_true]
   ·obtain ⟨B,F,_⟩:=iU u h
    simp only [h,if_false]
    exact ih (fun y E=>D y (by simp [E])) _ B (by omega) _
 ·rintro s k ⟨j,m⟩ l
  rw [q,if_pos (by simpa using l),if_pos (by omega),D _ (bE l) s j m,aY,bW (by omega)]
  by_cases h:fT (n (ix xs (k:Int))) s<0
  ·simp [h]
  ·simp [h]
 ·rintro s k s' ⟨j,m⟩ l b
  split at b
  ·cases b
  ·rename_i h
   obtain ⟨B,F,_⟩:=iU j h
   injection b with b
   subst b
   exact ⟨B,by omega⟩
 ·rintro s ⟨j,m⟩
  rw [q,if_neg (by simp)]
theorem vc {α:Type}[Inhabited α]{xs:List α}{n:α→Nat}{a:Int}{x:Int→Option Int}(i:xs.length≤Am)(j:0≤a)(h1:a≤1048576)(l:¬ fT xs.length a<0→x (fT xs.length a)=some (fT ((xs.map n).sum) (fT xs.length a))) :
  (if (decide ((aH (a - (xs.length:Int)))<(0:Int)))=true then (some (-1:Int)) else x (aH (a - (xs.length:Int))))=some (fT (mF n xs) a):=by
 have b:=i
 unfold Am at b
 unfold mF
 rw [jv j]
 have e:aH (a - (xs.length:Int))=a - xs.length:=bC (by omega) (by omega)
 rw [e]
 by_cases h:a<(xs.length:Int)
 ·rw [if_pos (by simp; omega),if_pos (by unfold fT; rw [if_pos h]; omega)]
 ·have g:fT xs.length a=a - xs.length:=by unfold fT; rw [if_neg h]
  rw [if_neg (by simp; omega),if_neg (by rw [g]; omega)]
  have:=l (by rw [g]; omega)
  rw [g] at this ⊢
  exact this
theorem mT {k:Nat}{n:Nat}(h:k<n):(0:Int)≤(k:Int)∧(k:Int)<(n:Int):=⟨by omega,by omega⟩
theorem vZ {k:Nat}{n:Nat}(h:k<n):(decide ((k:Int)<(n:Int)))=true:=by simpa using h
theorem oU {n:Nat}:(decide ((n:Int)<(n:Int)))=false:=by simp
theorem nR (xs ys:List Int)(h:xs.length=ys.length):((List.range xs.length).all fun k=>ix xs (k:Int)==ix ys (k:Int))=decide (xs=ys):=by
 by_cases e:xs=ys
 ·subst e; simp
 ·simp only [e,decide_false]
  rw [List.all_eq_false]
  refine Classical.byContradiction fun b=>e ?_
  refine List.ext_getElem h fun k h1 h2=>?_
  refine Classical.byContradiction fun a=>b ⟨k,by simpa using h1,?_⟩
  rw [bS h1,bS h2]
  simpa using a
theorem vd (xs ys:List Int)(h:xs.length<b'):Z02 xs ys=some (decide (xs=ys)):=by
 unfold Z02
 by_cases hl:xs.length=ys.length
 ·rw [if_neg (by simp [hl])]
  rw [j1 xs.length (fun s:Int=>Z02_L1 xs ys s) (fun i=>i) (fun k=>ix xs (k:Int)==ix ys (k:Int)) (.inl false) (.inr ()) (fun k a=>by
   unfold Z02_L1
   rw [if_pos (vZ a),if_pos (mT a),if_pos (mT (hl▸a)),bW (by omega)]
   by_cases hq:ix xs (k:Int)=ix ys (k:Int)
   ·simp [hq]
   ·simp [hq]) (by unfold Z02_L1; simp only [oU,Bool.false_eq_true,if_false])]
  rw [nR xs ys hl,aY]
  by_cases e:xs=ys<;>simp [e,Z02_J1]
 ·rw [if_pos (by simp; omega)]
  have:xs≠ys:=fun e=>hl (by rw [e])
  simp [this]
theorem oV (xs ys:List Int):Zx xs ys=Z02 xs ys:=rfl
theorem Bx {α:Type}[Inhabited α](x:Option α):bQ true x=x:=rfl
def Rg (g:List Bool)(n:Nat)(gl:List Int):Prop:=g.length=n∧∀ j:Nat,j<n→ix g (j:Int)=decide ((j:Int)∈gl)
theorem Rg.set {g:List Bool}{n:Nat}{gl:List Int}(h:Rg g n gl){b:Int}(m:0≤b)(h1:b<(n:Int)):Rg (g.set b.toNat true) n (gl++[b]):=by
 obtain ⟨i,q⟩:=h
 refine ⟨by simpa using i,fun j l=>?_⟩
 obtain ⟨c,rfl⟩:=Int.eq_ofNat_of_zero_le m
 have a:j<(g.set (c:Int).toNat true).length:=by simpa [i] using l
 rw [bS a,List.getElem_set]
 by_cases e:(c:Int).toNat=j
 ·rw [if_pos e]; have:c=j:=by omega
  subst this; simp
 ·rw [if_neg e]
  have h2:=q j l
  rw [bS (by omega)] at h2
  rw [h2]
  have:¬ (j:Int)=(c:Int):=by omega
  simp [this]
theorem mH {α T:Type}[Inhabited α](xs:List α)(z:α)(f:T→Option (T⊕List α))(mk:List α→Int→T)
  (u:∀ (ys:List α) (k:Nat),ys.length=xs.length→k<xs.length→f (mk ys (k:Int))=some (.inl (mk (ys.set k (ix xs (k:Int))) ((k+1:Nat):Int))))
  (g:∀ ys:List α,ys.length=xs.length→f (mk ys (xs.length:Int))=some (.inr ys)):aR f (mk (List.replicate (xs.length:Int).toNat z) 0)=some xs:=by
 rw [Int.toNat_natCast]
 rw [j0 (S:=List α) xs (fun _ s=>s.length=xs.length) f mk (fun s k x=>.inl (s.set k x)) (fun s=>s) (fun s k i a=>u s k i a) (fun s k s' i a h=>by injection h with h; subst h; simpa using i) g _ (by simp)]
 congr 1
 have q:∀ (m k:Nat) (ys:List α),k+m=xs.length→ys.length=xs.length→(∀ j,j<k→ys[j]?=xs[j]?)→qn (R:=List α) (fun s k x=>.inl (s.set k x)) (fun s=>s) (xs.drop k) k ys=xs:=by
  intro m
  induction m with
  | zero =>
   intro k ys a g l
   have a:k=xs.length:=by omega
   subst a
   rw [List.drop_length]
   show ys=xs
   refine List.ext_getElem? fun j=>?_
   by_cases r:j<xs.length
   ·exact l j r
   ·rw [List.getElem?_eq_none (by omega),List.getElem?_eq_none (by omega)]
  | succ m ih =>
   intro k ys a g l
   have b:k<xs.length:=by omega
   rw [List.drop_eq_getElem_cons b]
   unfold qn
   refine ih (k+1) _ (by omega) (by simpa using g) (fun j r=>?_)
   rw [List.getElem?_set]
   by_cases e:k=j
   ·subst e; rw [if_pos rfl,if_pos (by omega)]; exact (List.getElem?_eq_getElem b).symm
   ·rw [if_neg e]; exact l j (by omega)
 simpa using q xs.length 0 (List.replicate xs.length z) (by omega) (by simp) (fun j r=>by omega)
theorem xI {α:Type}{n:Nat}{z:α}{k:Nat}(h:k<n):(0:Int)≤(k:Int)∧(k:Int)<((List.replicate (n:Int).toNat z).length:Int):=by
 rw [List.length_replicate,Int.toNat_natCast]; omega
theorem nS (xs:List Int)(h:xs.length≤1048576):Zx xs xs=some true:=by
 rw [oV,vd _ _ (by unfold b'; omega)]; simp
theorem ve {α:Type}[Inhabited α](xs:List α)(f:Int→Option (Int⊕(Bool⊕Unit)))(h:xs.length≤1048576)(e:α→α→Option Bool)(g:∀ x∈xs,e x x=some true)
  (b:∀ i,f i=if (decide (i<(xs.length:Int)))=true then (if (0≤i∧i<(xs.length:Int)) then if (0≤i∧i<(xs.length:Int)) then (e (ix xs i) (ix xs i)).bind fun (r:Bool)=>if (!r)=true then (some (.inr (.inl false))) else (some (.inl (aH (i+(1:Int))))) else none else none) else (some (.inr (.inr ())))) :
  aR f 0=some (.inr ()):=by
 rw [eP xs f (fun i=>i) (fun _=>true) (.inl false) (.inr ()) (fun k a=>by
  rw [b,if_pos (vZ a),if_pos (mT a),if_pos (mT a),g _ (bE a),aY,bW (by unfold b'; omega)]; rfl) (by rw [b]; simp only [oU,Bool.false_eq_true,if_false])]
 simp
theorem mI (x:Int):(x != x)=false:=by simp
def BB:Nat:=4611686018427387904
theorem lx {α:Type}[Inhabited α]{ys:List α}{k:Nat}{v:α}(h:k<ys.length):ix (ys.set k v) (k:Int)=v:=by
 rw [bS (by simpa using h)]; simp
theorem nh {α:Type}[Inhabited α]{ys:List α}{k j:Nat}{v:α}(h:k≠j):ix (ys.set k v) (j:Int)=ix ys (j:Int):=by
 simp [ix,List.getD_eq_getElem?_getD,List.getElem?_set,h]
def lK {α:Type}(n:α→Nat)(xs:List α):Nat:=(xs.map n).sum
theorem mJ {α:Type}(n:α→Nat)(x:α)(t:List α):lK n (x::t)=n x+lK n t:=by simp [lK]
theorem tF {α:Type}(n:α→Nat){xs:List α}{k:Nat}(h:k<xs.length):lK n (xs.drop k)=n xs[k]+lK n (xs.drop (k+1)):=by
 rw [List.drop_eq_getElem_cons h,mJ]
theorem ni {α T U:Type}[Inhabited α](xs:List α)(n:α→Nat)(g:α→Nat→α)(f:T→Option (T⊕(Int×List α)))(mk:List α→Int→Int→T)
  (O:∀ (ys:List α) (k i:Nat),i<xs.length→ys.length=xs.length→ix ys (i:Int)=ix xs (i:Int)→k+n (ix xs (i:Int))≤BB→f (mk ys (k:Int) (i:Int))=some (.inl (mk (ys.set i (g (ix xs (i:Int)) k)) ((k+n (ix xs (i:Int)):Nat):Int) ((i+1:Nat):Int))))
  (M:∀ ys k,f (mk ys k (xs.length:Int))=some (.inr (k,ys))) (k:Nat) (F:k+lK n xs≤BB) :
  ∃ ys,aR f (mk xs (k:Int) 0)=some (((k+lK n xs:Nat):Int),ys)∧ys.length=xs.length ∧
   ∀ (b:U→Option (U⊕(Int⊕Int))) (a:Int→Int→U),(∀ (k i:Nat),i<xs.length→k+n (ix xs (i:Int))≤BB→ix ys (i:Int)=g (ix xs (i:Int)) k→b (a (k:Int) (i:Int))=some (.inl (a ((k+n (ix xs (i:Int)):Nat):Int) ((i+1:Nat):Int)))) →
    (∀ k,b (a k (xs.length:Int))=some (.inr (.inr k)))→aR b (a (k:Int) 0)=some (.inr ((k+lK n xs:Nat):Int)):=by
 have q:∀ (m i k:Nat) (ys:List α),i+m=xs.length→ys.length=xs.length→(∀ j,i≤j→j<xs.length→ix ys (j:Int)=ix xs (j:Int))→k+lK n (xs.drop i)≤BB →
   ∃ zs,aR f (mk ys (k:Int) (i:Int))=some (((k+lK n (xs.drop i):Nat):Int),zs)∧zs.length=xs.length∧(∀ j,j<i→ix zs (j:Int)=ix ys (j:Int)) ∧
    ∀ (b:U→Option (U⊕(Int⊕Int))) (a:Int→Int→U),(∀ (k j:Nat),i≤j→j<xs.length→k+n (ix xs (j:Int))≤BB→ix zs (j:Int)=g (ix xs (j:Int)) k→b (a (k:Int) (j:Int))=some (.inl (a ((k+n (ix xs (j:Int)):Nat):Int) ((j+1:Nat):Int)))) →
     (∀ k,b (a k (xs.length:Int))=some (.inr (.inr k)))→aR b (a (k:Int) (i:Int))=some (.inr ((k+lK n (xs.drop i):Nat):Int)):=by
  intro m
  induction m with
  | zero =>
   intro i k ys r l _ _
   have r:i=xs.length:=by omega
   subst r
   rw [List.drop_length]
   exact ⟨ys,cR (M ys k),l,fun j _=>rfl,fun b a _ h2=>cR (h2 k)⟩
  | succ m ih =>
   intro i k ys r l B hb
   have e:i<xs.length:=by omega
   have G:=tF n e
   rw [← bS e] at G
   have s:=O ys k i e l (B i (Nat.le_refl _) e) (by omega)
   obtain ⟨zs,E,L,z3,z4⟩:=ih (i+1) (k+n (ix xs (i:Int))) (ys.set i (g (ix xs (i:Int)) k)) (by omega) (by simpa using l) (fun j h1 h2=>by
    rw [nh (by omega)]; exact B j (by omega) h2) (by omega)
   have h:k+n (ix xs (i:Int))+lK n (xs.drop (i+1))=k+lK n (xs.drop i):=by omega
   rw [h] at E z4
   refine ⟨zs,by rw [dU s]; exact E,L,fun j Y=>?_,fun b a h1 h2=>?_⟩
   ·rw [z3 j (by omega),nh (by omega)]
   ·have I:ix zs (i:Int)=g (ix xs (i:Int)) k:=by rw [z3 i (by omega),lx (by omega)]
    rw [dU (h1 k i (Nat.le_refl _) e (by omega) I)]
    exact z4 b a (fun k j Z=>h1 k j (by omega)) h2
 obtain ⟨ys,u,J,_,D⟩:=q xs.length 0 k xs (by omega) rfl (fun _ _ _=>rfl) (by simpa using F)
 rw [List.drop_zero] at u D
 exact ⟨ys,u,J,fun b a h1 h2=>D b a (fun k j _=>h1 k j) h2⟩
theorem wn {k:Nat}(h:k+1≤BB):aH ((k:Int)+1)=((k+1:Nat):Int):=by
 unfold BB at h; rw [bC (by omega) (by omega)]; omega
theorem qL {α:Type}(c:Nat)(xs:List α):lK (fun _=>c) xs=c*xs.length:=by
 induction xs with
 | nil=>simp [lK]
 | cons x t ih=>rw [mJ,ih,List.length_cons,Nat.mul_succ]; omega
noncomputable def tU (xs:List Int)(k:Nat):List Int:=((Zv xs (k:Int)).getD default).2
theorem wi {n k:Nat}(a:n≤1048576)(h:k<n):aH ((k:Int)+1)=((k+1:Nat):Int):=bW (by unfold b'; omega)
theorem j6 (xs:List Int)(k:Nat)(l:xs.length≤1048576)(h:k+xs.length≤BB):Zv xs (k:Int)=some (((k+xs.length:Nat):Int),tU xs k)∧Z0d (tU xs k) (k:Int)=some ((k+xs.length:Nat):Int):=by
 obtain ⟨ys,g,q,j⟩:=ni (U:=Int×Int) xs (fun _=>1) (fun _ k=>(k:Int)) (fun s:(List Int)×Int×Int=>Zv_L1 xs s.1 s.2.1 s.2.2) (fun ys k i=>(ys,k,i)) (fun ys k i a u B b=>by
  show Zv_L1 xs ys (k:Int) (i:Int)=_
  unfold Zv_L1
  rw [if_pos (vZ a),if_pos (mT a),wi l a,wn b,Int.toNat_natCast]) (fun ys k=>by
  show Zv_L1 xs ys k (xs.length:Int)=_
  unfold Zv_L1; simp only [oU,Bool.false_eq_true,if_false]) k (by rw [qL]; omega)
 rw [qL,Nat.one_mul] at g j
 have e:Zv xs (k:Int)=some (((k+xs.length:Nat):Int),ys):=by
  unfold Zv; rw [g,aY]; rfl
 have r:tU xs k=ys:=by unfold tU; rw [e]; rfl
 rw [r]
 refine ⟨e,?_⟩
 unfold Z0d
 rw [j (fun s:Int×Int=>Z0d_L1 ys s.1 s.2) (fun k i=>(k,i)) (fun k i a b m=>by
  show Z0d_L1 ys (k:Int) (i:Int)=_
  unfold Z0d_L1
  rw [if_pos (vZ (by omega)),if_pos (mT (by omega)),m,mI,wi l a,wn b]; rfl) (fun k=>by
  show Z0d_L1 ys k (xs.length:Int)=_
  rw [← q]
  unfold Z0d_L1; simp only [oU,Bool.false_eq_true,if_false])]
 rfl
theorem xJ {α:Type}(n:α→Nat)(M:Nat)(xs:List α)(h:∀ x∈xs,n x≤M):lK n xs≤xs.length*M:=by
 induction xs with
 | nil=>simp [lK]
 | cons x t ih =>
  rw [mJ,List.length_cons,Nat.succ_mul]
  have:=h x (by simp)
  have:=ih (fun y a=>h y (by simp [a]))
  omega
theorem xK {α:Type}(n:α→Nat)(M:Nat)(xs:List α)(h:∀ x∈xs,n x≤M)(a:xs.length≤1048576):lK n xs≤1048576*M:=Nat.le_trans (xJ n M xs h) (Nat.mul_le_mul_right _ a)
theorem tG {α:Type}(n:α→Nat)(xs:List α):xs.length≤mF n xs:=by unfold mF; omega
theorem tH {α:Type}(n:α→Nat){xs:List α}{x:α}(h:x∈xs):n x≤mF n xs:=by
 have:n x≤(xs.map n).sum:=by
  induction xs with
  | nil=>cases h
  | cons y t ih =>
   rcases List.mem_cons.1 h with rfl | h
   ·simp
   ·have:=ih h; simp; omega
 unfold mF; omega
theorem tJ {a:Nat}{b:Int}(h:fT a b<0)(e:0≤b):fT a b = -1:=by
 unfold fT at *
 split at h
 ·rw [if_pos (by assumption)]
 ·omega
theorem mK {f:Int×aM→Option ((Int×aM)⊕aM)}(b:∀ (n:Nat) (s:aM),0<n→n<10000000000000000000→s.length≤100→∃ c:aM,c.length=1∧f ((n:Int),s)=some (.inl (((n / 10:Nat):Int),c++s)))(a:∀ s,f (0,s)=some (.inr s)):∀ (m n:Nat) (s:aM),n<10 ^ m→m≤19→s.length+m≤100→∃ r,aR f ((n:Int),s)=some r∧r.length≤s.length+m
 | 0,n,s,h,hm,hs=>by
  have:n=0:=by simpa using h
  subst this
  exact ⟨s,cR (a s),by omega⟩
 | m+1,n,s,h,hm,hs=>by
  by_cases e:n=0
  ·subst e; exact ⟨s,cR (a s),by omega⟩
  ·have g:10 ^ (m+1)≤10 ^ 19:=Nat.pow_le_pow_right (by omega) hm
   obtain ⟨c,h1,h2⟩:=b n s (by omega) (by omega) (by omega)
   obtain ⟨r,i,j⟩:=mK b a m (n / 10) (c++s) (by rw [Nat.pow_succ] at h; omega) (by omega) (by simp; omega)
   exact ⟨r,by rw [dU h2]; exact i,by simp at j; omega⟩
theorem tK (k:Nat)(h:k≤BB):∃ s,Z0o (k:Int)=some s:=by
 unfold Z0o
 by_cases c:k=0
 ·rw [if_pos (by simp; omega)]; exact ⟨_,rfl⟩
 ·rw [if_neg (by simp; omega)]
  obtain ⟨r,b,e⟩:=mK (f:=fun s:Int×aM=>Z0o_L1 s.1 s.2) (fun n s j i l=>by
   have g:aH ((n:Int).tdiv 10)=((n / 10:Nat):Int):=by
    rw [Int.tdiv_eq_ediv_of_nonneg (by omega),bC (by omega) (by omega)]; omega
   have a:(nv [IntKind.wrap .u8 (aH (48+(n:Int).tmod 10))]).length=1:=by simp [nv]
   refine ⟨nv [IntKind.wrap .u8 (aH (48+(n:Int).tmod 10))],a,?_⟩
   simp only [Z0o_L1]
   rw [if_pos (by simp; omega),if_pos (by rw [a]; omega),g]) (fun s=>by simp only [Z0o_L1]; rfl) 19 k [] (by unfold BB at h; omega) (by omega) (by simp)
  rw [b]
  simp only [Option.bind_some,Z0o_J1]
  rw [if_pos (by simp [str8] at e ⊢; omega)]
  exact ⟨_,rfl⟩
noncomputable def By (k:Nat):aM:=(Z0o (k:Int)).getD default
theorem xL {k:Nat}(h:k≤BB:=by omega):Z0o (k:Int)=some (By k):=by
 obtain ⟨s,a⟩:=tK k h
 unfold By; rw [a]; rfl
def mL (xs:(List Int)):Prop:=xs.length≤maxLen
def jw (xs:(List Int)):Prop:=xs.length≤1048576
theorem j7 {xs:(List Int)}(h:xs.length≤1048576):jw xs:=h
theorem iL {xs:(List Int)}{a:Int}(b:mL xs)(e:0≤a)(h1:a≤1048576):Z1j xs a=some (fT xs.length a):=v8 (Nat.le_trans b (by decide)) e h1
theorem kT (xs:(List Int))(h:jw xs):Z07 xs=some xs:=by
 unfold Z07
 rw [if_pos (by have:xs.length≤1048576:=h; omega),mH xs 0 (fun s:(List Int)×Int=>Z07_L1 xs s.1 s.2) (fun s i=>(s,i)) (fun ys k b a=>by
  have e:xs.length≤1048576:=h
  show Z07_L1 xs ys (k:Int)=_
  unfold Z07_L1
  rw [if_pos (vZ a),if_pos (mT a),if_pos (xI a),bW (by unfold b'; omega)]; rfl) (fun ys _=>by
  show Z07_L1 xs ys (xs.length:Int)=_
  unfold Z07_L1; simp only [oU,Bool.false_eq_true,if_false])]
 rfl
theorem kU (xs:(List Int))(h:jw xs):Zx xs xs=some true:=nS xs h
theorem rv (xs:(List Int))(k:Nat)(h:jw xs)(a:k+xs.length≤BB):Zv xs (k:Int)=some (((k+xs.length:Nat):Int),tU xs k)∧Z0d (tU xs k) (k:Int)=some ((k+xs.length:Nat):Int):=j6 xs k h a
def zZ (x:aM):Prop:=x.length≤maxLen
def z' (x:aM):Prop:=x.length≤1048576
structure Cap70 (x:Node):Prop where
 Args:mL x.Args
 Dims:mL x.Dims
 Ints:mL x.Ints
 Form:zZ x.Form
 Data:mL x.Data
structure SmNode (x:Node):Prop where
 Args:jw x.Args
 Dims:jw x.Dims
 Ints:jw x.Ints
 Form:z' x.Form
 Data:jw x.Data
def kg (x:Node):Nat:=x.Args.length+x.Dims.length+x.Ints.length+x.Form.length+x.Data.length
theorem rx {x:Node}(h:kg x≤1048576):SmNode x:=by
 unfold kg at h
 exact ⟨j7 (by omega),j7 (by omega),j7 (by omega),show _≤_ by omega,j7 (by omega)⟩
theorem ry {x:Node}{a:Int}(q:Cap70 x)(b:0≤a)(h1:a≤1048576):Z2k x a=some (fT (kg x) a):=by
 obtain ⟨D,r,G,s,u⟩:=q
 unfold Z2k kg
 rw [jv b,jv b,jv b,jv b]
 rw [iL D b (by omega),aY]
 by_cases h2:fT (x.Args.length) a<0
 ·simp [h2]
 ·obtain ⟨h,T,m⟩:=iU b h2
  rw [if_neg (by simpa using h2),if_neg h2]
  rw [iL r h (by omega),aY]
  by_cases h3:fT (x.Dims.length) (fT (x.Args.length) a)<0
  ·simp [h3]
  ·obtain ⟨j,O,B⟩:=iU h h3
   rw [if_neg (by simpa using h3),if_neg h3]
   rw [iL G j (by omega),aY]
   by_cases h4:fT (x.Ints.length) (fT (x.Dims.length) (fT (x.Args.length) a))<0
   ·simp [h4]
   ·obtain ⟨E,M,l⟩:=iU j h4
    rw [if_neg (by simpa using h4),if_neg h4]
    have i:aH (fT (x.Ints.length) (fT (x.Dims.length) (fT (x.Args.length) a)) - (x.Form.length:Int))=fT (x.Ints.length) (fT (x.Dims.length) (fT (x.Args.length) a)) - (x.Form.length:Int):=by
     have:x.Form.length≤9223372036854775807:=Nat.le_trans s (by decide)
     exact bC (by omega) (by omega)
    by_cases h5:fT (x.Form.length) (fT (x.Ints.length) (fT (x.Dims.length) (fT (x.Args.length) a)))<0
    ·have:fT (x.Ints.length) (fT (x.Dims.length) (fT (x.Args.length) a))<(x.Form.length:Int):=by unfold fT at h5; split at h5<;>omega
     rw [i,if_pos (by simp; omega)]
     simp [h5]
    ·obtain ⟨e,J,g⟩:=iU E h5
     rw [i,← g,if_neg (by simpa using h5),if_neg h5]
     rw [iL u e (by omega),aY]
     by_cases h6:fT (x.Data.length) (fT (x.Form.length) (fT (x.Ints.length) (fT (x.Dims.length) (fT (x.Args.length) a))))<0
     ·rw [if_pos (by simpa using h6),tJ h6 e]
     ·obtain ⟨I,L,F⟩:=iU e h6
      rw [if_neg (by simpa using h6)]
theorem vf (x:Node)(h:SmNode x):Z2y x=some x:=by
 unfold Z2y
 rw [kT _ h.Args,aY,kT _ h.Dims,aY,kT _ h.Ints,aY,kT _ h.Data,aY]
theorem vg (x:Node)(h:SmNode x):Z2j x x=some true:=by
 unfold Z2j
 rw [kU _ h.Args,aY,kU _ h.Dims,aY,kU _ h.Ints,aY,kU _ h.Data,aY]
 simp
def tL (xs:(List Node)):Prop:=xs.length≤maxLen∧∀ x∈xs,Cap70 x
def kV (xs:(List Node)):Prop:=xs.length≤1048576∧∀ x∈xs,SmNode x
theorem pK {xs:(List Node)}(h:mF kg xs≤1048576):kV xs:=⟨Nat.le_trans (tG _ _) h,fun x a=>rx (Nat.le_trans (tH _ a) h)⟩
theorem pL {xs:(List Node)}{a:Int}(b:tL xs)(g:0≤a)(h1:a≤1048576):Z1a xs a=some (fT (mF kg xs) a):=by
 unfold Z1a
 refine vc (x:=fun l=>(aR (fun s:Int×Int=>Z1a_L1 xs s.1 s.2) (l,(0:Int))).bind fun e=>match e with | .inl e=>some e | .inr e=>Z1a_J1 e) (Nat.le_trans b.1 (by decide)) g h1 (fun h=>?_)
 obtain ⟨j,q,m⟩:=iU g h
 exact va xs kg (Nat.lt_of_le_of_lt (show xs.length≤1048576 by unfold fT at h; split at h<;>omega) (by decide)) Z2k _ (fun x i a=>ry (b.2 x i)) (fun _ _=>rfl) _ j (by omega)
theorem tM (xs:(List Node))(h:kV xs):Z0r xs=some xs:=by
 unfold Z0r
 rw [if_pos (by have:xs.length≤1048576:=h.1; omega),mH xs zT54.z (fun s:(List Node)×Int=>Z0r_L1 xs s.1 s.2) (fun s i=>(s,i)) (fun ys k b a=>by
  have e:xs.length≤1048576:=h.1
  show Z0r_L1 xs ys (k:Int)=_
  unfold Z0r_L1
  rw [if_pos (vZ a),if_pos (mT a),vf _ (h.2 _ (bE a)),aY,if_pos (xI a),bW (by unfold b'; omega)]; rfl) (fun ys _=>by
  show Z0r_L1 xs ys (xs.length:Int)=_
  unfold Z0r_L1; simp only [oU,Bool.false_eq_true,if_false])]
 rfl
theorem tN (xs:(List Node))(h:kV xs):Z1f xs xs=some true:=by
 unfold Z1f
 rw [mI,ve xs (fun s:Int=>Z1f_L1 xs xs s) h.1 Z2j (fun x a=>vg x (h.2 x a)) (fun _=>rfl)]; rfl
def hR (x:Node):Nat:=1+x.Args.length+x.Dims.length+x.Ints.length+1+x.Data.length
noncomputable def tO (x:Node)(k:Nat):Node:=⟨((k:Nat):Int),tU x.Args (k+1),tU x.Dims (k+1+x.Args.length),tU x.Ints (k+1+x.Args.length+x.Dims.length),By (k+1+x.Args.length+x.Dims.length+x.Ints.length),tU x.Data (k+1+x.Args.length+x.Dims.length+x.Ints.length+1)⟩
noncomputable def nU (xs:(List Node))(k:Nat):(List Node):=((Z0m xs (k:Int)).getD default).2
theorem pM (xs:(List Node))(k:Nat)(h:kV xs)(r:k+lK hR xs≤BB):Z0m xs (k:Int)=some (((k+lK hR xs:Nat):Int),nU xs k):=by
 obtain ⟨ys,q,B,D⟩:=ni (U:=Int×Int) xs hR tO (fun s:(List Node)×Int×Int=>Z0m_L1 xs s.1 s.2.1 s.2.2) (fun ys k i=>(ys,k,i)) (fun ys k i j u g l=>by
  show Z0m_L1 xs ys (k:Int) (i:Int)=_
  have b:=h.2 _ (bE j)
  have a:i<ys.length:=by omega
  unfold hR at l
  unfold Z0m_L1 tO hR
  generalize ix xs (i:Int)=x at *
  rw [if_pos (vZ j),if_pos (mT j),wi h.1 j]
  (try simp only [jh,Int.toNat_natCast,lx a,List.set_set,g])
  rw [wn (by omega)]
  (try simp only [jh,Int.toNat_natCast,lx a,List.set_set,g])
  rw [(j6 _ _ b.Args (by omega)).1,aY]
  (try simp only [jh,Int.toNat_natCast,lx a,List.set_set,g])
  rw [(j6 _ _ b.Dims (by omega)).1,aY]
  (try simp only [jh,Int.toNat_natCast,lx a,List.set_set,g])
  rw [(j6 _ _ b.Ints (by omega)).1,aY]
  (try simp only [jh,Int.toNat_natCast,lx a,List.set_set,g])
  rw [xL,aY,wn (by omega)]
  (try simp only [jh,Int.toNat_natCast,lx a,List.set_set,g])
  rw [(j6 _ _ b.Data (by omega)).1,aY]
  (try simp only [jh,Int.toNat_natCast,lx a,List.set_set,g])
  rw [show k+1+x.Args.length+x.Dims.length+x.Ints.length+1+x.Data.length=k+(1+x.Args.length+x.Dims.length+x.Ints.length+1+x.Data.length) by omega]) (fun ys k=>by
  show Z0m_L1 xs ys k (xs.length:Int)=_
  unfold Z0m_L1; simp only [oU,Bool.false_eq_true,if_false]) k r
 have e:Z0m xs (k:Int)=some (((k+lK hR xs:Nat):Int),ys):=by
  unfold Z0m; rw [q,aY]; rfl
 have m:nU xs k=ys:=by unfold nU; rw [e]; rfl
 rw [m,e]
structure Cap25 (x:Graph):Prop where
 Nodes:tL x.Nodes
 Outs:mL x.Outs
structure SmGraph (x:Graph):Prop where
 Nodes:kV x.Nodes
 Outs:jw x.Outs
def ld (x:Graph):Nat:=mF kg x.Nodes+x.Outs.length
theorem pN {x:Graph}(h:ld x≤1048576):SmGraph x:=by
 unfold ld at h
 exact ⟨pK (by omega),j7 (by omega)⟩
theorem pO {x:Graph}{a:Int}(g:Cap25 x)(b:0≤a)(h1:a≤1048576):Z2x x a=some (fT (ld x) a):=by
 obtain ⟨j,h⟩:=g
 unfold Z2x ld
 rw [jv b]
 rw [pL j b (by omega),aY]
 by_cases h2:fT (mF kg x.Nodes) a<0
 ·simp [h2]
 ·obtain ⟨e,q,l⟩:=iU b h2
  rw [if_neg (by simpa using h2),if_neg h2]
  rw [iL h e (by omega),aY]
  by_cases h3:fT (x.Outs.length) (fT (mF kg x.Nodes) a)<0
  ·rw [if_pos (by simpa using h3),tJ h3 e]
  ·obtain ⟨r,m,i⟩:=iU e h3
   rw [if_neg (by simpa using h3)]
theorem mM (x:Graph)(h:SmGraph x):Z1b x=some x:=by
 unfold Z1b
 rw [tM _ h.Nodes,aY,kT _ h.Outs,aY]
theorem tP (x:Graph)(h:SmGraph x):Z2i x x=some true:=by
 unfold Z2i
 rw [tN _ h.Nodes,aY,kU _ h.Outs,aY]
 simp
theorem pP (x:Graph)(k:Nat)(h:SmGraph x)(a:k+(lK hR x.Nodes+x.Outs.length)≤BB):∃ r,Z26 x (k:Int)=some (((k+lK hR x.Nodes+x.Outs.length:Nat):Int),r):=by
 unfold Z26
 rw [(pM x.Nodes (k) h.Nodes (by omega)),aY,(rv x.Outs (k+lK hR x.Nodes) h.Outs (by omega)).1,aY]
 exact ⟨_,rfl⟩
theorem A0 {g:Graph}(h:SmGraph g):GC g:=by
 have b:(1048576:Nat)<b':=by decide
 have a:=h.Nodes
 exact ⟨Nat.lt_of_le_of_lt a.1 b,Nat.lt_of_le_of_lt h.Outs b,fun n m=>Nat.lt_of_le_of_lt (a.2 n m).Args b,fun n m=>Nat.lt_of_le_of_lt (a.2 n m).Dims b,fun n m=>Nat.lt_of_le_of_lt (a.2 n m).Ints b,fun n m=>Nat.lt_of_le_of_lt (a.2 n m).Data b,fun n m=>(a.2 n m).Form⟩
theorem A1 {g:Graph}(h:¬ fT (ld g) 1048576<0):SmGraph g:=pN (by unfold fT at h; split at h<;>omega)
theorem Aa {a:Graph}(b:SmGraph a):∃ (n:Nat) (r:(List Node)×(List Int)),Z26 a 1=some ((n:Int),r):=by
 have e:=b.Nodes
 have m:a.Outs.length≤1048576:=b.Outs
 have l:lK hR a.Nodes≤1048576*4194306:=xK hR 4194306 a.Nodes (fun x h=>by
  have:=e.2 x h
  have i:x.Args.length≤1048576:=this.Args
  have j:x.Dims.length≤1048576:=this.Dims
  have a3:x.Ints.length≤1048576:=this.Ints
  have a4:x.Data.length≤1048576:=this.Data
  unfold hR; omega) e.1
 obtain ⟨r,g⟩:=pP a 1 b (by unfold BB; omega)
 exact ⟨_,r,g⟩
theorem nn (n:Nat):decide ((n:Int)<0)=false:=by simp
theorem pQ (x:Int):(x != x)=false:=by simp
theorem rz {a:Graph}{x:List Int}{f:Graph→Option (List Int)}(q:SmGraph a)(I:x.length≤1048576)(L:f a=some x){g:Graph→Option (List Int)}(U:g a=some x) :
  ((g a).bind fun e=>(Z1b a).bind fun i=>(f i).bind fun h=>(Zx h e).bind fun s=>if (!s)=true then some false else ((Z1b a).bind fun F=>(Z2i i F).bind fun D=>if (!D)=true then some false else (
   (Z26 i (1:Int)).bind fun j=>(bQ (!(decide (j.1<(0:Int)))) (Zx h e)).bind fun E=>if ((decide (j.1<(0:Int)))||(!E))=true then some false else (
   (Zv h (1:Int)).bind fun b=>(Z0d b.2 (1:Int)).bind fun l=>if (decide (l<(0:Int)))=true then some false else (if (l != b.1)=true then some false else (
   (Z1b a).bind fun B=>(f B).bind fun G=>(Zx G e).bind fun u=>if (!u)=true then some false else (
   (Z0d b.2 (1:Int)).bind fun m=>if (decide (m<(0:Int)))=true then some false else (if (m != b.1)=true then some false else some true))))))):Option Bool)=some true:=by
 obtain ⟨n,r,O⟩:=Aa q
 obtain ⟨M,J⟩:=j6 x 1 I (by unfold BB; omega)
 have T:((1:Nat):Int)=1:=rfl
 rw [T] at M J
 rw [U,aY,mM a q,aY,L,aY,nS x I,aY,if_neg (by simp),aY,tP a q,aY,if_neg (by simp),O,aY,nn,Bool.not_false,Bx,aY,if_neg (by simp),M,aY,J,aY,nn,if_neg (by simp),pQ,if_neg (by simp),aY,L,aY,nS x I,aY,if_neg (by simp),aY,nn,if_neg (by simp),if_neg (by simp)]
def DG (x:Int):Prop:=x = -1∨0≤x∧x≤1000
theorem Ab {s:Int}(h:0≤s):DG (if s>1000 then -1 else s):=by
 split
 ·exact .inl rfl
 ·exact .inr (by omega)
theorem xM (x:Int):DG (if x>0 then -1 else 0):=by
 split
 ·exact .inl rfl
 ·exact .inr (by omega)
def mN (a:List Int):Int:=a.foldl (fun m x=>if x>m then x else m) 0
theorem m0 (a:List Int)(x:Int):mN (a++[x])=if x>mN a then x else mN a:=by simp [mN]
theorem tQ {a:List Int}(h:∀ x∈a,0≤x∧x≤1000):∀ k,0≤mN (a.take k)∧mN (a.take k)≤1000
 | 0=>by simp [mN]
 | k+1=>by
  by_cases c:k<a.length
  ·rw [List.take_succ_eq_append_getElem c,m0]
   have:=tQ h k
   have:=h _ (List.getElem_mem c)
   split<;>omega
  ·rw [List.take_of_length_le (by omega),← List.take_of_length_le (l:=a) (i:=k) (by omega)]; exact tQ h k
theorem nV {a:List Int}(b:a.length≤6)(h:∀ x∈a,0≤x∧x≤1000):∀ k,k≤a.length→0≤(a.take k).sum∧(a.take k).sum≤1000*(k:Int)
 | 0,_=>by simp
 | k+1,hk=>by
  have c:k<a.length:=by omega
  rw [List.take_succ_eq_append_getElem c,List.sum_append]
  have:=nV b h k (by omega)
  have:=h _ (List.getElem_mem c)
  simp only [List.sum_cons,List.sum_nil]
  omega
theorem Ac {a:List Int}(L:a.length≤6)(i:∀ x∈a,DG x) :
  aR (fun s:Int×Int×Int=>Z4_L1 a s.1 s.2.1 s.2.2) (0,0,0)=some (if -1∈a then .inl (-1) else .inr (a.sum,mN a)):=by
 have b:∀ k:Nat,k<a.length→(∀ j:Nat,j≤k→0≤ix a (j:Int))→(fun s:Int×Int×Int=>Z4_L1 a s.1 s.2.1 s.2.2) ((a.take k).sum,mN (a.take k),(k:Int))=some (.inl ((a.take (k+1)).sum,mN (a.take (k+1)),((k+1:Nat):Int))):=by
  intro k g u
  have J:0≤(a.take k).sum∧(a.take k).sum≤1000*(k:Int):=by
   have I:∀ x∈a.take (k+1),0≤x∧x≤1000:=by
    intro x D
    obtain ⟨j,l,rfl⟩:=List.getElem_of_mem D
    rw [List.length_take] at l
    rw [List.getElem_take]
    have e:=u j (by omega)
    rw [bS (by omega)] at e
    rcases i _ (List.getElem_mem (show j<a.length by omega)) with q | q
    ·omega
    ·exact q
   have:=nV (a:=a.take (k+1)) (by rw [List.length_take]; omega) I k (by rw [List.length_take]; omega)
   rwa [List.take_take,Nat.min_eq_left (by omega)] at this
  have D:=u k (Nat.le_refl _)
  have G:ix a (k:Int)≤1000:=by
   rcases i _ (bE g) with q | q<;>omega
  simp only [Z4_L1,Z4_J2]
  rw [if_pos (by simp; omega),if_pos (by omega),if_neg (by simp; omega),List.take_succ_eq_append_getElem g,List.sum_append,m0,bW (by unfold b'; omega),← bS g]
  simp only [List.sum_cons,List.sum_nil,Int.add_zero]
  rw [bC (by omega) (by omega)]
  by_cases q:ix a (k:Int)>mN (a.take k)
  ·rw [if_pos (decide_eq_true q),if_pos q]
  ·rw [if_neg (by simpa using q),if_neg q]
 by_cases c:∀ x∈a,0≤x
 ·rw [if_neg (fun h=>by have:=c _ h; omega)]
  refine eC (fun k=>((a.take k).sum,mN (a.take k),(k:Int))) a.length (fun k g=>b k g fun j l=>c _ (bE (by omega))) ?_ (by simp [mN])
  simp only [Z4_L1]
  rw [if_neg (by simp),List.take_length]
 ·obtain ⟨m,B,E,F⟩:=j4 (p:=fun x=>0≤x) (fun _=>inferInstance) c
  have r:ix a (m:Int) = -1:=by
   rcases i _ (bE B) with q | q
   ·exact q
   ·exact absurd q.1 E
  rw [if_pos (by rw [← r]; exact bE B)]
  refine eC (fun k=>((a.take k).sum,mN (a.take k),(k:Int))) m (fun k g=>b k (by omega) fun j l=>F j (by omega)) ?_ (by simp [mN])
  simp only [Z4_L1]
  rw [if_pos (by simp; omega),if_pos (by omega),r,if_pos (by simp)]
theorem pR {a:List Int}(j:a.length<b')(v:Int):Z2z a v=some (decide (v∈a)):=by
 unfold Z2z Z0p
 by_cases c:v∈a
 ·obtain ⟨m,l,e,g⟩:=j4 (xs:=a) (p:=fun x=>x≠v) (fun _=>inferInstance) (fun h=>h v c rfl)
  have i:=Classical.not_not.1 e
  rw [eC (f:=fun s:Int=>Z0p_L1 a v s) (r:=.inl (m:Int)) (fun k=>(k:Int)) m (fun k b=>by
   simp only [Z0p_L1]
   rw [if_pos (by simp; omega),if_pos (by omega),if_neg (by have:=g k b; simpa using fun z=>this z.symm),bW (by omega)]) (by
   simp only [Z0p_L1]
   rw [if_pos (by simp; omega),if_pos (by omega),if_pos (by rw [i]; simp)]) (s:=0) rfl]
  simp [c]
 ·rw [eC (f:=fun s:Int=>Z0p_L1 a v s) (r:=.inr ()) (fun k=>(k:Int)) a.length (fun k b=>by
   simp only [Z0p_L1]
   rw [if_pos (by simp; omega),if_pos (by omega),if_neg (by have:ix a (k:Int)≠v:=fun z=>c (z▸bE b); simpa using fun z=>this z.symm),bW (by omega)]) (by
   simp only [Z0p_L1]
   rw [if_neg (by simp)]) (s:=0) rfl]
  simp [c,Z0p_J1]
theorem Ad {a:List Int}(j:a.length≤6)(h1:a≠[])(h:∀ x∈a,0≤x):Z17 a=some (mN a):=by
 have e:0<a.length:=List.length_pos_iff.2 h1
 unfold Z17
 rw [if_neg (by simp; omega),if_pos (by omega)]
 have g:mN (a.take 1)=ix a 0:=by
  have:=h _ (bE (k:=0) e)
  rw [List.take_succ_eq_append_getElem e,m0,← bS e]
  simp only [List.take_zero,mN,List.foldl_nil]
  show (if ix a (0:Int)>0 then ix a (0:Int) else 0)=ix a 0
  have:0≤ix a (0:Int):=this
  by_cases q:ix a (0:Int)>0
  ·rw [if_pos q]
  ·rw [if_neg q]; omega
 rw [eC (f:=fun s:Int×Int=>Z17_L1 a s.1 s.2) (r:=mN a) (fun k=>(mN (a.take (k+1)),((k+1:Nat):Int))) (a.length - 1) (fun k i=>by
  have b:k+1<a.length:=by omega
  simp only [Z17_L1]
  rw [if_pos (by simp; omega),if_pos (by omega),bW (by unfold b'; omega),List.take_succ_eq_append_getElem b,m0,← bS b]) (by
  simp only [Z17_L1]
  have:a.length - 1+1=a.length:=by omega
  rw [this,if_neg (by simp),List.take_length]) (by rw [g]; rfl)]
 rfl
theorem tR {n:Node}{a:List Int}(F:a.length≤6)(T:∀ x∈a,DG x)(h1:1≤n.Op)(a0:n.Op≤19)(Z:n.Op≤2→a=[])(U:3≤n.Op→a≠[])(M:7≤n.Op→n.Op≤10→a.length=1) :
  ∃ d,DG d∧Z4 n a=some d∧Zb n a=some d:=by
 unfold Z4 Zb
 rw [Ac F T,pR (by unfold b'; omega)]
 simp only [Option.bind_some]
 by_cases c:(-1:Int)∈a
 ·rw [if_pos c,decide_eq_true c,if_pos rfl]
  exact ⟨-1,.inl rfl,rfl,rfl⟩
 ·rw [if_neg c,decide_eq_false c,if_neg (by simp)]
  have r:∀ x∈a,0≤x∧x≤1000:=fun x D=>(T x D).resolve_left (fun z=>c (z▸D))
  have l:=nV F r a.length (Nat.le_refl _)
  have E:=tQ r a.length
  rw [List.take_length] at l E
  have e:∀ k:Int,n.Op≠k→(n.Op==k)=false:=fun k h=>by simpa using h
  have t:∀ k:Int,n.Op=k→(n.Op==k)=true:=fun k h=>by simpa using h
  have j:∀ m:Int,Z4_J6 m=some (if m>1000 then -1 else m):=by
   intro m; unfold Z4_J6
   by_cases q:m>1000
   ·rw [if_pos (decide_eq_true q),if_pos q]
   ·rw [if_neg (by simpa using q),if_neg q]
  have u:∀ m:Int,Zb_J2 m=some (if m>1000 then -1 else m):=by
   intro m; unfold Zb_J2
   by_cases q:m>1000
   ·rw [if_pos (decide_eq_true q),if_pos q]
   ·rw [if_neg (by simpa using q),if_neg q]
  have i:aR (fun s:Int×Int=>Zb_L1 a s.1 s.2) (0,0)=some a.sum:=by
   refine eC (f:=fun s:Int×Int=>Zb_L1 a s.1 s.2) (fun k=>((a.take k).sum,(k:Int))) a.length (fun k I=>?_) ?_ (by simp)
   ·have:=nV F r k (by omega)
    have:=r _ (bE I)
    simp only [Zb_L1]
    rw [if_pos (by simp; omega),if_pos (by omega),List.take_succ_eq_append_getElem I,List.sum_append,bW (by unfold b'; omega),← bS I]
    simp only [List.sum_cons,List.sum_nil,Int.add_zero]
    rw [bC (by omega) (by omega)]
   ·simp only [Zb_L1]
    rw [if_neg (by simp),List.take_length]
  by_cases o1:n.Op=1
  ·simp only [Z4_J3,t 1 o1,if_true]
   exact ⟨1,.inr (by omega),rfl,rfl⟩
  by_cases o2:n.Op=2
  ·have Y:=Z (by omega)
   simp only [Z4_J3,Z4_J4,Z4_J5,e 1 (by omega),e 7 (by omega),e 8 (by omega),e 9 (by omega),e 10 (by omega),e 5 (by omega),e 11 (by omega),t 2 o2,Bool.false_eq_true,if_false,if_true,j]
   rw [Y]
   exact ⟨0,.inr (by omega),rfl,rfl⟩
  have O:=U (by omega)
  by_cases o5:n.Op=5∨n.Op=11
  ·refine ⟨if a.sum>1000 then -1 else a.sum,Ab l.1,?_,?_⟩
   ·rcases o5 with q | q
    ·simp only [Z4_J3,Z4_J4,Z4_J5,e 1 (by omega),e 7 (by omega),e 8 (by omega),e 9 (by omega),e 10 (by omega),t 5 q,Bool.false_eq_true,if_false,if_true,j]
    ·simp only [Z4_J3,Z4_J4,Z4_J5,e 1 (by omega),e 7 (by omega),e 8 (by omega),e 9 (by omega),e 10 (by omega),e 5 (by omega),t 11 q,Bool.false_eq_true,if_false,if_true,j]
   ·rcases o5 with q | q
    ·simp only [e 1 (by omega),e 2 (by omega),t 5 q,Zb_J1,Bool.false_eq_true,if_false,if_true,i,Option.bind_some,u]
    ·simp only [e 1 (by omega),e 2 (by omega),e 5 (by omega),t 11 q,Zb_J1,Bool.false_eq_true,if_false,if_true,i,Option.bind_some,u]
  have g:n.Op≠5:=fun z=>o5 (.inl z)
  have o11:n.Op≠11:=fun z=>o5 (.inr z)
  by_cases o7:7≤n.Op∧n.Op≤10
  ·have L:=M o7.1 o7.2
   obtain ⟨x,rfl⟩:∃ x,a=[x]:=by
    match a,L with
    | [x],_=>exact ⟨x,rfl⟩
   have D:=r x (by simp)
   have J:ix [x] (0:Int)=x:=rfl
   have B:mN [x]=x:=by
    show (if x>0 then x else 0)=x
    split<;>omega
   have hS:∀ b:Bool,b=true→Z4_J4 n ([x]:List Int).sum (mN [x]) b=some (if x>0 then -1 else 0):=by
    rintro _ rfl
    unfold Z4_J4
    rw [if_pos rfl,B,j]
    simp only [List.sum_cons,List.sum_nil,Int.add_zero]
    by_cases q:x>0
    ·rw [if_pos (decide_eq_true q),if_pos q]
    ·rw [if_neg (by simpa using q),if_neg q,if_neg (by omega)]
     congr 1; omega
   have G:∀ b:Bool,b=true→Zb_J3 [x] b=some (if x>0 then -1 else 0):=by
    rintro _ rfl
    unfold Zb_J3
    rw [if_pos rfl,if_pos (by simp),J]
    by_cases q:x>0
    ·rw [if_pos (by simp; omega),if_pos q]
    ·rw [if_neg (by simp; omega),if_neg q]
   refine ⟨if x>0 then -1 else 0,xM x,?_,?_⟩
   ·have:n.Op=7∨n.Op=8∨n.Op=9∨n.Op=10:=by omega
    rcases this with q | q | q | q
    ·simp only [Z4_J3,e 1 (by omega),t 7 q,Bool.false_eq_true,if_false,if_true]; exact hS _ rfl
    ·simp only [Z4_J3,e 1 (by omega),e 7 (by omega),t 8 q,Bool.false_eq_true,if_false,if_true]; exact hS _ rfl
    ·simp only [Z4_J3,e 1 (by omega),e 7 (by omega),e 8 (by omega),t 9 q,Bool.false_eq_true,if_false,if_true]; exact hS _ rfl
    ·simp only [Z4_J3,e 1 (by omega),e 7 (by omega),e 8 (by omega),e 9 (by omega),t 10 q,Bool.false_eq_true,if_false,if_true]; exact hS _ rfl
   ·have:n.Op=7∨n.Op=8∨n.Op=9∨n.Op=10:=by omega
    rcases this with q | q | q | q
    ·simp only [e 1 (by omega),e 2 (by omega),e 5 g,e 11 o11,Zb_J1,t 7 q,Bool.false_eq_true,if_false,if_true]; exact G _ rfl
    ·simp only [e 1 (by omega),e 2 (by omega),e 5 g,e 11 o11,Zb_J1,e 7 (by omega),t 8 q,Bool.false_eq_true,if_false,if_true]; exact G _ rfl
    ·simp only [e 1 (by omega),e 2 (by omega),e 5 g,e 11 o11,Zb_J1,e 7 (by omega),e 8 (by omega),t 9 q,Bool.false_eq_true,if_false,if_true]; exact G _ rfl
    ·simp only [e 1 (by omega),e 2 (by omega),e 5 g,e 11 o11,Zb_J1,e 7 (by omega),e 8 (by omega),e 9 (by omega),t 10 q,Bool.false_eq_true,if_false,if_true]; exact G _ rfl
  ·refine ⟨mN a,.inr E,?_,?_⟩
   ·simp only [Z4_J3,Z4_J4,Z4_J5,e 1 o1,e 7 (by omega),e 8 (by omega),e 9 (by omega),e 10 (by omega),e 5 g,e 11 o11,Bool.false_eq_true,if_false,j]
    rw [if_neg (by omega)]
   ·simp only [e 1 o1,e 2 o2,e 5 g,e 11 o11,Zb_J1,e 7 (by omega),e 8 (by omega),e 9 (by omega),e 10 (by omega),Zb_J3,Bool.false_eq_true,if_false,Ad F O (fun x D=>(r x D).1),Option.bind_some]
theorem vh {n:Node}(h:Z10 n=some true):1≤n.Op∧n.Op≤19∧(n.Op≤2→n.Args=[])∧(3≤n.Op→n.Args≠[])∧(7≤n.Op→n.Op≤10→n.Args.length=1):=by
 unfold Z10 at h
 split at h
 ·cases h
 ·rename_i a
  simp only [Bool.or_eq_true,decide_eq_true_eq,not_or] at a
  obtain ⟨r,h1,h⟩:=bd h
  split at h
  ·cases h
  ·rename_i q
   simp only [Bool.or_eq_true,decide_eq_true_eq,not_or] at q
   have g:r=if n.Op≤2 then (0,0) else if n.Op≤5 then (2,2) else if n.Op=11 then (1,6) else (1,1):=by
    unfold Z2l at h1
    by_cases c1:n.Op≤2
    ·rw [if_pos (decide_eq_true c1)] at h1; rw [if_pos c1]; cases h1; rfl
    ·rw [if_neg (by simpa using c1)] at h1; rw [if_neg c1]
     by_cases c2:n.Op≤5
     ·rw [if_pos (decide_eq_true c2)] at h1; rw [if_pos c2]; cases h1; rfl
     ·rw [if_neg (by simpa using c2)] at h1; rw [if_neg c2]
      by_cases c3:n.Op=11
      ·rw [if_pos (by simpa using c3)] at h1; rw [if_pos c3]; cases h1; rfl
      ·rw [if_neg (by simpa using c3)] at h1; rw [if_neg c3]; cases h1; rfl
   subst g
   refine ⟨by omega,by omega,fun h2=>?_,fun l e=>?_,fun m b=>?_⟩
   ·rw [if_pos h2] at q
    exact List.eq_nil_of_length_eq_zero (by have:=q.2; simp only at this; omega)
   ·rw [if_neg (by omega),e] at q
    have:=q.1
    split at this
    ·simp at this
    ·split at this<;>simp at this
   ·rw [if_neg (by omega),if_neg (by omega),if_neg (by omega)] at q
    obtain ⟨i,j⟩:=q
    simp only at i j
    omega
theorem vi {g:Graph}{x:List Int}{k:Nat}(e:k<g.Nodes.length)(h:(ix g.Nodes (k:Int)).Args.length≤6)(hw:∀ a∈(ix g.Nodes (k:Int)).Args,0≤a∧a<(x.length:Int)) :
  aR (fun s:List Int×Int=>Zi_L2 g x (k:Int) s.1 s.2) ([],0)=some ((ix g.Nodes (k:Int)).Args.map fun a=>ix x a):=by
 refine eC (f:=fun s:List Int×Int=>Zi_L2 g x (k:Int) s.1 s.2) (fun j=>(((ix g.Nodes (k:Int)).Args.take j).map fun a=>ix x a,(j:Int))) (ix g.Nodes (k:Int)).Args.length (fun j b=>?_) ?_ rfl
 ·have i:=hw _ (bE b)
  simp only [Zi_L2]
  rw [if_pos (by omega),if_pos (by simp; omega),if_pos (by omega),if_pos (by omega),if_pos (by simp; omega),bW (by unfold b'; omega),List.take_succ_eq_append_getElem b,List.map_append,bS b]
  rfl
 ·simp only [Zi_L2]
  rw [if_pos (by omega),if_neg (by simp),List.take_length]
theorem vj {xs x:List Int}(h:xs.length≤6)(hw:∀ a∈xs,0≤a∧a<(x.length:Int)):Z0q xs x=some (xs.map fun a=>ix x a):=by
 unfold Z0q
 rw [if_pos (by omega)]
 have:=mH (xs.map fun a=>ix x a) 0 (fun s:(List Int)×Int=>Z0q_L1 xs x s.1 s.2) (fun s i=>(s,i)) (fun ys k e b=>by
  rw [List.length_map] at b e
  have g:=hw _ (bE b)
  show Z0q_L1 xs x ys (k:Int)=_
  unfold Z0q_L1 Z34
  rw [if_pos (vZ b),if_pos (mT b),if_pos g,aY,if_pos (xI b),bW (by unfold b'; omega),bS (xs:=xs.map fun a=>ix x a) (by simpa using b),List.getElem_map,bS (xs:=xs) b]; rfl) (fun ys _=>by
  rw [List.length_map]
  show Z0q_L1 xs x ys (xs.length:Int)=_
  unfold Z0q_L1; simp only [oU,Bool.false_eq_true,if_false])
 rw [List.length_map] at this
 rw [this]
 rfl
theorem nj {g:Graph}{r:List Tensor}(J:g.Nodes.length≤200)(l:Al g g.Nodes.length r):∀ (m k:Nat) (x:List Int),k+m=g.Nodes.length→x.length=k→(∀ d∈x,DG d) →
  ∃ y,y.length=g.Nodes.length∧aR (fun s:List Int×Int=>Zi_L1 g true s.1 s.2) (x,(k:Int))=some y∧aR (fun s:List Int×Int=>Z0c_L1 g s.1 s.2) (x,(k:Int))=some y
 | 0,k,x,i,hl,hd=>by
  have i:k=g.Nodes.length:=by omega
  subst i
  refine ⟨x,hl,cR ?_,cR ?_⟩
  ·simp only [Zi_L1]; rw [if_neg (by simp)]
  ·simp only [Z0c_L1]; rw [if_neg (by simp)]
 | m+1,k,x,i,hl,hd=>by
  have b:k<g.Nodes.length:=by omega
  obtain ⟨f1,G,_⟩:=l k b
  obtain ⟨B,E,u,D,q⟩:=vh f1
  have j:=lc f1
  have hw:∀ a∈(ix g.Nodes (k:Int)).Args,0≤a∧a<(x.length:Int):=by
   intro a h; rw [hl]; exact G a h
  obtain ⟨d,d1,d2,d3⟩:=tR (n:=ix g.Nodes (k:Int)) (a:=(ix g.Nodes (k:Int)).Args.map fun a=>ix x a) (by simpa using j) (fun y e=>by
   obtain ⟨a,h,rfl⟩:=List.mem_map.1 e
   obtain ⟨c,rfl⟩:=Int.eq_ofNat_of_zero_le (hw a h).1
   exact hd _ (bE (by have:=(hw _ h).2; omega))) B E (fun h=>by rw [u h]; rfl) (fun h=>by simpa using D h) (fun h L=>by simpa using q h L)
  have F:Zi_L1 g true x (k:Int)=some (.inl (x++[d],((k+1:Nat):Int))):=by
   simp only [Zi_L1,Bool.and_true]
   rw [if_pos (by simp; omega),vi b j hw]
   simp only [Option.bind_some,Zi_J2]
   rw [if_pos (by omega),d2]
   simp only [Option.bind_some]
   rw [if_pos (by simp; omega),bW (by unfold b'; omega)]
  have I:Z0c_L1 g x (k:Int)=some (.inl (x++[d],((k+1:Nat):Int))):=by
   simp only [Z0c_L1]
   rw [if_pos (by simp; omega),if_pos (by omega),vj j hw]
   simp only [Option.bind_some]
   rw [d3]
   simp only [Option.bind_some]
   rw [if_pos (by simp; omega),bW (by unfold b'; omega)]
  rw [dU (f:=fun s:List Int×Int=>Zi_L1 g true s.1 s.2) F,dU (f:=fun s:List Int×Int=>Z0c_L1 g s.1 s.2) I]
  refine nj J l m (k+1) (x++[d]) (by omega) (by simp [hl]) fun y e=>?_
  rcases List.mem_append.1 e with h | h
  ·exact hd y h
  ·simp at h; rw [h]; exact d1
theorem oW (a:Graph)(m:Cap25 a):Z3a a=some true:=by
 unfold Z3a
 rw [pO m (by omega) (by omega),aY]
 by_cases h:fT (ld a) 1048576<0
 ·rw [if_pos (by simpa using h)]
 ·have b:=A1 h
  obtain ⟨B,G,e,h1,h2,u⟩:=oS (A0 b)
  have g1:Z30 a=some e:=by unfold Z30; rw [h1]; rfl
  have r:Z2m a=some e:=by unfold Z2m; rw [h2]; rfl
  obtain ⟨x,L,k1,l⟩:∃ x:List Int,x.length≤200∧Zi a=some x∧Z0c a=some x:=by
   unfold Zi Z0c
   rw [g1,r,aY,aY]
   cases e with
   | false =>
    refine ⟨[],by simp,?_,rfl⟩
    rw [cR (f:=fun s:List Int×Int=>Zi_L1 a false s.1 s.2) (by simp only [Zi_L1]; rw [if_neg (by simp)])]
    rfl
   | true =>
    obtain ⟨D,F,a3,a4,a5,J,I⟩:=u rfl
    obtain ⟨y,E,j,q⟩:=nj a5 a4 a.Nodes.length 0 [] (by omega) rfl (fun d h=>by cases h)
    have i:aR (fun s:List Int×Int=>Zi_L1 a true s.1 s.2) ([],0)=some y:=j
    have g:aR (fun s:List Int×Int=>Z0c_L1 a s.1 s.2) ([],0)=some y:=q
    rw [if_neg (by simp),i,g]
    exact ⟨y,by omega,rfl,rfl⟩
  rw [if_neg (by simpa using h),mM a b,aY]
  have:=rz b (by omega) l k1
  rw [mM a b] at this
  exact this
end Go.Proofs.YtmpnollfdpdipaaGreat
