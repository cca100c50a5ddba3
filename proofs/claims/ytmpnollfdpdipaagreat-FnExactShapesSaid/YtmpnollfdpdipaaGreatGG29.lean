import Derived.Test.YtmpnollfdpdipaaGreatGG13
import Derived.Test.YtmpnollfdpdipaaGreatGkF
import Derived.Test.YtmpnollfdpdipaaGreatPL1
set_option linter.unusedVariables false
set_option linter.unusedSimpArgs false
namespace Go.Proofs.YtmpnollfdpdipaaGreat
open Go Go.Pg
theorem tj {c:UInt8}(h:97≤c.toNat∧c.toNat≤122):IntKind.wrap .u8 ((c.toNat:Int) - 97)=(c.toNat:Int) - 97:=by
 unfold IntKind.wrap
 simp [IntKind.bits,IntKind.signed]
 omega
theorem qr {g:aM}{k:Nat}(h:k<g.length):sub g (k:Int) ((k+1:Nat):Int)=[ix g (k:Int)]:=by
 unfold sub
 rw [Int.toNat_natCast,Int.toNat_natCast,List.take_succ_eq_append_getElem h,List.drop_append_of_le_length (by simp; omega),bU h]
 simp
theorem xu {gs:List aM}{dss:List (List Int)}{b:List aM×aM×Bool}{x:Nat}(I:b.1=gs)(Y:x<gs.length)(u:LT (ix gs (x:Int))){m:Nat}(hm:m≤100){s:aM×List Int}(h1:s.1.length≤m)(h2:s.2.length=26)(D:(ix gs (x:Int)).length=(ix dss (x:Int)).length) :
  (∃ s',la (ix gs (x:Int)) (ix dss (x:Int)) s=some s'∧aR (fun s:aM×List Int×Int=>Z3_L2 dss b (x:Int) s.1 s.2.1 s.2.2) (s.1,s.2,0)=some (.inr (s'.1,s'.2))∧s'.1.length≤m+6∧s'.2.length=26) ∨
  (la (ix gs (x:Int)) (ix dss (x:Int)) s=none∧∃ e,aR (fun s:aM×List Int×Int=>Z3_L2 dss b (x:Int) s.1 s.2.1 s.2.2) (s.1,s.2,0)=some (.inl e)∧e.2=false):=by
 obtain ⟨g,a⟩:∃ g,g=ix gs (x:Int):=⟨_,rfl⟩
 obtain ⟨ds,l⟩:∃ ds,ds=ix dss (x:Int):=⟨_,rfl⟩
 have h:ix b.1 (x:Int)=g:=by rw [I,a]
 rw [← a] at u D ⊢
 rw [← l] at D ⊢
 unfold la
 rw [if_pos D]
 rcases j7 (f:=fun s:aM×List Int×Int=>Z3_L2 dss b (x:Int) s.1 s.2.1 s.2.2) (fun s k=>kT s (ix g (k:Int)) (ix ds (k:Int))) (fun s i=>(s.1,s.2,i)) (fun s=>(s.1,s.2)) (fun e=>e.2=false) (fun j s=>s.1.length≤m+j∧s.2.length=26) g.length
  (fun j s E G=>by
   obtain ⟨Z,O⟩:=G
   have T:=u.2 _ (bF E)
   have M:=u.1
   have B:bt g (j:Int)=((ix g (j:Int)).toNat:Int):=rfl
   simp only [Z3_L2]
   rw [h,← l,if_pos (by simp; omega),if_pos (by omega),B,tj T,if_pos (by omega),if_pos (fun _=>by omega)]
   show (∃ s',kT s _ _=_∧_)∨_
   unfold kT
   by_cases c:lk s.2 (ix g (j:Int))≠0∧lk s.2 (ix g (j:Int))≠ix ds (j:Int)
   ·rw [if_pos c,if_pos (by unfold lk at c; simpa using c)]
    exact .inr ⟨rfl,_,rfl,rfl⟩
   ·rw [if_neg c]
    obtain ⟨r,L,F⟩:=nN s.1 (ix g (j:Int))
    have J:((((ix g (j:Int)).toNat:Int) - 97)).toNat=(ix g (j:Int)).toNat - 97:=by omega
    have U:¬ (((ix s.2 (((ix g (j:Int)).toNat:Int) - 97)) != 0)&&((ix s.2 (((ix g (j:Int)).toNat:Int) - 97)) != (ix ds (j:Int))))=true:=by
     unfold lk at c; simpa using c
    refine .inl ⟨_,rfl,?_,?_,by simpa using O⟩
    ·rw [if_neg U,if_pos (by omega)]
     simp only [nm,Option.bind_some]
     rw [L,J]
     simp only [Option.bind_some]
     by_cases q:ix g (j:Int)∈s.1
     ·rw [if_neg (by simp; have:¬ r<0:=fun z=>F.1 z q; omega),if_pos q]
      simp only [Z3_J5]
      rw [bX (by unfold bZ; omega)]
     ·rw [if_pos (decide_eq_true (F.2 q)),bX (by unfold bZ; omega),if_pos (by omega),qr E,if_pos (by simp; omega),if_neg q]
      simp only [Z3_J5]
      rw [bX (by unfold bZ; omega)]
    ·by_cases q:ix g (j:Int)∈s.1
     ·simp only [if_pos q]; omega
     ·simp only [if_neg q]; simp; omega)
  (fun s G=>by
   simp only [Z3_L2]
   rw [h,if_neg (by simp)])
  (s:=s) ⟨by omega,h2⟩ with ⟨s',a1,a2,a3,a4⟩|⟨a1,e,a2,a3⟩
 ·have:=u.1
  exact .inl ⟨s',a1,a2,by omega,a4⟩
 ·exact .inr ⟨a1,e,a2,a3⟩
theorem xv {gs:List aM}{dss:List (List Int)}{b:List aM×aM×Bool}(l:b.1=gs)(E:gs.length≤6)(D:∀ g∈gs,LT g)(F:gs.length=dss.length){s:aM×List Int}(h1:s.1.length≤6)(h2:s.2.length=26) :
  (∃ s',mU gs dss s=some s'∧aR (fun s:aM×List Int×Int=>Z3_L1 dss b s.1 s.2.1 s.2.2) (s.1,s.2,0)=some (.inr (s'.1,s'.2))∧s'.1.length≤42∧s'.2.length=26) ∨
  (mU gs dss s=none∧∃ e,aR (fun s:aM×List Int×Int=>Z3_L1 dss b s.1 s.2.1 s.2.2) (s.1,s.2,0)=some (.inl e)∧e.2=false):=by
 unfold mU
 rcases j7 (f:=fun s:aM×List Int×Int=>Z3_L1 dss b s.1 s.2.1 s.2.2) (fun s k=>la (ix gs (k:Int)) (ix dss (k:Int)) s) (fun s i=>(s.1,s.2,i)) (fun s=>(s.1,s.2)) (fun e=>e.2=false) (fun j s=>s.1.length≤6+6*j∧s.2.length=26) gs.length
  (fun j s q r=>by
   obtain ⟨B,u⟩:=r
   simp only [Z3_L1]
   rw [l,if_pos (by simp; omega),if_pos (by omega),if_pos (by omega)]
   by_cases c:(ix gs (j:Int)).length=(ix dss (j:Int)).length
   ·rw [if_neg (by simp; omega)]
    rcases xu (m:=6+6*j) l q (D _ (bF q)) (by omega) B u c with ⟨s',h,a,a3,a4⟩|⟨h,e,a,a3⟩
    ·rw [a]
     refine .inl ⟨s',h,?_,by omega,a4⟩
     simp only [Option.bind_some,Z3_J6]
     rw [bX (by unfold bZ; omega)]
    ·rw [a]
     exact .inr ⟨h,e,rfl,a3⟩
   ·rw [if_pos (by simp; omega)]
    refine .inr ⟨by unfold la; rw [if_neg c],_,rfl,rfl⟩)
  (fun s r=>by
   simp only [Z3_L1]
   rw [l,if_neg (by simp)])
  (s:=s) ⟨by omega,h2⟩ with ⟨s',h,a,a3,a4⟩|⟨h,e,a,a3⟩
 ·exact .inl ⟨s',h,a,by omega,a4⟩
 ·exact .inr ⟨h,e,a,a3⟩
theorem tl:∀ {f:aM} {c:UInt8} {j:Nat},j<f.idxOf c→∀ h:j<f.length,f[j]≠c
 | [],_,_,_,h=>by simp at h
 | b::l,c,j,hj,h=>by
  rw [List.idxOf_cons] at hj
  cases e:b==c with
  | true=>rw [e] at hj; simp at hj
  | false =>
   rw [e] at hj
   cases j with
   | zero=>simpa using e
   | succ j=>exact tl (f:=l) (by simp at hj; omega) (by simpa using h)
theorem xw {gs:List aM}{k i:Nat}{f:aM}(m:f.length<bZ)(r:i<(ix gs (k:Int)).length):aR (fun s:Int=>Z2_L3 gs (k:Int) f (i:Int) s) 0=some ((f.idxOf (ix (ix gs (k:Int)) (i:Int)):Nat):Int):=by
 obtain ⟨c,g⟩:∃ c,c=ix (ix gs (k:Int)) (i:Int):=⟨_,rfl⟩
 rw [← g]
 have h:f.idxOf c≤f.length:=List.idxOf_le_length
 have a:bt (ix gs (k:Int)) (i:Int)=(c.toNat:Int):=by rw [g]; rfl
 have b:∀ j:Nat,(bt f (j:Int) != (c.toNat:Int))=!decide (ix f (j:Int)=c):=by
  intro j
  have:(bt f (j:Int)==(c.toNat:Int))=decide (ix f (j:Int)=c):=kQ
  unfold bne; rw [this]
 refine eT (f:=fun s:Int=>Z2_L3 gs (k:Int) f (i:Int) s) (fun j=>(j:Int)) (f.idxOf c) (fun j l=>?_) ?_ rfl
 ·have e:j<f.length:=by omega
  simp only [Z2_L3]
  rw [if_pos (fun _=>by omega),if_pos (fun _=>by omega),a,b,bX (by omega),if_pos]
  have:ix f (j:Int)≠c:=by
   rw [bU e]; exact tl l e
  simp [this]; omega
 ·simp only [Z2_L3]
  rw [if_pos (fun z=>by simp at z; omega),if_pos (fun _=>by omega),a,b,if_neg]
  by_cases q:f.idxOf c<f.length
  ·have:ix f ((f.idxOf c:Nat):Int)=c:=by rw [bU q]; exact List.getElem_idxOf q
   simp [this]
  ·simp; omega
theorem lb {lens:List Int}(h:lens.length=26){c a:UInt8}(g:97≤c.toNat∧c.toNat≤122)(b:97≤a.toNat∧a.toNat≤122)(d:Int):lk (lens.set (c.toNat - 97) d) a=if a=c then d else lk lens a:=by
 unfold lk
 have e:((a.toNat:Int) - 97)=((a.toNat - 97:Nat):Int):=by omega
 rw [e,bU (by simp; omega),List.getElem_set]
 by_cases q:a=c
 ·rw [if_pos q,if_pos (by rw [q])]
 ·have:a.toNat≠c.toNat:=fun z=>q (UInt8.toNat_inj.1 z)
  rw [if_neg q,if_neg (by omega),bU (by omega)]
theorem qt:∀ {f:aM} {c:UInt8} {g h:UInt8→Int} {d:Int},f.Nodup→c∈f→h c=d→(∀ x∈f,x≠c→h x=g x)→(f.map g).set (f.idxOf c) d=f.map h
 | [],_,_,_,_,_,hm,_,_=>by simp at hm
 | b::l,c,g,h,d,hn,hm,h1,h2=>by
  rw [List.nodup_cons] at hn
  rw [List.idxOf_cons]
  by_cases q:b=c
  ·subst q
   simp only [beq_self_eq_true,cond_true,List.map_cons,List.set_cons_zero,h1]
   congr 1
   apply List.map_congr_left
   intro x a
   exact (h2 x (List.mem_cons_of_mem _ a) (fun z=>hn.1 (z▸a))).symm
  ·have e:(b==c)=false:=by simpa using q
   have i:c∈l:=by
    rcases List.mem_cons.1 hm with z | z
    ·exact absurd z.symm q
    ·exact z
   rw [e]
   simp only [cond_false,List.map_cons,List.set_cons_succ]
   rw [qt hn.2 i h1 (fun x a j=>h2 x (List.mem_cons_of_mem _ a) j),h2 b (List.mem_cons_self ..) q]
structure IS (s:aM×List Int):Prop where
 l:s.2.length=26
 n:s.1.Nodup
 c:∀ c∈s.1,97≤c.toNat∧c.toNat≤122
 z:∀ c:UInt8,97≤c.toNat→c.toNat≤122→c ∉ s.1→lk s.2 c=0
theorem qu {s s':aM×List Int}{c:UInt8}{d:Int}(e:IS s)(i:97≤c.toNat∧c.toNat≤122)(h:kT s c d=some s'):IS s'∧s'.1.length≤s.1.length+1:=by
 unfold kT at h
 split at h
 ·cases h
 ·cases h
  by_cases q:c∈s.1
  ·simp only [if_pos q]
   refine ⟨⟨by simpa using e.l,e.n,e.c,fun x h1 h2 g=>?_⟩,by omega⟩
   rw [lb e.l i ⟨h1,h2⟩,if_neg (fun z=>g (by rw [z]; exact q))]
   exact e.z x h1 h2 g
  ·simp only [if_neg q]
   refine ⟨⟨by simpa using e.l,?_,?_,fun x h1 h2 g=>?_⟩,by simp⟩
   ·rw [List.nodup_append]
    refine ⟨e.n,by simp,?_⟩
    intro a r b j
    simp at j; subst j
    exact fun z=>q (z▸r)
   ·intro x m
    rcases List.mem_append.1 m with z | z
    ·exact e.c x z
    ·simp at z; rw [z]; exact i
   ·simp at g
    rw [lb e.l i ⟨h1,h2⟩,if_neg g.2]
    exact e.z x h1 h2 g.1
theorem px {f:aM}{g:UInt8→Int}{p:Nat}(h:p<f.length):ix (f.map g) (p:Int)=g f[p]:=by
 rw [bU (by simpa using h)]; simp
theorem tm {gs:List aM}{dss:List (List Int)}{x j:Nat}{s:aM×List Int}(m:IS s)(O:s.1.length≤100)(U:j<(ix gs (x:Int)).length)(hl:(ix gs (x:Int)).length=(ix dss (x:Int)).length)(h6:(ix gs (x:Int)).length≤6)(u:97≤(ix (ix gs (x:Int)) (j:Int)).toNat∧(ix (ix gs (x:Int)) (j:Int)).toNat≤122) :
  (∃ s',kT s (ix (ix gs (x:Int)) (j:Int)) (ix (ix dss (x:Int)) (j:Int))=some s'∧Z2_L2 gs dss (x:Int) s.1 (s.1.map (lk s.2)) (j:Int)=some (.inl (s'.1,s'.1.map (lk s'.2),((j+1:Nat):Int)))) ∨
  (kT s (ix (ix gs (x:Int)) (j:Int)) (ix (ix dss (x:Int)) (j:Int))=none∧∃ e,Z2_L2 gs dss (x:Int) s.1 (s.1.map (lk s.2)) (j:Int)=some (.inr (.inl e))∧e.2.2=false):=by
 obtain ⟨c,B⟩:∃ c,c=ix (ix gs (x:Int)) (j:Int):=⟨_,rfl⟩
 obtain ⟨d,T⟩:∃ d,d=ix (ix dss (x:Int)) (j:Int):=⟨_,rfl⟩
 rw [← B] at u ⊢
 rw [← T]
 have F:=xw (gs:=gs) (k:=x) (i:=j) (f:=s.1) (by unfold bZ; omega) U
 rw [← B] at F
 simp only [Z2_L2]
 rw [if_pos (by simp; omega),F]
 simp only [Option.bind_some]
 have Z:∀ (f:aM) (ls:List Int),f.Nodup→c∈f→s.1.idxOf c=f.idxOf c→ls=f.map (lk s.2)→(∀ y∈f,97≤y.toNat∧y.toNat≤122) →
   Z2_J9 dss (x:Int) (j:Int) ((s.1.idxOf c:Nat):Int) f ls=if lk s.2 c≠0∧lk s.2 c≠d then some (.inr (.inl ([],ls,false))) else some (.inl (f,f.map (lk (s.2.set (c.toNat - 97) d)),((j+1:Nat):Int))):=by
  intro f ls hn O hi g r
  have D:f.idxOf c<f.length:=List.idxOf_lt_length_iff.2 O
  have e:ix ls ((f.idxOf c:Nat):Int)=lk s.2 c:=by
   rw [g,px D]; congr 1; exact List.getElem_idxOf D
  have a0:ls.length=f.length:=by rw [g]; simp
  unfold Z2_J9
  rw [hi,e,← T,if_pos (by omega),if_pos (fun _=>by omega)]
  by_cases q:lk s.2 c≠0∧lk s.2 c≠d
  ·rw [if_pos q,if_pos (by simpa using q)]
  ·rw [if_neg q,if_neg (by simpa using q),if_pos (by omega),bX (by unfold bZ; omega),Int.toNat_natCast,g,qt hn O (h:=lk (s.2.set (c.toNat - 97) d))]
   ·rw [lb m.l u u,if_pos rfl]
   ·intro y L J
    rw [lb m.l u (r y L),if_neg J]
 have R:∀ f,(if c∈s.1 then s.1 else s.1++[c])=f→(∀ z,z=(if lk s.2 c≠0∧lk s.2 c≠d then some (.inr (.inl ([],f.map (lk s.2),false))) else some (.inl (f,f.map (lk (s.2.set (c.toNat - 97) d)),((j+1:Nat):Int))):Option ((aM×(List Int)×Int)⊕((aM×(List Int)×Bool)⊕(aM×(List Int))))) →
   (∃ s',kT s c d=some s'∧z=some (.inl (s'.1,s'.1.map (lk s'.2),((j+1:Nat):Int))))∨(kT s c d=none∧∃ e,z=some (.inr (.inl e))∧e.2.2=false)):=by
  intro f F z G
  unfold kT
  by_cases q:lk s.2 c≠0∧lk s.2 c≠d
  ·rw [if_pos q] at G ⊢
   exact .inr ⟨rfl,_,G,rfl⟩
  ·rw [if_neg q] at G ⊢
   rw [F]
   exact .inl ⟨_,rfl,G⟩
 unfold Z2_J8
 by_cases q:c∈s.1
 ·have D:s.1.idxOf c<s.1.length:=List.idxOf_lt_length_iff.2 q
  rw [if_neg (by simp; omega),Z s.1 _ m.n q rfl rfl m.c]
  exact R s.1 (if_pos q) _ rfl
 ·have D:s.1.idxOf c=s.1.length:=by
   have:¬ s.1.idxOf c<s.1.length:=fun z=>q (List.idxOf_lt_length_iff.1 z)
   have:s.1.idxOf c≤s.1.length:=List.idxOf_le_length
   omega
  have I:(s.1++[c]).idxOf c=s.1.length:=by
   rw [List.idxOf_append,if_neg q]; simp
  have M:(s.1++[c]).Nodup:=by
   rw [List.nodup_append]
   refine ⟨m.n,by simp,?_⟩
   intro a ha b Y
   simp at Y; subst Y
   exact fun z=>q (z▸ha)
  have r:∀ y∈s.1++[c],97≤y.toNat∧y.toNat≤122:=by
   intro y L
   rcases List.mem_append.1 L with z | z
   ·exact m.c y z
   ·simp at z; rw [z]; exact u
  have E:s.1.map (lk s.2)++[0]=(s.1++[c]).map (lk s.2):=by
   rw [List.map_append]; simp [m.z c u.1 u.2 q]
  rw [if_pos (by rw [D]; simp),bX (by unfold bZ; omega),if_pos (by omega),qr U,← B,if_pos (by simp; omega),if_pos (by simp; omega),Z (s.1++[c]) _ M (by simp) (by rw [D,I]) E r,E]
  exact R _ (if_neg q) _ rfl
theorem xx {gs:List aM}{dss:List (List Int)}{x:Nat}(r:LT (ix gs (x:Int))){m:Nat}(G:m≤90){s:aM×List Int}(h1:s.1.length≤m)(B:IS s)(u:(ix gs (x:Int)).length=(ix dss (x:Int)).length) :
  (∃ s',la (ix gs (x:Int)) (ix dss (x:Int)) s=some s'∧aR (fun s:aM×List Int×Int=>Z2_L2 gs dss (x:Int) s.1 s.2.1 s.2.2) (s.1,s.1.map (lk s.2),0)=some (.inr (s'.1,s'.1.map (lk s'.2)))∧s'.1.length≤m+6∧IS s') ∨
  (la (ix gs (x:Int)) (ix dss (x:Int)) s=none∧∃ e,aR (fun s:aM×List Int×Int=>Z2_L2 gs dss (x:Int) s.1 s.2.1 s.2.2) (s.1,s.1.map (lk s.2),0)=some (.inl e)∧e.2.2=false):=by
 unfold la
 rw [if_pos u]
 have D:=r.1
 rcases j7 (f:=fun s:aM×List Int×Int=>Z2_L2 gs dss (x:Int) s.1 s.2.1 s.2.2) (fun s k=>kT s (ix (ix gs (x:Int)) (k:Int)) (ix (ix dss (x:Int)) (k:Int))) (fun s i=>(s.1,s.1.map (lk s.2),i)) (fun s=>(s.1,s.1.map (lk s.2))) (fun e=>e.2.2=false) (fun j s=>s.1.length≤m+j∧IS s) (ix gs (x:Int)).length
  (fun j s h g=>by
   have l:=r.2 _ (bF h)
   rcases tm g.2 (by have:=g.1; omega) h u D l with ⟨s',a,b⟩ | q
   ·obtain ⟨E,F⟩:=qu g.2 l a
    exact .inl ⟨s',a,b,by have:=g.1; omega,E⟩
   ·exact .inr q)
  (fun s g=>by
   simp only [Z2_L2]
   rw [if_neg (by simp)])
  (s:=s) ⟨by omega,B⟩ with ⟨s',a,b,a3,a4⟩|⟨a,e,b,a3⟩
 ·exact .inl ⟨s',a,b,by omega,a4⟩
 ·exact .inr ⟨a,e,b,a3⟩
theorem tn {gs:List aM}{dss:List (List Int)}(D:gs.length≤6)(B:∀ g∈gs,LT g)(E:gs.length=dss.length){s:aM×List Int}(h1:s.1.length≤6)(r:IS s) :
  (∃ s',mU gs dss s=some s'∧aR (fun s:aM×List Int×Int=>Z2_L1 gs dss s.1 s.2.1 s.2.2) (s.1,s.1.map (lk s.2),0)=some (.inr (s'.1,s'.1.map (lk s'.2)))∧s'.1.length≤42∧IS s') ∨
  (mU gs dss s=none∧∃ e,aR (fun s:aM×List Int×Int=>Z2_L1 gs dss s.1 s.2.1 s.2.2) (s.1,s.1.map (lk s.2),0)=some (.inl e)∧e.2.2=false):=by
 unfold mU
 rcases j7 (f:=fun s:aM×List Int×Int=>Z2_L1 gs dss s.1 s.2.1 s.2.2) (fun s k=>la (ix gs (k:Int)) (ix dss (k:Int)) s) (fun s i=>(s.1,s.1.map (lk s.2),i)) (fun s=>(s.1,s.1.map (lk s.2))) (fun e=>e.2.2=false) (fun j s=>s.1.length≤6+6*j∧IS s) gs.length
  (fun j s q h=>by
   obtain ⟨u,l⟩:=h
   simp only [Z2_L1]
   rw [if_pos (by simp; omega),if_pos (by omega),if_pos (by omega)]
   by_cases c:(ix gs (j:Int)).length=(ix dss (j:Int)).length
   ·rw [if_neg (by simp; omega)]
    rcases xx (m:=6+6*j) (B _ (bF q)) (by omega) u l c with ⟨s',b,a,a3,a4⟩|⟨b,e,a,a3⟩
    ·rw [a]
     refine .inl ⟨s',b,?_,by omega,a4⟩
     simp only [Option.bind_some,Z2_J10]
     rw [bX (by unfold bZ; omega)]
    ·rw [a]
     exact .inr ⟨b,e,rfl,a3⟩
   ·rw [if_pos (by simp; omega)]
    refine .inr ⟨by unfold la; rw [if_neg c],_,rfl,rfl⟩)
  (fun s h=>by
   simp only [Z2_L1]
   rw [if_neg (by simp)])
  (s:=s) ⟨by omega,r⟩ with ⟨s',b,a,a3,a4⟩|⟨b,e,a,a3⟩
 ·exact .inl ⟨s',b,a,by omega,a4⟩
 ·exact .inr ⟨b,e,a,a3⟩
theorem nO {S:Type}{st:S→Nat→Option S}(I:Nat→S→Prop){s:S}(a:I 0 s):∀ (n:Nat),(∀ j s s',j<n→I j s→st s j=some s'→I (j+1) s')→∀ {s':S},pw st n s=some s'→I n s'
 | 0,_,s',h=>by cases h; exact a
 | n+1,hs,s',h=>by
  rw [pw] at h
  obtain ⟨m,h1,h2⟩:=bd h
  exact hs n m s' (by omega) (nO I a n (fun j s s' b=>hs j s s' (by omega)) h1) h2
structure Ext (s s':aM×List Int):Prop where
 i:IS s'
 p:∃ t,s'.1=s.1++t
 k:∀ c:UInt8,97≤c.toNat→c.toNat≤122→lk s.2 c≠0→lk s'.2 c=lk s.2 c
theorem Ext.rfl_ {s:aM×List Int}(h:IS s):Ext s s:=⟨h,⟨[],by simp⟩,fun _ _ _ _=>rfl⟩
theorem Ext.trans {a b c:aM×List Int}(h1:Ext a b)(h2:Ext b c):Ext a c:=by
 obtain ⟨t,e⟩:=h1.p
 obtain ⟨u,g⟩:=h2.p
 refine ⟨h2.i,⟨t++u,by rw [g,e,List.append_assoc]⟩,fun x a b h=>?_⟩
 have:=h1.k x a b h
 rw [h2.k x a b (by rw [this]; exact h),this]
theorem tp {s s':aM×List Int}{c:UInt8}{d:Int}(j:IS s)(i:97≤c.toNat∧c.toNat≤122)(h:kT s c d=some s'):Ext s s'∧c∈s'.1∧lk s'.2 c=d∧∀ x∈s'.1,x∈s.1∨x=c:=by
 have u:=(qu j i h).1
 unfold kT at h
 split at h
 ·cases h
 ·rename_i q
  cases h
  refine ⟨⟨u,?_,fun x a b r=>?_⟩,?_,?_,?_⟩
  ·by_cases m:c∈s.1
   ·exact ⟨[],by simp [m]⟩
   ·exact ⟨[c],by simp [m]⟩
  ·show lk (s.2.set _ _) x=_
   rw [lb j.l i ⟨a,b⟩]
   by_cases e:x=c
   ·subst e
    rw [if_pos rfl]
    exact Classical.byContradiction fun z=>q ⟨r,fun w=>z w.symm⟩
   ·rw [if_neg e]
  ·by_cases m:c∈s.1<;>simp [m]
  ·show lk (s.2.set _ _) c=_
   rw [lb j.l i i,if_pos rfl]
  ·intro x g
   by_cases m:c∈s.1
   ·simp only [if_pos m] at g; exact .inl g
   ·simp only [if_neg m] at g; simpa using g
theorem tq {g:aM}{ds:List Int}{s s':aM×List Int}(L:IS s)(G:LT g)(I:∀ d∈ds,d≠0)(h:la g ds s=some s') :
  Ext s s'∧g.length=ds.length∧(∀ j:Nat,j<g.length→ix g (j:Int)∈s'.1∧lk s'.2 (ix g (j:Int))=ix ds (j:Int))∧∀ x∈s'.1,x∈s.1∨x∈g:=by
 unfold la at h
 split at h
 ·rename_i T
  obtain ⟨a,b,c⟩:=nO (fun n z=>Ext s z∧(∀ j:Nat,j<n→ix g (j:Int)∈z.1∧lk z.2 (ix g (j:Int))=ix ds (j:Int))∧∀ x∈z.1,x∈s.1∨x∈g) ⟨Ext.rfl_ L,fun j D=>absurd D (Nat.not_lt_zero _),fun x B=>.inl B⟩ g.length
   (fun n z U F O M=>by
    obtain ⟨a,b,c⟩:=O
    obtain ⟨p,q,r,t⟩:=tp a.i (G.2 _ (bF F)) M
    refine ⟨a.trans p,fun j D=>?_,fun x B=>?_⟩
    ·by_cases e:j=n
     ·subst e; exact ⟨q,r⟩
     ·obtain ⟨m,l⟩:=b j (by omega)
      obtain ⟨u,J⟩:=p.p
      have E:=G.2 _ (bF (show j<g.length by omega))
      refine ⟨by rw [J]; exact List.mem_append_left _ m,?_⟩
      rw [p.k _ E.1 E.2 (by rw [l]; exact I _ (bF (by omega))),l]
    ·rcases t x B with y | y
     ·exact c x y
     ·rw [y]; exact .inr (bF F)) h
  exact ⟨a,T,b,c⟩
 ·cases h
theorem ts {gs:List aM}{dss:List (List Int)}{s s':aM×List Int}(L:IS s)(Y:gs.length=dss.length)(G:∀ g∈gs,LT g)(E:∀ ds∈dss,∀ d∈ds,d≠0)(h:mU gs dss s=some s') :
  Ext s s'∧(∀ x:Nat,x<gs.length→(ix gs (x:Int)).length=(ix dss (x:Int)).length∧∀ j:Nat,j<(ix gs (x:Int)).length→ix (ix gs (x:Int)) (j:Int)∈s'.1∧lk s'.2 (ix (ix gs (x:Int)) (j:Int))=ix (ix dss (x:Int)) (j:Int))∧∀ y∈s'.1,y∈s.1∨∃ g∈gs,y∈g:=by
 unfold mU at h
 exact nO (fun n z=>Ext s z∧(∀ x:Nat,x<n→(ix gs (x:Int)).length=(ix dss (x:Int)).length∧∀ j:Nat,j<(ix gs (x:Int)).length→ix (ix gs (x:Int)) (j:Int)∈z.1∧lk z.2 (ix (ix gs (x:Int)) (j:Int))=ix (ix dss (x:Int)) (j:Int))∧∀ y∈z.1,y∈s.1∨∃ g∈gs,y∈g) ⟨Ext.rfl_ L,fun j B=>absurd B (Nat.not_lt_zero _),fun x I=>.inl I⟩ gs.length
  (fun n z U J O M=>by
   obtain ⟨a,b,c⟩:=O
   have D:=G _ (bF J)
   obtain ⟨p,q,r,t⟩:=tq a.i D (E _ (bF (by omega))) M
   refine ⟨a.trans p,fun x I=>?_,fun y T=>?_⟩
   ·by_cases e:x=n
    ·subst e; exact ⟨q,r⟩
    ·obtain ⟨l,m⟩:=b x (by omega)
     refine ⟨l,fun j B=>?_⟩
     obtain ⟨u,v⟩:=m j B
     obtain ⟨w,hw⟩:=p.p
     have F:=(G _ (bF (show x<gs.length by omega))).2 _ (bF B)
     refine ⟨by rw [hw]; exact List.mem_append_left _ u,?_⟩
     rw [p.k _ F.1 F.2 (by rw [v]; exact E _ (bF (by omega)) _ (bF (by omega))),v]
   ·rcases t y T with w | w
    ·exact c y w
    ·exact .inr ⟨_,bF J,w⟩) h
theorem uU {ds:List Int}{k:Int}(M:ds.length≤100)(h1:∀ d∈ds,1≤d∧d≤4096)(g:0≤k)(l:k≤65536):Zh ds k=some (gT ds k):=by
 have a:∀ j,1≤pr (ds.drop j):=fun j=>fE fun d e=>(h1 d (List.mem_of_mem_drop e)).1
 unfold Zh
 rw [if_pos (by omega)]
 have:=eT (f:=fun s:Int×List Int×Int=>Zh_L1 ds s.1 s.2.1 s.2.2) (r:=gT ds k)
  (fun j=>(k / pr (ds.drop (ds.length - j)),List.replicate (ds.length - j) 0++gT (ds.drop (ds.length - j)) k,(ds.length:Int) - 1 - j)) ds.length
  (fun j L=>by
   obtain ⟨i,u⟩:∃ i,i=ds.length - (j+1):=⟨_,rfl⟩
   have G:ds.length - j=i+1:=by omega
   have D:(ds.length:Int) - 1 - (j:Int)=(i:Int):=by omega
   have b:i<ds.length:=by omega
   have F:=h1 _ (bF b)
   have J:=a (i+1)
   have e:ds.drop i=ix ds (i:Int)::ds.drop (i+1):=by rw [List.drop_eq_getElem_cons b,bU b]
   have h:0≤k / pr (ds.drop (i+1)):=Int.ediv_nonneg g (by omega)
   have B:k / pr (ds.drop (i+1))≤65536:=Int.le_trans (Int.ediv_le_self _ g) l
   simp only [Zh_L1,G,D,← u]
   rw [if_pos (by simp),if_pos (by omega),if_pos (by omega),if_pos (by simp; omega)]
   have m:(k / pr (ds.drop (i+1))).tdiv (ix ds (i:Int))=k / pr (ds.drop i):=by
    rw [Int.tdiv_eq_ediv_of_nonneg h,e]; exact (sC J F.1).1.symm
   have q:(k / pr (ds.drop (i+1))).tmod (ix ds (i:Int))=k / pr (ds.drop (i+1)) % ix ds (i:Int):=Int.tmod_eq_emod_of_nonneg h
   have E:0≤k / pr (ds.drop i):=Int.ediv_nonneg g (by have:=a i; omega)
   have I:k / pr (ds.drop i)≤65536:=Int.le_trans (Int.ediv_le_self _ g) l
   rw [m,q,bA (by omega) (by omega),bA (by omega) (by omega)]
   congr 4
   ·rw [e,List.set_append_left _ _ (by simp),List.replicate_succ',List.set_append_right _ _ (by simp)]
    simp [gT]
   ·omega)
  (by
   simp only [Zh_L1,Nat.sub_self,List.drop_zero,List.replicate_zero,List.nil_append]
   rw [if_neg (by simp; omega)])
  (s:=(k,List.replicate (ds.length:Int).toNat 0,aH ((ds.length:Int) - 1))) (by
   rw [bA (by omega) (by omega)]
   simp [pr,gT])
 rw [this]
 rfl
def wk (ls:List Int)(s:Int)(j:Nat):Option Int:=if s*ix ls (j:Int)>65536 then none else some (s*ix ls (j:Int))
theorem qv {ls:List Int}{j:Nat}(h:j<ls.length):pr (ls.take (j+1))=pr (ls.take j)*ix ls (j:Int):=by
 rw [List.take_succ_eq_append_getElem h,mA,bU h]; simp [pr]
theorem Bh {ls:List Int}(h:∀ d∈ls,1≤d):∀ n,n≤ls.length→pw (wk ls) n 1=if pr (ls.take n)≤65536 then some (pr (ls.take n)) else none
 | 0,_=>by simp [pw,pr]
 | n+1,hn=>by
  have i:1≤pr (ls.take n):=fE fun d g=>h d (List.mem_of_mem_take g)
  have g:=h _ (bF (show n<ls.length by omega))
  rw [pw,Bh h n (by omega),qv (by omega)]
  by_cases c:pr (ls.take n)≤65536
  ·rw [if_pos c]
   simp only [Option.bind_some,wk]
   by_cases e:pr (ls.take n)*ix ls (n:Int)≤65536
   ·rw [if_neg (by omega),if_pos e]
   ·rw [if_pos (by omega),if_neg e]
  ·rw [if_neg c,if_neg]
   ·rfl
   ·have:=iK (a:=pr (ls.take n)) (b:=ix ls (n:Int)) (by omega) g
    omega
theorem xy {ls:List Int}(u:ls.length≤100)(h:∀ d∈ls,1≤d∧d≤4096) :
  (pr ls≤65536∧aR (fun s:Int×Int=>Z2_L4 ls s.1 s.2) (1,0)=some (.inr ())) ∨
  (¬ pr ls≤65536∧∃ e,aR (fun s:Int×Int=>Z2_L4 ls s.1 s.2) (1,0)=some (.inl e)∧e.2.2=false):=by
 have g:=Bh (fun d l=>(h d l).1) ls.length (Nat.le_refl _)
 rw [List.take_length] at g
 rcases j7 (f:=fun s:Int×Int=>Z2_L4 ls s.1 s.2) (wk ls) (fun s i=>(s,i)) (fun _=>()) (fun e=>e.2.2=false) (fun j s=>1≤s∧s≤65536) ls.length
  (fun j s r m=>by
   have q:=h _ (bF r)
   simp only [Z2_L4]
   rw [if_pos (by simp; omega),if_pos (by omega),iy (by omega) (by omega) (by omega) (by omega),bX (by unfold bZ; omega)]
   unfold wk
   by_cases c:s*ix ls (j:Int)>65536
   ·rw [if_pos c,if_pos (decide_eq_true c)]
    exact .inr ⟨rfl,_,rfl,rfl⟩
   ·rw [if_neg c,if_neg (by simpa using c)]
    have:=iK (a:=s) (b:=ix ls (j:Int)) (by omega) q.1
    exact .inl ⟨_,rfl,rfl,by omega,by omega⟩)
  (fun s m=>by simp only [Z2_L4]; rw [if_neg (by simp)])
  (s:=1) ⟨by omega,by omega⟩ with ⟨s',a1,a2,a3⟩|⟨a1,e,a2,a3⟩
 ·rw [g] at a1
  refine .inl ⟨?_,a2⟩
  split at a1
  ·assumption
  ·cases a1
 ·rw [g] at a1
  refine .inr ⟨?_,e,a2,a3⟩
  split at a1
  ·cases a1
  ·assumption
theorem xz {f:aM}{lens:List Int}(I:f.length≤100)(G:∀ c∈f,97≤c.toNat∧c.toNat≤122)(h:∀ d∈f.map (lk lens),1≤d∧d≤4096) :
  (pr (f.map (lk lens))≤65536∧aR (fun s:List Int×Int×Int=>Z3_L3 f lens s.1 s.2.1 s.2.2) ([],1,0)=some (.inr (f.map (lk lens)))) ∨
  (¬ pr (f.map (lk lens))≤65536∧∃ e,aR (fun s:List Int×Int×Int=>Z3_L3 f lens s.1 s.2.1 s.2.2) ([],1,0)=some (.inl e)∧e.2=false):=by
 obtain ⟨ls,g⟩:∃ ls,ls=f.map (lk lens):=⟨_,rfl⟩
 rw [← g] at h ⊢
 have E:ls.length=f.length:=by rw [g]; simp
 have q:=Bh (fun d r=>(h d r).1) ls.length (Nat.le_refl _)
 rw [List.take_length] at q
 rcases j7 (f:=fun s:List Int×Int×Int=>Z3_L3 f lens s.1 s.2.1 s.2.2) (wk ls) (fun s i=>(ls.take i.toNat,s,i)) (fun _=>ls) (fun e=>e.2=false) (fun j s=>1≤s∧s≤65536) ls.length
  (fun j s l D=>by
   have F:=h _ (bF l)
   have B:=G _ (bF (show j<f.length by omega))
   have u:ix lens (((ix f (j:Int)).toNat:Int) - 97)=ix ls (j:Int):=by
    rw [g,px (by omega),bU (xs:=f) (by omega)]; rfl
   have m:bt f (j:Int)=((ix f (j:Int)).toNat:Int):=rfl
   simp only [Z3_L3]
   rw [if_pos (by simp; omega),if_pos (by omega),m,tj B,if_pos (by omega),u,if_pos (by simp; omega),iy (by omega) (by omega) (by omega) (by omega),bX (by unfold bZ; omega)]
   unfold wk
   by_cases c:s*ix ls (j:Int)>65536
   ·rw [if_pos c,if_pos (decide_eq_true c)]
    exact .inr ⟨rfl,_,rfl,rfl⟩
   ·rw [if_neg c,if_neg (by simpa using c)]
    have:=iK (a:=s) (b:=ix ls (j:Int)) (by omega) F.1
    refine .inl ⟨_,rfl,?_,by omega,by omega⟩
    rw [Int.toNat_natCast,Int.toNat_natCast,List.take_succ_eq_append_getElem l,bU l])
  (fun s D=>by simp only [Z3_L3]; rw [if_neg (by simp; omega)]; simp)
  (s:=1) ⟨by omega,by omega⟩ with ⟨s',a1,a2,a3⟩|⟨a1,e,a2,a3⟩
 ·rw [q] at a1
  refine .inl ⟨?_,a2⟩
  split at a1
  ·assumption
  ·cases a1
 ·rw [q] at a1
  refine .inr ⟨?_,e,a2,a3⟩
  split at a1
  ·cases a1
  ·assumption
theorem ng {f:form}{g:aM}{p:List Int}(m:f.order.length≤100)(q:g.length≤p.length)(l:p.length≤100):∃ r,Zj f g p=some r:=by
 unfold Zj
 rw [if_pos (by omega)]
 obtain ⟨r,h1,h2⟩:=hW (f:=fun s:List Int×Int=>Zj_L1 f g p s.1 s.2) (fun j s=>s.1.length=f.order.length∧s.2=(j:Int)) f.order.length (Post:=fun _=>True)
  (fun j s e a=>by
   obtain ⟨x,i⟩:=s
   obtain ⟨h1,rfl⟩:=a
   dsimp only at h1
   simp only [Zj_L1]
   rw [if_pos (by simp; omega)]
   obtain ⟨r,g1,b⟩:=hW (f:=fun s:List Int×Int=>Zj_L2 f g p (j:Int) s.1 s.2) (fun k s=>s.1.length=f.order.length∧s.2=(k:Int)) g.length (Post:=fun r=>r.length=f.order.length)
    (fun k s h a=>by
     obtain ⟨x,i⟩:=s
     obtain ⟨h1,rfl⟩:=a
     dsimp only at h1
     simp only [Zj_L2,Zj_J5]
     rw [if_pos (by simp; omega),if_pos (by omega),if_pos (by omega)]
     split
     ·rw [if_pos (by simp; omega),if_pos (by omega)]
      exact ⟨_,rfl,by simpa using h1,by rw [bX (by unfold bZ; omega)]⟩
     ·exact ⟨_,rfl,h1,by rw [bX (by unfold bZ; omega)]⟩)
    (fun s a=>by
     obtain ⟨x,i⟩:=s
     obtain ⟨h1,rfl⟩:=a
     simp only [Zj_L2]
     rw [if_neg (by simp)]
     exact ⟨_,rfl,h1⟩)
    (s:=(x,0)) ⟨h1,rfl⟩
   rw [g1]
   exact ⟨_,rfl,b,by rw [bX (by unfold bZ; omega)]⟩)
  (fun s a=>by
   obtain ⟨x,i⟩:=s
   obtain ⟨h1,rfl⟩:=a
   simp only [Zj_L1]
   rw [if_neg (by simp)]
   exact ⟨_,rfl,trivial⟩)
  (s:=(List.replicate (f.order.length:Int).toNat 0,0)) ⟨by simp,rfl⟩
 rw [h1]
 exact ⟨r,rfl⟩
def oI (gs:List aM)(o:aM)(dss:List (List Int))(s:aM×List Int):Prop:=mU gs dss (o,List.replicate 26 0)=some s∧pr (s.1.map (lk s.2))≤65536
theorem py {o:aM}(a:o.Nodup)(b:∀ c∈o,97≤c.toNat∧c.toNat≤122):IS (o,List.replicate 26 0):=by
 refine ⟨rfl,a,b,fun c h1 h2 _=>?_⟩
 unfold lk
 have e:((c.toNat:Int) - 97)=((c.toNat - 97:Nat):Int):=by omega
 rw [e,bU (by rw [List.length_replicate]; omega)]
 exact List.getElem_replicate _
theorem uV {o:aM}(a:∀ c∈o,97≤c.toNat∧c.toNat≤122):List.replicate (o.length:Int).toNat (0:Int)=o.map (lk (List.replicate 26 0)):=by
 rw [Int.toNat_natCast]
 symm
 rw [List.eq_replicate_iff]
 refine ⟨by simp,fun b g=>?_⟩
 obtain ⟨c,h,rfl⟩:=List.mem_map.1 g
 obtain ⟨h1,h2⟩:=a c h
 unfold lk
 have e:((c.toNat:Int) - 97)=((c.toNat - 97:Nat):Int):=by omega
 rw [e,bU (by rw [List.length_replicate]; omega)]
 exact List.getElem_replicate _
theorem mI {gs:List aM}{o:aM}(h:∀ i∈List.range o.length,OL gs o i):o.Nodup:=by
 refine List.pairwise_iff_getElem.2 fun i j g a b e=>?_
 have:=(h j (List.mem_range.2 a)).2
 rw [bU a] at this
 refine this ?_
 rw [← e,List.mem_take_iff_getElem]
 exact ⟨i,by omega,rfl⟩
structure Laid (gs:List aM)(o:aM)(dss:List (List Int))(s:aM×List Int):Prop where
 i:IS s
 l:s.1.length≤42
 p:∃ t,s.1=o++t
 g:∀ x:Nat,x<gs.length→(ix gs (x:Int)).length=(ix dss (x:Int)).length∧∀ j:Nat,j<(ix gs (x:Int)).length→ix (ix gs (x:Int)) (j:Int)∈s.1∧lk s.2 (ix (ix gs (x:Int)) (j:Int))=ix (ix dss (x:Int)) (j:Int)
 d:∀ d∈s.1.map (lk s.2),1≤d∧d≤4096
theorem nP {gs:List aM}{o:aM}{dss:List (List Int)}{s:aM×List Int}(hp:PO gs o)(Y:gs.length=dss.length)(I:∀ ds∈dss,dZ ds)(h:mU gs dss (o,List.replicate 26 0)=some s):Laid gs o dss s:=by
 obtain ⟨p1,O,T,L⟩:=hp
 have J:=py (mI L) O.2
 obtain ⟨a,b,c⟩:=ts J Y T (fun ds F d E=>by have:=(I ds F).2.1 d E; omega) h
 have m:s.1.length≤42:=by
  rcases tn p1 T Y (s:=(o,List.replicate 26 0)) O.1 J with ⟨s',r,_,Z,_⟩|⟨r,_⟩
  ·rw [h] at r; cases r; exact Z
  ·rw [h] at r; cases r
 refine ⟨a.i,m,a.p,b,fun d G=>?_⟩
 obtain ⟨y,hy,rfl⟩:=List.mem_map.1 G
 have:∃ g∈gs,y∈g:=by
  rcases c y hy with q | q
  ·obtain ⟨k,U,e⟩:=List.getElem_of_mem q
   have:=(L k (List.mem_range.2 U)).1
   rw [bU U,e] at this
   exact this
  ·exact q
 obtain ⟨g,hg,D⟩:=this
 obtain ⟨x,M,rfl⟩:=List.getElem_of_mem hg
 obtain ⟨j,u,rfl⟩:=List.getElem_of_mem D
 have B:=b x M
 rw [bU M] at B
 have l:=(B.2 j u).2
 rw [bU u] at l
 rw [l]
 exact (I _ (bF (show x<dss.length by omega))).2.mem (bF (by rw [← B.1]; exact u))
theorem rj {gs:List aM}{o:aM}{dss:List (List Int)}(E:PO gs o)(q:gs.length=dss.length)(r:∀ ds∈dss,dZ ds) :
  (∃ s,oI gs o dss s∧Z2 gs o dss=some (s.1,s.1.map (lk s.2),true))∨((∀ s,¬ oI gs o dss s)∧∃ e,Z2 gs o dss=some e∧e.2.2=false):=by
 obtain ⟨p1,b,m,l⟩:=E
 have B:=py (mI l) b.2
 have F:=b.1
 unfold Z2
 rw [if_pos (by omega),uV b.2]
 rcases tn p1 m q (s:=(o,List.replicate 26 0)) b.1 B with ⟨s,g,a,a3,a4⟩|⟨g,e,a,a3⟩
 ·have u:=nP ⟨p1,b,m,l⟩ q r g
  simp only at a
  rw [a]
  simp only [Option.bind_some,Z2_J11]
  rcases xy (ls:=s.1.map (lk s.2)) (by simp; omega) u.d with ⟨j,i⟩|⟨j,e,i,D⟩
  ·rw [i]
   exact .inl ⟨s,⟨g,j⟩,rfl⟩
  ·rw [i]
   refine .inr ⟨fun s' h=>?_,e,rfl,D⟩
   have:=h.1
   rw [g] at this; cases this
   exact j h.2
 ·simp only at a
  rw [a]
  refine .inr ⟨fun s' h=>?_,e,rfl,a3⟩
  have:=h.1
  rw [g] at this; cases this
theorem tt {f:aM}{dss:List (List Int)}(hb:f.length≤1048576)(U:∀ ds∈dss,dZ ds) :
  ((parts f).2.2=true∧(parts f).1.length=dss.length∧∃ s,oI (parts f).1 (parts f).2.1 dss s∧dZ ((s.1.map (lk s.2)).take (parts f).2.1.length)∧∃ r,Z3 f dss=some (r,true)∧r.dims=(s.1.map (lk s.2)).take (parts f).2.1.length) ∨
  (¬ ((parts f).2.2=true∧(parts f).1.length=dss.length∧∃ s,oI (parts f).1 (parts f).2.1 dss s∧dZ ((s.1.map (lk s.2)).take (parts f).2.1.length))∧∃ r,Z3 f dss=some (r,false)):=by
 obtain ⟨b,D⟩:∃ b,b=parts f:=⟨_,rfl⟩
 have O:b.2.2=true→PO b.1 b.2.1:=by
  rw [D]; unfold parts
  split
  ·intro h; cases h
  ·split
   ·intro _; assumption
   ·intro h; cases h
 unfold Z3
 rw [uT hb,← D]
 simp only [Option.bind_some]
 by_cases m:b.2.2=true∧b.1.length=dss.length
 ·obtain ⟨m,E⟩:=m
  rw [if_neg (by simp [m,E])]
  have hP:=O m
  obtain ⟨p1,M,T,Z⟩:=hP
  have hs:=py (mI Z) M.2
  rcases xv (gs:=b.1) (b:=b) (dss:=dss) rfl p1 T E (s:=(b.2.1,List.replicate 26 0)) M.1 rfl with ⟨s,u,B,a3,a4⟩|⟨u,e,B,a3⟩
  ·have a:=nP ⟨p1,M,T,Z⟩ E U u
   simp only at B
   rw [B]
   simp only [Option.bind_some,Z3_J7]
   rcases xz (f:=s.1) (lens:=s.2) (by omega) a.i.c a.d with ⟨L,J⟩|⟨L,e,J,w3⟩
   ·rw [J]
    simp only [Option.bind_some,Z3_J8]
    obtain ⟨t,ht⟩:=a.p
    have a5:b.2.1.length≤(s.1.map (lk s.2)).length:=by rw [ht]; simp
    have a0:(s.1.map (lk s.2)).length≤42:=by simpa using a.l
    rw [if_pos (by omega),kN,gF (by simp; omega)]
    simp only [Option.bind_some]
    rw [gS (by simp only [List.length_take]; unfold bZ; omega)]
    simp only [Option.bind_some]
    by_cases c3:dZ ((s.1.map (lk s.2)).take b.2.1.length)
    ·rw [decide_eq_true c3,if_neg (by simp)]
     refine .inl ⟨m,E,s,⟨u,L⟩,c3,?_⟩
     obtain ⟨r,h1,_⟩:=hW (f:=fun z:List (List Int)×Int=>Z3_L4 dss b s.1 (s.1.map (lk s.2)) ((s.1.map (lk s.2)).take b.2.1.length) z.1 z.2) (fun j z=>z.1.length=j∧z.2=(j:Int)) b.1.length (Post:=fun _=>True)
      (fun j z Y F=>by
       obtain ⟨x,i⟩:=z
       obtain ⟨h1,rfl⟩:=F
       dsimp only at h1
       simp only [Z3_L4]
       have I:=U _ (bF (show j<dss.length by omega))
       rw [if_pos (by simp; omega),if_pos (by omega),if_pos (by omega),nC I]
       simp only [Option.bind_some]
       have a7:=(a.g j Y).1
       have a6:=(T _ (bF Y)).1
       obtain ⟨q,G⟩:=ng (f:=(⟨b.1,b.2.1,s.1,s.1.map (lk s.2),(s.1.map (lk s.2)).take b.2.1.length,x,[]⟩:form)) (g:=ix b.1 (j:Int)) (p:=eH (ix dss (j:Int))) (by have:=a.l; show s.1.length≤100; omega) (by rw [dE]; omega) (by rw [dE]; omega)
       rw [G]
       simp only [Option.bind_some]
       rw [if_pos (by simp; omega),bX (by unfold bZ; omega)]
       exact ⟨_,rfl,by simp; omega,rfl⟩)
      (fun z F=>by
       obtain ⟨x,i⟩:=z
       obtain ⟨h1,rfl⟩:=F
       simp only [Z3_L4]
       rw [if_neg (by simp)]
       exact ⟨_,rfl,trivial⟩)
      (s:=([],0)) ⟨rfl,rfl⟩
     rw [h1]
     simp only [Option.bind_some,Z3_J9]
     rw [nC c3]
     simp only [Option.bind_some]
     obtain ⟨q,G⟩:=ng (f:=(⟨b.1,b.2.1,s.1,s.1.map (lk s.2),(s.1.map (lk s.2)).take b.2.1.length,r,[]⟩:form)) (g:=b.2.1) (p:=eH ((s.1.map (lk s.2)).take b.2.1.length)) (by have:=a.l; show s.1.length≤100; omega) (by rw [dE]; simp only [List.length_take]; omega) (by rw [dE]; simp only [List.length_take]; omega)
     rw [G]
     exact ⟨_,rfl,rfl⟩
    ·rw [decide_eq_false c3,if_pos (by simp)]
     refine .inr ⟨?_,_,rfl⟩
     rintro ⟨_,_,s',h1,h2⟩
     have:=h1.1
     rw [u] at this; cases this
     exact c3 h2
   ·rw [J]
    obtain ⟨e1,e2⟩:=e
    simp only at w3; subst w3
    refine .inr ⟨?_,_,rfl⟩
    rintro ⟨_,_,s',h1,h2⟩
    have:=h1.1
    rw [u] at this; cases this
    exact L h1.2
  ·simp only at B
   rw [B]
   obtain ⟨e1,e2⟩:=e
   simp only at a3; subst a3
   refine .inr ⟨?_,_,rfl⟩
   rintro ⟨_,_,s',h1,h2⟩
   have:=h1.1
   rw [u] at this; cases this
 ·rw [if_pos]
  ·exact .inr ⟨fun z=>m ⟨z.1,z.2.1⟩,_,rfl⟩
  ·cases q:b.2.2
   ·rfl
   ·have:b.1.length≠dss.length:=fun z=>m ⟨q,z⟩
    simp; omega
theorem tu {g f:aM}{vs:List Int}(M:g.length≤6)(L:f.length≤42)(J:vs.length=f.length)(G:f.Nodup)(I:∀ c∈g,c∈f):Ze g f vs=some (g.map fun c=>ix vs ((f.idxOf c:Nat):Int)):=by
 unfold Ze
 rw [eT (f:=fun s:List Int×Int=>Ze_L1 g f vs s.1 s.2) (r:=g.map fun c=>ix vs ((f.idxOf c:Nat):Int)) (fun i=>((g.take i).map fun c=>ix vs ((f.idxOf c:Nat):Int),(i:Int))) g.length
  (fun i l=>by
   obtain ⟨c,j⟩:∃ c,c=g[i]:=⟨_,rfl⟩
   have m:ix g (i:Int)=c:=by rw [bU l,j]
   have B:c∈f:=I c (by rw [j]; exact List.getElem_mem l)
   have F:f.idxOf c<f.length:=List.idxOf_lt_length_iff.2 B
   obtain ⟨h,b⟩:∃ h,h=(g.take i).map fun c=>ix vs ((f.idxOf c:Nat):Int):=⟨_,rfl⟩
   have D:h.length≤6:=by rw [b]; simp; omega
   simp only [Ze_L1]
   rw [if_pos (by simp; omega),← b]
   rw [eT (f:=fun s:List Int×Int=>Ze_L2 g f vs (i:Int) s.1 s.2) (r:=h++[ix vs ((f.idxOf c:Nat):Int)]) (fun k=>(h++(if f.idxOf c<k then [ix vs ((f.idxOf c:Nat):Int)] else []),(k:Int))) f.length
    (fun k E=>by
     have u:(bt f (k:Int)==bt g (i:Int))=decide (f[k]=c):=by
      rw [show bt f (k:Int)=((ix f (k:Int)).toNat:Int) from rfl,show bt g (i:Int)=((ix g (i:Int)).toNat:Int) from rfl,kQ,m,bU E]
     have a:f[k]=c↔f.idxOf c=k:=by
      constructor
      ·intro e
       rw [← e]
       exact G.idxOf_getElem k E
      ·intro e; subst e; exact List.getElem_idxOf F
     simp only [Ze_L2,Ze_J5]
     rw [if_pos (by simp; omega),if_pos (by omega),if_pos (by omega),u,bX (by unfold bZ; omega)]
     by_cases q:f.idxOf c=k
     ·rw [if_pos (decide_eq_true (a.2 q)),if_pos (by omega),if_neg (show ¬ f.idxOf c<k by omega),if_pos (show f.idxOf c<k+1 by omega),List.append_nil,if_pos (by simp; omega),q]
     ·rw [if_neg (by simpa using fun z=>q (a.1 z))]
      by_cases r:f.idxOf c<k
      ·rw [if_pos r,if_pos (by omega)]
      ·rw [if_neg r,if_neg (by omega)])
    (by simp only [Ze_L2]; rw [if_neg (by simp),if_pos F])
    (s:=(h,0)) (by simp)]
   simp only [Option.bind_some,Ze_J6]
   rw [bX (by unfold bZ; omega),List.take_succ_eq_append_getElem l,List.map_append,← b,← j]
   rfl)
  (by simp only [Ze_L1]; rw [if_neg (by simp),List.take_length])
  (s:=([],0)) rfl]
 rfl
theorem zN {ds is:List Int}(h:IV ds is){j:Nat}(a:j<ds.length):0≤ix is (j:Int)∧ix is (j:Int)<ix ds (j:Int):=by
 induction ds generalizing is j with
 | nil=>simp at a
 | cons d ds ih=>cases is with
  | nil=>exact h.elim
  | cons i is =>
   cases j with
   | zero=>simpa [ix] using h.1
   | succ j =>
    have:=ih h.2 (j:=j) (by simpa using a)
    simpa [ix] using this
theorem zO {ds is:List Int}(a:is.length=ds.length)(h:∀ j:Nat,j<ds.length→0≤ix is (j:Int)∧ix is (j:Int)<ix ds (j:Int)):IV ds is:=by
 induction ds generalizing is with
 | nil=>cases is with
  | nil=>trivial
  | cons=>simp at a
 | cons d ds ih=>cases is with
  | nil=>simp at a
  | cons i is =>
   refine ⟨by simpa [ix] using h 0 (by simp),ih (by simpa using a) fun j b=>?_⟩
   have:=h (j+1) (by simpa using b)
   simpa [ix] using this
theorem mJ {ls:List Int}(h:∀ d∈ls,1≤d)(k:Nat):1≤pr (ls.take k)∧pr (ls.take k)≤pr ls:=by
 have h2:1≤pr (ls.drop k):=fE fun d a=>h d (List.mem_of_mem_drop a)
 have b:1≤pr (ls.take k):=fE fun d a=>h d (List.mem_of_mem_take a)
 exact ⟨b,by rw [gE ls k]; exact iK (by omega) h2⟩
def tv (f:aM)(dss:List (List Int))(s:aM×List Int):Prop:=(parts f).2.2=true∧(parts f).1.length=dss.length∧oI (parts f).1 (parts f).2.1 dss s∧dZ ((s.1.map (lk s.2)).take (parts f).2.1.length)
theorem pz {f:aM}{D:List Tensor}(hb:f.length≤1048576)(ht:∀ t∈D,TT t)(hn:D.length≤6) :
  (∃ s,tv f (D.map Tensor.Dims) s∧∃ d,Z5 f D=some ⟨(s.1.map (lk s.2)).take (parts f).2.1.length,d⟩∧TOk ((s.1.map (lk s.2)).take (parts f).2.1.length) d)∨((¬ ∃ s,tv f (D.map Tensor.Dims) s)∧Z5 f D=some ⟨[],[]⟩):=by
 obtain ⟨dss,B⟩:∃ dss,dss=D.map Tensor.Dims:=⟨_,rfl⟩
 have hd:∀ ds∈dss,dZ ds:=by
  intro ds h
  rw [B] at h
  obtain ⟨t,h1,rfl⟩:=List.mem_map.1 h
  exact (ht t h1).d
 have ah:dss.length=D.length:=by rw [B]; simp
 rw [← B]
 unfold tv
 obtain ⟨b,Y⟩:∃ b,b=parts f:=⟨_,rfl⟩
 have a7:b.2.2=true→PO b.1 b.2.1:=by
  rw [Y]; unfold parts
  split
  ·intro h; cases h
  ·split
   ·intro _; assumption
   ·intro h; cases h
 unfold Z5
 rw [uR hb,← Y]
 simp only [Option.bind_some]
 by_cases O:b.2.2=true∧b.1.length=dss.length
 ·obtain ⟨O,c2⟩:=O
  rw [if_neg (by simp [O]; omega)]
  have hP:=a7 O
  have a6:=hP
  obtain ⟨p1,p2,p3,p4⟩:=a6
  have L1:aR (fun s:List (List Int)×Int=>Z5_L1 D s.1 s.2) ([],0)=some (Sum.inr dss):=by
   refine eT (f:=fun s:List (List Int)×Int=>Z5_L1 D s.1 s.2) (fun k=>((D.take k).map Tensor.Dims,(k:Int))) D.length (fun k G=>?_) ?_ rfl
   ·simp only [Z5_L1]
    rw [if_pos (by simp; omega),if_pos (by omega),ph (ht _ (bF G))]
    simp only [Option.bind_some]
    rw [if_neg (by simp),if_pos (by simp; omega),bX (by unfold bZ; omega),List.take_succ_eq_append_getElem G,List.map_append,bU G]
    rfl
   ·simp only [Z5_L1]
    rw [if_neg (by simp),List.take_length,← B]
  rw [L1]
  simp only [Option.bind_some,Z5_J1]
  rcases rj hP c2 hd with ⟨s,h1,h2⟩|⟨h1,e,h2,h3⟩
  ·rw [h2]
   simp only [Option.bind_some]
   have hL:=nP hP c2 hd h1.1
   obtain ⟨ls,E⟩:∃ ls,ls=s.1.map (lk s.2):=⟨_,rfl⟩
   have Z:ls.length=s.1.length:=by rw [E]; simp
   have a0:=hL.l
   have I:=hL.d
   obtain ⟨t,U⟩:=hL.p
   have ac:b.2.1.length≤ls.length:=by rw [Z,U]; simp
   have a9:=h1.2
   rw [← E] at a9 I ⊢
   have J:∀ d∈ls,1≤d:=fun d h=>(I d h).1
   rw [if_pos (fun _=>by omega)]
   simp only [bP,Bool.not_true,Bool.not_false,cond_true,Bool.false_or]
   rw [kN,fX (by simp only [List.length_take]; unfold bZ; omega)]
   simp only [Option.bind_some]
   obtain ⟨a,F⟩:∃ a,a=ls.take b.2.1.length:=⟨_,rfl⟩
   rw [← F]
   by_cases c3:dZ a
   ·rw [decide_eq_true c3,if_neg (by simp),if_pos (by omega),kI c3]
    simp only [Option.bind_some]
    refine .inl ⟨s,⟨O,c2,h1,by rw [← E,← F]; exact c3⟩,?_⟩
    rw [← E,← F]
    have L2:aR (fun z:Int×Int=>Z5_L2 (s.1,ls,true) z.1 z.2) (1,0)=some (pr ls):=by
     refine eT (f:=fun z:Int×Int=>Z5_L2 (s.1,ls,true) z.1 z.2) (fun k=>(pr (ls.take k),(k:Int))) ls.length (fun k G=>?_) ?_ (by simp [pr])
     ·have a1:=mJ J k
      have a2:=mJ J (k+1)
      have a3:=I _ (bF G)
      simp only [Z5_L2]
      rw [if_pos (by simp; omega),if_pos (by omega),iy (by omega) (by omega) (by omega) (by omega),bX (by unfold bZ; omega),qv G]
     ·simp only [Z5_L2]
      rw [if_neg (by simp),List.take_length]
    rw [L2]
    simp only [Option.bind_some,Z5_J2]
    have ai:=fE J
    have ag:=c3.2.pos
    obtain ⟨r,q1,q2⟩:=kL (f:=fun z:List Int×Int=>Z5_L3 D b (s.1,ls,true) ⟨a,List.replicate (pr a).toNat 0⟩ (pr ls) z.1 z.2) (Post:=fun r=>RG (pr a).toNat r) (pr a).toNat (pr ls).toNat
     (fun j hj x hx=>by
      have ak:(j:Int)<pr ls:=by omega
      simp only [Z5_L3]
      rw [if_pos (by simp; omega),uU (by omega) I (by omega) (by omega)]
      simp only [Option.bind_some]
      have hI:=gU J (j:Int)
      obtain ⟨vs,a5⟩:∃ vs,vs=gT ls (j:Int):=⟨_,rfl⟩
      rw [← a5] at hI ⊢
      have aj:=hI.len
      obtain ⟨p,g1,_⟩:=hW (f:=fun z:Int×Int=>Z5_L4 D b (s.1,ls,true) vs z.1 z.2) (fun k z=>z.2=(k:Int)) b.1.length (Post:=fun _=>True)
       (fun k z G hz=>by
        obtain ⟨y,i⟩:=z
        dsimp only at hz; subst hz
        simp only [Z5_L4]
        have T:k<D.length:=by omega
        obtain ⟨e1,e2⟩:=hL.g k G
        have a4:ix dss (k:Int)=(ix D (k:Int)).Dims:=by rw [B,bU (by simpa using T),bU T]; simp
        have aa:=p3 _ (bF G)
        rw [if_pos (by simp; omega),if_pos (by omega),if_pos (by omega),tu aa.1 a0 (by omega) hL.i.n (fun c hc=>by
         obtain ⟨m,hm,rfl⟩:=List.getElem_of_mem hc
         have:=(e2 m hm).1
         rwa [bU hm] at this)]
        simp only [Option.bind_some]
        obtain ⟨w,w1,_⟩:=n6 (ht _ (bF T)) (is:=(ix b.1 (k:Int)).map fun c=>ix vs ((s.1.idxOf c:Nat):Int)) (by
         rw [← a4]
         refine zO (by simp [e1]) fun m hm=>?_
         have M:m<(ix b.1 (k:Int)).length:=by omega
         obtain ⟨f1,f2⟩:=e2 m M
         have hp:s.1.idxOf (ix (ix b.1 (k:Int)) (m:Int))<s.1.length:=List.idxOf_lt_length_iff.2 f1
         have hv:=zN hI (j:=s.1.idxOf (ix (ix b.1 (k:Int)) (m:Int))) (by omega)
         have a8:ix ((ix b.1 (k:Int)).map fun c=>ix vs ((s.1.idxOf c:Nat):Int)) (m:Int)=ix vs ((s.1.idxOf (ix (ix b.1 (k:Int)) (m:Int)):Nat):Int):=by
          rw [bU (by simpa using M),List.getElem_map,bU (xs:=ix b.1 (k:Int)) M]
         have ab:ix ls ((s.1.idxOf (ix (ix b.1 (k:Int)) (m:Int)):Nat):Int)=ix (ix dss (k:Int)) (m:Int):=by
          rw [E,px hp,List.getElem_idxOf hp,f2]
         rw [a8,← ab]
         exact hv)
        rw [w1]
        simp only [Option.bind_some]
        obtain ⟨u,u1,_⟩:=lY y w
        rw [u1]
        exact ⟨_,rfl,by rw [bX (by unfold bZ; omega)]⟩)
       (fun z hz=>by
        obtain ⟨y,i⟩:=z
        dsimp only at hz; subst hz
        simp only [Z5_L4]
        rw [if_neg (by simp)]
        exact ⟨_,rfl,trivial⟩)
       (s:=(1,0)) rfl
      rw [g1]
      simp only [Option.bind_some,Z5_J4]
      have L:=qm hI b.2.1.length
      rw [← F] at L
      have ae:=mB c3.2.1 L
      rw [if_pos (by omega),kN,nB c3 L]
      simp only [Option.bind_some,List.length_replicate]
      rw [if_pos (by omega)]
      obtain ⟨u,u1,u2⟩:=nH (ix x (lV a (vs.take b.2.1.length))) p
      rw [u1]
      exact ⟨_,by rw [bX (by unfold bZ; omega)]; rfl,hx.set u2 _⟩)
     (fun x hx=>by
      simp only [Z5_L3]
      rw [if_neg (by simp; omega)]
      exact ⟨_,rfl,hx⟩)
     (x:=List.replicate (pr a).toNat 0) (RG.rep _)
    rw [q1]
    exact ⟨r,rfl,gV c3 q2⟩
   ·rw [decide_eq_false c3,if_pos (by simp)]
    refine .inr ⟨?_,rfl⟩
    rintro ⟨s',_,_,g1,g2⟩
    have:=g1.1
    rw [h1.1] at this; cases this
    rw [← E,← F] at g2
    exact c3 g2
  ·rw [h2]
   obtain ⟨e1,e2,e3⟩:=e
   dsimp only at h3; subst h3
   simp only [Option.bind_some]
   rw [if_pos (fun z=>by simp at z)]
   simp only [bP,Bool.not_true,Bool.not_false,cond_false,Option.bind_some,Bool.true_or,if_true]
   exact .inr ⟨fun ⟨s,_,_,z,_⟩=>h1 s z,trivial⟩
 ·rw [if_pos]
  ·exact .inr ⟨fun ⟨s,z1,z2,_⟩=>O ⟨z1,z2⟩,rfl⟩
  ·cases q:b.2.2
   ·rfl
   ·have:b.1.length≠dss.length:=fun z=>O ⟨q,z⟩
    simp; omega
theorem rk {f:aM}(h:(parts f).2.2=true):1≤(parts f).1.length∧(parts f).1.length≤6:=by
 unfold parts at h ⊢
 split
 ·rename_i e; rw [e] at h; cases h
 ·rename_i p e
  rw [e] at h
  simp only at h ⊢
  by_cases c:PO (fL p.1) p.2
  ·rw [if_pos c]
   refine ⟨?_,c.1⟩
   have:=l9 p.1
   cases q:fL p.1 with
   | nil=>exact absurd q this
   | cons=>simp
  ·rw [if_neg c] at h; cases h
theorem sh5 (b i j s n args):bN ⟨5,b,i,j,s⟩ n args=Z2t ⟨⟩ n args:=rfl
theorem uW {n:Node}{e:List Tensor}(G:Caps n e)(g:n.Op=11):oH n e (Zd n (e.map Tensor.Dims)):=by
 have Y:nL n e.length→∀ t∈(n.Args.map fun a=>ix e a),TT t:=jQ G
 have T:∀ A:List Tensor,(∀ t∈A,TT t)→∃ r j,bN ⟨5,false,0,0,[]⟩ n (A.map Tensor.Dims)=some (r,j)∧(j=true→∃ s,tv n.Form (A.map Tensor.Dims) s∧r=(s.1.map (lk s.2)).take (parts n.Form).2.1.length)∧(j=false→¬ ∃ s,tv n.Form (A.map Tensor.Dims) s):=by
  intro A D
  rw [sh5]
  unfold Z2t
  rcases tt (f:=n.Form) (dss:=A.map Tensor.Dims) G.f (fun ds h=>by
   obtain ⟨t,h1,rfl⟩:=List.mem_map.1 h
   exact (D t h1).d) with ⟨q1,q2,s,q3,q4,r,q5,q6⟩|⟨q1,r,q2⟩
  ·rw [q5]
   exact ⟨_,_,rfl,fun _=>⟨s,⟨q1,q2,q3,q4⟩,q6⟩,fun h=>by cases h⟩
  ·rw [q2]
   exact ⟨_,_,rfl,(fun h=>by cases h),fun _=>fun ⟨s,a,b,c,d⟩=>q1 ⟨a,b,s,c,d⟩⟩
 refine mF G (kd:=⟨5,false,0,0,[]⟩) (u:=k8) (fb:=decide (FM n 1 6 false 0 0)) (by rw [g]; rfl) rfl rfl (kO n k8 false false true false xc xd xe xf) (gG (by omega) (by omega) (by rw [g]; rfl) (by rw [g]; rfl) (by rw [g]; rfl) (by rw [g]; rfl) ⟨by omega,by omega⟩) ?_ ?_ ?_
 ·intro q
  obtain ⟨f1,f2,O,f4,Z,f6,f7⟩:=of_decide_eq_true q
  have g3:n.Dims=[]:=O.resolve_left (by simp)
  have g5:n.Data=[]:=Z.resolve_left (by omega)
  have g6:n.Ints=[]:=List.eq_nil_of_length_eq_zero (by omega)
  exact ⟨by rw [g3,g5,g6]; rfl,by omega⟩
 ·intro F hw q
  obtain ⟨r,j,I,E,M⟩:=T _ (Y hw)
  cases j with
  | false=>exact ⟨r,I⟩
  | true =>
   obtain ⟨s,⟨m,B,_⟩,_⟩:=E rfl
   have hl:=rk m
   refine absurd ?_ (of_decide_eq_false q)
   simp only [Bool.false_or,Bool.true_or,Bool.and_true,Bool.and_eq_true,kP,beq_iff_eq] at F
   have J:((n.Args.map fun a=>ix e a).map Tensor.Dims).length=n.Args.length:=by simp
   rw [J] at B
   exact ⟨by omega,by omega,.inr F.1.1,.inl g,.inr F.2,by omega,by rw [F.1.2]; decide⟩
 ·intro q hw
  obtain ⟨f1,f2,O,f4,Z,f6,f7⟩:=of_decide_eq_true q
  have D:=Y hw
  obtain ⟨A,l⟩:∃ A,A=n.Args.map fun a=>ix e a:=⟨_,rfl⟩
  have i:Do n e=(Z5 n.Form A).bind fun r=>some r:=by
   unfold Do Z1
   rw [if_neg (by omega),← l]
   simp only [Z1_J1,Z1_J2,g]
   simp only [Int.reduceBEq,Bool.false_eq_true,if_false,if_true,beq_self_eq_true]
  have hl:A.length≤6:=by rw [l]; simp; omega
  rw [← l] at D ⊢
  obtain ⟨r,j,I,E,M⟩:=T A D
  rcases pz G.f D hl with ⟨s,m,d,B,c3⟩|⟨m,B⟩
  ·rw [B] at i
   cases j with
   | false=>exact absurd ⟨s,m⟩ (M rfl)
   | true =>
    obtain ⟨s',k1,k2⟩:=E rfl
    have L:s'=s:=by
     have U:=k1.2.2.1.1
     rw [m.2.2.1.1] at U
     exact (Option.some.inj U).symm
    subst L
    exact ⟨⟨_,d⟩,.inl ⟨by rw [I,k2],i,c3⟩⟩
  ·rw [B] at i
   cases j with
   | false=>exact ⟨⟨[],[]⟩,.inr ⟨r,I,i⟩⟩
   | true=>obtain ⟨s',k1,_⟩:=E rfl; exact absurd ⟨s',k1⟩ m
theorem tw {n:Node}{i:List Tensor}(g:Caps n i):oH n i (Zd n (i.map Tensor.Dims)):=by
 by_cases h:1≤n.Op∧n.Op≤19
 ·by_cases h1:n.Op=1
  ·exact t6 g h1
  by_cases h2:n.Op=2
  ·exact t7 g h2
  by_cases h3:n.Op≤5
  ·exact uG g (by omega) h3
  by_cases h4:n.Op≤9
  ·exact uH g ⟨by omega,h4⟩
  have:n.Op=10∨n.Op=11∨n.Op=12∨n.Op=13∨n.Op=14∨n.Op=15∨n.Op=16∨n.Op=17∨n.Op=18∨n.Op=19:=by omega
  rcases this with q | q | q | q | q | q | q | q | q | q
  ·exact xl g q
  ·exact uW g q
  ·exact re g q
  ·exact pn g q
  ·exact ta g q
  ·exact xq g q
  ·exact rh g q
  ·exact po g q
  ·exact rf g q
  ·exact uM g q
 ·have e:∀ k:Int,1≤k→k≤19→(n.Op==k)=false:=fun k a b=>by simp; omega
  have j:Zv n.Op=some ⟨0,false,0,0,[]⟩:=by
   unfold Zv Zv_J1 Zv_J2 Zv_J3
   simp only [e 1 (by omega) (by omega),e 2 (by omega) (by omega),e 3 (by omega) (by omega),e 4 (by omega) (by omega),e 5 (by omega) (by omega),e 6 (by omega) (by omega),e 7 (by omega) (by omega),e 8 (by omega) (by omega),e 9 (by omega) (by omega),e 10 (by omega) (by omega),e 11 (by omega) (by omega),e 12 (by omega) (by omega),e 13 (by omega) (by omega),e 14 (by omega) (by omega),e 15 (by omega) (by omega),e 16 (by omega) (by omega),e 17 (by omega) (by omega),e 18 (by omega) (by omega),e 19 (by omega) (by omega),Bool.false_eq_true,if_false]
  refine .inr ⟨[],?_,.inl ?_⟩
  ·unfold Zd
   rw [j]
   rfl
  ·unfold Z17
   rw [if_pos (by simp; omega)]
structure GC (g:Graph):Prop where
 n:g.Nodes.length<bZ
 o:g.Outs.length<bZ
 a:∀ n∈g.Nodes,n.Args.length<bZ
 d:∀ n∈g.Nodes,n.Dims.length<bZ
 i:∀ n∈g.Nodes,n.Ints.length<bZ
 x:∀ n∈g.Nodes,n.Data.length<bZ
 f:∀ n∈g.Nodes,n.Form.length≤1048576
def Bi (g:Graph)(k:Nat)(a:List Tensor):Prop:=∀ j:Nat,j<k→Z17 (ix g.Nodes (j:Int))=some true∧nL (ix g.Nodes (j:Int)) j∧Do (ix g.Nodes (j:Int)) (a.take j)=some (ix a (j:Int))
theorem xA {g:Graph}{b:List Tensor}{k:Nat}(h:k<g.Nodes.length)(l:b.length≤200)(m:(ix g.Nodes (k:Int)).Args.length≤100)(hw:nL (ix g.Nodes (k:Int)) b.length) :
  aR (fun s:List Tensor×Int=>Z9_L2 g b (k:Int) s.1 s.2) ([],0)=some ((ix g.Nodes (k:Int)).Args.map fun a=>ix b a):=by
 refine eT (f:=fun s:List Tensor×Int=>Z9_L2 g b (k:Int) s.1 s.2) (fun j=>(((ix g.Nodes (k:Int)).Args.take j).map fun a=>ix b a,(j:Int))) (ix g.Nodes (k:Int)).Args.length (fun j e=>?_) ?_ rfl
 ·have i:=hw _ (bF e)
  simp only [Z9_L2]
  rw [if_pos (by simp; omega),if_pos (by omega),if_pos (by omega),if_pos (by simp; omega),bX (by unfold bZ; omega),List.take_succ_eq_append_getElem e,List.map_append,bU e]
  rfl
 ·simp only [Z9_L2]
  rw [if_neg (by simp),List.take_length]
theorem nh {n:Node}(h:Z17 n=some true):n.Args.length≤6:=by
 unfold Z17 at h
 split at h
 ·cases h
 ·obtain ⟨r,h1,h⟩:=bd h
  have a:r.2≤6:=by
   unfold Z2y at h1
   repeat' split at h1
   all_goals (cases h1; decide)
  split at h
  ·cases h
  ·rename_i q
   simp only [Bool.or_eq_true,decide_eq_true_eq,not_or] at q
   omega
theorem tx {g:Graph}{ins:List Tensor}{a:List Tensor}{k:Nat}{t:Tensor}(j:k<g.Nodes.length)(l:a.length=k)(m:g.Nodes.length≤200)(h:Z17 (ix g.Nodes (k:Int))=some true)(hw:nL (ix g.Nodes (k:Int)) a.length)(b:Do (ix g.Nodes (k:Int)) a=some t) :
  Z9_L1 g ins true a 0 (k:Int)=Z9_J4 a (k:Int) 0 t.Dims t.Data:=by
 have q:=nh h
 simp only [Z9_L1]
 rw [if_pos (by simp; omega),if_pos (by omega),h]
 simp only [Option.bind_some,bP,Bool.not_true,Bool.not_false,cond_true,Bool.false_or]
 rw [jP (by unfold bZ; omega)]
 have e:∀ x∈(ix g.Nodes (k:Int)).Args,0≤x∧x<(k:Int):=by
  intro x i
  have:=hw x i
  rwa [l] at this
 simp only [Option.bind_some]
 rw [decide_eq_true e,if_neg (by simp),xA j (by omega) (by omega) hw]
 simp only [Option.bind_some,Z9_J3]
 unfold Do at b
 by_cases c:(ix g.Nodes (k:Int)).Op=1
 ·rw [if_pos c] at b
  rw [if_neg (by simp [c]),if_pos trivial,b]
  rfl
 ·rw [if_neg c] at b
  rw [if_pos (by simp [c]),b]
  rfl
theorem oJ {g:Graph}{ins:List Tensor}(B:GC g)(M:g.Nodes.length≤200):∀ (m k:Nat) (h:List Tensor),k+m=g.Nodes.length→h.length=k→(∀ t∈h,TT t)→Bi g k h →
  (∃ q,aR (fun s:List Tensor×Int×Int=>Z9_L1 g ins true s.1 s.2.1 s.2.2) (h,0,(k:Int))=some (.inr (q,0))∧aR (fun s:List (List Int)×Int=>Zi_L1 g s.1 s.2) (h.map Tensor.Dims,(k:Int))=some (.inr (q.map Tensor.Dims))∧q.length=g.Nodes.length∧(∀ t∈q,TT t)∧Bi g g.Nodes.length q) ∨
  ((∃ e,aR (fun s:List Tensor×Int×Int=>Z9_L1 g ins true s.1 s.2.1 s.2.2) (h,0,(k:Int))=some (.inl e)∧e.2=false)∧∃ e,aR (fun s:List (List Int)×Int=>Zi_L1 g s.1 s.2) (h.map Tensor.Dims,(k:Int))=some (.inl e)∧e.2=false)
 | 0,k,h,J,ho,ht,hr=>by
  have J:k=g.Nodes.length:=by omega
  subst J
  refine .inl ⟨h,cX ?_,cX ?_,ho,ht,hr⟩
  ·simp only [Z9_L1]; rw [if_neg (by simp)]
  ·simp only [Zi_L1]; rw [if_neg (by simp)]
 | m+1,k,h,J,ho,ht,hr=>by
  have r:k<g.Nodes.length:=by omega
  have G:=bF r
  have hc:Caps (ix g.Nodes (k:Int)) h:=⟨B.a _ G,B.d _ G,B.i _ G,B.x _ G,B.f _ G,by omega,ht⟩
  have Y:∀ p:List Int×Bool,Zd (ix g.Nodes (k:Int)) (h.map Tensor.Dims)=some p→Zi_L1 g (h.map Tensor.Dims) (k:Int)=if p.2=true then some (.inl (h.map Tensor.Dims++[p.1],((k+1:Nat):Int))) else some (.inr (.inl ([],false))):=by
   intro p T
   simp only [Zi_L1]
   rw [if_pos (by simp; omega),if_pos (by omega),T]
   simp only [Option.bind_some]
   cases p.2
   ·rfl
   ·rw [if_neg (by simp),if_pos (by simp; omega),bX (by unfold bZ; omega)]; rfl
  rcases tw hc with ⟨t,h1,h2,D,O,L⟩|⟨ds,h1,h2⟩
  ·have U:=L.l
   have T:=L.d.2.pos
   have F:=tx (ins:=ins) r ho M h2 D O
   unfold Z9_J4 at F
   rw [if_neg (by simp; intro z; rw [z] at U; simp at U; omega),if_pos (by simp; omega),bX (by unfold bZ; omega)] at F
   have E:=Y _ h1
   rw [if_pos rfl] at E
   rw [eC (f:=fun s:List Tensor×Int×Int=>Z9_L1 g ins true s.1 s.2.1 s.2.2) F,eC (f:=fun s:List (List Int)×Int=>Zi_L1 g s.1 s.2) E]
   have:=oJ (ins:=ins) B M m (k+1) (h++[t]) (by omega) (by simp [ho]) (by
    intro u hu
    rcases List.mem_append.1 hu with z | z
    ·exact ht u z
    ·simp at z; subst z; exact L) (by
    intro j hj
    by_cases e:j<k
    ·obtain ⟨a,b,c⟩:=hr j e
     refine ⟨a,b,?_⟩
     rw [List.take_append_of_le_length (by omega),c,bU (by omega),bU (by simp; omega),List.getElem_append_left (by omega)]
    ·have e:j=k:=by omega
     subst e
     rw [ho] at D
     refine ⟨h2,D,?_⟩
     rw [List.take_append_of_le_length (by omega),List.take_of_length_le (by omega),bU (xs:=h++[t]) (by rw [List.length_append,List.length_singleton]; omega),List.getElem_append_right (by omega)]
     simpa [ho] using O)
   rw [List.map_append] at this
   exact this
  ·have E:=Y _ h1
   rw [if_neg (by simp)] at E
   refine .inr ⟨?_,_,cX E,rfl⟩
   rcases h2 with h2 | ⟨h2,D⟩
   ·refine ⟨(h,false),cX ?_,rfl⟩
    simp only [Z9_L1]
    rw [if_pos (by simp; omega),if_pos (by omega),h2]
    rfl
   ·by_cases w:nL (ix g.Nodes (k:Int)) h.length
    ·have F:=tx (ins:=ins) r ho M h2 w (D w)
     exact ⟨(h,false),cX F,rfl⟩
    ·refine ⟨(h,false),cX ?_,rfl⟩
     have ha:=nh h2
     simp only [Z9_L1]
     rw [if_pos (by simp; omega),if_pos (by omega),h2]
     simp only [Option.bind_some,bP,Bool.not_true,Bool.not_false,cond_true,Bool.false_or]
     rw [jP (by unfold bZ; omega)]
     have I:¬ ∀ x∈(ix g.Nodes (k:Int)).Args,0≤x∧x<(k:Int):=by
      intro z; refine w fun x Z=>?_
      have:=z x Z
      rwa [ho]
     simp only [Option.bind_some]
     rw [decide_eq_false I,if_pos (by simp)]
theorem oK {g:Graph}(L:GC g):∃ l I E,Z9 g [] true=some (l,E)∧Zi g=some (I,E)∧(E=true→I=l.map Tensor.Dims∧l.length=g.Nodes.length∧(∀ t∈l,TT t)∧Bi g g.Nodes.length l∧g.Nodes.length≤200∧g.Outs.length≤40∧∀ o∈g.Outs,0≤o∧o<(g.Nodes.length:Int)):=by
 unfold Z9 Zi
 by_cases c:g.Nodes.length≤200∧g.Outs.length≤40
 ·rw [if_neg (by simp; omega),if_neg (by simp; omega)]
  have m:∀ s:Int→Option (Int⊕(((List (List Int))×Bool)⊕Unit)),s=(fun x=>Zi_L2 g x)→aR s 0=some (if g.Outs.all (fun x=>!(decide (x<0)||decide (x≥(g.Nodes.length:Int)))) then .inr () else .inl ([],false)):=by
   rintro _ rfl
   refine eM g.Outs (fun x=>Zi_L2 g x) (fun i=>i) _ _ _ (fun j G=>?_) ?_
   ·simp only [Zi_L2]
    rw [if_pos (by simp; omega),if_pos (by omega),bX (by unfold bZ; omega)]
    cases (decide (ix g.Outs (j:Int)<0)||decide (ix g.Outs (j:Int)≥(g.Nodes.length:Int)))<;>rfl
   ·simp only [Zi_L2]
    rw [if_neg (by simp)]
  have M:g.Outs.all (fun x=>!(decide (x<0)||decide (x≥(g.Nodes.length:Int))))=decide (∀ o∈g.Outs,0≤o∧o<(g.Nodes.length:Int)):=by
   rw [Bool.eq_iff_iff]
   simp only [List.all_eq_true,decide_eq_true_eq,Bool.not_eq_true',Bool.or_eq_false_iff,decide_eq_false_iff_not]
   exact ⟨fun h x u=>by have:=h x u; omega,fun h x u=>by have:=h x u; omega⟩
  have m:=m _ rfl
  rw [M] at m
  rcases oJ (ins:=[]) L c.1 g.Nodes.length 0 [] (by omega) rfl (fun t h=>by simp at h) (fun j G=>absurd G (Nat.not_lt_zero _)) with ⟨b,h1,h2,D,r,O⟩|⟨⟨e,h1,h2⟩,J,D,r⟩
  ·have a:aR (fun s:List Tensor×Int×Int=>Z9_L1 g [] true s.1 s.2.1 s.2.2) ([],0,0)=some (.inr (b,0)):=h1
   have B:aR (fun s:List (List Int)×Int=>Zi_L1 g s.1 s.2) ([],0)=some (.inr (b.map Tensor.Dims)):=h2
   rw [a,B]
   simp only [Option.bind_some,Z9_J5,Zi_J1,Zi_J2]
   rw [jP L.o,m]
   simp only [Option.bind_some]
   by_cases q:∀ o∈g.Outs,0≤o∧o<(g.Nodes.length:Int)
   ·rw [decide_eq_true q]
    exact ⟨_,_,_,rfl,rfl,fun _=>⟨rfl,D,r,O,c.1,c.2,q⟩⟩
   ·rw [decide_eq_false q]
    exact ⟨_,_,_,rfl,rfl,fun h=>by cases h⟩
  ·have a:aR (fun s:List Tensor×Int×Int=>Z9_L1 g [] true s.1 s.2.1 s.2.2) ([],0,0)=some (.inl e):=h1
   have F:aR (fun s:List (List Int)×Int=>Zi_L1 g s.1 s.2) ([],0)=some (.inl J):=D
   rw [a,F]
   obtain ⟨Y,Z⟩:=e
   obtain ⟨T,U⟩:=J
   dsimp only at h2 r
   subst h2; subst r
   exact ⟨_,_,_,rfl,rfl,fun h=>by cases h⟩
 ·rw [if_pos (by simp; omega),if_pos (by simp; omega)]
  exact ⟨_,_,_,rfl,rfl,fun h=>by cases h⟩
def A0:Nat:=9223372036854775807
def fQ (n:Nat)(a:Int):Int:=if a<(n:Int) then -1 else a - n
def mK {α:Type}(n:α→Nat)(xs:List α):Nat:=xs.length+(xs.map n).sum
theorem jt {a b:Nat}{e:Int}(g:0≤e):fQ (a+b) e=if fQ a e<0 then -1 else fQ b (fQ a e):=by
 unfold fQ
 (repeat' split)<;>omega
theorem iV {a:Nat}{b:Int}(e:0≤b)(h:¬ fQ a b<0):0≤fQ a b∧fQ a b≤b∧fQ a b=b - a:=by
 unfold fQ at *
 split at h<;>rename_i q
 ·exact absurd (by decide) h
 ·rw [if_neg q]; omega
theorem uX {n:Nat}{a:Int}(b:n≤A0)(e:0≤a)(h1:a≤1048576) :
  (if (decide ((aH (a - (n:Int)))<(0:Int)))=true then (some (-1:Int)) else (some (aH (a - (n:Int)))))=some (fQ n a):=by
 unfold A0 at b
 rw [bA (by omega) (by omega)]
 unfold fQ
 by_cases h:a<(n:Int)
 ·rw [if_pos (by simp; omega),if_pos h]
 ·rw [if_neg (by simp; omega),if_neg h]
theorem uY {α:Type}[Inhabited α](xs:List α)(n:α→Nat)(E:xs.length<bZ)(g:α→Int→Option Int)(f:Int×Int→Option ((Int×Int)⊕(Int⊕Int)))
  (D:∀ x∈xs,∀ a:Int,0≤a→a≤1048576→g x a=some (fQ (n x) a))
  (B:∀ a i,f (a,i)=if (decide (i<(xs.length:Int)))=true then (if (0≤i∧i<(xs.length:Int)) then (g (ix xs i) a).bind fun (r:Int)=>if (decide (r<(0:Int)))=true then (some (.inr (.inl (-1:Int)))) else (some (.inl (r,(aH (i+(1:Int)))))) else none) else (some (.inr (.inr a))))
  (a:Int) (m:0≤a) (h1:a≤1048576) :
  ((aR f (a,0)).bind fun e=>match e with | .inl e=>some e | .inr e=>some e)=some (fQ ((xs.map n).sum) a):=by
 rw [j4 (S:=Int) xs (fun _ s=>0≤s∧s≤1048576) f (fun s i=>(s,i)) (fun s _ x=>if fQ (n x) s<0 then .inr (.inl (-1)) else .inl (fQ (n x) s)) (fun s=>.inr s) ?_ ?_ ?_ a ⟨m,h1⟩]
 ·rw [aW]
  clear B E
  generalize 0=k
  induction xs generalizing a k with
  | nil=>show some a=some (fQ 0 a); unfold fQ; rw [if_neg (by omega)]; congr 1; simp
  | cons x xs ih =>
   unfold qc
   rw [List.map_cons,List.sum_cons,jt m]
   by_cases h:fQ (n x) a<0
   ·simp only [h,if_true]
   ·obtain ⟨l,G,_⟩:=iV m h
    simp only [h,if_false]
    exact ih (fun y F=>D y (by simp [F])) _ l (by omega) _
 ·rintro s k ⟨j,q⟩ u
  rw [B,if_pos (by simpa using u),if_pos (by omega),D _ (bF u) s j q,aW,bX (by omega)]
  by_cases h:fQ (n (ix xs (k:Int))) s<0
  ·simp [h]
  ·simp [h]
 ·rintro s k s' ⟨j,q⟩ u b
  split at b
  ·cases b
  ·rename_i h
   obtain ⟨l,G,_⟩:=iV j h
   injection b with b
   subst b
   exact ⟨l,by omega⟩
 ·rintro s ⟨j,q⟩
  rw [B,if_neg (by simp)]
theorem uZ {α:Type}[Inhabited α]{xs:List α}{n:α→Nat}{a:Int}{x:Int→Option Int}(l:xs.length≤A0)(j:0≤a)(h1:a≤1048576)(i:¬ fQ xs.length a<0→x (fQ xs.length a)=some (fQ ((xs.map n).sum) (fQ xs.length a))) :
  (if (decide ((aH (a - (xs.length:Int)))<(0:Int)))=true then (some (-1:Int)) else x (aH (a - (xs.length:Int))))=some (fQ (mK n xs) a):=by
 have b:=l
 unfold A0 at b
 unfold mK
 rw [jt j]
 have e:aH (a - (xs.length:Int))=a - xs.length:=bA (by omega) (by omega)
 rw [e]
 by_cases h:a<(xs.length:Int)
 ·rw [if_pos (by simp; omega),if_pos (by unfold fQ; rw [if_pos h]; omega)]
 ·have g:fQ xs.length a=a - xs.length:=by unfold fQ; rw [if_neg h]
  rw [if_neg (by simp; omega),if_neg (by rw [g]; omega)]
  have:=i (by rw [g]; omega)
  rw [g] at this ⊢
  exact this
theorem lL {k:Nat}{n:Nat}(h:k<n):(0:Int)≤(k:Int)∧(k:Int)<(n:Int):=⟨by omega,by omega⟩
theorem tP {k:Nat}{n:Nat}(h:k<n):(decide ((k:Int)<(n:Int)))=true:=by simpa using h
theorem mV {n:Nat}:(decide ((n:Int)<(n:Int)))=false:=by simp
theorem nQ (xs ys:List Int)(h:xs.length=ys.length):((List.range xs.length).all fun k=>ix xs (k:Int)==ix ys (k:Int))=decide (xs=ys):=by
 by_cases e:xs=ys
 ·subst e; simp
 ·simp only [e,decide_false]
  rw [List.all_eq_false]
  refine Classical.byContradiction fun b=>e ?_
  refine List.ext_getElem h fun k h1 h2=>?_
  refine Classical.byContradiction fun a=>b ⟨k,by simpa using h1,?_⟩
  rw [bU h1,bU h2]
  simpa using a
theorem u' (xs ys:List Int)(h:xs.length<bZ):Zy xs ys=some (decide (xs=ys)):=by
 unfold Zy
 by_cases hl:xs.length=ys.length
 ·rw [if_neg (by simp [hl])]
  rw [j5 xs.length (fun s:Int=>Zy_L1 xs ys s) (fun i=>i) (fun k=>ix xs (k:Int)==ix ys (k:Int)) (.inl false) (.inr ()) (fun k a=>by
   unfold Zy_L1
   rw [if_pos (tP a),if_pos (lL a),if_pos (lL (hl▸a)),bX (by omega)]
   by_cases hq:ix xs (k:Int)=ix ys (k:Int)
   ·simp [hq]
   ·simp [hq]) (by unfold Zy_L1; simp only [mV,Bool.false_eq_true,if_false])]
  rw [nQ xs ys hl,aW]
  by_cases e:xs=ys<;>simp [e,Zy_J1]
 ·rw [if_pos (by simp; omega)]
  have:xs≠ys:=fun e=>hl (by rw [e])
  simp [this]
theorem oL (xs ys:List Int):Z05 xs ys=Zy xs ys:=rfl
theorem Bj {α:Type}[Inhabited α](x:Option α):bP true x=x:=rfl
def Rg (g:List Bool)(n:Nat)(gl:List Int):Prop:=g.length=n∧∀ j:Nat,j<n→ix g (j:Int)=decide ((j:Int)∈gl)
theorem Rg.set {g:List Bool}{n:Nat}{gl:List Int}(h:Rg g n gl){b:Int}(q:0≤b)(h1:b<(n:Int)):Rg (g.set b.toNat true) n (gl++[b]):=by
 obtain ⟨l,m⟩:=h
 refine ⟨by simpa using l,fun j i=>?_⟩
 obtain ⟨c,rfl⟩:=Int.eq_ofNat_of_zero_le q
 have a:j<(g.set (c:Int).toNat true).length:=by simpa [l] using i
 rw [bU a,List.getElem_set]
 by_cases e:(c:Int).toNat=j
 ·rw [if_pos e]; have:c=j:=by omega
  subst this; simp
 ·rw [if_neg e]
  have h2:=m j i
  rw [bU (by omega)] at h2
  rw [h2]
  have:¬ (j:Int)=(c:Int):=by omega
  simp [this]
theorem mL {α T:Type}[Inhabited α](xs:List α)(z:α)(f:T→Option (T⊕List α))(mk:List α→Int→T)
  (u:∀ (ys:List α) (k:Nat),ys.length=xs.length→k<xs.length→f (mk ys (k:Int))=some (.inl (mk (ys.set k (ix xs (k:Int))) ((k+1:Nat):Int))))
  (g:∀ ys:List α,ys.length=xs.length→f (mk ys (xs.length:Int))=some (.inr ys)):aR f (mk (List.replicate (xs.length:Int).toNat z) 0)=some xs:=by
 rw [Int.toNat_natCast]
 rw [j4 (S:=List α) xs (fun _ s=>s.length=xs.length) f mk (fun s k x=>.inl (s.set k x)) (fun s=>s) (fun s k r a=>u s k r a) (fun s k s' r a h=>by injection h with h; subst h; simpa using r) g _ (by simp)]
 congr 1
 have i:∀ (m k:Nat) (ys:List α),k+m=xs.length→ys.length=xs.length→(∀ j,j<k→ys[j]?=xs[j]?)→qc (R:=List α) (fun s k x=>.inl (s.set k x)) (fun s=>s) (xs.drop k) k ys=xs:=by
  intro m
  induction m with
  | zero =>
   intro k ys a g q
   have a:k=xs.length:=by omega
   subst a
   rw [List.drop_length]
   show ys=xs
   refine List.ext_getElem? fun j=>?_
   by_cases l:j<xs.length
   ·exact q j l
   ·rw [List.getElem?_eq_none (by omega),List.getElem?_eq_none (by omega)]
  | succ m ih =>
   intro k ys a g q
   have b:k<xs.length:=by omega
   rw [List.drop_eq_getElem_cons b]
   unfold qc
   refine ih (k+1) _ (by omega) (by simpa using g) (fun j l=>?_)
   rw [List.getElem?_set]
   by_cases e:k=j
   ·subst e; rw [if_pos rfl,if_pos (by omega)]; exact (List.getElem?_eq_getElem b).symm
   ·rw [if_neg e]; exact q j (by omega)
 simpa using i xs.length 0 (List.replicate xs.length z) (by omega) (by simp) (fun j l=>by omega)
theorem xB {α:Type}{n:Nat}{z:α}{k:Nat}(h:k<n):(0:Int)≤(k:Int)∧(k:Int)<((List.replicate (n:Int).toNat z).length:Int):=by
 rw [List.length_replicate,Int.toNat_natCast]; omega
theorem v2 (xs:List Int)(h:xs.length≤1048576):Z05 xs xs=some true:=by
 rw [oL,u' _ _ (by unfold bZ; omega)]; simp
theorem qw {α:Type}[Inhabited α](xs:List α)(f:Int→Option (Int⊕(Bool⊕Unit)))(h:xs.length≤1048576)(e:α→α→Option Bool)(g:∀ x∈xs,e x x=some true)
  (b:∀ i,f i=if (decide (i<(xs.length:Int)))=true then (if (0≤i∧i<(xs.length:Int)) then if (0≤i∧i<(xs.length:Int)) then (e (ix xs i) (ix xs i)).bind fun (r:Bool)=>if (!r)=true then (some (.inr (.inl false))) else (some (.inl (aH (i+(1:Int))))) else none else none) else (some (.inr (.inr ())))) :
  aR f 0=some (.inr ()):=by
 rw [eM xs f (fun i=>i) (fun _=>true) (.inl false) (.inr ()) (fun k a=>by
  rw [b,if_pos (tP a),if_pos (lL a),if_pos (lL a),g _ (bF a),aW,bX (by unfold bZ; omega)]; rfl) (by rw [b]; simp only [mV,Bool.false_eq_true,if_false])]
 simp
theorem kr (x:Int):(x != x)=false:=by simp
def BB:Nat:=4611686018427387904
theorem lz {α:Type}[Inhabited α]{ys:List α}{k:Nat}{v:α}(h:k<ys.length):ix (ys.set k v) (k:Int)=v:=by
 rw [bU (by simpa using h)]; simp
theorem ni {α:Type}[Inhabited α]{ys:List α}{k j:Nat}{v:α}(h:k≠j):ix (ys.set k v) (j:Int)=ix ys (j:Int):=by
 simp [ix,List.getD_eq_getElem?_getD,List.getElem?_set,h]
def ks {α:Type}(n:α→Nat)(xs:List α):Nat:=(xs.map n).sum
theorem mM {α:Type}(n:α→Nat)(x:α)(t:List α):ks n (x::t)=n x+ks n t:=by simp [ks]
theorem tz {α:Type}(n:α→Nat){xs:List α}{k:Nat}(h:k<xs.length):ks n (xs.drop k)=n xs[k]+ks n (xs.drop (k+1)):=by
 rw [List.drop_eq_getElem_cons h,mM]
theorem lc {α T U:Type}[Inhabited α](xs:List α)(n:α→Nat)(g:α→Nat→α)(f:T→Option (T⊕(Int×List α)))(mk:List α→Int→Int→T)
  (F:∀ (ys:List α) (k i:Nat),i<xs.length→ys.length=xs.length→ix ys (i:Int)=ix xs (i:Int)→k+n (ix xs (i:Int))≤BB→f (mk ys (k:Int) (i:Int))=some (.inl (mk (ys.set i (g (ix xs (i:Int)) k)) ((k+n (ix xs (i:Int)):Nat):Int) ((i+1:Nat):Int))))
  (I:∀ ys k,f (mk ys k (xs.length:Int))=some (.inr (k,ys))) (k:Nat) (J:k+ks n xs≤BB) :
  ∃ ys,aR f (mk xs (k:Int) 0)=some (((k+ks n xs:Nat):Int),ys)∧ys.length=xs.length ∧
   ∀ (b:U→Option (U⊕(Int⊕Int))) (a:Int→Int→U),(∀ (k i:Nat),i<xs.length→k+n (ix xs (i:Int))≤BB→ix ys (i:Int)=g (ix xs (i:Int)) k→b (a (k:Int) (i:Int))=some (.inl (a ((k+n (ix xs (i:Int)):Nat):Int) ((i+1:Nat):Int)))) →
    (∀ k,b (a k (xs.length:Int))=some (.inr (.inr k)))→aR b (a (k:Int) 0)=some (.inr ((k+ks n xs:Nat):Int)):=by
 have r:∀ (m i k:Nat) (ys:List α),i+m=xs.length→ys.length=xs.length→(∀ j,i≤j→j<xs.length→ix ys (j:Int)=ix xs (j:Int))→k+ks n (xs.drop i)≤BB →
   ∃ zs,aR f (mk ys (k:Int) (i:Int))=some (((k+ks n (xs.drop i):Nat):Int),zs)∧zs.length=xs.length∧(∀ j,j<i→ix zs (j:Int)=ix ys (j:Int)) ∧
    ∀ (b:U→Option (U⊕(Int⊕Int))) (a:Int→Int→U),(∀ (k j:Nat),i≤j→j<xs.length→k+n (ix xs (j:Int))≤BB→ix zs (j:Int)=g (ix xs (j:Int)) k→b (a (k:Int) (j:Int))=some (.inl (a ((k+n (ix xs (j:Int)):Nat):Int) ((j+1:Nat):Int)))) →
     (∀ k,b (a k (xs.length:Int))=some (.inr (.inr k)))→aR b (a (k:Int) (i:Int))=some (.inr ((k+ks n (xs.drop i):Nat):Int)):=by
  intro m
  induction m with
  | zero =>
   intro i k ys q l _ _
   have q:i=xs.length:=by omega
   subst q
   rw [List.drop_length]
   exact ⟨ys,cX (I ys k),l,fun j _=>rfl,fun b a _ h2=>cX (h2 k)⟩
  | succ m ih =>
   intro i k ys q l B hb
   have e:i<xs.length:=by omega
   have O:=tz n e
   rw [← bU e] at O
   have s:=F ys k i e l (B i (Nat.le_refl _) e) (by omega)
   obtain ⟨zs,u,L,z3,z4⟩:=ih (i+1) (k+n (ix xs (i:Int))) (ys.set i (g (ix xs (i:Int)) k)) (by omega) (by simpa using l) (fun j h1 h2=>by
    rw [ni (by omega)]; exact B j (by omega) h2) (by omega)
   have h:k+n (ix xs (i:Int))+ks n (xs.drop (i+1))=k+ks n (xs.drop i):=by omega
   rw [h] at u z4
   refine ⟨zs,by rw [eC s]; exact u,L,fun j Y=>?_,fun b a h1 h2=>?_⟩
   ·rw [z3 j (by omega),ni (by omega)]
   ·have M:ix zs (i:Int)=g (ix xs (i:Int)) k:=by rw [z3 i (by omega),lz (by omega)]
    rw [eC (h1 k i (Nat.le_refl _) e (by omega) M)]
    exact z4 b a (fun k j Z=>h1 k j (by omega)) h2
 obtain ⟨ys,E,G,_,D⟩:=r xs.length 0 k xs (by omega) rfl (fun _ _ _=>rfl) (by simpa using J)
 rw [List.drop_zero] at E D
 exact ⟨ys,E,G,fun b a h1 h2=>D b a (fun k j _=>h1 k j) h2⟩
theorem wn {k:Nat}(h:k+1≤BB):aH ((k:Int)+1)=((k+1:Nat):Int):=by
 unfold BB at h; rw [bA (by omega) (by omega)]; omega
theorem qx {α:Type}(c:Nat)(xs:List α):ks (fun _=>c) xs=c*xs.length:=by
 induction xs with
 | nil=>simp [ks]
 | cons x t ih=>rw [mM,ih,List.length_cons,Nat.mul_succ]; omega
theorem v6 (k:Nat):decide ((k:Int)<0)=false:=decide_eq_false (by omega)
noncomputable def tA (xs:List Int)(k:Nat):List Int:=((Zt xs (k:Int)).getD default).2
theorem wi {n k:Nat}(a:n≤1048576)(h:k<n):aH ((k:Int)+1)=((k+1:Nat):Int):=bX (by unfold bZ; omega)
theorem iN (xs:List Int)(k:Nat)(l:xs.length≤1048576)(h:k+xs.length≤BB):Zt xs (k:Int)=some (((k+xs.length:Nat):Int),tA xs k)∧Z0n (tA xs k) (k:Int)=some ((k+xs.length:Nat):Int):=by
 obtain ⟨ys,g,q,j⟩:=lc (U:=Int×Int) xs (fun _=>1) (fun _ k=>(k:Int)) (fun s:(List Int)×Int×Int=>Zt_L1 xs s.1 s.2.1 s.2.2) (fun ys k i=>(ys,k,i)) (fun ys k i a B u b=>by
  show Zt_L1 xs ys (k:Int) (i:Int)=_
  unfold Zt_L1
  rw [if_pos (tP a),if_pos (lL a),wi l a,wn b,Int.toNat_natCast]) (fun ys k=>by
  show Zt_L1 xs ys k (xs.length:Int)=_
  unfold Zt_L1; simp only [mV,Bool.false_eq_true,if_false]) k (by rw [qx]; omega)
 rw [qx,Nat.one_mul] at g j
 have e:Zt xs (k:Int)=some (((k+xs.length:Nat):Int),ys):=by
  unfold Zt; rw [g,aW]; rfl
 have m:tA xs k=ys:=by unfold tA; rw [e]; rfl
 rw [m]
 refine ⟨e,?_⟩
 unfold Z0n
 rw [j (fun s:Int×Int=>Z0n_L1 ys s.1 s.2) (fun k i=>(k,i)) (fun k i a b r=>by
  show Z0n_L1 ys (k:Int) (i:Int)=_
  unfold Z0n_L1
  rw [if_pos (tP (by omega)),if_pos (lL (by omega)),r,kr,wi l a,wn b]; rfl) (fun k=>by
  show Z0n_L1 ys k (xs.length:Int)=_
  rw [← q]
  unfold Z0n_L1; simp only [mV,Bool.false_eq_true,if_false])]
 rfl
theorem xC {α:Type}(n:α→Nat)(M:Nat)(xs:List α)(h:∀ x∈xs,n x≤M):ks n xs≤xs.length*M:=by
 induction xs with
 | nil=>simp [ks]
 | cons x t ih =>
  rw [mM,List.length_cons,Nat.succ_mul]
  have:=h x (by simp)
  have:=ih (fun y a=>h y (by simp [a]))
  omega
theorem tB {α:Type}(n:α→Nat)(M:Nat)(xs:List α)(h:∀ x∈xs,n x≤M)(a:xs.length≤1048576):ks n xs≤1048576*M:=Nat.le_trans (xC n M xs h) (Nat.mul_le_mul_right _ a)
theorem tC {α:Type}(n:α→Nat)(xs:List α):xs.length≤mK n xs:=by unfold mK; omega
theorem tD {α:Type}(n:α→Nat){xs:List α}{x:α}(h:x∈xs):n x≤mK n xs:=by
 have:n x≤(xs.map n).sum:=by
  induction xs with
  | nil=>cases h
  | cons y t ih =>
   rcases List.mem_cons.1 h with rfl | h
   ·simp
   ·have:=ih h; simp; omega
 unfold mK; omega
theorem tF {a:Nat}{b:Int}(h:fQ a b<0)(e:0≤b):fQ a b = -1:=by
 unfold fQ at *
 split at h
 ·rw [if_pos (by assumption)]
 ·omega
theorem mN {f:Int×aM→Option ((Int×aM)⊕aM)}(b:∀ (n:Nat) (s:aM),0<n→n<10000000000000000000→s.length≤100→∃ c:aM,c.length=1∧f ((n:Int),s)=some (.inl (((n / 10:Nat):Int),c++s)))(a:∀ s,f (0,s)=some (.inr s)):∀ (m n:Nat) (s:aM),n<10 ^ m→m≤19→s.length+m≤100→∃ r,aR f ((n:Int),s)=some r∧r.length≤s.length+m
 | 0,n,s,h,hm,hs=>by
  have:n=0:=by simpa using h
  subst this
  exact ⟨s,cX (a s),by omega⟩
 | m+1,n,s,h,hm,hs=>by
  by_cases e:n=0
  ·subst e; exact ⟨s,cX (a s),by omega⟩
  ·have i:10 ^ (m+1)≤10 ^ 19:=Nat.pow_le_pow_right (by omega) hm
   obtain ⟨c,h1,h2⟩:=b n s (by omega) (by omega) (by omega)
   obtain ⟨r,g,j⟩:=mN b a m (n / 10) (c++s) (by rw [Nat.pow_succ] at h; omega) (by omega) (by simp; omega)
   exact ⟨r,by rw [eC h2]; exact g,by simp at j; omega⟩
theorem tG (k:Nat)(h:k≤BB):∃ s,Z0o (k:Int)=some s:=by
 unfold Z0o
 by_cases c:k=0
 ·rw [if_pos (by simp; omega)]; exact ⟨_,rfl⟩
 ·rw [if_neg (by simp; omega)]
  obtain ⟨r,b,i⟩:=mN (f:=fun s:Int×aM=>Z0o_L1 s.1 s.2) (fun n s j g l=>by
   have e:aH ((n:Int).tdiv 10)=((n / 10:Nat):Int):=by
    rw [Int.tdiv_eq_ediv_of_nonneg (by omega),bA (by omega) (by omega)]; omega
   have a:(nt [IntKind.wrap .u8 (aH (48+(n:Int).tmod 10))]).length=1:=by simp [nt]
   refine ⟨nt [IntKind.wrap .u8 (aH (48+(n:Int).tmod 10))],a,?_⟩
   simp only [Z0o_L1]
   rw [if_pos (by simp; omega),if_pos (by rw [a]; omega),e]) (fun s=>by simp only [Z0o_L1]; rfl) 19 k [] (by unfold BB at h; omega) (by omega) (by simp)
  rw [b]
  simp only [Option.bind_some,Z0o_J1]
  rw [if_pos (by simp [str8] at i ⊢; omega)]
  exact ⟨_,rfl⟩
noncomputable def Bk (k:Nat):aM:=(Z0o (k:Int)).getD default
theorem xD {k:Nat}(h:k≤BB:=by omega):Z0o (k:Int)=some (Bk k):=by
 obtain ⟨s,a⟩:=tG k h
 unfold Bk; rw [a]; rfl
def mO (xs:(List Int)):Prop:=xs.length≤maxLen
def iW (xs:(List Int)):Prop:=xs.length≤1048576
theorem j8 {xs:(List Int)}(h:xs.length≤1048576):iW xs:=h
theorem iO {xs:(List Int)}{a:Int}(b:mO xs)(e:0≤a)(h1:a≤1048576):Z1h xs a=some (fQ xs.length a):=uX (Nat.le_trans b (by decide)) e h1
theorem kU (xs:(List Int))(h:iW xs):Z03 xs=some xs:=by
 unfold Z03
 rw [if_pos (by have:xs.length≤1048576:=h; omega),mL xs 0 (fun s:(List Int)×Int=>Z03_L1 xs s.1 s.2) (fun s i=>(s,i)) (fun ys k b a=>by
  have e:xs.length≤1048576:=h
  show Z03_L1 xs ys (k:Int)=_
  unfold Z03_L1
  rw [if_pos (tP a),if_pos (lL a),if_pos (xB a),bX (by unfold bZ; omega)]; rfl) (fun ys _=>by
  show Z03_L1 xs ys (xs.length:Int)=_
  unfold Z03_L1; simp only [mV,Bool.false_eq_true,if_false])]
 rfl
theorem jZ (xs:(List Int))(h:iW xs):Z05 xs xs=some true:=v2 xs h
theorem rl (xs:(List Int))(k:Nat)(h:iW xs)(a:k+xs.length≤BB):Zt xs (k:Int)=some (((k+xs.length:Nat):Int),tA xs k)∧Z0n (tA xs k) (k:Int)=some ((k+xs.length:Nat):Int):=iN xs k h a
def zP (x:aM):Prop:=x.length≤maxLen
def zQ (x:aM):Prop:=x.length≤1048576
structure Cap70 (x:Node):Prop where
 Args:mO x.Args
 Dims:mO x.Dims
 Ints:mO x.Ints
 Form:zP x.Form
 Data:mO x.Data
structure SmNode (x:Node):Prop where
 Args:iW x.Args
 Dims:iW x.Dims
 Ints:iW x.Ints
 Form:zQ x.Form
 Data:iW x.Data
def ke (x:Node):Nat:=x.Args.length+x.Dims.length+x.Ints.length+x.Form.length+x.Data.length
theorem rn {x:Node}(h:ke x≤1048576):SmNode x:=by
 unfold ke at h
 exact ⟨j8 (by omega),j8 (by omega),j8 (by omega),show _≤_ by omega,j8 (by omega)⟩
theorem rp {x:Node}{a:Int}(u:Cap70 x)(b:0≤a)(h1:a≤1048576):Z2k x a=some (fQ (ke x) a):=by
 obtain ⟨m,G,B,l,D⟩:=u
 unfold Z2k ke
 rw [jt b,jt b,jt b,jt b]
 rw [iO m b (by omega),aW]
 by_cases h2:fQ (x.Args.length) a<0
 ·simp [h2]
 ·obtain ⟨h,L,s⟩:=iV b h2
  rw [if_neg (by simpa using h2),if_neg h2]
  rw [iO G h (by omega),aW]
  by_cases h3:fQ (x.Dims.length) (fQ (x.Args.length) a)<0
  ·simp [h3]
  ·obtain ⟨j,O,q⟩:=iV h h3
   rw [if_neg (by simpa using h3),if_neg h3]
   rw [iO B j (by omega),aW]
   by_cases h4:fQ (x.Ints.length) (fQ (x.Dims.length) (fQ (x.Args.length) a))<0
   ·simp [h4]
   ·obtain ⟨F,M,E⟩:=iV j h4
    rw [if_neg (by simpa using h4),if_neg h4]
    have i:aH (fQ (x.Ints.length) (fQ (x.Dims.length) (fQ (x.Args.length) a)) - (x.Form.length:Int))=fQ (x.Ints.length) (fQ (x.Dims.length) (fQ (x.Args.length) a)) - (x.Form.length:Int):=by
     have:x.Form.length≤9223372036854775807:=Nat.le_trans l (by decide)
     exact bA (by omega) (by omega)
    by_cases h5:fQ (x.Form.length) (fQ (x.Ints.length) (fQ (x.Dims.length) (fQ (x.Args.length) a)))<0
    ·have:fQ (x.Ints.length) (fQ (x.Dims.length) (fQ (x.Args.length) a))<(x.Form.length:Int):=by unfold fQ at h5; split at h5<;>omega
     rw [i,if_pos (by simp; omega)]
     simp [h5]
    ·obtain ⟨g,I,e⟩:=iV F h5
     rw [i,← e,if_neg (by simpa using h5),if_neg h5]
     rw [iO D g (by omega),aW]
     by_cases h6:fQ (x.Data.length) (fQ (x.Form.length) (fQ (x.Ints.length) (fQ (x.Dims.length) (fQ (x.Args.length) a))))<0
     ·rw [if_pos (by simpa using h6),tF h6 g]
     ·obtain ⟨T,J,r⟩:=iV g h6
      rw [if_neg (by simpa using h6)]
theorem v7 (x:Node)(h:SmNode x):Z2w x=some x:=by
 unfold Z2w
 rw [kU _ h.Args,aW,kU _ h.Dims,aW,kU _ h.Ints,aW,kU _ h.Data,aW]
theorem v8 (x:Node)(h:SmNode x):Z2j x x=some true:=by
 unfold Z2j
 rw [jZ _ h.Args,aW,jZ _ h.Dims,aW,jZ _ h.Ints,aW,jZ _ h.Data,aW]
 simp
def tH (xs:(List Node)):Prop:=xs.length≤maxLen∧∀ x∈xs,Cap70 x
def kV (xs:(List Node)):Prop:=xs.length≤1048576∧∀ x∈xs,SmNode x
theorem pA {xs:(List Node)}(h:mK ke xs≤1048576):kV xs:=⟨Nat.le_trans (tC _ _) h,fun x a=>rn (Nat.le_trans (tD _ a) h)⟩
theorem pB {xs:(List Node)}{a:Int}(b:tH xs)(g:0≤a)(h1:a≤1048576):Z18 xs a=some (fQ (mK ke xs) a):=by
 unfold Z18
 refine uZ (x:=fun l=>(aR (fun s:Int×Int=>Z18_L1 xs s.1 s.2) (l,(0:Int))).bind fun e=>match e with | .inl e=>some e | .inr e=>Z18_J1 e) (Nat.le_trans b.1 (by decide)) g h1 (fun h=>?_)
 obtain ⟨i,m,q⟩:=iV g h
 exact uY xs ke (Nat.lt_of_le_of_lt (show xs.length≤1048576 by unfold fQ at h; split at h<;>omega) (by decide)) Z2k _ (fun x j a=>rp (b.2 x j)) (fun _ _=>rfl) _ i (by omega)
theorem tJ (xs:(List Node))(h:kV xs):Z0p xs=some xs:=by
 unfold Z0p
 rw [if_pos (by have:xs.length≤1048576:=h.1; omega),mL xs zT54.z (fun s:(List Node)×Int=>Z0p_L1 xs s.1 s.2) (fun s i=>(s,i)) (fun ys k b a=>by
  have e:xs.length≤1048576:=h.1
  show Z0p_L1 xs ys (k:Int)=_
  unfold Z0p_L1
  rw [if_pos (tP a),if_pos (lL a),v7 _ (h.2 _ (bF a)),aW,if_pos (xB a),bX (by unfold bZ; omega)]; rfl) (fun ys _=>by
  show Z0p_L1 xs ys (xs.length:Int)=_
  unfold Z0p_L1; simp only [mV,Bool.false_eq_true,if_false])]
 rfl
theorem tK (xs:(List Node))(h:kV xs):Z1d xs xs=some true:=by
 unfold Z1d
 rw [kr,qw xs (fun s:Int=>Z1d_L1 xs xs s) h.1 Z2j (fun x a=>v8 x (h.2 x a)) (fun _=>rfl)]; rfl
def hO (x:Node):Nat:=1+x.Args.length+x.Dims.length+x.Ints.length+1+x.Data.length
noncomputable def tL (x:Node)(k:Nat):Node:=⟨((k:Nat):Int),tA x.Args (k+1),tA x.Dims (k+1+x.Args.length),tA x.Ints (k+1+x.Args.length+x.Dims.length),Bk (k+1+x.Args.length+x.Dims.length+x.Ints.length),tA x.Data (k+1+x.Args.length+x.Dims.length+x.Ints.length+1)⟩
noncomputable def nR (xs:(List Node))(k:Nat):(List Node):=((Z0k xs (k:Int)).getD default).2
theorem pC (xs:(List Node))(k:Nat)(h:kV xs)(m:k+ks hO xs≤BB):Z0k xs (k:Int)=some (((k+ks hO xs:Nat):Int),nR xs k):=by
 obtain ⟨ys,q,D,B⟩:=lc (U:=Int×Int) xs hO tL (fun s:(List Node)×Int×Int=>Z0k_L1 xs s.1 s.2.1 s.2.2) (fun ys k i=>(ys,k,i)) (fun ys k i j u g r=>by
  show Z0k_L1 xs ys (k:Int) (i:Int)=_
  have b:=h.2 _ (bF j)
  have a:i<ys.length:=by omega
  unfold hO at r
  unfold Z0k_L1 tL hO
  generalize ix xs (i:Int)=x at *
  rw [if_pos (tP j),if_pos (lL j),wi h.1 j]
  (try simp only [jf,Int.toNat_natCast,lz a,List.set_set,g])
  rw [wn (by omega)]
  (try simp only [jf,Int.toNat_natCast,lz a,List.set_set,g])
  rw [(iN _ _ b.Args (by omega)).1,aW]
  (try simp only [jf,Int.toNat_natCast,lz a,List.set_set,g])
  rw [(iN _ _ b.Dims (by omega)).1,aW]
  (try simp only [jf,Int.toNat_natCast,lz a,List.set_set,g])
  rw [(iN _ _ b.Ints (by omega)).1,aW]
  (try simp only [jf,Int.toNat_natCast,lz a,List.set_set,g])
  rw [xD,aW,wn (by omega)]
  (try simp only [jf,Int.toNat_natCast,lz a,List.set_set,g])
  rw [(iN _ _ b.Data (by omega)).1,aW]
  (try simp only [jf,Int.toNat_natCast,lz a,List.set_set,g])
  rw [show k+1+x.Args.length+x.Dims.length+x.Ints.length+1+x.Data.length=k+(1+x.Args.length+x.Dims.length+x.Ints.length+1+x.Data.length) by omega]) (fun ys k=>by
  show Z0k_L1 xs ys k (xs.length:Int)=_
  unfold Z0k_L1; simp only [mV,Bool.false_eq_true,if_false]) k m
 have e:Z0k xs (k:Int)=some (((k+ks hO xs:Nat):Int),ys):=by
  unfold Z0k; rw [q,aW]; rfl
 have l:nR xs k=ys:=by unfold nR; rw [e]; rfl
 rw [l,e]
structure Cap25 (x:Graph):Prop where
 Nodes:tH x.Nodes
 Outs:mO x.Outs
structure SmGraph (x:Graph):Prop where
 Nodes:kV x.Nodes
 Outs:iW x.Outs
def ld (x:Graph):Nat:=mK ke x.Nodes+x.Outs.length
theorem pD {x:Graph}(h:ld x≤1048576):SmGraph x:=by
 unfold ld at h
 exact ⟨pA (by omega),j8 (by omega)⟩
theorem pE {x:Graph}{a:Int}(j:Cap25 x)(e:0≤a)(h1:a≤1048576):Z2v x a=some (fQ (ld x) a):=by
 obtain ⟨g,l⟩:=j
 unfold Z2v ld
 rw [jt e]
 rw [pB g e (by omega),aW]
 by_cases h2:fQ (mK ke x.Nodes) a<0
 ·simp [h2]
 ·obtain ⟨b,m,i⟩:=iV e h2
  rw [if_neg (by simpa using h2),if_neg h2]
  rw [iO l b (by omega),aW]
  by_cases h3:fQ (x.Outs.length) (fQ (mK ke x.Nodes) a)<0
  ·rw [if_pos (by simpa using h3),tF h3 b]
  ·obtain ⟨q,r,h⟩:=iV b h3
   rw [if_neg (by simpa using h3)]
theorem mP (x:Graph)(h:SmGraph x):Z19 x=some x:=by
 unfold Z19
 rw [tJ _ h.Nodes,aW,kU _ h.Outs,aW]
theorem tM (x:Graph)(h:SmGraph x):Z2i x x=some true:=by
 unfold Z2i
 rw [tK _ h.Nodes,aW,jZ _ h.Outs,aW]
 simp
theorem pF (x:Graph)(k:Nat)(h:SmGraph x)(a:k+(ks hO x.Nodes+x.Outs.length)≤BB):∃ r,Z25 x (k:Int)=some (((k+ks hO x.Nodes+x.Outs.length:Nat):Int),r):=by
 unfold Z25
 rw [(pC x.Nodes (k) h.Nodes (by omega)),aW,(rl x.Outs (k+ks hO x.Nodes) h.Outs (by omega)).1,aW]
 exact ⟨_,rfl⟩
def m5 (xs:(List (List Int))):Prop:=xs.length≤1048576∧∀ x∈xs,iW x
theorem oM (xs:(List (List Int)))(h:m5 xs):Z0i xs xs=some true:=by
 unfold Z0i
 rw [kr,qw xs (fun s:Int=>Z0i_L1 xs xs s) h.1 Z05 (fun x a=>jZ x (h.2 x a)) (fun _=>rfl)]; rfl
noncomputable def m6 (xs:(List (List Int)))(k:Nat):(List (List Int)):=((Z0j xs (k:Int)).getD default).2
theorem pG (xs:(List (List Int)))(k:Nat)(h:m5 xs)(m:k+ks List.length xs≤BB):Z0j xs (k:Int)=some (((k+ks List.length xs:Nat):Int),m6 xs k)∧Z0c (m6 xs k) (k:Int)=some ((k+ks List.length xs:Nat):Int):=by
 obtain ⟨ys,r,l,u⟩:=lc (U:=Int×Int) xs List.length tA (fun s:(List (List Int))×Int×Int=>Z0j_L1 xs s.1 s.2.1 s.2.2) (fun ys k i=>(ys,k,i)) (fun ys k i a B j b=>by
  show Z0j_L1 xs ys (k:Int) (i:Int)=_
  unfold Z0j_L1
  rw [if_pos (tP a),if_pos (lL a),wi h.1 a,j,(iN _ k (h.2 _ (bF a)) b).1,aW,Int.toNat_natCast]) (fun ys k=>by
  show Z0j_L1 xs ys k (xs.length:Int)=_
  unfold Z0j_L1; simp only [mV,Bool.false_eq_true,if_false]) k m
 have e:Z0j xs (k:Int)=some (((k+ks List.length xs:Nat):Int),ys):=by
  unfold Z0j; rw [r,aW]; rfl
 have g:m6 xs k=ys:=by unfold m6; rw [e]; rfl
 rw [g]
 refine ⟨e,?_⟩
 unfold Z0c
 rw [u (fun s:Int×Int=>Z0c_L1 ys s.1 s.2) (fun k i=>(k,i)) (fun k i a b q=>by
  show Z0c_L1 ys (k:Int) (i:Int)=_
  unfold Z0c_L1
  rw [if_pos (tP (by omega)),if_pos (lL (by omega)),q,wi h.1 a,(iN _ k (h.2 _ (bF a)) b).2,aW,v6]; rfl) (fun k=>by
  show Z0c_L1 ys k (xs.length:Int)=_
  rw [← l]
  unfold Z0c_L1; simp only [mV,Bool.false_eq_true,if_false])]
 rfl
theorem zR {g:Graph}(h:SmGraph g):GC g:=by
 have b:(1048576:Nat)<bZ:=by decide
 have a:=h.Nodes
 exact ⟨Nat.lt_of_le_of_lt a.1 b,Nat.lt_of_le_of_lt h.Outs b,fun n m=>Nat.lt_of_le_of_lt (a.2 n m).Args b,fun n m=>Nat.lt_of_le_of_lt (a.2 n m).Dims b,fun n m=>Nat.lt_of_le_of_lt (a.2 n m).Ints b,fun n m=>Nat.lt_of_le_of_lt (a.2 n m).Data b,fun n m=>(a.2 n m).Form⟩
theorem zS {g:Graph}(h:¬ fQ (ld g) 1048576<0):SmGraph g:=pD (by unfold fQ at h; split at h<;>omega)
theorem zT {a:Graph}(b:SmGraph a):∃ (n:Nat) (r:(List Node)×(List Int)),Z25 a 1=some ((n:Int),r):=by
 have e:=b.Nodes
 have m:a.Outs.length≤1048576:=b.Outs
 have j:ks hO a.Nodes≤1048576*4194306:=tB hO 4194306 a.Nodes (fun x g=>by
  have:=e.2 x g
  have l:x.Args.length≤1048576:=this.Args
  have i:x.Dims.length≤1048576:=this.Dims
  have a3:x.Ints.length≤1048576:=this.Ints
  have a4:x.Data.length≤1048576:=this.Data
  unfold hO; omega) e.1
 obtain ⟨r,h⟩:=pF a 1 b (by unfold BB; omega)
 exact ⟨_,r,h⟩
theorem nn (n:Nat):decide ((n:Int)<0)=false:=by simp
theorem pH (x:Int):(x != x)=false:=by simp
theorem va {a:Graph}{x:List (List Int)}{f:Graph→Option (List (List Int))}(B:SmGraph a)(s:m5 x)(O:1+ks List.length x≤BB)(M:f a=some x){g:Graph→Option (List (List Int))}(Y:g a=some x) :
  ((g a).bind fun i=>(Z19 a).bind fun e=>(f e).bind fun h=>(Z0i h i).bind fun I=>if (!I)=true then some false else ((Z19 a).bind fun D=>(Z2i e D).bind fun G=>if (!G)=true then some false else (
   (Z25 e (1:Int)).bind fun l=>(bP (!(decide (l.1<(0:Int)))) (Z0i h i)).bind fun F=>if ((decide (l.1<(0:Int)))||(!F))=true then some false else (
   (Z0j h (1:Int)).bind fun b=>(Z0c b.2 (1:Int)).bind fun j=>if (decide (j<(0:Int)))=true then some false else (if (j != b.1)=true then some false else (
   (Z19 a).bind fun u=>(f u).bind fun E=>(Z0i E i).bind fun q=>if (!q)=true then some false else (
   (Z0c b.2 (1:Int)).bind fun m=>if (decide (m<(0:Int)))=true then some false else (if (m != b.1)=true then some false else some true))))))):Option Bool)=some true:=by
 obtain ⟨n,r,T⟩:=zT B
 obtain ⟨J,L⟩:=pG x 1 s O
 have U:((1:Nat):Int)=1:=rfl
 rw [U] at J L
 rw [Y,aW,mP a B,aW,M,aW,oM x s,aW,if_neg (by simp),aW,tM a B,aW,if_neg (by simp),T,aW,nn,Bool.not_false,Bj,aW,if_neg (by simp),J,aW,L,aW,nn,if_neg (by simp),pH,if_neg (by simp),aW,M,aW,oM x s,aW,if_neg (by simp),aW,nn,if_neg (by simp),if_neg (by simp)]
theorem xE {xs:List (List Int)}(h:xs.length≤1048576)(b:∀ x∈xs,x.length≤1048576):Z2g xs=some xs:=by
 unfold Z2g Z0z
 rw [if_pos (by omega),mL xs [] (fun s:(List (List Int))×Int=>Z0z_L1 xs s.1 s.2) (fun s i=>(s,i)) (fun ys k e a=>by
  show Z0z_L1 xs ys (k:Int)=_
  unfold Z0z_L1 Z31
  rw [if_pos (tP a),if_pos (lL a),gF (Nat.le_trans (b _ (bF a)) (by decide)),aW,aW,if_pos (xB a),bX (by unfold bZ; omega)]; rfl) (fun ys _=>by
  show Z0z_L1 xs ys (xs.length:Int)=_
  unfold Z0z_L1; simp only [mV,Bool.false_eq_true,if_false])]
 rfl
theorem vc {a:List Tensor}(b:Bool)(e:a.length≤200∨b=false):aR (fun s:List (List Int)×Int=>Z0l_L1 (a,b) s.1 s.2) ([],0)=some (if b=true then a.map Tensor.Dims else []):=by
 cases b with
 | false =>
  refine cX ?_
  simp only [Z0l_L1]
  rw [if_neg (by simp)]; rfl
 | true =>
  have e:=e.resolve_right (by simp)
  rw [if_pos rfl]
  refine eT (f:=fun s:List (List Int)×Int=>Z0l_L1 (a,true) s.1 s.2) (fun k=>((a.take k).map Tensor.Dims,(k:Int))) a.length (fun k g=>?_) ?_ rfl
  ·simp only [Z0l_L1]
   rw [if_pos (by simp; omega),if_pos (by omega),if_pos (by simp; omega),bX (by unfold bZ; omega),List.take_succ_eq_append_getElem g,List.map_append,bU g]
   rfl
  ·simp only [Z0l_L1]
   rw [if_neg (by simp),List.take_length]
theorem pI (a:Graph)(D:Cap25 a):Z37 a=some true:=by
 unfold Z37
 rw [pE D (by omega) (by omega),aW]
 by_cases h:fQ (ld a) 1048576<0
 ·rw [if_pos (by simpa using h)]
 ·have j:=zS h
  obtain ⟨q,s,g,h1,h2,l⟩:=oK (zR j)
  have r:q.length≤200∨g=false:=by
   cases g
   ·exact .inr rfl
   ·have:=l rfl; exact .inl (by omega)
  obtain ⟨x,i⟩:∃ x,x=if g=true then q.map Tensor.Dims else []:=⟨_,rfl⟩
  have m:x.length≤200∧∀ y∈x,y.length≤6:=by
   rw [i]
   cases g with
   | false=>simp
   | true =>
    rw [if_pos rfl]
    refine ⟨by have:=r.resolve_right (by simp); simpa using this,fun y b=>?_⟩
    obtain ⟨t,u,rfl⟩:=List.mem_map.1 b
    exact ((l rfl).2.2.1 t u).d.1
  have k1:Z0l a=some x:=by
   unfold Z0l
   rw [h1,aW,vc g r,aW,i]; rfl
  have B:Z1x a=some x:=by
   unfold Z1x
   rw [h2,aW,i]
   cases g with
   | false=>rfl
   | true =>
    have e:=(l rfl).1
    rw [if_pos rfl] at i
    rw [if_neg (by simp),if_pos rfl]
    show (Z2g s).bind _=_
    rw [e,← i,xE (by omega) (fun y b=>by have:=m.2 y b; omega)]
    rfl
  have hS:m5 x:=⟨by omega,fun y b=>by have:=m.2 y b; show y.length≤_; omega⟩
  have E:ks List.length x≤1048576*6:=tB List.length 6 x (fun y b=>m.2 y b) (by omega)
  rw [if_neg (by simpa using h),mP a j,aW]
  have:=va j hS (by unfold BB; omega) B k1
  rw [mP a j] at this
  exact this
end Go.Proofs.YtmpnollfdpdipaaGreat
