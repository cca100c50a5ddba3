import Derived.Test.YtmpnollfdpdipaaGreatGG13
import Derived.Test.YtmpnollfdpdipaaGreatGkF
import Derived.Test.YtmpnollfdpdipaaGreatPL1
set_option linter.unusedVariables false
set_option linter.unusedSimpArgs false
namespace Go.Proofs.YtmpnollfdpdipaaGreat
open Go Go.Pg
theorem sW {c:UInt8}(h:97≤c.toNat∧c.toNat≤122):IntKind.wrap .u8 ((c.toNat:Int) - 97)=(c.toNat:Int) - 97:=by
 unfold IntKind.wrap
 simp [IntKind.bits,IntKind.signed]
 omega
theorem qe {g:aM}{k:Nat}(h:k<g.length):sub g (k:Int) ((k+1:Nat):Int)=[ix g (k:Int)]:=by
 unfold sub
 rw [Int.toNat_natCast,Int.toNat_natCast,List.take_succ_eq_append_getElem h,List.drop_append_of_le_length (by simp; omega),bV h]
 simp
theorem x0 {gs:List aM}{dss:List (List Int)}{b:List aM×aM×Bool}{x:Nat}(I:b.1=gs)(Z:x<gs.length)(u:LT (ix gs (x:Int))){m:Nat}(Y:m≤100){s:aM×List Int}(h1:s.1.length≤m)(h2:s.2.length=26)(D:(ix gs (x:Int)).length=(ix dss (x:Int)).length) :
  (∃ s',l6 (ix gs (x:Int)) (ix dss (x:Int)) s=some s'∧aU (fun s:aM×List Int×Int=>Z3_L2 dss b (x:Int) s.1 s.2.1 s.2.2) (s.1,s.2,0)=some (.inr (s'.1,s'.2))∧s'.1.length≤m+6∧s'.2.length=26) ∨
  (l6 (ix gs (x:Int)) (ix dss (x:Int)) s=none∧∃ e,aU (fun s:aM×List Int×Int=>Z3_L2 dss b (x:Int) s.1 s.2.1 s.2.2) (s.1,s.2,0)=some (.inl e)∧e.2=false):=by
 obtain ⟨g,l⟩:∃ g,g=ix gs (x:Int):=⟨_,rfl⟩
 obtain ⟨ds,h⟩:∃ ds,ds=ix dss (x:Int):=⟨_,rfl⟩
 have a:ix b.1 (x:Int)=g:=by rw [I,l]
 rw [← l] at u D ⊢
 rw [← h] at D ⊢
 unfold l6
 rw [if_pos D]
 rcases iZ (f:=fun s:aM×List Int×Int=>Z3_L2 dss b (x:Int) s.1 s.2.1 s.2.2) (fun s k=>kK s (ix g (k:Int)) (ix ds (k:Int))) (fun s i=>(s.1,s.2,i)) (fun s=>(s.1,s.2)) (fun e=>e.2=false) (fun j s=>s.1.length≤m+j∧s.2.length=26) g.length
  (fun j s F E=>by
   obtain ⟨i1,T⟩:=E
   have J:=u.2 _ (bE F)
   have L:=u.1
   have B:bt g (j:Int)=((ix g (j:Int)).toNat:Int):=rfl
   simp only [Z3_L2]
   rw [a,← h,if_pos (by simp; omega),if_pos (by omega),B,sW J,if_pos (by omega),if_pos (fun _=>by omega)]
   show (∃ s',kK s _ _=_∧_)∨_
   unfold kK
   by_cases c:lk s.2 (ix g (j:Int))≠0∧lk s.2 (ix g (j:Int))≠ix ds (j:Int)
   ·rw [if_pos c,if_pos (by unfold lk at c; simpa using c)]
    exact .inr ⟨rfl,_,rfl,rfl⟩
   ·rw [if_neg c]
    obtain ⟨r,U,G⟩:=nw s.1 (ix g (j:Int))
    have O:((((ix g (j:Int)).toNat:Int) - 97)).toNat=(ix g (j:Int)).toNat - 97:=by omega
    have M:¬ (((ix s.2 (((ix g (j:Int)).toNat:Int) - 97)) != 0)&&((ix s.2 (((ix g (j:Int)).toNat:Int) - 97)) != (ix ds (j:Int))))=true:=by
     unfold lk at c; simpa using c
    refine .inl ⟨_,rfl,?_,?_,by simpa using T⟩
    ·rw [if_neg M,if_pos (by omega)]
     simp only [nm,Option.bind_some]
     rw [U,O]
     simp only [Option.bind_some]
     by_cases q:ix g (j:Int)∈s.1
     ·rw [if_neg (by simp; have:¬ r<0:=fun z=>G.1 z q; omega),if_pos q]
      simp only [Z3_J5]
      rw [bX (by unfold cA; omega)]
     ·rw [if_pos (decide_eq_true (G.2 q)),bX (by unfold cA; omega),if_pos (by omega),qe F,if_pos (by simp; omega),if_neg q]
      simp only [Z3_J5]
      rw [bX (by unfold cA; omega)]
    ·by_cases q:ix g (j:Int)∈s.1
     ·simp only [if_pos q]; omega
     ·simp only [if_neg q]; simp; omega)
  (fun s E=>by
   simp only [Z3_L2]
   rw [a,if_neg (by simp)])
  (s:=s) ⟨by omega,h2⟩ with ⟨s',a1,a2,a3,a4⟩|⟨a1,e,a2,a3⟩
 ·have:=u.1
  exact .inl ⟨s',a1,a2,by omega,a4⟩
 ·exact .inr ⟨a1,e,a2,a3⟩
theorem x5 {gs:List aM}{dss:List (List Int)}{b:List aM×aM×Bool}(l:b.1=gs)(F:gs.length≤6)(u:∀ g∈gs,LT g)(E:gs.length=dss.length){s:aM×List Int}(h1:s.1.length≤6)(h2:s.2.length=26) :
  (∃ s',mF gs dss s=some s'∧aU (fun s:aM×List Int×Int=>Z3_L1 dss b s.1 s.2.1 s.2.2) (s.1,s.2,0)=some (.inr (s'.1,s'.2))∧s'.1.length≤42∧s'.2.length=26) ∨
  (mF gs dss s=none∧∃ e,aU (fun s:aM×List Int×Int=>Z3_L1 dss b s.1 s.2.1 s.2.2) (s.1,s.2,0)=some (.inl e)∧e.2=false):=by
 unfold mF
 rcases iZ (f:=fun s:aM×List Int×Int=>Z3_L1 dss b s.1 s.2.1 s.2.2) (fun s k=>l6 (ix gs (k:Int)) (ix dss (k:Int)) s) (fun s i=>(s.1,s.2,i)) (fun s=>(s.1,s.2)) (fun e=>e.2=false) (fun j s=>s.1.length≤6+6*j∧s.2.length=26) gs.length
  (fun j s r q=>by
   obtain ⟨B,D⟩:=q
   simp only [Z3_L1]
   rw [l,if_pos (by simp; omega),if_pos (by omega),if_pos (by omega)]
   by_cases c:(ix gs (j:Int)).length=(ix dss (j:Int)).length
   ·rw [if_neg (by simp; omega)]
    rcases x0 (m:=6+6*j) l r (u _ (bE r)) (by omega) B D c with ⟨s',a,h,a3,a4⟩|⟨a,e,h,a3⟩
    ·rw [h]
     refine .inl ⟨s',a,?_,by omega,a4⟩
     simp only [Option.bind_some,Z3_J6]
     rw [bX (by unfold cA; omega)]
    ·rw [h]
     exact .inr ⟨a,e,rfl,a3⟩
   ·rw [if_pos (by simp; omega)]
    refine .inr ⟨by unfold l6; rw [if_neg c],_,rfl,rfl⟩)
  (fun s q=>by
   simp only [Z3_L1]
   rw [l,if_neg (by simp)])
  (s:=s) ⟨by omega,h2⟩ with ⟨s',a,h,a3,a4⟩|⟨a,e,h,a3⟩
 ·exact .inl ⟨s',a,h,by omega,a4⟩
 ·exact .inr ⟨a,e,h,a3⟩
theorem sX:∀ {f:aM} {c:UInt8} {j:Nat},j<f.idxOf c→∀ h:j<f.length,f[j]≠c
 | [],_,_,_,h=>by simp at h
 | b::l,c,j,hj,h=>by
  rw [List.idxOf_cons] at hj
  cases e:b==c with
  | true=>rw [e] at hj; simp at hj
  | false =>
   rw [e] at hj
   cases j with
   | zero=>simpa using e
   | succ j=>exact sX (f:=l) (by simp at hj; omega) (by simpa using h)
theorem x7 {gs:List aM}{k i:Nat}{f:aM}(m:f.length<cA)(r:i<(ix gs (k:Int)).length):aU (fun s:Int=>Z2_L3 gs (k:Int) f (i:Int) s) 0=some ((f.idxOf (ix (ix gs (k:Int)) (i:Int)):Nat):Int):=by
 obtain ⟨c,g⟩:∃ c,c=ix (ix gs (k:Int)) (i:Int):=⟨_,rfl⟩
 rw [← g]
 have l:f.idxOf c≤f.length:=List.idxOf_le_length
 have a:bt (ix gs (k:Int)) (i:Int)=(c.toNat:Int):=by rw [g]; rfl
 have e:∀ j:Nat,(bt f (j:Int) != (c.toNat:Int))=!decide (ix f (j:Int)=c):=by
  intro j
  have:(bt f (j:Int)==(c.toNat:Int))=decide (ix f (j:Int)=c):=kH
  unfold bne; rw [this]
 refine eR (f:=fun s:Int=>Z2_L3 gs (k:Int) f (i:Int) s) (fun j=>(j:Int)) (f.idxOf c) (fun j h=>?_) ?_ rfl
 ·have b:j<f.length:=by omega
  simp only [Z2_L3]
  rw [if_pos (fun _=>by omega),if_pos (fun _=>by omega),a,e,bX (by omega),if_pos]
  have:ix f (j:Int)≠c:=by
   rw [bV b]; exact sX h b
  simp [this]; omega
 ·simp only [Z2_L3]
  rw [if_pos (fun z=>by simp at z; omega),if_pos (fun _=>by omega),a,e,if_neg]
  by_cases q:f.idxOf c<f.length
  ·have:ix f ((f.idxOf c:Nat):Int)=c:=by rw [bV q]; exact List.getElem_idxOf q
   simp [this]
  ·simp; omega
theorem l7 {lens:List Int}(h:lens.length=26){c a:UInt8}(g:97≤c.toNat∧c.toNat≤122)(b:97≤a.toNat∧a.toNat≤122)(d:Int):lk (lens.set (c.toNat - 97) d) a=if a=c then d else lk lens a:=by
 unfold lk
 have e:((a.toNat:Int) - 97)=((a.toNat - 97:Nat):Int):=by omega
 rw [e,bV (by simp; omega),List.getElem_set]
 by_cases q:a=c
 ·rw [if_pos q,if_pos (by rw [q])]
 ·have:a.toNat≠c.toNat:=fun z=>q (UInt8.toNat_inj.1 z)
  rw [if_neg q,if_neg (by omega),bV (by omega)]
theorem qf:∀ {f:aM} {c:UInt8} {g h:UInt8→Int} {d:Int},f.Nodup→c∈f→h c=d→(∀ x∈f,x≠c→h x=g x)→(f.map g).set (f.idxOf c) d=f.map h
 | [],_,_,_,_,_,hm,_,_=>by simp at hm
 | b::l,c,g,h,d,hn,hm,h1,h2=>by
  rw [List.nodup_cons] at hn
  rw [List.idxOf_cons]
  by_cases q:b=c
  ·subst q
   simp only [beq_self_eq_true,cond_true,List.map_cons,List.set_cons_zero,h1]
   congr 1
   apply List.map_congr_left
   intro x a
   exact (h2 x (List.mem_cons_of_mem _ a) (fun z=>hn.1 (z▸a))).symm
  ·have e:(b==c)=false:=by simpa using q
   have i:c∈l:=by
    rcases List.mem_cons.1 hm with z | z
    ·exact absurd z.symm q
    ·exact z
   rw [e]
   simp only [cond_false,List.map_cons,List.set_cons_succ]
   rw [qf hn.2 i h1 (fun x a j=>h2 x (List.mem_cons_of_mem _ a) j),h2 b (List.mem_cons_self ..) q]
structure IS (s:aM×List Int):Prop where
 l:s.2.length=26
 n:s.1.Nodup
 c:∀ c∈s.1,97≤c.toNat∧c.toNat≤122
 z:∀ c:UInt8,97≤c.toNat→c.toNat≤122→c ∉ s.1→lk s.2 c=0
theorem qg {s s':aM×List Int}{c:UInt8}{d:Int}(e:IS s)(i:97≤c.toNat∧c.toNat≤122)(h:kK s c d=some s'):IS s'∧s'.1.length≤s.1.length+1:=by
 unfold kK at h
 split at h
 ·cases h
 ·cases h
  by_cases q:c∈s.1
  ·simp only [if_pos q]
   refine ⟨⟨by simpa using e.l,e.n,e.c,fun x h1 h2 g=>?_⟩,by omega⟩
   rw [l7 e.l i ⟨h1,h2⟩,if_neg (fun z=>g (by rw [z]; exact q))]
   exact e.z x h1 h2 g
  ·simp only [if_neg q]
   refine ⟨⟨by simpa using e.l,?_,?_,fun x h1 h2 g=>?_⟩,by simp⟩
   ·rw [List.nodup_append]
    refine ⟨e.n,by simp,?_⟩
    intro a m b j
    simp at j; subst j
    exact fun z=>q (z▸m)
   ·intro x r
    rcases List.mem_append.1 r with z | z
    ·exact e.c x z
    ·simp at z; rw [z]; exact i
   ·simp at g
    rw [l7 e.l i ⟨h1,h2⟩,if_neg g.2]
    exact e.z x h1 h2 g.1
theorem pi {f:aM}{g:UInt8→Int}{p:Nat}(h:p<f.length):ix (f.map g) (p:Int)=g f[p]:=by
 rw [bV (by simpa using h)]; simp
theorem sY {gs:List aM}{dss:List (List Int)}{x j:Nat}{s:aM×List Int}(B:IS s)(J:s.1.length≤100)(Z:j<(ix gs (x:Int)).length)(hl:(ix gs (x:Int)).length=(ix dss (x:Int)).length)(h6:(ix gs (x:Int)).length≤6)(g:97≤(ix (ix gs (x:Int)) (j:Int)).toNat∧(ix (ix gs (x:Int)) (j:Int)).toNat≤122) :
  (∃ s',kK s (ix (ix gs (x:Int)) (j:Int)) (ix (ix dss (x:Int)) (j:Int))=some s'∧Z2_L2 gs dss (x:Int) s.1 (s.1.map (lk s.2)) (j:Int)=some (.inl (s'.1,s'.1.map (lk s'.2),((j+1:Nat):Int)))) ∨
  (kK s (ix (ix gs (x:Int)) (j:Int)) (ix (ix dss (x:Int)) (j:Int))=none∧∃ e,Z2_L2 gs dss (x:Int) s.1 (s.1.map (lk s.2)) (j:Int)=some (.inr (.inl e))∧e.2.2=false):=by
 obtain ⟨c,m⟩:∃ c,c=ix (ix gs (x:Int)) (j:Int):=⟨_,rfl⟩
 obtain ⟨d,Y⟩:∃ d,d=ix (ix dss (x:Int)) (j:Int):=⟨_,rfl⟩
 rw [← m] at g ⊢
 rw [← Y]
 have F:=x7 (gs:=gs) (k:=x) (i:=j) (f:=s.1) (by unfold cA; omega) Z
 rw [← m] at F
 simp only [Z2_L2]
 rw [if_pos (by simp; omega),F]
 simp only [Option.bind_some]
 have T:∀ (f:aM) (ls:List Int),f.Nodup→c∈f→s.1.idxOf c=f.idxOf c→ls=f.map (lk s.2)→(∀ y∈f,97≤y.toNat∧y.toNat≤122) →
   Z2_J9 dss (x:Int) (j:Int) ((s.1.idxOf c:Nat):Int) f ls=if lk s.2 c≠0∧lk s.2 c≠d then some (.inr (.inl ([],ls,false))) else some (.inl (f,f.map (lk (s.2.set (c.toNat - 97) d)),((j+1:Nat):Int))):=by
  intro f ls hn J hi u r
  have D:f.idxOf c<f.length:=List.idxOf_lt_length_iff.2 J
  have e:ix ls ((f.idxOf c:Nat):Int)=lk s.2 c:=by
   rw [u,pi D]; congr 1; exact List.getElem_idxOf D
  have a0:ls.length=f.length:=by rw [u]; simp
  unfold Z2_J9
  rw [hi,e,← Y,if_pos (by omega),if_pos (fun _=>by omega)]
  by_cases q:lk s.2 c≠0∧lk s.2 c≠d
  ·rw [if_pos q,if_pos (by simpa using q)]
  ·rw [if_neg q,if_neg (by simpa using q),if_pos (by omega),bX (by unfold cA; omega),Int.toNat_natCast,u,qf hn J (h:=lk (s.2.set (c.toNat - 97) d))]
   ·rw [l7 B.l g g,if_pos rfl]
   ·intro y M O
    rw [l7 B.l g (r y M),if_neg O]
 have R:∀ f,(if c∈s.1 then s.1 else s.1++[c])=f→(∀ z,z=(if lk s.2 c≠0∧lk s.2 c≠d then some (.inr (.inl ([],f.map (lk s.2),false))) else some (.inl (f,f.map (lk (s.2.set (c.toNat - 97) d)),((j+1:Nat):Int))):Option ((aM×(List Int)×Int)⊕((aM×(List Int)×Bool)⊕(aM×(List Int))))) →
   (∃ s',kK s c d=some s'∧z=some (.inl (s'.1,s'.1.map (lk s'.2),((j+1:Nat):Int))))∨(kK s c d=none∧∃ e,z=some (.inr (.inl e))∧e.2.2=false)):=by
  intro f F z G
  unfold kK
  by_cases q:lk s.2 c≠0∧lk s.2 c≠d
  ·rw [if_pos q] at G ⊢
   exact .inr ⟨rfl,_,G,rfl⟩
  ·rw [if_neg q] at G ⊢
   rw [F]
   exact .inl ⟨_,rfl,G⟩
 unfold Z2_J8
 by_cases q:c∈s.1
 ·have D:s.1.idxOf c<s.1.length:=List.idxOf_lt_length_iff.2 q
  rw [if_neg (by simp; omega),T s.1 _ B.n q rfl rfl B.c]
  exact R s.1 (if_pos q) _ rfl
 ·have D:s.1.idxOf c=s.1.length:=by
   have:¬ s.1.idxOf c<s.1.length:=fun z=>q (List.idxOf_lt_length_iff.1 z)
   have:s.1.idxOf c≤s.1.length:=List.idxOf_le_length
   omega
  have I:(s.1++[c]).idxOf c=s.1.length:=by
   rw [List.idxOf_append,if_neg q]; simp
  have L:(s.1++[c]).Nodup:=by
   rw [List.nodup_append]
   refine ⟨B.n,by simp,?_⟩
   intro a ha b U
   simp at U; subst U
   exact fun z=>q (z▸ha)
  have r:∀ y∈s.1++[c],97≤y.toNat∧y.toNat≤122:=by
   intro y M
   rcases List.mem_append.1 M with z | z
   ·exact B.c y z
   ·simp at z; rw [z]; exact g
  have E:s.1.map (lk s.2)++[0]=(s.1++[c]).map (lk s.2):=by
   rw [List.map_append]; simp [B.z c g.1 g.2 q]
  rw [if_pos (by rw [D]; simp),bX (by unfold cA; omega),if_pos (by omega),qe Z,← m,if_pos (by simp; omega),if_pos (by simp; omega),T (s.1++[c]) _ L (by simp) (by rw [D,I]) E r,E]
  exact R _ (if_neg q) _ rfl
theorem x8 {gs:List aM}{dss:List (List Int)}{x:Nat}(l:LT (ix gs (x:Int))){m:Nat}(G:m≤90){s:aM×List Int}(h1:s.1.length≤m)(E:IS s)(u:(ix gs (x:Int)).length=(ix dss (x:Int)).length) :
  (∃ s',l6 (ix gs (x:Int)) (ix dss (x:Int)) s=some s'∧aU (fun s:aM×List Int×Int=>Z2_L2 gs dss (x:Int) s.1 s.2.1 s.2.2) (s.1,s.1.map (lk s.2),0)=some (.inr (s'.1,s'.1.map (lk s'.2)))∧s'.1.length≤m+6∧IS s') ∨
  (l6 (ix gs (x:Int)) (ix dss (x:Int)) s=none∧∃ e,aU (fun s:aM×List Int×Int=>Z2_L2 gs dss (x:Int) s.1 s.2.1 s.2.2) (s.1,s.1.map (lk s.2),0)=some (.inl e)∧e.2.2=false):=by
 unfold l6
 rw [if_pos u]
 have D:=l.1
 rcases iZ (f:=fun s:aM×List Int×Int=>Z2_L2 gs dss (x:Int) s.1 s.2.1 s.2.2) (fun s k=>kK s (ix (ix gs (x:Int)) (k:Int)) (ix (ix dss (x:Int)) (k:Int))) (fun s i=>(s.1,s.1.map (lk s.2),i)) (fun s=>(s.1,s.1.map (lk s.2))) (fun e=>e.2.2=false) (fun j s=>s.1.length≤m+j∧IS s) (ix gs (x:Int)).length
  (fun j s r g=>by
   have h:=l.2 _ (bE r)
   rcases sY g.2 (by have:=g.1; omega) r u D h with ⟨s',a,b⟩ | q
   ·obtain ⟨B,F⟩:=qg g.2 h a
    exact .inl ⟨s',a,b,by have:=g.1; omega,B⟩
   ·exact .inr q)
  (fun s g=>by
   simp only [Z2_L2]
   rw [if_neg (by simp)])
  (s:=s) ⟨by omega,E⟩ with ⟨s',a,b,a3,a4⟩|⟨a,e,b,a3⟩
 ·exact .inl ⟨s',a,b,by omega,a4⟩
 ·exact .inr ⟨a,e,b,a3⟩
theorem sZ {gs:List aM}{dss:List (List Int)}(E:gs.length≤6)(l:∀ g∈gs,LT g)(D:gs.length=dss.length){s:aM×List Int}(h1:s.1.length≤6)(r:IS s) :
  (∃ s',mF gs dss s=some s'∧aU (fun s:aM×List Int×Int=>Z2_L1 gs dss s.1 s.2.1 s.2.2) (s.1,s.1.map (lk s.2),0)=some (.inr (s'.1,s'.1.map (lk s'.2)))∧s'.1.length≤42∧IS s') ∨
  (mF gs dss s=none∧∃ e,aU (fun s:aM×List Int×Int=>Z2_L1 gs dss s.1 s.2.1 s.2.2) (s.1,s.1.map (lk s.2),0)=some (.inl e)∧e.2.2=false):=by
 unfold mF
 rcases iZ (f:=fun s:aM×List Int×Int=>Z2_L1 gs dss s.1 s.2.1 s.2.2) (fun s k=>l6 (ix gs (k:Int)) (ix dss (k:Int)) s) (fun s i=>(s.1,s.1.map (lk s.2),i)) (fun s=>(s.1,s.1.map (lk s.2))) (fun e=>e.2.2=false) (fun j s=>s.1.length≤6+6*j∧IS s) gs.length
  (fun j s q h=>by
   obtain ⟨u,B⟩:=h
   simp only [Z2_L1]
   rw [if_pos (by simp; omega),if_pos (by omega),if_pos (by omega)]
   by_cases c:(ix gs (j:Int)).length=(ix dss (j:Int)).length
   ·rw [if_neg (by simp; omega)]
    rcases x8 (m:=6+6*j) (l _ (bE q)) (by omega) u B c with ⟨s',a,b,a3,a4⟩|⟨a,e,b,a3⟩
    ·rw [b]
     refine .inl ⟨s',a,?_,by omega,a4⟩
     simp only [Option.bind_some,Z2_J10]
     rw [bX (by unfold cA; omega)]
    ·rw [b]
     exact .inr ⟨a,e,rfl,a3⟩
   ·rw [if_pos (by simp; omega)]
    refine .inr ⟨by unfold l6; rw [if_neg c],_,rfl,rfl⟩)
  (fun s h=>by
   simp only [Z2_L1]
   rw [if_neg (by simp)])
  (s:=s) ⟨by omega,r⟩ with ⟨s',a,b,a3,a4⟩|⟨a,e,b,a3⟩
 ·exact .inl ⟨s',a,b,by omega,a4⟩
 ·exact .inr ⟨a,e,b,a3⟩
theorem nx {S:Type}{st:S→Nat→Option S}(I:Nat→S→Prop){s:S}(a:I 0 s):∀ (n:Nat),(∀ j s s',j<n→I j s→st s j=some s'→I (j+1) s')→∀ {s':S},ph st n s=some s'→I n s'
 | 0,_,s',h=>by cases h; exact a
 | n+1,hs,s',h=>by
  rw [ph] at h
  obtain ⟨m,h1,h2⟩:=bd h
  exact hs n m s' (by omega) (nx I a n (fun j s s' b=>hs j s s' (by omega)) h1) h2
structure Ext (s s':aM×List Int):Prop where
 i:IS s'
 p:∃ t,s'.1=s.1++t
 k:∀ c:UInt8,97≤c.toNat→c.toNat≤122→lk s.2 c≠0→lk s'.2 c=lk s.2 c
theorem Ext.rfl_ {s:aM×List Int}(h:IS s):Ext s s:=⟨h,⟨[],by simp⟩,fun _ _ _ _=>rfl⟩
theorem Ext.trans {a b c:aM×List Int}(h1:Ext a b)(h2:Ext b c):Ext a c:=by
 obtain ⟨t,e⟩:=h1.p
 obtain ⟨u,g⟩:=h2.p
 refine ⟨h2.i,⟨t++u,by rw [g,e,List.append_assoc]⟩,fun x a b h=>?_⟩
 have:=h1.k x a b h
 rw [h2.k x a b (by rw [this]; exact h),this]
theorem t2 {s s':aM×List Int}{c:UInt8}{d:Int}(j:IS s)(g:97≤c.toNat∧c.toNat≤122)(h:kK s c d=some s'):Ext s s'∧c∈s'.1∧lk s'.2 c=d∧∀ x∈s'.1,x∈s.1∨x=c:=by
 have u:=(qg j g h).1
 unfold kK at h
 split at h
 ·cases h
 ·rename_i q
  cases h
  refine ⟨⟨u,?_,fun x a b r=>?_⟩,?_,?_,?_⟩
  ·by_cases m:c∈s.1
   ·exact ⟨[],by simp [m]⟩
   ·exact ⟨[c],by simp [m]⟩
  ·show lk (s.2.set _ _) x=_
   rw [l7 j.l g ⟨a,b⟩]
   by_cases e:x=c
   ·subst e
    rw [if_pos rfl]
    exact Classical.byContradiction fun z=>q ⟨r,fun w=>z w.symm⟩
   ·rw [if_neg e]
  ·by_cases m:c∈s.1<;>simp [m]
  ·show lk (s.2.set _ _) c=_
   rw [l7 j.l g g,if_pos rfl]
  ·intro x i
   by_cases m:c∈s.1
   ·simp only [if_pos m] at i; exact .inl i
   ·simp only [if_neg m] at i; simpa using i
theorem t6 {g:aM}{ds:List Int}{s s':aM×List Int}(M:IS s)(E:LT g)(J:∀ d∈ds,d≠0)(h:l6 g ds s=some s') :
  Ext s s'∧g.length=ds.length∧(∀ j:Nat,j<g.length→ix g (j:Int)∈s'.1∧lk s'.2 (ix g (j:Int))=ix ds (j:Int))∧∀ x∈s'.1,x∈s.1∨x∈g:=by
 unfold l6 at h
 split at h
 ·rename_i L
  obtain ⟨a,b,c⟩:=nx (fun n z=>Ext s z∧(∀ j:Nat,j<n→ix g (j:Int)∈z.1∧lk z.2 (ix g (j:Int))=ix ds (j:Int))∧∀ x∈z.1,x∈s.1∨x∈g) ⟨Ext.rfl_ M,fun j F=>absurd F (Nat.not_lt_zero _),fun x B=>.inl B⟩ g.length
   (fun n z U G I T=>by
    obtain ⟨a,b,c⟩:=I
    obtain ⟨p,q,r,t⟩:=t2 a.i (E.2 _ (bE G)) T
    refine ⟨a.trans p,fun j F=>?_,fun x B=>?_⟩
    ·by_cases e:j=n
     ·subst e; exact ⟨q,r⟩
     ·obtain ⟨m,l⟩:=b j (by omega)
      obtain ⟨u,O⟩:=p.p
      have D:=E.2 _ (bE (show j<g.length by omega))
      refine ⟨by rw [O]; exact List.mem_append_left _ m,?_⟩
      rw [p.k _ D.1 D.2 (by rw [l]; exact J _ (bE (by omega))),l]
    ·rcases t x B with y | y
     ·exact c x y
     ·rw [y]; exact .inr (bE G)) h
  exact ⟨a,L,b,c⟩
 ·cases h
theorem t7 {gs:List aM}{dss:List (List Int)}{s s':aM×List Int}(M:IS s)(U:gs.length=dss.length)(G:∀ g∈gs,LT g)(F:∀ ds∈dss,∀ d∈ds,d≠0)(h:mF gs dss s=some s') :
  Ext s s'∧(∀ x:Nat,x<gs.length→(ix gs (x:Int)).length=(ix dss (x:Int)).length∧∀ j:Nat,j<(ix gs (x:Int)).length→ix (ix gs (x:Int)) (j:Int)∈s'.1∧lk s'.2 (ix (ix gs (x:Int)) (j:Int))=ix (ix dss (x:Int)) (j:Int))∧∀ y∈s'.1,y∈s.1∨∃ g∈gs,y∈g:=by
 unfold mF at h
 exact nx (fun n z=>Ext s z∧(∀ x:Nat,x<n→(ix gs (x:Int)).length=(ix dss (x:Int)).length∧∀ j:Nat,j<(ix gs (x:Int)).length→ix (ix gs (x:Int)) (j:Int)∈z.1∧lk z.2 (ix (ix gs (x:Int)) (j:Int))=ix (ix dss (x:Int)) (j:Int))∧∀ y∈z.1,y∈s.1∨∃ g∈gs,y∈g) ⟨Ext.rfl_ M,fun j B=>absurd B (Nat.not_lt_zero _),fun x J=>.inl J⟩ gs.length
  (fun n z Y I L T=>by
   obtain ⟨a,b,c⟩:=L
   have D:=G _ (bE I)
   obtain ⟨p,q,r,t⟩:=t6 a.i D (F _ (bE (by omega))) T
   refine ⟨a.trans p,fun x J=>?_,fun y O=>?_⟩
   ·by_cases e:x=n
    ·subst e; exact ⟨q,r⟩
    ·obtain ⟨l,m⟩:=b x (by omega)
     refine ⟨l,fun j B=>?_⟩
     obtain ⟨u,v⟩:=m j B
     obtain ⟨w,hw⟩:=p.p
     have E:=(G _ (bE (show x<gs.length by omega))).2 _ (bE B)
     refine ⟨by rw [hw]; exact List.mem_append_left _ u,?_⟩
     rw [p.k _ E.1 E.2 (by rw [v]; exact F _ (bE (by omega)) _ (bE (by omega))),v]
   ·rcases t y O with w | w
    ·exact c y w
    ·exact .inr ⟨_,bE I,w⟩) h
theorem uB {ds:List Int}{k:Int}(M:ds.length≤100)(h1:∀ d∈ds,1≤d∧d≤4096)(e:0≤k)(h:k≤65536):Zi ds k=some (gU ds k):=by
 have a:∀ j,1≤pr (ds.drop j):=fun j=>fE fun d g=>(h1 d (List.mem_of_mem_drop g)).1
 unfold Zi
 rw [if_pos (by omega)]
 have:=eR (f:=fun s:Int×List Int×Int=>Zi_L1 ds s.1 s.2.1 s.2.2) (r:=gU ds k)
  (fun j=>(k / pr (ds.drop (ds.length - j)),List.replicate (ds.length - j) 0++gU (ds.drop (ds.length - j)) k,(ds.length:Int) - 1 - j)) ds.length
  (fun j L=>by
   obtain ⟨i,D⟩:∃ i,i=ds.length - (j+1):=⟨_,rfl⟩
   have m:ds.length - j=i+1:=by omega
   have q:(ds.length:Int) - 1 - (j:Int)=(i:Int):=by omega
   have b:i<ds.length:=by omega
   have E:=h1 _ (bE b)
   have F:=a (i+1)
   have g:ds.drop i=ix ds (i:Int)::ds.drop (i+1):=by rw [List.drop_eq_getElem_cons b,bV b]
   have l:0≤k / pr (ds.drop (i+1)):=Int.ediv_nonneg e (by omega)
   have G:k / pr (ds.drop (i+1))≤65536:=Int.le_trans (Int.ediv_le_self _ e) h
   simp only [Zi_L1,m,q,← D]
   rw [if_pos (by simp),if_pos (by omega),if_pos (by omega),if_pos (by simp; omega)]
   have u:(k / pr (ds.drop (i+1))).tdiv (ix ds (i:Int))=k / pr (ds.drop i):=by
    rw [Int.tdiv_eq_ediv_of_nonneg l,g]; exact (sd F E.1).1.symm
   have B:(k / pr (ds.drop (i+1))).tmod (ix ds (i:Int))=k / pr (ds.drop (i+1)) % ix ds (i:Int):=Int.tmod_eq_emod_of_nonneg l
   have I:0≤k / pr (ds.drop i):=Int.ediv_nonneg e (by have:=a i; omega)
   have J:k / pr (ds.drop i)≤65536:=Int.le_trans (Int.ediv_le_self _ e) h
   rw [u,B,aZ (by omega) (by omega),aZ (by omega) (by omega)]
   congr 4
   ·rw [g,List.set_append_left _ _ (by simp),List.replicate_succ',List.set_append_right _ _ (by simp)]
    simp [gU]
   ·omega)
  (by
   simp only [Zi_L1,Nat.sub_self,List.drop_zero,List.replicate_zero,List.nil_append]
   rw [if_neg (by simp; omega)])
  (s:=(k,List.replicate (ds.length:Int).toNat 0,aG ((ds.length:Int) - 1))) (by
   rw [aZ (by omega) (by omega)]
   simp [pr,gU])
 rw [this]
 rfl
def wk (ls:List Int)(s:Int)(j:Nat):Option Int:=if s*ix ls (j:Int)>65536 then none else some (s*ix ls (j:Int))
theorem qh {ls:List Int}{j:Nat}(h:j<ls.length):pr (ls.take (j+1))=pr (ls.take j)*ix ls (j:Int):=by
 rw [List.take_succ_eq_append_getElem h,mn,bV h]; simp [pr]
theorem Bb {ls:List Int}(h:∀ d∈ls,1≤d):∀ n,n≤ls.length→ph (wk ls) n 1=if pr (ls.take n)≤65536 then some (pr (ls.take n)) else none
 | 0,_=>by simp [ph,pr]
 | n+1,hn=>by
  have i:1≤pr (ls.take n):=fE fun d g=>h d (List.mem_of_mem_take g)
  have g:=h _ (bE (show n<ls.length by omega))
  rw [ph,Bb h n (by omega),qh (by omega)]
  by_cases c:pr (ls.take n)≤65536
  ·rw [if_pos c]
   simp only [Option.bind_some,wk]
   by_cases e:pr (ls.take n)*ix ls (n:Int)≤65536
   ·rw [if_neg (by omega),if_pos e]
   ·rw [if_pos (by omega),if_neg e]
  ·rw [if_neg c,if_neg]
   ·rfl
   ·have:=iF (a:=pr (ls.take n)) (b:=ix ls (n:Int)) (by omega) g
    omega
theorem x9 {ls:List Int}(u:ls.length≤100)(h:∀ d∈ls,1≤d∧d≤4096) :
  (pr ls≤65536∧aU (fun s:Int×Int=>Z2_L4 ls s.1 s.2) (1,0)=some (.inr ())) ∨
  (¬ pr ls≤65536∧∃ e,aU (fun s:Int×Int=>Z2_L4 ls s.1 s.2) (1,0)=some (.inl e)∧e.2.2=false):=by
 have g:=Bb (fun d m=>(h d m).1) ls.length (Nat.le_refl _)
 rw [List.take_length] at g
 rcases iZ (f:=fun s:Int×Int=>Z2_L4 ls s.1 s.2) (wk ls) (fun s i=>(s,i)) (fun _=>()) (fun e=>e.2.2=false) (fun j s=>1≤s∧s≤65536) ls.length
  (fun j s q l=>by
   have r:=h _ (bE q)
   simp only [Z2_L4]
   rw [if_pos (by simp; omega),if_pos (by omega),hY (by omega) (by omega) (by omega) (by omega),bX (by unfold cA; omega)]
   unfold wk
   by_cases c:s*ix ls (j:Int)>65536
   ·rw [if_pos c,if_pos (decide_eq_true c)]
    exact .inr ⟨rfl,_,rfl,rfl⟩
   ·rw [if_neg c,if_neg (by simpa using c)]
    have:=iF (a:=s) (b:=ix ls (j:Int)) (by omega) r.1
    exact .inl ⟨_,rfl,rfl,by omega,by omega⟩)
  (fun s l=>by simp only [Z2_L4]; rw [if_neg (by simp)])
  (s:=1) ⟨by omega,by omega⟩ with ⟨s',a1,a2,a3⟩|⟨a1,e,a2,a3⟩
 ·rw [g] at a1
  refine .inl ⟨?_,a2⟩
  split at a1
  ·assumption
  ·cases a1
 ·rw [g] at a1
  refine .inr ⟨?_,e,a2,a3⟩
  split at a1
  ·cases a1
  ·assumption
theorem xa {f:aM}{lens:List Int}(I:f.length≤100)(D:∀ c∈f,97≤c.toNat∧c.toNat≤122)(h:∀ d∈f.map (lk lens),1≤d∧d≤4096) :
  (pr (f.map (lk lens))≤65536∧aU (fun s:List Int×Int×Int=>Z3_L3 f lens s.1 s.2.1 s.2.2) ([],1,0)=some (.inr (f.map (lk lens)))) ∨
  (¬ pr (f.map (lk lens))≤65536∧∃ e,aU (fun s:List Int×Int×Int=>Z3_L3 f lens s.1 s.2.1 s.2.2) ([],1,0)=some (.inl e)∧e.2=false):=by
 obtain ⟨ls,g⟩:∃ ls,ls=f.map (lk lens):=⟨_,rfl⟩
 rw [← g] at h ⊢
 have E:ls.length=f.length:=by rw [g]; simp
 have q:=Bb (fun d B=>(h d B).1) ls.length (Nat.le_refl _)
 rw [List.take_length] at q
 rcases iZ (f:=fun s:List Int×Int×Int=>Z3_L3 f lens s.1 s.2.1 s.2.2) (wk ls) (fun s i=>(ls.take i.toNat,s,i)) (fun _=>ls) (fun e=>e.2=false) (fun j s=>1≤s∧s≤65536) ls.length
  (fun j s m r=>by
   have F:=h _ (bE m)
   have u:=D _ (bE (show j<f.length by omega))
   have G:ix lens (((ix f (j:Int)).toNat:Int) - 97)=ix ls (j:Int):=by
    rw [g,pi (by omega),bV (xs:=f) (by omega)]; rfl
   have l:bt f (j:Int)=((ix f (j:Int)).toNat:Int):=rfl
   simp only [Z3_L3]
   rw [if_pos (by simp; omega),if_pos (by omega),l,sW u,if_pos (by omega),G,if_pos (by simp; omega),hY (by omega) (by omega) (by omega) (by omega),bX (by unfold cA; omega)]
   unfold wk
   by_cases c:s*ix ls (j:Int)>65536
   ·rw [if_pos c,if_pos (decide_eq_true c)]
    exact .inr ⟨rfl,_,rfl,rfl⟩
   ·rw [if_neg c,if_neg (by simpa using c)]
    have:=iF (a:=s) (b:=ix ls (j:Int)) (by omega) F.1
    refine .inl ⟨_,rfl,?_,by omega,by omega⟩
    rw [Int.toNat_natCast,Int.toNat_natCast,List.take_succ_eq_append_getElem m,bV m])
  (fun s r=>by simp only [Z3_L3]; rw [if_neg (by simp; omega)]; simp)
  (s:=1) ⟨by omega,by omega⟩ with ⟨s',a1,a2,a3⟩|⟨a1,e,a2,a3⟩
 ·rw [q] at a1
  refine .inl ⟨?_,a2⟩
  split at a1
  ·assumption
  ·cases a1
 ·rw [q] at a1
  refine .inr ⟨?_,e,a2,a3⟩
  split at a1
  ·cases a1
  ·assumption
theorem mY {f:form}{g:aM}{p:List Int}(e:f.order.length≤100)(h:g.length≤p.length)(q:p.length≤100):∃ r,Zk f g p=some r:=by
 unfold Zk
 rw [if_pos (by omega)]
 obtain ⟨r,h1,h2⟩:=hD (f:=fun s:List Int×Int=>Zk_L1 f g p s.1 s.2) (fun j s=>s.1.length=f.order.length∧s.2=(j:Int)) f.order.length (Post:=fun _=>True)
  (fun j s l a=>by
   obtain ⟨x,i⟩:=s
   obtain ⟨h1,rfl⟩:=a
   dsimp only at h1
   simp only [Zk_L1]
   rw [if_pos (by simp; omega)]
   obtain ⟨r,g1,b⟩:=hD (f:=fun s:List Int×Int=>Zk_L2 f g p (j:Int) s.1 s.2) (fun k s=>s.1.length=f.order.length∧s.2=(k:Int)) g.length (Post:=fun r=>r.length=f.order.length)
    (fun k s m a=>by
     obtain ⟨x,i⟩:=s
     obtain ⟨h1,rfl⟩:=a
     dsimp only at h1
     simp only [Zk_L2,Zk_J5]
     rw [if_pos (by simp; omega),if_pos (by omega),if_pos (by omega)]
     split
     ·rw [if_pos (by simp; omega),if_pos (by omega)]
      exact ⟨_,rfl,by simpa using h1,by rw [bX (by unfold cA; omega)]⟩
     ·exact ⟨_,rfl,h1,by rw [bX (by unfold cA; omega)]⟩)
    (fun s a=>by
     obtain ⟨x,i⟩:=s
     obtain ⟨h1,rfl⟩:=a
     simp only [Zk_L2]
     rw [if_neg (by simp)]
     exact ⟨_,rfl,h1⟩)
    (s:=(x,0)) ⟨h1,rfl⟩
   rw [g1]
   exact ⟨_,rfl,b,by rw [bX (by unfold cA; omega)]⟩)
  (fun s a=>by
   obtain ⟨x,i⟩:=s
   obtain ⟨h1,rfl⟩:=a
   simp only [Zk_L1]
   rw [if_neg (by simp)]
   exact ⟨_,rfl,trivial⟩)
  (s:=(List.replicate (f.order.length:Int).toNat 0,0)) ⟨by simp,rfl⟩
 rw [h1]
 exact ⟨r,rfl⟩
def om (gs:List aM)(o:aM)(dss:List (List Int))(s:aM×List Int):Prop:=mF gs dss (o,List.replicate 26 0)=some s∧pr (s.1.map (lk s.2))≤65536
theorem pj {o:aM}(b:o.Nodup)(a:∀ c∈o,97≤c.toNat∧c.toNat≤122):IS (o,List.replicate 26 0):=by
 refine ⟨rfl,b,a,fun c h1 h2 _=>?_⟩
 unfold lk
 have e:((c.toNat:Int) - 97)=((c.toNat - 97:Nat):Int):=by omega
 rw [e,bV (by rw [List.length_replicate]; omega)]
 exact List.getElem_replicate _
theorem uC {o:aM}(g:∀ c∈o,97≤c.toNat∧c.toNat≤122):List.replicate (o.length:Int).toNat (0:Int)=o.map (lk (List.replicate 26 0)):=by
 rw [Int.toNat_natCast]
 symm
 rw [List.eq_replicate_iff]
 refine ⟨by simp,fun b a=>?_⟩
 obtain ⟨c,h,rfl⟩:=List.mem_map.1 a
 obtain ⟨h1,h2⟩:=g c h
 unfold lk
 have e:((c.toNat:Int) - 97)=((c.toNat - 97:Nat):Int):=by omega
 rw [e,bV (by rw [List.length_replicate]; omega)]
 exact List.getElem_replicate _
theorem mw {gs:List aM}{o:aM}(h:∀ i∈List.range o.length,OL gs o i):o.Nodup:=by
 refine List.pairwise_iff_getElem.2 fun i j g a b e=>?_
 have:=(h j (List.mem_range.2 a)).2
 rw [bV a] at this
 refine this ?_
 rw [← e,List.mem_take_iff_getElem]
 exact ⟨i,by omega,rfl⟩
structure Laid (gs:List aM)(o:aM)(dss:List (List Int))(s:aM×List Int):Prop where
 i:IS s
 l:s.1.length≤42
 p:∃ t,s.1=o++t
 g:∀ x:Nat,x<gs.length→(ix gs (x:Int)).length=(ix dss (x:Int)).length∧∀ j:Nat,j<(ix gs (x:Int)).length→ix (ix gs (x:Int)) (j:Int)∈s.1∧lk s.2 (ix (ix gs (x:Int)) (j:Int))=ix (ix dss (x:Int)) (j:Int)
 d:∀ d∈s.1.map (lk s.2),1≤d∧d≤4096
theorem ny {gs:List aM}{o:aM}{dss:List (List Int)}{s:aM×List Int}(hp:PO gs o)(L:gs.length=dss.length)(I:∀ ds∈dss,eD ds)(h:mF gs dss (o,List.replicate 26 0)=some s):Laid gs o dss s:=by
 obtain ⟨p1,T,U,Y⟩:=hp
 have M:=pj (mw Y) T.2
 obtain ⟨a,b,c⟩:=t7 M L U (fun ds E d B=>by have:=(I ds E).2.1 d B; omega) h
 have m:s.1.length≤42:=by
  rcases sZ p1 U L (s:=(o,List.replicate 26 0)) T.1 M with ⟨s',r,_,q3,_⟩|⟨r,_⟩
  ·rw [h] at r; cases r; exact q3
  ·rw [h] at r; cases r
 refine ⟨a.i,m,a.p,b,fun d D=>?_⟩
 obtain ⟨y,hy,rfl⟩:=List.mem_map.1 D
 have:∃ g∈gs,y∈g:=by
  rcases c y hy with q | q
  ·obtain ⟨k,J,e⟩:=List.getElem_of_mem q
   have:=(Y k (List.mem_range.2 J)).1
   rw [bV J,e] at this
   exact this
  ·exact q
 obtain ⟨g,Z,G⟩:=this
 obtain ⟨x,O,rfl⟩:=List.getElem_of_mem Z
 obtain ⟨j,F,rfl⟩:=List.getElem_of_mem G
 have u:=b x O
 rw [bV O] at u
 have l:=(u.2 j F).2
 rw [bV F] at l
 rw [l]
 exact (I _ (bE (show x<dss.length by omega))).2.mem (bE (by rw [← u.1]; exact F))
theorem qK {gs:List aM}{o:aM}{dss:List (List Int)}(B:PO gs o)(l:gs.length=dss.length)(u:∀ ds∈dss,eD ds) :
  (∃ s,om gs o dss s∧Z2 gs o dss=some (s.1,s.1.map (lk s.2),true))∨((∀ s,¬ om gs o dss s)∧∃ e,Z2 gs o dss=some e∧e.2.2=false):=by
 obtain ⟨p1,g,m,q⟩:=B
 have D:=pj (mw q) g.2
 have F:=g.1
 unfold Z2
 rw [if_pos (by omega),uC g.2]
 rcases sZ p1 m l (s:=(o,List.replicate 26 0)) g.1 D with ⟨s,a,b,a3,a4⟩|⟨a,e,b,a3⟩
 ·have r:=ny ⟨p1,g,m,q⟩ l u a
  simp only at b
  rw [b]
  simp only [Option.bind_some,Z2_J11]
  rcases x9 (ls:=s.1.map (lk s.2)) (by simp; omega) r.d with ⟨i,j⟩|⟨i,e,j,E⟩
  ·rw [j]
   exact .inl ⟨s,⟨a,i⟩,rfl⟩
  ·rw [j]
   refine .inr ⟨fun s' h=>?_,e,rfl,E⟩
   have:=h.1
   rw [a] at this; cases this
   exact i h.2
 ·simp only at b
  rw [b]
  refine .inr ⟨fun s' h=>?_,e,rfl,a3⟩
  have:=h.1
  rw [a] at this; cases this
theorem t8 {f:aM}{dss:List (List Int)}(hb:f.length≤1048576)(U:∀ ds∈dss,eD ds) :
  ((parts f).2.2=true∧(parts f).1.length=dss.length∧∃ s,om (parts f).1 (parts f).2.1 dss s∧eD ((s.1.map (lk s.2)).take (parts f).2.1.length)∧∃ r,Z3 f dss=some (r,true)∧r.dims=(s.1.map (lk s.2)).take (parts f).2.1.length) ∨
  (¬ ((parts f).2.2=true∧(parts f).1.length=dss.length∧∃ s,om (parts f).1 (parts f).2.1 dss s∧eD ((s.1.map (lk s.2)).take (parts f).2.1.length))∧∃ r,Z3 f dss=some (r,false)):=by
 obtain ⟨b,D⟩:∃ b,b=parts f:=⟨_,rfl⟩
 have I:b.2.2=true→PO b.1 b.2.1:=by
  rw [D]; unfold parts
  split
  ·intro h; cases h
  ·split
   ·intro _; assumption
   ·intro h; cases h
 unfold Z3
 rw [uA hb,← D]
 simp only [Option.bind_some]
 by_cases a:b.2.2=true∧b.1.length=dss.length
 ·obtain ⟨a,E⟩:=a
  rw [if_neg (by simp [a,E])]
  have hP:=I a
  obtain ⟨p1,L,M,p4⟩:=hP
  have hs:=pj (mw p4) L.2
  rcases x5 (gs:=b.1) (b:=b) (dss:=dss) rfl p1 M E (s:=(b.2.1,List.replicate 26 0)) L.1 rfl with ⟨s,u,B,a3,a4⟩|⟨u,e,B,a3⟩
  ·have m:=ny ⟨p1,L,M,p4⟩ E U u
   simp only at B
   rw [B]
   simp only [Option.bind_some,Z3_J7]
   rcases xa (f:=s.1) (lens:=s.2) (by omega) m.i.c m.d with ⟨O,T⟩|⟨O,e,T,w3⟩
   ·rw [T]
    simp only [Option.bind_some,Z3_J8]
    obtain ⟨t,ht⟩:=m.p
    have a5:b.2.1.length≤(s.1.map (lk s.2)).length:=by rw [ht]; simp
    have a0:(s.1.map (lk s.2)).length≤42:=by simpa using m.l
    rw [if_pos (by omega),kE,gX (by simp; omega)]
    simp only [Option.bind_some]
    rw [gT (by simp only [List.length_take]; unfold cA; omega)]
    simp only [Option.bind_some]
    by_cases c3:eD ((s.1.map (lk s.2)).take b.2.1.length)
    ·rw [decide_eq_true c3,if_neg (by simp)]
     refine .inl ⟨a,E,s,⟨u,O⟩,c3,?_⟩
     obtain ⟨r,h1,_⟩:=hD (f:=fun z:List (List Int)×Int=>Z3_L4 dss b s.1 (s.1.map (lk s.2)) ((s.1.map (lk s.2)).take b.2.1.length) z.1 z.2) (fun j z=>z.1.length=j∧z.2=(j:Int)) b.1.length (Post:=fun _=>True)
      (fun j z Z F=>by
       obtain ⟨x,i⟩:=z
       obtain ⟨h1,rfl⟩:=F
       dsimp only at h1
       simp only [Z3_L4]
       have G:=U _ (bE (show j<dss.length by omega))
       rw [if_pos (by simp; omega),if_pos (by omega),if_pos (by omega),nj G]
       simp only [Option.bind_some]
       have a6:=(m.g j Z).1
       have Y:=(M _ (bE Z)).1
       obtain ⟨q,J⟩:=mY (f:=(⟨b.1,b.2.1,s.1,s.1.map (lk s.2),(s.1.map (lk s.2)).take b.2.1.length,x,[]⟩:form)) (g:=ix b.1 (j:Int)) (p:=eH (ix dss (j:Int))) (by have:=m.l; show s.1.length≤100; omega) (by rw [dC]; omega) (by rw [dC]; omega)
       rw [J]
       simp only [Option.bind_some]
       rw [if_pos (by simp; omega),bX (by unfold cA; omega)]
       exact ⟨_,rfl,by simp; omega,rfl⟩)
      (fun z F=>by
       obtain ⟨x,i⟩:=z
       obtain ⟨h1,rfl⟩:=F
       simp only [Z3_L4]
       rw [if_neg (by simp)]
       exact ⟨_,rfl,trivial⟩)
      (s:=([],0)) ⟨rfl,rfl⟩
     rw [h1]
     simp only [Option.bind_some,Z3_J9]
     rw [nj c3]
     simp only [Option.bind_some]
     obtain ⟨q,J⟩:=mY (f:=(⟨b.1,b.2.1,s.1,s.1.map (lk s.2),(s.1.map (lk s.2)).take b.2.1.length,r,[]⟩:form)) (g:=b.2.1) (p:=eH ((s.1.map (lk s.2)).take b.2.1.length)) (by have:=m.l; show s.1.length≤100; omega) (by rw [dC]; simp only [List.length_take]; omega) (by rw [dC]; simp only [List.length_take]; omega)
     rw [J]
     exact ⟨_,rfl,rfl⟩
    ·rw [decide_eq_false c3,if_pos (by simp)]
     refine .inr ⟨?_,_,rfl⟩
     rintro ⟨_,_,s',h1,h2⟩
     have:=h1.1
     rw [u] at this; cases this
     exact c3 h2
   ·rw [T]
    obtain ⟨e1,e2⟩:=e
    simp only at w3; subst w3
    refine .inr ⟨?_,_,rfl⟩
    rintro ⟨_,_,s',h1,h2⟩
    have:=h1.1
    rw [u] at this; cases this
    exact O h1.2
  ·simp only at B
   rw [B]
   obtain ⟨e1,e2⟩:=e
   simp only at a3; subst a3
   refine .inr ⟨?_,_,rfl⟩
   rintro ⟨_,_,s',h1,h2⟩
   have:=h1.1
   rw [u] at this; cases this
 ·rw [if_pos]
  ·exact .inr ⟨fun z=>a ⟨z.1,z.2.1⟩,_,rfl⟩
  ·cases q:b.2.2
   ·rfl
   ·have:b.1.length≠dss.length:=fun z=>a ⟨q,z⟩
    simp; omega
theorem ta {g f:aM}{vs:List Int}(L:g.length≤6)(J:f.length≤42)(M:vs.length=f.length)(I:f.Nodup)(G:∀ c∈g,c∈f):Zg g f vs=some (g.map fun c=>ix vs ((f.idxOf c:Nat):Int)):=by
 unfold Zg
 rw [eR (f:=fun s:List Int×Int=>Zg_L1 g f vs s.1 s.2) (r:=g.map fun c=>ix vs ((f.idxOf c:Nat):Int)) (fun i=>((g.take i).map fun c=>ix vs ((f.idxOf c:Nat):Int),(i:Int))) g.length
  (fun i B=>by
   obtain ⟨c,l⟩:∃ c,c=g[i]:=⟨_,rfl⟩
   have m:ix g (i:Int)=c:=by rw [bV B,l]
   have u:c∈f:=G c (by rw [l]; exact List.getElem_mem B)
   have E:f.idxOf c<f.length:=List.idxOf_lt_length_iff.2 u
   obtain ⟨h,b⟩:∃ h,h=(g.take i).map fun c=>ix vs ((f.idxOf c:Nat):Int):=⟨_,rfl⟩
   have F:h.length≤6:=by rw [b]; simp; omega
   simp only [Zg_L1]
   rw [if_pos (by simp; omega),← b]
   rw [eR (f:=fun s:List Int×Int=>Zg_L2 g f vs (i:Int) s.1 s.2) (r:=h++[ix vs ((f.idxOf c:Nat):Int)]) (fun k=>(h++(if f.idxOf c<k then [ix vs ((f.idxOf c:Nat):Int)] else []),(k:Int))) f.length
    (fun k D=>by
     have j:(bt f (k:Int)==bt g (i:Int))=decide (f[k]=c):=by
      rw [show bt f (k:Int)=((ix f (k:Int)).toNat:Int) from rfl,show bt g (i:Int)=((ix g (i:Int)).toNat:Int) from rfl,kH,m,bV D]
     have a:f[k]=c↔f.idxOf c=k:=by
      constructor
      ·intro e
       rw [← e]
       exact I.idxOf_getElem k D
      ·intro e; subst e; exact List.getElem_idxOf E
     simp only [Zg_L2,Zg_J5]
     rw [if_pos (by simp; omega),if_pos (by omega),if_pos (by omega),j,bX (by unfold cA; omega)]
     by_cases q:f.idxOf c=k
     ·rw [if_pos (decide_eq_true (a.2 q)),if_pos (by omega),if_neg (show ¬ f.idxOf c<k by omega),if_pos (show f.idxOf c<k+1 by omega),List.append_nil,if_pos (by simp; omega),q]
     ·rw [if_neg (by simpa using fun z=>q (a.1 z))]
      by_cases r:f.idxOf c<k
      ·rw [if_pos r,if_pos (by omega)]
      ·rw [if_neg r,if_neg (by omega)])
    (by simp only [Zg_L2]; rw [if_neg (by simp),if_pos E])
    (s:=(h,0)) (by simp)]
   simp only [Option.bind_some,Zg_J6]
   rw [bX (by unfold cA; omega),List.take_succ_eq_append_getElem B,List.map_append,← b,← l]
   rfl)
  (by simp only [Zg_L1]; rw [if_neg (by simp),List.take_length])
  (s:=([],0)) rfl]
 rfl
theorem zw {ds is:List Int}(h:IV ds is){j:Nat}(a:j<ds.length):0≤ix is (j:Int)∧ix is (j:Int)<ix ds (j:Int):=by
 induction ds generalizing is j with
 | nil=>simp at a
 | cons d ds ih=>cases is with
  | nil=>exact h.elim
  | cons i is =>
   cases j with
   | zero=>simpa [ix] using h.1
   | succ j =>
    have:=ih h.2 (j:=j) (by simpa using a)
    simpa [ix] using this
theorem zx {ds is:List Int}(a:is.length=ds.length)(h:∀ j:Nat,j<ds.length→0≤ix is (j:Int)∧ix is (j:Int)<ix ds (j:Int)):IV ds is:=by
 induction ds generalizing is with
 | nil=>cases is with
  | nil=>trivial
  | cons=>simp at a
 | cons d ds ih=>cases is with
  | nil=>simp at a
  | cons i is =>
   refine ⟨by simpa [ix] using h 0 (by simp),ih (by simpa using a) fun j b=>?_⟩
   have:=h (j+1) (by simpa using b)
   simpa [ix] using this
theorem mx {ls:List Int}(h:∀ d∈ls,1≤d)(k:Nat):1≤pr (ls.take k)∧pr (ls.take k)≤pr ls:=by
 have h2:1≤pr (ls.drop k):=fE fun d a=>h d (List.mem_of_mem_drop a)
 have b:1≤pr (ls.take k):=fE fun d a=>h d (List.mem_of_mem_take a)
 exact ⟨b,by rw [gF ls k]; exact iF (by omega) h2⟩
def tb (f:aM)(dss:List (List Int))(s:aM×List Int):Prop:=(parts f).2.2=true∧(parts f).1.length=dss.length∧om (parts f).1 (parts f).2.1 dss s∧eD ((s.1.map (lk s.2)).take (parts f).2.1.length)
theorem pl {f:aM}{D:List Tensor}(hb:f.length≤1048576)(ht:∀ t∈D,TT t)(hn:D.length≤6) :
  (∃ s,tb f (D.map Tensor.Dims) s∧∃ d,Z5 f D=some ⟨(s.1.map (lk s.2)).take (parts f).2.1.length,d⟩∧TOk ((s.1.map (lk s.2)).take (parts f).2.1.length) d)∨((¬ ∃ s,tb f (D.map Tensor.Dims) s)∧Z5 f D=some ⟨[],[]⟩):=by
 obtain ⟨dss,B⟩:∃ dss,dss=D.map Tensor.Dims:=⟨_,rfl⟩
 have hd:∀ ds∈dss,eD ds:=by
  intro ds h
  rw [B] at h
  obtain ⟨t,h1,rfl⟩:=List.mem_map.1 h
  exact (ht t h1).d
 have ah:dss.length=D.length:=by rw [B]; simp
 rw [← B]
 unfold tb
 obtain ⟨b,Y⟩:∃ b,b=parts f:=⟨_,rfl⟩
 have a8:b.2.2=true→PO b.1 b.2.1:=by
  rw [Y]; unfold parts
  split
  ·intro h; cases h
  ·split
   ·intro _; assumption
   ·intro h; cases h
 unfold Z5
 rw [uy hb,← Y]
 simp only [Option.bind_some]
 by_cases L:b.2.2=true∧b.1.length=dss.length
 ·obtain ⟨L,c2⟩:=L
  rw [if_neg (by simp [L]; omega)]
  have hP:=a8 L
  have a5:=hP
  obtain ⟨p1,p2,p3,p4⟩:=a5
  have L1:aU (fun s:List (List Int)×Int=>Z5_L1 D s.1 s.2) ([],0)=some (Sum.inr dss):=by
   refine eR (f:=fun s:List (List Int)×Int=>Z5_L1 D s.1 s.2) (fun k=>((D.take k).map Tensor.Dims,(k:Int))) D.length (fun k G=>?_) ?_ rfl
   ·simp only [Z5_L1]
    rw [if_pos (by simp; omega),if_pos (by omega),p6 (ht _ (bE G))]
    simp only [Option.bind_some]
    rw [if_neg (by simp),if_pos (by simp; omega),bX (by unfold cA; omega),List.take_succ_eq_append_getElem G,List.map_append,bV G]
    rfl
   ·simp only [Z5_L1]
    rw [if_neg (by simp),List.take_length,← B]
  rw [L1]
  simp only [Option.bind_some,Z5_J1]
  rcases qK hP c2 hd with ⟨s,h1,h2⟩|⟨h1,e,h2,h3⟩
  ·rw [h2]
   simp only [Option.bind_some]
   have U:=ny hP c2 hd h1.1
   obtain ⟨ls,E⟩:∃ ls,ls=s.1.map (lk s.2):=⟨_,rfl⟩
   have a0:ls.length=s.1.length:=by rw [E]; simp
   have Z:=U.l
   have J:=U.d
   obtain ⟨t,a4⟩:=U.p
   have ae:b.2.1.length≤ls.length:=by rw [a0,a4]; simp
   have a9:=h1.2
   rw [← E] at a9 J ⊢
   have I:∀ d∈ls,1≤d:=fun d h=>(J d h).1
   rw [if_pos (fun _=>by omega)]
   simp only [bI,Bool.not_true,Bool.not_false,cond_true,Bool.false_or]
   rw [kE,fX (by simp only [List.length_take]; unfold cA; omega)]
   simp only [Option.bind_some]
   obtain ⟨a,F⟩:∃ a,a=ls.take b.2.1.length:=⟨_,rfl⟩
   rw [← F]
   by_cases c3:eD a
   ·rw [decide_eq_true c3,if_neg (by simp),if_pos (by omega),kz c3]
    simp only [Option.bind_some]
    refine .inl ⟨s,⟨L,c2,h1,by rw [← E,← F]; exact c3⟩,?_⟩
    rw [← E,← F]
    have L2:aU (fun z:Int×Int=>Z5_L2 (s.1,ls,true) z.1 z.2) (1,0)=some (pr ls):=by
     refine eR (f:=fun z:Int×Int=>Z5_L2 (s.1,ls,true) z.1 z.2) (fun k=>(pr (ls.take k),(k:Int))) ls.length (fun k G=>?_) ?_ (by simp [pr])
     ·have a1:=mx I k
      have a2:=mx I (k+1)
      have a3:=J _ (bE G)
      simp only [Z5_L2]
      rw [if_pos (by simp; omega),if_pos (by omega),hY (by omega) (by omega) (by omega) (by omega),bX (by unfold cA; omega),qh G]
     ·simp only [Z5_L2]
      rw [if_neg (by simp),List.take_length]
    rw [L2]
    simp only [Option.bind_some,Z5_J2]
    have ag:=fE I
    have ai:=c3.2.pos
    obtain ⟨r,q1,q2⟩:=kC (f:=fun z:List Int×Int=>Z5_L3 D b (s.1,ls,true) ⟨a,List.replicate (pr a).toNat 0⟩ (pr ls) z.1 z.2) (Post:=fun r=>RG (pr a).toNat r) (pr a).toNat (pr ls).toNat
     (fun j hj x hx=>by
      have aj:(j:Int)<pr ls:=by omega
      simp only [Z5_L3]
      rw [if_pos (by simp; omega),uB (by omega) J (by omega) (by omega)]
      simp only [Option.bind_some]
      have hI:=gV I (j:Int)
      obtain ⟨vs,aa⟩:∃ vs,vs=gU ls (j:Int):=⟨_,rfl⟩
      rw [← aa] at hI ⊢
      have al:=hI.len
      obtain ⟨p,g1,_⟩:=hD (f:=fun z:Int×Int=>Z5_L4 D b (s.1,ls,true) vs z.1 z.2) (fun k z=>z.2=(k:Int)) b.1.length (Post:=fun _=>True)
       (fun k z G hz=>by
        obtain ⟨y,i⟩:=z
        dsimp only at hz; subst hz
        simp only [Z5_L4]
        have O:k<D.length:=by omega
        obtain ⟨e1,e2⟩:=U.g k G
        have a6:ix dss (k:Int)=(ix D (k:Int)).Dims:=by rw [B,bV (by simpa using O),bV O]; simp
        have a7:=p3 _ (bE G)
        rw [if_pos (by simp; omega),if_pos (by omega),if_pos (by omega),ta a7.1 Z (by omega) U.i.n (fun c hc=>by
         obtain ⟨m,hm,rfl⟩:=List.getElem_of_mem hc
         have:=(e2 m hm).1
         rwa [bV hm] at this)]
        simp only [Option.bind_some]
        obtain ⟨w,w1,_⟩:=mP (ht _ (bE O)) (is:=(ix b.1 (k:Int)).map fun c=>ix vs ((s.1.idxOf c:Nat):Int)) (by
         rw [← a6]
         refine zx (by simp [e1]) fun m hm=>?_
         have T:m<(ix b.1 (k:Int)).length:=by omega
         obtain ⟨f1,f2⟩:=e2 m T
         have hp:s.1.idxOf (ix (ix b.1 (k:Int)) (m:Int))<s.1.length:=List.idxOf_lt_length_iff.2 f1
         have hv:=zw hI (j:=s.1.idxOf (ix (ix b.1 (k:Int)) (m:Int))) (by omega)
         have ab:ix ((ix b.1 (k:Int)).map fun c=>ix vs ((s.1.idxOf c:Nat):Int)) (m:Int)=ix vs ((s.1.idxOf (ix (ix b.1 (k:Int)) (m:Int)):Nat):Int):=by
          rw [bV (by simpa using T),List.getElem_map,bV (xs:=ix b.1 (k:Int)) T]
         have ac:ix ls ((s.1.idxOf (ix (ix b.1 (k:Int)) (m:Int)):Nat):Int)=ix (ix dss (k:Int)) (m:Int):=by
          rw [E,pi hp,List.getElem_idxOf hp,f2]
         rw [ab,← ac]
         exact hv)
        rw [w1]
        simp only [Option.bind_some]
        obtain ⟨u,u1,_⟩:=lK y w
        rw [u1]
        exact ⟨_,rfl,by rw [bX (by unfold cA; omega)]⟩)
       (fun z hz=>by
        obtain ⟨y,i⟩:=z
        dsimp only at hz; subst hz
        simp only [Z5_L4]
        rw [if_neg (by simp)]
        exact ⟨_,rfl,trivial⟩)
       (s:=(1,0)) rfl
      rw [g1]
      simp only [Option.bind_some,Z5_J4]
      have M:=q8 hI b.2.1.length
      rw [← F] at M
      have ak:=mo c3.2.1 M
      rw [if_pos (by omega),kE,ni c3 M]
      simp only [Option.bind_some,List.length_replicate]
      rw [if_pos (by omega)]
      obtain ⟨u,u1,u2⟩:=nq (ix x (lG a (vs.take b.2.1.length))) p
      rw [u1]
      exact ⟨_,by rw [bX (by unfold cA; omega)]; rfl,hx.set u2 _⟩)
     (fun x hx=>by
      simp only [Z5_L3]
      rw [if_neg (by simp; omega)]
      exact ⟨_,rfl,hx⟩)
     (x:=List.replicate (pr a).toNat 0) (RG.rep _)
    rw [q1]
    exact ⟨r,rfl,gW c3 q2⟩
   ·rw [decide_eq_false c3,if_pos (by simp)]
    refine .inr ⟨?_,rfl⟩
    rintro ⟨s',_,_,g1,g2⟩
    have:=g1.1
    rw [h1.1] at this; cases this
    rw [← E,← F] at g2
    exact c3 g2
  ·rw [h2]
   obtain ⟨e1,e2,e3⟩:=e
   dsimp only at h3; subst h3
   simp only [Option.bind_some]
   rw [if_pos (fun z=>by simp at z)]
   simp only [bI,Bool.not_true,Bool.not_false,cond_false,Option.bind_some,Bool.true_or,if_true]
   exact .inr ⟨fun ⟨s,_,_,z,_⟩=>h1 s z,trivial⟩
 ·rw [if_pos]
  ·exact .inr ⟨fun ⟨s,z1,z2,_⟩=>L ⟨z1,z2⟩,rfl⟩
  ·cases q:b.2.2
   ·rfl
   ·have:b.1.length≠dss.length:=fun z=>L ⟨q,z⟩
    simp; omega
theorem qL {f:aM}(h:(parts f).2.2=true):1≤(parts f).1.length∧(parts f).1.length≤6:=by
 unfold parts at h ⊢
 split
 ·rename_i e; rw [e] at h; cases h
 ·rename_i p e
  rw [e] at h
  simp only at h ⊢
  by_cases c:PO (fJ p.1) p.2
  ·rw [if_pos c]
   refine ⟨?_,c.1⟩
   have:=l5 p.1
   cases q:fJ p.1 with
   | nil=>exact absurd q this
   | cons=>simp
  ·rw [if_neg c] at h; cases h
theorem sh5 (b i j s n args):bO ⟨5,b,i,j,s⟩ n args=Z2s ⟨⟩ n args:=rfl
theorem uD {n:Node}{e:List Tensor}(G:Caps n e)(g:n.Op=11):oj n e (Zf n (e.map Tensor.Dims)):=by
 have Y:nu n e.length→∀ t∈(n.Args.map fun a=>ix e a),TT t:=jK G
 have sh:∀ A:List Tensor,(∀ t∈A,TT t)→∃ r j,bO ⟨5,false,0,0,[]⟩ n (A.map Tensor.Dims)=some (r,j)∧(j=true→∃ s,tb n.Form (A.map Tensor.Dims) s∧r=(s.1.map (lk s.2)).take (parts n.Form).2.1.length)∧(j=false→¬ ∃ s,tb n.Form (A.map Tensor.Dims) s):=by
  intro A B
  rw [sh5]
  unfold Z2s
  rcases t8 (f:=n.Form) (dss:=A.map Tensor.Dims) G.f (fun ds h=>by
   obtain ⟨t,h1,rfl⟩:=List.mem_map.1 h
   exact (B t h1).d) with ⟨q1,q2,s,q3,q4,r,q5,q6⟩|⟨q1,r,q2⟩
  ·rw [q5]
   exact ⟨_,_,rfl,fun _=>⟨s,⟨q1,q2,q3,q4⟩,q6⟩,fun h=>by cases h⟩
  ·rw [q2]
   exact ⟨_,_,rfl,(fun h=>by cases h),fun _=>fun ⟨s,a,b,c,d⟩=>q1 ⟨a,b,s,c,d⟩⟩
 refine mt G (kd:=⟨5,false,0,0,[]⟩) (u:=jU) (fb:=decide (FM n 1 6 false 0 0)) (by rw [g]; rfl) rfl rfl (kF n jU false false true false wJ wK wL wM) (gG (by omega) (by omega) (by rw [g]; rfl) (by rw [g]; rfl) (by rw [g]; rfl) (by rw [g]; rfl) ⟨by omega,by omega⟩) ?_ ?_ ?_
 ·intro D
  obtain ⟨f1,f2,T,f4,U,f6,f7⟩:=of_decide_eq_true D
  have g3:n.Dims=[]:=T.resolve_left (by simp)
  have g5:n.Data=[]:=U.resolve_left (by omega)
  have g6:n.Ints=[]:=List.eq_nil_of_length_eq_zero (by omega)
  exact ⟨by rw [g3,g5,g6]; rfl,by omega⟩
 ·intro I hw D
  obtain ⟨r,j,E,F,O⟩:=sh _ (Y hw)
  cases j with
  | false=>exact ⟨r,E⟩
  | true =>
   obtain ⟨s,⟨m,q,_⟩,_⟩:=F rfl
   have Z:=qL m
   refine absurd ?_ (of_decide_eq_false D)
   simp only [Bool.false_or,Bool.true_or,Bool.and_true,Bool.and_eq_true,kG,beq_iff_eq] at I
   have J:((n.Args.map fun a=>ix e a).map Tensor.Dims).length=n.Args.length:=by simp
   rw [J] at q
   exact ⟨by omega,by omega,.inr I.1.1,.inl g,.inr I.2,by omega,by rw [I.1.2]; decide⟩
 ·intro D hw
  obtain ⟨f1,f2,T,f4,U,f6,f7⟩:=of_decide_eq_true D
  have B:=Y hw
  obtain ⟨A,l⟩:∃ A,A=n.Args.map fun a=>ix e a:=⟨_,rfl⟩
  have i:Do n e=(Z5 n.Form A).bind fun r=>some r:=by
   unfold Do Z1
   rw [if_neg (by omega),← l]
   simp only [Z1_J1,Z1_J2,g]
   simp only [Int.reduceBEq,Bool.false_eq_true,if_false,if_true,beq_self_eq_true]
  have Z:A.length≤6:=by rw [l]; simp; omega
  rw [← l] at B ⊢
  obtain ⟨r,j,E,F,O⟩:=sh A B
  rcases pl G.f B Z with ⟨s,m,d,q,c3⟩|⟨m,q⟩
  ·rw [q] at i
   cases j with
   | false=>exact absurd ⟨s,m⟩ (O rfl)
   | true =>
    obtain ⟨s',k1,k2⟩:=F rfl
    have L:s'=s:=by
     have M:=k1.2.2.1.1
     rw [m.2.2.1.1] at M
     exact (Option.some.inj M).symm
    subst L
    exact ⟨⟨_,d⟩,.inl ⟨by rw [E,k2],i,c3⟩⟩
  ·rw [q] at i
   cases j with
   | false=>exact ⟨⟨[],[]⟩,.inr ⟨r,E,i⟩⟩
   | true=>obtain ⟨s',k1,_⟩:=F rfl; exact absurd ⟨s',k1⟩ m
theorem tc {n:Node}{i:List Tensor}(g:Caps n i):oj n i (Zf n (i.map Tensor.Dims)):=by
 by_cases h:1≤n.Op∧n.Op≤19
 ·by_cases h1:n.Op=1
  ·exact sI g h1
  by_cases h2:n.Op=2
  ·exact sJ g h2
  by_cases h3:n.Op≤5
  ·exact um g (by omega) h3
  by_cases h4:n.Op≤9
  ·exact un g ⟨by omega,h4⟩
  have:n.Op=10∨n.Op=11∨n.Op=12∨n.Op=13∨n.Op=14∨n.Op=15∨n.Op=16∨n.Op=17∨n.Op=18∨n.Op=19:=by omega
  rcases this with q | q | q | q | q | q | q | q | q | q
  ·exact wS g q
  ·exact uD g q
  ·exact qC g q
  ·exact pb g q
  ·exact sM g q
  ·exact wX g q
  ·exact qG g q
  ·exact pc g q
  ·exact qD g q
  ·exact ut g q
 ·have e:∀ k:Int,1≤k→k≤19→(n.Op==k)=false:=fun k a b=>by simp; omega
  have j:Zw n.Op=some ⟨0,false,0,0,[]⟩:=by
   unfold Zw Zw_J1 Zw_J2 Zw_J3
   simp only [e 1 (by omega) (by omega),e 2 (by omega) (by omega),e 3 (by omega) (by omega),e 4 (by omega) (by omega),e 5 (by omega) (by omega),e 6 (by omega) (by omega),e 7 (by omega) (by omega),e 8 (by omega) (by omega),e 9 (by omega) (by omega),e 10 (by omega) (by omega),e 11 (by omega) (by omega),e 12 (by omega) (by omega),e 13 (by omega) (by omega),e 14 (by omega) (by omega),e 15 (by omega) (by omega),e 16 (by omega) (by omega),e 17 (by omega) (by omega),e 18 (by omega) (by omega),e 19 (by omega) (by omega),Bool.false_eq_true,if_false]
  refine .inr ⟨[],?_,.inl ?_⟩
  ·unfold Zf
   rw [j]
   rfl
  ·unfold Z15
   rw [if_pos (by simp; omega)]
structure GC (g:Graph):Prop where
 n:g.Nodes.length<cA
 o:g.Outs.length<cA
 a:∀ n∈g.Nodes,n.Args.length<cA
 d:∀ n∈g.Nodes,n.Dims.length<cA
 i:∀ n∈g.Nodes,n.Ints.length<cA
 x:∀ n∈g.Nodes,n.Data.length<cA
 f:∀ n∈g.Nodes,n.Form.length≤1048576
def zP (g:Graph)(k:Nat)(a:List Tensor):Prop:=∀ j:Nat,j<k→Z15 (ix g.Nodes (j:Int))=some true∧nu (ix g.Nodes (j:Int)) j∧Do (ix g.Nodes (j:Int)) (a.take j)=some (ix a (j:Int))
theorem xb {g:Graph}{b:List Tensor}{k:Nat}(i:k<g.Nodes.length)(m:b.length≤200)(h:(ix g.Nodes (k:Int)).Args.length≤100)(hw:nu (ix g.Nodes (k:Int)) b.length) :
  aU (fun s:List Tensor×Int=>Z9_L2 g b (k:Int) s.1 s.2) ([],0)=some ((ix g.Nodes (k:Int)).Args.map fun a=>ix b a):=by
 refine eR (f:=fun s:List Tensor×Int=>Z9_L2 g b (k:Int) s.1 s.2) (fun j=>(((ix g.Nodes (k:Int)).Args.take j).map fun a=>ix b a,(j:Int))) (ix g.Nodes (k:Int)).Args.length (fun j e=>?_) ?_ rfl
 ·have l:=hw _ (bE e)
  simp only [Z9_L2]
  rw [if_pos (by simp; omega),if_pos (by omega),if_pos (by omega),if_pos (by simp; omega),bX (by unfold cA; omega),List.take_succ_eq_append_getElem e,List.map_append,bV e]
  rfl
 ·simp only [Z9_L2]
  rw [if_neg (by simp),List.take_length]
theorem l8 {n:Node}(h:Z15 n=some true):n.Args.length≤6:=by
 unfold Z15 at h
 split at h
 ·cases h
 ·obtain ⟨r,h1,h⟩:=bd h
  have a:r.2≤6:=by
   unfold Z2z at h1
   repeat' split at h1
   all_goals (cases h1; decide)
  split at h
  ·cases h
  ·rename_i q
   simp only [Bool.or_eq_true,decide_eq_true_eq,not_or] at q
   omega
theorem te {g:Graph}{ins:List Tensor}{a:List Tensor}{k:Nat}{t:Tensor}(i:k<g.Nodes.length)(j:a.length=k)(q:g.Nodes.length≤200)(h:Z15 (ix g.Nodes (k:Int))=some true)(hw:nu (ix g.Nodes (k:Int)) a.length)(b:Do (ix g.Nodes (k:Int)) a=some t) :
  Z9_L1 g ins true a 0 (k:Int)=Z9_J4 a (k:Int) 0 t.Dims t.Data:=by
 have m:=l8 h
 simp only [Z9_L1]
 rw [if_pos (by simp; omega),if_pos (by omega),h]
 simp only [Option.bind_some,bI,Bool.not_true,Bool.not_false,cond_true,Bool.false_or]
 rw [jI (by unfold cA; omega)]
 have e:∀ x∈(ix g.Nodes (k:Int)).Args,0≤x∧x<(k:Int):=by
  intro x l
  have:=hw x l
  rwa [j] at this
 simp only [Option.bind_some]
 rw [decide_eq_true e,if_neg (by simp),xb i (by omega) (by omega) hw]
 simp only [Option.bind_some,Z9_J3]
 unfold Do at b
 by_cases c:(ix g.Nodes (k:Int)).Op=1
 ·rw [if_pos c] at b
  rw [if_neg (by simp [c]),if_pos trivial,b]
  rfl
 ·rw [if_neg c] at b
  rw [if_pos (by simp [c]),b]
  rfl
theorem oo {g:Graph}{ins:List Tensor}(B:GC g)(L:g.Nodes.length≤200):∀ (m k:Nat) (h:List Tensor),k+m=g.Nodes.length→h.length=k→(∀ t∈h,TT t)→zP g k h →
  (∃ q,aU (fun s:List Tensor×Int×Int=>Z9_L1 g ins true s.1 s.2.1 s.2.2) (h,0,(k:Int))=some (.inr (q,0))∧aU (fun s:List (List Int)×Int=>Zj_L1 g s.1 s.2) (h.map Tensor.Dims,(k:Int))=some (.inr (q.map Tensor.Dims))∧q.length=g.Nodes.length∧(∀ t∈q,TT t)∧zP g g.Nodes.length q) ∨
  ((∃ e,aU (fun s:List Tensor×Int×Int=>Z9_L1 g ins true s.1 s.2.1 s.2.2) (h,0,(k:Int))=some (.inl e)∧e.2=false)∧∃ e,aU (fun s:List (List Int)×Int=>Zj_L1 g s.1 s.2) (h.map Tensor.Dims,(k:Int))=some (.inl e)∧e.2=false)
 | 0,k,h,J,ho,ht,hr=>by
  have J:k=g.Nodes.length:=by omega
  subst J
  refine .inl ⟨h,dN ?_,dN ?_,ho,ht,hr⟩
  ·simp only [Z9_L1]; rw [if_neg (by simp)]
  ·simp only [Zj_L1]; rw [if_neg (by simp)]
 | m+1,k,h,J,ho,ht,hr=>by
  have r:k<g.Nodes.length:=by omega
  have E:=bE r
  have Z:Caps (ix g.Nodes (k:Int)) h:=⟨B.a _ E,B.d _ E,B.i _ E,B.x _ E,B.f _ E,by omega,ht⟩
  have O:∀ p:List Int×Bool,Zf (ix g.Nodes (k:Int)) (h.map Tensor.Dims)=some p→Zj_L1 g (h.map Tensor.Dims) (k:Int)=if p.2=true then some (.inl (h.map Tensor.Dims++[p.1],((k+1:Nat):Int))) else some (.inr (.inl ([],false))):=by
   intro p Y
   simp only [Zj_L1]
   rw [if_pos (by simp; omega),if_pos (by omega),Y]
   simp only [Option.bind_some]
   cases p.2
   ·rfl
   ·rw [if_neg (by simp),if_pos (by simp; omega),bX (by unfold cA; omega)]; rfl
  rcases tc Z with ⟨t,h1,h2,D,T,I⟩|⟨ds,h1,h2⟩
  ·have U:=I.l
   have Y:=I.d.2.pos
   have F:=te (ins:=ins) r ho L h2 D T
   unfold Z9_J4 at F
   rw [if_neg (by simp; intro z; rw [z] at U; simp at U; omega),if_pos (by simp; omega),bX (by unfold cA; omega)] at F
   have G:=O _ h1
   rw [if_pos rfl] at G
   rw [eL (f:=fun s:List Tensor×Int×Int=>Z9_L1 g ins true s.1 s.2.1 s.2.2) F,eL (f:=fun s:List (List Int)×Int=>Zj_L1 g s.1 s.2) G]
   have:=oo (ins:=ins) B L m (k+1) (h++[t]) (by omega) (by simp [ho]) (by
    intro u hu
    rcases List.mem_append.1 hu with z | z
    ·exact ht u z
    ·simp at z; subst z; exact I) (by
    intro j hj
    by_cases e:j<k
    ·obtain ⟨a,b,c⟩:=hr j e
     refine ⟨a,b,?_⟩
     rw [List.take_append_of_le_length (by omega),c,bV (by omega),bV (by simp; omega),List.getElem_append_left (by omega)]
    ·have e:j=k:=by omega
     subst e
     rw [ho] at D
     refine ⟨h2,D,?_⟩
     rw [List.take_append_of_le_length (by omega),List.take_of_length_le (by omega),bV (xs:=h++[t]) (by rw [List.length_append,List.length_singleton]; omega),List.getElem_append_right (by omega)]
     simpa [ho] using T)
   rw [List.map_append] at this
   exact this
  ·have G:=O _ h1
   rw [if_neg (by simp)] at G
   refine .inr ⟨?_,_,dN G,rfl⟩
   rcases h2 with h2 | ⟨h2,D⟩
   ·refine ⟨(h,false),dN ?_,rfl⟩
    simp only [Z9_L1]
    rw [if_pos (by simp; omega),if_pos (by omega),h2]
    rfl
   ·by_cases w:nu (ix g.Nodes (k:Int)) h.length
    ·have F:=te (ins:=ins) r ho L h2 w (D w)
     exact ⟨(h,false),dN F,rfl⟩
    ·refine ⟨(h,false),dN ?_,rfl⟩
     have ha:=l8 h2
     simp only [Z9_L1]
     rw [if_pos (by simp; omega),if_pos (by omega),h2]
     simp only [Option.bind_some,bI,Bool.not_true,Bool.not_false,cond_true,Bool.false_or]
     rw [jI (by unfold cA; omega)]
     have M:¬ ∀ x∈(ix g.Nodes (k:Int)).Args,0≤x∧x<(k:Int):=by
      intro z; refine w fun x hx=>?_
      have:=z x hx
      rwa [ho]
     simp only [Option.bind_some]
     rw [decide_eq_false M,if_pos (by simp)]
theorem oq {g:Graph}(I:GC g):∃ l L F,Z9 g [] true=some (l,F)∧Zj g=some (L,F)∧(F=true→L=l.map Tensor.Dims∧l.length=g.Nodes.length∧(∀ t∈l,TT t)∧zP g g.Nodes.length l∧g.Nodes.length≤200∧g.Outs.length≤40∧∀ o∈g.Outs,0≤o∧o<(g.Nodes.length:Int)):=by
 unfold Z9 Zj
 by_cases c:g.Nodes.length≤200∧g.Outs.length≤40
 ·rw [if_neg (by simp; omega),if_neg (by simp; omega)]
  have r:∀ s:Int→Option (Int⊕(((List (List Int))×Bool)⊕Unit)),s=(fun x=>Zj_L2 g x)→aU s 0=some (if g.Outs.all (fun x=>!(decide (x<0)||decide (x≥(g.Nodes.length:Int)))) then .inr () else .inl ([],false)):=by
   rintro _ rfl
   refine dV g.Outs (fun x=>Zj_L2 g x) (fun i=>i) _ _ _ (fun j J=>?_) ?_
   ·simp only [Zj_L2]
    rw [if_pos (by simp; omega),if_pos (by omega),bX (by unfold cA; omega)]
    cases (decide (ix g.Outs (j:Int)<0)||decide (ix g.Outs (j:Int)≥(g.Nodes.length:Int)))<;>rfl
   ·simp only [Zj_L2]
    rw [if_neg (by simp)]
  have O:g.Outs.all (fun x=>!(decide (x<0)||decide (x≥(g.Nodes.length:Int))))=decide (∀ o∈g.Outs,0≤o∧o<(g.Nodes.length:Int)):=by
   rw [Bool.eq_iff_iff]
   simp only [List.all_eq_true,decide_eq_true_eq,Bool.not_eq_true',Bool.or_eq_false_iff,decide_eq_false_iff_not]
   exact ⟨fun h x E=>by have:=h x E; omega,fun h x E=>by have:=h x E; omega⟩
  have r:=r _ rfl
  rw [O] at r
  rcases oo (ins:=[]) I c.1 g.Nodes.length 0 [] (by omega) rfl (fun t h=>by simp at h) (fun j J=>absurd J (Nat.not_lt_zero _)) with ⟨b,h1,h2,B,m,M⟩|⟨⟨e,h1,h2⟩,G,B,m⟩
  ·have a:aU (fun s:List Tensor×Int×Int=>Z9_L1 g [] true s.1 s.2.1 s.2.2) ([],0,0)=some (.inr (b,0)):=h1
   have u:aU (fun s:List (List Int)×Int=>Zj_L1 g s.1 s.2) ([],0)=some (.inr (b.map Tensor.Dims)):=h2
   rw [a,u]
   simp only [Option.bind_some,Z9_J5,Zj_J1,Zj_J2]
   rw [jI I.o,r]
   simp only [Option.bind_some]
   by_cases q:∀ o∈g.Outs,0≤o∧o<(g.Nodes.length:Int)
   ·rw [decide_eq_true q]
    exact ⟨_,_,_,rfl,rfl,fun _=>⟨rfl,B,m,M,c.1,c.2,q⟩⟩
   ·rw [decide_eq_false q]
    exact ⟨_,_,_,rfl,rfl,fun h=>by cases h⟩
  ·have a:aU (fun s:List Tensor×Int×Int=>Z9_L1 g [] true s.1 s.2.1 s.2.2) ([],0,0)=some (.inl e):=h1
   have D:aU (fun s:List (List Int)×Int=>Zj_L1 g s.1 s.2) ([],0)=some (.inl G):=B
   rw [a,D]
   obtain ⟨T,U⟩:=e
   obtain ⟨Y,Z⟩:=G
   dsimp only at h2 m
   subst h2; subst m
   exact ⟨_,_,_,rfl,rfl,fun h=>by cases h⟩
 ·rw [if_pos (by simp; omega),if_pos (by simp; omega)]
  exact ⟨_,_,_,rfl,rfl,fun h=>by cases h⟩
def zQ:Nat:=9223372036854775807
def fS (n:Nat)(a:Int):Int:=if a<(n:Int) then -1 else a - n
def my {α:Type}(n:α→Nat)(xs:List α):Nat:=xs.length+(xs.map n).sum
theorem ji {a b:Nat}{e:Int}(g:0≤e):fS (a+b) e=if fS a e<0 then -1 else fS b (fS a e):=by
 unfold fS
 (repeat' split)<;>omega
theorem iR {a:Nat}{b:Int}(e:0≤b)(h:¬ fS a b<0):0≤fS a b∧fS a b≤b∧fS a b=b - a:=by
 unfold fS at *
 split at h<;>rename_i q
 ·exact absurd (by decide) h
 ·rw [if_neg q]; omega
theorem uE {n:Nat}{a:Int}(b:n≤zQ)(e:0≤a)(h1:a≤1048576) :
  (if (decide ((aG (a - (n:Int)))<(0:Int)))=true then (some (-1:Int)) else (some (aG (a - (n:Int)))))=some (fS n a):=by
 unfold zQ at b
 rw [aZ (by omega) (by omega)]
 unfold fS
 by_cases h:a<(n:Int)
 ·rw [if_pos (by simp; omega),if_pos h]
 ·rw [if_neg (by simp; omega),if_neg h]
theorem uF {α:Type}[Inhabited α](xs:List α)(n:α→Nat)(E:xs.length<cA)(g:α→Int→Option Int)(f:Int×Int→Option ((Int×Int)⊕(Int⊕Int)))
  (D:∀ x∈xs,∀ a:Int,0≤a→a≤1048576→g x a=some (fS (n x) a))
  (m:∀ a i,f (a,i)=if (decide (i<(xs.length:Int)))=true then (if (0≤i∧i<(xs.length:Int)) then (g (ix xs i) a).bind fun (r:Int)=>if (decide (r<(0:Int)))=true then (some (.inr (.inl (-1:Int)))) else (some (.inl (r,(aG (i+(1:Int)))))) else none) else (some (.inr (.inr a))))
  (a:Int) (l:0≤a) (h1:a≤1048576) :
  ((aU f (a,0)).bind fun e=>match e with | .inl e=>some e | .inr e=>some e)=some (fS ((xs.map n).sum) a):=by
 rw [iX (S:=Int) xs (fun _ s=>0≤s∧s≤1048576) f (fun s i=>(s,i)) (fun s _ x=>if fS (n x) s<0 then .inr (.inl (-1)) else .inl (fS (n x) s)) (fun s=>.inr s) ?_ ?_ ?_ a ⟨l,h1⟩]
 ·rw [bH]
  clear m E
  generalize 0=k
  induction xs generalizing a k with
  | nil=>show some a=some (fS 0 a); unfold fS; rw [if_neg (by omega)]; congr 1; simp
  | cons x xs ih =>
   unfold pR
   rw [List.map_cons,List.sum_cons,ji l]
   by_cases h:fS (n x) a<0
   ·simp only [h,if_true]
   ·obtain ⟨B,G,_⟩:=iR l h
    simp only [h,if_false]
    exact ih (fun y F=>D y (by simp [F])) _ B (by omega) _
 ·rintro s k ⟨j,u⟩ q
  rw [m,if_pos (by simpa using q),if_pos (by omega),D _ (bE q) s j u,bH,bX (by omega)]
  by_cases h:fS (n (ix xs (k:Int))) s<0
  ·simp [h]
  ·simp [h]
 ·rintro s k s' ⟨j,u⟩ q b
  split at b
  ·cases b
  ·rename_i h
   obtain ⟨B,G,_⟩:=iR j h
   injection b with b
   subst b
   exact ⟨B,by omega⟩
 ·rintro s ⟨j,u⟩
  rw [m,if_neg (by simp)]
theorem uG {α:Type}[Inhabited α]{xs:List α}{n:α→Nat}{a:Int}{x:Int→Option Int}(j:xs.length≤zQ)(i:0≤a)(h1:a≤1048576)(l:¬ fS xs.length a<0→x (fS xs.length a)=some (fS ((xs.map n).sum) (fS xs.length a))) :
  (if (decide ((aG (a - (xs.length:Int)))<(0:Int)))=true then (some (-1:Int)) else x (aG (a - (xs.length:Int))))=some (fS (my n xs) a):=by
 have g:=j
 unfold zQ at g
 unfold my
 rw [ji i]
 have e:aG (a - (xs.length:Int))=a - xs.length:=aZ (by omega) (by omega)
 rw [e]
 by_cases h:a<(xs.length:Int)
 ·rw [if_pos (by simp; omega),if_pos (by unfold fS; rw [if_pos h]; omega)]
 ·have b:fS xs.length a=a - xs.length:=by unfold fS; rw [if_neg h]
  rw [if_neg (by simp; omega),if_neg (by rw [b]; omega)]
  have:=l (by rw [b]; omega)
  rw [b] at this ⊢
  exact this
theorem pm {k:Nat}{n:Nat}(h:k<n):(0:Int)≤(k:Int)∧(k:Int)<(n:Int):=⟨by omega,by omega⟩
theorem zy {k:Nat}{n:Nat}(h:k<n):(decide ((k:Int)<(n:Int)))=true:=by simpa using h
theorem tf {n:Nat}:(decide ((n:Int)<(n:Int)))=false:=by simp
theorem nz (xs ys:List Int)(h:xs.length=ys.length):((List.range xs.length).all fun k=>ix xs (k:Int)==ix ys (k:Int))=decide (xs=ys):=by
 by_cases e:xs=ys
 ·subst e; simp
 ·simp only [e,decide_false]
  rw [List.all_eq_false]
  refine Classical.byContradiction fun b=>e ?_
  refine List.ext_getElem h fun k h1 h2=>?_
  refine Classical.byContradiction fun a=>b ⟨k,by simpa using h1,?_⟩
  rw [bV h1,bV h2]
  simpa using a
theorem uH (xs ys:List Int)(h:xs.length<cA):Zz xs ys=some (decide (xs=ys)):=by
 unfold Zz
 by_cases hl:xs.length=ys.length
 ·rw [if_neg (by simp [hl])]
  rw [f' xs.length (fun s:Int=>Zz_L1 xs ys s) (fun i=>i) (fun k=>ix xs (k:Int)==ix ys (k:Int)) (.inl false) (.inr ()) (fun k a=>by
   unfold Zz_L1
   rw [if_pos (zy a),if_pos (pm a),if_pos (pm (hl▸a)),bX (by omega)]
   by_cases hq:ix xs (k:Int)=ix ys (k:Int)
   ·simp [hq]
   ·simp [hq]) (by unfold Zz_L1; simp only [tf,Bool.false_eq_true,if_false])]
  rw [nz xs ys hl,bH]
  by_cases e:xs=ys<;>simp [e,Zz_J1]
 ·rw [if_pos (by simp; omega)]
  have:xs≠ys:=fun e=>hl (by rw [e])
  simp [this]
theorem ou (xs ys:List Int):Z07 xs ys=Zz xs ys:=rfl
theorem Bc {α:Type}[Inhabited α](x:Option α):bI true x=x:=rfl
def Rg (g:List Bool)(n:Nat)(gl:List Int):Prop:=g.length=n∧∀ j:Nat,j<n→ix g (j:Int)=decide ((j:Int)∈gl)
theorem Rg.set {g:List Bool}{n:Nat}{gl:List Int}(h:Rg g n gl){b:Int}(m:0≤b)(h1:b<(n:Int)):Rg (g.set b.toNat true) n (gl++[b]):=by
 obtain ⟨l,q⟩:=h
 refine ⟨by simpa using l,fun j i=>?_⟩
 obtain ⟨c,rfl⟩:=Int.eq_ofNat_of_zero_le m
 have a:j<(g.set (c:Int).toNat true).length:=by simpa [l] using i
 rw [bV a,List.getElem_set]
 by_cases e:(c:Int).toNat=j
 ·rw [if_pos e]; have:c=j:=by omega
  subst this; simp
 ·rw [if_neg e]
  have h2:=q j i
  rw [bV (by omega)] at h2
  rw [h2]
  have:¬ (j:Int)=(c:Int):=by omega
  simp [this]
theorem mz {α T:Type}[Inhabited α](xs:List α)(z:α)(f:T→Option (T⊕List α))(mk:List α→Int→T)
  (u:∀ (ys:List α) (k:Nat),ys.length=xs.length→k<xs.length→f (mk ys (k:Int))=some (.inl (mk (ys.set k (ix xs (k:Int))) ((k+1:Nat):Int))))
  (g:∀ ys:List α,ys.length=xs.length→f (mk ys (xs.length:Int))=some (.inr ys)):aU f (mk (List.replicate (xs.length:Int).toNat z) 0)=some xs:=by
 rw [Int.toNat_natCast]
 rw [iX (S:=List α) xs (fun _ s=>s.length=xs.length) f mk (fun s k x=>.inl (s.set k x)) (fun s=>s) (fun s k i a=>u s k i a) (fun s k s' i a h=>by injection h with h; subst h; simpa using i) g _ (by simp)]
 congr 1
 have r:∀ (m k:Nat) (ys:List α),k+m=xs.length→ys.length=xs.length→(∀ j,j<k→ys[j]?=xs[j]?)→pR (R:=List α) (fun s k x=>.inl (s.set k x)) (fun s=>s) (xs.drop k) k ys=xs:=by
  intro m
  induction m with
  | zero =>
   intro k ys a g l
   have a:k=xs.length:=by omega
   subst a
   rw [List.drop_length]
   show ys=xs
   refine List.ext_getElem? fun j=>?_
   by_cases q:j<xs.length
   ·exact l j q
   ·rw [List.getElem?_eq_none (by omega),List.getElem?_eq_none (by omega)]
  | succ m ih =>
   intro k ys a g l
   have b:k<xs.length:=by omega
   rw [List.drop_eq_getElem_cons b]
   unfold pR
   refine ih (k+1) _ (by omega) (by simpa using g) (fun j q=>?_)
   rw [List.getElem?_set]
   by_cases e:k=j
   ·subst e; rw [if_pos rfl,if_pos (by omega)]; exact (List.getElem?_eq_getElem b).symm
   ·rw [if_neg e]; exact l j (by omega)
 simpa using r xs.length 0 (List.replicate xs.length z) (by omega) (by simp) (fun j q=>by omega)
theorem xc {α:Type}{n:Nat}{z:α}{k:Nat}(h:k<n):(0:Int)≤(k:Int)∧(k:Int)<((List.replicate (n:Int).toNat z).length:Int):=by
 rw [List.length_replicate,Int.toNat_natCast]; omega
theorem qO (xs:List Int)(h:xs.length≤1048576):Ze xs=some xs:=by
 unfold Ze
 rw [if_pos (by omega),mz xs 0 (fun s:(List Int)×Int=>Ze_L1 xs s.1 s.2) (fun s i=>(s,i)) (fun ys k b a=>by
  show Ze_L1 xs ys (k:Int)=_
  unfold Ze_L1
  rw [if_pos (zy a),if_pos (pm a),if_pos (xc a),bX (by unfold cA; omega)]; rfl) (fun ys _=>by
  show Ze_L1 xs ys (xs.length:Int)=_
  unfold Ze_L1; simp only [tf,Bool.false_eq_true,if_false])]
 rfl
theorem qi (xs:List Int)(h:xs.length≤1048576):Z07 xs xs=some true:=by
 rw [ou,uH _ _ (by unfold cA; omega)]; simp
theorem uI {α:Type}[Inhabited α](xs:List α)(f:Int→Option (Int⊕(Bool⊕Unit)))(h:xs.length≤1048576)(e:α→α→Option Bool)(g:∀ x∈xs,e x x=some true)
  (b:∀ i,f i=if (decide (i<(xs.length:Int)))=true then (if (0≤i∧i<(xs.length:Int)) then if (0≤i∧i<(xs.length:Int)) then (e (ix xs i) (ix xs i)).bind fun (r:Bool)=>if (!r)=true then (some (.inr (.inl false))) else (some (.inl (aG (i+(1:Int))))) else none else none) else (some (.inr (.inr ())))) :
  aU f 0=some (.inr ()):=by
 rw [dV xs f (fun i=>i) (fun _=>true) (.inl false) (.inr ()) (fun k a=>by
  rw [b,if_pos (zy a),if_pos (pm a),if_pos (pm a),g _ (bE a),bH,bX (by unfold cA; omega)]; rfl) (by rw [b]; simp only [tf,Bool.false_eq_true,if_false])]
 simp
theorem km (x:Int):(x != x)=false:=by simp
theorem zz {α:Type}[Inhabited α]{ys:List α}{k:Nat}{v:α}(h:k<ys.length):ix (ys.set k v) (k:Int)=v:=by
 rw [bV (by simpa using h)]; simp
theorem qP {α:Type}[Inhabited α]{ys:List α}{k j:Nat}{v:α}(h:k≠j):ix (ys.set k v) (j:Int)=ix ys (j:Int):=by
 simp [ix,List.getD_eq_getElem?_getD,List.getElem?_set,h]
theorem tg {α:Type}(n:α→Nat)(xs:List α):xs.length≤my n xs:=by unfold my; omega
theorem th {α:Type}(n:α→Nat){xs:List α}{x:α}(h:x∈xs):n x≤my n xs:=by
 have:n x≤(xs.map n).sum:=by
  induction xs with
  | nil=>cases h
  | cons y t ih =>
   rcases List.mem_cons.1 h with rfl | h
   ·simp
   ·have:=ih h; simp; omega
 unfold my; omega
theorem tj {a:Nat}{b:Int}(h:fS a b<0)(e:0≤b):fS a b = -1:=by
 unfold fS at *
 split at h
 ·rw [if_pos (by assumption)]
 ·omega
def kL (xs:(List Int)):Prop:=xs.length≤maxLen
def jL (xs:(List Int)):Prop:=xs.length≤1048576
theorem i' {xs:(List Int)}(h:xs.length≤1048576):jL xs:=h
theorem iI {xs:(List Int)}{a:Int}(e:kL xs)(b:0≤a)(h1:a≤1048576):Z1e xs a=some (fS xs.length a):=uE (Nat.le_trans e (by decide)) b h1
theorem kM (xs:(List Int))(h:jL xs):Ze xs=some xs:=by
 unfold Ze
 rw [if_pos (by have:xs.length≤1048576:=h; omega),mz xs 0 (fun s:(List Int)×Int=>Ze_L1 xs s.1 s.2) (fun s i=>(s,i)) (fun ys k e a=>by
  have b:xs.length≤1048576:=h
  show Ze_L1 xs ys (k:Int)=_
  unfold Ze_L1
  rw [if_pos (zy a),if_pos (pm a),if_pos (xc a),bX (by unfold cA; omega)]; rfl) (fun ys _=>by
  show Ze_L1 xs ys (xs.length:Int)=_
  unfold Ze_L1; simp only [tf,Bool.false_eq_true,if_false])]
 rfl
theorem kN (xs:(List Int))(h:jL xs):Z07 xs xs=some true:=qi xs h
def zA (x:aM):Prop:=x.length≤maxLen
def zB (x:aM):Prop:=x.length≤1048576
structure Cap70 (x:Node):Prop where
 Args:kL x.Args
 Dims:kL x.Dims
 Ints:kL x.Ints
 Form:zA x.Form
 Data:kL x.Data
structure SmNode (x:Node):Prop where
 Args:jL x.Args
 Dims:jL x.Dims
 Ints:jL x.Ints
 Form:zB x.Form
 Data:jL x.Data
def jZ (x:Node):Nat:=x.Args.length+x.Dims.length+x.Ints.length+x.Form.length+x.Data.length
theorem qQ {x:Node}(h:jZ x≤1048576):SmNode x:=by
 unfold jZ at h
 exact ⟨i' (by omega),i' (by omega),i' (by omega),show _≤_ by omega,i' (by omega)⟩
theorem qR {x:Node}{a:Int}(u:Cap70 x)(b:0≤a)(h1:a≤1048576):Z2i x a=some (fS (jZ x) a):=by
 obtain ⟨l,m,q,r,s⟩:=u
 unfold Z2i jZ
 rw [ji b,ji b,ji b,ji b]
 rw [iI l b (by omega),bH]
 by_cases h2:fS (x.Args.length) a<0
 ·simp [h2]
 ·obtain ⟨i,I,B⟩:=iR b h2
  rw [if_neg (by simpa using h2),if_neg h2]
  rw [iI m i (by omega),bH]
  by_cases h3:fS (x.Dims.length) (fS (x.Args.length) a)<0
  ·simp [h3]
  ·obtain ⟨j,J,D⟩:=iR i h3
   rw [if_neg (by simpa using h3),if_neg h3]
   rw [iI q j (by omega),bH]
   by_cases h4:fS (x.Ints.length) (fS (x.Dims.length) (fS (x.Args.length) a))<0
   ·simp [h4]
   ·obtain ⟨F,L,E⟩:=iR j h4
    rw [if_neg (by simpa using h4),if_neg h4]
    have h:aG (fS (x.Ints.length) (fS (x.Dims.length) (fS (x.Args.length) a)) - (x.Form.length:Int))=fS (x.Ints.length) (fS (x.Dims.length) (fS (x.Args.length) a)) - (x.Form.length:Int):=by
     have:x.Form.length≤9223372036854775807:=Nat.le_trans r (by decide)
     exact aZ (by omega) (by omega)
    by_cases h5:fS (x.Form.length) (fS (x.Ints.length) (fS (x.Dims.length) (fS (x.Args.length) a)))<0
    ·have:fS (x.Ints.length) (fS (x.Dims.length) (fS (x.Args.length) a))<(x.Form.length:Int):=by unfold fS at h5; split at h5<;>omega
     rw [h,if_pos (by simp; omega)]
     simp [h5]
    ·obtain ⟨g,M,e⟩:=iR F h5
     rw [h,← e,if_neg (by simpa using h5),if_neg h5]
     rw [iI s g (by omega),bH]
     by_cases h6:fS (x.Data.length) (fS (x.Form.length) (fS (x.Ints.length) (fS (x.Dims.length) (fS (x.Args.length) a))))<0
     ·rw [if_pos (by simpa using h6),tj h6 g]
     ·obtain ⟨O,T,G⟩:=iR g h6
      rw [if_neg (by simpa using h6)]
theorem uJ (x:Node)(h:SmNode x):Z2w x=some x:=by
 unfold Z2w
 rw [kM _ h.Args,bH,kM _ h.Dims,bH,kM _ h.Ints,bH,kM _ h.Data,bH]
theorem uK (x:Node)(h:SmNode x):Z2h x x=some true:=by
 unfold Z2h
 rw [kN _ h.Args,bH,kN _ h.Dims,bH,kN _ h.Ints,bH,kN _ h.Data,bH]
 simp
def tl (xs:(List Node)):Prop:=xs.length≤maxLen∧∀ x∈xs,Cap70 x
def lR (xs:(List Node)):Prop:=xs.length≤1048576∧∀ x∈xs,SmNode x
theorem pn {xs:(List Node)}(h:my jZ xs≤1048576):lR xs:=⟨Nat.le_trans (tg _ _) h,fun x a=>qQ (Nat.le_trans (th _ a) h)⟩
theorem po {xs:(List Node)}{a:Int}(g:tl xs)(b:0≤a)(h1:a≤1048576):Z16 xs a=some (fS (my jZ xs) a):=by
 unfold Z16
 refine uG (x:=fun l=>(aU (fun s:Int×Int=>Z16_L1 xs s.1 s.2) (l,(0:Int))).bind fun e=>match e with | .inl e=>some e | .inr e=>Z16_J1 e) (Nat.le_trans g.1 (by decide)) b h1 (fun h=>?_)
 obtain ⟨j,m,q⟩:=iR b h
 exact uF xs jZ (Nat.lt_of_le_of_lt (show xs.length≤1048576 by unfold fS at h; split at h<;>omega) (by decide)) Z2i _ (fun x i a=>qR (g.2 x i)) (fun _ _=>rfl) _ j (by omega)
theorem tm (xs:(List Node))(h:lR xs):Z0m xs=some xs:=by
 unfold Z0m
 rw [if_pos (by have:xs.length≤1048576:=h.1; omega),mz xs zT54.z (fun s:(List Node)×Int=>Z0m_L1 xs s.1 s.2) (fun s i=>(s,i)) (fun ys k e a=>by
  have b:xs.length≤1048576:=h.1
  show Z0m_L1 xs ys (k:Int)=_
  unfold Z0m_L1
  rw [if_pos (zy a),if_pos (pm a),uJ _ (h.2 _ (bE a)),bH,if_pos (xc a),bX (by unfold cA; omega)]; rfl) (fun ys _=>by
  show Z0m_L1 xs ys (xs.length:Int)=_
  unfold Z0m_L1; simp only [tf,Bool.false_eq_true,if_false])]
 rfl
theorem tn (xs:(List Node))(h:lR xs):Z1a xs xs=some true:=by
 unfold Z1a
 rw [km,uI xs (fun s:Int=>Z1a_L1 xs xs s) h.1 Z2h (fun x a=>uK x (h.2 x a)) (fun _=>rfl)]; rfl
structure Cap25 (x:Graph):Prop where
 Nodes:tl x.Nodes
 Outs:kL x.Outs
structure SmGraph (x:Graph):Prop where
 Nodes:lR x.Nodes
 Outs:jL x.Outs
def l9 (x:Graph):Nat:=my jZ x.Nodes+x.Outs.length
theorem pq {x:Graph}(h:l9 x≤1048576):SmGraph x:=by
 unfold l9 at h
 exact ⟨pn (by omega),i' (by omega)⟩
theorem pu {x:Graph}{a:Int}(i:Cap25 x)(b:0≤a)(h1:a≤1048576):Z2v x a=some (fS (l9 x) a):=by
 obtain ⟨g,h⟩:=i
 unfold Z2v l9
 rw [ji b]
 rw [po g b (by omega),bH]
 by_cases h2:fS (my jZ x.Nodes) a<0
 ·simp [h2]
 ·obtain ⟨e,m,j⟩:=iR b h2
  rw [if_neg (by simpa using h2),if_neg h2]
  rw [iI h e (by omega),bH]
  by_cases h3:fS (x.Outs.length) (fS (my jZ x.Nodes) a)<0
  ·rw [if_pos (by simpa using h3),tj h3 e]
  ·obtain ⟨q,r,l⟩:=iR e h3
   rw [if_neg (by simpa using h3)]
theorem tp (x:Graph)(h:SmGraph x):Z1r x=some x:=by
 unfold Z1r
 rw [tm _ h.Nodes,bH,kM _ h.Outs,bH]
theorem tq (x:Graph)(h:SmGraph x):Z2u x x=some true:=by
 unfold Z2u
 rw [tn _ h.Nodes,bH,kN _ h.Outs,bH]
 simp
theorem zC {g:Graph}(h:SmGraph g):GC g:=by
 have b:(1048576:Nat)<cA:=by decide
 have a:=h.Nodes
 exact ⟨Nat.lt_of_le_of_lt a.1 b,Nat.lt_of_le_of_lt h.Outs b,fun n m=>Nat.lt_of_le_of_lt (a.2 n m).Args b,fun n m=>Nat.lt_of_le_of_lt (a.2 n m).Dims b,fun n m=>Nat.lt_of_le_of_lt (a.2 n m).Ints b,fun n m=>Nat.lt_of_le_of_lt (a.2 n m).Data b,fun n m=>(a.2 n m).Form⟩
theorem zD {g:Graph}(h:¬ fS (l9 g) 1048576<0):SmGraph g:=pq (by unfold fS at h; split at h<;>omega)
theorem nn (n:Nat):decide ((n:Int)<0)=false:=by simp
def GA (g:Graph):Prop:=g.Nodes.length≤200∧∀ k:Nat,k<g.Nodes.length→(ix g.Nodes (k:Int)).Args.length≤6∧∀ a∈(ix g.Nodes (k:Int)).Args,0≤a∧a<(k:Int)
theorem zE {g:Graph}{j:List Tensor}(i:g.Nodes.length≤200)(h:zP g g.Nodes.length j):GA g:=by
 refine ⟨i,fun k e=>?_⟩
 obtain ⟨a,b,_⟩:=h k e
 exact ⟨l8 a,b⟩
def Inc (p:List Int):Prop:=∀ i j:Nat,i<j→j<p.length→ix p (i:Int)<ix p (j:Int)
theorem xd {p:List Int}(h:∀ i:Nat,i+1<p.length→ix p (i:Int)<ix p ((i+1:Nat):Int)):Inc p:=by
 intro i j a b
 induction j with
 | zero=>omega
 | succ j ih =>
  have:=h j b
  by_cases e:i=j
  ·subst e; exact this
  ·exact Int.lt_trans (ih (by omega) (by omega)) this
theorem Inc.tail {x:Int}{p:List Int}(h:Inc (x::p)):Inc p:=by
 intro i j a b
 have:=h (i+1) (j+1) (by omega) (by simpa using b)
 simpa [ix] using this
theorem Inc.head {x:Int}{p:List Int}(h:Inc (x::p)):∀ y∈p,x<y:=by
 intro y b
 obtain ⟨k,a,rfl⟩:=List.getElem_of_mem b
 have:=h 0 (k+1) (by omega) (by simpa using a)
 simpa [ix,a] using this
theorem Bd {i j:Nat}(g:i≤1048576)(h:j≤1048576):aG ((IntKind.wrap .u64 (aG ((i:Int)+(j:Int)))) / 2 ^ (1:Int).toNat)=(((i+j) / 2:Nat):Int):=by
 have a:aG ((i:Int)+(j:Int))=((i+j:Nat):Int):=by rw [aZ (by omega) (by omega)]; omega
 have b:IntKind.wrap .u64 ((i+j:Nat):Int)=((i+j:Nat):Int):=by
  unfold IntKind.wrap
  simp [IntKind.bits,IntKind.signed]
  omega
 have e:(2:Int) ^ (1:Int).toNat=2:=rfl
 rw [a,b,e,aZ (by omega) (by omega)]; omega
theorem nA {p:List Int}{t:Int}(g:p.length≤1048576)(a:Inc p):∀ (d i j:Nat),j - i≤d→i≤j→j≤p.length→(∀ m:Nat,m<i→ix p (m:Int)<t)→(∀ m:Nat,j≤m→m<p.length→t≤ix p (m:Int)) →
  ∃ r:Nat,aU (fun s:Int×Int=>Z0k_L1 p t s.1 s.2) ((i:Int),(j:Int))=some (r:Int)∧r≤p.length∧(∀ m:Nat,m<r→ix p (m:Int)<t)∧∀ m:Nat,r≤m→m<p.length→t≤ix p (m:Int)
 | d,i,j,hd,hij,hj,h1,h2=>by
  by_cases c:i<j
  ·cases d with
   | zero=>omega
   | succ d =>
    obtain ⟨h,l⟩:∃ h,h=(i+j) / 2:=⟨_,rfl⟩
    have u:i≤h∧h<j:=by omega
    have st:Z0k_L1 p t (i:Int) (j:Int)=some (.inl (if ix p (h:Int)<t then (((h+1:Nat):Int),(j:Int)) else ((i:Int),(h:Int)))):=by
     simp only [Z0k_L1]
     rw [Bd (by omega) (by omega),← l,if_pos (by simp; omega),if_pos (by omega)]
     unfold Z32 Z2b
     simp only [Option.bind_some,km,bI,cond_false,Bool.false_and,Bool.false_or]
     rw [bX (by unfold cA; omega)]
     by_cases q:ix p (h:Int)<t
     ·rw [if_pos q]; simp [bI,q]
     ·rw [if_neg q]; simp [bI,q]
    by_cases q:ix p (h:Int)<t
    ·rw [if_pos q] at st
     rw [eL (f:=fun s:Int×Int=>Z0k_L1 p t s.1 s.2) st]
     refine nA g a d (h+1) j (by omega) (by omega) hj (fun m B=>?_) h2
     by_cases e:m=h
     ·subst e; exact q
     ·exact Int.lt_trans (a m h (by omega) (by omega)) q
    ·rw [if_neg q] at st
     rw [eL (f:=fun s:Int×Int=>Z0k_L1 p t s.1 s.2) st]
     refine nA g a d i h (by omega) (by omega) (by omega) h1 (fun m B b=>?_)
     by_cases e:m=h
     ·subst e; omega
     ·have:=a h m (by omega) b; omega
  ·have:i=j:=by omega
   subst this
   refine ⟨i,dN ?_,hj,h1,h2⟩
   simp only [Z0k_L1]
   rw [if_neg (by simp)]
theorem mZ {p:List Int}{t:Int}(D:p.length≤1048576)(u:Inc p):Z1t t p=some (decide (t∈p)):=by
 unfold Z1t Z0k
 obtain ⟨r,F,I,B,G⟩:=nA (t:=t) D u p.length 0 p.length (by omega) (by omega) (Nat.le_refl _) (fun m a=>absurd a (Nat.not_lt_zero _)) (fun m h1 h2=>by omega)
 have j:aU (fun s:Int×Int=>Z0k_L1 p t s.1 s.2) (0,(p.length:Int))=some (r:Int):=F
 rw [j]
 simp only [Option.bind_some,Z0k_J1]
 rw [if_pos (fun h=>by simp at h; omega),if_pos (fun h _=>by simp at h; omega)]
 have g:∀ x:Int,Z23 x=some false:=fun x=>by unfold Z23; rw [km]
 have l:∀ b:Bool,bI b (some false)=some false:=fun b=>by cases b<;>rfl
 rw [g,g,l]
 simp only [Option.bind_some,Bool.and_false,l,Bool.false_and,Bool.or_false]
 congr 1
 by_cases c:r<p.length
 ·rw [decide_eq_true (by omega:(r:Int)<(p.length:Int)),Bool.true_and]
  by_cases e:ix p (r:Int)=t
  ·rw [decide_eq_true (by rw [← e]; exact bE c)]; simpa using e
  ·rw [decide_eq_false]
   ·simpa using e
   ·intro a
    obtain ⟨m,i,rfl⟩:=List.getElem_of_mem a
    have E:=bV i
    rcases Nat.lt_trichotomy m r with q | q | q
    ·have:=B m q; omega
    ·subst q; exact e E
    ·have:=u r m q i
     have:=G r (Nat.le_refl _) c
     omega
 ·rw [decide_eq_false (by omega:¬ (r:Int)<(p.length:Int)),Bool.false_and,decide_eq_false]
  intro a
  obtain ⟨m,i,rfl⟩:=List.getElem_of_mem a
  have:=B m (by omega)
  rw [bV i] at this
  omega
def jw (p:List Int)(k:Int):Int:=((p.filter fun x=>decide (x<k)).length:Int)
theorem m' {p:List Int}(g:p.length≤1048576)(k:Int):Z0a p k=some (jw p k):=by
 unfold Z0a
 rw [eR (f:=fun s:Int×Int=>Z0a_L1 p k s.1 s.2) (r:=jw p k) (fun i=>(jw (p.take i) k,(i:Int))) p.length (fun i a=>by
  have e:0≤jw (p.take i) k∧jw (p.take i) k≤1048576:=by
   unfold jw
   have:=List.length_filter_le (fun x=>decide (x<k)) (p.take i)
   rw [List.length_take] at this
   omega
  have b:jw (p.take (i+1)) k=if ix p (i:Int)<k then jw (p.take i) k+1 else jw (p.take i) k:=by
   unfold jw
   rw [List.take_succ_eq_append_getElem a,List.filter_append,List.length_append,← bV a]
   by_cases q:ix p (i:Int)<k<;>simp [q]
  simp only [Z0a_L1,Z0a_J2]
  rw [if_pos (by simp; omega),if_pos (by omega),bX (by unfold cA; omega),b]
  by_cases q:ix p (i:Int)<k
  ·rw [if_pos (decide_eq_true q),if_pos q,aZ (by omega) (by omega)]
  ·rw [if_neg (by simpa using q),if_neg q]) (by
  simp only [Z0a_L1]
  rw [if_neg (by simp),List.take_length]) (s:=(0,0)) rfl]
 rfl
theorem zF {p:List Int}(e:p.length≤1048576)(x:Int):Z11 p x=some (decide (x∈p)):=by
 unfold Z11
 have:=dV p (fun s:Int=>Z11_L1 p x s) (fun i=>i) (fun y=>!(y==x)) (.inl true) (.inr ())
  (fun k b=>by
   simp only [Z11_L1]
   rw [if_pos (by simp; omega),if_pos (by omega),bX (by unfold cA; omega)]
   cases (ix p (k:Int)==x)<;>rfl)
  (by simp only [Z11_L1]; rw [if_neg (by simp)])
 rw [this]
 by_cases c:x∈p
 ·have:(p.all fun y=>!(y==x))=false:=by
   rw [List.all_eq_false]
   exact ⟨x,c,by simp⟩
  rw [this]; simp [c]
 ·have:(p.all fun y=>!(y==x))=true:=by
   rw [List.all_eq_true]
   intro y a
   have:y≠x:=fun z=>c (z▸a)
   simpa using this
  rw [this]; simp [c,Z11_J1]
theorem ov:∀ {p:List Int},Inc p→∀ k:Int,jw p (k+1)=jw p k+if k∈p then 1 else 0
 | [],_,k=>by simp [jw]
 | x::p,h,k=>by
  have a:=ov h.tail k
  unfold jw at a ⊢
  by_cases e:x=k
  ·subst e
   have g:x ∉ p:=fun z=>by have:=h.head x z; omega
   rw [if_neg g] at a
   simp only [List.filter_cons,List.mem_cons,true_or,if_true]
   rw [if_pos (by simp; omega),if_neg (by simp)]
   simp only [List.length_cons]
   omega
  ·have b:k∈x::p↔k∈p:=by
    rw [List.mem_cons]; exact ⟨fun z=>z.resolve_left (fun w=>e w.symm),.inr⟩
   simp only [List.filter_cons,b]
   by_cases q:x<k
   ·rw [if_pos (by simp; omega),if_pos (by simpa using q)]
    simp only [List.length_cons]
    omega
   ·rw [if_neg (by simp; omega),if_neg (by simpa using q)]
    exact a
theorem oy {p:List Int}(D:p.length≤1048576)(r:Inc p)(B:∀ x∈p,0≤x){n:Nat}(J:n≤200):∃ s,Z0e (n:Int) p=some s∧s.length=n∧∀ k:Nat,k<n→ix s (k:Int)=jw p (k:Int):=by
 unfold Z0e
 rw [if_pos (by omega)]
 obtain ⟨s,E,F⟩:=hD (f:=fun s:List Int×Int×Int=>Z0e_L1 (n:Int) p s.1 s.2.1 s.2.2)
  (fun i z=>z.2.2=(i:Int)∧z.2.1=jw p (i:Int)∧z.1.length=n∧∀ k:Nat,k<i→ix z.1 (k:Int)=jw p (k:Int)) n (Post:=fun s=>s.length=n∧∀ k:Nat,k<n→ix s (k:Int)=jw p (k:Int))
  (fun i z I l=>by
   obtain ⟨x,a,j⟩:=z
   obtain ⟨rfl,h1,h2,b⟩:=l
   dsimp only at h1 h2 b
   subst h1
   have G:0≤jw p (i:Int)∧jw p (i:Int)≤1048576:=by
    unfold jw
    have:=List.length_filter_le (fun x=>decide (x<(i:Int))) p
    omega
   have g:=ov r (i:Int)
   have h:∀ k:Nat,k<i+1→ix (x.set i (jw p (i:Int))) (k:Int)=jw p (k:Int):=by
    intro k m
    by_cases e:k=i
    ·subst e; rw [zz (by omega)]
    ·rw [qP (fun z=>e z.symm)]; exact b k (by omega)
   simp only [Z0e_L1,Z0e_J2]
   rw [if_pos (by simp; omega),if_pos (by simp; omega),mZ D r]
   simp only [Option.bind_some,Int.toNat_natCast]
   rw [bX (by unfold cA; omega),aZ (n:=jw p (i:Int)+1) (by omega) (by omega)]
   by_cases q:(i:Int)∈p
   ·rw [if_pos (decide_eq_true q)]
    rw [if_pos q] at g
    exact ⟨_,rfl,rfl,by rw [← g]; rfl,by simpa using h2,h⟩
   ·rw [if_neg (by simpa using q)]
    rw [if_neg q] at g
    have u:jw p ((i+1:Nat):Int)=jw p (i:Int):=by rw [← Int.add_zero (jw p (i:Int)),← g]; rfl
    exact ⟨_,rfl,rfl,u.symm,by simpa using h2,h⟩)
  (fun z l=>by
   obtain ⟨x,a,j⟩:=z
   obtain ⟨rfl,h1,h2,b⟩:=l
   simp only [Z0e_L1]
   rw [if_neg (by simp)]
   exact ⟨x,rfl,h2,b⟩)
  (s:=(List.replicate (n:Int).toNat 0,0,0)) ⟨rfl,by
   have:(p.filter fun x=>decide (x<(0:Int)))=[]:=by
    rw [List.filter_eq_nil_iff]
    intro x h
    have:=B x h
    simp; omega
   show (0:Int)=jw p 0
   unfold jw; rw [this]; rfl,by simp,fun k m=>absurd m (Nat.not_lt_zero _)⟩
 rw [E]
 exact ⟨s,rfl,F⟩
def ts (g:Graph)(p:List Int)(k:Nat):Bool:=!(((decide (ix p (k:Int)<0))||(decide (ix p (k:Int)≥(g.Nodes.length:Int))))||((decide ((k:Int)>0))&&(decide (ix p (aG ((k:Int) - 1))≥ix p (k:Int)))))
theorem zG {g:Graph}{p:List Int}(b:p.length≤1048576):aU (fun s:Int=>Zb_L1 g p s) 0=some (if (List.range p.length).all (ts g p) then .inr () else .inl false):=by
 refine f' p.length (fun s:Int=>Zb_L1 g p s) (fun i=>i) (ts g p) (.inl false) (.inr ()) (fun k a=>?_) ?_
 ·simp only [Zb_L1]
  rw [if_pos (by simp; omega),if_pos (by omega),if_pos (fun _ h=>by simp at h; rw [aZ (by omega) (by omega)]; omega),bX (by unfold cA; omega)]
  unfold ts
  cases (((decide (ix p (k:Int)<0))||(decide (ix p (k:Int)≥(g.Nodes.length:Int))))||((decide ((k:Int)>0))&&(decide (ix p (aG ((k:Int) - 1))≥ix p (k:Int)))))<;>rfl
 ·simp only [Zb_L1]
  rw [if_neg (by simp)]
theorem Be:Z0v_L1=Zb_L1:=rfl
theorem zH {g:Graph}{p:List Int}(m:p.length≤1048576)(h:(List.range p.length).all (ts g p)=true):Inc p∧∀ x∈p,0≤x∧x<(g.Nodes.length:Int):=by
 have b:∀ k:Nat,k<p.length→(0≤ix p (k:Int)∧ix p (k:Int)<(g.Nodes.length:Int))∧((k:Int)>0→ix p (aG ((k:Int) - 1))<ix p (k:Int)):=by
  intro k b
  have:=List.all_eq_true.1 h k (List.mem_range.2 b)
  unfold ts at this
  simp only [Bool.not_eq_true',Bool.or_eq_false_iff,Bool.and_eq_false_iff,decide_eq_false_iff_not] at this
  refine ⟨by omega,fun j=>?_⟩
  rcases this.2 with q | q
  ·exact absurd j q
  ·omega
 refine ⟨xd fun i e=>?_,fun x l=>?_⟩
 ·have:=(b (i+1) e).2 (by omega)
  rwa [aZ (by omega) (by omega),show (((i+1:Nat):Int) - 1)=(i:Int) by omega] at this
 ·obtain ⟨k,a,rfl⟩:=List.getElem_of_mem l
  have:=(b k a).1
  rwa [bV a] at this
def jX (g:Graph)(p:List Int)(k a:Int):Bool:=((jw p a != jw p k)&&!(decide (a∈p)))&&!(((ix g.Nodes a).Op==1)||((ix g.Nodes a).Op==2))
theorem zR {α:Type}[Inhabited α](b:Bool)(x:α):bI b (some x)=some (cond b x default):=by cases b<;>rfl
theorem Bf {g:Graph}(l:GA g){p:List Int}(b:p.length≤1048576){k:Nat}(q:k<g.Nodes.length):aU (fun s:Int=>Zb_L3 g p (k:Int) s) 0=some (if (ix g.Nodes (k:Int)).Args.all (fun a=>!jX g p (k:Int) a) then .inr () else .inl false):=by
 obtain ⟨h,e⟩:=l.2 k q
 refine dV (ix g.Nodes (k:Int)).Args (fun s:Int=>Zb_L3 g p (k:Int) s) (fun i=>i) (fun a=>!jX g p (k:Int) a) (.inl false) (.inr ()) (fun j m=>?_) ?_
 ·have r:=e _ (bE m)
  simp only [Zb_L3]
  rw [if_pos (by omega),if_pos (by simp; omega),if_pos (by omega),m' b,m' b,zF b]
  simp only [Option.bind_some,zR]
  rw [if_pos (fun _=>by omega)]
  unfold Z3c jX
  simp only [zR,Option.bind_some]
  rw [bX (by unfold cA; omega)]
  cases (jw p (ix (ix g.Nodes (k:Int)).Args (j:Int)) != jw p (k:Int))<;>cases (decide (ix (ix g.Nodes (k:Int)).Args (j:Int)∈p))<;>cases (((ix g.Nodes (ix (ix g.Nodes (k:Int)).Args (j:Int))).Op==1)||((ix g.Nodes (ix (ix g.Nodes (k:Int)).Args (j:Int))).Op==2))<;>rfl
 ·simp only [Zb_L3]
  rw [if_pos (by omega),if_neg (by simp)]
theorem Bg {g:Graph}(e:GA g){p s:List Int}(r:p.length≤1048576)(B:Inc p)(h1:s.length=g.Nodes.length)(h2:∀ k:Nat,k<g.Nodes.length→ix s (k:Int)=jw p (k:Int)){k:Nat}(h:k<g.Nodes.length):aU (fun z:Int=>Z01_L2 g p s (k:Int) z) 0=some (if (ix g.Nodes (k:Int)).Args.all (fun a=>!jX g p (k:Int) a) then .inr () else .inl false):=by
 obtain ⟨m,l⟩:=e.2 k h
 have D:=e.1
 refine dV (ix g.Nodes (k:Int)).Args (fun z:Int=>Z01_L2 g p s (k:Int) z) (fun i=>i) (fun a=>!jX g p (k:Int) a) (.inl false) (.inr ()) (fun j q=>?_) ?_
 ·have u:=l _ (bE q)
  obtain ⟨c,b⟩:∃ c:Nat,ix (ix g.Nodes (k:Int)).Args (j:Int)=(c:Int):=⟨_,(Int.toNat_of_nonneg u.1).symm⟩
  simp only [Z01_L2]
  rw [if_pos (by simp; omega),if_pos (by omega),b,if_pos (by omega),if_pos (by omega),h2 c (by omega),h2 k h,mZ r B]
  simp only [Option.bind_some,zR]
  rw [if_pos (fun _=>by omega)]
  unfold Z33 jX
  simp only [zR,Option.bind_some]
  rw [bX (by unfold cA; omega)]
  cases (jw p (c:Int) != jw p (k:Int))<;>cases (decide ((c:Int)∈p))<;>cases (((ix g.Nodes (c:Int)).Op==1)||((ix g.Nodes (c:Int)).Op==2))<;>rfl
 ·simp only [Z01_L2]
  rw [if_neg (by simp)]
theorem xe {g:Graph}(b:GA g){p:List Int}(e:p.length≤1048576):Zb g p=some ((List.range p.length).all (ts g p)&&(List.range g.Nodes.length).all fun k=>(ix g.Nodes (k:Int)).Args.all (fun a=>!jX g p (k:Int) a)):=by
 have j:=b.1
 unfold Zb
 rw [zG e]
 by_cases c:(List.range p.length).all (ts g p)=true
 ·rw [if_pos c,c]
  simp only [Option.bind_some,Zb_J1,Bool.true_and]
  rw [f' g.Nodes.length (fun s:Int=>Zb_L2 g p s) (fun i=>i) (fun k=>(ix g.Nodes (k:Int)).Args.all (fun a=>!jX g p (k:Int) a)) (.inl false) (.inr ()) (fun k h=>by
   simp only [Zb_L2]
   rw [if_pos (by simp; omega),Bf b e h]
   by_cases q:(ix g.Nodes (k:Int)).Args.all (fun a=>!jX g p (k:Int) a)=true
   ·rw [if_pos q,if_pos q]
    simp only [Option.bind_some,Zb_J3]
    rw [bX (by unfold cA; omega)]
   ·rw [if_neg q,if_neg q]
    rfl) (by
   simp only [Zb_L2]
   rw [if_neg (by simp)])]
  by_cases q:((List.range g.Nodes.length).all fun k=>(ix g.Nodes (k:Int)).Args.all (fun a=>!jX g p (k:Int) a))=true
  ·rw [if_pos q,q]; rfl
  ·rw [if_neg q]
   have:((List.range g.Nodes.length).all fun k=>(ix g.Nodes (k:Int)).Args.all (fun a=>!jX g p (k:Int) a))=false:=by simpa using q
   rw [this]; rfl
 ·rw [if_neg c]
  have:(List.range p.length).all (ts g p)=false:=by simpa using c
  rw [this]; rfl
theorem xf {g:Graph}(h:GA g){p:List Int}(b:p.length≤1048576)(e:Z2c g=some true):Z0v g p=some ((List.range p.length).all (ts g p)&&(List.range g.Nodes.length).all fun k=>(ix g.Nodes (k:Int)).Args.all (fun a=>!jX g p (k:Int) a)):=by
 have r:=h.1
 unfold Z0v
 rw [e,bH,if_neg (by simp),Be,zG b]
 by_cases c:(List.range p.length).all (ts g p)=true
 ·obtain ⟨j,l⟩:=zH b c
  rw [if_pos c,c]
  simp only [Option.bind_some,Z0v_J1,Z35,Z01,Bool.true_and]
  obtain ⟨s,B,D,s3⟩:=oy b j (fun x u=>(l x u).1) r
  rw [B]
  simp only [Option.bind_some]
  rw [f' g.Nodes.length (fun z:Int=>Z01_L1 g p s z) (fun i=>i) (fun k=>(ix g.Nodes (k:Int)).Args.all (fun a=>!jX g p (k:Int) a)) (.inl false) (.inr ()) (fun k m=>by
   simp only [Z01_L1]
   rw [if_pos (by simp; omega),if_pos (by omega),Bg h b j D s3 m]
   by_cases q:(ix g.Nodes (k:Int)).Args.all (fun a=>!jX g p (k:Int) a)=true
   ·rw [if_pos q,if_pos q]
    simp only [Option.bind_some,Z01_J2]
    rw [bX (by unfold cA; omega)]
   ·rw [if_neg q,if_neg q]
    rfl) (by
   simp only [Z01_L1]
   rw [if_neg (by simp)])]
  by_cases q:((List.range g.Nodes.length).all fun k=>(ix g.Nodes (k:Int)).Args.all (fun a=>!jX g p (k:Int) a))=true
  ·rw [if_pos q,q]; rfl
  ·rw [if_neg q]
   have:((List.range g.Nodes.length).all fun k=>(ix g.Nodes (k:Int)).Args.all (fun a=>!jX g p (k:Int) a))=false:=by simpa using q
   rw [this]; rfl
 ·rw [if_neg c]
  have:(List.range p.length).all (ts g p)=false:=by simpa using c
  rw [this]; rfl
theorem pw (a:Graph)(p:List Int)(l:Cap25 a)(m:kL p):Z3a a p=some true:=by
 unfold Z3a
 by_cases hl:p.length≤1048576
 ·rw [if_neg (by simp; omega),pu l (by omega) (by omega),bH]
  by_cases h:fS (l9 a) 1048576<0
  ·rw [if_pos (by simpa using h)]
  ·have b:=zD h
   obtain ⟨E,D,e,h1,h2,j⟩:=oq (zC b)
   have g1:Z2x a=some e:=by unfold Z2x; rw [h1]; rfl
   have g:Z2c a=some e:=by unfold Z2c; rw [h2]; rfl
   obtain ⟨x,k1,q⟩:∃ x:Bool,Z2j a p=some x∧Z0v a p=some x:=by
    cases e with
    | false =>
     unfold Z2j Z0v
     rw [g1,g]
     exact ⟨false,rfl,rfl⟩
    | true =>
     obtain ⟨r,s,a3,a4,a5,u,B⟩:=j rfl
     have i:=zE a5 a4
     refine ⟨_,?_,xf i hl g⟩
     unfold Z2j
     rw [g1,bH,Bc,xe i hl,bH,Bool.true_and]
   rw [if_neg (by simpa using h),tp a b,bH,qO p hl,bH,k1,bH,bH,bH,q,bH,if_neg (by simp),bH,tq a b,bH,if_neg (by simp),bH,qi p hl,bH]
   rfl
 ·rw [if_pos (by simp; omega)]
end Go.Proofs.YtmpnollfdpdipaaGreat
