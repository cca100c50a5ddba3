import Derived.Test.YthelanpdjajnbaaGreatKG13
import Derived.Test.YthelanpdjajnbaaGreatKcF
import Derived.Test.YthelanpdjajnbaaGreatPL1
set_option linter.unusedVariables false
set_option linter.unusedSimpArgs false
namespace Go.Proofs.YthelanpdjajnbaaGreat
open Go Go.Pg
theorem tN {c:UInt8}(h:97≤c.toNat∧c.toNat≤122):IntKind.wrap .u8 ((c.toNat:Int) - 97)=(c.toNat:Int) - 97:=by
 unfold IntKind.wrap
 simp [IntKind.bits,IntKind.signed]
 omega
theorem qV {g:aO}{k:Nat}(h:k<g.length):sub g (k:Int) ((k+1:Nat):Int)=[ix g (k:Int)]:=by
 unfold sub
 rw [Int.toNat_natCast,Int.toNat_natCast,List.take_succ_eq_append_getElem h,List.drop_append_of_le_length (by simp; omega),b' h]
 simp
theorem xU {gs:List aO}{dss:List (List Int)}{b:List aO×aO×Bool}{x:Nat}(I:b.1=gs)(Z:x<gs.length)(u:LT (ix gs (x:Int))){m:Nat}(Y:m≤100){s:aO×List Int}(h1:s.1.length≤m)(h2:s.2.length=26)(D:(ix gs (x:Int)).length=(ix dss (x:Int)).length) :
  (∃ s',lu (ix gs (x:Int)) (ix dss (x:Int)) s=some s'∧aR (fun s:aO×List Int×Int=>Z3_L2 dss b (x:Int) s.1 s.2.1 s.2.2) (s.1,s.2,0)=some (.inr (s'.1,s'.2))∧s'.1.length≤m+6∧s'.2.length=26) ∨
  (lu (ix gs (x:Int)) (ix dss (x:Int)) s=none∧∃ e,aR (fun s:aO×List Int×Int=>Z3_L2 dss b (x:Int) s.1 s.2.1 s.2.2) (s.1,s.2,0)=some (.inl e)∧e.2=false):=by
 obtain ⟨g,l⟩:∃ g,g=ix gs (x:Int):=⟨_,rfl⟩
 obtain ⟨ds,h⟩:∃ ds,ds=ix dss (x:Int):=⟨_,rfl⟩
 have a:ix b.1 (x:Int)=g:=by rw [I,l]
 rw [← l] at u D ⊢
 rw [← h] at D ⊢
 unfold lu
 rw [if_pos D]
 rcases jf (f:=fun s:aO×List Int×Int=>Z3_L2 dss b (x:Int) s.1 s.2.1 s.2.2) (fun s k=>kZ s (ix g (k:Int)) (ix ds (k:Int))) (fun s i=>(s.1,s.2,i)) (fun s=>(s.1,s.2)) (fun e=>e.2=false) (fun j s=>s.1.length≤m+j∧s.2.length=26) g.length
  (fun j s F E=>by
   obtain ⟨i1,T⟩:=E
   have J:=u.2 _ (bF F)
   have L:=u.1
   have B:bt g (j:Int)=((ix g (j:Int)).toNat:Int):=rfl
   simp only [Z3_L2]
   rw [a,← h,if_pos (by simp; omega),if_pos (by omega),B,tN J,if_pos (by omega),if_pos (fun _=>by omega)]
   show (∃ s',kZ s _ _=_∧_)∨_
   unfold kZ
   by_cases c:lk s.2 (ix g (j:Int))≠0∧lk s.2 (ix g (j:Int))≠ix ds (j:Int)
   ·rw [if_pos c,if_pos (by unfold lk at c; simpa using c)]
    exact .inr ⟨rfl,_,rfl,rfl⟩
   ·rw [if_neg c]
    obtain ⟨r,U,G⟩:=nW s.1 (ix g (j:Int))
    have O:((((ix g (j:Int)).toNat:Int) - 97)).toNat=(ix g (j:Int)).toNat - 97:=by omega
    have M:¬ (((ix s.2 (((ix g (j:Int)).toNat:Int) - 97)) != 0)&&((ix s.2 (((ix g (j:Int)).toNat:Int) - 97)) != (ix ds (j:Int))))=true:=by
     unfold lk at c; simpa using c
    refine .inl ⟨_,rfl,?_,?_,by simpa using T⟩
    ·rw [if_neg M,if_pos (by omega)]
     simp only [nm,Option.bind_some]
     rw [U,O]
     simp only [Option.bind_some]
     by_cases q:ix g (j:Int)∈s.1
     ·rw [if_neg (by simp; have:¬ r<0:=fun z=>G.1 z q; omega),if_pos q]
      simp only [Z3_J5]
      rw [bZ (by unfold cD; omega)]
     ·rw [if_pos (decide_eq_true (G.2 q)),bZ (by unfold cD; omega),if_pos (by omega),qV F,if_pos (by simp; omega),if_neg q]
      simp only [Z3_J5]
      rw [bZ (by unfold cD; omega)]
    ·by_cases q:ix g (j:Int)∈s.1
     ·simp only [if_pos q]; omega
     ·simp only [if_neg q]; simp; omega)
  (fun s E=>by
   simp only [Z3_L2]
   rw [a,if_neg (by simp)])
  (s:=s) ⟨by omega,h2⟩ with ⟨s',a1,a2,a3,a4⟩|⟨a1,e,a2,a3⟩
 ·have:=u.1
  exact .inl ⟨s',a1,a2,by omega,a4⟩
 ·exact .inr ⟨a1,e,a2,a3⟩
theorem xV {gs:List aO}{dss:List (List Int)}{b:List aO×aO×Bool}(l:b.1=gs)(F:gs.length≤6)(u:∀ g∈gs,LT g)(E:gs.length=dss.length){s:aO×List Int}(h1:s.1.length≤6)(h2:s.2.length=26) :
  (∃ s',na gs dss s=some s'∧aR (fun s:aO×List Int×Int=>Z3_L1 dss b s.1 s.2.1 s.2.2) (s.1,s.2,0)=some (.inr (s'.1,s'.2))∧s'.1.length≤42∧s'.2.length=26) ∨
  (na gs dss s=none∧∃ e,aR (fun s:aO×List Int×Int=>Z3_L1 dss b s.1 s.2.1 s.2.2) (s.1,s.2,0)=some (.inl e)∧e.2=false):=by
 unfold na
 rcases jf (f:=fun s:aO×List Int×Int=>Z3_L1 dss b s.1 s.2.1 s.2.2) (fun s k=>lu (ix gs (k:Int)) (ix dss (k:Int)) s) (fun s i=>(s.1,s.2,i)) (fun s=>(s.1,s.2)) (fun e=>e.2=false) (fun j s=>s.1.length≤6+6*j∧s.2.length=26) gs.length
  (fun j s r q=>by
   obtain ⟨B,D⟩:=q
   simp only [Z3_L1]
   rw [l,if_pos (by simp; omega),if_pos (by omega),if_pos (by omega)]
   by_cases c:(ix gs (j:Int)).length=(ix dss (j:Int)).length
   ·rw [if_neg (by simp; omega)]
    rcases xU (m:=6+6*j) l r (u _ (bF r)) (by omega) B D c with ⟨s',a,h,a3,a4⟩|⟨a,e,h,a3⟩
    ·rw [h]
     refine .inl ⟨s',a,?_,by omega,a4⟩
     simp only [Option.bind_some,Z3_J6]
     rw [bZ (by unfold cD; omega)]
    ·rw [h]
     exact .inr ⟨a,e,rfl,a3⟩
   ·rw [if_pos (by simp; omega)]
    refine .inr ⟨by unfold lu; rw [if_neg c],_,rfl,rfl⟩)
  (fun s q=>by
   simp only [Z3_L1]
   rw [l,if_neg (by simp)])
  (s:=s) ⟨by omega,h2⟩ with ⟨s',a,h,a3,a4⟩|⟨a,e,h,a3⟩
 ·exact .inl ⟨s',a,h,by omega,a4⟩
 ·exact .inr ⟨a,e,h,a3⟩
theorem tO:∀ {f:aO} {c:UInt8} {j:Nat},j<f.idxOf c→∀ h:j<f.length,f[j]≠c
 | [],_,_,_,h=>by simp at h
 | b::l,c,j,hj,h=>by
  rw [List.idxOf_cons] at hj
  cases e:b==c with
  | true=>rw [e] at hj; simp at hj
  | false =>
   rw [e] at hj
   cases j with
   | zero=>simpa using e
   | succ j=>exact tO (f:=l) (by simp at hj; omega) (by simpa using h)
theorem xW {gs:List aO}{k i:Nat}{f:aO}(m:f.length<cD)(r:i<(ix gs (k:Int)).length):aR (fun s:Int=>Z2_L3 gs (k:Int) f (i:Int) s) 0=some ((f.idxOf (ix (ix gs (k:Int)) (i:Int)):Nat):Int):=by
 obtain ⟨c,g⟩:∃ c,c=ix (ix gs (k:Int)) (i:Int):=⟨_,rfl⟩
 rw [← g]
 have l:f.idxOf c≤f.length:=List.idxOf_le_length
 have a:bt (ix gs (k:Int)) (i:Int)=(c.toNat:Int):=by rw [g]; rfl
 have e:∀ j:Nat,(bt f (j:Int) != (c.toNat:Int))=!decide (ix f (j:Int)=c):=by
  intro j
  have:(bt f (j:Int)==(c.toNat:Int))=decide (ix f (j:Int)=c):=kW
  unfold bne; rw [this]
 refine eQ (f:=fun s:Int=>Z2_L3 gs (k:Int) f (i:Int) s) (fun j=>(j:Int)) (f.idxOf c) (fun j h=>?_) ?_ rfl
 ·have b:j<f.length:=by omega
  simp only [Z2_L3]
  rw [if_pos (fun _=>by omega),if_pos (fun _=>by omega),a,e,bZ (by omega),if_pos]
  have:ix f (j:Int)≠c:=by
   rw [b' b]; exact tO h b
  simp [this]; omega
 ·simp only [Z2_L3]
  rw [if_pos (fun z=>by simp at z; omega),if_pos (fun _=>by omega),a,e,if_neg]
  by_cases q:f.idxOf c<f.length
  ·have:ix f ((f.idxOf c:Nat):Int)=c:=by rw [b' q]; exact List.getElem_idxOf q
   simp [this]
  ·simp; omega
theorem lv {lens:List Int}(h:lens.length=26){c a:UInt8}(g:97≤c.toNat∧c.toNat≤122)(b:97≤a.toNat∧a.toNat≤122)(d:Int):lk (lens.set (c.toNat - 97) d) a=if a=c then d else lk lens a:=by
 unfold lk
 have e:((a.toNat:Int) - 97)=((a.toNat - 97:Nat):Int):=by omega
 rw [e,b' (by simp; omega),List.getElem_set]
 by_cases q:a=c
 ·rw [if_pos q,if_pos (by rw [q])]
 ·have:a.toNat≠c.toNat:=fun z=>q (UInt8.toNat_inj.1 z)
  rw [if_neg q,if_neg (by omega),b' (by omega)]
theorem qW:∀ {f:aO} {c:UInt8} {g h:UInt8→Int} {d:Int},f.Nodup→c∈f→h c=d→(∀ x∈f,x≠c→h x=g x)→(f.map g).set (f.idxOf c) d=f.map h
 | [],_,_,_,_,_,hm,_,_=>by simp at hm
 | b::l,c,g,h,d,hn,hm,h1,h2=>by
  rw [List.nodup_cons] at hn
  rw [List.idxOf_cons]
  by_cases q:b=c
  ·subst q
   simp only [beq_self_eq_true,cond_true,List.map_cons,List.set_cons_zero,h1]
   congr 1
   apply List.map_congr_left
   intro x a
   exact (h2 x (List.mem_cons_of_mem _ a) (fun z=>hn.1 (z▸a))).symm
  ·have e:(b==c)=false:=by simpa using q
   have i:c∈l:=by
    rcases List.mem_cons.1 hm with z | z
    ·exact absurd z.symm q
    ·exact z
   rw [e]
   simp only [cond_false,List.map_cons,List.set_cons_succ]
   rw [qW hn.2 i h1 (fun x a j=>h2 x (List.mem_cons_of_mem _ a) j),h2 b (List.mem_cons_self ..) q]
structure IS (s:aO×List Int):Prop where
 l:s.2.length=26
 n:s.1.Nodup
 c:∀ c∈s.1,97≤c.toNat∧c.toNat≤122
 z:∀ c:UInt8,97≤c.toNat→c.toNat≤122→c ∉ s.1→lk s.2 c=0
theorem qX {s s':aO×List Int}{c:UInt8}{d:Int}(e:IS s)(i:97≤c.toNat∧c.toNat≤122)(h:kZ s c d=some s'):IS s'∧s'.1.length≤s.1.length+1:=by
 unfold kZ at h
 split at h
 ·cases h
 ·cases h
  by_cases q:c∈s.1
  ·simp only [if_pos q]
   refine ⟨⟨by simpa using e.l,e.n,e.c,fun x h1 h2 g=>?_⟩,by omega⟩
   rw [lv e.l i ⟨h1,h2⟩,if_neg (fun z=>g (by rw [z]; exact q))]
   exact e.z x h1 h2 g
  ·simp only [if_neg q]
   refine ⟨⟨by simpa using e.l,?_,?_,fun x h1 h2 g=>?_⟩,by simp⟩
   ·rw [List.nodup_append]
    refine ⟨e.n,by simp,?_⟩
    intro a m b j
    simp at j; subst j
    exact fun z=>q (z▸m)
   ·intro x r
    rcases List.mem_append.1 r with z | z
    ·exact e.c x z
    ·simp at z; rw [z]; exact i
   ·simp at g
    rw [lv e.l i ⟨h1,h2⟩,if_neg g.2]
    exact e.z x h1 h2 g.1
theorem pS {f:aO}{g:UInt8→Int}{p:Nat}(h:p<f.length):ix (f.map g) (p:Int)=g f[p]:=by
 rw [b' (by simpa using h)]; simp
theorem tP {gs:List aO}{dss:List (List Int)}{x j:Nat}{s:aO×List Int}(B:IS s)(J:s.1.length≤100)(Z:j<(ix gs (x:Int)).length)(hl:(ix gs (x:Int)).length=(ix dss (x:Int)).length)(h6:(ix gs (x:Int)).length≤6)(g:97≤(ix (ix gs (x:Int)) (j:Int)).toNat∧(ix (ix gs (x:Int)) (j:Int)).toNat≤122) :
  (∃ s',kZ s (ix (ix gs (x:Int)) (j:Int)) (ix (ix dss (x:Int)) (j:Int))=some s'∧Z2_L2 gs dss (x:Int) s.1 (s.1.map (lk s.2)) (j:Int)=some (.inl (s'.1,s'.1.map (lk s'.2),((j+1:Nat):Int)))) ∨
  (kZ s (ix (ix gs (x:Int)) (j:Int)) (ix (ix dss (x:Int)) (j:Int))=none∧∃ e,Z2_L2 gs dss (x:Int) s.1 (s.1.map (lk s.2)) (j:Int)=some (.inr (.inl e))∧e.2.2=false):=by
 obtain ⟨c,m⟩:∃ c,c=ix (ix gs (x:Int)) (j:Int):=⟨_,rfl⟩
 obtain ⟨d,Y⟩:∃ d,d=ix (ix dss (x:Int)) (j:Int):=⟨_,rfl⟩
 rw [← m] at g ⊢
 rw [← Y]
 have F:=xW (gs:=gs) (k:=x) (i:=j) (f:=s.1) (by unfold cD; omega) Z
 rw [← m] at F
 simp only [Z2_L2]
 rw [if_pos (by simp; omega),F]
 simp only [Option.bind_some]
 have T:∀ (f:aO) (ls:List Int),f.Nodup→c∈f→s.1.idxOf c=f.idxOf c→ls=f.map (lk s.2)→(∀ y∈f,97≤y.toNat∧y.toNat≤122) →
   Z2_J9 dss (x:Int) (j:Int) ((s.1.idxOf c:Nat):Int) f ls=if lk s.2 c≠0∧lk s.2 c≠d then some (.inr (.inl ([],ls,false))) else some (.inl (f,f.map (lk (s.2.set (c.toNat - 97) d)),((j+1:Nat):Int))):=by
  intro f ls hn J hi u r
  have D:f.idxOf c<f.length:=List.idxOf_lt_length_iff.2 J
  have e:ix ls ((f.idxOf c:Nat):Int)=lk s.2 c:=by
   rw [u,pS D]; congr 1; exact List.getElem_idxOf D
  have a0:ls.length=f.length:=by rw [u]; simp
  unfold Z2_J9
  rw [hi,e,← Y,if_pos (by omega),if_pos (fun _=>by omega)]
  by_cases q:lk s.2 c≠0∧lk s.2 c≠d
  ·rw [if_pos q,if_pos (by simpa using q)]
  ·rw [if_neg q,if_neg (by simpa using q),if_pos (by omega),bZ (by unfold cD; omega),Int.toNat_natCast,u,qW hn J (h:=lk (s.2.set (c.toNat - 97) d))]
   ·rw [lv B.l g g,if_pos rfl]
   ·intro y M O
    rw [lv B.l g (r y M),if_neg O]
 have R:∀ f,(if c∈s.1 then s.1 else s.1++[c])=f→(∀ z,z=(if lk s.2 c≠0∧lk s.2 c≠d then some (.inr (.inl ([],f.map (lk s.2),false))) else some (.inl (f,f.map (lk (s.2.set (c.toNat - 97) d)),((j+1:Nat):Int))):Option ((aO×(List Int)×Int)⊕((aO×(List Int)×Bool)⊕(aO×(List Int))))) →
   (∃ s',kZ s c d=some s'∧z=some (.inl (s'.1,s'.1.map (lk s'.2),((j+1:Nat):Int))))∨(kZ s c d=none∧∃ e,z=some (.inr (.inl e))∧e.2.2=false)):=by
  intro f F z G
  unfold kZ
  by_cases q:lk s.2 c≠0∧lk s.2 c≠d
  ·rw [if_pos q] at G ⊢
   exact .inr ⟨rfl,_,G,rfl⟩
  ·rw [if_neg q] at G ⊢
   rw [F]
   exact .inl ⟨_,rfl,G⟩
 unfold Z2_J8
 by_cases q:c∈s.1
 ·have D:s.1.idxOf c<s.1.length:=List.idxOf_lt_length_iff.2 q
  rw [if_neg (by simp; omega),T s.1 _ B.n q rfl rfl B.c]
  exact R s.1 (if_pos q) _ rfl
 ·have D:s.1.idxOf c=s.1.length:=by
   have:¬ s.1.idxOf c<s.1.length:=fun z=>q (List.idxOf_lt_length_iff.1 z)
   have:s.1.idxOf c≤s.1.length:=List.idxOf_le_length
   omega
  have I:(s.1++[c]).idxOf c=s.1.length:=by
   rw [List.idxOf_append,if_neg q]; simp
  have L:(s.1++[c]).Nodup:=by
   rw [List.nodup_append]
   refine ⟨B.n,by simp,?_⟩
   intro a ha b U
   simp at U; subst U
   exact fun z=>q (z▸ha)
  have r:∀ y∈s.1++[c],97≤y.toNat∧y.toNat≤122:=by
   intro y M
   rcases List.mem_append.1 M with z | z
   ·exact B.c y z
   ·simp at z; rw [z]; exact g
  have E:s.1.map (lk s.2)++[0]=(s.1++[c]).map (lk s.2):=by
   rw [List.map_append]; simp [B.z c g.1 g.2 q]
  rw [if_pos (by rw [D]; simp),bZ (by unfold cD; omega),if_pos (by omega),qV Z,← m,if_pos (by simp; omega),if_pos (by simp; omega),T (s.1++[c]) _ L (by simp) (by rw [D,I]) E r,E]
  exact R _ (if_neg q) _ rfl
theorem xX {gs:List aO}{dss:List (List Int)}{x:Nat}(l:LT (ix gs (x:Int))){m:Nat}(G:m≤90){s:aO×List Int}(h1:s.1.length≤m)(E:IS s)(u:(ix gs (x:Int)).length=(ix dss (x:Int)).length) :
  (∃ s',lu (ix gs (x:Int)) (ix dss (x:Int)) s=some s'∧aR (fun s:aO×List Int×Int=>Z2_L2 gs dss (x:Int) s.1 s.2.1 s.2.2) (s.1,s.1.map (lk s.2),0)=some (.inr (s'.1,s'.1.map (lk s'.2)))∧s'.1.length≤m+6∧IS s') ∨
  (lu (ix gs (x:Int)) (ix dss (x:Int)) s=none∧∃ e,aR (fun s:aO×List Int×Int=>Z2_L2 gs dss (x:Int) s.1 s.2.1 s.2.2) (s.1,s.1.map (lk s.2),0)=some (.inl e)∧e.2.2=false):=by
 unfold lu
 rw [if_pos u]
 have D:=l.1
 rcases jf (f:=fun s:aO×List Int×Int=>Z2_L2 gs dss (x:Int) s.1 s.2.1 s.2.2) (fun s k=>kZ s (ix (ix gs (x:Int)) (k:Int)) (ix (ix dss (x:Int)) (k:Int))) (fun s i=>(s.1,s.1.map (lk s.2),i)) (fun s=>(s.1,s.1.map (lk s.2))) (fun e=>e.2.2=false) (fun j s=>s.1.length≤m+j∧IS s) (ix gs (x:Int)).length
  (fun j s r g=>by
   have h:=l.2 _ (bF r)
   rcases tP g.2 (by have:=g.1; omega) r u D h with ⟨s',a,b⟩ | q
   ·obtain ⟨B,F⟩:=qX g.2 h a
    exact .inl ⟨s',a,b,by have:=g.1; omega,B⟩
   ·exact .inr q)
  (fun s g=>by
   simp only [Z2_L2]
   rw [if_neg (by simp)])
  (s:=s) ⟨by omega,E⟩ with ⟨s',a,b,a3,a4⟩|⟨a,e,b,a3⟩
 ·exact .inl ⟨s',a,b,by omega,a4⟩
 ·exact .inr ⟨a,e,b,a3⟩
theorem tQ {gs:List aO}{dss:List (List Int)}(E:gs.length≤6)(l:∀ g∈gs,LT g)(D:gs.length=dss.length){s:aO×List Int}(h1:s.1.length≤6)(r:IS s) :
  (∃ s',na gs dss s=some s'∧aR (fun s:aO×List Int×Int=>Z2_L1 gs dss s.1 s.2.1 s.2.2) (s.1,s.1.map (lk s.2),0)=some (.inr (s'.1,s'.1.map (lk s'.2)))∧s'.1.length≤42∧IS s') ∨
  (na gs dss s=none∧∃ e,aR (fun s:aO×List Int×Int=>Z2_L1 gs dss s.1 s.2.1 s.2.2) (s.1,s.1.map (lk s.2),0)=some (.inl e)∧e.2.2=false):=by
 unfold na
 rcases jf (f:=fun s:aO×List Int×Int=>Z2_L1 gs dss s.1 s.2.1 s.2.2) (fun s k=>lu (ix gs (k:Int)) (ix dss (k:Int)) s) (fun s i=>(s.1,s.1.map (lk s.2),i)) (fun s=>(s.1,s.1.map (lk s.2))) (fun e=>e.2.2=false) (fun j s=>s.1.length≤6+6*j∧IS s) gs.length
  (fun j s q h=>by
   obtain ⟨u,B⟩:=h
   simp only [Z2_L1]
   rw [if_pos (by simp; omega),if_pos (by omega),if_pos (by omega)]
   by_cases c:(ix gs (j:Int)).length=(ix dss (j:Int)).length
   ·rw [if_neg (by simp; omega)]
    rcases xX (m:=6+6*j) (l _ (bF q)) (by omega) u B c with ⟨s',a,b,a3,a4⟩|⟨a,e,b,a3⟩
    ·rw [b]
     refine .inl ⟨s',a,?_,by omega,a4⟩
     simp only [Option.bind_some,Z2_J10]
     rw [bZ (by unfold cD; omega)]
    ·rw [b]
     exact .inr ⟨a,e,rfl,a3⟩
   ·rw [if_pos (by simp; omega)]
    refine .inr ⟨by unfold lu; rw [if_neg c],_,rfl,rfl⟩)
  (fun s h=>by
   simp only [Z2_L1]
   rw [if_neg (by simp)])
  (s:=s) ⟨by omega,r⟩ with ⟨s',a,b,a3,a4⟩|⟨a,e,b,a3⟩
 ·exact .inl ⟨s',a,b,by omega,a4⟩
 ·exact .inr ⟨a,e,b,a3⟩
theorem nX {S:Type}{st:S→Nat→Option S}(I:Nat→S→Prop){s:S}(a:I 0 s):∀ (n:Nat),(∀ j s s',j<n→I j s→st s j=some s'→I (j+1) s')→∀ {s':S},pR st n s=some s'→I n s'
 | 0,_,s',h=>by cases h; exact a
 | n+1,hs,s',h=>by
  rw [pR] at h
  obtain ⟨m,h1,h2⟩:=bd h
  exact hs n m s' (by omega) (nX I a n (fun j s s' b=>hs j s s' (by omega)) h1) h2
structure Ext (s s':aO×List Int):Prop where
 i:IS s'
 p:∃ t,s'.1=s.1++t
 k:∀ c:UInt8,97≤c.toNat→c.toNat≤122→lk s.2 c≠0→lk s'.2 c=lk s.2 c
theorem Ext.rfl_ {s:aO×List Int}(h:IS s):Ext s s:=⟨h,⟨[],by simp⟩,fun _ _ _ _=>rfl⟩
theorem Ext.trans {a b c:aO×List Int}(h1:Ext a b)(h2:Ext b c):Ext a c:=by
 obtain ⟨t,e⟩:=h1.p
 obtain ⟨u,g⟩:=h2.p
 refine ⟨h2.i,⟨t++u,by rw [g,e,List.append_assoc]⟩,fun x a b h=>?_⟩
 have:=h1.k x a b h
 rw [h2.k x a b (by rw [this]; exact h),this]
theorem tR {s s':aO×List Int}{c:UInt8}{d:Int}(j:IS s)(g:97≤c.toNat∧c.toNat≤122)(h:kZ s c d=some s'):Ext s s'∧c∈s'.1∧lk s'.2 c=d∧∀ x∈s'.1,x∈s.1∨x=c:=by
 have u:=(qX j g h).1
 unfold kZ at h
 split at h
 ·cases h
 ·rename_i q
  cases h
  refine ⟨⟨u,?_,fun x a b r=>?_⟩,?_,?_,?_⟩
  ·by_cases m:c∈s.1
   ·exact ⟨[],by simp [m]⟩
   ·exact ⟨[c],by simp [m]⟩
  ·show lk (s.2.set _ _) x=_
   rw [lv j.l g ⟨a,b⟩]
   by_cases e:x=c
   ·subst e
    rw [if_pos rfl]
    exact Classical.byContradiction fun z=>q ⟨r,fun w=>z w.symm⟩
   ·rw [if_neg e]
  ·by_cases m:c∈s.1<;>simp [m]
  ·show lk (s.2.set _ _) c=_
   rw [lv j.l g g,if_pos rfl]
  ·intro x i
   by_cases m:c∈s.1
   ·simp only [if_pos m] at i; exact .inl i
   ·simp only [if_neg m] at i; simpa using i
theorem tS {g:aO}{ds:List Int}{s s':aO×List Int}(M:IS s)(E:LT g)(J:∀ d∈ds,d≠0)(h:lu g ds s=some s') :
  Ext s s'∧g.length=ds.length∧(∀ j:Nat,j<g.length→ix g (j:Int)∈s'.1∧lk s'.2 (ix g (j:Int))=ix ds (j:Int))∧∀ x∈s'.1,x∈s.1∨x∈g:=by
 unfold lu at h
 split at h
 ·rename_i L
  obtain ⟨a,b,c⟩:=nX (fun n z=>Ext s z∧(∀ j:Nat,j<n→ix g (j:Int)∈z.1∧lk z.2 (ix g (j:Int))=ix ds (j:Int))∧∀ x∈z.1,x∈s.1∨x∈g) ⟨Ext.rfl_ M,fun j F=>absurd F (Nat.not_lt_zero _),fun x B=>.inl B⟩ g.length
   (fun n z U G I T=>by
    obtain ⟨a,b,c⟩:=I
    obtain ⟨p,q,r,t⟩:=tR a.i (E.2 _ (bF G)) T
    refine ⟨a.trans p,fun j F=>?_,fun x B=>?_⟩
    ·by_cases e:j=n
     ·subst e; exact ⟨q,r⟩
     ·obtain ⟨m,l⟩:=b j (by omega)
      obtain ⟨u,O⟩:=p.p
      have D:=E.2 _ (bF (show j<g.length by omega))
      refine ⟨by rw [O]; exact List.mem_append_left _ m,?_⟩
      rw [p.k _ D.1 D.2 (by rw [l]; exact J _ (bF (by omega))),l]
    ·rcases t x B with y | y
     ·exact c x y
     ·rw [y]; exact .inr (bF G)) h
  exact ⟨a,L,b,c⟩
 ·cases h
theorem tT {gs:List aO}{dss:List (List Int)}{s s':aO×List Int}(M:IS s)(U:gs.length=dss.length)(G:∀ g∈gs,LT g)(F:∀ ds∈dss,∀ d∈ds,d≠0)(h:na gs dss s=some s') :
  Ext s s'∧(∀ x:Nat,x<gs.length→(ix gs (x:Int)).length=(ix dss (x:Int)).length∧∀ j:Nat,j<(ix gs (x:Int)).length→ix (ix gs (x:Int)) (j:Int)∈s'.1∧lk s'.2 (ix (ix gs (x:Int)) (j:Int))=ix (ix dss (x:Int)) (j:Int))∧∀ y∈s'.1,y∈s.1∨∃ g∈gs,y∈g:=by
 unfold na at h
 exact nX (fun n z=>Ext s z∧(∀ x:Nat,x<n→(ix gs (x:Int)).length=(ix dss (x:Int)).length∧∀ j:Nat,j<(ix gs (x:Int)).length→ix (ix gs (x:Int)) (j:Int)∈z.1∧lk z.2 (ix (ix gs (x:Int)) (j:Int))=ix (ix dss (x:Int)) (j:Int))∧∀ y∈z.1,y∈s.1∨∃ g∈gs,y∈g) ⟨Ext.rfl_ M,fun j B=>absurd B (Nat.not_lt_zero _),fun x J=>.inl J⟩ gs.length
  (fun n z Y I L T=>by
   obtain ⟨a,b,c⟩:=L
   have D:=G _ (bF I)
   obtain ⟨p,q,r,t⟩:=tS a.i D (F _ (bF (by omega))) T
   refine ⟨a.trans p,fun x J=>?_,fun y O=>?_⟩
   ·by_cases e:x=n
    ·subst e; exact ⟨q,r⟩
    ·obtain ⟨l,m⟩:=b x (by omega)
     refine ⟨l,fun j B=>?_⟩
     obtain ⟨u,v⟩:=m j B
     obtain ⟨w,hw⟩:=p.p
     have E:=(G _ (bF (show x<gs.length by omega))).2 _ (bF B)
     refine ⟨by rw [hw]; exact List.mem_append_left _ u,?_⟩
     rw [p.k _ E.1 E.2 (by rw [v]; exact F _ (bF (by omega)) _ (bF (by omega))),v]
   ·rcases t y O with w | w
    ·exact c y w
    ·exact .inr ⟨_,bF I,w⟩) h
theorem vq {ds:List Int}{k:Int}(M:ds.length≤100)(h1:∀ d∈ds,1≤d∧d≤4096)(e:0≤k)(h:k≤65536):Zm ds k=some (hH ds k):=by
 have a:∀ j,1≤pr (ds.drop j):=fun j=>fG fun d g=>(h1 d (List.mem_of_mem_drop g)).1
 unfold Zm
 rw [if_pos (by omega)]
 have:=eQ (f:=fun s:Int×List Int×Int=>Zm_L1 ds s.1 s.2.1 s.2.2) (r:=hH ds k)
  (fun j=>(k / pr (ds.drop (ds.length - j)),List.replicate (ds.length - j) 0++hH (ds.drop (ds.length - j)) k,(ds.length:Int) - 1 - j)) ds.length
  (fun j L=>by
   obtain ⟨i,D⟩:∃ i,i=ds.length - (j+1):=⟨_,rfl⟩
   have m:ds.length - j=i+1:=by omega
   have q:(ds.length:Int) - 1 - (j:Int)=(i:Int):=by omega
   have b:i<ds.length:=by omega
   have E:=h1 _ (bF b)
   have F:=a (i+1)
   have g:ds.drop i=ix ds (i:Int)::ds.drop (i+1):=by rw [List.drop_eq_getElem_cons b,b' b]
   have l:0≤k / pr (ds.drop (i+1)):=Int.ediv_nonneg e (by omega)
   have G:k / pr (ds.drop (i+1))≤65536:=Int.le_trans (Int.ediv_le_self _ e) h
   simp only [Zm_L1,m,q,← D]
   rw [if_pos (by simp),if_pos (by omega),if_pos (by omega),if_pos (by simp; omega)]
   have u:(k / pr (ds.drop (i+1))).tdiv (ix ds (i:Int))=k / pr (ds.drop i):=by
    rw [Int.tdiv_eq_ediv_of_nonneg l,g]; exact (t8 F E.1).1.symm
   have B:(k / pr (ds.drop (i+1))).tmod (ix ds (i:Int))=k / pr (ds.drop (i+1)) % ix ds (i:Int):=Int.tmod_eq_emod_of_nonneg l
   have I:0≤k / pr (ds.drop i):=Int.ediv_nonneg e (by have:=a i; omega)
   have J:k / pr (ds.drop i)≤65536:=Int.le_trans (Int.ediv_le_self _ e) h
   rw [u,B,aW (by omega) (by omega),aW (by omega) (by omega)]
   congr 4
   ·rw [g,List.set_append_left _ _ (by simp),List.replicate_succ',List.set_append_right _ _ (by simp)]
    simp [hH]
   ·omega)
  (by
   simp only [Zm_L1,Nat.sub_self,List.drop_zero,List.replicate_zero,List.nil_append]
   rw [if_neg (by simp; omega)])
  (s:=(k,List.replicate (ds.length:Int).toNat 0,aH ((ds.length:Int) - 1))) (by
   rw [aW (by omega) (by omega)]
   simp [pr,hH])
 rw [this]
 rfl
def wk (ls:List Int)(s:Int)(j:Nat):Option Int:=if s*ix ls (j:Int)>65536 then none else some (s*ix ls (j:Int))
theorem qY {ls:List Int}{j:Nat}(h:j<ls.length):pr (ls.take (j+1))=pr (ls.take j)*ix ls (j:Int):=by
 rw [List.take_succ_eq_append_getElem h,mM,b' h]; simp [pr]
theorem BW {ls:List Int}(h:∀ d∈ls,1≤d):∀ n,n≤ls.length→pR (wk ls) n 1=if pr (ls.take n)≤65536 then some (pr (ls.take n)) else none
 | 0,_=>by simp [pR,pr]
 | n+1,hn=>by
  have i:1≤pr (ls.take n):=fG fun d g=>h d (List.mem_of_mem_take g)
  have g:=h _ (bF (show n<ls.length by omega))
  rw [pR,BW h n (by omega),qY (by omega)]
  by_cases c:pr (ls.take n)≤65536
  ·rw [if_pos c]
   simp only [Option.bind_some,wk]
   by_cases e:pr (ls.take n)*ix ls (n:Int)≤65536
   ·rw [if_neg (by omega),if_pos e]
   ·rw [if_pos (by omega),if_neg e]
  ·rw [if_neg c,if_neg]
   ·rfl
   ·have:=iQ (a:=pr (ls.take n)) (b:=ix ls (n:Int)) (by omega) g
    omega
theorem xY {ls:List Int}(u:ls.length≤100)(h:∀ d∈ls,1≤d∧d≤4096) :
  (pr ls≤65536∧aR (fun s:Int×Int=>Z2_L4 ls s.1 s.2) (1,0)=some (.inr ())) ∨
  (¬ pr ls≤65536∧∃ e,aR (fun s:Int×Int=>Z2_L4 ls s.1 s.2) (1,0)=some (.inl e)∧e.2.2=false):=by
 have g:=BW (fun d m=>(h d m).1) ls.length (Nat.le_refl _)
 rw [List.take_length] at g
 rcases jf (f:=fun s:Int×Int=>Z2_L4 ls s.1 s.2) (wk ls) (fun s i=>(s,i)) (fun _=>()) (fun e=>e.2.2=false) (fun j s=>1≤s∧s≤65536) ls.length
  (fun j s q l=>by
   have r:=h _ (bF q)
   simp only [Z2_L4]
   rw [if_pos (by simp; omega),if_pos (by omega),iF (by omega) (by omega) (by omega) (by omega),bZ (by unfold cD; omega)]
   unfold wk
   by_cases c:s*ix ls (j:Int)>65536
   ·rw [if_pos c,if_pos (decide_eq_true c)]
    exact .inr ⟨rfl,_,rfl,rfl⟩
   ·rw [if_neg c,if_neg (by simpa using c)]
    have:=iQ (a:=s) (b:=ix ls (j:Int)) (by omega) r.1
    exact .inl ⟨_,rfl,rfl,by omega,by omega⟩)
  (fun s l=>by simp only [Z2_L4]; rw [if_neg (by simp)])
  (s:=1) ⟨by omega,by omega⟩ with ⟨s',a1,a2,a3⟩|⟨a1,e,a2,a3⟩
 ·rw [g] at a1
  refine .inl ⟨?_,a2⟩
  split at a1
  ·assumption
  ·cases a1
 ·rw [g] at a1
  refine .inr ⟨?_,e,a2,a3⟩
  split at a1
  ·cases a1
  ·assumption
theorem xZ {f:aO}{lens:List Int}(I:f.length≤100)(D:∀ c∈f,97≤c.toNat∧c.toNat≤122)(h:∀ d∈f.map (lk lens),1≤d∧d≤4096) :
  (pr (f.map (lk lens))≤65536∧aR (fun s:List Int×Int×Int=>Z3_L3 f lens s.1 s.2.1 s.2.2) ([],1,0)=some (.inr (f.map (lk lens)))) ∨
  (¬ pr (f.map (lk lens))≤65536∧∃ e,aR (fun s:List Int×Int×Int=>Z3_L3 f lens s.1 s.2.1 s.2.2) ([],1,0)=some (.inl e)∧e.2=false):=by
 obtain ⟨ls,g⟩:∃ ls,ls=f.map (lk lens):=⟨_,rfl⟩
 rw [← g] at h ⊢
 have E:ls.length=f.length:=by rw [g]; simp
 have q:=BW (fun d B=>(h d B).1) ls.length (Nat.le_refl _)
 rw [List.take_length] at q
 rcases jf (f:=fun s:List Int×Int×Int=>Z3_L3 f lens s.1 s.2.1 s.2.2) (wk ls) (fun s i=>(ls.take i.toNat,s,i)) (fun _=>ls) (fun e=>e.2=false) (fun j s=>1≤s∧s≤65536) ls.length
  (fun j s m r=>by
   have F:=h _ (bF m)
   have u:=D _ (bF (show j<f.length by omega))
   have G:ix lens (((ix f (j:Int)).toNat:Int) - 97)=ix ls (j:Int):=by
    rw [g,pS (by omega),b' (xs:=f) (by omega)]; rfl
   have l:bt f (j:Int)=((ix f (j:Int)).toNat:Int):=rfl
   simp only [Z3_L3]
   rw [if_pos (by simp; omega),if_pos (by omega),l,tN u,if_pos (by omega),G,if_pos (by simp; omega),iF (by omega) (by omega) (by omega) (by omega),bZ (by unfold cD; omega)]
   unfold wk
   by_cases c:s*ix ls (j:Int)>65536
   ·rw [if_pos c,if_pos (decide_eq_true c)]
    exact .inr ⟨rfl,_,rfl,rfl⟩
   ·rw [if_neg c,if_neg (by simpa using c)]
    have:=iQ (a:=s) (b:=ix ls (j:Int)) (by omega) F.1
    refine .inl ⟨_,rfl,?_,by omega,by omega⟩
    rw [Int.toNat_natCast,Int.toNat_natCast,List.take_succ_eq_append_getElem m,b' m])
  (fun s r=>by simp only [Z3_L3]; rw [if_neg (by simp; omega)]; simp)
  (s:=1) ⟨by omega,by omega⟩ with ⟨s',a1,a2,a3⟩|⟨a1,e,a2,a3⟩
 ·rw [q] at a1
  refine .inl ⟨?_,a2⟩
  split at a1
  ·assumption
  ·cases a1
 ·rw [q] at a1
  refine .inr ⟨?_,e,a2,a3⟩
  split at a1
  ·cases a1
  ·assumption
theorem nv {f:form}{g:aO}{p:List Int}(e:f.order.length≤100)(h:g.length≤p.length)(q:p.length≤100):∃ r,Zn f g p=some r:=by
 unfold Zn
 rw [if_pos (by omega)]
 obtain ⟨r,h1,h2⟩:=gX (f:=fun s:List Int×Int=>Zn_L1 f g p s.1 s.2) (fun j s=>s.1.length=f.order.length∧s.2=(j:Int)) f.order.length (Post:=fun _=>True)
  (fun j s l a=>by
   obtain ⟨x,i⟩:=s
   obtain ⟨h1,rfl⟩:=a
   dsimp only at h1
   simp only [Zn_L1]
   rw [if_pos (by simp; omega)]
   obtain ⟨r,g1,b⟩:=gX (f:=fun s:List Int×Int=>Zn_L2 f g p (j:Int) s.1 s.2) (fun k s=>s.1.length=f.order.length∧s.2=(k:Int)) g.length (Post:=fun r=>r.length=f.order.length)
    (fun k s m a=>by
     obtain ⟨x,i⟩:=s
     obtain ⟨h1,rfl⟩:=a
     dsimp only at h1
     simp only [Zn_L2,Zn_J5]
     rw [if_pos (by simp; omega),if_pos (by omega),if_pos (by omega)]
     split
     ·rw [if_pos (by simp; omega),if_pos (by omega)]
      exact ⟨_,rfl,by simpa using h1,by rw [bZ (by unfold cD; omega)]⟩
     ·exact ⟨_,rfl,h1,by rw [bZ (by unfold cD; omega)]⟩)
    (fun s a=>by
     obtain ⟨x,i⟩:=s
     obtain ⟨h1,rfl⟩:=a
     simp only [Zn_L2]
     rw [if_neg (by simp)]
     exact ⟨_,rfl,h1⟩)
    (s:=(x,0)) ⟨h1,rfl⟩
   rw [g1]
   exact ⟨_,rfl,b,by rw [bZ (by unfold cD; omega)]⟩)
  (fun s a=>by
   obtain ⟨x,i⟩:=s
   obtain ⟨h1,rfl⟩:=a
   simp only [Zn_L1]
   rw [if_neg (by simp)]
   exact ⟨_,rfl,trivial⟩)
  (s:=(List.replicate (f.order.length:Int).toNat 0,0)) ⟨by simp,rfl⟩
 rw [h1]
 exact ⟨r,rfl⟩
def oU (gs:List aO)(o:aO)(dss:List (List Int))(s:aO×List Int):Prop:=na gs dss (o,List.replicate 26 0)=some s∧pr (s.1.map (lk s.2))≤65536
theorem pT {o:aO}(b:o.Nodup)(a:∀ c∈o,97≤c.toNat∧c.toNat≤122):IS (o,List.replicate 26 0):=by
 refine ⟨rfl,b,a,fun c h1 h2 _=>?_⟩
 unfold lk
 have e:((c.toNat:Int) - 97)=((c.toNat - 97:Nat):Int):=by omega
 rw [e,b' (by rw [List.length_replicate]; omega)]
 exact List.getElem_replicate _
theorem vr {o:aO}(g:∀ c∈o,97≤c.toNat∧c.toNat≤122):List.replicate (o.length:Int).toNat (0:Int)=o.map (lk (List.replicate 26 0)):=by
 rw [Int.toNat_natCast]
 symm
 rw [List.eq_replicate_iff]
 refine ⟨by simp,fun b a=>?_⟩
 obtain ⟨c,h,rfl⟩:=List.mem_map.1 a
 obtain ⟨h1,h2⟩:=g c h
 unfold lk
 have e:((c.toNat:Int) - 97)=((c.toNat - 97:Nat):Int):=by omega
 rw [e,b' (by rw [List.length_replicate]; omega)]
 exact List.getElem_replicate _
theorem mT {gs:List aO}{o:aO}(h:∀ i∈List.range o.length,OL gs o i):o.Nodup:=by
 refine List.pairwise_iff_getElem.2 fun i j g a b e=>?_
 have:=(h j (List.mem_range.2 a)).2
 rw [b' a] at this
 refine this ?_
 rw [← e,List.mem_take_iff_getElem]
 exact ⟨i,by omega,rfl⟩
structure Laid (gs:List aO)(o:aO)(dss:List (List Int))(s:aO×List Int):Prop where
 i:IS s
 l:s.1.length≤42
 p:∃ t,s.1=o++t
 g:∀ x:Nat,x<gs.length→(ix gs (x:Int)).length=(ix dss (x:Int)).length∧∀ j:Nat,j<(ix gs (x:Int)).length→ix (ix gs (x:Int)) (j:Int)∈s.1∧lk s.2 (ix (ix gs (x:Int)) (j:Int))=ix (ix dss (x:Int)) (j:Int)
 d:∀ d∈s.1.map (lk s.2),1≤d∧d≤4096
theorem nY {gs:List aO}{o:aO}{dss:List (List Int)}{s:aO×List Int}(hp:PO gs o)(L:gs.length=dss.length)(I:∀ ds∈dss,eK ds)(h:na gs dss (o,List.replicate 26 0)=some s):Laid gs o dss s:=by
 obtain ⟨p1,T,U,Y⟩:=hp
 have M:=pT (mT Y) T.2
 obtain ⟨a,b,c⟩:=tT M L U (fun ds E d B=>by have:=(I ds E).2.1 d B; omega) h
 have m:s.1.length≤42:=by
  rcases tQ p1 U L (s:=(o,List.replicate 26 0)) T.1 M with ⟨s',r,_,q3,_⟩|⟨r,_⟩
  ·rw [h] at r; cases r; exact q3
  ·rw [h] at r; cases r
 refine ⟨a.i,m,a.p,b,fun d D=>?_⟩
 obtain ⟨y,hy,rfl⟩:=List.mem_map.1 D
 have:∃ g∈gs,y∈g:=by
  rcases c y hy with q | q
  ·obtain ⟨k,J,e⟩:=List.getElem_of_mem q
   have:=(Y k (List.mem_range.2 J)).1
   rw [b' J,e] at this
   exact this
  ·exact q
 obtain ⟨g,Z,G⟩:=this
 obtain ⟨x,O,rfl⟩:=List.getElem_of_mem Z
 obtain ⟨j,F,rfl⟩:=List.getElem_of_mem G
 have u:=b x O
 rw [b' O] at u
 have l:=(u.2 j F).2
 rw [b' F] at l
 rw [l]
 exact (I _ (bF (show x<dss.length by omega))).2.mem (bF (by rw [← u.1]; exact F))
theorem rG {gs:List aO}{o:aO}{dss:List (List Int)}(B:PO gs o)(l:gs.length=dss.length)(u:∀ ds∈dss,eK ds) :
  (∃ s,oU gs o dss s∧Z2 gs o dss=some (s.1,s.1.map (lk s.2),true))∨((∀ s,¬ oU gs o dss s)∧∃ e,Z2 gs o dss=some e∧e.2.2=false):=by
 obtain ⟨p1,g,m,q⟩:=B
 have D:=pT (mT q) g.2
 have F:=g.1
 unfold Z2
 rw [if_pos (by omega),vr g.2]
 rcases tQ p1 m l (s:=(o,List.replicate 26 0)) g.1 D with ⟨s,a,b,a3,a4⟩|⟨a,e,b,a3⟩
 ·have r:=nY ⟨p1,g,m,q⟩ l u a
  simp only at b
  rw [b]
  simp only [Option.bind_some,Z2_J11]
  rcases xY (ls:=s.1.map (lk s.2)) (by simp; omega) r.d with ⟨i,j⟩|⟨i,e,j,E⟩
  ·rw [j]
   exact .inl ⟨s,⟨a,i⟩,rfl⟩
  ·rw [j]
   refine .inr ⟨fun s' h=>?_,e,rfl,E⟩
   have:=h.1
   rw [a] at this; cases this
   exact i h.2
 ·simp only at b
  rw [b]
  refine .inr ⟨fun s' h=>?_,e,rfl,a3⟩
  have:=h.1
  rw [a] at this; cases this
theorem tU {f:aO}{dss:List (List Int)}(hb:f.length≤1048576)(U:∀ ds∈dss,eK ds) :
  ((parts f).2.2=true∧(parts f).1.length=dss.length∧∃ s,oU (parts f).1 (parts f).2.1 dss s∧eK ((s.1.map (lk s.2)).take (parts f).2.1.length)∧∃ r,Z3 f dss=some (r,true)∧r.dims=(s.1.map (lk s.2)).take (parts f).2.1.length) ∨
  (¬ ((parts f).2.2=true∧(parts f).1.length=dss.length∧∃ s,oU (parts f).1 (parts f).2.1 dss s∧eK ((s.1.map (lk s.2)).take (parts f).2.1.length))∧∃ r,Z3 f dss=some (r,false)):=by
 obtain ⟨b,D⟩:∃ b,b=parts f:=⟨_,rfl⟩
 have I:b.2.2=true→PO b.1 b.2.1:=by
  rw [D]; unfold parts
  split
  ·intro h; cases h
  ·split
   ·intro _; assumption
   ·intro h; cases h
 unfold Z3
 rw [vo hb,← D]
 simp only [Option.bind_some]
 by_cases a:b.2.2=true∧b.1.length=dss.length
 ·obtain ⟨a,E⟩:=a
  rw [if_neg (by simp [a,E])]
  have hP:=I a
  obtain ⟨p1,L,M,p4⟩:=hP
  have hs:=pT (mT p4) L.2
  rcases xV (gs:=b.1) (b:=b) (dss:=dss) rfl p1 M E (s:=(b.2.1,List.replicate 26 0)) L.1 rfl with ⟨s,u,B,a3,a4⟩|⟨u,e,B,a3⟩
  ·have m:=nY ⟨p1,L,M,p4⟩ E U u
   simp only at B
   rw [B]
   simp only [Option.bind_some,Z3_J7]
   rcases xZ (f:=s.1) (lens:=s.2) (by omega) m.i.c m.d with ⟨O,T⟩|⟨O,e,T,w3⟩
   ·rw [T]
    simp only [Option.bind_some,Z3_J8]
    obtain ⟨t,ht⟩:=m.p
    have a5:b.2.1.length≤(s.1.map (lk s.2)).length:=by rw [ht]; simp
    have a0:(s.1.map (lk s.2)).length≤42:=by simpa using m.l
    rw [if_pos (by omega),kT,hM (by simp; omega)]
    simp only [Option.bind_some]
    rw [hG (by simp only [List.length_take]; unfold cD; omega)]
    simp only [Option.bind_some]
    by_cases c3:eK ((s.1.map (lk s.2)).take b.2.1.length)
    ·rw [decide_eq_true c3,if_neg (by simp)]
     refine .inl ⟨a,E,s,⟨u,O⟩,c3,?_⟩
     obtain ⟨r,h1,_⟩:=gX (f:=fun z:List (List Int)×Int=>Z3_L4 dss b s.1 (s.1.map (lk s.2)) ((s.1.map (lk s.2)).take b.2.1.length) z.1 z.2) (fun j z=>z.1.length=j∧z.2=(j:Int)) b.1.length (Post:=fun _=>True)
      (fun j z Z F=>by
       obtain ⟨x,i⟩:=z
       obtain ⟨h1,rfl⟩:=F
       dsimp only at h1
       simp only [Z3_L4]
       have G:=U _ (bF (show j<dss.length by omega))
       rw [if_pos (by simp; omega),if_pos (by omega),if_pos (by omega),nL G]
       simp only [Option.bind_some]
       have a6:=(m.g j Z).1
       have Y:=(M _ (bF Z)).1
       obtain ⟨q,J⟩:=nv (f:=(⟨b.1,b.2.1,s.1,s.1.map (lk s.2),(s.1.map (lk s.2)).take b.2.1.length,x,[]⟩:form)) (g:=ix b.1 (j:Int)) (p:=eR (ix dss (j:Int))) (by have:=m.l; show s.1.length≤100; omega) (by rw [dM]; omega) (by rw [dM]; omega)
       rw [J]
       simp only [Option.bind_some]
       rw [if_pos (by simp; omega),bZ (by unfold cD; omega)]
       exact ⟨_,rfl,by simp; omega,rfl⟩)
      (fun z F=>by
       obtain ⟨x,i⟩:=z
       obtain ⟨h1,rfl⟩:=F
       simp only [Z3_L4]
       rw [if_neg (by simp)]
       exact ⟨_,rfl,trivial⟩)
      (s:=([],0)) ⟨rfl,rfl⟩
     rw [h1]
     simp only [Option.bind_some,Z3_J9]
     rw [nL c3]
     simp only [Option.bind_some]
     obtain ⟨q,J⟩:=nv (f:=(⟨b.1,b.2.1,s.1,s.1.map (lk s.2),(s.1.map (lk s.2)).take b.2.1.length,r,[]⟩:form)) (g:=b.2.1) (p:=eR ((s.1.map (lk s.2)).take b.2.1.length)) (by have:=m.l; show s.1.length≤100; omega) (by rw [dM]; simp only [List.length_take]; omega) (by rw [dM]; simp only [List.length_take]; omega)
     rw [J]
     exact ⟨_,rfl,rfl⟩
    ·rw [decide_eq_false c3,if_pos (by simp)]
     refine .inr ⟨?_,_,rfl⟩
     rintro ⟨_,_,s',h1,h2⟩
     have:=h1.1
     rw [u] at this; cases this
     exact c3 h2
   ·rw [T]
    obtain ⟨e1,e2⟩:=e
    simp only at w3; subst w3
    refine .inr ⟨?_,_,rfl⟩
    rintro ⟨_,_,s',h1,h2⟩
    have:=h1.1
    rw [u] at this; cases this
    exact O h1.2
  ·simp only at B
   rw [B]
   obtain ⟨e1,e2⟩:=e
   simp only at a3; subst a3
   refine .inr ⟨?_,_,rfl⟩
   rintro ⟨_,_,s',h1,h2⟩
   have:=h1.1
   rw [u] at this; cases this
 ·rw [if_pos]
  ·exact .inr ⟨fun z=>a ⟨z.1,z.2.1⟩,_,rfl⟩
  ·cases q:b.2.2
   ·rfl
   ·have:b.1.length≠dss.length:=fun z=>a ⟨q,z⟩
    simp; omega
theorem tV {g f:aO}{vs:List Int}(L:g.length≤6)(J:f.length≤42)(M:vs.length=f.length)(I:f.Nodup)(G:∀ c∈g,c∈f):Zh g f vs=some (g.map fun c=>ix vs ((f.idxOf c:Nat):Int)):=by
 unfold Zh
 rw [eQ (f:=fun s:List Int×Int=>Zh_L1 g f vs s.1 s.2) (r:=g.map fun c=>ix vs ((f.idxOf c:Nat):Int)) (fun i=>((g.take i).map fun c=>ix vs ((f.idxOf c:Nat):Int),(i:Int))) g.length
  (fun i B=>by
   obtain ⟨c,l⟩:∃ c,c=g[i]:=⟨_,rfl⟩
   have m:ix g (i:Int)=c:=by rw [b' B,l]
   have u:c∈f:=G c (by rw [l]; exact List.getElem_mem B)
   have E:f.idxOf c<f.length:=List.idxOf_lt_length_iff.2 u
   obtain ⟨h,b⟩:∃ h,h=(g.take i).map fun c=>ix vs ((f.idxOf c:Nat):Int):=⟨_,rfl⟩
   have F:h.length≤6:=by rw [b]; simp; omega
   simp only [Zh_L1]
   rw [if_pos (by simp; omega),← b]
   rw [eQ (f:=fun s:List Int×Int=>Zh_L2 g f vs (i:Int) s.1 s.2) (r:=h++[ix vs ((f.idxOf c:Nat):Int)]) (fun k=>(h++(if f.idxOf c<k then [ix vs ((f.idxOf c:Nat):Int)] else []),(k:Int))) f.length
    (fun k D=>by
     have j:(bt f (k:Int)==bt g (i:Int))=decide (f[k]=c):=by
      rw [show bt f (k:Int)=((ix f (k:Int)).toNat:Int) from rfl,show bt g (i:Int)=((ix g (i:Int)).toNat:Int) from rfl,kW,m,b' D]
     have a:f[k]=c↔f.idxOf c=k:=by
      constructor
      ·intro e
       rw [← e]
       exact I.idxOf_getElem k D
      ·intro e; subst e; exact List.getElem_idxOf E
     simp only [Zh_L2,Zh_J5]
     rw [if_pos (by simp; omega),if_pos (by omega),if_pos (by omega),j,bZ (by unfold cD; omega)]
     by_cases q:f.idxOf c=k
     ·rw [if_pos (decide_eq_true (a.2 q)),if_pos (by omega),if_neg (show ¬ f.idxOf c<k by omega),if_pos (show f.idxOf c<k+1 by omega),List.append_nil,if_pos (by simp; omega),q]
     ·rw [if_neg (by simpa using fun z=>q (a.1 z))]
      by_cases r:f.idxOf c<k
      ·rw [if_pos r,if_pos (by omega)]
      ·rw [if_neg r,if_neg (by omega)])
    (by simp only [Zh_L2]; rw [if_neg (by simp),if_pos E])
    (s:=(h,0)) (by simp)]
   simp only [Option.bind_some,Zh_J6]
   rw [bZ (by unfold cD; omega),List.take_succ_eq_append_getElem B,List.map_append,← b,← l]
   rfl)
  (by simp only [Zh_L1]; rw [if_neg (by simp),List.take_length])
  (s:=([],0)) rfl]
 rfl
theorem Ar {ds is:List Int}(h:IV ds is){j:Nat}(a:j<ds.length):0≤ix is (j:Int)∧ix is (j:Int)<ix ds (j:Int):=by
 induction ds generalizing is j with
 | nil=>simp at a
 | cons d ds ih=>cases is with
  | nil=>exact h.elim
  | cons i is =>
   cases j with
   | zero=>simpa [ix] using h.1
   | succ j =>
    have:=ih h.2 (j:=j) (by simpa using a)
    simpa [ix] using this
theorem As {ds is:List Int}(a:is.length=ds.length)(h:∀ j:Nat,j<ds.length→0≤ix is (j:Int)∧ix is (j:Int)<ix ds (j:Int)):IV ds is:=by
 induction ds generalizing is with
 | nil=>cases is with
  | nil=>trivial
  | cons=>simp at a
 | cons d ds ih=>cases is with
  | nil=>simp at a
  | cons i is =>
   refine ⟨by simpa [ix] using h 0 (by simp),ih (by simpa using a) fun j b=>?_⟩
   have:=h (j+1) (by simpa using b)
   simpa [ix] using this
theorem mU {ls:List Int}(h:∀ d∈ls,1≤d)(k:Nat):1≤pr (ls.take k)∧pr (ls.take k)≤pr ls:=by
 have h2:1≤pr (ls.drop k):=fG fun d a=>h d (List.mem_of_mem_drop a)
 have b:1≤pr (ls.take k):=fG fun d a=>h d (List.mem_of_mem_take a)
 exact ⟨b,by rw [gO ls k]; exact iQ (by omega) h2⟩
def tW (f:aO)(dss:List (List Int))(s:aO×List Int):Prop:=(parts f).2.2=true∧(parts f).1.length=dss.length∧oU (parts f).1 (parts f).2.1 dss s∧eK ((s.1.map (lk s.2)).take (parts f).2.1.length)
theorem pU {f:aO}{D:List Tensor}(hb:f.length≤1048576)(ht:∀ t∈D,TT t)(hn:D.length≤6) :
  (∃ s,tW f (D.map Tensor.Dims) s∧∃ d,Z5 f D=some ⟨(s.1.map (lk s.2)).take (parts f).2.1.length,d⟩∧TOk ((s.1.map (lk s.2)).take (parts f).2.1.length) d)∨((¬ ∃ s,tW f (D.map Tensor.Dims) s)∧Z5 f D=some ⟨[],[]⟩):=by
 obtain ⟨dss,B⟩:∃ dss,dss=D.map Tensor.Dims:=⟨_,rfl⟩
 have hd:∀ ds∈dss,eK ds:=by
  intro ds h
  rw [B] at h
  obtain ⟨t,h1,rfl⟩:=List.mem_map.1 h
  exact (ht t h1).d
 have ah:dss.length=D.length:=by rw [B]; simp
 rw [← B]
 unfold tW
 obtain ⟨b,Y⟩:∃ b,b=parts f:=⟨_,rfl⟩
 have a8:b.2.2=true→PO b.1 b.2.1:=by
  rw [Y]; unfold parts
  split
  ·intro h; cases h
  ·split
   ·intro _; assumption
   ·intro h; cases h
 unfold Z5
 rw [vm hb,← Y]
 simp only [Option.bind_some]
 by_cases L:b.2.2=true∧b.1.length=dss.length
 ·obtain ⟨L,c2⟩:=L
  rw [if_neg (by simp [L]; omega)]
  have hP:=a8 L
  have a5:=hP
  obtain ⟨p1,p2,p3,p4⟩:=a5
  have L1:aR (fun s:List (List Int)×Int=>Z5_L1 D s.1 s.2) ([],0)=some (Sum.inr dss):=by
   refine eQ (f:=fun s:List (List Int)×Int=>Z5_L1 D s.1 s.2) (fun k=>((D.take k).map Tensor.Dims,(k:Int))) D.length (fun k G=>?_) ?_ rfl
   ·simp only [Z5_L1]
    rw [if_pos (by simp; omega),if_pos (by omega),pI (ht _ (bF G))]
    simp only [Option.bind_some]
    rw [if_neg (by simp),if_pos (by simp; omega),bZ (by unfold cD; omega),List.take_succ_eq_append_getElem G,List.map_append,b' G]
    rfl
   ·simp only [Z5_L1]
    rw [if_neg (by simp),List.take_length,← B]
  rw [L1]
  simp only [Option.bind_some,Z5_J1]
  rcases rG hP c2 hd with ⟨s,h1,h2⟩|⟨h1,e,h2,h3⟩
  ·rw [h2]
   simp only [Option.bind_some]
   have U:=nY hP c2 hd h1.1
   obtain ⟨ls,E⟩:∃ ls,ls=s.1.map (lk s.2):=⟨_,rfl⟩
   have a0:ls.length=s.1.length:=by rw [E]; simp
   have Z:=U.l
   have J:=U.d
   obtain ⟨t,a4⟩:=U.p
   have ae:b.2.1.length≤ls.length:=by rw [a0,a4]; simp
   have a9:=h1.2
   rw [← E] at a9 J ⊢
   have I:∀ d∈ls,1≤d:=fun d h=>(J d h).1
   rw [if_pos (fun _=>by omega)]
   simp only [bL,Bool.not_true,Bool.not_false,cond_true,Bool.false_or]
   rw [kT,gI (by simp only [List.length_take]; unfold cD; omega)]
   simp only [Option.bind_some]
   obtain ⟨a,F⟩:∃ a,a=ls.take b.2.1.length:=⟨_,rfl⟩
   rw [← F]
   by_cases c3:eK a
   ·rw [decide_eq_true c3,if_neg (by simp),if_pos (by omega),kO c3]
    simp only [Option.bind_some]
    refine .inl ⟨s,⟨L,c2,h1,by rw [← E,← F]; exact c3⟩,?_⟩
    rw [← E,← F]
    have L2:aR (fun z:Int×Int=>Z5_L2 (s.1,ls,true) z.1 z.2) (1,0)=some (pr ls):=by
     refine eQ (f:=fun z:Int×Int=>Z5_L2 (s.1,ls,true) z.1 z.2) (fun k=>(pr (ls.take k),(k:Int))) ls.length (fun k G=>?_) ?_ (by simp [pr])
     ·have a1:=mU I k
      have a2:=mU I (k+1)
      have a3:=J _ (bF G)
      simp only [Z5_L2]
      rw [if_pos (by simp; omega),if_pos (by omega),iF (by omega) (by omega) (by omega) (by omega),bZ (by unfold cD; omega),qY G]
     ·simp only [Z5_L2]
      rw [if_neg (by simp),List.take_length]
    rw [L2]
    simp only [Option.bind_some,Z5_J2]
    have ag:=fG I
    have ai:=c3.2.pos
    obtain ⟨r,q1,q2⟩:=kR (f:=fun z:List Int×Int=>Z5_L3 D b (s.1,ls,true) ⟨a,List.replicate (pr a).toNat 0⟩ (pr ls) z.1 z.2) (Post:=fun r=>RG (pr a).toNat r) (pr a).toNat (pr ls).toNat
     (fun j hj x hx=>by
      have aj:(j:Int)<pr ls:=by omega
      simp only [Z5_L3]
      rw [if_pos (by simp; omega),vq (by omega) J (by omega) (by omega)]
      simp only [Option.bind_some]
      have hI:=hJ I (j:Int)
      obtain ⟨vs,aa⟩:∃ vs,vs=hH ls (j:Int):=⟨_,rfl⟩
      rw [← aa] at hI ⊢
      have al:=hI.len
      obtain ⟨p,g1,_⟩:=gX (f:=fun z:Int×Int=>Z5_L4 D b (s.1,ls,true) vs z.1 z.2) (fun k z=>z.2=(k:Int)) b.1.length (Post:=fun _=>True)
       (fun k z G hz=>by
        obtain ⟨y,i⟩:=z
        dsimp only at hz; subst hz
        simp only [Z5_L4]
        have O:k<D.length:=by omega
        obtain ⟨e1,e2⟩:=U.g k G
        have a6:ix dss (k:Int)=(ix D (k:Int)).Dims:=by rw [B,b' (by simpa using O),b' O]; simp
        have a7:=p3 _ (bF G)
        rw [if_pos (by simp; omega),if_pos (by omega),if_pos (by omega),tV a7.1 Z (by omega) U.i.n (fun c hc=>by
         obtain ⟨m,hm,rfl⟩:=List.getElem_of_mem hc
         have:=(e2 m hm).1
         rwa [b' hm] at this)]
        simp only [Option.bind_some]
        obtain ⟨w,w1,_⟩:=nk (ht _ (bF O)) (is:=(ix b.1 (k:Int)).map fun c=>ix vs ((s.1.idxOf c:Nat):Int)) (by
         rw [← a6]
         refine As (by simp [e1]) fun m hm=>?_
         have T:m<(ix b.1 (k:Int)).length:=by omega
         obtain ⟨f1,f2⟩:=e2 m T
         have hp:s.1.idxOf (ix (ix b.1 (k:Int)) (m:Int))<s.1.length:=List.idxOf_lt_length_iff.2 f1
         have hv:=Ar hI (j:=s.1.idxOf (ix (ix b.1 (k:Int)) (m:Int))) (by omega)
         have ab:ix ((ix b.1 (k:Int)).map fun c=>ix vs ((s.1.idxOf c:Nat):Int)) (m:Int)=ix vs ((s.1.idxOf (ix (ix b.1 (k:Int)) (m:Int)):Nat):Int):=by
          rw [b' (by simpa using T),List.getElem_map,b' (xs:=ix b.1 (k:Int)) T]
         have ac:ix ls ((s.1.idxOf (ix (ix b.1 (k:Int)) (m:Int)):Nat):Int)=ix (ix dss (k:Int)) (m:Int):=by
          rw [E,pS hp,List.getElem_idxOf hp,f2]
         rw [ab,← ac]
         exact hv)
        rw [w1]
        simp only [Option.bind_some]
        obtain ⟨u,u1,_⟩:=mc y w
        rw [u1]
        exact ⟨_,rfl,by rw [bZ (by unfold cD; omega)]⟩)
       (fun z hz=>by
        obtain ⟨y,i⟩:=z
        dsimp only at hz; subst hz
        simp only [Z5_L4]
        rw [if_neg (by simp)]
        exact ⟨_,rfl,trivial⟩)
       (s:=(1,0)) rfl
      rw [g1]
      simp only [Option.bind_some,Z5_J4]
      have M:=qP hI b.2.1.length
      rw [← F] at M
      have ak:=mN c3.2.1 M
      rw [if_pos (by omega),kT,nK c3 M]
      simp only [Option.bind_some,List.length_replicate]
      rw [if_pos (by omega)]
      obtain ⟨u,u1,u2⟩:=nP (ix x (m9 a (vs.take b.2.1.length))) p
      rw [u1]
      exact ⟨_,by rw [bZ (by unfold cD; omega)]; rfl,hx.set u2 _⟩)
     (fun x hx=>by
      simp only [Z5_L3]
      rw [if_neg (by simp; omega)]
      exact ⟨_,rfl,hx⟩)
     (x:=List.replicate (pr a).toNat 0) (RG.rep _)
    rw [q1]
    exact ⟨r,rfl,hK c3 q2⟩
   ·rw [decide_eq_false c3,if_pos (by simp)]
    refine .inr ⟨?_,rfl⟩
    rintro ⟨s',_,_,g1,g2⟩
    have:=g1.1
    rw [h1.1] at this; cases this
    rw [← E,← F] at g2
    exact c3 g2
  ·rw [h2]
   obtain ⟨e1,e2,e3⟩:=e
   dsimp only at h3; subst h3
   simp only [Option.bind_some]
   rw [if_pos (fun z=>by simp at z)]
   simp only [bL,Bool.not_true,Bool.not_false,cond_false,Option.bind_some,Bool.true_or,if_true]
   exact .inr ⟨fun ⟨s,_,_,z,_⟩=>h1 s z,trivial⟩
 ·rw [if_pos]
  ·exact .inr ⟨fun ⟨s,z1,z2,_⟩=>L ⟨z1,z2⟩,rfl⟩
  ·cases q:b.2.2
   ·rfl
   ·have:b.1.length≠dss.length:=fun z=>L ⟨q,z⟩
    simp; omega
theorem rH {f:aO}(h:(parts f).2.2=true):1≤(parts f).1.length∧(parts f).1.length≤6:=by
 unfold parts at h ⊢
 split
 ·rename_i e; rw [e] at h; cases h
 ·rename_i p e
  rw [e] at h
  simp only at h ⊢
  by_cases c:PO (fV p.1) p.2
  ·rw [if_pos c]
   refine ⟨?_,c.1⟩
   have:=lr p.1
   cases q:fV p.1 with
   | nil=>exact absurd q this
   | cons=>simp
  ·rw [if_neg c] at h; cases h
theorem sh5 (b i j s n args):bQ ⟨5,b,i,j,s⟩ n args=Z31 ⟨⟩ n args:=rfl
theorem vt {n:Node}{out:List Tensor}(F:Caps n out)(e:n.Op=11):oS n out (Zg n (out.map Tensor.Dims)):=by
 have U:nU n out.length→∀ t∈(n.Args.map fun a=>ix out a),TT t:=jX F
 have Z:∀ A:List Tensor,(∀ t∈A,TT t)→∃ r i,bQ ⟨5,false,0,0,[]⟩ n (A.map Tensor.Dims)=some (r,i)∧(i=true→∃ s,tW n.Form (A.map Tensor.Dims) s∧r=(s.1.map (lk s.2)).take (parts n.Form).2.1.length)∧(i=false→¬ ∃ s,tW n.Form (A.map Tensor.Dims) s):=by
  intro A q
  rw [sh5]
  unfold Z31
  rcases tU (f:=n.Form) (dss:=A.map Tensor.Dims) F.f (fun ds h=>by
   obtain ⟨t,h1,rfl⟩:=List.mem_map.1 h
   exact (q t h1).d) with ⟨q1,q2,s,q3,q4,r,q5,q6⟩|⟨q1,r,q2⟩
  ·rw [q5]
   exact ⟨_,_,rfl,fun _=>⟨s,⟨q1,q2,q3,q4⟩,q6⟩,fun h=>by cases h⟩
  ·rw [q2]
   exact ⟨_,_,rfl,(fun h=>by cases h),fun _=>fun ⟨s,a,b,c,d⟩=>q1 ⟨a,b,s,c,d⟩⟩
 refine mR F (kd:=⟨5,false,0,0,[]⟩) (u:=ki) (fb:=decide (FM n 1 6 false 0 0)) (by rw [e]; rfl) rfl rfl (kU n ki false false true false xD xE xF xG) (gP (by omega) (by omega) (by rw [e]; rfl) (by rw [e]; rfl) (by rw [e]; rfl) (by rw [e]; rfl) ⟨by omega,by omega⟩) ?_ ?_ ?_
 ·intro B
  obtain ⟨f1,f2,O,f4,T,f6,f7⟩:=of_decide_eq_true B
  have g3:n.Dims=[]:=O.resolve_left (by simp)
  have g5:n.Data=[]:=T.resolve_left (by omega)
  have g6:n.Ints=[]:=List.eq_nil_of_length_eq_zero (by omega)
  exact ⟨by rw [g3,g5,g6]; rfl,by omega⟩
 ·intro G hw B
  obtain ⟨r,i,D,E,M⟩:=Z _ (U hw)
  cases i with
  | false=>exact ⟨r,D⟩
  | true =>
   obtain ⟨s,⟨l,m,_⟩,_⟩:=E rfl
   have Y:=rH l
   refine absurd ?_ (of_decide_eq_false B)
   simp only [Bool.false_or,Bool.true_or,Bool.and_true,Bool.and_eq_true,kV,beq_iff_eq] at G
   have I:((n.Args.map fun a=>ix out a).map Tensor.Dims).length=n.Args.length:=by simp
   rw [I] at m
   exact ⟨by omega,by omega,.inr G.1.1,.inl e,.inr G.2,by omega,by rw [G.1.2]; decide⟩
 ·intro B hw
  obtain ⟨f1,f2,O,f4,T,f6,f7⟩:=of_decide_eq_true B
  have q:=U hw
  obtain ⟨A,j⟩:∃ A,A=n.Args.map fun a=>ix out a:=⟨_,rfl⟩
  have g:Do n out=(Z5 n.Form A).bind fun r=>some r:=by
   unfold Do Z1
   rw [if_neg (by omega),← j]
   simp only [Z1_J1,Z1_J2,e]
   simp only [Int.reduceBEq,Bool.false_eq_true,if_false,if_true,beq_self_eq_true]
  have Y:A.length≤6:=by rw [j]; simp; omega
  rw [← j] at q ⊢
  obtain ⟨r,i,D,E,M⟩:=Z A q
  rcases pU F.f q Y with ⟨s,l,d,m,c3⟩|⟨l,m⟩
  ·rw [m] at g
   cases i with
   | false=>exact absurd ⟨s,l⟩ (M rfl)
   | true =>
    obtain ⟨s',k1,k2⟩:=E rfl
    have J:s'=s:=by
     have L:=k1.2.2.1.1
     rw [l.2.2.1.1] at L
     exact (Option.some.inj L).symm
    subst J
    exact ⟨⟨_,d⟩,.inl ⟨by rw [D,k2],g,c3⟩⟩
  ·rw [m] at g
   cases i with
   | false=>exact ⟨⟨[],[]⟩,.inr ⟨r,D,g⟩⟩
   | true=>obtain ⟨s',k1,_⟩:=E rfl; exact absurd ⟨s',k1⟩ l
theorem tX {n:Node}{out:List Tensor}(g:Caps n out):oS n out (Zg n (out.map Tensor.Dims)):=by
 by_cases h:1≤n.Op∧n.Op≤19
 ·by_cases h1:n.Op=1
  ·exact tB g h1
  by_cases h2:n.Op=2
  ·exact tC g h2
  by_cases h3:n.Op≤5
  ·exact va g (by omega) h3
  by_cases h4:n.Op≤9
  ·exact vc g ⟨by omega,h4⟩
  have:n.Op=10∨n.Op=11∨n.Op=12∨n.Op=13∨n.Op=14∨n.Op=15∨n.Op=16∨n.Op=17∨n.Op=18∨n.Op=19:=by omega
  rcases this with q | q | q | q | q | q | q | q | q | q
  ·exact xM g q
  ·exact vt g q
  ·exact rC g q
  ·exact pN g q
  ·exact tF g q
  ·exact xR g q
  ·exact rE g q
  ·exact pO g q
  ·exact rD g q
  ·exact vh g q
 ·have e:∀ k:Int,1≤k→k≤19→(n.Op==k)=false:=fun k a b=>by simp; omega
  have i:Zy n.Op=some ⟨0,false,0,0,[]⟩:=by
   unfold Zy Zy_J1 Zy_J2 Zy_J3
   simp only [e 1 (by omega) (by omega),e 2 (by omega) (by omega),e 3 (by omega) (by omega),e 4 (by omega) (by omega),e 5 (by omega) (by omega),e 6 (by omega) (by omega),e 7 (by omega) (by omega),e 8 (by omega) (by omega),e 9 (by omega) (by omega),e 10 (by omega) (by omega),e 11 (by omega) (by omega),e 12 (by omega) (by omega),e 13 (by omega) (by omega),e 14 (by omega) (by omega),e 15 (by omega) (by omega),e 16 (by omega) (by omega),e 17 (by omega) (by omega),e 18 (by omega) (by omega),e 19 (by omega) (by omega),Bool.false_eq_true,if_false]
  refine .inr ⟨[],?_,.inl ?_⟩
  ·unfold Zg
   rw [i]
   rfl
  ·unfold Z19
   rw [if_pos (by simp; omega)]
structure GC (g:Graph):Prop where
 n:g.Nodes.length<cD
 o:g.Outs.length<cD
 a:∀ n∈g.Nodes,n.Args.length<cD
 d:∀ n∈g.Nodes,n.Dims.length<cD
 i:∀ n∈g.Nodes,n.Ints.length<cD
 x:∀ n∈g.Nodes,n.Data.length<cD
 f:∀ n∈g.Nodes,n.Form.length≤1048576
def AJ (g:Graph)(k:Nat)(out:List Tensor):Prop:=∀ j:Nat,j<k→Z19 (ix g.Nodes (j:Int))=some true∧nU (ix g.Nodes (j:Int)) j∧Do (ix g.Nodes (j:Int)) (out.take j)=some (ix out (j:Int))
theorem y0 {g:Graph}{out:List Tensor}{k:Nat}(h:k<g.Nodes.length)(l:out.length≤200)(e:(ix g.Nodes (k:Int)).Args.length≤100)(hw:nU (ix g.Nodes (k:Int)) out.length) :
  aR (fun s:List Tensor×Int=>Z9_L2 g out (k:Int) s.1 s.2) ([],0)=some ((ix g.Nodes (k:Int)).Args.map fun a=>ix out a):=by
 refine eQ (f:=fun s:List Tensor×Int=>Z9_L2 g out (k:Int) s.1 s.2) (fun j=>(((ix g.Nodes (k:Int)).Args.take j).map fun a=>ix out a,(j:Int))) (ix g.Nodes (k:Int)).Args.length (fun j b=>?_) ?_ rfl
 ·have i:=hw _ (bF b)
  simp only [Z9_L2]
  rw [if_pos (by simp; omega),if_pos (by omega),if_pos (by omega),if_pos (by simp; omega),bZ (by unfold cD; omega),List.take_succ_eq_append_getElem b,List.map_append,b' b]
  rfl
 ·simp only [Z9_L2]
  rw [if_neg (by simp),List.take_length]
theorem lx {n:Node}(h:Z19 n=some true):n.Args.length≤6:=by
 unfold Z19 at h
 split at h
 ·cases h
 ·obtain ⟨r,h1,h⟩:=bd h
  have a:r.2≤6:=by
   unfold Z38 at h1
   repeat' split at h1
   all_goals (cases h1; decide)
  split at h
  ·cases h
  ·rename_i q
   simp only [Bool.or_eq_true,decide_eq_true_eq,not_or] at q
   omega
theorem tY {g:Graph}{ins:List Tensor}{out:List Tensor}{k:Nat}{t:Tensor}(h:k<g.Nodes.length)(i:out.length=k)(m:g.Nodes.length≤200)(e:Z19 (ix g.Nodes (k:Int))=some true)(hw:nU (ix g.Nodes (k:Int)) out.length)(a:Do (ix g.Nodes (k:Int)) out=some t) :
  Z9_L1 g ins true out 0 (k:Int)=Z9_J4 out (k:Int) 0 t.Dims t.Data:=by
 have l:=lx e
 simp only [Z9_L1]
 rw [if_pos (by simp; omega),if_pos (by omega),e]
 simp only [Option.bind_some,bL,Bool.not_true,Bool.not_false,cond_true,Bool.false_or]
 rw [jW (by unfold cD; omega)]
 have b:∀ x∈(ix g.Nodes (k:Int)).Args,0≤x∧x<(k:Int):=by
  intro x j
  have:=hw x j
  rwa [i] at this
 simp only [Option.bind_some]
 rw [decide_eq_true b,if_neg (by simp),y0 h (by omega) (by omega) hw]
 simp only [Option.bind_some,Z9_J3]
 unfold Do at a
 by_cases c:(ix g.Nodes (k:Int)).Op=1
 ·rw [if_pos c] at a
  rw [if_neg (by simp [c]),if_pos trivial,a]
  rfl
 ·rw [if_neg c] at a
  rw [if_pos (by simp [c]),a]
  rfl
theorem oV {g:Graph}{ins:List Tensor}(r:GC g)(J:g.Nodes.length≤200):∀ (m k:Nat) (out:List Tensor),k+m=g.Nodes.length→out.length=k→(∀ t∈out,TT t)→AJ g k out →
  (∃ h,aR (fun s:List Tensor×Int×Int=>Z9_L1 g ins true s.1 s.2.1 s.2.2) (out,0,(k:Int))=some (.inr (h,0))∧aR (fun s:List (List Int)×Int=>Zk_L1 g s.1 s.2) (out.map Tensor.Dims,(k:Int))=some (.inr (h.map Tensor.Dims))∧h.length=g.Nodes.length∧(∀ t∈h,TT t)∧AJ g g.Nodes.length h) ∨
  ((∃ e,aR (fun s:List Tensor×Int×Int=>Z9_L1 g ins true s.1 s.2.1 s.2.2) (out,0,(k:Int))=some (.inl e)∧e.2=false)∧∃ e,aR (fun s:List (List Int)×Int=>Zk_L1 g s.1 s.2) (out.map Tensor.Dims,(k:Int))=some (.inl e)∧e.2=false)
 | 0,k,out,I,ho,ht,hr=>by
  have I:k=g.Nodes.length:=by omega
  subst I
  refine .inl ⟨out,eA ?_,eA ?_,ho,ht,hr⟩
  ·simp only [Z9_L1]; rw [if_neg (by simp)]
  ·simp only [Zk_L1]; rw [if_neg (by simp)]
 | m+1,k,out,I,ho,ht,hr=>by
  have q:k<g.Nodes.length:=by omega
  have D:=bF q
  have Y:Caps (ix g.Nodes (k:Int)) out:=⟨r.a _ D,r.d _ D,r.i _ D,r.x _ D,r.f _ D,by omega,ht⟩
  have M:∀ p:List Int×Bool,Zg (ix g.Nodes (k:Int)) (out.map Tensor.Dims)=some p→Zk_L1 g (out.map Tensor.Dims) (k:Int)=if p.2=true then some (.inl (out.map Tensor.Dims++[p.1],((k+1:Nat):Int))) else some (.inr (.inl ([],false))):=by
   intro p U
   simp only [Zk_L1]
   rw [if_pos (by simp; omega),if_pos (by omega),U]
   simp only [Option.bind_some]
   cases p.2
   ·rfl
   ·rw [if_neg (by simp),if_pos (by simp; omega),bZ (by unfold cD; omega)]; rfl
  rcases tX Y with ⟨t,h1,h2,B,O,G⟩|⟨ds,h1,h2⟩
  ·have T:=G.l
   have U:=G.d.2.pos
   have E:=tY (ins:=ins) q ho J h2 B O
   unfold Z9_J4 at E
   rw [if_neg (by simp; intro z; rw [z] at T; simp at T; omega),if_pos (by simp; omega),bZ (by unfold cD; omega)] at E
   have F:=M _ h1
   rw [if_pos rfl] at F
   rw [eU (f:=fun s:List Tensor×Int×Int=>Z9_L1 g ins true s.1 s.2.1 s.2.2) E,eU (f:=fun s:List (List Int)×Int=>Zk_L1 g s.1 s.2) F]
   have:=oV (ins:=ins) r J m (k+1) (out++[t]) (by omega) (by simp [ho]) (by
    intro u Z
    rcases List.mem_append.1 Z with z | z
    ·exact ht u z
    ·simp at z; subst z; exact G) (by
    intro j hj
    by_cases e:j<k
    ·obtain ⟨a,b,c⟩:=hr j e
     refine ⟨a,b,?_⟩
     rw [List.take_append_of_le_length (by omega),c,b' (by omega),b' (by simp; omega),List.getElem_append_left (by omega)]
    ·have e:j=k:=by omega
     subst e
     rw [ho] at B
     refine ⟨h2,B,?_⟩
     rw [List.take_append_of_le_length (by omega),List.take_of_length_le (by omega),b' (xs:=out++[t]) (by rw [List.length_append,List.length_singleton]; omega),List.getElem_append_right (by omega)]
     simpa [ho] using O)
   rw [List.map_append] at this
   exact this
  ·have F:=M _ h1
   rw [if_neg (by simp)] at F
   refine .inr ⟨?_,_,eA F,rfl⟩
   rcases h2 with h2 | ⟨h2,B⟩
   ·refine ⟨(out,false),eA ?_,rfl⟩
    simp only [Z9_L1]
    rw [if_pos (by simp; omega),if_pos (by omega),h2]
    rfl
   ·by_cases w:nU (ix g.Nodes (k:Int)) out.length
    ·have E:=tY (ins:=ins) q ho J h2 w (B w)
     exact ⟨(out,false),eA E,rfl⟩
    ·refine ⟨(out,false),eA ?_,rfl⟩
     have ha:=lx h2
     simp only [Z9_L1]
     rw [if_pos (by simp; omega),if_pos (by omega),h2]
     simp only [Option.bind_some,bL,Bool.not_true,Bool.not_false,cond_true,Bool.false_or]
     rw [jW (by unfold cD; omega)]
     have L:¬ ∀ x∈(ix g.Nodes (k:Int)).Args,0≤x∧x<(k:Int):=by
      intro z; refine w fun x hx=>?_
      have:=z x hx
      rwa [ho]
     simp only [Option.bind_some]
     rw [decide_eq_false L,if_pos (by simp)]
theorem oW {g:Graph}(G:GC g):∃ b J E,Z9 g [] true=some (b,E)∧Zk g=some (J,E)∧(E=true→J=b.map Tensor.Dims∧b.length=g.Nodes.length∧(∀ t∈b,TT t)∧AJ g g.Nodes.length b∧g.Nodes.length≤200∧g.Outs.length≤40∧∀ o∈g.Outs,0≤o∧o<(g.Nodes.length:Int)):=by
 unfold Z9 Zk
 by_cases c:g.Nodes.length≤200∧g.Outs.length≤40
 ·rw [if_neg (by simp; omega),if_neg (by simp; omega)]
  have m:∀ s:Int→Option (Int⊕(((List (List Int))×Bool)⊕Unit)),s=(fun x=>Zk_L2 g x)→aR s 0=some (if g.Outs.all (fun x=>!(decide (x<0)||decide (x≥(g.Nodes.length:Int)))) then .inr () else .inl ([],false)):=by
   rintro _ rfl
   refine eI g.Outs (fun x=>Zk_L2 g x) (fun i=>i) _ _ _ (fun j I=>?_) ?_
   ·simp only [Zk_L2]
    rw [if_pos (by simp; omega),if_pos (by omega),bZ (by unfold cD; omega)]
    cases (decide (ix g.Outs (j:Int)<0)||decide (ix g.Outs (j:Int)≥(g.Nodes.length:Int)))<;>rfl
   ·simp only [Zk_L2]
    rw [if_neg (by simp)]
  have M:g.Outs.all (fun x=>!(decide (x<0)||decide (x≥(g.Nodes.length:Int))))=decide (∀ o∈g.Outs,0≤o∧o<(g.Nodes.length:Int)):=by
   rw [Bool.eq_iff_iff]
   simp only [List.all_eq_true,decide_eq_true_eq,Bool.not_eq_true',Bool.or_eq_false_iff,decide_eq_false_iff_not]
   exact ⟨fun h x D=>by have:=h x D; omega,fun h x D=>by have:=h x D; omega⟩
  have m:=m _ rfl
  rw [M] at m
  rcases oV (ins:=[]) G c.1 g.Nodes.length 0 [] (by omega) rfl (fun t h=>by simp at h) (fun j I=>absurd I (Nat.not_lt_zero _)) with ⟨out,h1,h2,u,l,L⟩|⟨⟨e,h1,h2⟩,F,u,l⟩
  ·have a:aR (fun s:List Tensor×Int×Int=>Z9_L1 g [] true s.1 s.2.1 s.2.2) ([],0,0)=some (.inr (out,0)):=h1
   have r:aR (fun s:List (List Int)×Int=>Zk_L1 g s.1 s.2) ([],0)=some (.inr (out.map Tensor.Dims)):=h2
   rw [a,r]
   simp only [Option.bind_some,Z9_J5,Zk_J1,Zk_J2]
   rw [jW G.o,m]
   simp only [Option.bind_some]
   by_cases q:∀ o∈g.Outs,0≤o∧o<(g.Nodes.length:Int)
   ·rw [decide_eq_true q]
    exact ⟨_,_,_,rfl,rfl,fun _=>⟨rfl,u,l,L,c.1,c.2,q⟩⟩
   ·rw [decide_eq_false q]
    exact ⟨_,_,_,rfl,rfl,fun h=>by cases h⟩
  ·have a:aR (fun s:List Tensor×Int×Int=>Z9_L1 g [] true s.1 s.2.1 s.2.2) ([],0,0)=some (.inl e):=h1
   have B:aR (fun s:List (List Int)×Int=>Zk_L1 g s.1 s.2) ([],0)=some (.inl F):=u
   rw [a,B]
   obtain ⟨O,T⟩:=e
   obtain ⟨U,Y⟩:=F
   dsimp only at h2 l
   subst h2; subst l
   exact ⟨_,_,_,rfl,rfl,fun h=>by cases h⟩
 ·rw [if_pos (by simp; omega),if_pos (by simp; omega)]
  exact ⟨_,_,_,rfl,rfl,fun h=>by cases h⟩
def AK:Nat:=9223372036854775807
def gC (n:Nat)(a:Int):Int:=if a<(n:Int) then -1 else a - n
def mV {α:Type}(n:α→Nat)(xs:List α):Nat:=xs.length+(xs.map n).sum
theorem jA {a b:Nat}{e:Int}(g:0≤e):gC (a+b) e=if gC a e<0 then -1 else gC b (gC a e):=by
 unfold gC
 (repeat' split)<;>omega
theorem j5 {a:Nat}{b:Int}(e:0≤b)(h:¬ gC a b<0):0≤gC a b∧gC a b≤b∧gC a b=b - a:=by
 unfold gC at *
 split at h<;>rename_i q
 ·exact absurd (by decide) h
 ·rw [if_neg q]; omega
theorem vu {n:Nat}{a:Int}(b:n≤AK)(e:0≤a)(h1:a≤1048576) :
  (if (decide ((aH (a - (n:Int)))<(0:Int)))=true then (some (-1:Int)) else (some (aH (a - (n:Int)))))=some (gC n a):=by
 unfold AK at b
 rw [aW (by omega) (by omega)]
 unfold gC
 by_cases h:a<(n:Int)
 ·rw [if_pos (by simp; omega),if_pos h]
 ·rw [if_neg (by simp; omega),if_neg h]
theorem vv {α:Type}[Inhabited α](xs:List α)(n:α→Nat)(E:xs.length<cD)(g:α→Int→Option Int)(f:Int×Int→Option ((Int×Int)⊕(Int⊕Int)))
  (D:∀ x∈xs,∀ a:Int,0≤a→a≤1048576→g x a=some (gC (n x) a))
  (m:∀ a i,f (a,i)=if (decide (i<(xs.length:Int)))=true then (if (0≤i∧i<(xs.length:Int)) then (g (ix xs i) a).bind fun (r:Int)=>if (decide (r<(0:Int)))=true then (some (.inr (.inl (-1:Int)))) else (some (.inl (r,(aH (i+(1:Int)))))) else none) else (some (.inr (.inr a))))
  (a:Int) (l:0≤a) (h1:a≤1048576) :
  ((aR f (a,0)).bind fun e=>match e with | .inl e=>some e | .inr e=>some e)=some (gC ((xs.map n).sum) a):=by
 rw [jd (S:=Int) xs (fun _ s=>0≤s∧s≤1048576) f (fun s i=>(s,i)) (fun s _ x=>if gC (n x) s<0 then .inr (.inl (-1)) else .inl (gC (n x) s)) (fun s=>.inr s) ?_ ?_ ?_ a ⟨l,h1⟩]
 ·rw [aY]
  clear m E
  generalize 0=k
  induction xs generalizing a k with
  | nil=>show some a=some (gC 0 a); unfold gC; rw [if_neg (by omega)]; congr 1; simp
  | cons x xs ih =>
   unfold qz
   rw [List.map_cons,List.sum_cons,jA l]
   by_cases h:gC (n x) a<0
   ·simp only [h,if_true]
   ·obtain ⟨B,G,_⟩:=j5 l h
    simp only [h,if_false]
    exact ih (fun y F=>D y (by simp [F])) _ B (by omega) _
 ·rintro s k ⟨j,u⟩ q
  rw [m,if_pos (by simpa using q),if_pos (by omega),D _ (bF q) s j u,aY,bZ (by omega)]
  by_cases h:gC (n (ix xs (k:Int))) s<0
  ·simp [h]
  ·simp [h]
 ·rintro s k s' ⟨j,u⟩ q b
  split at b
  ·cases b
  ·rename_i h
   obtain ⟨B,G,_⟩:=j5 j h
   injection b with b
   subst b
   exact ⟨B,by omega⟩
 ·rintro s ⟨j,u⟩
  rw [m,if_neg (by simp)]
theorem vw {α:Type}[Inhabited α]{xs:List α}{n:α→Nat}{a:Int}{x:Int→Option Int}(j:xs.length≤AK)(i:0≤a)(h1:a≤1048576)(l:¬ gC xs.length a<0→x (gC xs.length a)=some (gC ((xs.map n).sum) (gC xs.length a))) :
  (if (decide ((aH (a - (xs.length:Int)))<(0:Int)))=true then (some (-1:Int)) else x (aH (a - (xs.length:Int))))=some (gC (mV n xs) a):=by
 have g:=j
 unfold AK at g
 unfold mV
 rw [jA i]
 have e:aH (a - (xs.length:Int))=a - xs.length:=aW (by omega) (by omega)
 rw [e]
 by_cases h:a<(xs.length:Int)
 ·rw [if_pos (by simp; omega),if_pos (by unfold gC; rw [if_pos h]; omega)]
 ·have b:gC xs.length a=a - xs.length:=by unfold gC; rw [if_neg h]
  rw [if_neg (by simp; omega),if_neg (by rw [b]; omega)]
  have:=l (by rw [b]; omega)
  rw [b] at this ⊢
  exact this
theorem pV {k:Nat}{n:Nat}(h:k<n):(0:Int)≤(k:Int)∧(k:Int)<(n:Int):=⟨by omega,by omega⟩
theorem At {k:Nat}{n:Nat}(h:k<n):(decide ((k:Int)<(n:Int)))=true:=by simpa using h
theorem tZ {n:Nat}:(decide ((n:Int)<(n:Int)))=false:=by simp
theorem nZ (xs ys:List Int)(h:xs.length=ys.length):((List.range xs.length).all fun k=>ix xs (k:Int)==ix ys (k:Int))=decide (xs=ys):=by
 by_cases e:xs=ys
 ·subst e; simp
 ·simp only [e,decide_false]
  rw [List.all_eq_false]
  refine Classical.byContradiction fun b=>e ?_
  refine List.ext_getElem h fun k h1 h2=>?_
  refine Classical.byContradiction fun a=>b ⟨k,by simpa using h1,?_⟩
  rw [b' h1,b' h2]
  simpa using a
theorem vx (xs ys:List Int)(h:xs.length<cD):Z01 xs ys=some (decide (xs=ys)):=by
 unfold Z01
 by_cases hl:xs.length=ys.length
 ·rw [if_neg (by simp [hl])]
  rw [gM xs.length (fun s:Int=>Z01_L1 xs ys s) (fun i=>i) (fun k=>ix xs (k:Int)==ix ys (k:Int)) (.inl false) (.inr ()) (fun k a=>by
   unfold Z01_L1
   rw [if_pos (At a),if_pos (pV a),if_pos (pV (hl▸a)),bZ (by omega)]
   by_cases hq:ix xs (k:Int)=ix ys (k:Int)
   ·simp [hq]
   ·simp [hq]) (by unfold Z01_L1; simp only [tZ,Bool.false_eq_true,if_false])]
  rw [nZ xs ys hl,aY]
  by_cases e:xs=ys<;>simp [e,Z01_J1]
 ·rw [if_pos (by simp; omega)]
  have:xs≠ys:=fun e=>hl (by rw [e])
  simp [this]
theorem oX (xs ys:List Int):Z0b xs ys=Z01 xs ys:=rfl
theorem Au {α:Type}[Inhabited α](x:Option α):bL true x=x:=rfl
def Rg (g:List Bool)(n:Nat)(gl:List Int):Prop:=g.length=n∧∀ j:Nat,j<n→ix g (j:Int)=decide ((j:Int)∈gl)
theorem Rg.set {g:List Bool}{n:Nat}{gl:List Int}(h:Rg g n gl){b:Int}(m:0≤b)(h1:b<(n:Int)):Rg (g.set b.toNat true) n (gl++[b]):=by
 obtain ⟨l,q⟩:=h
 refine ⟨by simpa using l,fun j i=>?_⟩
 obtain ⟨c,rfl⟩:=Int.eq_ofNat_of_zero_le m
 have a:j<(g.set (c:Int).toNat true).length:=by simpa [l] using i
 rw [b' a,List.getElem_set]
 by_cases e:(c:Int).toNat=j
 ·rw [if_pos e]; have:c=j:=by omega
  subst this; simp
 ·rw [if_neg e]
  have h2:=q j i
  rw [b' (by omega)] at h2
  rw [h2]
  have:¬ (j:Int)=(c:Int):=by omega
  simp [this]
theorem mW {α T:Type}[Inhabited α](xs:List α)(z:α)(f:T→Option (T⊕List α))(mk:List α→Int→T)
  (u:∀ (ys:List α) (k:Nat),ys.length=xs.length→k<xs.length→f (mk ys (k:Int))=some (.inl (mk (ys.set k (ix xs (k:Int))) ((k+1:Nat):Int))))
  (g:∀ ys:List α,ys.length=xs.length→f (mk ys (xs.length:Int))=some (.inr ys)):aR f (mk (List.replicate (xs.length:Int).toNat z) 0)=some xs:=by
 rw [Int.toNat_natCast]
 rw [jd (S:=List α) xs (fun _ s=>s.length=xs.length) f mk (fun s k x=>.inl (s.set k x)) (fun s=>s) (fun s k i a=>u s k i a) (fun s k s' i a h=>by injection h with h; subst h; simpa using i) g _ (by simp)]
 congr 1
 have r:∀ (m k:Nat) (ys:List α),k+m=xs.length→ys.length=xs.length→(∀ j,j<k→ys[j]?=xs[j]?)→qz (R:=List α) (fun s k x=>.inl (s.set k x)) (fun s=>s) (xs.drop k) k ys=xs:=by
  intro m
  induction m with
  | zero =>
   intro k ys a g l
   have a:k=xs.length:=by omega
   subst a
   rw [List.drop_length]
   show ys=xs
   refine List.ext_getElem? fun j=>?_
   by_cases q:j<xs.length
   ·exact l j q
   ·rw [List.getElem?_eq_none (by omega),List.getElem?_eq_none (by omega)]
  | succ m ih =>
   intro k ys a g l
   have b:k<xs.length:=by omega
   rw [List.drop_eq_getElem_cons b]
   unfold qz
   refine ih (k+1) _ (by omega) (by simpa using g) (fun j q=>?_)
   rw [List.getElem?_set]
   by_cases e:k=j
   ·subst e; rw [if_pos rfl,if_pos (by omega)]; exact (List.getElem?_eq_getElem b).symm
   ·rw [if_neg e]; exact l j (by omega)
 simpa using r xs.length 0 (List.replicate xs.length z) (by omega) (by simp) (fun j q=>by omega)
theorem y6 {α:Type}{n:Nat}{z:α}{k:Nat}(h:k<n):(0:Int)≤(k:Int)∧(k:Int)<((List.replicate (n:Int).toNat z).length:Int):=by
 rw [List.length_replicate,Int.toNat_natCast]; omega
theorem rI (xs:List Int)(h:xs.length≤1048576):Zf xs=some xs:=by
 unfold Zf
 rw [if_pos (by omega),mW xs 0 (fun s:(List Int)×Int=>Zf_L1 xs s.1 s.2) (fun s i=>(s,i)) (fun ys k b a=>by
  show Zf_L1 xs ys (k:Int)=_
  unfold Zf_L1
  rw [if_pos (At a),if_pos (pV a),if_pos (y6 a),bZ (by unfold cD; omega)]; rfl) (fun ys _=>by
  show Zf_L1 xs ys (xs.length:Int)=_
  unfold Zf_L1; simp only [tZ,Bool.false_eq_true,if_false])]
 rfl
theorem qZ (xs:List Int)(h:xs.length≤1048576):Z0b xs xs=some true:=by
 rw [oX,vx _ _ (by unfold cD; omega)]; simp
theorem vy {α:Type}[Inhabited α](xs:List α)(f:Int→Option (Int⊕(Bool⊕Unit)))(h:xs.length≤1048576)(e:α→α→Option Bool)(g:∀ x∈xs,e x x=some true)
  (b:∀ i,f i=if (decide (i<(xs.length:Int)))=true then (if (0≤i∧i<(xs.length:Int)) then if (0≤i∧i<(xs.length:Int)) then (e (ix xs i) (ix xs i)).bind fun (r:Bool)=>if (!r)=true then (some (.inr (.inl false))) else (some (.inl (aH (i+(1:Int))))) else none else none) else (some (.inr (.inr ())))) :
  aR f 0=some (.inr ()):=by
 rw [eI xs f (fun i=>i) (fun _=>true) (.inl false) (.inr ()) (fun k a=>by
  rw [b,if_pos (At a),if_pos (pV a),if_pos (pV a),g _ (bF a),aY,bZ (by unfold cD; omega)]; rfl) (by rw [b]; simp only [tZ,Bool.false_eq_true,if_false])]
 simp
theorem ky (x:Int):(x != x)=false:=by simp
theorem ws {α:Type}[Inhabited α]{ys:List α}{k:Nat}{v:α}(h:k<ys.length):ix (ys.set k v) (k:Int)=v:=by
 rw [b' (by simpa using h)]; simp
theorem nw {α:Type}[Inhabited α]{ys:List α}{k j:Nat}{v:α}(h:k≠j):ix (ys.set k v) (j:Int)=ix ys (j:Int):=by
 simp [ix,List.getD_eq_getElem?_getD,List.getElem?_set,h]
theorem t' {α:Type}(n:α→Nat)(xs:List α):xs.length≤mV n xs:=by unfold mV; omega
theorem u0 {α:Type}(n:α→Nat){xs:List α}{x:α}(h:x∈xs):n x≤mV n xs:=by
 have:n x≤(xs.map n).sum:=by
  induction xs with
  | nil=>cases h
  | cons y t ih =>
   rcases List.mem_cons.1 h with rfl | h
   ·simp
   ·have:=ih h; simp; omega
 unfold mV; omega
theorem u3 {a:Nat}{b:Int}(h:gC a b<0)(e:0≤b):gC a b = -1:=by
 unfold gC at *
 split at h
 ·rw [if_pos (by assumption)]
 ·omega
def l2 (xs:(List Int)):Prop:=xs.length≤maxLen
def jY (xs:(List Int)):Prop:=xs.length≤1048576
theorem jh {xs:(List Int)}(h:xs.length≤1048576):jY xs:=h
theorem iT {xs:(List Int)}{a:Int}(e:l2 xs)(b:0≤a)(h1:a≤1048576):Z1i xs a=some (gC xs.length a):=vu (Nat.le_trans e (by decide)) b h1
theorem l3 (xs:(List Int))(h:jY xs):Zf xs=some xs:=by
 unfold Zf
 rw [if_pos (by have:xs.length≤1048576:=h; omega),mW xs 0 (fun s:(List Int)×Int=>Zf_L1 xs s.1 s.2) (fun s i=>(s,i)) (fun ys k e a=>by
  have b:xs.length≤1048576:=h
  show Zf_L1 xs ys (k:Int)=_
  unfold Zf_L1
  rw [if_pos (At a),if_pos (pV a),if_pos (y6 a),bZ (by unfold cD; omega)]; rfl) (fun ys _=>by
  show Zf_L1 xs ys (xs.length:Int)=_
  unfold Zf_L1; simp only [tZ,Bool.false_eq_true,if_false])]
 rfl
theorem l4 (xs:(List Int))(h:jY xs):Z0b xs xs=some true:=qZ xs h
def Av (x:aO):Prop:=x.length≤maxLen
def Aw (x:aO):Prop:=x.length≤1048576
structure Cap75 (x:Node):Prop where
 Args:l2 x.Args
 Dims:l2 x.Dims
 Ints:l2 x.Ints
 Form:Av x.Form
 Data:l2 x.Data
structure SmNode (x:Node):Prop where
 Args:jY x.Args
 Dims:jY x.Dims
 Ints:jY x.Ints
 Form:Aw x.Form
 Data:jY x.Data
def kl (x:Node):Nat:=x.Args.length+x.Dims.length+x.Ints.length+x.Form.length+x.Data.length
theorem rJ {x:Node}(h:kl x≤1048576):SmNode x:=by
 unfold kl at h
 exact ⟨jh (by omega),jh (by omega),jh (by omega),show _≤_ by omega,jh (by omega)⟩
theorem rK {x:Node}{a:Int}(u:Cap75 x)(b:0≤a)(h1:a≤1048576):Z2q x a=some (gC (kl x) a):=by
 obtain ⟨l,m,q,r,s⟩:=u
 unfold Z2q kl
 rw [jA b,jA b,jA b,jA b]
 rw [iT l b (by omega),aY]
 by_cases h2:gC (x.Args.length) a<0
 ·simp [h2]
 ·obtain ⟨i,I,B⟩:=j5 b h2
  rw [if_neg (by simpa using h2),if_neg h2]
  rw [iT m i (by omega),aY]
  by_cases h3:gC (x.Dims.length) (gC (x.Args.length) a)<0
  ·simp [h3]
  ·obtain ⟨j,J,D⟩:=j5 i h3
   rw [if_neg (by simpa using h3),if_neg h3]
   rw [iT q j (by omega),aY]
   by_cases h4:gC (x.Ints.length) (gC (x.Dims.length) (gC (x.Args.length) a))<0
   ·simp [h4]
   ·obtain ⟨F,L,E⟩:=j5 j h4
    rw [if_neg (by simpa using h4),if_neg h4]
    have h:aH (gC (x.Ints.length) (gC (x.Dims.length) (gC (x.Args.length) a)) - (x.Form.length:Int))=gC (x.Ints.length) (gC (x.Dims.length) (gC (x.Args.length) a)) - (x.Form.length:Int):=by
     have:x.Form.length≤9223372036854775807:=Nat.le_trans r (by decide)
     exact aW (by omega) (by omega)
    by_cases h5:gC (x.Form.length) (gC (x.Ints.length) (gC (x.Dims.length) (gC (x.Args.length) a)))<0
    ·have:gC (x.Ints.length) (gC (x.Dims.length) (gC (x.Args.length) a))<(x.Form.length:Int):=by unfold gC at h5; split at h5<;>omega
     rw [h,if_pos (by simp; omega)]
     simp [h5]
    ·obtain ⟨g,M,e⟩:=j5 F h5
     rw [h,← e,if_neg (by simpa using h5),if_neg h5]
     rw [iT s g (by omega),aY]
     by_cases h6:gC (x.Data.length) (gC (x.Form.length) (gC (x.Ints.length) (gC (x.Dims.length) (gC (x.Args.length) a))))<0
     ·rw [if_pos (by simpa using h6),u3 h6 g]
     ·obtain ⟨O,T,G⟩:=j5 g h6
      rw [if_neg (by simpa using h6)]
theorem vC (x:Node)(h:SmNode x):Z35 x=some x:=by
 unfold Z35
 rw [l3 _ h.Args,aY,l3 _ h.Dims,aY,l3 _ h.Ints,aY,l3 _ h.Data,aY]
theorem vD (x:Node)(h:SmNode x):Z2p x x=some true:=by
 unfold Z2p
 rw [l4 _ h.Args,aY,l4 _ h.Dims,aY,l4 _ h.Ints,aY,l4 _ h.Data,aY]
 simp
def u4 (xs:(List Node)):Prop:=xs.length≤maxLen∧∀ x∈xs,Cap75 x
def mf (xs:(List Node)):Prop:=xs.length≤1048576∧∀ x∈xs,SmNode x
theorem pW {xs:(List Node)}(h:mV kl xs≤1048576):mf xs:=⟨Nat.le_trans (t' _ _) h,fun x a=>rJ (Nat.le_trans (u0 _ a) h)⟩
theorem pX {xs:(List Node)}{a:Int}(g:u4 xs)(b:0≤a)(h1:a≤1048576):Z1a xs a=some (gC (mV kl xs) a):=by
 unfold Z1a
 refine vw (x:=fun l=>(aR (fun s:Int×Int=>Z1a_L1 xs s.1 s.2) (l,(0:Int))).bind fun e=>match e with | .inl e=>some e | .inr e=>Z1a_J1 e) (Nat.le_trans g.1 (by decide)) b h1 (fun h=>?_)
 obtain ⟨j,m,q⟩:=j5 b h
 exact vv xs kl (Nat.lt_of_le_of_lt (show xs.length≤1048576 by unfold gC at h; split at h<;>omega) (by decide)) Z2q _ (fun x i a=>rK (g.2 x i)) (fun _ _=>rfl) _ j (by omega)
theorem u5 (xs:(List Node))(h:mf xs):Z0p xs=some xs:=by
 unfold Z0p
 rw [if_pos (by have:xs.length≤1048576:=h.1; omega),mW xs zT65.z (fun s:(List Node)×Int=>Z0p_L1 xs s.1 s.2) (fun s i=>(s,i)) (fun ys k e a=>by
  have b:xs.length≤1048576:=h.1
  show Z0p_L1 xs ys (k:Int)=_
  unfold Z0p_L1
  rw [if_pos (At a),if_pos (pV a),vC _ (h.2 _ (bF a)),aY,if_pos (y6 a),bZ (by unfold cD; omega)]; rfl) (fun ys _=>by
  show Z0p_L1 xs ys (xs.length:Int)=_
  unfold Z0p_L1; simp only [tZ,Bool.false_eq_true,if_false])]
 rfl
theorem u6 (xs:(List Node))(h:mf xs):Z1e xs xs=some true:=by
 unfold Z1e
 rw [ky,vy xs (fun s:Int=>Z1e_L1 xs xs s) h.1 Z2p (fun x a=>vD x (h.2 x a)) (fun _=>rfl)]; rfl
structure Cap25 (x:Graph):Prop where
 Nodes:u4 x.Nodes
 Outs:l2 x.Outs
structure SmGraph (x:Graph):Prop where
 Nodes:mf x.Nodes
 Outs:jY x.Outs
def ly (x:Graph):Nat:=mV kl x.Nodes+x.Outs.length
theorem pY {x:Graph}(h:ly x≤1048576):SmGraph x:=by
 unfold ly at h
 exact ⟨pW (by omega),jh (by omega)⟩
theorem pZ {x:Graph}{a:Int}(i:Cap25 x)(b:0≤a)(h1:a≤1048576):Z34 x a=some (gC (ly x) a):=by
 obtain ⟨g,h⟩:=i
 unfold Z34 ly
 rw [jA b]
 rw [pX g b (by omega),aY]
 by_cases h2:gC (mV kl x.Nodes) a<0
 ·simp [h2]
 ·obtain ⟨e,m,j⟩:=j5 b h2
  rw [if_neg (by simpa using h2),if_neg h2]
  rw [iT h e (by omega),aY]
  by_cases h3:gC (x.Outs.length) (gC (mV kl x.Nodes) a)<0
  ·rw [if_pos (by simpa using h3),u3 h3 e]
  ·obtain ⟨q,r,l⟩:=j5 e h3
   rw [if_neg (by simpa using h3)]
theorem u7 (x:Graph)(h:SmGraph x):Z1w x=some x:=by
 unfold Z1w
 rw [u5 _ h.Nodes,aY,l3 _ h.Outs,aY]
theorem u9 (x:Graph)(h:SmGraph x):Z33 x x=some true:=by
 unfold Z33
 rw [u6 _ h.Nodes,aY,l4 _ h.Outs,aY]
 simp
end Go.Proofs.YthelanpdjajnbaaGreat
