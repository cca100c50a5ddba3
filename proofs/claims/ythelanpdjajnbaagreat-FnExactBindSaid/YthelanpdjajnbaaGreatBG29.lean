import Derived.Test.YthelanpdjajnbaaGreatBG13
import Derived.Test.YthelanpdjajnbaaGreatBnF
import Derived.Test.YthelanpdjajnbaaGreatPL1
set_option linter.unusedVariables false
set_option linter.unusedSimpArgs false
namespace Go.Proofs.YthelanpdjajnbaaGreat
open Go Go.Pg
theorem tV {c:UInt8}(h:97≤c.toNat∧c.toNat≤122):IntKind.wrap .u8 ((c.toNat:Int) - 97)=(c.toNat:Int) - 97:=by
 unfold IntKind.wrap
 simp [IntKind.bits,IntKind.signed]
 omega
theorem ri {g:aO}{k:Nat}(h:k<g.length):sub g (k:Int) ((k+1:Nat):Int)=[ix g (k:Int)]:=by
 unfold sub
 rw [Int.toNat_natCast,Int.toNat_natCast,List.take_succ_eq_append_getElem h,List.drop_append_of_le_length (by simp; omega),cD h]
 simp
theorem ya {gs:List aO}{dss:List (List Int)}{b:List aO×aO×Bool}{x:Nat}(I:b.1=gs)(Z:x<gs.length)(u:LT (ix gs (x:Int))){m:Nat}(Y:m≤100){s:aO×List Int}(h1:s.1.length≤m)(h2:s.2.length=26)(D:(ix gs (x:Int)).length=(ix dss (x:Int)).length) :
  (∃ s',lH (ix gs (x:Int)) (ix dss (x:Int)) s=some s'∧aW (fun s:aO×List Int×Int=>Z3_L2 dss b (x:Int) s.1 s.2.1 s.2.2) (s.1,s.2,0)=some (.inr (s'.1,s'.2))∧s'.1.length≤m+6∧s'.2.length=26) ∨
  (lH (ix gs (x:Int)) (ix dss (x:Int)) s=none∧∃ e,aW (fun s:aO×List Int×Int=>Z3_L2 dss b (x:Int) s.1 s.2.1 s.2.2) (s.1,s.2,0)=some (.inl e)∧e.2=false):=by
 obtain ⟨g,l⟩:∃ g,g=ix gs (x:Int):=⟨_,rfl⟩
 obtain ⟨ds,h⟩:∃ ds,ds=ix dss (x:Int):=⟨_,rfl⟩
 have a:ix b.1 (x:Int)=g:=by rw [I,l]
 rw [← l] at u D ⊢
 rw [← h] at D ⊢
 unfold lH
 rw [if_pos D]
 rcases jC (f:=fun s:aO×List Int×Int=>Z3_L2 dss b (x:Int) s.1 s.2.1 s.2.2) (fun s k=>lg s (ix g (k:Int)) (ix ds (k:Int))) (fun s i=>(s.1,s.2,i)) (fun s=>(s.1,s.2)) (fun e=>e.2=false) (fun j s=>s.1.length≤m+j∧s.2.length=26) g.length
  (fun j s F E=>by
   obtain ⟨i1,T⟩:=E
   have J:=u.2 _ (bH F)
   have L:=u.1
   have B:bt g (j:Int)=((ix g (j:Int)).toNat:Int):=rfl
   simp only [Z3_L2]
   rw [a,← h,if_pos (by simp; omega),if_pos (by omega),B,tV J,if_pos (by omega),if_pos (fun _=>by omega)]
   show (∃ s',lg s _ _=_∧_)∨_
   unfold lg
   by_cases c:lk s.2 (ix g (j:Int))≠0∧lk s.2 (ix g (j:Int))≠ix ds (j:Int)
   ·rw [if_pos c,if_pos (by unfold lk at c; simpa using c)]
    exact .inr ⟨rfl,_,rfl,rfl⟩
   ·rw [if_neg c]
    obtain ⟨r,U,G⟩:=o6 s.1 (ix g (j:Int))
    have O:((((ix g (j:Int)).toNat:Int) - 97)).toNat=(ix g (j:Int)).toNat - 97:=by omega
    have M:¬ (((ix s.2 (((ix g (j:Int)).toNat:Int) - 97)) != 0)&&((ix s.2 (((ix g (j:Int)).toNat:Int) - 97)) != (ix ds (j:Int))))=true:=by
     unfold lk at c; simpa using c
    refine .inl ⟨_,rfl,?_,?_,by simpa using T⟩
    ·rw [if_neg M,if_pos (by omega)]
     simp only [nm,Option.bind_some]
     rw [U,O]
     simp only [Option.bind_some]
     by_cases q:ix g (j:Int)∈s.1
     ·rw [if_neg (by simp; have:¬ r<0:=fun z=>G.1 z q; omega),if_pos q]
      simp only [Z3_J5]
      rw [cH (by unfold cI; omega)]
     ·rw [if_pos (decide_eq_true (G.2 q)),cH (by unfold cI; omega),if_pos (by omega),ri F,if_pos (by simp; omega),if_neg q]
      simp only [Z3_J5]
      rw [cH (by unfold cI; omega)]
    ·by_cases q:ix g (j:Int)∈s.1
     ·simp only [if_pos q]; omega
     ·simp only [if_neg q]; simp; omega)
  (fun s E=>by
   simp only [Z3_L2]
   rw [a,if_neg (by simp)])
  (s:=s) ⟨by omega,h2⟩ with ⟨s',a1,a2,a3,a4⟩|⟨a1,e,a2,a3⟩
 ·have:=u.1
  exact .inl ⟨s',a1,a2,by omega,a4⟩
 ·exact .inr ⟨a1,e,a2,a3⟩
theorem yb {gs:List aO}{dss:List (List Int)}{b:List aO×aO×Bool}(h:b.1=gs)(E:gs.length≤6)(r:∀ g∈gs,LT g)(D:gs.length=dss.length){s:aO×List Int}(h1:s.1.length≤6)(h2:s.2.length=26) :
  (∃ s',nj gs dss s=some s'∧aW (fun s:aO×List Int×Int=>Z3_L1 dss b s.1 s.2.1 s.2.2) (s.1,s.2,0)=some (.inr (s'.1,s'.2))∧s'.1.length≤42∧s'.2.length=26) ∨
  (nj gs dss s=none∧∃ e,aW (fun s:aO×List Int×Int=>Z3_L1 dss b s.1 s.2.1 s.2.2) (s.1,s.2,0)=some (.inl e)∧e.2=false):=by
 unfold nj
 rcases jC (f:=fun s:aO×List Int×Int=>Z3_L1 dss b s.1 s.2.1 s.2.2) (fun s k=>lH (ix gs (k:Int)) (ix dss (k:Int)) s) (fun s i=>(s.1,s.2,i)) (fun s=>(s.1,s.2)) (fun e=>e.2=false) (fun j s=>s.1.length≤6+6*j∧s.2.length=26) gs.length
  (fun j s q l=>by
   obtain ⟨u,B⟩:=l
   simp only [Z3_L1]
   rw [h,if_pos (by simp; omega),if_pos (by omega),if_pos (by omega)]
   by_cases c:(ix gs (j:Int)).length=(ix dss (j:Int)).length
   ·rw [if_neg (by simp; omega)]
    rcases ya (m:=6+6*j) h q (r _ (bH q)) (by omega) u B c with ⟨s',a1,a,a3,a4⟩|⟨a1,e,a,a3⟩
    ·rw [a]
     refine .inl ⟨s',a1,?_,by omega,a4⟩
     simp only [Option.bind_some,Z3_J6]
     rw [cH (by unfold cI; omega)]
    ·rw [a]
     exact .inr ⟨a1,e,rfl,a3⟩
   ·rw [if_pos (by simp; omega)]
    refine .inr ⟨by unfold lH; rw [if_neg c],_,rfl,rfl⟩)
  (fun s l=>by
   simp only [Z3_L1]
   rw [h,if_neg (by simp)])
  (s:=s) ⟨by omega,h2⟩ with ⟨s',a1,a,a3,a4⟩|⟨a1,e,a,a3⟩
 ·exact .inl ⟨s',a1,a,by omega,a4⟩
 ·exact .inr ⟨a1,e,a,a3⟩
theorem tW:∀ {f:aO} {c:UInt8} {j:Nat},j<f.idxOf c→∀ h:j<f.length,f[j]≠c
 | [],_,_,_,h=>by simp at h
 | b::l,c,j,hj,h=>by
  rw [List.idxOf_cons] at hj
  cases e:b==c with
  | true=>rw [e] at hj; simp at hj
  | false =>
   rw [e] at hj
   cases j with
   | zero=>simpa using e
   | succ j=>exact tW (f:=l) (by simp at hj; omega) (by simpa using h)
theorem yc {gs:List aO}{k i:Nat}{f:aO}(m:f.length<cI)(r:i<(ix gs (k:Int)).length):aW (fun s:Int=>Z2_L3 gs (k:Int) f (i:Int) s) 0=some ((f.idxOf (ix (ix gs (k:Int)) (i:Int)):Nat):Int):=by
 obtain ⟨c,g⟩:∃ c,c=ix (ix gs (k:Int)) (i:Int):=⟨_,rfl⟩
 rw [← g]
 have l:f.idxOf c≤f.length:=List.idxOf_le_length
 have a:bt (ix gs (k:Int)) (i:Int)=(c.toNat:Int):=by rw [g]; rfl
 have e:∀ j:Nat,(bt f (j:Int) != (c.toNat:Int))=!decide (ix f (j:Int)=c):=by
  intro j
  have:(bt f (j:Int)==(c.toNat:Int))=decide (ix f (j:Int)=c):=lb
  unfold bne; rw [this]
 refine fD (f:=fun s:Int=>Z2_L3 gs (k:Int) f (i:Int) s) (fun j=>(j:Int)) (f.idxOf c) (fun j h=>?_) ?_ rfl
 ·have b:j<f.length:=by omega
  simp only [Z2_L3]
  rw [if_pos (fun _=>by omega),if_pos (fun _=>by omega),a,e,cH (by omega),if_pos]
  have:ix f (j:Int)≠c:=by
   rw [cD b]; exact tW h b
  simp [this]; omega
 ·simp only [Z2_L3]
  rw [if_pos (fun z=>by simp at z; omega),if_pos (fun _=>by omega),a,e,if_neg]
  by_cases q:f.idxOf c<f.length
  ·have:ix f ((f.idxOf c:Nat):Int)=c:=by rw [cD q]; exact List.getElem_idxOf q
   simp [this]
  ·simp; omega
theorem lK {lens:List Int}(h:lens.length=26){c a:UInt8}(g:97≤c.toNat∧c.toNat≤122)(b:97≤a.toNat∧a.toNat≤122)(d:Int):lk (lens.set (c.toNat - 97) d) a=if a=c then d else lk lens a:=by
 unfold lk
 have e:((a.toNat:Int) - 97)=((a.toNat - 97:Nat):Int):=by omega
 rw [e,cD (by simp; omega),List.getElem_set]
 by_cases q:a=c
 ·rw [if_pos q,if_pos (by rw [q])]
 ·have:a.toNat≠c.toNat:=fun z=>q (UInt8.toNat_inj.1 z)
  rw [if_neg q,if_neg (by omega),cD (by omega)]
theorem rj:∀ {f:aO} {c:UInt8} {g h:UInt8→Int} {d:Int},f.Nodup→c∈f→h c=d→(∀ x∈f,x≠c→h x=g x)→(f.map g).set (f.idxOf c) d=f.map h
 | [],_,_,_,_,_,hm,_,_=>by simp at hm
 | b::l,c,g,h,d,hn,hm,h1,h2=>by
  rw [List.nodup_cons] at hn
  rw [List.idxOf_cons]
  by_cases q:b=c
  ·subst q
   simp only [beq_self_eq_true,cond_true,List.map_cons,List.set_cons_zero,h1]
   congr 1
   apply List.map_congr_left
   intro x a
   exact (h2 x (List.mem_cons_of_mem _ a) (fun z=>hn.1 (z▸a))).symm
  ·have e:(b==c)=false:=by simpa using q
   have i:c∈l:=by
    rcases List.mem_cons.1 hm with z | z
    ·exact absurd z.symm q
    ·exact z
   rw [e]
   simp only [cond_false,List.map_cons,List.set_cons_succ]
   rw [rj hn.2 i h1 (fun x a j=>h2 x (List.mem_cons_of_mem _ a) j),h2 b (List.mem_cons_self ..) q]
structure IS (s:aO×List Int):Prop where
 l:s.2.length=26
 n:s.1.Nodup
 c:∀ c∈s.1,97≤c.toNat∧c.toNat≤122
 z:∀ c:UInt8,97≤c.toNat→c.toNat≤122→c ∉ s.1→lk s.2 c=0
theorem rk {s s':aO×List Int}{c:UInt8}{d:Int}(e:IS s)(i:97≤c.toNat∧c.toNat≤122)(h:lg s c d=some s'):IS s'∧s'.1.length≤s.1.length+1:=by
 unfold lg at h
 split at h
 ·cases h
 ·cases h
  by_cases q:c∈s.1
  ·simp only [if_pos q]
   refine ⟨⟨by simpa using e.l,e.n,e.c,fun x h1 h2 g=>?_⟩,by omega⟩
   rw [lK e.l i ⟨h1,h2⟩,if_neg (fun z=>g (by rw [z]; exact q))]
   exact e.z x h1 h2 g
  ·simp only [if_neg q]
   refine ⟨⟨by simpa using e.l,?_,?_,fun x h1 h2 g=>?_⟩,by simp⟩
   ·rw [List.nodup_append]
    refine ⟨e.n,by simp,?_⟩
    intro a m b j
    simp at j; subst j
    exact fun z=>q (z▸m)
   ·intro x r
    rcases List.mem_append.1 r with z | z
    ·exact e.c x z
    ·simp at z; rw [z]; exact i
   ·simp at g
    rw [lK e.l i ⟨h1,h2⟩,if_neg g.2]
    exact e.z x h1 h2 g.1
theorem qb {f:aO}{g:UInt8→Int}{p:Nat}(h:p<f.length):ix (f.map g) (p:Int)=g f[p]:=by
 rw [cD (by simpa using h)]; simp
theorem tX {gs:List aO}{dss:List (List Int)}{x j:Nat}{s:aO×List Int}(B:IS s)(J:s.1.length≤100)(Z:j<(ix gs (x:Int)).length)(hl:(ix gs (x:Int)).length=(ix dss (x:Int)).length)(h6:(ix gs (x:Int)).length≤6)(g:97≤(ix (ix gs (x:Int)) (j:Int)).toNat∧(ix (ix gs (x:Int)) (j:Int)).toNat≤122) :
  (∃ s',lg s (ix (ix gs (x:Int)) (j:Int)) (ix (ix dss (x:Int)) (j:Int))=some s'∧Z2_L2 gs dss (x:Int) s.1 (s.1.map (lk s.2)) (j:Int)=some (.inl (s'.1,s'.1.map (lk s'.2),((j+1:Nat):Int)))) ∨
  (lg s (ix (ix gs (x:Int)) (j:Int)) (ix (ix dss (x:Int)) (j:Int))=none∧∃ e,Z2_L2 gs dss (x:Int) s.1 (s.1.map (lk s.2)) (j:Int)=some (.inr (.inl e))∧e.2.2=false):=by
 obtain ⟨c,m⟩:∃ c,c=ix (ix gs (x:Int)) (j:Int):=⟨_,rfl⟩
 obtain ⟨d,Y⟩:∃ d,d=ix (ix dss (x:Int)) (j:Int):=⟨_,rfl⟩
 rw [← m] at g ⊢
 rw [← Y]
 have F:=yc (gs:=gs) (k:=x) (i:=j) (f:=s.1) (by unfold cI; omega) Z
 rw [← m] at F
 simp only [Z2_L2]
 rw [if_pos (by simp; omega),F]
 simp only [Option.bind_some]
 have T:∀ (f:aO) (ls:List Int),f.Nodup→c∈f→s.1.idxOf c=f.idxOf c→ls=f.map (lk s.2)→(∀ y∈f,97≤y.toNat∧y.toNat≤122) →
   Z2_J9 dss (x:Int) (j:Int) ((s.1.idxOf c:Nat):Int) f ls=if lk s.2 c≠0∧lk s.2 c≠d then some (.inr (.inl ([],ls,false))) else some (.inl (f,f.map (lk (s.2.set (c.toNat - 97) d)),((j+1:Nat):Int))):=by
  intro f ls hn J hi u r
  have D:f.idxOf c<f.length:=List.idxOf_lt_length_iff.2 J
  have e:ix ls ((f.idxOf c:Nat):Int)=lk s.2 c:=by
   rw [u,qb D]; congr 1; exact List.getElem_idxOf D
  have a0:ls.length=f.length:=by rw [u]; simp
  unfold Z2_J9
  rw [hi,e,← Y,if_pos (by omega),if_pos (fun _=>by omega)]
  by_cases q:lk s.2 c≠0∧lk s.2 c≠d
  ·rw [if_pos q,if_pos (by simpa using q)]
  ·rw [if_neg q,if_neg (by simpa using q),if_pos (by omega),cH (by unfold cI; omega),Int.toNat_natCast,u,rj hn J (h:=lk (s.2.set (c.toNat - 97) d))]
   ·rw [lK B.l g g,if_pos rfl]
   ·intro y M O
    rw [lK B.l g (r y M),if_neg O]
 have R:∀ f,(if c∈s.1 then s.1 else s.1++[c])=f→(∀ z,z=(if lk s.2 c≠0∧lk s.2 c≠d then some (.inr (.inl ([],f.map (lk s.2),false))) else some (.inl (f,f.map (lk (s.2.set (c.toNat - 97) d)),((j+1:Nat):Int))):Option ((aO×(List Int)×Int)⊕((aO×(List Int)×Bool)⊕(aO×(List Int))))) →
   (∃ s',lg s c d=some s'∧z=some (.inl (s'.1,s'.1.map (lk s'.2),((j+1:Nat):Int))))∨(lg s c d=none∧∃ e,z=some (.inr (.inl e))∧e.2.2=false)):=by
  intro f F z G
  unfold lg
  by_cases q:lk s.2 c≠0∧lk s.2 c≠d
  ·rw [if_pos q] at G ⊢
   exact .inr ⟨rfl,_,G,rfl⟩
  ·rw [if_neg q] at G ⊢
   rw [F]
   exact .inl ⟨_,rfl,G⟩
 unfold Z2_J8
 by_cases q:c∈s.1
 ·have D:s.1.idxOf c<s.1.length:=List.idxOf_lt_length_iff.2 q
  rw [if_neg (by simp; omega),T s.1 _ B.n q rfl rfl B.c]
  exact R s.1 (if_pos q) _ rfl
 ·have D:s.1.idxOf c=s.1.length:=by
   have:¬ s.1.idxOf c<s.1.length:=fun z=>q (List.idxOf_lt_length_iff.1 z)
   have:s.1.idxOf c≤s.1.length:=List.idxOf_le_length
   omega
  have I:(s.1++[c]).idxOf c=s.1.length:=by
   rw [List.idxOf_append,if_neg q]; simp
  have L:(s.1++[c]).Nodup:=by
   rw [List.nodup_append]
   refine ⟨B.n,by simp,?_⟩
   intro a ha b U
   simp at U; subst U
   exact fun z=>q (z▸ha)
  have r:∀ y∈s.1++[c],97≤y.toNat∧y.toNat≤122:=by
   intro y M
   rcases List.mem_append.1 M with z | z
   ·exact B.c y z
   ·simp at z; rw [z]; exact g
  have E:s.1.map (lk s.2)++[0]=(s.1++[c]).map (lk s.2):=by
   rw [List.map_append]; simp [B.z c g.1 g.2 q]
  rw [if_pos (by rw [D]; simp),cH (by unfold cI; omega),if_pos (by omega),ri Z,← m,if_pos (by simp; omega),if_pos (by simp; omega),T (s.1++[c]) _ L (by simp) (by rw [D,I]) E r,E]
  exact R _ (if_neg q) _ rfl
theorem yd {gs:List aO}{dss:List (List Int)}{x:Nat}(h:LT (ix gs (x:Int))){m:Nat}(F:m≤90){s:aO×List Int}(h1:s.1.length≤m)(D:IS s)(r:(ix gs (x:Int)).length=(ix dss (x:Int)).length) :
  (∃ s',lH (ix gs (x:Int)) (ix dss (x:Int)) s=some s'∧aW (fun s:aO×List Int×Int=>Z2_L2 gs dss (x:Int) s.1 s.2.1 s.2.2) (s.1,s.1.map (lk s.2),0)=some (.inr (s'.1,s'.1.map (lk s'.2)))∧s'.1.length≤m+6∧IS s') ∨
  (lH (ix gs (x:Int)) (ix dss (x:Int)) s=none∧∃ e,aW (fun s:aO×List Int×Int=>Z2_L2 gs dss (x:Int) s.1 s.2.1 s.2.2) (s.1,s.1.map (lk s.2),0)=some (.inl e)∧e.2.2=false):=by
 unfold lH
 rw [if_pos r]
 have B:=h.1
 rcases jC (f:=fun s:aO×List Int×Int=>Z2_L2 gs dss (x:Int) s.1 s.2.1 s.2.2) (fun s k=>lg s (ix (ix gs (x:Int)) (k:Int)) (ix (ix dss (x:Int)) (k:Int))) (fun s i=>(s.1,s.1.map (lk s.2),i)) (fun s=>(s.1,s.1.map (lk s.2))) (fun e=>e.2.2=false) (fun j s=>s.1.length≤m+j∧IS s) (ix gs (x:Int)).length
  (fun j s l b=>by
   have g:=h.2 _ (bH l)
   rcases tX b.2 (by have:=b.1; omega) l r B g with ⟨s',a1,a⟩ | q
   ·obtain ⟨u,E⟩:=rk b.2 g a1
    exact .inl ⟨s',a1,a,by have:=b.1; omega,u⟩
   ·exact .inr q)
  (fun s b=>by
   simp only [Z2_L2]
   rw [if_neg (by simp)])
  (s:=s) ⟨by omega,D⟩ with ⟨s',a1,a,a3,a4⟩|⟨a1,e,a,a3⟩
 ·exact .inl ⟨s',a1,a,by omega,a4⟩
 ·exact .inr ⟨a1,e,a,a3⟩
theorem tY {gs:List aO}{dss:List (List Int)}(D:gs.length≤6)(h:∀ g∈gs,LT g)(B:gs.length=dss.length){s:aO×List Int}(h1:s.1.length≤6)(q:IS s) :
  (∃ s',nj gs dss s=some s'∧aW (fun s:aO×List Int×Int=>Z2_L1 gs dss s.1 s.2.1 s.2.2) (s.1,s.1.map (lk s.2),0)=some (.inr (s'.1,s'.1.map (lk s'.2)))∧s'.1.length≤42∧IS s') ∨
  (nj gs dss s=none∧∃ e,aW (fun s:aO×List Int×Int=>Z2_L1 gs dss s.1 s.2.1 s.2.2) (s.1,s.1.map (lk s.2),0)=some (.inl e)∧e.2.2=false):=by
 unfold nj
 rcases jC (f:=fun s:aO×List Int×Int=>Z2_L1 gs dss s.1 s.2.1 s.2.2) (fun s k=>lH (ix gs (k:Int)) (ix dss (k:Int)) s) (fun s i=>(s.1,s.1.map (lk s.2),i)) (fun s=>(s.1,s.1.map (lk s.2))) (fun e=>e.2.2=false) (fun j s=>s.1.length≤6+6*j∧IS s) gs.length
  (fun j s l b=>by
   obtain ⟨r,u⟩:=b
   simp only [Z2_L1]
   rw [if_pos (by simp; omega),if_pos (by omega),if_pos (by omega)]
   by_cases c:(ix gs (j:Int)).length=(ix dss (j:Int)).length
   ·rw [if_neg (by simp; omega)]
    rcases yd (m:=6+6*j) (h _ (bH l)) (by omega) r u c with ⟨s',a1,a,a3,a4⟩|⟨a1,e,a,a3⟩
    ·rw [a]
     refine .inl ⟨s',a1,?_,by omega,a4⟩
     simp only [Option.bind_some,Z2_J10]
     rw [cH (by unfold cI; omega)]
    ·rw [a]
     exact .inr ⟨a1,e,rfl,a3⟩
   ·rw [if_pos (by simp; omega)]
    refine .inr ⟨by unfold lH; rw [if_neg c],_,rfl,rfl⟩)
  (fun s b=>by
   simp only [Z2_L1]
   rw [if_neg (by simp)])
  (s:=s) ⟨by omega,q⟩ with ⟨s',a1,a,a3,a4⟩|⟨a1,e,a,a3⟩
 ·exact .inl ⟨s',a1,a,by omega,a4⟩
 ·exact .inr ⟨a1,e,a,a3⟩
theorem o8 {S:Type}{st:S→Nat→Option S}(I:Nat→S→Prop){s:S}(a:I 0 s):∀ (n:Nat),(∀ j s s',j<n→I j s→st s j=some s'→I (j+1) s')→∀ {s':S},qa st n s=some s'→I n s'
 | 0,_,s',h=>by cases h; exact a
 | n+1,hs,s',h=>by
  rw [qa] at h
  obtain ⟨m,h1,h2⟩:=bd h
  exact hs n m s' (by omega) (o8 I a n (fun j s s' b=>hs j s s' (by omega)) h1) h2
structure Ext (s s':aO×List Int):Prop where
 i:IS s'
 p:∃ t,s'.1=s.1++t
 k:∀ c:UInt8,97≤c.toNat→c.toNat≤122→lk s.2 c≠0→lk s'.2 c=lk s.2 c
theorem Ext.rfl_ {s:aO×List Int}(h:IS s):Ext s s:=⟨h,⟨[],by simp⟩,fun _ _ _ _=>rfl⟩
theorem Ext.trans {a b c:aO×List Int}(h1:Ext a b)(h2:Ext b c):Ext a c:=by
 obtain ⟨t,e⟩:=h1.p
 obtain ⟨u,g⟩:=h2.p
 refine ⟨h2.i,⟨t++u,by rw [g,e,List.append_assoc]⟩,fun x a b h=>?_⟩
 have:=h1.k x a b h
 rw [h2.k x a b (by rw [this]; exact h),this]
theorem tZ {s s':aO×List Int}{c:UInt8}{d:Int}(j:IS s)(g:97≤c.toNat∧c.toNat≤122)(h:lg s c d=some s'):Ext s s'∧c∈s'.1∧lk s'.2 c=d∧∀ x∈s'.1,x∈s.1∨x=c:=by
 have u:=(rk j g h).1
 unfold lg at h
 split at h
 ·cases h
 ·rename_i q
  cases h
  refine ⟨⟨u,?_,fun x a b r=>?_⟩,?_,?_,?_⟩
  ·by_cases m:c∈s.1
   ·exact ⟨[],by simp [m]⟩
   ·exact ⟨[c],by simp [m]⟩
  ·show lk (s.2.set _ _) x=_
   rw [lK j.l g ⟨a,b⟩]
   by_cases e:x=c
   ·subst e
    rw [if_pos rfl]
    exact Classical.byContradiction fun z=>q ⟨r,fun w=>z w.symm⟩
   ·rw [if_neg e]
  ·by_cases m:c∈s.1<;>simp [m]
  ·show lk (s.2.set _ _) c=_
   rw [lK j.l g g,if_pos rfl]
  ·intro x i
   by_cases m:c∈s.1
   ·simp only [if_pos m] at i; exact .inl i
   ·simp only [if_neg m] at i; simpa using i
theorem t' {g:aO}{ds:List Int}{s s':aO×List Int}(M:IS s)(E:LT g)(J:∀ d∈ds,d≠0)(h:lH g ds s=some s') :
  Ext s s'∧g.length=ds.length∧(∀ j:Nat,j<g.length→ix g (j:Int)∈s'.1∧lk s'.2 (ix g (j:Int))=ix ds (j:Int))∧∀ x∈s'.1,x∈s.1∨x∈g:=by
 unfold lH at h
 split at h
 ·rename_i L
  obtain ⟨a,b,c⟩:=o8 (fun n z=>Ext s z∧(∀ j:Nat,j<n→ix g (j:Int)∈z.1∧lk z.2 (ix g (j:Int))=ix ds (j:Int))∧∀ x∈z.1,x∈s.1∨x∈g) ⟨Ext.rfl_ M,fun j F=>absurd F (Nat.not_lt_zero _),fun x B=>.inl B⟩ g.length
   (fun n z U G I T=>by
    obtain ⟨a,b,c⟩:=I
    obtain ⟨p,q,r,t⟩:=tZ a.i (E.2 _ (bH G)) T
    refine ⟨a.trans p,fun j F=>?_,fun x B=>?_⟩
    ·by_cases e:j=n
     ·subst e; exact ⟨q,r⟩
     ·obtain ⟨m,l⟩:=b j (by omega)
      obtain ⟨u,O⟩:=p.p
      have D:=E.2 _ (bH (show j<g.length by omega))
      refine ⟨by rw [O]; exact List.mem_append_left _ m,?_⟩
      rw [p.k _ D.1 D.2 (by rw [l]; exact J _ (bH (by omega))),l]
    ·rcases t x B with y | y
     ·exact c x y
     ·rw [y]; exact .inr (bH G)) h
  exact ⟨a,L,b,c⟩
 ·cases h
theorem u0 {gs:List aO}{dss:List (List Int)}{s s':aO×List Int}(M:IS s)(U:gs.length=dss.length)(G:∀ g∈gs,LT g)(F:∀ ds∈dss,∀ d∈ds,d≠0)(h:nj gs dss s=some s') :
  Ext s s'∧(∀ x:Nat,x<gs.length→(ix gs (x:Int)).length=(ix dss (x:Int)).length∧∀ j:Nat,j<(ix gs (x:Int)).length→ix (ix gs (x:Int)) (j:Int)∈s'.1∧lk s'.2 (ix (ix gs (x:Int)) (j:Int))=ix (ix dss (x:Int)) (j:Int))∧∀ y∈s'.1,y∈s.1∨∃ g∈gs,y∈g:=by
 unfold nj at h
 exact o8 (fun n z=>Ext s z∧(∀ x:Nat,x<n→(ix gs (x:Int)).length=(ix dss (x:Int)).length∧∀ j:Nat,j<(ix gs (x:Int)).length→ix (ix gs (x:Int)) (j:Int)∈z.1∧lk z.2 (ix (ix gs (x:Int)) (j:Int))=ix (ix dss (x:Int)) (j:Int))∧∀ y∈z.1,y∈s.1∨∃ g∈gs,y∈g) ⟨Ext.rfl_ M,fun j B=>absurd B (Nat.not_lt_zero _),fun x J=>.inl J⟩ gs.length
  (fun n z Y I L T=>by
   obtain ⟨a,b,c⟩:=L
   have D:=G _ (bH I)
   obtain ⟨p,q,r,t⟩:=t' a.i D (F _ (bH (by omega))) T
   refine ⟨a.trans p,fun x J=>?_,fun y O=>?_⟩
   ·by_cases e:x=n
    ·subst e; exact ⟨q,r⟩
    ·obtain ⟨l,m⟩:=b x (by omega)
     refine ⟨l,fun j B=>?_⟩
     obtain ⟨u,v⟩:=m j B
     obtain ⟨w,hw⟩:=p.p
     have E:=(G _ (bH (show x<gs.length by omega))).2 _ (bH B)
     refine ⟨by rw [hw]; exact List.mem_append_left _ u,?_⟩
     rw [p.k _ E.1 E.2 (by rw [v]; exact F _ (bH (by omega)) _ (bH (by omega))),v]
   ·rcases t y O with w | w
    ·exact c y w
    ·exact .inr ⟨_,bH I,w⟩) h
theorem vJ {ds:List Int}{k:Int}(M:ds.length≤100)(h1:∀ d∈ds,1≤d∧d≤4096)(e:0≤k)(h:k≤65536):Zj ds k=some (hO ds k):=by
 have a:∀ j,1≤pr (ds.drop j):=fun j=>fU fun d g=>(h1 d (List.mem_of_mem_drop g)).1
 unfold Zj
 rw [if_pos (by omega)]
 have:=fD (f:=fun s:Int×List Int×Int=>Zj_L1 ds s.1 s.2.1 s.2.2) (r:=hO ds k)
  (fun j=>(k / pr (ds.drop (ds.length - j)),List.replicate (ds.length - j) 0++hO (ds.drop (ds.length - j)) k,(ds.length:Int) - 1 - j)) ds.length
  (fun j L=>by
   obtain ⟨i,D⟩:∃ i,i=ds.length - (j+1):=⟨_,rfl⟩
   have m:ds.length - j=i+1:=by omega
   have q:(ds.length:Int) - 1 - (j:Int)=(i:Int):=by omega
   have b:i<ds.length:=by omega
   have E:=h1 _ (bH b)
   have F:=a (i+1)
   have g:ds.drop i=ix ds (i:Int)::ds.drop (i+1):=by rw [List.drop_eq_getElem_cons b,cD b]
   have l:0≤k / pr (ds.drop (i+1)):=Int.ediv_nonneg e (by omega)
   have G:k / pr (ds.drop (i+1))≤65536:=Int.le_trans (Int.ediv_le_self _ e) h
   simp only [Zj_L1,m,q,← D]
   rw [if_pos (by simp),if_pos (by omega),if_pos (by omega),if_pos (by simp; omega)]
   have u:(k / pr (ds.drop (i+1))).tdiv (ix ds (i:Int))=k / pr (ds.drop i):=by
    rw [Int.tdiv_eq_ediv_of_nonneg l,g]; exact (tl F E.1).1.symm
   have B:(k / pr (ds.drop (i+1))).tmod (ix ds (i:Int))=k / pr (ds.drop (i+1)) % ix ds (i:Int):=Int.tmod_eq_emod_of_nonneg l
   have I:0≤k / pr (ds.drop i):=Int.ediv_nonneg e (by have:=a i; omega)
   have J:k / pr (ds.drop i)≤65536:=Int.le_trans (Int.ediv_le_self _ e) h
   rw [u,B,bD (by omega) (by omega),bD (by omega) (by omega)]
   congr 4
   ·rw [g,List.set_append_left _ _ (by simp),List.replicate_succ',List.set_append_right _ _ (by simp)]
    simp [hO]
   ·omega)
  (by
   simp only [Zj_L1,Nat.sub_self,List.drop_zero,List.replicate_zero,List.nil_append]
   rw [if_neg (by simp; omega)])
  (s:=(k,List.replicate (ds.length:Int).toNat 0,aK ((ds.length:Int) - 1))) (by
   rw [bD (by omega) (by omega)]
   simp [pr,hO])
 rw [this]
 rfl
def wk (ls:List Int)(s:Int)(j:Nat):Option Int:=if s*ix ls (j:Int)>65536 then none else some (s*ix ls (j:Int))
theorem rl {ls:List Int}{j:Nat}(h:j<ls.length):pr (ls.take (j+1))=pr (ls.take j)*ix ls (j:Int):=by
 rw [List.take_succ_eq_append_getElem h,mU,cD h]; simp [pr]
theorem BN {ls:List Int}(h:∀ d∈ls,1≤d):∀ n,n≤ls.length→qa (wk ls) n 1=if pr (ls.take n)≤65536 then some (pr (ls.take n)) else none
 | 0,_=>by simp [qa,pr]
 | n+1,hn=>by
  have i:1≤pr (ls.take n):=fU fun d g=>h d (List.mem_of_mem_take g)
  have g:=h _ (bH (show n<ls.length by omega))
  rw [qa,BN h n (by omega),rl (by omega)]
  by_cases c:pr (ls.take n)≤65536
  ·rw [if_pos c]
   simp only [Option.bind_some,wk]
   by_cases e:pr (ls.take n)*ix ls (n:Int)≤65536
   ·rw [if_neg (by omega),if_pos e]
   ·rw [if_pos (by omega),if_neg e]
  ·rw [if_neg c,if_neg]
   ·rfl
   ·have:=j0 (a:=pr (ls.take n)) (b:=ix ls (n:Int)) (by omega) g
    omega
theorem ye {ls:List Int}(u:ls.length≤100)(h:∀ d∈ls,1≤d∧d≤4096) :
  (pr ls≤65536∧aW (fun s:Int×Int=>Z2_L4 ls s.1 s.2) (1,0)=some (.inr ())) ∨
  (¬ pr ls≤65536∧∃ e,aW (fun s:Int×Int=>Z2_L4 ls s.1 s.2) (1,0)=some (.inl e)∧e.2.2=false):=by
 have g:=BN (fun d m=>(h d m).1) ls.length (Nat.le_refl _)
 rw [List.take_length] at g
 rcases jC (f:=fun s:Int×Int=>Z2_L4 ls s.1 s.2) (wk ls) (fun s i=>(s,i)) (fun _=>()) (fun e=>e.2.2=false) (fun j s=>1≤s∧s≤65536) ls.length
  (fun j s q l=>by
   have r:=h _ (bH q)
   simp only [Z2_L4]
   rw [if_pos (by simp; omega),if_pos (by omega),iR (by omega) (by omega) (by omega) (by omega),cH (by unfold cI; omega)]
   unfold wk
   by_cases c:s*ix ls (j:Int)>65536
   ·rw [if_pos c,if_pos (decide_eq_true c)]
    exact .inr ⟨rfl,_,rfl,rfl⟩
   ·rw [if_neg c,if_neg (by simpa using c)]
    have:=j0 (a:=s) (b:=ix ls (j:Int)) (by omega) r.1
    exact .inl ⟨_,rfl,rfl,by omega,by omega⟩)
  (fun s l=>by simp only [Z2_L4]; rw [if_neg (by simp)])
  (s:=1) ⟨by omega,by omega⟩ with ⟨s',a1,a2,a3⟩|⟨a1,e,a2,a3⟩
 ·rw [g] at a1
  refine .inl ⟨?_,a2⟩
  split at a1
  ·assumption
  ·cases a1
 ·rw [g] at a1
  refine .inr ⟨?_,e,a2,a3⟩
  split at a1
  ·cases a1
  ·assumption
theorem yf {f:aO}{lens:List Int}(I:f.length≤100)(D:∀ c∈f,97≤c.toNat∧c.toNat≤122)(h:∀ d∈f.map (lk lens),1≤d∧d≤4096) :
  (pr (f.map (lk lens))≤65536∧aW (fun s:List Int×Int×Int=>Z3_L3 f lens s.1 s.2.1 s.2.2) ([],1,0)=some (.inr (f.map (lk lens)))) ∨
  (¬ pr (f.map (lk lens))≤65536∧∃ e,aW (fun s:List Int×Int×Int=>Z3_L3 f lens s.1 s.2.1 s.2.2) ([],1,0)=some (.inl e)∧e.2=false):=by
 obtain ⟨ls,g⟩:∃ ls,ls=f.map (lk lens):=⟨_,rfl⟩
 rw [← g] at h ⊢
 have E:ls.length=f.length:=by rw [g]; simp
 have q:=BN (fun d B=>(h d B).1) ls.length (Nat.le_refl _)
 rw [List.take_length] at q
 rcases jC (f:=fun s:List Int×Int×Int=>Z3_L3 f lens s.1 s.2.1 s.2.2) (wk ls) (fun s i=>(ls.take i.toNat,s,i)) (fun _=>ls) (fun e=>e.2=false) (fun j s=>1≤s∧s≤65536) ls.length
  (fun j s m r=>by
   have F:=h _ (bH m)
   have u:=D _ (bH (show j<f.length by omega))
   have G:ix lens (((ix f (j:Int)).toNat:Int) - 97)=ix ls (j:Int):=by
    rw [g,qb (by omega),cD (xs:=f) (by omega)]; rfl
   have l:bt f (j:Int)=((ix f (j:Int)).toNat:Int):=rfl
   simp only [Z3_L3]
   rw [if_pos (by simp; omega),if_pos (by omega),l,tV u,if_pos (by omega),G,if_pos (by simp; omega),iR (by omega) (by omega) (by omega) (by omega),cH (by unfold cI; omega)]
   unfold wk
   by_cases c:s*ix ls (j:Int)>65536
   ·rw [if_pos c,if_pos (decide_eq_true c)]
    exact .inr ⟨rfl,_,rfl,rfl⟩
   ·rw [if_neg c,if_neg (by simpa using c)]
    have:=j0 (a:=s) (b:=ix ls (j:Int)) (by omega) F.1
    refine .inl ⟨_,rfl,?_,by omega,by omega⟩
    rw [Int.toNat_natCast,Int.toNat_natCast,List.take_succ_eq_append_getElem m,cD m])
  (fun s r=>by simp only [Z3_L3]; rw [if_neg (by simp; omega)]; simp)
  (s:=1) ⟨by omega,by omega⟩ with ⟨s',a1,a2,a3⟩|⟨a1,e,a2,a3⟩
 ·rw [q] at a1
  refine .inl ⟨?_,a2⟩
  split at a1
  ·assumption
  ·cases a1
 ·rw [q] at a1
  refine .inr ⟨?_,e,a2,a3⟩
  split at a1
  ·cases a1
  ·assumption
theorem nC {f:form}{g:aO}{p:List Int}(e:f.order.length≤100)(h:g.length≤p.length)(q:p.length≤100):∃ r,Zl f g p=some r:=by
 unfold Zl
 rw [if_pos (by omega)]
 obtain ⟨r,h1,h2⟩:=iK (f:=fun s:List Int×Int=>Zl_L1 f g p s.1 s.2) (fun j s=>s.1.length=f.order.length∧s.2=(j:Int)) f.order.length (Post:=fun _=>True)
  (fun j s l a=>by
   obtain ⟨x,i⟩:=s
   obtain ⟨h1,rfl⟩:=a
   dsimp only at h1
   simp only [Zl_L1]
   rw [if_pos (by simp; omega)]
   obtain ⟨r,g1,b⟩:=iK (f:=fun s:List Int×Int=>Zl_L2 f g p (j:Int) s.1 s.2) (fun k s=>s.1.length=f.order.length∧s.2=(k:Int)) g.length (Post:=fun r=>r.length=f.order.length)
    (fun k s m a=>by
     obtain ⟨x,i⟩:=s
     obtain ⟨h1,rfl⟩:=a
     dsimp only at h1
     simp only [Zl_L2,Zl_J5]
     rw [if_pos (by simp; omega),if_pos (by omega),if_pos (by omega)]
     split
     ·rw [if_pos (by simp; omega),if_pos (by omega)]
      exact ⟨_,rfl,by simpa using h1,by rw [cH (by unfold cI; omega)]⟩
     ·exact ⟨_,rfl,h1,by rw [cH (by unfold cI; omega)]⟩)
    (fun s a=>by
     obtain ⟨x,i⟩:=s
     obtain ⟨h1,rfl⟩:=a
     simp only [Zl_L2]
     rw [if_neg (by simp)]
     exact ⟨_,rfl,h1⟩)
    (s:=(x,0)) ⟨h1,rfl⟩
   rw [g1]
   exact ⟨_,rfl,b,by rw [cH (by unfold cI; omega)]⟩)
  (fun s a=>by
   obtain ⟨x,i⟩:=s
   obtain ⟨h1,rfl⟩:=a
   simp only [Zl_L1]
   rw [if_neg (by simp)]
   exact ⟨_,rfl,trivial⟩)
  (s:=(List.replicate (f.order.length:Int).toNat 0,0)) ⟨by simp,rfl⟩
 rw [h1]
 exact ⟨r,rfl⟩
def p9 (gs:List aO)(o:aO)(dss:List (List Int))(s:aO×List Int):Prop:=nj gs dss (o,List.replicate 26 0)=some s∧pr (s.1.map (lk s.2))≤65536
theorem qc {o:aO}(b:o.Nodup)(a:∀ c∈o,97≤c.toNat∧c.toNat≤122):IS (o,List.replicate 26 0):=by
 refine ⟨rfl,b,a,fun c h1 h2 _=>?_⟩
 unfold lk
 have e:((c.toNat:Int) - 97)=((c.toNat - 97:Nat):Int):=by omega
 rw [e,cD (by rw [List.length_replicate]; omega)]
 exact List.getElem_replicate _
theorem vK {o:aO}(g:∀ c∈o,97≤c.toNat∧c.toNat≤122):List.replicate (o.length:Int).toNat (0:Int)=o.map (lk (List.replicate 26 0)):=by
 rw [Int.toNat_natCast]
 symm
 rw [List.eq_replicate_iff]
 refine ⟨by simp,fun b a=>?_⟩
 obtain ⟨c,h,rfl⟩:=List.mem_map.1 a
 obtain ⟨h1,h2⟩:=g c h
 unfold lk
 have e:((c.toNat:Int) - 97)=((c.toNat - 97:Nat):Int):=by omega
 rw [e,cD (by rw [List.length_replicate]; omega)]
 exact List.getElem_replicate _
theorem n0 {gs:List aO}{o:aO}(h:∀ i∈List.range o.length,OL gs o i):o.Nodup:=by
 refine List.pairwise_iff_getElem.2 fun i j g a b e=>?_
 have:=(h j (List.mem_range.2 a)).2
 rw [cD a] at this
 refine this ?_
 rw [← e,List.mem_take_iff_getElem]
 exact ⟨i,by omega,rfl⟩
structure Laid (gs:List aO)(o:aO)(dss:List (List Int))(s:aO×List Int):Prop where
 i:IS s
 l:s.1.length≤42
 p:∃ t,s.1=o++t
 g:∀ x:Nat,x<gs.length→(ix gs (x:Int)).length=(ix dss (x:Int)).length∧∀ j:Nat,j<(ix gs (x:Int)).length→ix (ix gs (x:Int)) (j:Int)∈s.1∧lk s.2 (ix (ix gs (x:Int)) (j:Int))=ix (ix dss (x:Int)) (j:Int)
 d:∀ d∈s.1.map (lk s.2),1≤d∧d≤4096
theorem o9 {gs:List aO}{o:aO}{dss:List (List Int)}{s:aO×List Int}(hp:PO gs o)(L:gs.length=dss.length)(I:∀ ds∈dss,eK ds)(h:nj gs dss (o,List.replicate 26 0)=some s):Laid gs o dss s:=by
 obtain ⟨p1,T,U,Y⟩:=hp
 have M:=qc (n0 Y) T.2
 obtain ⟨a,b,c⟩:=u0 M L U (fun ds E d B=>by have:=(I ds E).2.1 d B; omega) h
 have m:s.1.length≤42:=by
  rcases tY p1 U L (s:=(o,List.replicate 26 0)) T.1 M with ⟨s',r,_,q3,_⟩|⟨r,_⟩
  ·rw [h] at r; cases r; exact q3
  ·rw [h] at r; cases r
 refine ⟨a.i,m,a.p,b,fun d D=>?_⟩
 obtain ⟨y,hy,rfl⟩:=List.mem_map.1 D
 have:∃ g∈gs,y∈g:=by
  rcases c y hy with q | q
  ·obtain ⟨k,J,e⟩:=List.getElem_of_mem q
   have:=(Y k (List.mem_range.2 J)).1
   rw [cD J,e] at this
   exact this
  ·exact q
 obtain ⟨g,Z,G⟩:=this
 obtain ⟨x,O,rfl⟩:=List.getElem_of_mem Z
 obtain ⟨j,F,rfl⟩:=List.getElem_of_mem G
 have u:=b x O
 rw [cD O] at u
 have l:=(u.2 j F).2
 rw [cD F] at l
 rw [l]
 exact (I _ (bH (show x<dss.length by omega))).2.mem (bH (by rw [← u.1]; exact F))
theorem rT {gs:List aO}{o:aO}{dss:List (List Int)}(u:PO gs o)(j:gs.length=dss.length)(r:∀ ds∈dss,eK ds) :
  (∃ s,p9 gs o dss s∧Z2 gs o dss=some (s.1,s.1.map (lk s.2),true))∨((∀ s,¬ p9 gs o dss s)∧∃ e,Z2 gs o dss=some e∧e.2.2=false):=by
 obtain ⟨p1,b,l,m⟩:=u
 have B:=qc (n0 m) b.2
 have E:=b.1
 unfold Z2
 rw [if_pos (by omega),vK b.2]
 rcases tY p1 l j (s:=(o,List.replicate 26 0)) b.1 B with ⟨s,a1,a,a3,a4⟩|⟨a1,e,a,a3⟩
 ·have q:=o9 ⟨p1,b,l,m⟩ j r a1
  simp only at a
  rw [a]
  simp only [Option.bind_some,Z2_J11]
  rcases ye (ls:=s.1.map (lk s.2)) (by simp; omega) q.d with ⟨h,i⟩|⟨h,e,i,D⟩
  ·rw [i]
   exact .inl ⟨s,⟨a1,h⟩,rfl⟩
  ·rw [i]
   refine .inr ⟨fun s' g=>?_,e,rfl,D⟩
   have:=g.1
   rw [a1] at this; cases this
   exact h g.2
 ·simp only at a
  rw [a]
  refine .inr ⟨fun s' g=>?_,e,rfl,a3⟩
  have:=g.1
  rw [a1] at this; cases this
theorem u3 {f:aO}{dss:List (List Int)}(hb:f.length≤1048576)(T:∀ ds∈dss,eK ds) :
  ((parts f).2.2=true∧(parts f).1.length=dss.length∧∃ s,p9 (parts f).1 (parts f).2.1 dss s∧eK ((s.1.map (lk s.2)).take (parts f).2.1.length)∧∃ r,Z3 f dss=some (r,true)∧r.dims=(s.1.map (lk s.2)).take (parts f).2.1.length) ∨
  (¬ ((parts f).2.2=true∧(parts f).1.length=dss.length∧∃ s,p9 (parts f).1 (parts f).2.1 dss s∧eK ((s.1.map (lk s.2)).take (parts f).2.1.length))∧∃ r,Z3 f dss=some (r,false)):=by
 obtain ⟨b,B⟩:∃ b,b=parts f:=⟨_,rfl⟩
 have G:b.2.2=true→PO b.1 b.2.1:=by
  rw [B]; unfold parts
  split
  ·intro h; cases h
  ·split
   ·intro _; assumption
   ·intro h; cases h
 unfold Z3
 rw [vH hb,← B]
 simp only [Option.bind_some]
 by_cases a:b.2.2=true∧b.1.length=dss.length
 ·obtain ⟨a,D⟩:=a
  rw [if_neg (by simp [a,D])]
  have hP:=G a
  obtain ⟨p1,J,L,p4⟩:=hP
  have hs:=qc (n0 p4) J.2
  rcases yb (gs:=b.1) (b:=b) (dss:=dss) rfl p1 L D (s:=(b.2.1,List.replicate 26 0)) J.1 rfl with ⟨s,a1,u,a3,a4⟩|⟨a1,e,u,a3⟩
  ·have m:=o9 ⟨p1,J,L,p4⟩ D T a1
   simp only at u
   rw [u]
   simp only [Option.bind_some,Z3_J7]
   rcases yf (f:=s.1) (lens:=s.2) (by omega) m.i.c m.d with ⟨M,O⟩|⟨M,e,O,w3⟩
   ·rw [O]
    simp only [Option.bind_some,Z3_J8]
    obtain ⟨t,ht⟩:=m.p
    have a0:b.2.1.length≤(s.1.map (lk s.2)).length:=by rw [ht]; simp
    have Z:(s.1.map (lk s.2)).length≤42:=by simpa using m.l
    rw [if_pos (by omega),l8,eX (by simp; omega)]
    simp only [Option.bind_some]
    rw [hN (by simp only [List.length_take]; unfold cI; omega)]
    simp only [Option.bind_some]
    by_cases c3:eK ((s.1.map (lk s.2)).take b.2.1.length)
    ·rw [decide_eq_true c3,if_neg (by simp)]
     refine .inl ⟨a,D,s,⟨a1,M⟩,c3,?_⟩
     obtain ⟨r,h1,_⟩:=iK (f:=fun z:List (List Int)×Int=>Z3_L4 dss b s.1 (s.1.map (lk s.2)) ((s.1.map (lk s.2)).take b.2.1.length) z.1 z.2) (fun j z=>z.1.length=j∧z.2=(j:Int)) b.1.length (Post:=fun _=>True)
      (fun j z Y E=>by
       obtain ⟨x,i⟩:=z
       obtain ⟨h1,rfl⟩:=E
       dsimp only at h1
       simp only [Z3_L4]
       have F:=T _ (bH (show j<dss.length by omega))
       rw [if_pos (by simp; omega),if_pos (by omega),if_pos (by omega),nU F]
       simp only [Option.bind_some]
       have a5:=(m.g j Y).1
       have U:=(L _ (bH Y)).1
       obtain ⟨q,I⟩:=nC (f:=(⟨b.1,b.2.1,s.1,s.1.map (lk s.2),(s.1.map (lk s.2)).take b.2.1.length,x,[]⟩:form)) (g:=ix b.1 (j:Int)) (p:=eQ (ix dss (j:Int))) (by have:=m.l; show s.1.length≤100; omega) (by rw [dJ]; omega) (by rw [dJ]; omega)
       rw [I]
       simp only [Option.bind_some]
       rw [if_pos (by simp; omega),cH (by unfold cI; omega)]
       exact ⟨_,rfl,by simp; omega,rfl⟩)
      (fun z E=>by
       obtain ⟨x,i⟩:=z
       obtain ⟨h1,rfl⟩:=E
       simp only [Z3_L4]
       rw [if_neg (by simp)]
       exact ⟨_,rfl,trivial⟩)
      (s:=([],0)) ⟨rfl,rfl⟩
     rw [h1]
     simp only [Option.bind_some,Z3_J9]
     rw [nU c3]
     simp only [Option.bind_some]
     obtain ⟨q,I⟩:=nC (f:=(⟨b.1,b.2.1,s.1,s.1.map (lk s.2),(s.1.map (lk s.2)).take b.2.1.length,r,[]⟩:form)) (g:=b.2.1) (p:=eQ ((s.1.map (lk s.2)).take b.2.1.length)) (by have:=m.l; show s.1.length≤100; omega) (by rw [dJ]; simp only [List.length_take]; omega) (by rw [dJ]; simp only [List.length_take]; omega)
     rw [I]
     exact ⟨_,rfl,rfl⟩
    ·rw [decide_eq_false c3,if_pos (by simp)]
     refine .inr ⟨?_,_,rfl⟩
     rintro ⟨_,_,s',h1,h2⟩
     have:=h1.1
     rw [a1] at this; cases this
     exact c3 h2
   ·rw [O]
    obtain ⟨e1,e2⟩:=e
    simp only at w3; subst w3
    refine .inr ⟨?_,_,rfl⟩
    rintro ⟨_,_,s',h1,h2⟩
    have:=h1.1
    rw [a1] at this; cases this
    exact M h1.2
  ·simp only at u
   rw [u]
   obtain ⟨e1,e2⟩:=e
   simp only at a3; subst a3
   refine .inr ⟨?_,_,rfl⟩
   rintro ⟨_,_,s',h1,h2⟩
   have:=h1.1
   rw [a1] at this; cases this
 ·rw [if_pos]
  ·exact .inr ⟨fun z=>a ⟨z.1,z.2.1⟩,_,rfl⟩
  ·cases q:b.2.2
   ·rfl
   ·have:b.1.length≠dss.length:=fun z=>a ⟨q,z⟩
    simp; omega
theorem u4 {g f:aO}{vs:List Int}(L:g.length≤6)(J:f.length≤42)(M:vs.length=f.length)(I:f.Nodup)(G:∀ c∈g,c∈f):Zg g f vs=some (g.map fun c=>ix vs ((f.idxOf c:Nat):Int)):=by
 unfold Zg
 rw [fD (f:=fun s:List Int×Int=>Zg_L1 g f vs s.1 s.2) (r:=g.map fun c=>ix vs ((f.idxOf c:Nat):Int)) (fun i=>((g.take i).map fun c=>ix vs ((f.idxOf c:Nat):Int),(i:Int))) g.length
  (fun i B=>by
   obtain ⟨c,l⟩:∃ c,c=g[i]:=⟨_,rfl⟩
   have m:ix g (i:Int)=c:=by rw [cD B,l]
   have u:c∈f:=G c (by rw [l]; exact List.getElem_mem B)
   have E:f.idxOf c<f.length:=List.idxOf_lt_length_iff.2 u
   obtain ⟨h,b⟩:∃ h,h=(g.take i).map fun c=>ix vs ((f.idxOf c:Nat):Int):=⟨_,rfl⟩
   have F:h.length≤6:=by rw [b]; simp; omega
   simp only [Zg_L1]
   rw [if_pos (by simp; omega),← b]
   rw [fD (f:=fun s:List Int×Int=>Zg_L2 g f vs (i:Int) s.1 s.2) (r:=h++[ix vs ((f.idxOf c:Nat):Int)]) (fun k=>(h++(if f.idxOf c<k then [ix vs ((f.idxOf c:Nat):Int)] else []),(k:Int))) f.length
    (fun k D=>by
     have j:(bt f (k:Int)==bt g (i:Int))=decide (f[k]=c):=by
      rw [show bt f (k:Int)=((ix f (k:Int)).toNat:Int) from rfl,show bt g (i:Int)=((ix g (i:Int)).toNat:Int) from rfl,lb,m,cD D]
     have a:f[k]=c↔f.idxOf c=k:=by
      constructor
      ·intro e
       rw [← e]
       exact I.idxOf_getElem k D
      ·intro e; subst e; exact List.getElem_idxOf E
     simp only [Zg_L2,Zg_J5]
     rw [if_pos (by simp; omega),if_pos (by omega),if_pos (by omega),j,cH (by unfold cI; omega)]
     by_cases q:f.idxOf c=k
     ·rw [if_pos (decide_eq_true (a.2 q)),if_pos (by omega),if_neg (show ¬ f.idxOf c<k by omega),if_pos (show f.idxOf c<k+1 by omega),List.append_nil,if_pos (by simp; omega),q]
     ·rw [if_neg (by simpa using fun z=>q (a.1 z))]
      by_cases r:f.idxOf c<k
      ·rw [if_pos r,if_pos (by omega)]
      ·rw [if_neg r,if_neg (by omega)])
    (by simp only [Zg_L2]; rw [if_neg (by simp),if_pos E])
    (s:=(h,0)) (by simp)]
   simp only [Option.bind_some,Zg_J6]
   rw [cH (by unfold cI; omega),List.take_succ_eq_append_getElem B,List.map_append,← b,← l]
   rfl)
  (by simp only [Zg_L1]; rw [if_neg (by simp),List.take_length])
  (s:=([],0)) rfl]
 rfl
theorem Aw {ds is:List Int}(h:IV ds is){j:Nat}(a:j<ds.length):0≤ix is (j:Int)∧ix is (j:Int)<ix ds (j:Int):=by
 induction ds generalizing is j with
 | nil=>simp at a
 | cons d ds ih=>cases is with
  | nil=>exact h.elim
  | cons i is =>
   cases j with
   | zero=>simpa [ix] using h.1
   | succ j =>
    have:=ih h.2 (j:=j) (by simpa using a)
    simpa [ix] using this
theorem Ax {ds is:List Int}(a:is.length=ds.length)(h:∀ j:Nat,j<ds.length→0≤ix is (j:Int)∧ix is (j:Int)<ix ds (j:Int)):IV ds is:=by
 induction ds generalizing is with
 | nil=>cases is with
  | nil=>trivial
  | cons=>simp at a
 | cons d ds ih=>cases is with
  | nil=>simp at a
  | cons i is =>
   refine ⟨by simpa [ix] using h 0 (by simp),ih (by simpa using a) fun j b=>?_⟩
   have:=h (j+1) (by simpa using b)
   simpa [ix] using this
theorem n5 {ls:List Int}(h:∀ d∈ls,1≤d)(k:Nat):1≤pr (ls.take k)∧pr (ls.take k)≤pr ls:=by
 have h2:1≤pr (ls.drop k):=fU fun d a=>h d (List.mem_of_mem_drop a)
 have b:1≤pr (ls.take k):=fU fun d a=>h d (List.mem_of_mem_take a)
 exact ⟨b,by rw [gY ls k]; exact j0 (by omega) h2⟩
def u5 (f:aO)(dss:List (List Int))(s:aO×List Int):Prop:=(parts f).2.2=true∧(parts f).1.length=dss.length∧p9 (parts f).1 (parts f).2.1 dss s∧eK ((s.1.map (lk s.2)).take (parts f).2.1.length)
theorem qd {f:aO}{D:List Tensor}(hb:f.length≤1048576)(ht:∀ t∈D,TT t)(hn:D.length≤6) :
  (∃ s,u5 f (D.map Tensor.Dims) s∧∃ d,Z5 f D=some ⟨(s.1.map (lk s.2)).take (parts f).2.1.length,d⟩∧TOk ((s.1.map (lk s.2)).take (parts f).2.1.length) d)∨((¬ ∃ s,u5 f (D.map Tensor.Dims) s)∧Z5 f D=some ⟨[],[]⟩):=by
 obtain ⟨dss,B⟩:∃ dss,dss=D.map Tensor.Dims:=⟨_,rfl⟩
 have hd:∀ ds∈dss,eK ds:=by
  intro ds h
  rw [B] at h
  obtain ⟨t,h1,rfl⟩:=List.mem_map.1 h
  exact (ht t h1).d
 have ah:dss.length=D.length:=by rw [B]; simp
 rw [← B]
 unfold u5
 obtain ⟨b,Y⟩:∃ b,b=parts f:=⟨_,rfl⟩
 have a8:b.2.2=true→PO b.1 b.2.1:=by
  rw [Y]; unfold parts
  split
  ·intro h; cases h
  ·split
   ·intro _; assumption
   ·intro h; cases h
 unfold Z5
 rw [vF hb,← Y]
 simp only [Option.bind_some]
 by_cases L:b.2.2=true∧b.1.length=dss.length
 ·obtain ⟨L,c2⟩:=L
  rw [if_neg (by simp [L]; omega)]
  have hP:=a8 L
  have a5:=hP
  obtain ⟨p1,p2,p3,p4⟩:=a5
  have L1:aW (fun s:List (List Int)×Int=>Z5_L1 D s.1 s.2) ([],0)=some (Sum.inr dss):=by
   refine fD (f:=fun s:List (List Int)×Int=>Z5_L1 D s.1 s.2) (fun k=>((D.take k).map Tensor.Dims,(k:Int))) D.length (fun k G=>?_) ?_ rfl
   ·simp only [Z5_L1]
    rw [if_pos (by simp; omega),if_pos (by omega),pS (ht _ (bH G))]
    simp only [Option.bind_some]
    rw [if_neg (by simp),if_pos (by simp; omega),cH (by unfold cI; omega),List.take_succ_eq_append_getElem G,List.map_append,cD G]
    rfl
   ·simp only [Z5_L1]
    rw [if_neg (by simp),List.take_length,← B]
  rw [L1]
  simp only [Option.bind_some,Z5_J1]
  rcases rT hP c2 hd with ⟨s,h1,h2⟩|⟨h1,e,h2,h3⟩
  ·rw [h2]
   simp only [Option.bind_some]
   have U:=o9 hP c2 hd h1.1
   obtain ⟨ls,E⟩:∃ ls,ls=s.1.map (lk s.2):=⟨_,rfl⟩
   have a0:ls.length=s.1.length:=by rw [E]; simp
   have Z:=U.l
   have J:=U.d
   obtain ⟨t,a4⟩:=U.p
   have ae:b.2.1.length≤ls.length:=by rw [a0,a4]; simp
   have a9:=h1.2
   rw [← E] at a9 J ⊢
   have I:∀ d∈ls,1≤d:=fun d h=>(J d h).1
   rw [if_pos (fun _=>by omega)]
   simp only [bR,Bool.not_true,Bool.not_false,cond_true,Bool.false_or]
   rw [l8,gO (by simp only [List.length_take]; unfold cI; omega)]
   simp only [Option.bind_some]
   obtain ⟨a,F⟩:∃ a,a=ls.take b.2.1.length:=⟨_,rfl⟩
   rw [← F]
   by_cases c3:eK a
   ·rw [decide_eq_true c3,if_neg (by simp),if_pos (by omega),l2 c3]
    simp only [Option.bind_some]
    refine .inl ⟨s,⟨L,c2,h1,by rw [← E,← F]; exact c3⟩,?_⟩
    rw [← E,← F]
    have L2:aW (fun z:Int×Int=>Z5_L2 (s.1,ls,true) z.1 z.2) (1,0)=some (pr ls):=by
     refine fD (f:=fun z:Int×Int=>Z5_L2 (s.1,ls,true) z.1 z.2) (fun k=>(pr (ls.take k),(k:Int))) ls.length (fun k G=>?_) ?_ (by simp [pr])
     ·have a1:=n5 I k
      have a2:=n5 I (k+1)
      have a3:=J _ (bH G)
      simp only [Z5_L2]
      rw [if_pos (by simp; omega),if_pos (by omega),iR (by omega) (by omega) (by omega) (by omega),cH (by unfold cI; omega),rl G]
     ·simp only [Z5_L2]
      rw [if_neg (by simp),List.take_length]
    rw [L2]
    simp only [Option.bind_some,Z5_J2]
    have ag:=fU I
    have ai:=c3.2.pos
    obtain ⟨r,q1,q2⟩:=l6 (f:=fun z:List Int×Int=>Z5_L3 D b (s.1,ls,true) ⟨a,List.replicate (pr a).toNat 0⟩ (pr ls) z.1 z.2) (Post:=fun r=>RG (pr a).toNat r) (pr a).toNat (pr ls).toNat
     (fun j hj x hx=>by
      have aj:(j:Int)<pr ls:=by omega
      simp only [Z5_L3]
      rw [if_pos (by simp; omega),vJ (by omega) J (by omega) (by omega)]
      simp only [Option.bind_some]
      have hI:=hR I (j:Int)
      obtain ⟨vs,aa⟩:∃ vs,vs=hO ls (j:Int):=⟨_,rfl⟩
      rw [← aa] at hI ⊢
      have al:=hI.len
      obtain ⟨p,g1,_⟩:=iK (f:=fun z:Int×Int=>Z5_L4 D b (s.1,ls,true) vs z.1 z.2) (fun k z=>z.2=(k:Int)) b.1.length (Post:=fun _=>True)
       (fun k z G hz=>by
        obtain ⟨y,i⟩:=z
        dsimp only at hz; subst hz
        simp only [Z5_L4]
        have O:k<D.length:=by omega
        obtain ⟨e1,e2⟩:=U.g k G
        have a6:ix dss (k:Int)=(ix D (k:Int)).Dims:=by rw [B,cD (by simpa using O),cD O]; simp
        have a7:=p3 _ (bH G)
        rw [if_pos (by simp; omega),if_pos (by omega),if_pos (by omega),u4 a7.1 Z (by omega) U.i.n (fun c hc=>by
         obtain ⟨m,hm,rfl⟩:=List.getElem_of_mem hc
         have:=(e2 m hm).1
         rwa [cD hm] at this)]
        simp only [Option.bind_some]
        obtain ⟨w,w1,_⟩:=nt (ht _ (bH O)) (is:=(ix b.1 (k:Int)).map fun c=>ix vs ((s.1.idxOf c:Nat):Int)) (by
         rw [← a6]
         refine Ax (by simp [e1]) fun m hm=>?_
         have T:m<(ix b.1 (k:Int)).length:=by omega
         obtain ⟨f1,f2⟩:=e2 m T
         have hp:s.1.idxOf (ix (ix b.1 (k:Int)) (m:Int))<s.1.length:=List.idxOf_lt_length_iff.2 f1
         have hv:=Aw hI (j:=s.1.idxOf (ix (ix b.1 (k:Int)) (m:Int))) (by omega)
         have ab:ix ((ix b.1 (k:Int)).map fun c=>ix vs ((s.1.idxOf c:Nat):Int)) (m:Int)=ix vs ((s.1.idxOf (ix (ix b.1 (k:Int)) (m:Int)):Nat):Int):=by
          rw [cD (by simpa using T),List.getElem_map,cD (xs:=ix b.1 (k:Int)) T]
         have ac:ix ls ((s.1.idxOf (ix (ix b.1 (k:Int)) (m:Int)):Nat):Int)=ix (ix dss (k:Int)) (m:Int):=by
          rw [E,qb hp,List.getElem_idxOf hp,f2]
         rw [ab,← ac]
         exact hv)
        rw [w1]
        simp only [Option.bind_some]
        obtain ⟨u,u1,_⟩:=mn y w
        rw [u1]
        exact ⟨_,rfl,by rw [cH (by unfold cI; omega)]⟩)
       (fun z hz=>by
        obtain ⟨y,i⟩:=z
        dsimp only at hz; subst hz
        simp only [Z5_L4]
        rw [if_neg (by simp)]
        exact ⟨_,rfl,trivial⟩)
       (s:=(1,0)) rfl
      rw [g1]
      simp only [Option.bind_some,Z5_J4]
      have M:=ra hI b.2.1.length
      rw [← F] at M
      have ak:=mV c3.2.1 M
      rw [if_pos (by omega),l8,nS c3 M]
      simp only [Option.bind_some,List.length_replicate]
      rw [if_pos (by omega)]
      obtain ⟨u,u1,u2⟩:=nY (ix x (ml a (vs.take b.2.1.length))) p
      rw [u1]
      exact ⟨_,by rw [cH (by unfold cI; omega)]; rfl,hx.set u2 _⟩)
     (fun x hx=>by
      simp only [Z5_L3]
      rw [if_neg (by simp; omega)]
      exact ⟨_,rfl,hx⟩)
     (x:=List.replicate (pr a).toNat 0) (RG.rep _)
    rw [q1]
    exact ⟨r,rfl,hT c3 q2⟩
   ·rw [decide_eq_false c3,if_pos (by simp)]
    refine .inr ⟨?_,rfl⟩
    rintro ⟨s',_,_,g1,g2⟩
    have:=g1.1
    rw [h1.1] at this; cases this
    rw [← E,← F] at g2
    exact c3 g2
  ·rw [h2]
   obtain ⟨e1,e2,e3⟩:=e
   dsimp only at h3; subst h3
   simp only [Option.bind_some]
   rw [if_pos (fun z=>by simp at z)]
   simp only [bR,Bool.not_true,Bool.not_false,cond_false,Option.bind_some,Bool.true_or,if_true]
   exact .inr ⟨fun ⟨s,_,_,z,_⟩=>h1 s z,trivial⟩
 ·rw [if_pos]
  ·exact .inr ⟨fun ⟨s,z1,z2,_⟩=>L ⟨z1,z2⟩,rfl⟩
  ·cases q:b.2.2
   ·rfl
   ·have:b.1.length≠dss.length:=fun z=>L ⟨q,z⟩
    simp; omega
theorem rU {f:aO}(h:(parts f).2.2=true):1≤(parts f).1.length∧(parts f).1.length≤6:=by
 unfold parts at h ⊢
 split
 ·rename_i e; rw [e] at h; cases h
 ·rename_i p e
  rw [e] at h
  simp only at h ⊢
  by_cases c:PO (gD p.1) p.2
  ·rw [if_pos c]
   refine ⟨?_,c.1⟩
   have:=lG p.1
   cases q:gD p.1 with
   | nil=>exact absurd q this
   | cons=>simp
  ·rw [if_neg c] at h; cases h
theorem sh5 (b i j s n args):bV ⟨5,b,i,j,s⟩ n args=Z2w ⟨⟩ n args:=rfl
theorem vL {n:Node}{e:List Tensor}(G:Caps n e)(g:n.Op=11):p8 n e (Zf n (e.map Tensor.Dims)):=by
 have U:o4 n e.length→∀ t∈(n.Args.map fun a=>ix e a),TT t:=kf G
 have Z:∀ A:List Tensor,(∀ t∈A,TT t)→∃ r j,bV ⟨5,false,0,0,[]⟩ n (A.map Tensor.Dims)=some (r,j)∧(j=true→∃ s,u5 n.Form (A.map Tensor.Dims) s∧r=(s.1.map (lk s.2)).take (parts n.Form).2.1.length)∧(j=false→¬ ∃ s,u5 n.Form (A.map Tensor.Dims) s):=by
  intro A B
  rw [sh5]
  unfold Z2w
  rcases u3 (f:=n.Form) (dss:=A.map Tensor.Dims) G.f (fun ds h=>by
   obtain ⟨t,h1,rfl⟩:=List.mem_map.1 h
   exact (B t h1).d) with ⟨q1,q2,s,q3,q4,r,q5,q6⟩|⟨q1,r,q2⟩
  ·rw [q5]
   exact ⟨_,_,rfl,fun _=>⟨s,⟨q1,q2,q3,q4⟩,q6⟩,fun h=>by cases h⟩
  ·rw [q2]
   exact ⟨_,_,rfl,(fun h=>by cases h),fun _=>fun ⟨s,a,b,c,d⟩=>q1 ⟨a,b,s,c,d⟩⟩
 refine mZ G (kd:=⟨5,false,0,0,[]⟩) (u:=kq) (fb:=decide (FM n 1 6 false 0 0)) (by rw [g]; rfl) rfl rfl (l9 n kq false false true false xO xP xQ xR) (gZ (by omega) (by omega) (by rw [g]; rfl) (by rw [g]; rfl) (by rw [g]; rfl) (by rw [g]; rfl) ⟨by omega,by omega⟩) ?_ ?_ ?_
 ·intro D
  obtain ⟨f1,f2,O,f4,T,f6,f7⟩:=of_decide_eq_true D
  have g3:n.Dims=[]:=O.resolve_left (by simp)
  have g5:n.Data=[]:=T.resolve_left (by omega)
  have g6:n.Ints=[]:=List.eq_nil_of_length_eq_zero (by omega)
  exact ⟨by rw [g3,g5,g6]; rfl,by omega⟩
 ·intro I hw D
  obtain ⟨r,j,E,F,M⟩:=Z _ (U hw)
  cases j with
  | false=>exact ⟨r,E⟩
  | true =>
   obtain ⟨s,⟨m,q,_⟩,_⟩:=F rfl
   have Y:=rU m
   refine absurd ?_ (of_decide_eq_false D)
   simp only [Bool.false_or,Bool.true_or,Bool.and_true,Bool.and_eq_true,la,beq_iff_eq] at I
   have J:((n.Args.map fun a=>ix e a).map Tensor.Dims).length=n.Args.length:=by simp
   rw [J] at q
   exact ⟨by omega,by omega,.inr I.1.1,.inl g,.inr I.2,by omega,by rw [I.1.2]; decide⟩
 ·intro D hw
  obtain ⟨f1,f2,O,f4,T,f6,f7⟩:=of_decide_eq_true D
  have B:=U hw
  obtain ⟨A,l⟩:∃ A,A=n.Args.map fun a=>ix e a:=⟨_,rfl⟩
  have i:Do n e=(Z5 n.Form A).bind fun r=>some r:=by
   unfold Do Z1
   rw [if_neg (by omega),← l]
   simp only [Z1_J1,Z1_J2,g]
   simp only [Int.reduceBEq,Bool.false_eq_true,if_false,if_true,beq_self_eq_true]
  have Y:A.length≤6:=by rw [l]; simp; omega
  rw [← l] at B ⊢
  obtain ⟨r,j,E,F,M⟩:=Z A B
  rcases qd G.f B Y with ⟨s,m,d,q,c3⟩|⟨m,q⟩
  ·rw [q] at i
   cases j with
   | false=>exact absurd ⟨s,m⟩ (M rfl)
   | true =>
    obtain ⟨s',k1,k2⟩:=F rfl
    have L:s'=s:=by
     have a1:=k1.2.2.1.1
     rw [m.2.2.1.1] at a1
     exact (Option.some.inj a1).symm
    subst L
    exact ⟨⟨_,d⟩,.inl ⟨by rw [E,k2],i,c3⟩⟩
  ·rw [q] at i
   cases j with
   | false=>exact ⟨⟨[],[]⟩,.inr ⟨r,E,i⟩⟩
   | true=>obtain ⟨s',k1,_⟩:=F rfl; exact absurd ⟨s',k1⟩ m
theorem u6 {n:Node}{i:List Tensor}(g:Caps n i):p8 n i (Zf n (i.map Tensor.Dims)):=by
 by_cases h:1≤n.Op∧n.Op≤19
 ·by_cases h1:n.Op=1
  ·exact tL g h1
  by_cases h2:n.Op=2
  ·exact tM g h2
  by_cases h3:n.Op≤5
  ·exact vq g (by omega) h3
  by_cases h4:n.Op≤9
  ·exact vr g ⟨by omega,h4⟩
  have:n.Op=10∨n.Op=11∨n.Op=12∨n.Op=13∨n.Op=14∨n.Op=15∨n.Op=16∨n.Op=17∨n.Op=18∨n.Op=19:=by omega
  rcases this with q | q | q | q | q | q | q | q | q | q
  ·exact xX g q
  ·exact vL g q
  ·exact rP g q
  ·exact pX g q
  ·exact tO g q
  ·exact y7 g q
  ·exact rR g q
  ·exact pY g q
  ·exact rQ g q
  ·exact vx g q
 ·have e:∀ k:Int,1≤k→k≤19→(n.Op==k)=false:=fun k a b=>by simp; omega
  have j:Zw n.Op=some ⟨0,false,0,0,[]⟩:=by
   unfold Zw Zw_J1 Zw_J2 Zw_J3
   simp only [e 1 (by omega) (by omega),e 2 (by omega) (by omega),e 3 (by omega) (by omega),e 4 (by omega) (by omega),e 5 (by omega) (by omega),e 6 (by omega) (by omega),e 7 (by omega) (by omega),e 8 (by omega) (by omega),e 9 (by omega) (by omega),e 10 (by omega) (by omega),e 11 (by omega) (by omega),e 12 (by omega) (by omega),e 13 (by omega) (by omega),e 14 (by omega) (by omega),e 15 (by omega) (by omega),e 16 (by omega) (by omega),e 17 (by omega) (by omega),e 18 (by omega) (by omega),e 19 (by omega) (by omega),Bool.false_eq_true,if_false]
  refine .inr ⟨[],?_,.inl ?_⟩
  ·unfold Zf
   rw [j]
   rfl
  ·unfold Z17
   rw [if_pos (by simp; omega)]
structure GC (g:Graph):Prop where
 n:g.Nodes.length<cI
 o:g.Outs.length<cI
 a:∀ n∈g.Nodes,n.Args.length<cI
 d:∀ n∈g.Nodes,n.Dims.length<cI
 i:∀ n∈g.Nodes,n.Ints.length<cI
 x:∀ n∈g.Nodes,n.Data.length<cI
 f:∀ n∈g.Nodes,n.Form.length≤1048576
def BO (g:Graph)(k:Nat)(a:List Tensor):Prop:=∀ j:Nat,j<k→Z17 (ix g.Nodes (j:Int))=some true∧o4 (ix g.Nodes (j:Int)) j∧Do (ix g.Nodes (j:Int)) (a.take j)=some (ix a (j:Int))
theorem yg {g:Graph}{b:List Tensor}{k:Nat}(i:k<g.Nodes.length)(m:b.length≤200)(h:(ix g.Nodes (k:Int)).Args.length≤100)(hw:o4 (ix g.Nodes (k:Int)) b.length) :
  aW (fun s:List Tensor×Int=>Zb_L2 g b (k:Int) s.1 s.2) ([],0)=some ((ix g.Nodes (k:Int)).Args.map fun a=>ix b a):=by
 refine fD (f:=fun s:List Tensor×Int=>Zb_L2 g b (k:Int) s.1 s.2) (fun j=>(((ix g.Nodes (k:Int)).Args.take j).map fun a=>ix b a,(j:Int))) (ix g.Nodes (k:Int)).Args.length (fun j e=>?_) ?_ rfl
 ·have l:=hw _ (bH e)
  simp only [Zb_L2]
  rw [if_pos (by simp; omega),if_pos (by omega),if_pos (by omega),if_pos (by simp; omega),cH (by unfold cI; omega),List.take_succ_eq_append_getElem e,List.map_append,cD e]
  rfl
 ·simp only [Zb_L2]
  rw [if_neg (by simp),List.take_length]
theorem nD {n:Node}(h:Z17 n=some true):n.Args.length≤6:=by
 unfold Z17 at h
 split at h
 ·cases h
 ·obtain ⟨r,h1,h⟩:=bd h
  have a:r.2≤6:=by
   unfold Z34 at h1
   repeat' split at h1
   all_goals (cases h1; decide)
  split at h
  ·cases h
  ·rename_i q
   simp only [Bool.or_eq_true,decide_eq_true_eq,not_or] at q
   omega
theorem u7 {g:Graph}{ins:List Tensor}{a:List Tensor}{k:Nat}{t:Tensor}(i:k<g.Nodes.length)(j:a.length=k)(q:g.Nodes.length≤200)(h:Z17 (ix g.Nodes (k:Int))=some true)(hw:o4 (ix g.Nodes (k:Int)) a.length)(b:Do (ix g.Nodes (k:Int)) a=some t) :
  Zb_L1 g ins true a 0 (k:Int)=Zb_J4 a (k:Int) 0 t.Dims t.Data:=by
 have m:=nD h
 simp only [Zb_L1]
 rw [if_pos (by simp; omega),if_pos (by omega),h]
 simp only [Option.bind_some,bR,Bool.not_true,Bool.not_false,cond_true,Bool.false_or]
 rw [ke (by unfold cI; omega)]
 have e:∀ x∈(ix g.Nodes (k:Int)).Args,0≤x∧x<(k:Int):=by
  intro x l
  have:=hw x l
  rwa [j] at this
 simp only [Option.bind_some]
 rw [decide_eq_true e,if_neg (by simp),yg i (by omega) (by omega) hw]
 simp only [Option.bind_some,Zb_J3]
 unfold Do at b
 by_cases c:(ix g.Nodes (k:Int)).Op=1
 ·rw [if_pos c] at b
  rw [if_neg (by simp [c]),if_pos trivial,b]
  rfl
 ·rw [if_neg c] at b
  rw [if_pos (by simp [c]),b]
  rfl
theorem pa {g:Graph}{ins:List Tensor}(B:GC g)(L:g.Nodes.length≤200):∀ (m k:Nat) (h:List Tensor),k+m=g.Nodes.length→h.length=k→(∀ t∈h,TT t)→BO g k h →
  (∃ q,aW (fun s:List Tensor×Int×Int=>Zb_L1 g ins true s.1 s.2.1 s.2.2) (h,0,(k:Int))=some (.inr (q,0))∧aW (fun s:List (List Int)×Int=>Zk_L1 g s.1 s.2) (h.map Tensor.Dims,(k:Int))=some (.inr (q.map Tensor.Dims))∧q.length=g.Nodes.length∧(∀ t∈q,TT t)∧BO g g.Nodes.length q) ∨
  ((∃ e,aW (fun s:List Tensor×Int×Int=>Zb_L1 g ins true s.1 s.2.1 s.2.2) (h,0,(k:Int))=some (.inl e)∧e.2=false)∧∃ e,aW (fun s:List (List Int)×Int=>Zk_L1 g s.1 s.2) (h.map Tensor.Dims,(k:Int))=some (.inl e)∧e.2=false)
 | 0,k,h,J,ho,ht,hr=>by
  have J:k=g.Nodes.length:=by omega
  subst J
  refine .inl ⟨h,dE ?_,dE ?_,ho,ht,hr⟩
  ·simp only [Zb_L1]; rw [if_neg (by simp)]
  ·simp only [Zk_L1]; rw [if_neg (by simp)]
 | m+1,k,h,J,ho,ht,hr=>by
  have r:k<g.Nodes.length:=by omega
  have E:=bH r
  have Z:Caps (ix g.Nodes (k:Int)) h:=⟨B.a _ E,B.d _ E,B.i _ E,B.x _ E,B.f _ E,by omega,ht⟩
  have O:∀ p:List Int×Bool,Zf (ix g.Nodes (k:Int)) (h.map Tensor.Dims)=some p→Zk_L1 g (h.map Tensor.Dims) (k:Int)=if p.2=true then some (.inl (h.map Tensor.Dims++[p.1],((k+1:Nat):Int))) else some (.inr (.inl ([],false))):=by
   intro p Y
   simp only [Zk_L1]
   rw [if_pos (by simp; omega),if_pos (by omega),Y]
   simp only [Option.bind_some]
   cases p.2
   ·rfl
   ·rw [if_neg (by simp),if_pos (by simp; omega),cH (by unfold cI; omega)]; rfl
  rcases u6 Z with ⟨t,h1,h2,D,T,I⟩|⟨ds,h1,h2⟩
  ·have U:=I.l
   have Y:=I.d.2.pos
   have F:=u7 (ins:=ins) r ho L h2 D T
   unfold Zb_J4 at F
   rw [if_neg (by simp; intro z; rw [z] at U; simp at U; omega),if_pos (by simp; omega),cH (by unfold cI; omega)] at F
   have G:=O _ h1
   rw [if_pos rfl] at G
   rw [eM (f:=fun s:List Tensor×Int×Int=>Zb_L1 g ins true s.1 s.2.1 s.2.2) F,eM (f:=fun s:List (List Int)×Int=>Zk_L1 g s.1 s.2) G]
   have:=pa (ins:=ins) B L m (k+1) (h++[t]) (by omega) (by simp [ho]) (by
    intro u hu
    rcases List.mem_append.1 hu with z | z
    ·exact ht u z
    ·simp at z; subst z; exact I) (by
    intro j hj
    by_cases e:j<k
    ·obtain ⟨a,b,c⟩:=hr j e
     refine ⟨a,b,?_⟩
     rw [List.take_append_of_le_length (by omega),c,cD (by omega),cD (by simp; omega),List.getElem_append_left (by omega)]
    ·have e:j=k:=by omega
     subst e
     rw [ho] at D
     refine ⟨h2,D,?_⟩
     rw [List.take_append_of_le_length (by omega),List.take_of_length_le (by omega),cD (xs:=h++[t]) (by rw [List.length_append,List.length_singleton]; omega),List.getElem_append_right (by omega)]
     simpa [ho] using T)
   rw [List.map_append] at this
   exact this
  ·have G:=O _ h1
   rw [if_neg (by simp)] at G
   refine .inr ⟨?_,_,dE G,rfl⟩
   rcases h2 with h2 | ⟨h2,D⟩
   ·refine ⟨(h,false),dE ?_,rfl⟩
    simp only [Zb_L1]
    rw [if_pos (by simp; omega),if_pos (by omega),h2]
    rfl
   ·by_cases w:o4 (ix g.Nodes (k:Int)) h.length
    ·have F:=u7 (ins:=ins) r ho L h2 w (D w)
     exact ⟨(h,false),dE F,rfl⟩
    ·refine ⟨(h,false),dE ?_,rfl⟩
     have ha:=nD h2
     simp only [Zb_L1]
     rw [if_pos (by simp; omega),if_pos (by omega),h2]
     simp only [Option.bind_some,bR,Bool.not_true,Bool.not_false,cond_true,Bool.false_or]
     rw [ke (by unfold cI; omega)]
     have M:¬ ∀ x∈(ix g.Nodes (k:Int)).Args,0≤x∧x<(k:Int):=by
      intro z; refine w fun x hx=>?_
      have:=z x hx
      rwa [ho]
     simp only [Option.bind_some]
     rw [decide_eq_false M,if_pos (by simp)]
theorem pb {g:Graph}(I:GC g):∃ l L F,Zb g [] true=some (l,F)∧Zk g=some (L,F)∧(F=true→L=l.map Tensor.Dims∧l.length=g.Nodes.length∧(∀ t∈l,TT t)∧BO g g.Nodes.length l∧g.Nodes.length≤200∧g.Outs.length≤40∧∀ o∈g.Outs,0≤o∧o<(g.Nodes.length:Int)):=by
 unfold Zb Zk
 by_cases c:g.Nodes.length≤200∧g.Outs.length≤40
 ·rw [if_neg (by simp; omega),if_neg (by simp; omega)]
  have r:∀ s:Int→Option (Int⊕(((List (List Int))×Bool)⊕Unit)),s=(fun x=>Zk_L2 g x)→aW s 0=some (if g.Outs.all (fun x=>!(decide (x<0)||decide (x≥(g.Nodes.length:Int)))) then .inr () else .inl ([],false)):=by
   rintro _ rfl
   refine eW g.Outs (fun x=>Zk_L2 g x) (fun i=>i) _ _ _ (fun j J=>?_) ?_
   ·simp only [Zk_L2]
    rw [if_pos (by simp; omega),if_pos (by omega),cH (by unfold cI; omega)]
    cases (decide (ix g.Outs (j:Int)<0)||decide (ix g.Outs (j:Int)≥(g.Nodes.length:Int)))<;>rfl
   ·simp only [Zk_L2]
    rw [if_neg (by simp)]
  have O:g.Outs.all (fun x=>!(decide (x<0)||decide (x≥(g.Nodes.length:Int))))=decide (∀ o∈g.Outs,0≤o∧o<(g.Nodes.length:Int)):=by
   rw [Bool.eq_iff_iff]
   simp only [List.all_eq_true,decide_eq_true_eq,Bool.not_eq_true',Bool.or_eq_false_iff,decide_eq_false_iff_not]
   exact ⟨fun h x E=>by have:=h x E; omega,fun h x E=>by have:=h x E; omega⟩
  have r:=r _ rfl
  rw [O] at r
  rcases pa (ins:=[]) I c.1 g.Nodes.length 0 [] (by omega) rfl (fun t h=>by simp at h) (fun j J=>absurd J (Nat.not_lt_zero _)) with ⟨b,h1,h2,B,m,M⟩|⟨⟨e,h1,h2⟩,G,B,m⟩
  ·have a:aW (fun s:List Tensor×Int×Int=>Zb_L1 g [] true s.1 s.2.1 s.2.2) ([],0,0)=some (.inr (b,0)):=h1
   have u:aW (fun s:List (List Int)×Int=>Zk_L1 g s.1 s.2) ([],0)=some (.inr (b.map Tensor.Dims)):=h2
   rw [a,u]
   simp only [Option.bind_some,Zb_J5,Zk_J1,Zk_J2]
   rw [ke I.o,r]
   simp only [Option.bind_some]
   by_cases q:∀ o∈g.Outs,0≤o∧o<(g.Nodes.length:Int)
   ·rw [decide_eq_true q]
    exact ⟨_,_,_,rfl,rfl,fun _=>⟨rfl,B,m,M,c.1,c.2,q⟩⟩
   ·rw [decide_eq_false q]
    exact ⟨_,_,_,rfl,rfl,fun h=>by cases h⟩
  ·have a:aW (fun s:List Tensor×Int×Int=>Zb_L1 g [] true s.1 s.2.1 s.2.2) ([],0,0)=some (.inl e):=h1
   have D:aW (fun s:List (List Int)×Int=>Zk_L1 g s.1 s.2) ([],0)=some (.inl G):=B
   rw [a,D]
   obtain ⟨T,U⟩:=e
   obtain ⟨Y,Z⟩:=G
   dsimp only at h2 m
   subst h2; subst m
   exact ⟨_,_,_,rfl,rfl,fun h=>by cases h⟩
 ·rw [if_pos (by simp; omega),if_pos (by simp; omega)]
  exact ⟨_,_,_,rfl,rfl,fun h=>by cases h⟩
def AI:Nat:=9223372036854775807
def fQ (n:Nat)(a:Int):Int:=if a<(n:Int) then -1 else a - n
def n6 {α:Type}(n:α→Nat)(xs:List α):Nat:=xs.length+(xs.map n).sum
theorem j9 {a b:Nat}{e:Int}(g:0≤e):fQ (a+b) e=if fQ a e<0 then -1 else fQ b (fQ a e):=by
 unfold fQ
 (repeat' split)<;>omega
theorem iH {a:Nat}{b:Int}(e:0≤b)(h:¬ fQ a b<0):0≤fQ a b∧fQ a b≤b∧fQ a b=b - a:=by
 unfold fQ at *
 split at h<;>rename_i q
 ·exact absurd (by decide) h
 ·rw [if_neg q]; omega
theorem vM {n:Nat}{a:Int}(b:n≤AI)(e:0≤a)(h1:a≤1048576) :
  (if (decide ((aK (a - (n:Int)))<(0:Int)))=true then (some (-1:Int)) else (some (aK (a - (n:Int)))))=some (fQ n a):=by
 unfold AI at b
 rw [bD (by omega) (by omega)]
 unfold fQ
 by_cases h:a<(n:Int)
 ·rw [if_pos (by simp; omega),if_pos h]
 ·rw [if_neg (by simp; omega),if_neg h]
theorem vN {α:Type}[Inhabited α](xs:List α)(n:α→Nat)(E:xs.length<cI)(g:α→Int→Option Int)(f:Int×Int→Option ((Int×Int)⊕(Int⊕Int)))
  (D:∀ x∈xs,∀ a:Int,0≤a→a≤1048576→g x a=some (fQ (n x) a))
  (m:∀ a i,f (a,i)=if (decide (i<(xs.length:Int)))=true then (if (0≤i∧i<(xs.length:Int)) then (g (ix xs i) a).bind fun (r:Int)=>if (decide (r<(0:Int)))=true then (some (.inr (.inl (-1:Int)))) else (some (.inl (r,(aK (i+(1:Int)))))) else none) else (some (.inr (.inr a))))
  (a:Int) (l:0≤a) (h1:a≤1048576) :
  ((aW f (a,0)).bind fun e=>match e with | .inl e=>some e | .inr e=>some e)=some (fQ ((xs.map n).sum) a):=by
 rw [jz (S:=Int) xs (fun _ s=>0≤s∧s≤1048576) f (fun s i=>(s,i)) (fun s _ x=>if fQ (n x) s<0 then .inr (.inl (-1)) else .inl (fQ (n x) s)) (fun s=>.inr s) ?_ ?_ ?_ a ⟨l,h1⟩]
 ·rw [aN]
  clear m E
  generalize 0=k
  induction xs generalizing a k with
  | nil=>show some a=some (fQ 0 a); unfold fQ; rw [if_neg (by omega)]; congr 1; simp
  | cons x xs ih =>
   unfold qQ
   rw [List.map_cons,List.sum_cons,j9 l]
   by_cases h:fQ (n x) a<0
   ·simp only [h,if_true]
   ·obtain ⟨B,G,_⟩:=iH l h
    simp only [h,if_false]
    exact ih (fun y F=>D y (by simp [F])) _ B (by omega) _
 ·rintro s k ⟨j,u⟩ q
  rw [m,if_pos (by simpa using q),if_pos (by omega),D _ (bH q) s j u,aN,cH (by omega)]
  by_cases h:fQ (n (ix xs (k:Int))) s<0
  ·simp [h]
  ·simp [h]
 ·rintro s k s' ⟨j,u⟩ q b
  split at b
  ·cases b
  ·rename_i h
   obtain ⟨B,G,_⟩:=iH j h
   injection b with b
   subst b
   exact ⟨B,by omega⟩
 ·rintro s ⟨j,u⟩
  rw [m,if_neg (by simp)]
theorem vO {α:Type}[Inhabited α]{xs:List α}{n:α→Nat}{a:Int}{x:Int→Option Int}(j:xs.length≤AI)(i:0≤a)(h1:a≤1048576)(l:¬ fQ xs.length a<0→x (fQ xs.length a)=some (fQ ((xs.map n).sum) (fQ xs.length a))) :
  (if (decide ((aK (a - (xs.length:Int)))<(0:Int)))=true then (some (-1:Int)) else x (aK (a - (xs.length:Int))))=some (fQ (n6 n xs) a):=by
 have g:=j
 unfold AI at g
 unfold n6
 rw [j9 i]
 have e:aK (a - (xs.length:Int))=a - xs.length:=bD (by omega) (by omega)
 rw [e]
 by_cases h:a<(xs.length:Int)
 ·rw [if_pos (by simp; omega),if_pos (by unfold fQ; rw [if_pos h]; omega)]
 ·have b:fQ xs.length a=a - xs.length:=by unfold fQ; rw [if_neg h]
  rw [if_neg (by simp; omega),if_neg (by rw [b]; omega)]
  have:=l (by rw [b]; omega)
  rw [b] at this ⊢
  exact this
theorem n8 {k:Nat}{n:Nat}(h:k<n):(0:Int)≤(k:Int)∧(k:Int)<(n:Int):=⟨by omega,by omega⟩
theorem vQ {k:Nat}{n:Nat}(h:k<n):(decide ((k:Int)<(n:Int)))=true:=by simpa using h
theorem oa {n:Nat}:(decide ((n:Int)<(n:Int)))=false:=by simp
theorem oc (xs ys:List Int)(h:xs.length=ys.length):((List.range xs.length).all fun k=>ix xs (k:Int)==ix ys (k:Int))=decide (xs=ys):=by
 by_cases e:xs=ys
 ·subst e; simp
 ·simp only [e,decide_false]
  rw [List.all_eq_false]
  refine Classical.byContradiction fun b=>e ?_
  refine List.ext_getElem h fun k h1 h2=>?_
  refine Classical.byContradiction fun a=>b ⟨k,by simpa using h1,?_⟩
  rw [cD h1,cD h2]
  simpa using a
theorem vR (xs ys:List Int)(h:xs.length<cI):Zv xs ys=some (decide (xs=ys)):=by
 unfold Zv
 by_cases hl:xs.length=ys.length
 ·rw [if_neg (by simp [hl])]
  rw [jA xs.length (fun s:Int=>Zv_L1 xs ys s) (fun i=>i) (fun k=>ix xs (k:Int)==ix ys (k:Int)) (.inl false) (.inr ()) (fun k a=>by
   unfold Zv_L1
   rw [if_pos (vQ a),if_pos (n8 a),if_pos (n8 (hl▸a)),cH (by omega)]
   by_cases hq:ix xs (k:Int)=ix ys (k:Int)
   ·simp [hq]
   ·simp [hq]) (by unfold Zv_L1; simp only [oa,Bool.false_eq_true,if_false])]
  rw [oc xs ys hl,aN]
  by_cases e:xs=ys<;>simp [e,Zv_J1]
 ·rw [if_pos (by simp; omega)]
  have:xs≠ys:=fun e=>hl (by rw [e])
  simp [this]
theorem pc (xs ys:List Int):Z06 xs ys=Zv xs ys:=rfl
theorem BP {α:Type}[Inhabited α](x:Option α):bR true x=x:=rfl
def Rg (g:List Bool)(n:Nat)(gl:List Int):Prop:=g.length=n∧∀ j:Nat,j<n→ix g (j:Int)=decide ((j:Int)∈gl)
theorem Rg.set {g:List Bool}{n:Nat}{gl:List Int}(h:Rg g n gl){b:Int}(m:0≤b)(h1:b<(n:Int)):Rg (g.set b.toNat true) n (gl++[b]):=by
 obtain ⟨l,q⟩:=h
 refine ⟨by simpa using l,fun j i=>?_⟩
 obtain ⟨c,rfl⟩:=Int.eq_ofNat_of_zero_le m
 have a:j<(g.set (c:Int).toNat true).length:=by simpa [l] using i
 rw [cD a,List.getElem_set]
 by_cases e:(c:Int).toNat=j
 ·rw [if_pos e]; have:c=j:=by omega
  subst this; simp
 ·rw [if_neg e]
  have h2:=q j i
  rw [cD (by omega)] at h2
  rw [h2]
  have:¬ (j:Int)=(c:Int):=by omega
  simp [this]
theorem n9 {α T:Type}[Inhabited α](xs:List α)(z:α)(f:T→Option (T⊕List α))(mk:List α→Int→T)
  (u:∀ (ys:List α) (k:Nat),ys.length=xs.length→k<xs.length→f (mk ys (k:Int))=some (.inl (mk (ys.set k (ix xs (k:Int))) ((k+1:Nat):Int))))
  (g:∀ ys:List α,ys.length=xs.length→f (mk ys (xs.length:Int))=some (.inr ys)):aW f (mk (List.replicate (xs.length:Int).toNat z) 0)=some xs:=by
 rw [Int.toNat_natCast]
 rw [jz (S:=List α) xs (fun _ s=>s.length=xs.length) f mk (fun s k x=>.inl (s.set k x)) (fun s=>s) (fun s k i a=>u s k i a) (fun s k s' i a h=>by injection h with h; subst h; simpa using i) g _ (by simp)]
 congr 1
 have r:∀ (m k:Nat) (ys:List α),k+m=xs.length→ys.length=xs.length→(∀ j,j<k→ys[j]?=xs[j]?)→qQ (R:=List α) (fun s k x=>.inl (s.set k x)) (fun s=>s) (xs.drop k) k ys=xs:=by
  intro m
  induction m with
  | zero =>
   intro k ys a g l
   have a:k=xs.length:=by omega
   subst a
   rw [List.drop_length]
   show ys=xs
   refine List.ext_getElem? fun j=>?_
   by_cases q:j<xs.length
   ·exact l j q
   ·rw [List.getElem?_eq_none (by omega),List.getElem?_eq_none (by omega)]
  | succ m ih =>
   intro k ys a g l
   have b:k<xs.length:=by omega
   rw [List.drop_eq_getElem_cons b]
   unfold qQ
   refine ih (k+1) _ (by omega) (by simpa using g) (fun j q=>?_)
   rw [List.getElem?_set]
   by_cases e:k=j
   ·subst e; rw [if_pos rfl,if_pos (by omega)]; exact (List.getElem?_eq_getElem b).symm
   ·rw [if_neg e]; exact l j (by omega)
 simpa using r xs.length 0 (List.replicate xs.length z) (by omega) (by simp) (fun j q=>by omega)
theorem yh {α:Type}{n:Nat}{z:α}{k:Nat}(h:k<n):(0:Int)≤(k:Int)∧(k:Int)<((List.replicate (n:Int).toNat z).length:Int):=by
 rw [List.length_replicate,Int.toNat_natCast]; omega
theorem vU (xs:List Int)(h:xs.length≤1048576):Z06 xs xs=some true:=by
 rw [pc,vR _ _ (by unfold cI; omega)]; simp
theorem vV {α:Type}[Inhabited α](xs:List α)(f:Int→Option (Int⊕(Bool⊕Unit)))(h:xs.length≤1048576)(e:α→α→Option Bool)(g:∀ x∈xs,e x x=some true)
  (b:∀ i,f i=if (decide (i<(xs.length:Int)))=true then (if (0≤i∧i<(xs.length:Int)) then if (0≤i∧i<(xs.length:Int)) then (e (ix xs i) (ix xs i)).bind fun (r:Bool)=>if (!r)=true then (some (.inr (.inl false))) else (some (.inl (aK (i+(1:Int))))) else none else none) else (some (.inr (.inr ())))) :
  aW f 0=some (.inr ()):=by
 rw [eW xs f (fun i=>i) (fun _=>true) (.inl false) (.inr ()) (fun k a=>by
  rw [b,if_pos (vQ a),if_pos (n8 a),if_pos (n8 a),g _ (bH a),aN,cH (by unfold cI; omega)]; rfl) (by rw [b]; simp only [oa,Bool.false_eq_true,if_false])]
 simp
theorem na (x:Int):(x != x)=false:=by simp
def BB:Nat:=4611686018427387904
theorem j5 {α:Type}[Inhabited α]{ys:List α}{k:Nat}{v:α}(h:k<ys.length):ix (ys.set k v) (k:Int)=v:=by
 rw [cD (by simpa using h)]; simp
theorem nE {α:Type}[Inhabited α]{ys:List α}{k j:Nat}{v:α}(h:k≠j):ix (ys.set k v) (j:Int)=ix ys (j:Int):=by
 simp [ix,List.getD_eq_getElem?_getD,List.getElem?_set,h]
def kt {α:Type}(n:α→Nat)(xs:List α):Nat:=(xs.map n).sum
theorem nb {α:Type}(n:α→Nat)(x:α)(t:List α):kt n (x::t)=n x+kt n t:=by simp [kt]
theorem u9 {α:Type}(n:α→Nat){xs:List α}{k:Nat}(h:k<xs.length):kt n (xs.drop k)=n xs[k]+kt n (xs.drop (k+1)):=by
 rw [List.drop_eq_getElem_cons h,nb]
theorem lL {α T U:Type}[Inhabited α](xs:List α)(n:α→Nat)(g:α→Nat→α)(f:T→Option (T⊕(Int×List α)))(mk:List α→Int→Int→T)
  (I:∀ (ys:List α) (k i:Nat),i<xs.length→ys.length=xs.length→ix ys (i:Int)=ix xs (i:Int)→k+n (ix xs (i:Int))≤BB→f (mk ys (k:Int) (i:Int))=some (.inl (mk (ys.set i (g (ix xs (i:Int)) k)) ((k+n (ix xs (i:Int)):Nat):Int) ((i+1:Nat):Int))))
  (G:∀ ys k,f (mk ys k (xs.length:Int))=some (.inr (k,ys))) (k:Nat) (J:k+kt n xs≤BB) :
  ∃ ys,aW f (mk xs (k:Int) 0)=some (((k+kt n xs:Nat):Int),ys)∧ys.length=xs.length ∧
   ∀ (b:U→Option (U⊕(Int⊕Int))) (a:Int→Int→U),(∀ (k i:Nat),i<xs.length→k+n (ix xs (i:Int))≤BB→ix ys (i:Int)=g (ix xs (i:Int)) k→b (a (k:Int) (i:Int))=some (.inl (a ((k+n (ix xs (i:Int)):Nat):Int) ((i+1:Nat):Int)))) →
    (∀ k,b (a k (xs.length:Int))=some (.inr (.inr k)))→aW b (a (k:Int) 0)=some (.inr ((k+kt n xs:Nat):Int)):=by
 have s:∀ (m i k:Nat) (ys:List α),i+m=xs.length→ys.length=xs.length→(∀ j,i≤j→j<xs.length→ix ys (j:Int)=ix xs (j:Int))→k+kt n (xs.drop i)≤BB →
   ∃ zs,aW f (mk ys (k:Int) (i:Int))=some (((k+kt n (xs.drop i):Nat):Int),zs)∧zs.length=xs.length∧(∀ j,j<i→ix zs (j:Int)=ix ys (j:Int)) ∧
    ∀ (b:U→Option (U⊕(Int⊕Int))) (a:Int→Int→U),(∀ (k j:Nat),i≤j→j<xs.length→k+n (ix xs (j:Int))≤BB→ix zs (j:Int)=g (ix xs (j:Int)) k→b (a (k:Int) (j:Int))=some (.inl (a ((k+n (ix xs (j:Int)):Nat):Int) ((j+1:Nat):Int)))) →
     (∀ k,b (a k (xs.length:Int))=some (.inr (.inr k)))→aW b (a (k:Int) (i:Int))=some (.inr ((k+kt n (xs.drop i):Nat):Int)):=by
  intro m
  induction m with
  | zero =>
   intro i k ys r l _ _
   have r:i=xs.length:=by omega
   subst r
   rw [List.drop_length]
   exact ⟨ys,dE (G ys k),l,fun j _=>rfl,fun b a _ h2=>dE (h2 k)⟩
  | succ m ih =>
   intro i k ys r l u Z
   have e:i<xs.length:=by omega
   have F:=u9 n e
   rw [← cD e] at F
   have q:=I ys k i e l (u i (Nat.le_refl _) e) (by omega)
   obtain ⟨zs,E,O,z3,z4⟩:=ih (i+1) (k+n (ix xs (i:Int))) (ys.set i (g (ix xs (i:Int)) k)) (by omega) (by simpa using l) (fun j h1 h2=>by
    rw [nE (by omega)]; exact u j (by omega) h2) (by omega)
   have h:k+n (ix xs (i:Int))+kt n (xs.drop (i+1))=k+kt n (xs.drop i):=by omega
   rw [h] at E z4
   refine ⟨zs,by rw [eM q]; exact E,O,fun j hj=>?_,fun b a h1 h2=>?_⟩
   ·rw [z3 j (by omega),nE (by omega)]
   ·have L:ix zs (i:Int)=g (ix xs (i:Int)) k:=by rw [z3 i (by omega),j5 (by omega)]
    rw [eM (h1 k i (Nat.le_refl _) e (by omega) L)]
    exact z4 b a (fun k j Y=>h1 k j (by omega)) h2
 obtain ⟨ys,B,M,_,D⟩:=s xs.length 0 k xs (by omega) rfl (fun _ _ _=>rfl) (by simpa using J)
 rw [List.drop_zero] at B D
 exact ⟨ys,B,M,fun b a h1 h2=>D b a (fun k j _=>h1 k j) h2⟩
theorem wn {k:Nat}(h:k+1≤BB):aK ((k:Int)+1)=((k+1:Nat):Int):=by
 unfold BB at h; rw [bD (by omega) (by omega)]; omega
theorem rn {α:Type}(c:Nat)(xs:List α):kt (fun _=>c) xs=c*xs.length:=by
 induction xs with
 | nil=>simp [kt]
 | cons x t ih=>rw [nb,ih,List.length_cons,Nat.mul_succ]; omega
noncomputable def ua (xs:List Int)(k:Nat):List Int:=((Zp xs (k:Int)).getD default).2
theorem wi {n k:Nat}(a:n≤1048576)(h:k<n):aK ((k:Int)+1)=((k+1:Nat):Int):=cH (by unfold cI; omega)
theorem fE (xs:List Int)(k:Nat)(g:xs.length≤1048576)(h:k+xs.length≤BB):Zp xs (k:Int)=some (((k+xs.length:Nat):Int),ua xs k)∧Z01 (ua xs k) (k:Int)=some ((k+xs.length:Nat):Int):=by
 obtain ⟨ys,j,r,l⟩:=lL (U:=Int×Int) xs (fun _=>1) (fun _ k=>(k:Int)) (fun s:(List Int)×Int×Int=>Zp_L1 xs s.1 s.2.1 s.2.2) (fun ys k i=>(ys,k,i)) (fun ys k i a B u b=>by
  show Zp_L1 xs ys (k:Int) (i:Int)=_
  unfold Zp_L1
  rw [if_pos (vQ a),if_pos (n8 a),wi g a,wn b,Int.toNat_natCast]) (fun ys k=>by
  show Zp_L1 xs ys k (xs.length:Int)=_
  unfold Zp_L1; simp only [oa,Bool.false_eq_true,if_false]) k (by rw [rn]; omega)
 rw [rn,Nat.one_mul] at j l
 have e:Zp xs (k:Int)=some (((k+xs.length:Nat):Int),ys):=by
  unfold Zp; rw [j,aN]; rfl
 have m:ua xs k=ys:=by unfold ua; rw [e]; rfl
 rw [m]
 refine ⟨e,?_⟩
 unfold Z01
 rw [l (fun s:Int×Int=>Z01_L1 ys s.1 s.2) (fun k i=>(k,i)) (fun k i a b q=>by
  show Z01_L1 ys (k:Int) (i:Int)=_
  unfold Z01_L1
  rw [if_pos (vQ (by omega)),if_pos (n8 (by omega)),q,na,wi g a,wn b]; rfl) (fun k=>by
  show Z01_L1 ys k (xs.length:Int)=_
  rw [← r]
  unfold Z01_L1; simp only [oa,Bool.false_eq_true,if_false])]
 rfl
theorem yi {α:Type}(n:α→Nat)(M:Nat)(xs:List α)(h:∀ x∈xs,n x≤M):kt n xs≤xs.length*M:=by
 induction xs with
 | nil=>simp [kt]
 | cons x t ih =>
  rw [nb,List.length_cons,Nat.succ_mul]
  have:=h x (by simp)
  have:=ih (fun y a=>h y (by simp [a]))
  omega
theorem yj {α:Type}(n:α→Nat)(M:Nat)(xs:List α)(h:∀ x∈xs,n x≤M)(a:xs.length≤1048576):kt n xs≤1048576*M:=Nat.le_trans (yi n M xs h) (Nat.mul_le_mul_right _ a)
theorem ub {α:Type}(n:α→Nat)(xs:List α):xs.length≤n6 n xs:=by unfold n6; omega
theorem uc {α:Type}(n:α→Nat){xs:List α}{x:α}(h:x∈xs):n x≤n6 n xs:=by
 have:n x≤(xs.map n).sum:=by
  induction xs with
  | nil=>cases h
  | cons y t ih =>
   rcases List.mem_cons.1 h with rfl | h
   ·simp
   ·have:=ih h; simp; omega
 unfold n6; omega
theorem qe {a:Nat}{b:Int}(h:fQ a b<0)(e:0≤b):fQ a b = -1:=by
 unfold fQ at *
 split at h
 ·rw [if_pos (by assumption)]
 ·omega
theorem nc {f:Int×aO→Option ((Int×aO)⊕aO)}(b:∀ (n:Nat) (s:aO),0<n→n<10000000000000000000→s.length≤100→∃ c:aO,c.length=1∧f ((n:Int),s)=some (.inl (((n / 10:Nat):Int),c++s)))(a:∀ s,f (0,s)=some (.inr s)):∀ (m n:Nat) (s:aO),n<10 ^ m→m≤19→s.length+m≤100→∃ r,aW f ((n:Int),s)=some r∧r.length≤s.length+m
 | 0,n,s,h,hm,hs=>by
  have:n=0:=by simpa using h
  subst this
  exact ⟨s,dE (a s),by omega⟩
 | m+1,n,s,h,hm,hs=>by
  by_cases e:n=0
  ·subst e; exact ⟨s,dE (a s),by omega⟩
  ·have g:10 ^ (m+1)≤10 ^ 19:=Nat.pow_le_pow_right (by omega) hm
   obtain ⟨c,h1,h2⟩:=b n s (by omega) (by omega) (by omega)
   obtain ⟨r,i,j⟩:=nc b a m (n / 10) (c++s) (by rw [Nat.pow_succ] at h; omega) (by omega) (by simp; omega)
   exact ⟨r,by rw [eM h2]; exact i,by simp at j; omega⟩
theorem ue (k:Nat)(h:k≤BB):∃ s,Z0k (k:Int)=some s:=by
 unfold Z0k
 by_cases c:k=0
 ·rw [if_pos (by simp; omega)]; exact ⟨_,rfl⟩
 ·rw [if_neg (by simp; omega)]
  obtain ⟨r,g,i⟩:=nc (f:=fun s:Int×aO=>Z0k_L1 s.1 s.2) (fun n s j e l=>by
   have b:aK ((n:Int).tdiv 10)=((n / 10:Nat):Int):=by
    rw [Int.tdiv_eq_ediv_of_nonneg (by omega),bD (by omega) (by omega)]; omega
   have a:(nN [IntKind.wrap .u8 (aK (48+(n:Int).tmod 10))]).length=1:=by simp [nN]
   refine ⟨nN [IntKind.wrap .u8 (aK (48+(n:Int).tmod 10))],a,?_⟩
   simp only [Z0k_L1]
   rw [if_pos (by simp; omega),if_pos (by rw [a]; omega),b]) (fun s=>by simp only [Z0k_L1]; rfl) 19 k [] (by unfold BB at h; omega) (by omega) (by simp)
  rw [g]
  simp only [Option.bind_some,Z0k_J1]
  rw [if_pos (by simp [str8] at i ⊢; omega)]
  exact ⟨_,rfl⟩
noncomputable def BQ (k:Nat):aO:=(Z0k (k:Int)).getD default
theorem qf {k:Nat}(h:k≤BB:=by omega):Z0k (k:Int)=some (BQ k):=by
 obtain ⟨s,a⟩:=ue k h
 unfold BQ; rw [a]; rfl
def li (xs:(List Int)):Prop:=xs.length≤maxLen
def j6 (xs:(List Int)):Prop:=xs.length≤1048576
theorem hU {xs:(List Int)}(h:xs.length≤1048576):j6 xs:=h
theorem gP {xs:(List Int)}{a:Int}(e:li xs)(b:0≤a)(h1:a≤1048576):Z10 xs a=some (fQ xs.length a):=vM (Nat.le_trans e (by decide)) b h1
theorem jN (xs:(List Int))(h:j6 xs):Zy xs=some xs:=by
 unfold Zy
 rw [if_pos (by have:xs.length≤1048576:=h; omega),n9 xs 0 (fun s:(List Int)×Int=>Zy_L1 xs s.1 s.2) (fun s i=>(s,i)) (fun ys k e a=>by
  have b:xs.length≤1048576:=h
  show Zy_L1 xs ys (k:Int)=_
  unfold Zy_L1
  rw [if_pos (vQ a),if_pos (n8 a),if_pos (yh a),cH (by unfold cI; omega)]; rfl) (fun ys _=>by
  show Zy_L1 xs ys (xs.length:Int)=_
  unfold Zy_L1; simp only [oa,Bool.false_eq_true,if_false])]
 rfl
theorem jO (xs:(List Int))(h:j6 xs):Z06 xs xs=some true:=vU xs h
theorem kn (xs:(List Int))(k:Nat)(h:j6 xs)(a:k+xs.length≤BB):Zp xs (k:Int)=some (((k+xs.length:Nat):Int),ua xs k)∧Z01 (ua xs k) (k:Int)=some ((k+xs.length:Nat):Int):=fE xs k h a
def Ay (x:aO):Prop:=x.length≤maxLen
def Az (x:aO):Prop:=x.length≤1048576
structure Cap75 (x:Node):Prop where
 Args:li x.Args
 Dims:li x.Dims
 Ints:li x.Ints
 Form:Ay x.Form
 Data:li x.Data
structure SmNode (x:Node):Prop where
 Args:j6 x.Args
 Dims:j6 x.Dims
 Ints:j6 x.Ints
 Form:Az x.Form
 Data:j6 x.Data
def ku (x:Node):Nat:=x.Args.length+x.Dims.length+x.Ints.length+x.Form.length+x.Data.length
theorem rV {x:Node}(h:ku x≤1048576):SmNode x:=by
 unfold ku at h
 exact ⟨hU (by omega),hU (by omega),hU (by omega),show _≤_ by omega,hU (by omega)⟩
theorem rW {x:Node}{a:Int}(u:Cap75 x)(b:0≤a)(h1:a≤1048576):Z2m x a=some (fQ (ku x) a):=by
 obtain ⟨l,m,q,r,s⟩:=u
 unfold Z2m ku
 rw [j9 b,j9 b,j9 b,j9 b]
 rw [gP l b (by omega),aN]
 by_cases h2:fQ (x.Args.length) a<0
 ·simp [h2]
 ·obtain ⟨i,I,B⟩:=iH b h2
  rw [if_neg (by simpa using h2),if_neg h2]
  rw [gP m i (by omega),aN]
  by_cases h3:fQ (x.Dims.length) (fQ (x.Args.length) a)<0
  ·simp [h3]
  ·obtain ⟨j,J,D⟩:=iH i h3
   rw [if_neg (by simpa using h3),if_neg h3]
   rw [gP q j (by omega),aN]
   by_cases h4:fQ (x.Ints.length) (fQ (x.Dims.length) (fQ (x.Args.length) a))<0
   ·simp [h4]
   ·obtain ⟨F,L,E⟩:=iH j h4
    rw [if_neg (by simpa using h4),if_neg h4]
    have h:aK (fQ (x.Ints.length) (fQ (x.Dims.length) (fQ (x.Args.length) a)) - (x.Form.length:Int))=fQ (x.Ints.length) (fQ (x.Dims.length) (fQ (x.Args.length) a)) - (x.Form.length:Int):=by
     have:x.Form.length≤9223372036854775807:=Nat.le_trans r (by decide)
     exact bD (by omega) (by omega)
    by_cases h5:fQ (x.Form.length) (fQ (x.Ints.length) (fQ (x.Dims.length) (fQ (x.Args.length) a)))<0
    ·have:fQ (x.Ints.length) (fQ (x.Dims.length) (fQ (x.Args.length) a))<(x.Form.length:Int):=by unfold fQ at h5; split at h5<;>omega
     rw [h,if_pos (by simp; omega)]
     simp [h5]
    ·obtain ⟨g,M,e⟩:=iH F h5
     rw [h,← e,if_neg (by simpa using h5),if_neg h5]
     rw [gP s g (by omega),aN]
     by_cases h6:fQ (x.Data.length) (fQ (x.Form.length) (fQ (x.Ints.length) (fQ (x.Dims.length) (fQ (x.Args.length) a))))<0
     ·rw [if_pos (by simpa using h6),qe h6 g]
     ·obtain ⟨O,T,G⟩:=iH g h6
      rw [if_neg (by simpa using h6)]
theorem vW (x:Node)(h:SmNode x):Z32 x=some x:=by
 unfold Z32
 rw [jN _ h.Args,aN,jN _ h.Dims,aN,jN _ h.Ints,aN,jN _ h.Data,aN]
theorem vX (x:Node)(h:SmNode x):Z2l x x=some true:=by
 unfold Z2l
 rw [jO _ h.Args,aN,jO _ h.Dims,aN,jO _ h.Ints,aN,jO _ h.Data,aN]
 simp
def uf (xs:(List Node)):Prop:=xs.length≤maxLen∧∀ x∈xs,Cap75 x
def ko (xs:(List Node)):Prop:=xs.length≤1048576∧∀ x∈xs,SmNode x
theorem qg {xs:(List Node)}(h:n6 ku xs≤1048576):ko xs:=⟨Nat.le_trans (ub _ _) h,fun x a=>rV (Nat.le_trans (uc _ a) h)⟩
theorem qh {xs:(List Node)}{a:Int}(g:uf xs)(b:0≤a)(h1:a≤1048576):Z18 xs a=some (fQ (n6 ku xs) a):=by
 unfold Z18
 refine vO (x:=fun l=>(aW (fun s:Int×Int=>Z18_L1 xs s.1 s.2) (l,(0:Int))).bind fun e=>match e with | .inl e=>some e | .inr e=>Z18_J1 e) (Nat.le_trans g.1 (by decide)) b h1 (fun h=>?_)
 obtain ⟨j,m,q⟩:=iH b h
 exact vN xs ku (Nat.lt_of_le_of_lt (show xs.length≤1048576 by unfold fQ at h; split at h<;>omega) (by decide)) Z2m _ (fun x i a=>rW (g.2 x i)) (fun _ _=>rfl) _ j (by omega)
theorem ug (xs:(List Node))(h:ko xs):Z0p xs=some xs:=by
 unfold Z0p
 rw [if_pos (by have:xs.length≤1048576:=h.1; omega),n9 xs zT65.z (fun s:(List Node)×Int=>Z0p_L1 xs s.1 s.2) (fun s i=>(s,i)) (fun ys k e a=>by
  have b:xs.length≤1048576:=h.1
  show Z0p_L1 xs ys (k:Int)=_
  unfold Z0p_L1
  rw [if_pos (vQ a),if_pos (n8 a),vW _ (h.2 _ (bH a)),aN,if_pos (yh a),cH (by unfold cI; omega)]; rfl) (fun ys _=>by
  show Z0p_L1 xs ys (xs.length:Int)=_
  unfold Z0p_L1; simp only [oa,Bool.false_eq_true,if_false])]
 rfl
theorem uh (xs:(List Node))(h:ko xs):Z1c xs xs=some true:=by
 unfold Z1c
 rw [na,vV xs (fun s:Int=>Z1c_L1 xs xs s) h.1 Z2l (fun x a=>vX x (h.2 x a)) (fun _=>rfl)]; rfl
def eP (x:Node):Nat:=1+x.Args.length+x.Dims.length+x.Ints.length+1+x.Data.length
noncomputable def nd (x:Node)(k:Nat):Node:=⟨((k:Nat):Int),ua x.Args (k+1),ua x.Dims (k+1+x.Args.length),ua x.Ints (k+1+x.Args.length+x.Dims.length),BQ (k+1+x.Args.length+x.Dims.length+x.Ints.length),ua x.Data (k+1+x.Args.length+x.Dims.length+x.Ints.length+1)⟩
noncomputable def jP (xs:(List Node))(k:Nat):(List Node):=((Z02 xs (k:Int)).getD default).2
theorem qi (xs:(List Node))(k:Nat)(h:ko xs)(m:k+kt eP xs≤BB):Z02 xs (k:Int)=some (((k+kt eP xs:Nat):Int),jP xs k):=by
 obtain ⟨ys,r,B,D⟩:=lL (U:=Int×Int) xs eP nd (fun s:(List Node)×Int×Int=>Z02_L1 xs s.1 s.2.1 s.2.2) (fun ys k i=>(ys,k,i)) (fun ys k i j u g q=>by
  show Z02_L1 xs ys (k:Int) (i:Int)=_
  have b:=h.2 _ (bH j)
  have a:i<ys.length:=by omega
  unfold eP at q
  unfold Z02_L1 nd eP
  generalize ix xs (i:Int)=x at *
  rw [if_pos (vQ j),if_pos (n8 j),wi h.1 j]
  (try simp only [fJ,Int.toNat_natCast,j5 a,List.set_set,g])
  rw [wn (by omega)]
  (try simp only [fJ,Int.toNat_natCast,j5 a,List.set_set,g])
  rw [(fE _ _ b.Args (by omega)).1,aN]
  (try simp only [fJ,Int.toNat_natCast,j5 a,List.set_set,g])
  rw [(fE _ _ b.Dims (by omega)).1,aN]
  (try simp only [fJ,Int.toNat_natCast,j5 a,List.set_set,g])
  rw [(fE _ _ b.Ints (by omega)).1,aN]
  (try simp only [fJ,Int.toNat_natCast,j5 a,List.set_set,g])
  rw [qf,aN,wn (by omega)]
  (try simp only [fJ,Int.toNat_natCast,j5 a,List.set_set,g])
  rw [(fE _ _ b.Data (by omega)).1,aN]
  (try simp only [fJ,Int.toNat_natCast,j5 a,List.set_set,g])
  rw [show k+1+x.Args.length+x.Dims.length+x.Ints.length+1+x.Data.length=k+(1+x.Args.length+x.Dims.length+x.Ints.length+1+x.Data.length) by omega]) (fun ys k=>by
  show Z02_L1 xs ys k (xs.length:Int)=_
  unfold Z02_L1; simp only [oa,Bool.false_eq_true,if_false]) k m
 have e:Z02 xs (k:Int)=some (((k+kt eP xs:Nat):Int),ys):=by
  unfold Z02; rw [r,aN]; rfl
 have l:jP xs k=ys:=by unfold jP; rw [e]; rfl
 rw [l,e]
structure Cap25 (x:Graph):Prop where
 Nodes:uf x.Nodes
 Outs:li x.Outs
structure SmGraph (x:Graph):Prop where
 Nodes:ko x.Nodes
 Outs:j6 x.Outs
def jp (x:Graph):Nat:=n6 ku x.Nodes+x.Outs.length
theorem qk {x:Graph}(h:jp x≤1048576):SmGraph x:=by
 unfold jp at h
 exact ⟨qg (by omega),hU (by omega)⟩
theorem ql {x:Graph}{a:Int}(i:Cap25 x)(b:0≤a)(h1:a≤1048576):Z30 x a=some (fQ (jp x) a):=by
 obtain ⟨g,h⟩:=i
 unfold Z30 jp
 rw [j9 b]
 rw [qh g b (by omega),aN]
 by_cases h2:fQ (n6 ku x.Nodes) a<0
 ·simp [h2]
 ·obtain ⟨e,m,j⟩:=iH b h2
  rw [if_neg (by simpa using h2),if_neg h2]
  rw [gP h e (by omega),aN]
  by_cases h3:fQ (x.Outs.length) (fQ (n6 ku x.Nodes) a)<0
  ·rw [if_pos (by simpa using h3),qe h3 e]
  ·obtain ⟨q,r,l⟩:=iH e h3
   rw [if_neg (by simpa using h3)]
theorem uk (x:Graph)(h:SmGraph x):Z1d x=some x:=by
 unfold Z1d
 rw [ug _ h.Nodes,aN,jN _ h.Outs,aN]
theorem lj (x:Graph)(h:SmGraph x):Z1l x x=some true:=by
 unfold Z1l
 rw [uh _ h.Nodes,aN,jO _ h.Outs,aN]
 simp
structure Cap38 (x:Tensor):Prop where
 Dims:li x.Dims
 Data:li x.Data
structure SmTensor (x:Tensor):Prop where
 Dims:j6 x.Dims
 Data:j6 x.Data
def kp (x:Tensor):Nat:=x.Dims.length+x.Data.length
theorem pd {x:Tensor}(h:kp x≤1048576):SmTensor x:=by
 unfold kp at h
 exact ⟨hU (by omega),hU (by omega)⟩
theorem pg {x:Tensor}{a:Int}(i:Cap38 x)(b:0≤a)(h1:a≤1048576):Z31 x a=some (fQ (kp x) a):=by
 obtain ⟨g,h⟩:=i
 unfold Z31 kp
 rw [j9 b]
 rw [gP g b (by omega),aN]
 by_cases h2:fQ (x.Dims.length) a<0
 ·simp [h2]
 ·obtain ⟨e,m,j⟩:=iH b h2
  rw [if_neg (by simpa using h2),if_neg h2]
  rw [gP h e (by omega),aN]
  by_cases h3:fQ (x.Data.length) (fQ (x.Dims.length) a)<0
  ·rw [if_pos (by simpa using h3),qe h3 e]
  ·obtain ⟨q,r,l⟩:=iH e h3
   rw [if_neg (by simpa using h3)]
theorem rX (x:Tensor)(h:SmTensor x):Z14 x=some x:=by
 unfold Z14
 rw [jN _ h.Dims,aN,jN _ h.Data,aN]
theorem rY (x:Tensor)(h:SmTensor x):Z2y x x=some true:=by
 unfold Z2y
 rw [jO _ h.Dims,aN,jO _ h.Data,aN]
 simp
theorem ph (x:Tensor)(k:Nat)(h:SmTensor x)(a:k+(x.Dims.length+x.Data.length)≤BB):∃ r,Z2z x (k:Int)=some (((k+x.Dims.length+x.Data.length:Nat):Int),r):=by
 unfold Z2z
 rw [(kn x.Dims (k) h.Dims (by omega)).1,aN,(kn x.Data (k+x.Dims.length) h.Data (by omega)).1,aN]
 exact ⟨_,rfl⟩
theorem gc3 {α:Type}[Inhabited α](b:Bool)(x:α):bR b (some x)=some (cond b x default):=by cases b<;>rfl
theorem ul {x:Node}(h:SmNode x):Z35 x=some x:=by
 have h1:x.Args.length≤1048576:=h.Args
 have h2:x.Dims.length≤1048576:=h.Dims
 have a:x.Ints.length≤1048576:=h.Ints
 have b:x.Data.length≤1048576:=h.Data
 unfold Z35
 rw [fL (by omega),aN,fL (by omega),aN,fL (by omega),aN,fL (by omega),aN]
theorem pi {x:Node}(h:SmNode x):Z2v x=some x:=by
 have h1:x.Args.length≤1048576:=h.Args
 have h2:x.Dims.length≤1048576:=h.Dims
 have a:x.Ints.length≤1048576:=h.Ints
 have b:x.Data.length≤1048576:=h.Data
 unfold Z2v
 rw [eX (by omega),aN,eX (by omega),aN,eX (by omega),aN,eX (by omega),aN]
theorem vY {a:Graph}(e:SmGraph a):aW (fun s:(List Node)×Int=>Z0b_L1 a s.1 s.2) (([]:List Node),(0:Int))=some a.Nodes:=by
 have g:a.Nodes.length≤1048576:=e.Nodes.1
 refine fD (f:=fun s:(List Node)×Int=>Z0b_L1 a s.1 s.2) (fun j=>(a.Nodes.take j,(j:Int))) a.Nodes.length (fun j b=>?_) ?_ rfl
 ·simp only [Z0b_L1]
  rw [if_pos (by simp; omega),if_pos (by omega),ul (e.Nodes.2 _ (bH b)),aN,if_pos (by simp; omega),cH (by unfold cI; omega),List.take_succ_eq_append_getElem b,cD b]
 ·simp only [Z0b_L1]
  rw [if_neg (by simp),List.take_length]
theorem od {a:Graph}(e:SmGraph a):Z2u a=some a:=by
 have h:a.Nodes.length≤1048576:=e.Nodes.1
 have j:a.Outs.length≤1048576:=e.Outs
 unfold Z2u Z0l
 rw [if_pos (by omega)]
 have:=n9 a.Nodes zT65.z (fun s:(List Node)×Int=>Z0l_L1 a.Nodes s.1 s.2) (fun s i=>(s,i)) (fun ys k g b=>by
  show Z0l_L1 a.Nodes ys (k:Int)=_
  unfold Z0l_L1
  rw [if_pos (vQ b),if_pos (n8 b),pi (e.Nodes.2 _ (bH b)),aN,if_pos (yh b),cH (by unfold cI; omega),Int.toNat_natCast]) (fun ys _=>by
  show Z0l_L1 a.Nodes ys (a.Nodes.length:Int)=_
  unfold Z0l_L1; simp only [oa,Bool.false_eq_true,if_false])
 rw [this,aN]
 simp only [Z0l_J1]
 rw [aN,eX (by omega),aN]
theorem rZ {a:Graph}(r:GC a)(g:SmGraph a)(k:Int){t:Tensor}(j:SmTensor t):∃ x e,Z0b a k t=some (x,e)∧Z1o a k t=some (x,e)∧SmGraph x:=by
 obtain ⟨F,E,e,h1,h2,D⟩:=pb r
 have g1:Z1v a=some e:=by unfold Z1v; rw [h1]; rfl
 have l:Z1p a=some e:=by unfold Z1p; rw [h2]; rfl
 have q:t.Dims.length≤1048576:=j.Dims
 have m:t.Data.length≤1048576:=j.Data
 have u:a.Nodes.length≤1048576:=g.Nodes.1
 have B:a.Outs.length≤1048576:=g.Outs
 unfold Z0b Z1o
 rw [g1,l,aN,aN,pL (by unfold cI; omega) (by unfold cI; omega),tm (by unfold cI; omega) (by unfold cI; omega),pM (by unfold cI; omega),qT (by unfold cI; omega)]
 simp only [gc3,aN]
 have b:∀ c:Bool,(((!e)||decide (k<0))||decide (k≥(a.Nodes.length:Int)))=false→0≤k∧k<(a.Nodes.length:Int):=fun c h=>by
  simp only [Bool.or_eq_false_iff,decide_eq_false_iff_not] at h; omega
 rw [if_pos (b true),if_pos (b true),if_pos (fun h=>b true (by simp only [Bool.or_eq_false_iff] at h ⊢; exact h.1.1)),if_pos (fun h=>b true (by simp only [Bool.or_eq_false_iff] at h ⊢; exact h.1.1))]
 generalize hC:(_||!(cond _ (decide (t.Dims=(ix a.Nodes k).Dims)) default))=C
 cases C with
 | true=>exact ⟨⟨[],[]⟩,false,rfl,rfl,⟨⟨Nat.zero_le _,fun x i=>by cases i⟩,Nat.zero_le _⟩⟩
 | false =>
  have s:0≤k∧k<(a.Nodes.length:Int):=b true (by simp only [Bool.or_eq_false_iff] at hC ⊢; exact hC.1.1.1)
  rw [if_neg (by simp),if_neg (by simp),fL (by omega),aN,vY g,aN,od g,aN,eX (by omega),aN,eX (by omega),aN]
  simp only [Z0b_J1]
  rw [fL (by omega),aN,fL (by omega),aN,if_pos s,fJ]
  refine ⟨_,true,rfl,rfl,⟨⟨?_,fun x i=>?_⟩,B⟩⟩
  ·simpa using u
  ·rcases List.mem_or_eq_of_mem_set i with h | h
   ·exact g.Nodes.2 x h
   ·subst h
    exact ⟨Nat.zero_le _,q,Nat.zero_le _,Nat.zero_le _,m⟩
theorem yk (xs:(List Node))(k:Nat)(h:ko xs)(r:k+kt eP xs≤BB):Z0m (jP xs k) (k:Int)=some ((k+kt eP xs:Nat):Int):=by
 obtain ⟨ys,u,E,B⟩:=lL (U:=Int×Int) xs eP nd (fun s:(List Node)×Int×Int=>Z02_L1 xs s.1 s.2.1 s.2.2) (fun ys k i=>(ys,k,i)) (fun ys k i g D j l=>by
  show Z02_L1 xs ys (k:Int) (i:Int)=_
  have a:=h.2 _ (bH g)
  have b:i<ys.length:=by omega
  unfold eP at l
  unfold Z02_L1 nd eP
  generalize ix xs (i:Int)=x at *
  rw [if_pos (vQ g),if_pos (n8 g),wi h.1 g]
  (try simp only [fJ,Int.toNat_natCast,j5 b,List.set_set,j])
  rw [wn (by omega)]
  (try simp only [fJ,Int.toNat_natCast,j5 b,List.set_set,j])
  rw [(fE _ _ a.Args (by omega)).1,aN]
  (try simp only [fJ,Int.toNat_natCast,j5 b,List.set_set,j])
  rw [(fE _ _ a.Dims (by omega)).1,aN]
  (try simp only [fJ,Int.toNat_natCast,j5 b,List.set_set,j])
  rw [(fE _ _ a.Ints (by omega)).1,aN]
  (try simp only [fJ,Int.toNat_natCast,j5 b,List.set_set,j])
  rw [qf,aN,wn (by omega)]
  (try simp only [fJ,Int.toNat_natCast,j5 b,List.set_set,j])
  rw [(fE _ _ a.Data (by omega)).1,aN]
  (try simp only [fJ,Int.toNat_natCast,j5 b,List.set_set,j])
  rw [show k+1+x.Args.length+x.Dims.length+x.Ints.length+1+x.Data.length=k+(1+x.Args.length+x.Dims.length+x.Ints.length+1+x.Data.length) by omega]) (fun ys k=>by
  show Z02_L1 xs ys k (xs.length:Int)=_
  unfold Z02_L1; simp only [oa,Bool.false_eq_true,if_false]) k r
 have e:Z02 xs (k:Int)=some (((k+kt eP xs:Nat):Int),ys):=by
  unfold Z02; rw [u,aN]; rfl
 have q:jP xs k=ys:=by unfold jP; rw [e]; rfl
 rw [q]
 unfold Z0m
 rw [B (fun s:Int×Int=>Z0m_L1 ys s.1 s.2) (fun k i=>(k,i)) (fun k i g l m=>by
  have a:=h.2 _ (bH g)
  unfold eP at l ⊢
  unfold nd at m
  show Z0m_L1 ys (k:Int) (i:Int)=_
  unfold Z0m_L1
  rw [if_pos (by simp; omega),if_pos (by omega),m]
  dsimp only
  rw [if_neg (by simp),wn (by omega),(fE _ _ a.Args (by omega)).2,aN,if_neg (by simp; omega),(fE _ _ a.Dims (by omega)).2,aN,if_neg (by simp; omega),(fE _ _ a.Ints (by omega)).2,aN,if_neg (by simp; omega),qf,aN,if_neg (by simp),wn (by omega),(fE _ _ a.Data (by omega)).2,aN,if_neg (by simp; omega),wi h.1 g]
  congr 3; omega) (fun k=>by
  show Z0m_L1 ys k (xs.length:Int)=_
  unfold Z0m_L1
  rw [if_neg (by simp; omega)])]
 rfl
theorem um (x:Graph)(k:Nat)(h:SmGraph x)(e:k+(kt eP x.Nodes+x.Outs.length)≤BB):∃ a b,Z29 x (k:Int)=some (((k+kt eP x.Nodes+x.Outs.length:Nat):Int),a,b)∧Z28 ⟨a,b⟩ (k:Int)=some ((k+kt eP x.Nodes+x.Outs.length:Nat):Int):=by
 refine ⟨jP x.Nodes k,ua x.Outs (k+kt eP x.Nodes),?_,?_⟩
 ·unfold Z29
  rw [(qi x.Nodes (k) h.Nodes (by omega)),aN,(kn x.Outs (k+kt eP x.Nodes) h.Outs (by omega)).1,aN]
 ·unfold Z28
  rw [yk _ _ h.Nodes (by omega),aN,if_neg (by simp; omega),(kn x.Outs (k+kt eP x.Nodes) h.Outs (by omega)).2,aN,if_neg (by simp; omega)]
theorem AA {g:Graph}(h:SmGraph g):GC g:=by
 have b:(1048576:Nat)<cI:=by decide
 have a:=h.Nodes
 exact ⟨Nat.lt_of_le_of_lt a.1 b,Nat.lt_of_le_of_lt h.Outs b,fun n m=>Nat.lt_of_le_of_lt (a.2 n m).Args b,fun n m=>Nat.lt_of_le_of_lt (a.2 n m).Dims b,fun n m=>Nat.lt_of_le_of_lt (a.2 n m).Ints b,fun n m=>Nat.lt_of_le_of_lt (a.2 n m).Data b,fun n m=>(a.2 n m).Form⟩
theorem AB {g:Graph}(h:¬ fQ (jp g) 1048576<0):SmGraph g:=qk (by unfold fQ at h; split at h<;>omega)
theorem un {x:Graph}(h:SmGraph x):kt eP x.Nodes+x.Outs.length≤1048576*8388608:=by
 have:=yj eP 4194306 x.Nodes (fun n a=>by
  have z:=h.Nodes.2 n a
  have b:n.Args.length≤1048576:=z.Args
  have e:n.Dims.length≤1048576:=z.Dims
  have z3:n.Ints.length≤1048576:=z.Ints
  have z4:n.Data.length≤1048576:=z.Data
  unfold eP; omega) h.Nodes.1
 have:x.Outs.length≤1048576:=h.Outs
 omega
theorem uo (a:Graph)(k:Int)(t:Tensor)(B:Cap25 a)(j:Cap38 t):Z3d a k t=some true:=by
 unfold Z3d
 rw [ql B (by omega) (by omega),aN]
 by_cases h:fQ (jp a) 1048576<0
 ·rw [if_pos (by simpa using h)]
 ·have hw:jp a≤1048576∧fQ (jp a) 1048576=1048576 - (jp a:Int):=by
   unfold fQ at h ⊢
   split at h
   ·exact absurd (by omega) h
   ·rename_i q; rw [if_neg q]; exact ⟨by omega,rfl⟩
  have b:=AB h
  rw [if_neg (by simpa using h),pg j (by rw [hw.2]; omega) (by rw [hw.2]; omega),aN]
  by_cases h2:fQ (kp t) (fQ (jp a) 1048576)<0
  ·rw [if_pos (by simpa using h2)]
  ·have e:kp t≤1048576:=by
    rw [hw.2] at h2
    unfold fQ at h2
    split at h2<;>omega
   have i:=pd e
   obtain ⟨x,M,k1,l,g⟩:=rZ (AA b) b k i
   have u:((1:Nat):Int)=1:=rfl
   have F:=un b
   have G:=un g
   have I:t.Dims.length+t.Data.length≤1048576:=e
   obtain ⟨J,o1,m,_⟩:=um a 1 b (by unfold BB; omega)
   obtain ⟨O,D⟩:=ph t (1+kt eP a.Nodes+a.Outs.length) i (by unfold BB; omega)
   obtain ⟨L,o3,r,s⟩:=um x 1 g (by unfold BB; omega)
   rw [u] at m r s
   have E:∀ n:Nat,decide (((n:Nat):Int)<0)=false:=fun n=>by simp
   rw [if_neg (by simpa using h2),uk a b,aN,rX t i,aN,k1,aN,aN,aN,l,aN,lj x g,aN,if_neg (by simp),aN,lj a b,aN,if_neg (by simp),aN,rY t i,aN,if_neg (by simp),m,aN]
   dsimp only
   rw [D,aN]
   simp only [E,Bool.not_false,BP,aN,Bool.not_true,Bool.false_or,Bool.or_false,beq_self_eq_true,lj x g]
   rw [if_neg (by simp),r,aN]
   dsimp only
   rw [s,aN,if_neg (by simp; omega),if_neg (by simp),l,aN,lj x g,aN,if_neg (by simp),aN,if_neg (by simp; omega),if_neg (by simp)]
end Go.Proofs.YthelanpdjajnbaaGreat
