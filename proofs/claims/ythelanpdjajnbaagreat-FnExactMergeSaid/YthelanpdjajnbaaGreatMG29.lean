import Derived.Test.YthelanpdjajnbaaGreatMG13
import Derived.Test.YthelanpdjajnbaaGreatMeF
import Derived.Test.YthelanpdjajnbaaGreatPL1
set_option linter.unusedVariables false
set_option linter.unusedSimpArgs false
namespace Go.Proofs.YthelanpdjajnbaaGreat
open Go Go.Pg
theorem ue {c:UInt8}(h:97≤c.toNat∧c.toNat≤122):IntKind.wrap .u8 ((c.toNat:Int) - 97)=(c.toNat:Int) - 97:=by
 unfold IntKind.wrap
 simp [IntKind.bits,IntKind.signed]
 omega
theorem rA {g:aP}{k:Nat}(h:k<g.length):sub g (k:Int) ((k+1:Nat):Int)=[ix g (k:Int)]:=by
 unfold sub
 rw [Int.toNat_natCast,Int.toNat_natCast,List.take_succ_eq_append_getElem h,List.drop_append_of_le_length (by simp; omega),bV h]
 simp
theorem yq {gs:List aP}{dss:List (List Int)}{b:List aP×aP×Bool}{x:Nat}(I:b.1=gs)(Z:x<gs.length)(u:LT (ix gs (x:Int))){m:Nat}(Y:m≤100){s:aP×List Int}(h1:s.1.length≤m)(h2:s.2.length=26)(D:(ix gs (x:Int)).length=(ix dss (x:Int)).length) :
  (∃ s',m0 (ix gs (x:Int)) (ix dss (x:Int)) s=some s'∧aU (fun s:aP×List Int×Int=>Z4_L2 dss b (x:Int) s.1 s.2.1 s.2.2) (s.1,s.2,0)=some (.inr (s'.1,s'.2))∧s'.1.length≤m+6∧s'.2.length=26) ∨
  (m0 (ix gs (x:Int)) (ix dss (x:Int)) s=none∧∃ e,aU (fun s:aP×List Int×Int=>Z4_L2 dss b (x:Int) s.1 s.2.1 s.2.2) (s.1,s.2,0)=some (.inl e)∧e.2=false):=by
 obtain ⟨g,l⟩:∃ g,g=ix gs (x:Int):=⟨_,rfl⟩
 obtain ⟨ds,h⟩:∃ ds,ds=ix dss (x:Int):=⟨_,rfl⟩
 have a:ix b.1 (x:Int)=g:=by rw [I,l]
 rw [← l] at u D ⊢
 rw [← h] at D ⊢
 unfold m0
 rw [if_pos D]
 rcases jF (f:=fun s:aP×List Int×Int=>Z4_L2 dss b (x:Int) s.1 s.2.1 s.2.2) (fun s k=>lx s (ix g (k:Int)) (ix ds (k:Int))) (fun s i=>(s.1,s.2,i)) (fun s=>(s.1,s.2)) (fun e=>e.2=false) (fun j s=>s.1.length≤m+j∧s.2.length=26) g.length
  (fun j s F E=>by
   obtain ⟨i1,T⟩:=E
   have J:=u.2 _ (bF F)
   have L:=u.1
   have B:bt g (j:Int)=((ix g (j:Int)).toNat:Int):=rfl
   simp only [Z4_L2]
   rw [a,← h,if_pos (by simp; omega),if_pos (by omega),B,ue J,if_pos (by omega),if_pos (fun _=>by omega)]
   show (∃ s',lx s _ _=_∧_)∨_
   unfold lx
   by_cases c:lk s.2 (ix g (j:Int))≠0∧lk s.2 (ix g (j:Int))≠ix ds (j:Int)
   ·rw [if_pos c,if_pos (by unfold lk at c; simpa using c)]
    exact .inr ⟨rfl,_,rfl,rfl⟩
   ·rw [if_neg c]
    obtain ⟨r,U,G⟩:=oD s.1 (ix g (j:Int))
    have O:((((ix g (j:Int)).toNat:Int) - 97)).toNat=(ix g (j:Int)).toNat - 97:=by omega
    have M:¬ (((ix s.2 (((ix g (j:Int)).toNat:Int) - 97)) != 0)&&((ix s.2 (((ix g (j:Int)).toNat:Int) - 97)) != (ix ds (j:Int))))=true:=by
     unfold lk at c; simpa using c
    refine .inl ⟨_,rfl,?_,?_,by simpa using T⟩
    ·rw [if_neg M,if_pos (by omega)]
     simp only [nm,Option.bind_some]
     rw [U,O]
     simp only [Option.bind_some]
     by_cases q:ix g (j:Int)∈s.1
     ·rw [if_neg (by simp; have:¬ r<0:=fun z=>G.1 z q; omega),if_pos q]
      simp only [Z4_J5]
      rw [cA (by unfold cJ; omega)]
     ·rw [if_pos (decide_eq_true (G.2 q)),cA (by unfold cJ; omega),if_pos (by omega),rA F,if_pos (by simp; omega),if_neg q]
      simp only [Z4_J5]
      rw [cA (by unfold cJ; omega)]
    ·by_cases q:ix g (j:Int)∈s.1
     ·simp only [if_pos q]; omega
     ·simp only [if_neg q]; simp; omega)
  (fun s E=>by
   simp only [Z4_L2]
   rw [a,if_neg (by simp)])
  (s:=s) ⟨by omega,h2⟩ with ⟨s',a1,a2,a3,a4⟩|⟨a1,e,a2,a3⟩
 ·have:=u.1
  exact .inl ⟨s',a1,a2,by omega,a4⟩
 ·exact .inr ⟨a1,e,a2,a3⟩
theorem yr {gs:List aP}{dss:List (List Int)}{b:List aP×aP×Bool}(h:b.1=gs)(E:gs.length≤6)(r:∀ g∈gs,LT g)(D:gs.length=dss.length){s:aP×List Int}(h1:s.1.length≤6)(h2:s.2.length=26) :
  (∃ s',nG gs dss s=some s'∧aU (fun s:aP×List Int×Int=>Z4_L1 dss b s.1 s.2.1 s.2.2) (s.1,s.2,0)=some (.inr (s'.1,s'.2))∧s'.1.length≤42∧s'.2.length=26) ∨
  (nG gs dss s=none∧∃ e,aU (fun s:aP×List Int×Int=>Z4_L1 dss b s.1 s.2.1 s.2.2) (s.1,s.2,0)=some (.inl e)∧e.2=false):=by
 unfold nG
 rcases jF (f:=fun s:aP×List Int×Int=>Z4_L1 dss b s.1 s.2.1 s.2.2) (fun s k=>m0 (ix gs (k:Int)) (ix dss (k:Int)) s) (fun s i=>(s.1,s.2,i)) (fun s=>(s.1,s.2)) (fun e=>e.2=false) (fun j s=>s.1.length≤6+6*j∧s.2.length=26) gs.length
  (fun j s q l=>by
   obtain ⟨u,B⟩:=l
   simp only [Z4_L1]
   rw [h,if_pos (by simp; omega),if_pos (by omega),if_pos (by omega)]
   by_cases c:(ix gs (j:Int)).length=(ix dss (j:Int)).length
   ·rw [if_neg (by simp; omega)]
    rcases yq (m:=6+6*j) h q (r _ (bF q)) (by omega) u B c with ⟨s',a1,a,a3,a4⟩|⟨a1,e,a,a3⟩
    ·rw [a]
     refine .inl ⟨s',a1,?_,by omega,a4⟩
     simp only [Option.bind_some,Z4_J6]
     rw [cA (by unfold cJ; omega)]
    ·rw [a]
     exact .inr ⟨a1,e,rfl,a3⟩
   ·rw [if_pos (by simp; omega)]
    refine .inr ⟨by unfold m0; rw [if_neg c],_,rfl,rfl⟩)
  (fun s l=>by
   simp only [Z4_L1]
   rw [h,if_neg (by simp)])
  (s:=s) ⟨by omega,h2⟩ with ⟨s',a1,a,a3,a4⟩|⟨a1,e,a,a3⟩
 ·exact .inl ⟨s',a1,a,by omega,a4⟩
 ·exact .inr ⟨a1,e,a,a3⟩
theorem uf:∀ {f:aP} {c:UInt8} {j:Nat},j<f.idxOf c→∀ h:j<f.length,f[j]≠c
 | [],_,_,_,h=>by simp at h
 | b::l,c,j,hj,h=>by
  rw [List.idxOf_cons] at hj
  cases e:b==c with
  | true=>rw [e] at hj; simp at hj
  | false =>
   rw [e] at hj
   cases j with
   | zero=>simpa using e
   | succ j=>exact uf (f:=l) (by simp at hj; omega) (by simpa using h)
theorem yt {gs:List aP}{k i:Nat}{f:aP}(m:f.length<cJ)(r:i<(ix gs (k:Int)).length):aU (fun s:Int=>Z3_L3 gs (k:Int) f (i:Int) s) 0=some ((f.idxOf (ix (ix gs (k:Int)) (i:Int)):Nat):Int):=by
 obtain ⟨c,g⟩:∃ c,c=ix (ix gs (k:Int)) (i:Int):=⟨_,rfl⟩
 rw [← g]
 have l:f.idxOf c≤f.length:=List.idxOf_le_length
 have a:bt (ix gs (k:Int)) (i:Int)=(c.toNat:Int):=by rw [g]; rfl
 have e:∀ j:Nat,(bt f (j:Int) != (c.toNat:Int))=!decide (ix f (j:Int)=c):=by
  intro j
  have:(bt f (j:Int)==(c.toNat:Int))=decide (ix f (j:Int)=c):=lr
  unfold bne; rw [this]
 refine eR (f:=fun s:Int=>Z3_L3 gs (k:Int) f (i:Int) s) (fun j=>(j:Int)) (f.idxOf c) (fun j h=>?_) ?_ rfl
 ·have b:j<f.length:=by omega
  simp only [Z3_L3]
  rw [if_pos (fun _=>by omega),if_pos (fun _=>by omega),a,e,cA (by omega),if_pos]
  have:ix f (j:Int)≠c:=by
   rw [bV b]; exact uf h b
  simp [this]; omega
 ·simp only [Z3_L3]
  rw [if_pos (fun z=>by simp at z; omega),if_pos (fun _=>by omega),a,e,if_neg]
  by_cases q:f.idxOf c<f.length
  ·have:ix f ((f.idxOf c:Nat):Int)=c:=by rw [bV q]; exact List.getElem_idxOf q
   simp [this]
  ·simp; omega
theorem m5 {lens:List Int}(h:lens.length=26){c a:UInt8}(g:97≤c.toNat∧c.toNat≤122)(b:97≤a.toNat∧a.toNat≤122)(d:Int):lk (lens.set (c.toNat - 97) d) a=if a=c then d else lk lens a:=by
 unfold lk
 have e:((a.toNat:Int) - 97)=((a.toNat - 97:Nat):Int):=by omega
 rw [e,bV (by simp; omega),List.getElem_set]
 by_cases q:a=c
 ·rw [if_pos q,if_pos (by rw [q])]
 ·have:a.toNat≠c.toNat:=fun z=>q (UInt8.toNat_inj.1 z)
  rw [if_neg q,if_neg (by omega),bV (by omega)]
theorem rB:∀ {f:aP} {c:UInt8} {g h:UInt8→Int} {d:Int},f.Nodup→c∈f→h c=d→(∀ x∈f,x≠c→h x=g x)→(f.map g).set (f.idxOf c) d=f.map h
 | [],_,_,_,_,_,hm,_,_=>by simp at hm
 | b::l,c,g,h,d,hn,hm,h1,h2=>by
  rw [List.nodup_cons] at hn
  rw [List.idxOf_cons]
  by_cases q:b=c
  ·subst q
   simp only [beq_self_eq_true,cond_true,List.map_cons,List.set_cons_zero,h1]
   congr 1
   apply List.map_congr_left
   intro x a
   exact (h2 x (List.mem_cons_of_mem _ a) (fun z=>hn.1 (z▸a))).symm
  ·have e:(b==c)=false:=by simpa using q
   have i:c∈l:=by
    rcases List.mem_cons.1 hm with z | z
    ·exact absurd z.symm q
    ·exact z
   rw [e]
   simp only [cond_false,List.map_cons,List.set_cons_succ]
   rw [rB hn.2 i h1 (fun x a j=>h2 x (List.mem_cons_of_mem _ a) j),h2 b (List.mem_cons_self ..) q]
structure IS (s:aP×List Int):Prop where
 l:s.2.length=26
 n:s.1.Nodup
 c:∀ c∈s.1,97≤c.toNat∧c.toNat≤122
 z:∀ c:UInt8,97≤c.toNat→c.toNat≤122→c ∉ s.1→lk s.2 c=0
theorem rC {s s':aP×List Int}{c:UInt8}{d:Int}(e:IS s)(i:97≤c.toNat∧c.toNat≤122)(h:lx s c d=some s'):IS s'∧s'.1.length≤s.1.length+1:=by
 unfold lx at h
 split at h
 ·cases h
 ·cases h
  by_cases q:c∈s.1
  ·simp only [if_pos q]
   refine ⟨⟨by simpa using e.l,e.n,e.c,fun x h1 h2 g=>?_⟩,by omega⟩
   rw [m5 e.l i ⟨h1,h2⟩,if_neg (fun z=>g (by rw [z]; exact q))]
   exact e.z x h1 h2 g
  ·simp only [if_neg q]
   refine ⟨⟨by simpa using e.l,?_,?_,fun x h1 h2 g=>?_⟩,by simp⟩
   ·rw [List.nodup_append]
    refine ⟨e.n,by simp,?_⟩
    intro a m b j
    simp at j; subst j
    exact fun z=>q (z▸m)
   ·intro x r
    rcases List.mem_append.1 r with z | z
    ·exact e.c x z
    ·simp at z; rw [z]; exact i
   ·simp at g
    rw [m5 e.l i ⟨h1,h2⟩,if_neg g.2]
    exact e.z x h1 h2 g.1
theorem qp {f:aP}{g:UInt8→Int}{p:Nat}(h:p<f.length):ix (f.map g) (p:Int)=g f[p]:=by
 rw [bV (by simpa using h)]; simp
theorem ug {gs:List aP}{dss:List (List Int)}{x j:Nat}{s:aP×List Int}(B:IS s)(J:s.1.length≤100)(Z:j<(ix gs (x:Int)).length)(hl:(ix gs (x:Int)).length=(ix dss (x:Int)).length)(h6:(ix gs (x:Int)).length≤6)(g:97≤(ix (ix gs (x:Int)) (j:Int)).toNat∧(ix (ix gs (x:Int)) (j:Int)).toNat≤122) :
  (∃ s',lx s (ix (ix gs (x:Int)) (j:Int)) (ix (ix dss (x:Int)) (j:Int))=some s'∧Z3_L2 gs dss (x:Int) s.1 (s.1.map (lk s.2)) (j:Int)=some (.inl (s'.1,s'.1.map (lk s'.2),((j+1:Nat):Int)))) ∨
  (lx s (ix (ix gs (x:Int)) (j:Int)) (ix (ix dss (x:Int)) (j:Int))=none∧∃ e,Z3_L2 gs dss (x:Int) s.1 (s.1.map (lk s.2)) (j:Int)=some (.inr (.inl e))∧e.2.2=false):=by
 obtain ⟨c,m⟩:∃ c,c=ix (ix gs (x:Int)) (j:Int):=⟨_,rfl⟩
 obtain ⟨d,Y⟩:∃ d,d=ix (ix dss (x:Int)) (j:Int):=⟨_,rfl⟩
 rw [← m] at g ⊢
 rw [← Y]
 have F:=yt (gs:=gs) (k:=x) (i:=j) (f:=s.1) (by unfold cJ; omega) Z
 rw [← m] at F
 simp only [Z3_L2]
 rw [if_pos (by simp; omega),F]
 simp only [Option.bind_some]
 have T:∀ (f:aP) (ls:List Int),f.Nodup→c∈f→s.1.idxOf c=f.idxOf c→ls=f.map (lk s.2)→(∀ y∈f,97≤y.toNat∧y.toNat≤122) →
   Z3_J9 dss (x:Int) (j:Int) ((s.1.idxOf c:Nat):Int) f ls=if lk s.2 c≠0∧lk s.2 c≠d then some (.inr (.inl ([],ls,false))) else some (.inl (f,f.map (lk (s.2.set (c.toNat - 97) d)),((j+1:Nat):Int))):=by
  intro f ls hn J hi u r
  have D:f.idxOf c<f.length:=List.idxOf_lt_length_iff.2 J
  have e:ix ls ((f.idxOf c:Nat):Int)=lk s.2 c:=by
   rw [u,qp D]; congr 1; exact List.getElem_idxOf D
  have a0:ls.length=f.length:=by rw [u]; simp
  unfold Z3_J9
  rw [hi,e,← Y,if_pos (by omega),if_pos (fun _=>by omega)]
  by_cases q:lk s.2 c≠0∧lk s.2 c≠d
  ·rw [if_pos q,if_pos (by simpa using q)]
  ·rw [if_neg q,if_neg (by simpa using q),if_pos (by omega),cA (by unfold cJ; omega),Int.toNat_natCast,u,rB hn J (h:=lk (s.2.set (c.toNat - 97) d))]
   ·rw [m5 B.l g g,if_pos rfl]
   ·intro y M O
    rw [m5 B.l g (r y M),if_neg O]
 have R:∀ f,(if c∈s.1 then s.1 else s.1++[c])=f→(∀ z,z=(if lk s.2 c≠0∧lk s.2 c≠d then some (.inr (.inl ([],f.map (lk s.2),false))) else some (.inl (f,f.map (lk (s.2.set (c.toNat - 97) d)),((j+1:Nat):Int))):Option ((aP×(List Int)×Int)⊕((aP×(List Int)×Bool)⊕(aP×(List Int))))) →
   (∃ s',lx s c d=some s'∧z=some (.inl (s'.1,s'.1.map (lk s'.2),((j+1:Nat):Int))))∨(lx s c d=none∧∃ e,z=some (.inr (.inl e))∧e.2.2=false)):=by
  intro f F z G
  unfold lx
  by_cases q:lk s.2 c≠0∧lk s.2 c≠d
  ·rw [if_pos q] at G ⊢
   exact .inr ⟨rfl,_,G,rfl⟩
  ·rw [if_neg q] at G ⊢
   rw [F]
   exact .inl ⟨_,rfl,G⟩
 unfold Z3_J8
 by_cases q:c∈s.1
 ·have D:s.1.idxOf c<s.1.length:=List.idxOf_lt_length_iff.2 q
  rw [if_neg (by simp; omega),T s.1 _ B.n q rfl rfl B.c]
  exact R s.1 (if_pos q) _ rfl
 ·have D:s.1.idxOf c=s.1.length:=by
   have:¬ s.1.idxOf c<s.1.length:=fun z=>q (List.idxOf_lt_length_iff.1 z)
   have:s.1.idxOf c≤s.1.length:=List.idxOf_le_length
   omega
  have I:(s.1++[c]).idxOf c=s.1.length:=by
   rw [List.idxOf_append,if_neg q]; simp
  have L:(s.1++[c]).Nodup:=by
   rw [List.nodup_append]
   refine ⟨B.n,by simp,?_⟩
   intro a ha b U
   simp at U; subst U
   exact fun z=>q (z▸ha)
  have r:∀ y∈s.1++[c],97≤y.toNat∧y.toNat≤122:=by
   intro y M
   rcases List.mem_append.1 M with z | z
   ·exact B.c y z
   ·simp at z; rw [z]; exact g
  have E:s.1.map (lk s.2)++[0]=(s.1++[c]).map (lk s.2):=by
   rw [List.map_append]; simp [B.z c g.1 g.2 q]
  rw [if_pos (by rw [D]; simp),cA (by unfold cJ; omega),if_pos (by omega),rA Z,← m,if_pos (by simp; omega),if_pos (by simp; omega),T (s.1++[c]) _ L (by simp) (by rw [D,I]) E r,E]
  exact R _ (if_neg q) _ rfl
theorem yu {gs:List aP}{dss:List (List Int)}{x:Nat}(h:LT (ix gs (x:Int))){m:Nat}(F:m≤90){s:aP×List Int}(h1:s.1.length≤m)(D:IS s)(r:(ix gs (x:Int)).length=(ix dss (x:Int)).length) :
  (∃ s',m0 (ix gs (x:Int)) (ix dss (x:Int)) s=some s'∧aU (fun s:aP×List Int×Int=>Z3_L2 gs dss (x:Int) s.1 s.2.1 s.2.2) (s.1,s.1.map (lk s.2),0)=some (.inr (s'.1,s'.1.map (lk s'.2)))∧s'.1.length≤m+6∧IS s') ∨
  (m0 (ix gs (x:Int)) (ix dss (x:Int)) s=none∧∃ e,aU (fun s:aP×List Int×Int=>Z3_L2 gs dss (x:Int) s.1 s.2.1 s.2.2) (s.1,s.1.map (lk s.2),0)=some (.inl e)∧e.2.2=false):=by
 unfold m0
 rw [if_pos r]
 have B:=h.1
 rcases jF (f:=fun s:aP×List Int×Int=>Z3_L2 gs dss (x:Int) s.1 s.2.1 s.2.2) (fun s k=>lx s (ix (ix gs (x:Int)) (k:Int)) (ix (ix dss (x:Int)) (k:Int))) (fun s i=>(s.1,s.1.map (lk s.2),i)) (fun s=>(s.1,s.1.map (lk s.2))) (fun e=>e.2.2=false) (fun j s=>s.1.length≤m+j∧IS s) (ix gs (x:Int)).length
  (fun j s l b=>by
   have g:=h.2 _ (bF l)
   rcases ug b.2 (by have:=b.1; omega) l r B g with ⟨s',a1,a⟩ | q
   ·obtain ⟨u,E⟩:=rC b.2 g a1
    exact .inl ⟨s',a1,a,by have:=b.1; omega,u⟩
   ·exact .inr q)
  (fun s b=>by
   simp only [Z3_L2]
   rw [if_neg (by simp)])
  (s:=s) ⟨by omega,D⟩ with ⟨s',a1,a,a3,a4⟩|⟨a1,e,a,a3⟩
 ·exact .inl ⟨s',a1,a,by omega,a4⟩
 ·exact .inr ⟨a1,e,a,a3⟩
theorem uk {gs:List aP}{dss:List (List Int)}(D:gs.length≤6)(h:∀ g∈gs,LT g)(B:gs.length=dss.length){s:aP×List Int}(h1:s.1.length≤6)(q:IS s) :
  (∃ s',nG gs dss s=some s'∧aU (fun s:aP×List Int×Int=>Z3_L1 gs dss s.1 s.2.1 s.2.2) (s.1,s.1.map (lk s.2),0)=some (.inr (s'.1,s'.1.map (lk s'.2)))∧s'.1.length≤42∧IS s') ∨
  (nG gs dss s=none∧∃ e,aU (fun s:aP×List Int×Int=>Z3_L1 gs dss s.1 s.2.1 s.2.2) (s.1,s.1.map (lk s.2),0)=some (.inl e)∧e.2.2=false):=by
 unfold nG
 rcases jF (f:=fun s:aP×List Int×Int=>Z3_L1 gs dss s.1 s.2.1 s.2.2) (fun s k=>m0 (ix gs (k:Int)) (ix dss (k:Int)) s) (fun s i=>(s.1,s.1.map (lk s.2),i)) (fun s=>(s.1,s.1.map (lk s.2))) (fun e=>e.2.2=false) (fun j s=>s.1.length≤6+6*j∧IS s) gs.length
  (fun j s l b=>by
   obtain ⟨r,u⟩:=b
   simp only [Z3_L1]
   rw [if_pos (by simp; omega),if_pos (by omega),if_pos (by omega)]
   by_cases c:(ix gs (j:Int)).length=(ix dss (j:Int)).length
   ·rw [if_neg (by simp; omega)]
    rcases yu (m:=6+6*j) (h _ (bF l)) (by omega) r u c with ⟨s',a1,a,a3,a4⟩|⟨a1,e,a,a3⟩
    ·rw [a]
     refine .inl ⟨s',a1,?_,by omega,a4⟩
     simp only [Option.bind_some,Z3_J10]
     rw [cA (by unfold cJ; omega)]
    ·rw [a]
     exact .inr ⟨a1,e,rfl,a3⟩
   ·rw [if_pos (by simp; omega)]
    refine .inr ⟨by unfold m0; rw [if_neg c],_,rfl,rfl⟩)
  (fun s b=>by
   simp only [Z3_L1]
   rw [if_neg (by simp)])
  (s:=s) ⟨by omega,q⟩ with ⟨s',a1,a,a3,a4⟩|⟨a1,e,a,a3⟩
 ·exact .inl ⟨s',a1,a,by omega,a4⟩
 ·exact .inr ⟨a1,e,a,a3⟩
theorem oE {S:Type}{st:S→Nat→Option S}(I:Nat→S→Prop){s:S}(a:I 0 s):∀ (n:Nat),(∀ j s s',j<n→I j s→st s j=some s'→I (j+1) s')→∀ {s':S},qo st n s=some s'→I n s'
 | 0,_,s',h=>by cases h; exact a
 | n+1,hs,s',h=>by
  rw [qo] at h
  obtain ⟨m,h1,h2⟩:=bd h
  exact hs n m s' (by omega) (oE I a n (fun j s s' b=>hs j s s' (by omega)) h1) h2
structure Ext (s s':aP×List Int):Prop where
 i:IS s'
 p:∃ t,s'.1=s.1++t
 k:∀ c:UInt8,97≤c.toNat→c.toNat≤122→lk s.2 c≠0→lk s'.2 c=lk s.2 c
theorem Ext.rfl_ {s:aP×List Int}(h:IS s):Ext s s:=⟨h,⟨[],by simp⟩,fun _ _ _ _=>rfl⟩
theorem Ext.trans {a b c:aP×List Int}(h1:Ext a b)(h2:Ext b c):Ext a c:=by
 obtain ⟨t,e⟩:=h1.p
 obtain ⟨u,g⟩:=h2.p
 refine ⟨h2.i,⟨t++u,by rw [g,e,List.append_assoc]⟩,fun x a b h=>?_⟩
 have:=h1.k x a b h
 rw [h2.k x a b (by rw [this]; exact h),this]
theorem ul {s s':aP×List Int}{c:UInt8}{d:Int}(j:IS s)(g:97≤c.toNat∧c.toNat≤122)(h:lx s c d=some s'):Ext s s'∧c∈s'.1∧lk s'.2 c=d∧∀ x∈s'.1,x∈s.1∨x=c:=by
 have u:=(rC j g h).1
 unfold lx at h
 split at h
 ·cases h
 ·rename_i q
  cases h
  refine ⟨⟨u,?_,fun x a b r=>?_⟩,?_,?_,?_⟩
  ·by_cases m:c∈s.1
   ·exact ⟨[],by simp [m]⟩
   ·exact ⟨[c],by simp [m]⟩
  ·show lk (s.2.set _ _) x=_
   rw [m5 j.l g ⟨a,b⟩]
   by_cases e:x=c
   ·subst e
    rw [if_pos rfl]
    exact Classical.byContradiction fun z=>q ⟨r,fun w=>z w.symm⟩
   ·rw [if_neg e]
  ·by_cases m:c∈s.1<;>simp [m]
  ·show lk (s.2.set _ _) c=_
   rw [m5 j.l g g,if_pos rfl]
  ·intro x i
   by_cases m:c∈s.1
   ·simp only [if_pos m] at i; exact .inl i
   ·simp only [if_neg m] at i; simpa using i
theorem um {g:aP}{ds:List Int}{s s':aP×List Int}(M:IS s)(E:LT g)(J:∀ d∈ds,d≠0)(h:m0 g ds s=some s') :
  Ext s s'∧g.length=ds.length∧(∀ j:Nat,j<g.length→ix g (j:Int)∈s'.1∧lk s'.2 (ix g (j:Int))=ix ds (j:Int))∧∀ x∈s'.1,x∈s.1∨x∈g:=by
 unfold m0 at h
 split at h
 ·rename_i L
  obtain ⟨a,b,c⟩:=oE (fun n z=>Ext s z∧(∀ j:Nat,j<n→ix g (j:Int)∈z.1∧lk z.2 (ix g (j:Int))=ix ds (j:Int))∧∀ x∈z.1,x∈s.1∨x∈g) ⟨Ext.rfl_ M,fun j F=>absurd F (Nat.not_lt_zero _),fun x B=>.inl B⟩ g.length
   (fun n z U G I T=>by
    obtain ⟨a,b,c⟩:=I
    obtain ⟨p,q,r,t⟩:=ul a.i (E.2 _ (bF G)) T
    refine ⟨a.trans p,fun j F=>?_,fun x B=>?_⟩
    ·by_cases e:j=n
     ·subst e; exact ⟨q,r⟩
     ·obtain ⟨m,l⟩:=b j (by omega)
      obtain ⟨u,O⟩:=p.p
      have D:=E.2 _ (bF (show j<g.length by omega))
      refine ⟨by rw [O]; exact List.mem_append_left _ m,?_⟩
      rw [p.k _ D.1 D.2 (by rw [l]; exact J _ (bF (by omega))),l]
    ·rcases t x B with y | y
     ·exact c x y
     ·rw [y]; exact .inr (bF G)) h
  exact ⟨a,L,b,c⟩
 ·cases h
theorem un {gs:List aP}{dss:List (List Int)}{s s':aP×List Int}(M:IS s)(U:gs.length=dss.length)(G:∀ g∈gs,LT g)(F:∀ ds∈dss,∀ d∈ds,d≠0)(h:nG gs dss s=some s') :
  Ext s s'∧(∀ x:Nat,x<gs.length→(ix gs (x:Int)).length=(ix dss (x:Int)).length∧∀ j:Nat,j<(ix gs (x:Int)).length→ix (ix gs (x:Int)) (j:Int)∈s'.1∧lk s'.2 (ix (ix gs (x:Int)) (j:Int))=ix (ix dss (x:Int)) (j:Int))∧∀ y∈s'.1,y∈s.1∨∃ g∈gs,y∈g:=by
 unfold nG at h
 exact oE (fun n z=>Ext s z∧(∀ x:Nat,x<n→(ix gs (x:Int)).length=(ix dss (x:Int)).length∧∀ j:Nat,j<(ix gs (x:Int)).length→ix (ix gs (x:Int)) (j:Int)∈z.1∧lk z.2 (ix (ix gs (x:Int)) (j:Int))=ix (ix dss (x:Int)) (j:Int))∧∀ y∈z.1,y∈s.1∨∃ g∈gs,y∈g) ⟨Ext.rfl_ M,fun j B=>absurd B (Nat.not_lt_zero _),fun x J=>.inl J⟩ gs.length
  (fun n z Y I L T=>by
   obtain ⟨a,b,c⟩:=L
   have D:=G _ (bF I)
   obtain ⟨p,q,r,t⟩:=um a.i D (F _ (bF (by omega))) T
   refine ⟨a.trans p,fun x J=>?_,fun y O=>?_⟩
   ·by_cases e:x=n
    ·subst e; exact ⟨q,r⟩
    ·obtain ⟨l,m⟩:=b x (by omega)
     refine ⟨l,fun j B=>?_⟩
     obtain ⟨u,v⟩:=m j B
     obtain ⟨w,hw⟩:=p.p
     have E:=(G _ (bF (show x<gs.length by omega))).2 _ (bF B)
     refine ⟨by rw [hw]; exact List.mem_append_left _ u,?_⟩
     rw [p.k _ E.1 E.2 (by rw [v]; exact F _ (bF (by omega)) _ (bF (by omega))),v]
   ·rcases t y O with w | w
    ·exact c y w
    ·exact .inr ⟨_,bF I,w⟩) h
theorem w4 {ds:List Int}{k:Int}(M:ds.length≤100)(h1:∀ d∈ds,1≤d∧d≤4096)(e:0≤k)(h:k≤65536):Zl ds k=some (iy ds k):=by
 have a:∀ j,1≤pr (ds.drop j):=fun j=>fV fun d g=>(h1 d (List.mem_of_mem_drop g)).1
 unfold Zl
 rw [if_pos (by omega)]
 have:=eR (f:=fun s:Int×List Int×Int=>Zl_L1 ds s.1 s.2.1 s.2.2) (r:=iy ds k)
  (fun j=>(k / pr (ds.drop (ds.length - j)),List.replicate (ds.length - j) 0++iy (ds.drop (ds.length - j)) k,(ds.length:Int) - 1 - j)) ds.length
  (fun j L=>by
   obtain ⟨i,D⟩:∃ i,i=ds.length - (j+1):=⟨_,rfl⟩
   have m:ds.length - j=i+1:=by omega
   have q:(ds.length:Int) - 1 - (j:Int)=(i:Int):=by omega
   have b:i<ds.length:=by omega
   have E:=h1 _ (bF b)
   have F:=a (i+1)
   have g:ds.drop i=ix ds (i:Int)::ds.drop (i+1):=by rw [List.drop_eq_getElem_cons b,bV b]
   have l:0≤k / pr (ds.drop (i+1)):=Int.ediv_nonneg e (by omega)
   have G:k / pr (ds.drop (i+1))≤65536:=Int.le_trans (Int.ediv_le_self _ e) h
   simp only [Zl_L1,m,q,← D]
   rw [if_pos (by simp),if_pos (by omega),if_pos (by omega),if_pos (by simp; omega)]
   have u:(k / pr (ds.drop (i+1))).tdiv (ix ds (i:Int))=k / pr (ds.drop i):=by
    rw [Int.tdiv_eq_ediv_of_nonneg l,g]; exact (tC F E.1).1.symm
   have B:(k / pr (ds.drop (i+1))).tmod (ix ds (i:Int))=k / pr (ds.drop (i+1)) % ix ds (i:Int):=Int.tmod_eq_emod_of_nonneg l
   have I:0≤k / pr (ds.drop i):=Int.ediv_nonneg e (by have:=a i; omega)
   have J:k / pr (ds.drop i)≤65536:=Int.le_trans (Int.ediv_le_self _ e) h
   rw [u,B,bG (by omega) (by omega),bG (by omega) (by omega)]
   congr 4
   ·rw [g,List.set_append_left _ _ (by simp),List.replicate_succ',List.set_append_right _ _ (by simp)]
    simp [iy]
   ·omega)
  (by
   simp only [Zl_L1,Nat.sub_self,List.drop_zero,List.replicate_zero,List.nil_append]
   rw [if_neg (by simp; omega)])
  (s:=(k,List.replicate (ds.length:Int).toNat 0,aK ((ds.length:Int) - 1))) (by
   rw [bG (by omega) (by omega)]
   simp [pr,iy])
 rw [this]
 rfl
def wk (ls:List Int)(s:Int)(j:Nat):Option Int:=if s*ix ls (j:Int)>65536 then none else some (s*ix ls (j:Int))
theorem rD {ls:List Int}{j:Nat}(h:j<ls.length):pr (ls.take (j+1))=pr (ls.take j)*ix ls (j:Int):=by
 rw [List.take_succ_eq_append_getElem h,nd,bV h]; simp [pr]
theorem Ce {ls:List Int}(h:∀ d∈ls,1≤d):∀ n,n≤ls.length→qo (wk ls) n 1=if pr (ls.take n)≤65536 then some (pr (ls.take n)) else none
 | 0,_=>by simp [qo,pr]
 | n+1,hn=>by
  have i:1≤pr (ls.take n):=fV fun d g=>h d (List.mem_of_mem_take g)
  have g:=h _ (bF (show n<ls.length by omega))
  rw [qo,Ce h n (by omega),rD (by omega)]
  by_cases c:pr (ls.take n)≤65536
  ·rw [if_pos c]
   simp only [Option.bind_some,wk]
   by_cases e:pr (ls.take n)*ix ls (n:Int)≤65536
   ·rw [if_neg (by omega),if_pos e]
   ·rw [if_pos (by omega),if_neg e]
  ·rw [if_neg c,if_neg]
   ·rfl
   ·have:=j5 (a:=pr (ls.take n)) (b:=ix ls (n:Int)) (by omega) g
    omega
theorem yv {ls:List Int}(u:ls.length≤100)(h:∀ d∈ls,1≤d∧d≤4096) :
  (pr ls≤65536∧aU (fun s:Int×Int=>Z3_L4 ls s.1 s.2) (1,0)=some (.inr ())) ∨
  (¬ pr ls≤65536∧∃ e,aU (fun s:Int×Int=>Z3_L4 ls s.1 s.2) (1,0)=some (.inl e)∧e.2.2=false):=by
 have g:=Ce (fun d m=>(h d m).1) ls.length (Nat.le_refl _)
 rw [List.take_length] at g
 rcases jF (f:=fun s:Int×Int=>Z3_L4 ls s.1 s.2) (wk ls) (fun s i=>(s,i)) (fun _=>()) (fun e=>e.2.2=false) (fun j s=>1≤s∧s≤65536) ls.length
  (fun j s q l=>by
   have r:=h _ (bF q)
   simp only [Z3_L4]
   rw [if_pos (by simp; omega),if_pos (by omega),iS (by omega) (by omega) (by omega) (by omega),cA (by unfold cJ; omega)]
   unfold wk
   by_cases c:s*ix ls (j:Int)>65536
   ·rw [if_pos c,if_pos (decide_eq_true c)]
    exact .inr ⟨rfl,_,rfl,rfl⟩
   ·rw [if_neg c,if_neg (by simpa using c)]
    have:=j5 (a:=s) (b:=ix ls (j:Int)) (by omega) r.1
    exact .inl ⟨_,rfl,rfl,by omega,by omega⟩)
  (fun s l=>by simp only [Z3_L4]; rw [if_neg (by simp)])
  (s:=1) ⟨by omega,by omega⟩ with ⟨s',a1,a2,a3⟩|⟨a1,e,a2,a3⟩
 ·rw [g] at a1
  refine .inl ⟨?_,a2⟩
  split at a1
  ·assumption
  ·cases a1
 ·rw [g] at a1
  refine .inr ⟨?_,e,a2,a3⟩
  split at a1
  ·cases a1
  ·assumption
theorem yw {f:aP}{lens:List Int}(I:f.length≤100)(D:∀ c∈f,97≤c.toNat∧c.toNat≤122)(h:∀ d∈f.map (lk lens),1≤d∧d≤4096) :
  (pr (f.map (lk lens))≤65536∧aU (fun s:List Int×Int×Int=>Z4_L3 f lens s.1 s.2.1 s.2.2) ([],1,0)=some (.inr (f.map (lk lens)))) ∨
  (¬ pr (f.map (lk lens))≤65536∧∃ e,aU (fun s:List Int×Int×Int=>Z4_L3 f lens s.1 s.2.1 s.2.2) ([],1,0)=some (.inl e)∧e.2=false):=by
 obtain ⟨ls,g⟩:∃ ls,ls=f.map (lk lens):=⟨_,rfl⟩
 rw [← g] at h ⊢
 have E:ls.length=f.length:=by rw [g]; simp
 have q:=Ce (fun d B=>(h d B).1) ls.length (Nat.le_refl _)
 rw [List.take_length] at q
 rcases jF (f:=fun s:List Int×Int×Int=>Z4_L3 f lens s.1 s.2.1 s.2.2) (wk ls) (fun s i=>(ls.take i.toNat,s,i)) (fun _=>ls) (fun e=>e.2=false) (fun j s=>1≤s∧s≤65536) ls.length
  (fun j s m r=>by
   have F:=h _ (bF m)
   have u:=D _ (bF (show j<f.length by omega))
   have G:ix lens (((ix f (j:Int)).toNat:Int) - 97)=ix ls (j:Int):=by
    rw [g,qp (by omega),bV (xs:=f) (by omega)]; rfl
   have l:bt f (j:Int)=((ix f (j:Int)).toNat:Int):=rfl
   simp only [Z4_L3]
   rw [if_pos (by simp; omega),if_pos (by omega),l,ue u,if_pos (by omega),G,if_pos (by simp; omega),iS (by omega) (by omega) (by omega) (by omega),cA (by unfold cJ; omega)]
   unfold wk
   by_cases c:s*ix ls (j:Int)>65536
   ·rw [if_pos c,if_pos (decide_eq_true c)]
    exact .inr ⟨rfl,_,rfl,rfl⟩
   ·rw [if_neg c,if_neg (by simpa using c)]
    have:=j5 (a:=s) (b:=ix ls (j:Int)) (by omega) F.1
    refine .inl ⟨_,rfl,?_,by omega,by omega⟩
    rw [Int.toNat_natCast,Int.toNat_natCast,List.take_succ_eq_append_getElem m,bV m])
  (fun s r=>by simp only [Z4_L3]; rw [if_neg (by simp; omega)]; simp)
  (s:=1) ⟨by omega,by omega⟩ with ⟨s',a1,a2,a3⟩|⟨a1,e,a2,a3⟩
 ·rw [q] at a1
  refine .inl ⟨?_,a2⟩
  split at a1
  ·assumption
  ·cases a1
 ·rw [q] at a1
  refine .inr ⟨?_,e,a2,a3⟩
  split at a1
  ·cases a1
  ·assumption
theorem nZ {f:form}{g:aP}{p:List Int}(e:f.order.length≤100)(h:g.length≤p.length)(q:p.length≤100):∃ r,Zm f g p=some r:=by
 unfold Zm
 rw [if_pos (by omega)]
 obtain ⟨r,h1,h2⟩:=hO (f:=fun s:List Int×Int=>Zm_L1 f g p s.1 s.2) (fun j s=>s.1.length=f.order.length∧s.2=(j:Int)) f.order.length (Post:=fun _=>True)
  (fun j s l a=>by
   obtain ⟨x,i⟩:=s
   obtain ⟨h1,rfl⟩:=a
   dsimp only at h1
   simp only [Zm_L1]
   rw [if_pos (by simp; omega)]
   obtain ⟨r,g1,b⟩:=hO (f:=fun s:List Int×Int=>Zm_L2 f g p (j:Int) s.1 s.2) (fun k s=>s.1.length=f.order.length∧s.2=(k:Int)) g.length (Post:=fun r=>r.length=f.order.length)
    (fun k s m a=>by
     obtain ⟨x,i⟩:=s
     obtain ⟨h1,rfl⟩:=a
     dsimp only at h1
     simp only [Zm_L2,Zm_J5]
     rw [if_pos (by simp; omega),if_pos (by omega),if_pos (by omega)]
     split
     ·rw [if_pos (by simp; omega),if_pos (by omega)]
      exact ⟨_,rfl,by simpa using h1,by rw [cA (by unfold cJ; omega)]⟩
     ·exact ⟨_,rfl,h1,by rw [cA (by unfold cJ; omega)]⟩)
    (fun s a=>by
     obtain ⟨x,i⟩:=s
     obtain ⟨h1,rfl⟩:=a
     simp only [Zm_L2]
     rw [if_neg (by simp)]
     exact ⟨_,rfl,h1⟩)
    (s:=(x,0)) ⟨h1,rfl⟩
   rw [g1]
   exact ⟨_,rfl,b,by rw [cA (by unfold cJ; omega)]⟩)
  (fun s a=>by
   obtain ⟨x,i⟩:=s
   obtain ⟨h1,rfl⟩:=a
   simp only [Zm_L1]
   rw [if_neg (by simp)]
   exact ⟨_,rfl,trivial⟩)
  (s:=(List.replicate (f.order.length:Int).toNat 0,0)) ⟨by simp,rfl⟩
 rw [h1]
 exact ⟨r,rfl⟩
def pC (gs:List aP)(o:aP)(dss:List (List Int))(s:aP×List Int):Prop:=nG gs dss (o,List.replicate 26 0)=some s∧pr (s.1.map (lk s.2))≤65536
theorem qq {o:aP}(b:o.Nodup)(a:∀ c∈o,97≤c.toNat∧c.toNat≤122):IS (o,List.replicate 26 0):=by
 refine ⟨rfl,b,a,fun c h1 h2 _=>?_⟩
 unfold lk
 have e:((c.toNat:Int) - 97)=((c.toNat - 97:Nat):Int):=by omega
 rw [e,bV (by rw [List.length_replicate]; omega)]
 exact List.getElem_replicate _
theorem w6 {o:aP}(g:∀ c∈o,97≤c.toNat∧c.toNat≤122):List.replicate (o.length:Int).toNat (0:Int)=o.map (lk (List.replicate 26 0)):=by
 rw [Int.toNat_natCast]
 symm
 rw [List.eq_replicate_iff]
 refine ⟨by simp,fun b a=>?_⟩
 obtain ⟨c,h,rfl⟩:=List.mem_map.1 a
 obtain ⟨h1,h2⟩:=g c h
 unfold lk
 have e:((c.toNat:Int) - 97)=((c.toNat - 97:Nat):Int):=by omega
 rw [e,bV (by rw [List.length_replicate]; omega)]
 exact List.getElem_replicate _
theorem nk {gs:List aP}{o:aP}(h:∀ i∈List.range o.length,OL gs o i):o.Nodup:=by
 refine List.pairwise_iff_getElem.2 fun i j g a b e=>?_
 have:=(h j (List.mem_range.2 a)).2
 rw [bV a] at this
 refine this ?_
 rw [← e,List.mem_take_iff_getElem]
 exact ⟨i,by omega,rfl⟩
structure Laid (gs:List aP)(o:aP)(dss:List (List Int))(s:aP×List Int):Prop where
 i:IS s
 l:s.1.length≤42
 p:∃ t,s.1=o++t
 g:∀ x:Nat,x<gs.length→(ix gs (x:Int)).length=(ix dss (x:Int)).length∧∀ j:Nat,j<(ix gs (x:Int)).length→ix (ix gs (x:Int)) (j:Int)∈s.1∧lk s.2 (ix (ix gs (x:Int)) (j:Int))=ix (ix dss (x:Int)) (j:Int)
 d:∀ d∈s.1.map (lk s.2),1≤d∧d≤4096
theorem oG {gs:List aP}{o:aP}{dss:List (List Int)}{s:aP×List Int}(hp:PO gs o)(L:gs.length=dss.length)(I:∀ ds∈dss,eK ds)(h:nG gs dss (o,List.replicate 26 0)=some s):Laid gs o dss s:=by
 obtain ⟨p1,T,U,Y⟩:=hp
 have M:=qq (nk Y) T.2
 obtain ⟨a,b,c⟩:=un M L U (fun ds E d B=>by have:=(I ds E).2.1 d B; omega) h
 have m:s.1.length≤42:=by
  rcases uk p1 U L (s:=(o,List.replicate 26 0)) T.1 M with ⟨s',r,_,q3,_⟩|⟨r,_⟩
  ·rw [h] at r; cases r; exact q3
  ·rw [h] at r; cases r
 refine ⟨a.i,m,a.p,b,fun d D=>?_⟩
 obtain ⟨y,hy,rfl⟩:=List.mem_map.1 D
 have:∃ g∈gs,y∈g:=by
  rcases c y hy with q | q
  ·obtain ⟨k,J,e⟩:=List.getElem_of_mem q
   have:=(Y k (List.mem_range.2 J)).1
   rw [bV J,e] at this
   exact this
  ·exact q
 obtain ⟨g,Z,G⟩:=this
 obtain ⟨x,O,rfl⟩:=List.getElem_of_mem Z
 obtain ⟨j,F,rfl⟩:=List.getElem_of_mem G
 have u:=b x O
 rw [bV O] at u
 have l:=(u.2 j F).2
 rw [bV F] at l
 rw [l]
 exact (I _ (bF (show x<dss.length by omega))).2.mem (bF (by rw [← u.1]; exact F))
theorem s7 {gs:List aP}{o:aP}{dss:List (List Int)}(u:PO gs o)(j:gs.length=dss.length)(r:∀ ds∈dss,eK ds) :
  (∃ s,pC gs o dss s∧Z3 gs o dss=some (s.1,s.1.map (lk s.2),true))∨((∀ s,¬ pC gs o dss s)∧∃ e,Z3 gs o dss=some e∧e.2.2=false):=by
 obtain ⟨p1,b,l,m⟩:=u
 have B:=qq (nk m) b.2
 have E:=b.1
 unfold Z3
 rw [if_pos (by omega),w6 b.2]
 rcases uk p1 l j (s:=(o,List.replicate 26 0)) b.1 B with ⟨s,a1,a,a3,a4⟩|⟨a1,e,a,a3⟩
 ·have q:=oG ⟨p1,b,l,m⟩ j r a1
  simp only at a
  rw [a]
  simp only [Option.bind_some,Z3_J11]
  rcases yv (ls:=s.1.map (lk s.2)) (by simp; omega) q.d with ⟨h,i⟩|⟨h,e,i,D⟩
  ·rw [i]
   exact .inl ⟨s,⟨a1,h⟩,rfl⟩
  ·rw [i]
   refine .inr ⟨fun s' g=>?_,e,rfl,D⟩
   have:=g.1
   rw [a1] at this; cases this
   exact h g.2
 ·simp only at a
  rw [a]
  refine .inr ⟨fun s' g=>?_,e,rfl,a3⟩
  have:=g.1
  rw [a1] at this; cases this
theorem uo {f:aP}{dss:List (List Int)}(hb:f.length≤1048576)(T:∀ ds∈dss,eK ds) :
  ((parts f).2.2=true∧(parts f).1.length=dss.length∧∃ s,pC (parts f).1 (parts f).2.1 dss s∧eK ((s.1.map (lk s.2)).take (parts f).2.1.length)∧∃ r,Z4 f dss=some (r,true)∧r.dims=(s.1.map (lk s.2)).take (parts f).2.1.length) ∨
  (¬ ((parts f).2.2=true∧(parts f).1.length=dss.length∧∃ s,pC (parts f).1 (parts f).2.1 dss s∧eK ((s.1.map (lk s.2)).take (parts f).2.1.length))∧∃ r,Z4 f dss=some (r,false)):=by
 obtain ⟨b,B⟩:∃ b,b=parts f:=⟨_,rfl⟩
 have G:b.2.2=true→PO b.1 b.2.1:=by
  rw [B]; unfold parts
  split
  ·intro h; cases h
  ·split
   ·intro _; assumption
   ·intro h; cases h
 unfold Z4
 rw [w0 hb,← B]
 simp only [Option.bind_some]
 by_cases a:b.2.2=true∧b.1.length=dss.length
 ·obtain ⟨a,D⟩:=a
  rw [if_neg (by simp [a,D])]
  have hP:=G a
  obtain ⟨p1,J,L,p4⟩:=hP
  have hs:=qq (nk p4) J.2
  rcases yr (gs:=b.1) (b:=b) (dss:=dss) rfl p1 L D (s:=(b.2.1,List.replicate 26 0)) J.1 rfl with ⟨s,a1,u,a3,a4⟩|⟨a1,e,u,a3⟩
  ·have m:=oG ⟨p1,J,L,p4⟩ D T a1
   simp only at u
   rw [u]
   simp only [Option.bind_some,Z4_J7]
   rcases yw (f:=s.1) (lens:=s.2) (by omega) m.i.c m.d with ⟨M,O⟩|⟨M,e,O,w3⟩
   ·rw [O]
    simp only [Option.bind_some,Z4_J8]
    obtain ⟨t,ht⟩:=m.p
    have a0:b.2.1.length≤(s.1.map (lk s.2)).length:=by rw [ht]; simp
    have Z:(s.1.map (lk s.2)).length≤42:=by simpa using m.l
    rw [if_pos (by omega),lm,fO (by simp; omega)]
    simp only [Option.bind_some]
    rw [iw (by simp only [List.length_take]; unfold cJ; omega)]
    simp only [Option.bind_some]
    by_cases c3:eK ((s.1.map (lk s.2)).take b.2.1.length)
    ·rw [decide_eq_true c3,if_neg (by simp)]
     refine .inl ⟨a,D,s,⟨a1,M⟩,c3,?_⟩
     obtain ⟨r,h1,_⟩:=hO (f:=fun z:List (List Int)×Int=>Z4_L4 dss b s.1 (s.1.map (lk s.2)) ((s.1.map (lk s.2)).take b.2.1.length) z.1 z.2) (fun j z=>z.1.length=j∧z.2=(j:Int)) b.1.length (Post:=fun _=>True)
      (fun j z Y E=>by
       obtain ⟨x,i⟩:=z
       obtain ⟨h1,rfl⟩:=E
       dsimp only at h1
       simp only [Z4_L4]
       have F:=T _ (bF (show j<dss.length by omega))
       rw [if_pos (by simp; omega),if_pos (by omega),if_pos (by omega),oj F]
       simp only [Option.bind_some]
       have a5:=(m.g j Y).1
       have U:=(L _ (bF Y)).1
       obtain ⟨q,I⟩:=nZ (f:=(⟨b.1,b.2.1,s.1,s.1.map (lk s.2),(s.1.map (lk s.2)).take b.2.1.length,x,[]⟩:form)) (g:=ix b.1 (j:Int)) (p:=eU (ix dss (j:Int))) (by have:=m.l; show s.1.length≤100; omega) (by rw [dO]; omega) (by rw [dO]; omega)
       rw [I]
       simp only [Option.bind_some]
       rw [if_pos (by simp; omega),cA (by unfold cJ; omega)]
       exact ⟨_,rfl,by simp; omega,rfl⟩)
      (fun z E=>by
       obtain ⟨x,i⟩:=z
       obtain ⟨h1,rfl⟩:=E
       simp only [Z4_L4]
       rw [if_neg (by simp)]
       exact ⟨_,rfl,trivial⟩)
      (s:=([],0)) ⟨rfl,rfl⟩
     rw [h1]
     simp only [Option.bind_some,Z4_J9]
     rw [oj c3]
     simp only [Option.bind_some]
     obtain ⟨q,I⟩:=nZ (f:=(⟨b.1,b.2.1,s.1,s.1.map (lk s.2),(s.1.map (lk s.2)).take b.2.1.length,r,[]⟩:form)) (g:=b.2.1) (p:=eU ((s.1.map (lk s.2)).take b.2.1.length)) (by have:=m.l; show s.1.length≤100; omega) (by rw [dO]; simp only [List.length_take]; omega) (by rw [dO]; simp only [List.length_take]; omega)
     rw [I]
     exact ⟨_,rfl,rfl⟩
    ·rw [decide_eq_false c3,if_pos (by simp)]
     refine .inr ⟨?_,_,rfl⟩
     rintro ⟨_,_,s',h1,h2⟩
     have:=h1.1
     rw [a1] at this; cases this
     exact c3 h2
   ·rw [O]
    obtain ⟨e1,e2⟩:=e
    simp only at w3; subst w3
    refine .inr ⟨?_,_,rfl⟩
    rintro ⟨_,_,s',h1,h2⟩
    have:=h1.1
    rw [a1] at this; cases this
    exact M h1.2
  ·simp only at u
   rw [u]
   obtain ⟨e1,e2⟩:=e
   simp only at a3; subst a3
   refine .inr ⟨?_,_,rfl⟩
   rintro ⟨_,_,s',h1,h2⟩
   have:=h1.1
   rw [a1] at this; cases this
 ·rw [if_pos]
  ·exact .inr ⟨fun z=>a ⟨z.1,z.2.1⟩,_,rfl⟩
  ·cases q:b.2.2
   ·rfl
   ·have:b.1.length≠dss.length:=fun z=>a ⟨q,z⟩
    simp; omega
theorem uq {g f:aP}{vs:List Int}(L:g.length≤6)(J:f.length≤42)(M:vs.length=f.length)(I:f.Nodup)(G:∀ c∈g,c∈f):Zj g f vs=some (g.map fun c=>ix vs ((f.idxOf c:Nat):Int)):=by
 unfold Zj
 rw [eR (f:=fun s:List Int×Int=>Zj_L1 g f vs s.1 s.2) (r:=g.map fun c=>ix vs ((f.idxOf c:Nat):Int)) (fun i=>((g.take i).map fun c=>ix vs ((f.idxOf c:Nat):Int),(i:Int))) g.length
  (fun i B=>by
   obtain ⟨c,l⟩:∃ c,c=g[i]:=⟨_,rfl⟩
   have m:ix g (i:Int)=c:=by rw [bV B,l]
   have u:c∈f:=G c (by rw [l]; exact List.getElem_mem B)
   have E:f.idxOf c<f.length:=List.idxOf_lt_length_iff.2 u
   obtain ⟨h,b⟩:∃ h,h=(g.take i).map fun c=>ix vs ((f.idxOf c:Nat):Int):=⟨_,rfl⟩
   have F:h.length≤6:=by rw [b]; simp; omega
   simp only [Zj_L1]
   rw [if_pos (by simp; omega),← b]
   rw [eR (f:=fun s:List Int×Int=>Zj_L2 g f vs (i:Int) s.1 s.2) (r:=h++[ix vs ((f.idxOf c:Nat):Int)]) (fun k=>(h++(if f.idxOf c<k then [ix vs ((f.idxOf c:Nat):Int)] else []),(k:Int))) f.length
    (fun k D=>by
     have j:(bt f (k:Int)==bt g (i:Int))=decide (f[k]=c):=by
      rw [show bt f (k:Int)=((ix f (k:Int)).toNat:Int) from rfl,show bt g (i:Int)=((ix g (i:Int)).toNat:Int) from rfl,lr,m,bV D]
     have a:f[k]=c↔f.idxOf c=k:=by
      constructor
      ·intro e
       rw [← e]
       exact I.idxOf_getElem k D
      ·intro e; subst e; exact List.getElem_idxOf E
     simp only [Zj_L2,Zj_J5]
     rw [if_pos (by simp; omega),if_pos (by omega),if_pos (by omega),j,cA (by unfold cJ; omega)]
     by_cases q:f.idxOf c=k
     ·rw [if_pos (decide_eq_true (a.2 q)),if_pos (by omega),if_neg (show ¬ f.idxOf c<k by omega),if_pos (show f.idxOf c<k+1 by omega),List.append_nil,if_pos (by simp; omega),q]
     ·rw [if_neg (by simpa using fun z=>q (a.1 z))]
      by_cases r:f.idxOf c<k
      ·rw [if_pos r,if_pos (by omega)]
      ·rw [if_neg r,if_neg (by omega)])
    (by simp only [Zj_L2]; rw [if_neg (by simp),if_pos E])
    (s:=(h,0)) (by simp)]
   simp only [Option.bind_some,Zj_J6]
   rw [cA (by unfold cJ; omega),List.take_succ_eq_append_getElem B,List.map_append,← b,← l]
   rfl)
  (by simp only [Zj_L1]; rw [if_neg (by simp),List.take_length])
  (s:=([],0)) rfl]
 rfl
theorem AR {ds is:List Int}(h:IV ds is){j:Nat}(a:j<ds.length):0≤ix is (j:Int)∧ix is (j:Int)<ix ds (j:Int):=by
 induction ds generalizing is j with
 | nil=>simp at a
 | cons d ds ih=>cases is with
  | nil=>exact h.elim
  | cons i is =>
   cases j with
   | zero=>simpa [ix] using h.1
   | succ j =>
    have:=ih h.2 (j:=j) (by simpa using a)
    simpa [ix] using this
theorem AS {ds is:List Int}(a:is.length=ds.length)(h:∀ j:Nat,j<ds.length→0≤ix is (j:Int)∧ix is (j:Int)<ix ds (j:Int)):IV ds is:=by
 induction ds generalizing is with
 | nil=>cases is with
  | nil=>trivial
  | cons=>simp at a
 | cons d ds ih=>cases is with
  | nil=>simp at a
  | cons i is =>
   refine ⟨by simpa [ix] using h 0 (by simp),ih (by simpa using a) fun j b=>?_⟩
   have:=h (j+1) (by simpa using b)
   simpa [ix] using this
theorem nl {ls:List Int}(h:∀ d∈ls,1≤d)(k:Nat):1≤pr (ls.take k)∧pr (ls.take k)≤pr ls:=by
 have h2:1≤pr (ls.drop k):=fV fun d a=>h d (List.mem_of_mem_drop a)
 have b:1≤pr (ls.take k):=fV fun d a=>h d (List.mem_of_mem_take a)
 exact ⟨b,by rw [hJ ls k]; exact j5 (by omega) h2⟩
def ur (f:aP)(dss:List (List Int))(s:aP×List Int):Prop:=(parts f).2.2=true∧(parts f).1.length=dss.length∧pC (parts f).1 (parts f).2.1 dss s∧eK ((s.1.map (lk s.2)).take (parts f).2.1.length)
theorem qr {f:aP}{D:List Tensor}(hb:f.length≤1048576)(ht:∀ t∈D,TT t)(hn:D.length≤6) :
  (∃ s,ur f (D.map Tensor.Dims) s∧∃ d,Z6 f D=some ⟨(s.1.map (lk s.2)).take (parts f).2.1.length,d⟩∧TOk ((s.1.map (lk s.2)).take (parts f).2.1.length) d)∨((¬ ∃ s,ur f (D.map Tensor.Dims) s)∧Z6 f D=some ⟨[],[]⟩):=by
 obtain ⟨dss,B⟩:∃ dss,dss=D.map Tensor.Dims:=⟨_,rfl⟩
 have hd:∀ ds∈dss,eK ds:=by
  intro ds h
  rw [B] at h
  obtain ⟨t,h1,rfl⟩:=List.mem_map.1 h
  exact (ht t h1).d
 have ah:dss.length=D.length:=by rw [B]; simp
 rw [← B]
 unfold ur
 obtain ⟨b,Y⟩:∃ b,b=parts f:=⟨_,rfl⟩
 have a8:b.2.2=true→PO b.1 b.2.1:=by
  rw [Y]; unfold parts
  split
  ·intro h; cases h
  ·split
   ·intro _; assumption
   ·intro h; cases h
 unfold Z6
 rw [vZ hb,← Y]
 simp only [Option.bind_some]
 by_cases L:b.2.2=true∧b.1.length=dss.length
 ·obtain ⟨L,c2⟩:=L
  rw [if_neg (by simp [L]; omega)]
  have hP:=a8 L
  have a5:=hP
  obtain ⟨p1,p2,p3,p4⟩:=a5
  have L1:aU (fun s:List (List Int)×Int=>Z6_L1 D s.1 s.2) ([],0)=some (Sum.inr dss):=by
   refine eR (f:=fun s:List (List Int)×Int=>Z6_L1 D s.1 s.2) (fun k=>((D.take k).map Tensor.Dims,(k:Int))) D.length (fun k G=>?_) ?_ rfl
   ·simp only [Z6_L1]
    rw [if_pos (by simp; omega),if_pos (by omega),qe (ht _ (bF G))]
    simp only [Option.bind_some]
    rw [if_neg (by simp),if_pos (by simp; omega),cA (by unfold cJ; omega),List.take_succ_eq_append_getElem G,List.map_append,bV G]
    rfl
   ·simp only [Z6_L1]
    rw [if_neg (by simp),List.take_length,← B]
  rw [L1]
  simp only [Option.bind_some,Z6_J1]
  rcases s7 hP c2 hd with ⟨s,h1,h2⟩|⟨h1,e,h2,h3⟩
  ·rw [h2]
   simp only [Option.bind_some]
   have U:=oG hP c2 hd h1.1
   obtain ⟨ls,E⟩:∃ ls,ls=s.1.map (lk s.2):=⟨_,rfl⟩
   have a0:ls.length=s.1.length:=by rw [E]; simp
   have Z:=U.l
   have J:=U.d
   obtain ⟨t,a4⟩:=U.p
   have ae:b.2.1.length≤ls.length:=by rw [a0,a4]; simp
   have a9:=h1.2
   rw [← E] at a9 J ⊢
   have I:∀ d∈ls,1≤d:=fun d h=>(J d h).1
   rw [if_pos (fun _=>by omega)]
   simp only [bT,Bool.not_true,Bool.not_false,cond_true,Bool.false_or]
   rw [lm,gY (by simp only [List.length_take]; unfold cJ; omega)]
   simp only [Option.bind_some]
   obtain ⟨a,F⟩:∃ a,a=ls.take b.2.1.length:=⟨_,rfl⟩
   rw [← F]
   by_cases c3:eK a
   ·rw [decide_eq_true c3,if_neg (by simp),if_pos (by omega),ld c3]
    simp only [Option.bind_some]
    refine .inl ⟨s,⟨L,c2,h1,by rw [← E,← F]; exact c3⟩,?_⟩
    rw [← E,← F]
    have L2:aU (fun z:Int×Int=>Z6_L2 (s.1,ls,true) z.1 z.2) (1,0)=some (pr ls):=by
     refine eR (f:=fun z:Int×Int=>Z6_L2 (s.1,ls,true) z.1 z.2) (fun k=>(pr (ls.take k),(k:Int))) ls.length (fun k G=>?_) ?_ (by simp [pr])
     ·have a1:=nl I k
      have a2:=nl I (k+1)
      have a3:=J _ (bF G)
      simp only [Z6_L2]
      rw [if_pos (by simp; omega),if_pos (by omega),iS (by omega) (by omega) (by omega) (by omega),cA (by unfold cJ; omega),rD G]
     ·simp only [Z6_L2]
      rw [if_neg (by simp),List.take_length]
    rw [L2]
    simp only [Option.bind_some,Z6_J2]
    have ag:=fV I
    have ai:=c3.2.pos
    obtain ⟨r,q1,q2⟩:=lj (f:=fun z:List Int×Int=>Z6_L3 D b (s.1,ls,true) ⟨a,List.replicate (pr a).toNat 0⟩ (pr ls) z.1 z.2) (Post:=fun r=>RG (pr a).toNat r) (pr a).toNat (pr ls).toNat
     (fun j hj x hx=>by
      have aj:(j:Int)<pr ls:=by omega
      simp only [Z6_L3]
      rw [if_pos (by simp; omega),w4 (by omega) J (by omega) (by omega)]
      simp only [Option.bind_some]
      have hI:=iz I (j:Int)
      obtain ⟨vs,aa⟩:∃ vs,vs=iy ls (j:Int):=⟨_,rfl⟩
      rw [← aa] at hI ⊢
      have al:=hI.len
      obtain ⟨p,g1,_⟩:=hO (f:=fun z:Int×Int=>Z6_L4 D b (s.1,ls,true) vs z.1 z.2) (fun k z=>z.2=(k:Int)) b.1.length (Post:=fun _=>True)
       (fun k z G hz=>by
        obtain ⟨y,i⟩:=z
        dsimp only at hz; subst hz
        simp only [Z6_L4]
        have O:k<D.length:=by omega
        obtain ⟨e1,e2⟩:=U.g k G
        have a6:ix dss (k:Int)=(ix D (k:Int)).Dims:=by rw [B,bV (by simpa using O),bV O]; simp
        have a7:=p3 _ (bF G)
        rw [if_pos (by simp; omega),if_pos (by omega),if_pos (by omega),uq a7.1 Z (by omega) U.i.n (fun c hc=>by
         obtain ⟨m,hm,rfl⟩:=List.getElem_of_mem hc
         have:=(e2 m hm).1
         rwa [bV hm] at this)]
        simp only [Option.bind_some]
        obtain ⟨w,w1,_⟩:=nQ (ht _ (bF O)) (is:=(ix b.1 (k:Int)).map fun c=>ix vs ((s.1.idxOf c:Nat):Int)) (by
         rw [← a6]
         refine AS (by simp [e1]) fun m hm=>?_
         have T:m<(ix b.1 (k:Int)).length:=by omega
         obtain ⟨f1,f2⟩:=e2 m T
         have hp:s.1.idxOf (ix (ix b.1 (k:Int)) (m:Int))<s.1.length:=List.idxOf_lt_length_iff.2 f1
         have hv:=AR hI (j:=s.1.idxOf (ix (ix b.1 (k:Int)) (m:Int))) (by omega)
         have ab:ix ((ix b.1 (k:Int)).map fun c=>ix vs ((s.1.idxOf c:Nat):Int)) (m:Int)=ix vs ((s.1.idxOf (ix (ix b.1 (k:Int)) (m:Int)):Nat):Int):=by
          rw [bV (by simpa using T),List.getElem_map,bV (xs:=ix b.1 (k:Int)) T]
         have ac:ix ls ((s.1.idxOf (ix (ix b.1 (k:Int)) (m:Int)):Nat):Int)=ix (ix dss (k:Int)) (m:Int):=by
          rw [E,qp hp,List.getElem_idxOf hp,f2]
         rw [ab,← ac]
         exact hv)
        rw [w1]
        simp only [Option.bind_some]
        obtain ⟨u,u1,_⟩:=mF y w
        rw [u1]
        exact ⟨_,rfl,by rw [cA (by unfold cJ; omega)]⟩)
       (fun z hz=>by
        obtain ⟨y,i⟩:=z
        dsimp only at hz; subst hz
        simp only [Z6_L4]
        rw [if_neg (by simp)]
        exact ⟨_,rfl,trivial⟩)
       (s:=(1,0)) rfl
      rw [g1]
      simp only [Option.bind_some,Z6_J4]
      have M:=ru hI b.2.1.length
      rw [← F] at M
      have ak:=ne c3.2.1 M
      rw [if_pos (by omega),lm,oi c3 M]
      simp only [Option.bind_some,List.length_replicate]
      rw [if_pos (by omega)]
      obtain ⟨u,u1,u2⟩:=ov (ix x (mD a (vs.take b.2.1.length))) p
      rw [u1]
      exact ⟨_,by rw [cA (by unfold cJ; omega)]; rfl,hx.set u2 _⟩)
     (fun x hx=>by
      simp only [Z6_L3]
      rw [if_neg (by simp; omega)]
      exact ⟨_,rfl,hx⟩)
     (x:=List.replicate (pr a).toNat 0) (RG.rep _)
    rw [q1]
    exact ⟨r,rfl,iA c3 q2⟩
   ·rw [decide_eq_false c3,if_pos (by simp)]
    refine .inr ⟨?_,rfl⟩
    rintro ⟨s',_,_,g1,g2⟩
    have:=g1.1
    rw [h1.1] at this; cases this
    rw [← E,← F] at g2
    exact c3 g2
  ·rw [h2]
   obtain ⟨e1,e2,e3⟩:=e
   dsimp only at h3; subst h3
   simp only [Option.bind_some]
   rw [if_pos (fun z=>by simp at z)]
   simp only [bT,Bool.not_true,Bool.not_false,cond_false,Option.bind_some,Bool.true_or,if_true]
   exact .inr ⟨fun ⟨s,_,_,z,_⟩=>h1 s z,trivial⟩
 ·rw [if_pos]
  ·exact .inr ⟨fun ⟨s,z1,z2,_⟩=>L ⟨z1,z2⟩,rfl⟩
  ·cases q:b.2.2
   ·rfl
   ·have:b.1.length≠dss.length:=fun z=>L ⟨q,z⟩
    simp; omega
theorem s8 {f:aP}(h:(parts f).2.2=true):1≤(parts f).1.length∧(parts f).1.length≤6:=by
 unfold parts at h ⊢
 split
 ·rename_i e; rw [e] at h; cases h
 ·rename_i p e
  rw [e] at h
  simp only at h ⊢
  by_cases c:PO (gJ p.1) p.2
  ·rw [if_pos c]
   refine ⟨?_,c.1⟩
   have:=lZ p.1
   cases q:gJ p.1 with
   | nil=>exact absurd q this
   | cons=>simp
  ·rw [if_neg c] at h; cases h
theorem sh5 (b i j s n args):bU ⟨5,b,i,j,s⟩ n args=Z32 ⟨⟩ n args:=rfl
theorem w7 {n:Node}{out:List Tensor}(F:Caps n out)(e:n.Op=11):pB n out (Zi n (out.map Tensor.Dims)):=by
 have T:oB n out.length→∀ t∈(n.Args.map fun a=>ix out a),TT t:=kl F
 have Y:∀ A:List Tensor,(∀ t∈A,TT t)→∃ r i,bU ⟨5,false,0,0,[]⟩ n (A.map Tensor.Dims)=some (r,i)∧(i=true→∃ s,ur n.Form (A.map Tensor.Dims) s∧r=(s.1.map (lk s.2)).take (parts n.Form).2.1.length)∧(i=false→¬ ∃ s,ur n.Form (A.map Tensor.Dims) s):=by
  intro A q
  rw [sh5]
  unfold Z32
  rcases uo (f:=n.Form) (dss:=A.map Tensor.Dims) F.f (fun ds h=>by
   obtain ⟨t,h1,rfl⟩:=List.mem_map.1 h
   exact (q t h1).d) with ⟨q1,q2,s,q3,q4,r,q5,q6⟩|⟨q1,r,q2⟩
  ·rw [q5]
   exact ⟨_,_,rfl,fun _=>⟨s,⟨q1,q2,q3,q4⟩,q6⟩,fun h=>by cases h⟩
  ·rw [q2]
   exact ⟨_,_,rfl,(fun h=>by cases h),fun _=>fun ⟨s,a,b,c,d⟩=>q1 ⟨a,b,s,c,d⟩⟩
 refine ni F (kd:=⟨5,false,0,0,[]⟩) (u:=kB) (fb:=decide (FM n 1 6 false 0 0)) (by rw [e]; rfl) rfl rfl (ln n kB false false true false y8 y9 ya yb) (hK (by omega) (by omega) (by rw [e]; rfl) (by rw [e]; rfl) (by rw [e]; rfl) (by rw [e]; rfl) ⟨by omega,by omega⟩) ?_ ?_ ?_
 ·intro B
  obtain ⟨f1,f2,M,f4,O,f6,f7⟩:=of_decide_eq_true B
  have g3:n.Dims=[]:=M.resolve_left (by simp)
  have g5:n.Data=[]:=O.resolve_left (by omega)
  have g6:n.Ints=[]:=List.eq_nil_of_length_eq_zero (by omega)
  exact ⟨by rw [g3,g5,g6]; rfl,by omega⟩
 ·intro G hw B
  obtain ⟨r,i,D,E,L⟩:=Y _ (T hw)
  cases i with
  | false=>exact ⟨r,D⟩
  | true =>
   obtain ⟨s,⟨l,m,_⟩,_⟩:=E rfl
   have U:=s8 l
   refine absurd ?_ (of_decide_eq_false B)
   simp only [Bool.false_or,Bool.true_or,Bool.and_true,Bool.and_eq_true,lq,beq_iff_eq] at G
   have I:((n.Args.map fun a=>ix out a).map Tensor.Dims).length=n.Args.length:=by simp
   rw [I] at m
   exact ⟨by omega,by omega,.inr G.1.1,.inl e,.inr G.2,by omega,by rw [G.1.2]; decide⟩
 ·intro B hw
  obtain ⟨f1,f2,M,f4,O,f6,f7⟩:=of_decide_eq_true B
  have q:=T hw
  obtain ⟨A,j⟩:∃ A,A=n.Args.map fun a=>ix out a:=⟨_,rfl⟩
  have g:Do n out=(Z6 n.Form A).bind fun r=>some r:=by
   unfold Do Z2
   rw [if_neg (by omega),← j]
   simp only [Z2_J1,Z2_J2,e]
   simp only [Int.reduceBEq,Bool.false_eq_true,if_false,if_true,beq_self_eq_true]
  have U:A.length≤6:=by rw [j]; simp; omega
  rw [← j] at q ⊢
  obtain ⟨r,i,D,E,L⟩:=Y A q
  rcases qr F.f q U with ⟨s,l,d,m,Z⟩|⟨l,m⟩
  ·rw [m] at g
   cases i with
   | false=>exact absurd ⟨s,l⟩ (L rfl)
   | true =>
    obtain ⟨s',k1,k2⟩:=E rfl
    have J:s'=s:=by
     have a1:=k1.2.2.1.1
     rw [l.2.2.1.1] at a1
     exact (Option.some.inj a1).symm
    subst J
    exact ⟨⟨_,d⟩,.inl ⟨by rw [D,k2],g,Z⟩⟩
  ·rw [m] at g
   cases i with
   | false=>exact ⟨⟨[],[]⟩,.inr ⟨r,D,g⟩⟩
   | true=>obtain ⟨s',k1,_⟩:=E rfl; exact absurd ⟨s',k1⟩ l
theorem us {n:Node}{out:List Tensor}(g:Caps n out):pB n out (Zi n (out.map Tensor.Dims)):=by
 by_cases h:1≤n.Op∧n.Op≤19
 ·by_cases h1:n.Op=1
  ·exact t' g h1
  by_cases h2:n.Op=2
  ·exact u0 g h2
  by_cases h3:n.Op≤5
  ·exact vL g (by omega) h3
  by_cases h4:n.Op≤9
  ·exact vM g ⟨by omega,h4⟩
  have:n.Op=10∨n.Op=11∨n.Op=12∨n.Op=13∨n.Op=14∨n.Op=15∨n.Op=16∨n.Op=17∨n.Op=18∨n.Op=19:=by omega
  rcases this with q | q | q | q | q | q | q | q | q | q
  ·exact yh g q
  ·exact w7 g q
  ·exact rY g q
  ·exact qk g q
  ·exact u5 g q
  ·exact yn g q
  ·exact r' g q
  ·exact ql g q
  ·exact rZ g q
  ·exact vU g q
 ·have e:∀ k:Int,1≤k→k≤19→(n.Op==k)=false:=fun k a b=>by simp; omega
  have i:Zx n.Op=some ⟨0,false,0,0,[]⟩:=by
   unfold Zx Zx_J1 Zx_J2 Zx_J3
   simp only [e 1 (by omega) (by omega),e 2 (by omega) (by omega),e 3 (by omega) (by omega),e 4 (by omega) (by omega),e 5 (by omega) (by omega),e 6 (by omega) (by omega),e 7 (by omega) (by omega),e 8 (by omega) (by omega),e 9 (by omega) (by omega),e 10 (by omega) (by omega),e 11 (by omega) (by omega),e 12 (by omega) (by omega),e 13 (by omega) (by omega),e 14 (by omega) (by omega),e 15 (by omega) (by omega),e 16 (by omega) (by omega),e 17 (by omega) (by omega),e 18 (by omega) (by omega),e 19 (by omega) (by omega),Bool.false_eq_true,if_false]
  refine .inr ⟨[],?_,.inl ?_⟩
  ·unfold Zi
   rw [i]
   rfl
  ·unfold Z1d
   rw [if_pos (by simp; omega)]
structure GC (g:Graph):Prop where
 n:g.Nodes.length<cJ
 o:g.Outs.length<cJ
 a:∀ n∈g.Nodes,n.Args.length<cJ
 d:∀ n∈g.Nodes,n.Dims.length<cJ
 i:∀ n∈g.Nodes,n.Ints.length<cJ
 x:∀ n∈g.Nodes,n.Data.length<cJ
 f:∀ n∈g.Nodes,n.Form.length≤1048576
def B8 (g:Graph)(k:Nat)(out:List Tensor):Prop:=∀ j:Nat,j<k→Z1d (ix g.Nodes (j:Int))=some true∧oB (ix g.Nodes (j:Int)) j∧Do (ix g.Nodes (j:Int)) (out.take j)=some (ix out (j:Int))
theorem yx {g:Graph}{out:List Tensor}{k:Nat}(h:k<g.Nodes.length)(l:out.length≤200)(e:(ix g.Nodes (k:Int)).Args.length≤100)(hw:oB (ix g.Nodes (k:Int)) out.length) :
  aU (fun s:List Tensor×Int=>Za_L2 g out (k:Int) s.1 s.2) ([],0)=some ((ix g.Nodes (k:Int)).Args.map fun a=>ix out a):=by
 refine eR (f:=fun s:List Tensor×Int=>Za_L2 g out (k:Int) s.1 s.2) (fun j=>(((ix g.Nodes (k:Int)).Args.take j).map fun a=>ix out a,(j:Int))) (ix g.Nodes (k:Int)).Args.length (fun j b=>?_) ?_ rfl
 ·have i:=hw _ (bF b)
  simp only [Za_L2]
  rw [if_pos (by simp; omega),if_pos (by omega),if_pos (by omega),if_pos (by simp; omega),cA (by unfold cJ; omega),List.take_succ_eq_append_getElem b,List.map_append,bV b]
  rfl
 ·simp only [Za_L2]
  rw [if_neg (by simp),List.take_length]
theorem m6 {n:Node}(h:Z1d n=some true):n.Args.length≤6:=by
 unfold Z1d at h
 split at h
 ·cases h
 ·obtain ⟨r,h1,h⟩:=bd h
  have a:r.2≤6:=by
   unfold Z36 at h1
   repeat' split at h1
   all_goals (cases h1; decide)
  split at h
  ·cases h
  ·rename_i q
   simp only [Bool.or_eq_true,decide_eq_true_eq,not_or] at q
   omega
theorem ut {g:Graph}{ins:List Tensor}{out:List Tensor}{k:Nat}{t:Tensor}(h:k<g.Nodes.length)(i:out.length=k)(m:g.Nodes.length≤200)(e:Z1d (ix g.Nodes (k:Int))=some true)(hw:oB (ix g.Nodes (k:Int)) out.length)(a:Do (ix g.Nodes (k:Int)) out=some t) :
  Za_L1 g ins true out 0 (k:Int)=Za_J4 out (k:Int) 0 t.Dims t.Data:=by
 have l:=m6 e
 simp only [Za_L1]
 rw [if_pos (by simp; omega),if_pos (by omega),e]
 simp only [Option.bind_some,bT,Bool.not_true,Bool.not_false,cond_true,Bool.false_or]
 rw [kk (by unfold cJ; omega)]
 have b:∀ x∈(ix g.Nodes (k:Int)).Args,0≤x∧x<(k:Int):=by
  intro x j
  have:=hw x j
  rwa [i] at this
 simp only [Option.bind_some]
 rw [decide_eq_true b,if_neg (by simp),yx h (by omega) (by omega) hw]
 simp only [Option.bind_some,Za_J3]
 unfold Do at a
 by_cases c:(ix g.Nodes (k:Int)).Op=1
 ·rw [if_pos c] at a
  rw [if_neg (by simp [c]),if_pos trivial,a]
  rfl
 ·rw [if_neg c] at a
  rw [if_pos (by simp [c]),a]
  rfl
theorem pD {g:Graph}{ins:List Tensor}(r:GC g)(J:g.Nodes.length≤200):∀ (m k:Nat) (out:List Tensor),k+m=g.Nodes.length→out.length=k→(∀ t∈out,TT t)→B8 g k out →
  (∃ h,aU (fun s:List Tensor×Int×Int=>Za_L1 g ins true s.1 s.2.1 s.2.2) (out,0,(k:Int))=some (.inr (h,0))∧aU (fun s:List (List Int)×Int=>Zh_L1 g s.1 s.2) (out.map Tensor.Dims,(k:Int))=some (.inr (h.map Tensor.Dims))∧h.length=g.Nodes.length∧(∀ t∈h,TT t)∧B8 g g.Nodes.length h) ∨
  ((∃ e,aU (fun s:List Tensor×Int×Int=>Za_L1 g ins true s.1 s.2.1 s.2.2) (out,0,(k:Int))=some (.inl e)∧e.2=false)∧∃ e,aU (fun s:List (List Int)×Int=>Zh_L1 g s.1 s.2) (out.map Tensor.Dims,(k:Int))=some (.inl e)∧e.2=false)
 | 0,k,out,I,ho,ht,hr=>by
  have I:k=g.Nodes.length:=by omega
  subst I
  refine .inl ⟨out,dB ?_,dB ?_,ho,ht,hr⟩
  ·simp only [Za_L1]; rw [if_neg (by simp)]
  ·simp only [Zh_L1]; rw [if_neg (by simp)]
 | m+1,k,out,I,ho,ht,hr=>by
  have q:k<g.Nodes.length:=by omega
  have D:=bF q
  have Y:Caps (ix g.Nodes (k:Int)) out:=⟨r.a _ D,r.d _ D,r.i _ D,r.x _ D,r.f _ D,by omega,ht⟩
  have M:∀ p:List Int×Bool,Zi (ix g.Nodes (k:Int)) (out.map Tensor.Dims)=some p→Zh_L1 g (out.map Tensor.Dims) (k:Int)=if p.2=true then some (.inl (out.map Tensor.Dims++[p.1],((k+1:Nat):Int))) else some (.inr (.inl ([],false))):=by
   intro p U
   simp only [Zh_L1]
   rw [if_pos (by simp; omega),if_pos (by omega),U]
   simp only [Option.bind_some]
   cases p.2
   ·rfl
   ·rw [if_neg (by simp),if_pos (by simp; omega),cA (by unfold cJ; omega)]; rfl
  rcases us Y with ⟨t,h1,h2,B,O,G⟩|⟨ds,h1,h2⟩
  ·have T:=G.l
   have U:=G.d.2.pos
   have E:=ut (ins:=ins) q ho J h2 B O
   unfold Za_J4 at E
   rw [if_neg (by simp; intro z; rw [z] at T; simp at T; omega),if_pos (by simp; omega),cA (by unfold cJ; omega)] at E
   have F:=M _ h1
   rw [if_pos rfl] at F
   rw [eP (f:=fun s:List Tensor×Int×Int=>Za_L1 g ins true s.1 s.2.1 s.2.2) E,eP (f:=fun s:List (List Int)×Int=>Zh_L1 g s.1 s.2) F]
   have:=pD (ins:=ins) r J m (k+1) (out++[t]) (by omega) (by simp [ho]) (by
    intro u Z
    rcases List.mem_append.1 Z with z | z
    ·exact ht u z
    ·simp at z; subst z; exact G) (by
    intro j hj
    by_cases e:j<k
    ·obtain ⟨a,b,c⟩:=hr j e
     refine ⟨a,b,?_⟩
     rw [List.take_append_of_le_length (by omega),c,bV (by omega),bV (by simp; omega),List.getElem_append_left (by omega)]
    ·have e:j=k:=by omega
     subst e
     rw [ho] at B
     refine ⟨h2,B,?_⟩
     rw [List.take_append_of_le_length (by omega),List.take_of_length_le (by omega),bV (xs:=out++[t]) (by rw [List.length_append,List.length_singleton]; omega),List.getElem_append_right (by omega)]
     simpa [ho] using O)
   rw [List.map_append] at this
   exact this
  ·have F:=M _ h1
   rw [if_neg (by simp)] at F
   refine .inr ⟨?_,_,dB F,rfl⟩
   rcases h2 with h2 | ⟨h2,B⟩
   ·refine ⟨(out,false),dB ?_,rfl⟩
    simp only [Za_L1]
    rw [if_pos (by simp; omega),if_pos (by omega),h2]
    rfl
   ·by_cases w:oB (ix g.Nodes (k:Int)) out.length
    ·have E:=ut (ins:=ins) q ho J h2 w (B w)
     exact ⟨(out,false),dB E,rfl⟩
    ·refine ⟨(out,false),dB ?_,rfl⟩
     have ha:=m6 h2
     simp only [Za_L1]
     rw [if_pos (by simp; omega),if_pos (by omega),h2]
     simp only [Option.bind_some,bT,Bool.not_true,Bool.not_false,cond_true,Bool.false_or]
     rw [kk (by unfold cJ; omega)]
     have L:¬ ∀ x∈(ix g.Nodes (k:Int)).Args,0≤x∧x<(k:Int):=by
      intro z; refine w fun x hx=>?_
      have:=z x hx
      rwa [ho]
     simp only [Option.bind_some]
     rw [decide_eq_false L,if_pos (by simp)]
theorem km {g:Graph}(G:GC g):∃ b J E,Za g [] true=some (b,E)∧Zh g=some (J,E)∧(E=true→J=b.map Tensor.Dims∧b.length=g.Nodes.length∧(∀ t∈b,TT t)∧B8 g g.Nodes.length b∧g.Nodes.length≤200∧g.Outs.length≤40∧∀ o∈g.Outs,0≤o∧o<(g.Nodes.length:Int)):=by
 unfold Za Zh
 by_cases c:g.Nodes.length≤200∧g.Outs.length≤40
 ·rw [if_neg (by simp; omega),if_neg (by simp; omega)]
  have m:∀ s:Int→Option (Int⊕(((List (List Int))×Bool)⊕Unit)),s=(fun x=>Zh_L2 g x)→aU s 0=some (if g.Outs.all (fun x=>!(decide (x<0)||decide (x≥(g.Nodes.length:Int)))) then .inr () else .inl ([],false)):=by
   rintro _ rfl
   refine fA g.Outs (fun x=>Zh_L2 g x) (fun i=>i) _ _ _ (fun j I=>?_) ?_
   ·simp only [Zh_L2]
    rw [if_pos (by simp; omega),if_pos (by omega),cA (by unfold cJ; omega)]
    cases (decide (ix g.Outs (j:Int)<0)||decide (ix g.Outs (j:Int)≥(g.Nodes.length:Int)))<;>rfl
   ·simp only [Zh_L2]
    rw [if_neg (by simp)]
  have M:g.Outs.all (fun x=>!(decide (x<0)||decide (x≥(g.Nodes.length:Int))))=decide (∀ o∈g.Outs,0≤o∧o<(g.Nodes.length:Int)):=by
   rw [Bool.eq_iff_iff]
   simp only [List.all_eq_true,decide_eq_true_eq,Bool.not_eq_true',Bool.or_eq_false_iff,decide_eq_false_iff_not]
   exact ⟨fun h x D=>by have:=h x D; omega,fun h x D=>by have:=h x D; omega⟩
  have m:=m _ rfl
  rw [M] at m
  rcases pD (ins:=[]) G c.1 g.Nodes.length 0 [] (by omega) rfl (fun t h=>by simp at h) (fun j I=>absurd I (Nat.not_lt_zero _)) with ⟨out,h1,h2,u,l,L⟩|⟨⟨e,h1,h2⟩,F,u,l⟩
  ·have a:aU (fun s:List Tensor×Int×Int=>Za_L1 g [] true s.1 s.2.1 s.2.2) ([],0,0)=some (.inr (out,0)):=h1
   have r:aU (fun s:List (List Int)×Int=>Zh_L1 g s.1 s.2) ([],0)=some (.inr (out.map Tensor.Dims)):=h2
   rw [a,r]
   simp only [Option.bind_some,Za_J5,Zh_J1,Zh_J2]
   rw [kk G.o,m]
   simp only [Option.bind_some]
   by_cases q:∀ o∈g.Outs,0≤o∧o<(g.Nodes.length:Int)
   ·rw [decide_eq_true q]
    exact ⟨_,_,_,rfl,rfl,fun _=>⟨rfl,u,l,L,c.1,c.2,q⟩⟩
   ·rw [decide_eq_false q]
    exact ⟨_,_,_,rfl,rfl,fun h=>by cases h⟩
  ·have a:aU (fun s:List Tensor×Int×Int=>Za_L1 g [] true s.1 s.2.1 s.2.2) ([],0,0)=some (.inl e):=h1
   have B:aU (fun s:List (List Int)×Int=>Zh_L1 g s.1 s.2) ([],0)=some (.inl F):=u
   rw [a,B]
   obtain ⟨O,T⟩:=e
   obtain ⟨U,Y⟩:=F
   dsimp only at h2 l
   subst h2; subst l
   exact ⟨_,_,_,rfl,rfl,fun h=>by cases h⟩
 ·rw [if_pos (by simp; omega),if_pos (by simp; omega)]
  exact ⟨_,_,_,rfl,rfl,fun h=>by cases h⟩
def B9:Nat:=9223372036854775807
def gC (n:Nat)(a:Int):Int:=if a<(n:Int) then -1 else a - n
def np {α:Type}(n:α→Nat)(xs:List α):Nat:=xs.length+(xs.map n).sum
theorem jU {a b:Nat}{e:Int}(g:0≤e):gC (a+b) e=if gC a e<0 then -1 else gC b (gC a e):=by
 unfold gC
 (repeat' split)<;>omega
theorem jt {a:Nat}{b:Int}(e:0≤b)(h:¬ gC a b<0):0≤gC a b∧gC a b≤b∧gC a b=b - a:=by
 unfold gC at *
 split at h<;>rename_i q
 ·exact absurd (by decide) h
 ·rw [if_neg q]; omega
theorem w8 {n:Nat}{a:Int}(b:n≤B9)(e:0≤a)(h1:a≤1048576) :
  (if (decide ((aK (a - (n:Int)))<(0:Int)))=true then (some (-1:Int)) else (some (aK (a - (n:Int)))))=some (gC n a):=by
 unfold B9 at b
 rw [bG (by omega) (by omega)]
 unfold gC
 by_cases h:a<(n:Int)
 ·rw [if_pos (by simp; omega),if_pos h]
 ·rw [if_neg (by simp; omega),if_neg h]
theorem w9 {α:Type}[Inhabited α](xs:List α)(n:α→Nat)(E:xs.length<cJ)(g:α→Int→Option Int)(f:Int×Int→Option ((Int×Int)⊕(Int⊕Int)))
  (D:∀ x∈xs,∀ a:Int,0≤a→a≤1048576→g x a=some (gC (n x) a))
  (m:∀ a i,f (a,i)=if (decide (i<(xs.length:Int)))=true then (if (0≤i∧i<(xs.length:Int)) then (g (ix xs i) a).bind fun (r:Int)=>if (decide (r<(0:Int)))=true then (some (.inr (.inl (-1:Int)))) else (some (.inl (r,(aK (i+(1:Int)))))) else none) else (some (.inr (.inr a))))
  (a:Int) (l:0≤a) (h1:a≤1048576) :
  ((aU f (a,0)).bind fun e=>match e with | .inl e=>some e | .inr e=>some e)=some (gC ((xs.map n).sum) a):=by
 rw [jD (S:=Int) xs (fun _ s=>0≤s∧s≤1048576) f (fun s i=>(s,i)) (fun s _ x=>if gC (n x) s<0 then .inr (.inl (-1)) else .inl (gC (n x) s)) (fun s=>.inr s) ?_ ?_ ?_ a ⟨l,h1⟩]
 ·rw [aN]
  clear m E
  generalize 0=k
  induction xs generalizing a k with
  | nil=>show some a=some (gC 0 a); unfold gC; rw [if_neg (by omega)]; congr 1; simp
  | cons x xs ih =>
   unfold rf
   rw [List.map_cons,List.sum_cons,jU l]
   by_cases h:gC (n x) a<0
   ·simp only [h,if_true]
   ·obtain ⟨B,G,_⟩:=jt l h
    simp only [h,if_false]
    exact ih (fun y F=>D y (by simp [F])) _ B (by omega) _
 ·rintro s k ⟨j,u⟩ q
  rw [m,if_pos (by simpa using q),if_pos (by omega),D _ (bF q) s j u,aN,cA (by omega)]
  by_cases h:gC (n (ix xs (k:Int))) s<0
  ·simp [h]
  ·simp [h]
 ·rintro s k s' ⟨j,u⟩ q b
  split at b
  ·cases b
  ·rename_i h
   obtain ⟨B,G,_⟩:=jt j h
   injection b with b
   subst b
   exact ⟨B,by omega⟩
 ·rintro s ⟨j,u⟩
  rw [m,if_neg (by simp)]
theorem wc {α:Type}[Inhabited α]{xs:List α}{n:α→Nat}{a:Int}{x:Int→Option Int}(j:xs.length≤B9)(i:0≤a)(h1:a≤1048576)(l:¬ gC xs.length a<0→x (gC xs.length a)=some (gC ((xs.map n).sum) (gC xs.length a))) :
  (if (decide ((aK (a - (xs.length:Int)))<(0:Int)))=true then (some (-1:Int)) else x (aK (a - (xs.length:Int))))=some (gC (np n xs) a):=by
 have g:=j
 unfold B9 at g
 unfold np
 rw [jU i]
 have e:aK (a - (xs.length:Int))=a - xs.length:=bG (by omega) (by omega)
 rw [e]
 by_cases h:a<(xs.length:Int)
 ·rw [if_pos (by simp; omega),if_pos (by unfold gC; rw [if_pos h]; omega)]
 ·have b:gC xs.length a=a - xs.length:=by unfold gC; rw [if_neg h]
  rw [if_neg (by simp; omega),if_neg (by rw [b]; omega)]
  have:=l (by rw [b]; omega)
  rw [b] at this ⊢
  exact this
theorem m7 {k:Nat}{n:Nat}(h:k<n):(0:Int)≤(k:Int)∧(k:Int)<(n:Int):=⟨by omega,by omega⟩
theorem uu {k:Nat}{n:Nat}(h:k<n):(decide ((k:Int)<(n:Int)))=true:=by simpa using h
theorem nq {n:Nat}:(decide ((n:Int)<(n:Int)))=false:=by simp
theorem oH (xs ys:List Int)(h:xs.length=ys.length):((List.range xs.length).all fun k=>ix xs (k:Int)==ix ys (k:Int))=decide (xs=ys):=by
 by_cases e:xs=ys
 ·subst e; simp
 ·simp only [e,decide_false]
  rw [List.all_eq_false]
  refine Classical.byContradiction fun b=>e ?_
  refine List.ext_getElem h fun k h1 h2=>?_
  refine Classical.byContradiction fun a=>b ⟨k,by simpa using h1,?_⟩
  rw [bV h1,bV h2]
  simpa using a
theorem wd (xs ys:List Int)(h:xs.length<cJ):Zw xs ys=some (decide (xs=ys)):=by
 unfold Zw
 by_cases hl:xs.length=ys.length
 ·rw [if_neg (by simp [hl])]
  rw [iu xs.length (fun s:Int=>Zw_L1 xs ys s) (fun i=>i) (fun k=>ix xs (k:Int)==ix ys (k:Int)) (.inl false) (.inr ()) (fun k a=>by
   unfold Zw_L1
   rw [if_pos (uu a),if_pos (m7 a),if_pos (m7 (hl▸a)),cA (by omega)]
   by_cases hq:ix xs (k:Int)=ix ys (k:Int)
   ·simp [hq]
   ·simp [hq]) (by unfold Zw_L1; simp only [nq,Bool.false_eq_true,if_false])]
  rw [oH xs ys hl,aN]
  by_cases e:xs=ys<;>simp [e,Zw_J1]
 ·rw [if_pos (by simp; omega)]
  have:xs≠ys:=fun e=>hl (by rw [e])
  simp [this]
theorem pE (xs ys:List Int):Z0i xs ys=Zw xs ys:=rfl
theorem Cf {α:Type}[Inhabited α](x:Option α):bT true x=x:=rfl
def Rg (g:List Bool)(n:Nat)(gl:List Int):Prop:=g.length=n∧∀ j:Nat,j<n→ix g (j:Int)=decide ((j:Int)∈gl)
theorem Rg.set {g:List Bool}{n:Nat}{gl:List Int}(h:Rg g n gl){b:Int}(m:0≤b)(h1:b<(n:Int)):Rg (g.set b.toNat true) n (gl++[b]):=by
 obtain ⟨l,q⟩:=h
 refine ⟨by simpa using l,fun j i=>?_⟩
 obtain ⟨c,rfl⟩:=Int.eq_ofNat_of_zero_le m
 have a:j<(g.set (c:Int).toNat true).length:=by simpa [l] using i
 rw [bV a,List.getElem_set]
 by_cases e:(c:Int).toNat=j
 ·rw [if_pos e]; have:c=j:=by omega
  subst this; simp
 ·rw [if_neg e]
  have h2:=q j i
  rw [bV (by omega)] at h2
  rw [h2]
  have:¬ (j:Int)=(c:Int):=by omega
  simp [this]
theorem kn {α T:Type}[Inhabited α](xs:List α)(z:α)(f:T→Option (T⊕List α))(mk:List α→Int→T)
  (u:∀ (ys:List α) (k:Nat),ys.length=xs.length→k<xs.length→f (mk ys (k:Int))=some (.inl (mk (ys.set k (ix xs (k:Int))) ((k+1:Nat):Int))))
  (g:∀ ys:List α,ys.length=xs.length→f (mk ys (xs.length:Int))=some (.inr ys)):aU f (mk (List.replicate (xs.length:Int).toNat z) 0)=some xs:=by
 rw [Int.toNat_natCast]
 rw [jD (S:=List α) xs (fun _ s=>s.length=xs.length) f mk (fun s k x=>.inl (s.set k x)) (fun s=>s) (fun s k i a=>u s k i a) (fun s k s' i a h=>by injection h with h; subst h; simpa using i) g _ (by simp)]
 congr 1
 have r:∀ (m k:Nat) (ys:List α),k+m=xs.length→ys.length=xs.length→(∀ j,j<k→ys[j]?=xs[j]?)→rf (R:=List α) (fun s k x=>.inl (s.set k x)) (fun s=>s) (xs.drop k) k ys=xs:=by
  intro m
  induction m with
  | zero =>
   intro k ys a g l
   have a:k=xs.length:=by omega
   subst a
   rw [List.drop_length]
   show ys=xs
   refine List.ext_getElem? fun j=>?_
   by_cases q:j<xs.length
   ·exact l j q
   ·rw [List.getElem?_eq_none (by omega),List.getElem?_eq_none (by omega)]
  | succ m ih =>
   intro k ys a g l
   have b:k<xs.length:=by omega
   rw [List.drop_eq_getElem_cons b]
   unfold rf
   refine ih (k+1) _ (by omega) (by simpa using g) (fun j q=>?_)
   rw [List.getElem?_set]
   by_cases e:k=j
   ·subst e; rw [if_pos rfl,if_pos (by omega)]; exact (List.getElem?_eq_getElem b).symm
   ·rw [if_neg e]; exact l j (by omega)
 simpa using r xs.length 0 (List.replicate xs.length z) (by omega) (by simp) (fun j q=>by omega)
theorem uv {α:Type}{n:Nat}{z:α}{k:Nat}(h:k<n):(0:Int)≤(k:Int)∧(k:Int)<((List.replicate (n:Int).toNat z).length:Int):=by
 rw [List.length_replicate,Int.toNat_natCast]; omega
theorem wf (xs:List Int)(h:xs.length≤1048576):Z0i xs xs=some true:=by
 rw [pE,wd _ _ (by unfold cJ; omega)]; simp
theorem wg {α:Type}[Inhabited α](xs:List α)(f:Int→Option (Int⊕(Bool⊕Unit)))(h:xs.length≤1048576)(e:α→α→Option Bool)(g:∀ x∈xs,e x x=some true)
  (b:∀ i,f i=if (decide (i<(xs.length:Int)))=true then (if (0≤i∧i<(xs.length:Int)) then if (0≤i∧i<(xs.length:Int)) then (e (ix xs i) (ix xs i)).bind fun (r:Bool)=>if (!r)=true then (some (.inr (.inl false))) else (some (.inl (aK (i+(1:Int))))) else none else none) else (some (.inr (.inr ())))) :
  aU f 0=some (.inr ()):=by
 rw [fA xs f (fun i=>i) (fun _=>true) (.inl false) (.inr ()) (fun k a=>by
  rw [b,if_pos (uu a),if_pos (m7 a),if_pos (m7 a),g _ (bF a),aN,cA (by unfold cJ; omega)]; rfl) (by rw [b]; simp only [nq,Bool.false_eq_true,if_false])]
 simp
theorem nr (x:Int):(x != x)=false:=by simp
def BB:Nat:=4611686018427387904
theorem hR {α:Type}[Inhabited α]{ys:List α}{k:Nat}{v:α}(h:k<ys.length):ix (ys.set k v) (k:Int)=v:=by
 rw [bV (by simpa using h)]; simp
theorem jG {α:Type}[Inhabited α]{ys:List α}{k j:Nat}{v:α}(h:k≠j):ix (ys.set k v) (j:Int)=ix ys (j:Int):=by
 simp [ix,List.getD_eq_getElem?_getD,List.getElem?_set,h]
def kF {α:Type}(n:α→Nat)(xs:List α):Nat:=(xs.map n).sum
theorem ns {α:Type}(n:α→Nat)(x:α)(t:List α):kF n (x::t)=n x+kF n t:=by simp [kF]
theorem uw {α:Type}(n:α→Nat){xs:List α}{k:Nat}(h:k<xs.length):kF n (xs.drop k)=n xs[k]+kF n (xs.drop (k+1)):=by
 rw [List.drop_eq_getElem_cons h,ns]
theorem m8 {α T U:Type}[Inhabited α](xs:List α)(n:α→Nat)(g:α→Nat→α)(f:T→Option (T⊕(Int×List α)))(mk:List α→Int→Int→T)
  (I:∀ (ys:List α) (k i:Nat),i<xs.length→ys.length=xs.length→ix ys (i:Int)=ix xs (i:Int)→k+n (ix xs (i:Int))≤BB→f (mk ys (k:Int) (i:Int))=some (.inl (mk (ys.set i (g (ix xs (i:Int)) k)) ((k+n (ix xs (i:Int)):Nat):Int) ((i+1:Nat):Int))))
  (G:∀ ys k,f (mk ys k (xs.length:Int))=some (.inr (k,ys))) (k:Nat) (J:k+kF n xs≤BB) :
  ∃ ys,aU f (mk xs (k:Int) 0)=some (((k+kF n xs:Nat):Int),ys)∧ys.length=xs.length ∧
   ∀ (b:U→Option (U⊕(Int⊕Int))) (a:Int→Int→U),(∀ (k i:Nat),i<xs.length→k+n (ix xs (i:Int))≤BB→ix ys (i:Int)=g (ix xs (i:Int)) k→b (a (k:Int) (i:Int))=some (.inl (a ((k+n (ix xs (i:Int)):Nat):Int) ((i+1:Nat):Int)))) →
    (∀ k,b (a k (xs.length:Int))=some (.inr (.inr k)))→aU b (a (k:Int) 0)=some (.inr ((k+kF n xs:Nat):Int)):=by
 have s:∀ (m i k:Nat) (ys:List α),i+m=xs.length→ys.length=xs.length→(∀ j,i≤j→j<xs.length→ix ys (j:Int)=ix xs (j:Int))→k+kF n (xs.drop i)≤BB →
   ∃ zs,aU f (mk ys (k:Int) (i:Int))=some (((k+kF n (xs.drop i):Nat):Int),zs)∧zs.length=xs.length∧(∀ j,j<i→ix zs (j:Int)=ix ys (j:Int)) ∧
    ∀ (b:U→Option (U⊕(Int⊕Int))) (a:Int→Int→U),(∀ (k j:Nat),i≤j→j<xs.length→k+n (ix xs (j:Int))≤BB→ix zs (j:Int)=g (ix xs (j:Int)) k→b (a (k:Int) (j:Int))=some (.inl (a ((k+n (ix xs (j:Int)):Nat):Int) ((j+1:Nat):Int)))) →
     (∀ k,b (a k (xs.length:Int))=some (.inr (.inr k)))→aU b (a (k:Int) (i:Int))=some (.inr ((k+kF n (xs.drop i):Nat):Int)):=by
  intro m
  induction m with
  | zero =>
   intro i k ys r l _ _
   have r:i=xs.length:=by omega
   subst r
   rw [List.drop_length]
   exact ⟨ys,dB (G ys k),l,fun j _=>rfl,fun b a _ h2=>dB (h2 k)⟩
  | succ m ih =>
   intro i k ys r l u Z
   have e:i<xs.length:=by omega
   have F:=uw n e
   rw [← bV e] at F
   have q:=I ys k i e l (u i (Nat.le_refl _) e) (by omega)
   obtain ⟨zs,E,O,z3,z4⟩:=ih (i+1) (k+n (ix xs (i:Int))) (ys.set i (g (ix xs (i:Int)) k)) (by omega) (by simpa using l) (fun j h1 h2=>by
    rw [jG (by omega)]; exact u j (by omega) h2) (by omega)
   have h:k+n (ix xs (i:Int))+kF n (xs.drop (i+1))=k+kF n (xs.drop i):=by omega
   rw [h] at E z4
   refine ⟨zs,by rw [eP q]; exact E,O,fun j hj=>?_,fun b a h1 h2=>?_⟩
   ·rw [z3 j (by omega),jG (by omega)]
   ·have L:ix zs (i:Int)=g (ix xs (i:Int)) k:=by rw [z3 i (by omega),hR (by omega)]
    rw [eP (h1 k i (Nat.le_refl _) e (by omega) L)]
    exact z4 b a (fun k j Y=>h1 k j (by omega)) h2
 obtain ⟨ys,B,M,_,D⟩:=s xs.length 0 k xs (by omega) rfl (fun _ _ _=>rfl) (by simpa using J)
 rw [List.drop_zero] at B D
 exact ⟨ys,B,M,fun b a h1 h2=>D b a (fun k j _=>h1 k j) h2⟩
theorem wn {k:Nat}(h:k+1≤BB):aK ((k:Int)+1)=((k+1:Nat):Int):=by
 unfold BB at h; rw [bG (by omega) (by omega)]; omega
theorem rE {α:Type}(c:Nat)(xs:List α):kF (fun _=>c) xs=c*xs.length:=by
 induction xs with
 | nil=>simp [kF]
 | cons x t ih=>rw [ns,ih,List.length_cons,Nat.mul_succ]; omega
noncomputable def ux (xs:List Int)(k:Nat):List Int:=((Zz xs (k:Int)).getD default).2
theorem wi {n k:Nat}(a:n≤1048576)(h:k<n):aK ((k:Int)+1)=((k+1:Nat):Int):=cA (by unfold cJ; omega)
theorem fK (xs:List Int)(k:Nat)(g:xs.length≤1048576)(h:k+xs.length≤BB):Zz xs (k:Int)=some (((k+xs.length:Nat):Int),ux xs k)∧Z03 (ux xs k) (k:Int)=some ((k+xs.length:Nat):Int):=by
 obtain ⟨ys,j,r,l⟩:=m8 (U:=Int×Int) xs (fun _=>1) (fun _ k=>(k:Int)) (fun s:(List Int)×Int×Int=>Zz_L1 xs s.1 s.2.1 s.2.2) (fun ys k i=>(ys,k,i)) (fun ys k i a B u b=>by
  show Zz_L1 xs ys (k:Int) (i:Int)=_
  unfold Zz_L1
  rw [if_pos (uu a),if_pos (m7 a),wi g a,wn b,Int.toNat_natCast]) (fun ys k=>by
  show Zz_L1 xs ys k (xs.length:Int)=_
  unfold Zz_L1; simp only [nq,Bool.false_eq_true,if_false]) k (by rw [rE]; omega)
 rw [rE,Nat.one_mul] at j l
 have e:Zz xs (k:Int)=some (((k+xs.length:Nat):Int),ys):=by
  unfold Zz; rw [j,aN]; rfl
 have m:ux xs k=ys:=by unfold ux; rw [e]; rfl
 rw [m]
 refine ⟨e,?_⟩
 unfold Z03
 rw [l (fun s:Int×Int=>Z03_L1 ys s.1 s.2) (fun k i=>(k,i)) (fun k i a b q=>by
  show Z03_L1 ys (k:Int) (i:Int)=_
  unfold Z03_L1
  rw [if_pos (uu (by omega)),if_pos (m7 (by omega)),q,nr,wi g a,wn b]; rfl) (fun k=>by
  show Z03_L1 ys k (xs.length:Int)=_
  rw [← r]
  unfold Z03_L1; simp only [nq,Bool.false_eq_true,if_false])]
 rfl
theorem yy {α:Type}(n:α→Nat)(M:Nat)(xs:List α)(h:∀ x∈xs,n x≤M):kF n xs≤xs.length*M:=by
 induction xs with
 | nil=>simp [kF]
 | cons x t ih =>
  rw [ns,List.length_cons,Nat.succ_mul]
  have:=h x (by simp)
  have:=ih (fun y a=>h y (by simp [a]))
  omega
theorem yz {α:Type}(n:α→Nat)(M:Nat)(xs:List α)(h:∀ x∈xs,n x≤M)(a:xs.length≤1048576):kF n xs≤1048576*M:=Nat.le_trans (yy n M xs h) (Nat.mul_le_mul_right _ a)
theorem uy {α:Type}(n:α→Nat)(xs:List α):xs.length≤np n xs:=by unfold np; omega
theorem uz {α:Type}(n:α→Nat){xs:List α}{x:α}(h:x∈xs):n x≤np n xs:=by
 have:n x≤(xs.map n).sum:=by
  induction xs with
  | nil=>cases h
  | cons y t ih =>
   rcases List.mem_cons.1 h with rfl | h
   ·simp
   ·have:=ih h; simp; omega
 unfold np; omega
theorem uA {a:Nat}{b:Int}(h:gC a b<0)(e:0≤b):gC a b = -1:=by
 unfold gC at *
 split at h
 ·rw [if_pos (by assumption)]
 ·omega
theorem nt {f:Int×aP→Option ((Int×aP)⊕aP)}(b:∀ (n:Nat) (s:aP),0<n→n<10000000000000000000→s.length≤100→∃ c:aP,c.length=1∧f ((n:Int),s)=some (.inl (((n / 10:Nat):Int),c++s)))(a:∀ s,f (0,s)=some (.inr s)):∀ (m n:Nat) (s:aP),n<10 ^ m→m≤19→s.length+m≤100→∃ r,aU f ((n:Int),s)=some r∧r.length≤s.length+m
 | 0,n,s,h,hm,hs=>by
  have:n=0:=by simpa using h
  subst this
  exact ⟨s,dB (a s),by omega⟩
 | m+1,n,s,h,hm,hs=>by
  by_cases e:n=0
  ·subst e; exact ⟨s,dB (a s),by omega⟩
  ·have g:10 ^ (m+1)≤10 ^ 19:=Nat.pow_le_pow_right (by omega) hm
   obtain ⟨c,h1,h2⟩:=b n s (by omega) (by omega) (by omega)
   obtain ⟨r,i,j⟩:=nt b a m (n / 10) (c++s) (by rw [Nat.pow_succ] at h; omega) (by omega) (by simp; omega)
   exact ⟨r,by rw [eP h2]; exact i,by simp at j; omega⟩
theorem uB (k:Nat)(h:k≤BB):∃ s,Z0o (k:Int)=some s:=by
 unfold Z0o
 by_cases c:k=0
 ·rw [if_pos (by simp; omega)]; exact ⟨_,rfl⟩
 ·rw [if_neg (by simp; omega)]
  obtain ⟨r,g,i⟩:=nt (f:=fun s:Int×aP=>Z0o_L1 s.1 s.2) (fun n s j e l=>by
   have b:aK ((n:Int).tdiv 10)=((n / 10:Nat):Int):=by
    rw [Int.tdiv_eq_ediv_of_nonneg (by omega),bG (by omega) (by omega)]; omega
   have a:(oc [IntKind.wrap .u8 (aK (48+(n:Int).tmod 10))]).length=1:=by simp [oc]
   refine ⟨oc [IntKind.wrap .u8 (aK (48+(n:Int).tmod 10))],a,?_⟩
   simp only [Z0o_L1]
   rw [if_pos (by simp; omega),if_pos (by rw [a]; omega),b]) (fun s=>by simp only [Z0o_L1]; rfl) 19 k [] (by unfold BB at h; omega) (by omega) (by simp)
  rw [g]
  simp only [Option.bind_some,Z0o_J1]
  rw [if_pos (by simp [str8] at i ⊢; omega)]
  exact ⟨_,rfl⟩
noncomputable def Cg (k:Nat):aP:=(Z0o (k:Int)).getD default
theorem qt {k:Nat}(h:k≤BB:=by omega):Z0o (k:Int)=some (Cg k):=by
 obtain ⟨s,a⟩:=uB k h
 unfold Cg; rw [a]; rfl
def nu (xs:(List Int)):Prop:=xs.length≤maxLen
def jV (xs:(List Int)):Prop:=xs.length≤1048576
theorem jH {xs:(List Int)}(h:xs.length≤1048576):jV xs:=h
theorem j8 {xs:(List Int)}{a:Int}(e:nu xs)(b:0≤a)(h1:a≤1048576):Z1n xs a=some (gC xs.length a):=w8 (Nat.le_trans e (by decide)) b h1
theorem ly (xs:(List Int))(h:jV xs):Z0a xs=some xs:=by
 unfold Z0a
 rw [if_pos (by have:xs.length≤1048576:=h; omega),kn xs 0 (fun s:(List Int)×Int=>Z0a_L1 xs s.1 s.2) (fun s i=>(s,i)) (fun ys k e a=>by
  have b:xs.length≤1048576:=h
  show Z0a_L1 xs ys (k:Int)=_
  unfold Z0a_L1
  rw [if_pos (uu a),if_pos (m7 a),if_pos (uv a),cA (by unfold cJ; omega)]; rfl) (fun ys _=>by
  show Z0a_L1 xs ys (xs.length:Int)=_
  unfold Z0a_L1; simp only [nq,Bool.false_eq_true,if_false])]
 rfl
theorem lz (xs:(List Int))(h:jV xs):Z0i xs xs=some true:=wf xs h
theorem n' (xs:(List Int))(k:Nat)(h:jV xs)(a:k+xs.length≤BB):Zz xs (k:Int)=some (((k+xs.length:Nat):Int),ux xs k)∧Z03 (ux xs k) (k:Int)=some ((k+xs.length:Nat):Int):=fK xs k h a
def AT (x:aP):Prop:=x.length≤maxLen
def AU (x:aP):Prop:=x.length≤1048576
structure Cap75 (x:Node):Prop where
 Args:nu x.Args
 Dims:nu x.Dims
 Ints:nu x.Ints
 Form:AT x.Form
 Data:nu x.Data
structure SmNode (x:Node):Prop where
 Args:jV x.Args
 Dims:jV x.Dims
 Ints:jV x.Ints
 Form:AU x.Form
 Data:jV x.Data
def kG (x:Node):Nat:=x.Args.length+x.Dims.length+x.Ints.length+x.Form.length+x.Data.length
theorem s9 {x:Node}(h:kG x≤1048576):SmNode x:=by
 unfold kG at h
 exact ⟨jH (by omega),jH (by omega),jH (by omega),show _≤_ by omega,jH (by omega)⟩
theorem sd {x:Node}{a:Int}(u:Cap75 x)(b:0≤a)(h1:a≤1048576):Z2r x a=some (gC (kG x) a):=by
 obtain ⟨l,m,q,r,s⟩:=u
 unfold Z2r kG
 rw [jU b,jU b,jU b,jU b]
 rw [j8 l b (by omega),aN]
 by_cases h2:gC (x.Args.length) a<0
 ·simp [h2]
 ·obtain ⟨i,I,B⟩:=jt b h2
  rw [if_neg (by simpa using h2),if_neg h2]
  rw [j8 m i (by omega),aN]
  by_cases h3:gC (x.Dims.length) (gC (x.Args.length) a)<0
  ·simp [h3]
  ·obtain ⟨j,J,D⟩:=jt i h3
   rw [if_neg (by simpa using h3),if_neg h3]
   rw [j8 q j (by omega),aN]
   by_cases h4:gC (x.Ints.length) (gC (x.Dims.length) (gC (x.Args.length) a))<0
   ·simp [h4]
   ·obtain ⟨F,L,E⟩:=jt j h4
    rw [if_neg (by simpa using h4),if_neg h4]
    have h:aK (gC (x.Ints.length) (gC (x.Dims.length) (gC (x.Args.length) a)) - (x.Form.length:Int))=gC (x.Ints.length) (gC (x.Dims.length) (gC (x.Args.length) a)) - (x.Form.length:Int):=by
     have:x.Form.length≤9223372036854775807:=Nat.le_trans r (by decide)
     exact bG (by omega) (by omega)
    by_cases h5:gC (x.Form.length) (gC (x.Ints.length) (gC (x.Dims.length) (gC (x.Args.length) a)))<0
    ·have:gC (x.Ints.length) (gC (x.Dims.length) (gC (x.Args.length) a))<(x.Form.length:Int):=by unfold gC at h5; split at h5<;>omega
     rw [h,if_pos (by simp; omega)]
     simp [h5]
    ·obtain ⟨g,M,e⟩:=jt F h5
     rw [h,← e,if_neg (by simpa using h5),if_neg h5]
     rw [j8 s g (by omega),aN]
     by_cases h6:gC (x.Data.length) (gC (x.Form.length) (gC (x.Ints.length) (gC (x.Dims.length) (gC (x.Args.length) a))))<0
     ·rw [if_pos (by simpa using h6),uA h6 g]
     ·obtain ⟨O,T,G⟩:=jt g h6
      rw [if_neg (by simpa using h6)]
theorem wh (x:Node)(h:SmNode x):Z34 x=some x:=by
 unfold Z34
 rw [ly _ h.Args,aN,ly _ h.Dims,aN,ly _ h.Ints,aN,ly _ h.Data,aN]
theorem wj (x:Node)(h:SmNode x):Z2q x x=some true:=by
 unfold Z2q
 rw [lz _ h.Args,aN,lz _ h.Dims,aN,lz _ h.Ints,aN,lz _ h.Data,aN]
 simp
def uC (xs:(List Node)):Prop:=xs.length≤maxLen∧∀ x∈xs,Cap75 x
def kz (xs:(List Node)):Prop:=xs.length≤1048576∧∀ x∈xs,SmNode x
theorem qu {xs:(List Node)}(h:np kG xs≤1048576):kz xs:=⟨Nat.le_trans (uy _ _) h,fun x a=>s9 (Nat.le_trans (uz _ a) h)⟩
theorem qv {xs:(List Node)}{a:Int}(g:uC xs)(b:0≤a)(h1:a≤1048576):Z1e xs a=some (gC (np kG xs) a):=by
 unfold Z1e
 refine wc (x:=fun l=>(aU (fun s:Int×Int=>Z1e_L1 xs s.1 s.2) (l,(0:Int))).bind fun e=>match e with | .inl e=>some e | .inr e=>Z1e_J1 e) (Nat.le_trans g.1 (by decide)) b h1 (fun h=>?_)
 obtain ⟨j,m,q⟩:=jt b h
 exact w9 xs kG (Nat.lt_of_le_of_lt (show xs.length≤1048576 by unfold gC at h; split at h<;>omega) (by decide)) Z2r _ (fun x i a=>sd (g.2 x i)) (fun _ _=>rfl) _ j (by omega)
theorem uD (xs:(List Node))(h:kz xs):Z0x xs=some xs:=by
 unfold Z0x
 rw [if_pos (by have:xs.length≤1048576:=h.1; omega),kn xs zT65.z (fun s:(List Node)×Int=>Z0x_L1 xs s.1 s.2) (fun s i=>(s,i)) (fun ys k e a=>by
  have b:xs.length≤1048576:=h.1
  show Z0x_L1 xs ys (k:Int)=_
  unfold Z0x_L1
  rw [if_pos (uu a),if_pos (m7 a),wh _ (h.2 _ (bF a)),aN,if_pos (uv a),cA (by unfold cJ; omega)]; rfl) (fun ys _=>by
  show Z0x_L1 xs ys (xs.length:Int)=_
  unfold Z0x_L1; simp only [nq,Bool.false_eq_true,if_false])]
 rfl
theorem uE (xs:(List Node))(h:kz xs):Z1j xs xs=some true:=by
 unfold Z1j
 rw [nr,wg xs (fun s:Int=>Z1j_L1 xs xs s) h.1 Z2q (fun x a=>wj x (h.2 x a)) (fun _=>rfl)]; rfl
def eS (x:Node):Nat:=1+x.Args.length+x.Dims.length+x.Ints.length+1+x.Data.length
noncomputable def nv (x:Node)(k:Nat):Node:=⟨((k:Nat):Int),ux x.Args (k+1),ux x.Dims (k+1+x.Args.length),ux x.Ints (k+1+x.Args.length+x.Dims.length),Cg (k+1+x.Args.length+x.Dims.length+x.Ints.length),ux x.Data (k+1+x.Args.length+x.Dims.length+x.Ints.length+1)⟩
noncomputable def jW (xs:(List Node))(k:Nat):(List Node):=((Z04 xs (k:Int)).getD default).2
theorem qw (xs:(List Node))(k:Nat)(h:kz xs)(m:k+kF eS xs≤BB):Z04 xs (k:Int)=some (((k+kF eS xs:Nat):Int),jW xs k):=by
 obtain ⟨ys,r,B,D⟩:=m8 (U:=Int×Int) xs eS nv (fun s:(List Node)×Int×Int=>Z04_L1 xs s.1 s.2.1 s.2.2) (fun ys k i=>(ys,k,i)) (fun ys k i j u g q=>by
  show Z04_L1 xs ys (k:Int) (i:Int)=_
  have b:=h.2 _ (bF j)
  have a:i<ys.length:=by omega
  unfold eS at q
  unfold Z04_L1 nv eS
  generalize ix xs (i:Int)=x at *
  rw [if_pos (uu j),if_pos (m7 j),wi h.1 j]
  (try simp only [fY,Int.toNat_natCast,hR a,List.set_set,g])
  rw [wn (by omega)]
  (try simp only [fY,Int.toNat_natCast,hR a,List.set_set,g])
  rw [(fK _ _ b.Args (by omega)).1,aN]
  (try simp only [fY,Int.toNat_natCast,hR a,List.set_set,g])
  rw [(fK _ _ b.Dims (by omega)).1,aN]
  (try simp only [fY,Int.toNat_natCast,hR a,List.set_set,g])
  rw [(fK _ _ b.Ints (by omega)).1,aN]
  (try simp only [fY,Int.toNat_natCast,hR a,List.set_set,g])
  rw [qt,aN,wn (by omega)]
  (try simp only [fY,Int.toNat_natCast,hR a,List.set_set,g])
  rw [(fK _ _ b.Data (by omega)).1,aN]
  (try simp only [fY,Int.toNat_natCast,hR a,List.set_set,g])
  rw [show k+1+x.Args.length+x.Dims.length+x.Ints.length+1+x.Data.length=k+(1+x.Args.length+x.Dims.length+x.Ints.length+1+x.Data.length) by omega]) (fun ys k=>by
  show Z04_L1 xs ys k (xs.length:Int)=_
  unfold Z04_L1; simp only [nq,Bool.false_eq_true,if_false]) k m
 have e:Z04 xs (k:Int)=some (((k+kF eS xs:Nat):Int),ys):=by
  unfold Z04; rw [r,aN]; rfl
 have l:jW xs k=ys:=by unfold jW; rw [e]; rfl
 rw [l,e]
structure Cap25 (x:Graph):Prop where
 Nodes:uC x.Nodes
 Outs:nu x.Outs
structure SmGraph (x:Graph):Prop where
 Nodes:kz x.Nodes
 Outs:jV x.Outs
def iJ (x:Graph):Nat:=np kG x.Nodes+x.Outs.length
theorem nw {x:Graph}(h:iJ x≤1048576):SmGraph x:=by
 unfold iJ at h
 exact ⟨qu (by omega),jH (by omega)⟩
theorem nx {x:Graph}{a:Int}(i:Cap25 x)(b:0≤a)(h1:a≤1048576):Z2d x a=some (gC (iJ x) a):=by
 obtain ⟨g,h⟩:=i
 unfold Z2d iJ
 rw [jU b]
 rw [qv g b (by omega),aN]
 by_cases h2:gC (np kG x.Nodes) a<0
 ·simp [h2]
 ·obtain ⟨e,m,j⟩:=jt b h2
  rw [if_neg (by simpa using h2),if_neg h2]
  rw [j8 h e (by omega),aN]
  by_cases h3:gC (x.Outs.length) (gC (np kG x.Nodes) a)<0
  ·rw [if_pos (by simpa using h3),uA h3 e]
  ·obtain ⟨q,r,l⟩:=jt e h3
   rw [if_neg (by simpa using h3)]
theorem pF (x:Graph)(h:SmGraph x):Z09 x=some x:=by
 unfold Z09
 rw [uD _ h.Nodes,aN,ly _ h.Outs,aN]
theorem ko (x:Graph)(h:SmGraph x):Z1i x x=some true:=by
 unfold Z1i
 rw [uE _ h.Nodes,aN,lz _ h.Outs,aN]
 simp
theorem uF {g:Graph}(h:SmGraph g):GC g:=by
 have b:(1048576:Nat)<cJ:=by decide
 have a:=h.Nodes
 exact ⟨Nat.lt_of_le_of_lt a.1 b,Nat.lt_of_le_of_lt h.Outs b,fun n m=>Nat.lt_of_le_of_lt (a.2 n m).Args b,fun n m=>Nat.lt_of_le_of_lt (a.2 n m).Dims b,fun n m=>Nat.lt_of_le_of_lt (a.2 n m).Ints b,fun n m=>Nat.lt_of_le_of_lt (a.2 n m).Data b,fun n m=>(a.2 n m).Form⟩
theorem AV {g:Graph}(h:¬ gC (iJ g) 1048576<0):SmGraph g:=nw (by unfold gC at h; split at h<;>omega)
def eG (p:Nat→Bool)(n:Nat):List Int:=((List.range n).filter p).map fun k:Nat=>(k:Int)
theorem hD (p:Nat→Bool)(n:Nat):eG p (n+1)=if p n=true then eG p n++[(n:Int)] else eG p n:=by
 unfold eG
 rw [List.range_succ,List.filter_append,List.map_append]
 by_cases h:p n=true<;>simp [h]
theorem kp (p:Nat→Bool)(n:Nat):(eG p n).length≤n:=by
 unfold eG
 rw [List.length_map]
 have:=List.length_filter_le p (List.range n)
 simpa using this
theorem AW {g:Graph}(a:Bool)(b:g.Nodes.length≤200∨a=false):aU (fun s:List Int×Int=>Z00_L1 g a s.1 s.2) ([],0)=some (if a=true then eG (fun k=>(ix g.Nodes (k:Int)).Op==1) g.Nodes.length else []):=by
 cases a with
 | false =>
  refine dB ?_
  simp only [Z00_L1]
  rw [if_neg (by simp)]; rfl
 | true =>
  have b:=b.resolve_right (by simp)
  rw [if_pos rfl]
  refine eR (f:=fun s:List Int×Int=>Z00_L1 g true s.1 s.2) (fun k=>(eG (fun k=>(ix g.Nodes (k:Int)).Op==1) k,(k:Int))) g.Nodes.length (fun k e=>?_) ?_ rfl
  ·have h:=kp (fun k=>(ix g.Nodes (k:Int)).Op==1) k
   simp only [Z00_L1,Z00_J2]
   rw [if_pos (by simp; omega),if_pos (by omega),cA (by unfold cJ; omega)]
   by_cases q:((ix g.Nodes (k:Int)).Op==1)=true
   ·rw [if_pos q,if_pos (by simp; omega),hD,if_pos q]
   ·rw [if_neg q,hD,if_neg q]
  ·simp only [Z00_L1]
   rw [if_neg (by simp)]
theorem AX {g:Graph}(e:g.Nodes.length≤200):Z06 g=some (eG (fun k=>(ix g.Nodes (k:Int)).Op==1) g.Nodes.length):=by
 unfold Z06
 rw [eR (f:=fun s:List Int×Int=>Z06_L1 g s.1 s.2) (r:=eG (fun k=>(ix g.Nodes (k:Int)).Op==1) g.Nodes.length) (fun k=>(eG (fun k=>(ix g.Nodes (k:Int)).Op==1) k,(k:Int))) g.Nodes.length (fun k a=>by
   have b:=kp (fun k=>(ix g.Nodes (k:Int)).Op==1) k
   simp only [Z06_L1,Z06_J2]
   rw [if_pos (by simp; omega),if_pos (by omega),cA (by unfold cJ; omega)]
   by_cases q:((ix g.Nodes (k:Int)).Op==1)=true
   ·rw [if_pos q,if_pos (by simp; omega),hD,if_pos q]
   ·rw [if_neg q,hD,if_neg q]) (by
   simp only [Z06_L1]
   rw [if_neg (by simp)]) (s:=([],0)) rfl]
 rfl
def GA (g:Graph):Prop:=g.Nodes.length≤200∧∀ k:Nat,k<g.Nodes.length→(ix g.Nodes (k:Int)).Args.length≤6∧∀ a∈(ix g.Nodes (k:Int)).Args,0≤a∧a<(k:Int)
theorem AY {g:Graph}{j:List Tensor}(i:g.Nodes.length≤200)(h:B8 g g.Nodes.length j):GA g:=by
 refine ⟨i,fun k e=>?_⟩
 obtain ⟨a,b,_⟩:=h k e
 exact ⟨m6 a,b⟩
theorem oI {α:Type}[Inhabited α]{xs ys:List α}{i:Nat}(h:i<xs.length):ix (xs++ys) (i:Int)=ix xs (i:Int):=by
 rw [bV (xs:=xs++ys) (by rw [List.length_append]; omega),bV h,List.getElem_append_left h]
theorem oJ {α:Type}[Inhabited α]{xs:List α}{x:α}:ix (xs++[x]) ((xs.length:Nat):Int)=x:=by
 rw [bV (by simp)]; simp
theorem lA {p:Nat→Bool}{k:Nat}(a:p k=true):∀ {n:Nat},k<n→(eG p k).length<(eG p n).length∧ix (eG p n) ((eG p k).length:Int)=(k:Int)
 | n+1,h=>by
  rw [hD]
  by_cases e:k=n
  ·subst e
   rw [if_pos a]
   exact ⟨by simp,oJ⟩
  ·obtain ⟨h1,h2⟩:=lA a (n:=n) (by omega)
   split
   ·exact ⟨by rw [List.length_append]; omega,by rw [oI h1,h2]⟩
   ·exact ⟨h1,h2⟩
theorem lD {p:Nat→Bool}:∀ {n i:Nat},i<(eG p n).length→∃ k,k<n∧p k=true∧(eG p k).length=i∧ix (eG p n) (i:Int)=(k:Int)
 | 0,i,h=>by simp [eG] at h
 | n+1,i,h=>by
  rw [hD] at h ⊢
  by_cases q:p n=true
  ·rw [if_pos q] at h ⊢
   by_cases e:i=(eG p n).length
   ·subst e
    exact ⟨n,by omega,q,rfl,oJ⟩
   ·have j:i<(eG p n).length:=by rw [List.length_append] at h; simp at h; omega
    obtain ⟨k,k1,a,b,g⟩:=lD j
    exact ⟨k,by omega,a,b,by rw [oI j,g]⟩
  ·rw [if_neg q] at h ⊢
   obtain ⟨k,k1,a,b,g⟩:=lD h
   exact ⟨k,by omega,a,b,g⟩
def iG (h:Graph)(k:Nat):Bool:=(ix h.Nodes (k:Int)).Op==1
def rn (n:Node)(to:List Int):Node:=⟨n.Op,n.Args.map (fun a=>ix to a),n.Dims,n.Ints,n.Form,n.Data⟩
def mg (g h:Graph):Nat→List Node×List Int
 | 0=>(g.Nodes,[])
 | k+1=>if iG h k=true then ((mg g h k).1,(mg g h k).2++[ix g.Outs ((eG (iG h) k).length:Int)]) else ((mg g h k).1++[rn (ix h.Nodes (k:Int)) (mg g h k).2],(mg g h k).2++[((mg g h k).1.length:Int)])
theorem ny (g h:Graph):∀ k,(mg g h k).2.length=k
 | 0=>rfl
 | k+1=>by
  have:=ny g h k
  simp only [mg]
  split<;>simp [this]
theorem oK (g h:Graph):∀ k,(mg g h k).1.length≤g.Nodes.length+k
 | 0=>by simp [mg]
 | k+1=>by
  have:=oK g h k
  simp only [mg]
  split
  ·simp only []; omega
  ·rw [List.length_append]; simp; omega
theorem wU (g h:Graph){j:Nat}:∀ {k n:Nat},j<k→k≤n→ix (mg g h k).2 (j:Int)=ix (mg g h n).2 (j:Int):=by
 intro k n a b
 induction n with
 | zero=>omega
 | succ n ih =>
  by_cases e:k=n+1
  ·subst e; rfl
  ·rw [ih (by omega)]
   have i:=ny g h n
   simp only [mg]
   split
   ·rw [oI (by omega)]
   ·rw [oI (by omega)]
theorem rF (g h:Graph){k n:Nat}(b:k<n):ix (mg g h n).2 (k:Int)=if iG h k=true then ix g.Outs ((eG (iG h) k).length:Int) else ((mg g h k).1.length:Int):=by
 rw [← wU g h (k:=k+1) (by omega) (by omega)]
 have a:=ny g h k
 simp only [mg]
 split
 ·have e:ix ((mg g h k).2++[ix g.Outs ((eG (iG h) k).length:Int)]) (((mg g h k).2.length:Nat):Int)=_:=oJ
  rw [a] at e; exact e
 ·have e:ix ((mg g h k).2++[((mg g h k).1.length:Int)]) (((mg g h k).2.length:Nat):Int)=_:=oJ
  rw [a] at e; exact e
theorem wV {g h:Graph}(b:SmGraph g)(e:SmGraph h):∀ {k:Nat},k≤h.Nodes.length→∀ n∈(mg g h k).1,SmNode n
 | 0,_=>fun n a=>b.Nodes.2 n a
 | k+1,hk=>by
  have i:=wV b e (k:=k) (by omega)
  simp only [mg]
  split
  ·exact i
  ·intro n a
   rcases List.mem_append.1 a with q | q
   ·exact i n q
   ·have z:=e.Nodes.2 _ (bF (xs:=h.Nodes) (k:=k) (by omega))
    rw [List.mem_singleton.1 q]
    exact ⟨by show (List.map _ _).length≤_; rw [List.length_map]; exact z.Args,z.Dims,z.Ints,z.Form,z.Data⟩
def kH (g:Graph)(ins:List Int)(n:Nat):Nat→List Int
 | 0=>List.replicate n 0
 | i+1=>(kH g ins n i).set (ix ins (i:Int)).toNat (ix g.Outs (i:Int))
theorem m9 (g:Graph)(ins:List Int)(n:Nat):∀ i,(kH g ins n i).length=n
 | 0=>by simp [kH]
 | i+1=>by simp [kH,m9 g ins n i]
theorem pG {g h:Graph}{n k:Nat}(b:k<n)(j:iG h k=true):∀ {i:Nat},(eG (iG h) k).length<i→i≤(eG (iG h) n).length→ix (kH g (eG (iG h) n) n i) (k:Int)=ix g.Outs ((eG (iG h) k).length:Int)
 | i+1,h1,h2=>by
  obtain ⟨m,r,s,q,l⟩:=lD (p:=iG h) (n:=n) (i:=i) (by omega)
  simp only [kH]
  rw [l,Int.toNat_natCast]
  by_cases e:m=k
  ·subst e
   rw [hR (by rw [m9]; omega),q]
  ·rw [jG e]
   refine pG b j ?_ (by omega)
   have:(eG (iG h) k).length≠i:=fun c=>e (by
    have a:=(lA j b).2
    rw [c,l] at a; omega)
   omega
theorem pH {x:Node}(h:SmNode x):Z2k x=some x:=by
 have h1:x.Args.length≤1048576:=h.Args
 have h2:x.Dims.length≤1048576:=h.Dims
 have a:x.Ints.length≤1048576:=h.Ints
 have b:x.Data.length≤1048576:=h.Data
 unfold Z2k
 rw [gU (by omega),aN,gU (by omega),aN,gU (by omega),aN,gU (by omega),aN]
theorem wl {a:Graph}(e:SmGraph a):aU (fun s:(List Node)×Int=>Z0_L1 a s.1 s.2) (([]:List Node),(0:Int))=some a.Nodes:=by
 have g:a.Nodes.length≤1048576:=e.Nodes.1
 refine eR (f:=fun s:(List Node)×Int=>Z0_L1 a s.1 s.2) (fun j=>(a.Nodes.take j,(j:Int))) a.Nodes.length (fun j b=>?_) ?_ rfl
 ·simp only [Z0_L1]
  rw [if_pos (by simp; omega),if_pos (by omega),pH (e.Nodes.2 _ (bF b)),aN,if_pos (by simp; omega),cA (by unfold cJ; omega),List.take_succ_eq_append_getElem b,bV b]
 ·simp only [Z0_L1]
  rw [if_neg (by simp),List.take_length]
theorem uG {α:Type}[Inhabited α]{xs ys:List α}(a:xs.length=ys.length)(h:∀ j:Nat,j<xs.length→ix xs (j:Int)=ix ys (j:Int)):xs=ys:=by
 refine List.ext_getElem a fun j h1 h2=>?_
 have:=h j h1
 rwa [bV h1,bV h2] at this
theorem yA {to:List Int}{n:Node}(J:n.Args.length≤1048576)(hw:∀ a∈n.Args,0≤a∧a<(to.length:Int)):aU (fun s:(List Int)×Int=>Z0_L3 to n s.1 s.2) (n.Args,(0:Int))=some (n.Args.map fun a=>ix to a):=by
 obtain ⟨r,F,G,I⟩:=hO (f:=fun s:(List Int)×Int=>Z0_L3 to n s.1 s.2) (s:=(n.Args,0))
  (fun j z=>z.2=(j:Int)∧z.1.length=n.Args.length∧∀ m:Nat,m<n.Args.length→ix z.1 (m:Int)=if m<j then ix to (ix n.Args (m:Int)) else ix n.Args (m:Int)) n.Args.length
  (Post:=fun r=>r.length=n.Args.length∧∀ m:Nat,m<n.Args.length→ix r (m:Int)=ix to (ix n.Args (m:Int)))
  (fun j z D B=>by
   obtain ⟨xs,i⟩:=z
   obtain ⟨l,u,h⟩:=B
   dsimp only at l u h
   subst l
   have E:ix xs (j:Int)=ix n.Args (j:Int):=by rw [h j D,if_neg (by omega)]
   have g:=hw _ (bF D)
   refine ⟨(xs.set j (ix to (ix n.Args (j:Int))),((j+1:Nat):Int)),?_,rfl,by simpa using u,fun m g=>?_⟩
   ·simp only [Z0_L3]
    rw [if_pos (by simp; omega),if_pos (by omega),E,if_pos (by omega),cA (by unfold cJ; omega),Int.toNat_natCast]
   ·dsimp only
    by_cases e:j=m
    ·subst e
     rw [hR (by omega),if_pos (by omega)]
    ·rw [jG e,h m g]
     by_cases q:m<j
     ·rw [if_pos q,if_pos (by omega)]
     ·rw [if_neg q,if_neg (by omega)])
  (fun z B=>by
   obtain ⟨xs,i⟩:=z
   obtain ⟨l,u,h⟩:=B
   dsimp only at l u h
   subst l
   refine ⟨xs,?_,u,fun m g=>by rw [h m g,if_pos g]⟩
   simp only [Z0_L3]
   rw [if_neg (by simp)])
  ⟨rfl,rfl,fun m g=>by rw [if_neg (by omega)]⟩
 rw [F]
 congr 1
 refine uG (by simpa using G) fun j D=>?_
 have b:j<n.Args.length:=by omega
 rw [I j b,bV (xs:=n.Args.map fun a=>ix to a) (by simpa using b),List.getElem_map,bV b]
def oL (g h:Graph)(a:List (List Int))(k:Nat):Bool:=!(iG h k)||decide ((ix h.Nodes (k:Int)).Dims=ix a (ix g.Outs ((eG (iG h) k).length:Int)))
theorem Ch {g h:Graph}{e:List (List Int)}(B:SmGraph h)(r:h.Nodes.length≤200)(u:g.Nodes.length≤200)(I:e.length=g.Nodes.length)(E:∀ o∈g.Outs,0≤o∧o<(g.Nodes.length:Int))(hw:∀ k:Nat,k<h.Nodes.length→∀ a∈(ix h.Nodes (k:Int)).Args,0≤a∧a<(k:Int))(l:g.Outs.length=(eG (iG h) h.Nodes.length).length) :
  aU (fun s:(List Node)×(List Int)×Int×Int=>Z0_L2 g h e s.1 s.2.1 s.2.2.1 s.2.2.2) (g.Nodes,([]:List Int),(0:Int),(0:Int))=some (if (List.range h.Nodes.length).all (oL g h e) then .inr (mg g h h.Nodes.length) else .inl (⟨[],[]⟩,false)):=by
 refine iu h.Nodes.length (fun s:(List Node)×(List Int)×Int×Int=>Z0_L2 g h e s.1 s.2.1 s.2.2.1 s.2.2.2) (fun z=>((mg g h z.toNat).1,(mg g h z.toNat).2,((eG (iG h) z.toNat).length:Int),z)) (oL g h e) (.inl (⟨[],[]⟩,false)) (.inr (mg g h h.Nodes.length)) (fun k i=>?_) ?_
 ·have J:=ny g h k
  have D:=oK g h k
  have G:=kp (iG h) k
  have b:=B.Nodes.2 _ (bF i)
  have L:(ix h.Nodes (k:Int)).Dims.length≤1048576:=b.Dims
  have m:(ix h.Nodes (k:Int)).Args.length≤1048576:=b.Args
  simp only [Z0_L2,Int.toNat_natCast]
  rw [if_pos (by simp; omega),if_pos (by omega),pH b,aN]
  by_cases q:iG h k=true
  ·have j:((ix h.Nodes (k:Int)).Op==(1:Int))=true:=q
   have F:=(lA (p:=iG h) q i).1
   have M:=E _ (bF (xs:=g.Outs) (k:=(eG (iG h) k).length) (by omega))
   rw [if_pos j,if_pos (by omega),if_pos (by omega),pZ (by unfold cJ; omega),aN]
   unfold oL
   by_cases c:(ix h.Nodes (k:Int)).Dims=ix e (ix g.Outs ((eG (iG h) k).length:Int))
   ·rw [if_neg (by simp [c]),if_pos (by simp; omega),if_pos (by simp [c])]
    simp only [Z0_J5,mg,hD]
    rw [if_pos q,if_pos q,cA (by unfold cJ; omega),cA (by unfold cJ; omega)]
    simp
   ·rw [if_pos (by simp [c]),if_neg (by simp [c,q])]
  ·have j:¬ ((ix h.Nodes (k:Int)).Op==(1:Int))=true:=q
   rw [if_neg j,yA m (fun a h1=>by have:=hw k i a h1; omega),aN]
   unfold oL
   rw [if_pos (show (!(iG h k)||_)=true by simp [q])]
   simp only [Z0_J4,Z0_J5,mg,hD]
   rw [if_pos (by simp; omega),if_pos (by simp; omega),if_neg q,if_neg q,cA (by unfold cJ; omega)]
   rfl
 ·simp only [Z0_L2,Int.toNat_natCast]
  rw [if_neg (by simp)]
theorem mn {x:Node}(h:SmNode x):Z24 x=some x:=by
 have h1:x.Args.length≤1048576:=h.Args
 have h2:x.Dims.length≤1048576:=h.Dims
 have a:x.Ints.length≤1048576:=h.Ints
 have b:x.Data.length≤1048576:=h.Data
 unfold Z24
 rw [fO (by omega),aN,fO (by omega),aN,fO (by omega),aN,fO (by omega),aN]
theorem oM {a:Graph}(e:SmGraph a):Z31 a=some a:=by
 have h:a.Nodes.length≤1048576:=e.Nodes.1
 have j:a.Outs.length≤1048576:=e.Outs
 unfold Z31 Z0q
 rw [if_pos (by omega)]
 have:=kn a.Nodes zT65.z (fun s:(List Node)×Int=>Z0q_L1 a.Nodes s.1 s.2) (fun s i=>(s,i)) (fun ys k g b=>by
  show Z0q_L1 a.Nodes ys (k:Int)=_
  unfold Z0q_L1
  rw [if_pos (uu b),if_pos (m7 b),mn (e.Nodes.2 _ (bF b)),aN,if_pos (uv b),cA (by unfold cJ; omega),Int.toNat_natCast]) (fun ys _=>by
  show Z0q_L1 a.Nodes ys (a.Nodes.length:Int)=_
  unfold Z0q_L1; simp only [nq,Bool.false_eq_true,if_false])
 rw [this,aN]
 simp only [Z0q_J1]
 rw [aN,fO (by omega),aN]
theorem yB {xs to:List Int}(h:xs.length≤1048576)(hw:∀ a∈xs,0≤a∧a<(to.length:Int)):Z0r xs to=some (xs.map fun a=>ix to a):=by
 unfold Z0r
 rw [if_pos (by omega)]
 have:=kn (xs.map fun a=>ix to a) 0 (fun s:(List Int)×Int=>Z0r_L1 xs to s.1 s.2) (fun s i=>(s,i)) (fun ys k e b=>by
  rw [List.length_map] at b e
  have g:=hw _ (bF b)
  show Z0r_L1 xs to ys (k:Int)=_
  unfold Z0r_L1 Z39
  rw [if_pos (uu b),if_pos (m7 b),if_pos g,aN,if_pos (uv b),cA (by unfold cJ; omega),bV (xs:=xs.map fun a=>ix to a) (by simpa using b),List.getElem_map,bV (xs:=xs) b]; rfl) (fun ys _=>by
  rw [List.length_map]
  show Z0r_L1 xs to ys (xs.length:Int)=_
  unfold Z0r_L1; simp only [nq,Bool.false_eq_true,if_false])
 rw [List.length_map] at this
 rw [this]
 rfl
theorem yC {xs to:List Int}(h:xs.length≤1048576)(hw:∀ a∈xs,0≤a∧a<(to.length:Int)):Z0s xs to=some (xs.map fun a=>ix to a):=by
 unfold Z0s
 rw [if_pos (by omega)]
 have:=kn (xs.map fun a=>ix to a) 0 (fun s:(List Int)×Int=>Z0s_L1 xs to s.1 s.2) (fun s i=>(s,i)) (fun ys k e b=>by
  rw [List.length_map] at b e
  have g:=hw _ (bF b)
  show Z0s_L1 xs to ys (k:Int)=_
  unfold Z0s_L1 Z3a
  rw [if_pos (uu b),if_pos (m7 b),if_pos g,aN,if_pos (uv b),cA (by unfold cJ; omega),bV (xs:=xs.map fun a=>ix to a) (by simpa using b),List.getElem_map,bV (xs:=xs) b]; rfl) (fun ys _=>by
  rw [List.length_map]
  show Z0s_L1 xs to ys (xs.length:Int)=_
  unfold Z0s_L1; simp only [nq,Bool.false_eq_true,if_false])
 rw [List.length_map] at this
 rw [this]
 rfl
theorem Ci {g h:Graph}{gs a:List (List Int)}{E F:Bool}(T:h.Nodes.length≤200)(U:gs.length=g.Nodes.length)(Y:a.length=h.Nodes.length)(ho:∀ o∈g.Outs,0≤o∧o<(g.Nodes.length:Int))(G:∀ k:Nat,k<h.Nodes.length→iG h k=true→ix a (k:Int)=(ix h.Nodes (k:Int)).Dims)(l:∀ k:Nat,k<g.Nodes.length→(ix gs (k:Int)).length≤6)(J:g.Outs.length=(eG (iG h) h.Nodes.length).length) :
  aU (fun s:(List Int)×Int=>Z8_L1 g h (gs,E) (a,F) (eG (iG h) h.Nodes.length) s.1 s.2) ((List.replicate (h.Nodes.length:Int).toNat (0:Int)),(0:Int))=some (if (List.range h.Nodes.length).all (oL g h gs) then .inr (kH g (eG (iG h) h.Nodes.length) h.Nodes.length (eG (iG h) h.Nodes.length).length) else .inl (⟨[],[]⟩,false)):=by
 have a0:=kp (iG h) h.Nodes.length
 have u:=iu (eG (iG h) h.Nodes.length).length (fun s:(List Int)×Int=>Z8_L1 g h (gs,E) (a,F) (eG (iG h) h.Nodes.length) s.1 s.2) (fun z=>(kH g (eG (iG h) h.Nodes.length) h.Nodes.length z.toNat,z)) (fun i=>decide (ix gs (ix g.Outs (i:Int))=ix a (ix (eG (iG h) h.Nodes.length) (i:Int)))) (.inl ((⟨[],[]⟩:Graph),false)) (.inr (kH g (eG (iG h) h.Nodes.length) h.Nodes.length (eG (iG h) h.Nodes.length).length)) (fun i r=>by
  obtain ⟨m,B,D,L,j⟩:=lD r
  have Z:=ho _ (bF (xs:=g.Outs) (k:=i) (by omega))
  obtain ⟨o,b⟩:=Int.eq_ofNat_of_zero_le Z.1
  have O:=l o (by omega)
  simp only [Z8_L1,Int.toNat_natCast]
  rw [if_pos (by simp; omega),if_pos (by omega),if_pos (by omega),if_pos (by omega),j,if_pos (by omega),b,ri (by unfold cJ; omega),aN]
  by_cases c:ix gs (o:Int)=ix a (m:Int)
  ·rw [decide_eq_true c,if_neg (by simp),if_pos (by simp; omega),if_pos rfl,cA (by unfold cJ; omega)]
   simp only [kH]
   rw [j,b]
  ·rw [decide_eq_false c,if_pos (by simp),if_neg (by simp)]) (by
  simp only [Z8_L1,Int.toNat_natCast]
  rw [if_neg (by simp)])
 have e:(List.range (eG (iG h) h.Nodes.length).length).all (fun i=>decide (ix gs (ix g.Outs (i:Int))=ix a (ix (eG (iG h) h.Nodes.length) (i:Int))))=(List.range h.Nodes.length).all (oL g h gs):=by
  rw [Bool.eq_iff_iff]
  simp only [List.all_eq_true,List.mem_range,decide_eq_true_eq]
  constructor
  ·intro H k I
   unfold oL
   by_cases q:iG h k=true
   ·obtain ⟨a1,M⟩:=lA (p:=iG h) q I
    have:=H _ a1
    rw [M,G k I q] at this
    simp [q,this]
   ·simp [q]
  ·intro H i r
   obtain ⟨m,B,D,L,j⟩:=lD r
   have:=H m B
   unfold oL at this
   rw [D,L] at this
   rw [j,G m B D]
   simp at this
   exact this.symm
 rw [← e]
 exact u
theorem Cj {g h:Graph}(U:SmGraph h)(O:h.Nodes.length≤200)(T:g.Nodes.length≤200)(hw:∀ k:Nat,k<h.Nodes.length→∀ a∈(ix h.Nodes (k:Int)).Args,0≤a∧a<(k:Int)){to:List Int}(Z:to.length=h.Nodes.length)(hx:∀ k:Nat,k<h.Nodes.length→iG h k=true→ix to (k:Int)=ix g.Outs ((eG (iG h) k).length:Int)) :
  aU (fun s:(List Node)×(List Int)×Int=>Z8_L2 h s.1 s.2.1 s.2.2) (g.Nodes,to,(0:Int))=some (mg g h h.Nodes.length):=by
 obtain ⟨r,r1,r2⟩:=hO (f:=fun s:(List Node)×(List Int)×Int=>Z8_L2 h s.1 s.2.1 s.2.2) (s:=(g.Nodes,to,0))
  (fun k z=>z.2.2=(k:Int)∧z.1=(mg g h k).1∧z.2.1.length=h.Nodes.length∧∀ j:Nat,j<h.Nodes.length→(j<k∨iG h j=true)→ix z.2.1 (j:Int)=ix (mg g h h.Nodes.length).2 (j:Int)) h.Nodes.length
  (Post:=fun r=>r=mg g h h.Nodes.length)
  (fun k z J I=>by
   obtain ⟨xs,t,i⟩:=z
   obtain ⟨F,G,B,l⟩:=I
   dsimp only at F G B l
   subst F G
   have Y:=oK g h k
   have E:=U.Nodes.2 _ (bF J)
   have M:(ix h.Nodes (k:Int)).Args.length≤1048576:=E.Args
   by_cases q:iG h k=true
   ·have L:((ix h.Nodes (k:Int)).Op==(1:Int))=true:=q
    refine ⟨((mg g h k).1,t,((k+1:Nat):Int)),?_,rfl,?_,B,fun j b D=>?_⟩
    ·simp only [Z8_L2,Z8_J3]
     rw [if_pos (by simp; omega),if_pos (by omega),if_pos L,cA (by unfold cJ; omega)]
    ·simp only [mg]; rw [if_pos q]
    ·by_cases e:j=k
     ·subst e; exact l j b (.inr q)
     ·exact l j b (by rcases D with c | c; exact .inl (by omega); exact .inr c)
   ·have L:¬ ((ix h.Nodes (k:Int)).Op==(1:Int))=true:=q
    have u:(ix h.Nodes (k:Int)).Args.map (fun a=>ix t a)=(ix h.Nodes (k:Int)).Args.map (fun a=>ix (mg g h k).2 a):=List.map_congr_left fun a h1=>by
     have:=hw k J a h1
     obtain ⟨m,rfl⟩:=Int.eq_ofNat_of_zero_le this.1
     rw [l m (by omega) (.inl (by omega))]
     exact (wU g h (k:=k) (n:=h.Nodes.length) (by omega) (by omega)).symm
    refine ⟨((mg g h (k+1)).1,t.set k ((mg g h k).1.length:Int),((k+1:Nat):Int)),?_,rfl,rfl,by simpa using B,fun j b D=>?_⟩
    ·simp only [Z8_L2,Z8_J3]
     rw [if_pos (by simp; omega),if_pos (by omega),if_neg L,mn E,aN,yB M (fun a h1=>by have:=hw k J a h1; omega),aN,if_pos (by simp; omega),if_pos (by simp; omega),cA (by unfold cJ; omega),u,Int.toNat_natCast]
     simp only [mg]
     rw [if_neg q]
     rfl
    ·dsimp only
     by_cases e:k=j
     ·subst e
      rw [hR (by omega),rF g h b,if_neg q]
     ·rw [jG e]
      exact l j b (by rcases D with c | c; exact .inl (by omega); exact .inr c))
  (fun z I=>by
   obtain ⟨xs,t,i⟩:=z
   obtain ⟨F,G,B,l⟩:=I
   dsimp only at F G B l
   subst F G
   have e:t=(mg g h h.Nodes.length).2:=uG (by rw [B,ny]) fun j b=>l j (by omega) (.inl (by omega))
   subst e
   refine ⟨_,?_,rfl⟩
   simp only [Z8_L2]
   rw [if_neg (by simp)])
  ⟨rfl,rfl,Z,fun j b D=>by
   have q:=D.resolve_left (by omega)
   rw [rF g h b,if_pos q]
   exact hx j b q⟩
 rw [r1,r2]
theorem yD (xs:(List Node))(k:Nat)(h:kz xs)(r:k+kF eS xs≤BB):Z0t (jW xs k) (k:Int)=some ((k+kF eS xs:Nat):Int):=by
 obtain ⟨ys,u,E,B⟩:=m8 (U:=Int×Int) xs eS nv (fun s:(List Node)×Int×Int=>Z04_L1 xs s.1 s.2.1 s.2.2) (fun ys k i=>(ys,k,i)) (fun ys k i g D j l=>by
  show Z04_L1 xs ys (k:Int) (i:Int)=_
  have a:=h.2 _ (bF g)
  have b:i<ys.length:=by omega
  unfold eS at l
  unfold Z04_L1 nv eS
  generalize ix xs (i:Int)=x at *
  rw [if_pos (uu g),if_pos (m7 g),wi h.1 g]
  (try simp only [fY,Int.toNat_natCast,hR b,List.set_set,j])
  rw [wn (by omega)]
  (try simp only [fY,Int.toNat_natCast,hR b,List.set_set,j])
  rw [(fK _ _ a.Args (by omega)).1,aN]
  (try simp only [fY,Int.toNat_natCast,hR b,List.set_set,j])
  rw [(fK _ _ a.Dims (by omega)).1,aN]
  (try simp only [fY,Int.toNat_natCast,hR b,List.set_set,j])
  rw [(fK _ _ a.Ints (by omega)).1,aN]
  (try simp only [fY,Int.toNat_natCast,hR b,List.set_set,j])
  rw [qt,aN,wn (by omega)]
  (try simp only [fY,Int.toNat_natCast,hR b,List.set_set,j])
  rw [(fK _ _ a.Data (by omega)).1,aN]
  (try simp only [fY,Int.toNat_natCast,hR b,List.set_set,j])
  rw [show k+1+x.Args.length+x.Dims.length+x.Ints.length+1+x.Data.length=k+(1+x.Args.length+x.Dims.length+x.Ints.length+1+x.Data.length) by omega]) (fun ys k=>by
  show Z04_L1 xs ys k (xs.length:Int)=_
  unfold Z04_L1; simp only [nq,Bool.false_eq_true,if_false]) k r
 have e:Z04 xs (k:Int)=some (((k+kF eS xs:Nat):Int),ys):=by
  unfold Z04; rw [u,aN]; rfl
 have q:jW xs k=ys:=by unfold jW; rw [e]; rfl
 rw [q]
 unfold Z0t
 rw [B (fun s:Int×Int=>Z0t_L1 ys s.1 s.2) (fun k i=>(k,i)) (fun k i g l m=>by
  have a:=h.2 _ (bF g)
  unfold eS at l ⊢
  unfold nv at m
  show Z0t_L1 ys (k:Int) (i:Int)=_
  unfold Z0t_L1
  rw [if_pos (by simp; omega),if_pos (by omega),m]
  dsimp only
  rw [if_neg (by simp),wn (by omega),(fK _ _ a.Args (by omega)).2,aN,if_neg (by simp; omega),(fK _ _ a.Dims (by omega)).2,aN,if_neg (by simp; omega),(fK _ _ a.Ints (by omega)).2,aN,if_neg (by simp; omega),qt,aN,if_neg (by simp),wn (by omega),(fK _ _ a.Data (by omega)).2,aN,if_neg (by simp; omega),wi h.1 g]
  congr 3; omega) (fun k=>by
  show Z0t_L1 ys k (xs.length:Int)=_
  unfold Z0t_L1
  rw [if_neg (by simp; omega)])]
 rfl
theorem qx (x:Graph)(k:Nat)(h:SmGraph x)(e:k+(kF eS x.Nodes+x.Outs.length)≤BB):∃ a b,Z20 x (k:Int)=some (((k+kF eS x.Nodes+x.Outs.length:Nat):Int),a,b)∧Z2c ⟨a,b⟩ (k:Int)=some ((k+kF eS x.Nodes+x.Outs.length:Nat):Int):=by
 refine ⟨jW x.Nodes k,ux x.Outs (k+kF eS x.Nodes),?_,?_⟩
 ·unfold Z20
  rw [(qw x.Nodes (k) h.Nodes (by omega)),aN,(n' x.Outs (k+kF eS x.Nodes) h.Outs (by omega)).1,aN]
 ·unfold Z2c
  rw [yD _ _ h.Nodes (by omega),aN,if_neg (by simp; omega),(n' x.Outs (k+kF eS x.Nodes) h.Outs (by omega)).2,aN,if_neg (by simp; omega)]
theorem qy {x:Graph}(h:SmGraph x):kF eS x.Nodes+x.Outs.length≤1048576*8388608:=by
 have:=yz eS 4194306 x.Nodes (fun n a=>by
  have z:=h.Nodes.2 n a
  have b:n.Args.length≤1048576:=z.Args
  have e:n.Dims.length≤1048576:=z.Dims
  have z3:n.Ints.length≤1048576:=z.Ints
  have z4:n.Data.length≤1048576:=z.Data
  unfold eS; omega) h.Nodes.1
 have:x.Outs.length≤1048576:=h.Outs
 omega
theorem AZ {a:Graph}{b:List Tensor}{e:Bool}(h:e=true→b.length≤200)(h1:Za a [] true=some (b,e)):Z0v a=some (if e=true then b.map Tensor.Dims else []):=by
 unfold Z0v
 rw [h1,aN]
 cases e with
 | false =>
  rw [dB (f:=fun s:List (List Int)×Int=>Z0v_L1 (b,false) s.1 s.2) (r:=[]) (by simp only [Z0v_L1]; rw [if_neg (by simp)])]
  rfl
 | true =>
  have h:=h rfl
  rw [eR (f:=fun s:List (List Int)×Int=>Z0v_L1 (b,true) s.1 s.2) (s:=([],0)) (r:=b.map Tensor.Dims) (fun k=>((b.take k).map Tensor.Dims,(k:Int))) b.length (fun k g=>by
   simp only [Z0v_L1]
   rw [if_pos (by simp; omega),if_pos (by omega),if_pos (by simp; omega),cA (by unfold cJ; omega),List.take_succ_eq_append_getElem g,List.map_append,bV g]
   rfl) (by
   simp only [Z0v_L1]
   rw [if_neg (by simp),List.take_length]) rfl]
  rfl
theorem nz:SmGraph ⟨[],[]⟩:=⟨⟨Nat.zero_le _,fun x a=>by cases a⟩,Nat.zero_le _⟩
theorem yE {h:Graph}{to:List Int}(g:h.Outs.length≤1048576)(hw:∀ a∈h.Outs,0≤a∧a<(to.length:Int)):aU (fun s:(List Int)×Int=>Z0_L4 h to s.1 s.2) (([]:List Int),(0:Int))=some (h.Outs.map fun a=>ix to a):=by
 refine eR (f:=fun s:(List Int)×Int=>Z0_L4 h to s.1 s.2) (fun j=>((h.Outs.take j).map fun a=>ix to a,(j:Int))) h.Outs.length (fun j b=>?_) ?_ rfl
 ·have e:=hw _ (bF b)
  simp only [Z0_L4]
  rw [if_pos (by simp; omega),if_pos (by omega),if_pos e,if_pos (by simp; omega),cA (by unfold cJ; omega),List.take_succ_eq_append_getElem b,List.map_append,bV b]
  rfl
 ·simp only [Z0_L4]
  rw [if_neg (by simp),List.take_length]
theorem qz {g h:Graph}(E:SmGraph g)(r:SmGraph h):∃ x B,Z0 g h=some (x,B)∧Z8 g h=some (x,B)∧SmGraph x:=by
 obtain ⟨F,sh,B,h1,h2,h3⟩:=km (uF E)
 obtain ⟨G,uh,D,u1,u2,u3⟩:=km (uF r)
 have g1:Z0p g=some B:=by unfold Z0p; rw [h1]; rfl
 have g2:Z0p h=some D:=by unfold Z0p; rw [u1]; rfl
 unfold Z0 Z8
 rw [AZ (fun e=>by obtain ⟨_,T,_,_,a5,_⟩:=h3 e; omega) h1,aN,g1,aN,h2,aN,u2,aN]
 cases B with
 | false=>exact ⟨⟨[],[]⟩,false,rfl,rfl,nz⟩
 | true =>
  rw [show bT (!(!true)) (Z0p h)=Z0p h from rfl,g2,aN]
  cases D with
  | false=>exact ⟨⟨[],[]⟩,false,rfl,rfl,nz⟩
  | true =>
   obtain ⟨a1,T,a3,a4,a5,a6,U⟩:=h3 rfl
   obtain ⟨b1,b2,b3,Y,j,b6,Z⟩:=u3 rfl
   subst a1 b1
   have hi:Z00 h=some (eG (iG h) h.Nodes.length):=by
    unfold Z00
    rw [g2,aN,AW true (.inl j),aN]
    rfl
   have M:Z06 h=some (eG (iG h) h.Nodes.length):=AX j
   rw [show bT (!((!true)||(!true))) (Z00 h)=Z00 h from rfl,hi,aN,if_neg (show ¬ ((!true)||(!true))=true by simp),M,aN]
   by_cases hlen:g.Outs.length=(eG (iG h) h.Nodes.length).length
   ·have I:=(AY j Y).2
    have hw:∀ k:Nat,k<h.Nodes.length→∀ a∈(ix h.Nodes (k:Int)).Args,0≤a∧a<(k:Int):=fun k b=>(I k b).2
    have s:(F.map Tensor.Dims).length=g.Nodes.length:=by rw [List.length_map]; exact T
    have u:(G.map Tensor.Dims).length=h.Nodes.length:=by rw [List.length_map]; exact b2
    have hd:∀ k:Nat,k<h.Nodes.length→iG h k=true→ix (G.map Tensor.Dims) (k:Int)=(ix h.Nodes (k:Int)).Dims:=fun k b q=>by
     obtain ⟨_,_,m⟩:=Y k b
     have ht:=b3 _ (bF (xs:=G) (k:=k) (by omega))
     have O:(ix h.Nodes (k:Int)).Op=1:=by simpa [iG] using q
     rw [(ky (out:=G) (by omega) (by omega)).1]
     unfold Do at m
     rw [if_pos O] at m
     have a0:(ix h.Nodes (k:Int)).Dims.length≤1048576:=(r.Nodes.2 _ (bF b)).Dims
     obtain ⟨f1,f2⟩:=tT (ds:=(ix h.Nodes (k:Int)).Dims) (by unfold cJ; omega)
     by_cases o:eK (ix h.Nodes (k:Int)).Dims
     ·obtain ⟨d,d1,_⟩:=f1 o
      rw [d1] at m
      rw [← Option.some.inj m]
     ·rw [f2 o] at m
      rw [← Option.some.inj m] at ht
      have:=ht.l
      simp [pr] at this
    have L:∀ k:Nat,k<g.Nodes.length→(ix (F.map Tensor.Dims) (k:Int)).length≤6:=fun k b=>by
     rw [(ky (out:=F) (by omega) (by omega)).1]
     exact (a3 _ (bF (by omega))).d.1
    have e:((g.Outs.length:Int) != ((eG (iG h) h.Nodes.length).length:Int))=false:=by simp [hlen]
    have e2:¬ (((!true)||(!true))||((g.Outs.length:Int) != ((eG (iG h) h.Nodes.length).length:Int)))=true:=by rw [e]; simp
    have e3:¬ ((g.Outs.length:Int) != ((eG (iG h) h.Nodes.length).length:Int))=true:=by rw [e]; simp
    have e4:0≤(h.Nodes.length:Int)∧(h.Nodes.length:Int)≤140737488355328∧8*(h.Nodes.length:Int)≤281474976710656:=by omega
    rw [if_neg e2,if_neg e3,wl E,aN,oM E,aN,if_pos e4,Ci j s u U hd L hlen]
    simp only [Z0_J1,if_true]
    rw [Ch r j a5 s U hw hlen]
    by_cases c:(List.range h.Nodes.length).all (oL g h (F.map Tensor.Dims))=true
    ·rw [if_pos c,if_pos c,aN,aN]
     simp only [Z0_J6,Z8_J1]
     have a8:(eG (iG h) h.Nodes.length).length≤h.Nodes.length:=kp _ _
     rw [Cj r j a5 hw (m9 g _ _ _) (fun k b q=>pG b q (lA q b).1 (Nat.le_refl _)),aN,yE (by omega) (fun a J=>by rw [ny]; exact Z a J),aN]
     simp only [Z8_J4,Z0_J7]
     rw [yC (by omega) (fun a J=>by rw [ny]; exact Z a J),aN]
     have hx:SmGraph ⟨(mg g h h.Nodes.length).1,h.Outs.map fun a=>ix (mg g h h.Nodes.length).2 a⟩:=by
      refine ⟨⟨?_,wV E r (Nat.le_refl _)⟩,?_⟩
      ·have:=oK g h h.Nodes.length
       show (mg g h h.Nodes.length).1.length≤_
       omega
      ·show (List.map _ _).length≤_
       rw [List.length_map]; omega
     obtain ⟨vs,vh,i,v1,v2,v3⟩:=km (uF hx)
     have g3:Z0p ⟨(mg g h h.Nodes.length).1,h.Outs.map fun a=>ix (mg g h h.Nodes.length).2 a⟩=some i:=by unfold Z0p; rw [v1]; rfl
     have g4:Z2s ⟨(mg g h h.Nodes.length).1,h.Outs.map fun a=>ix (mg g h h.Nodes.length).2 a⟩=some i:=by unfold Z2s; rw [v2]; rfl
     rw [g3,g4]
     cases i with
     | false=>exact ⟨⟨[],[]⟩,false,rfl,rfl,nz⟩
     | true=>exact ⟨_,true,rfl,rfl,hx⟩
    ·rw [if_neg c,if_neg c]
     exact ⟨⟨[],[]⟩,false,rfl,rfl,nz⟩
   ·have e:((g.Outs.length:Int) != ((eG (iG h) h.Nodes.length).length:Int))=true:=by
     simp; omega
    rw [if_pos (by rw [e]; rfl),if_pos e]
    exact ⟨⟨[],[]⟩,false,rfl,rfl,nz⟩
theorem se (a b:Graph)(D:Cap25 a)(j:Cap25 b):Z3g a b=some true:=by
 unfold Z3g
 rw [nx D (by omega) (by omega),aN]
 by_cases h:gC (iJ a) 1048576<0
 ·rw [if_pos (by simpa using h)]
 ·have hw:iJ a≤1048576∧gC (iJ a) 1048576=1048576 - (iJ a:Int):=by
   unfold gC at h ⊢
   split at h
   ·exact absurd (by omega) h
   ·rename_i q; rw [if_neg q]; exact ⟨by omega,rfl⟩
  have e:=AV h
  rw [if_neg (by simpa using h),nx j (by rw [hw.2]; omega) (by rw [hw.2]; omega),aN]
  by_cases h2:gC (iJ b) (gC (iJ a) 1048576)<0
  ·rw [if_pos (by simpa using h2)]
  ·have l:iJ b≤1048576:=by
    rw [hw.2] at h2
    unfold gC at h2
    split at h2<;>omega
   have g:=nw l
   obtain ⟨x,T,k1,m,i⟩:=qz e g
   have B:((1:Nat):Int)=1:=rfl
   have G:=qy e
   have I:=qy i
   have J:=qy g
   obtain ⟨L,o1,r,_⟩:=qx a 1 e (by unfold BB; omega)
   obtain ⟨M,o2,E,_⟩:=qx b (1+kF eS a.Nodes+a.Outs.length) g (by unfold BB; omega)
   obtain ⟨O,o3,s,u⟩:=qx x 1 i (by unfold BB; omega)
   rw [B] at r s u
   have F:∀ n:Nat,decide (((n:Nat):Int)<0)=false:=fun n=>by simp
   rw [if_neg (by simpa using h2),pF a e,aN,pF b g,aN,k1,aN,aN,aN,m,aN,ko x i,aN,if_neg (by simp),aN,ko a e,aN,if_neg (by simp),aN,ko b g,aN,if_neg (by simp),r,aN]
   dsimp only
   rw [E,aN]
   simp only [F,Bool.not_false,Cf,aN,Bool.not_true,Bool.false_or,Bool.or_false,beq_self_eq_true,ko x i]
   rw [if_neg (by simp),s,aN]
   dsimp only
   rw [u,aN,if_neg (by simp; omega),if_neg (by simp),m,aN,ko x i,aN,if_neg (by simp),aN,if_neg (by simp; omega),if_neg (by simp)]
end Go.Proofs.YthelanpdjajnbaaGreat
