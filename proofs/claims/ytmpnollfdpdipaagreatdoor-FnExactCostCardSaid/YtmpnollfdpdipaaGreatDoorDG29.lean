import Derived.Test.YtmpnollfdpdipaaGreatDoorDG13
import Derived.Test.YtmpnollfdpdipaaGreatDoorCoF
import Derived.Test.YtmpnollfdpdipaaGreatDoorPL1
set_option linter.unusedVariables false
set_option linter.unusedSimpArgs false
namespace Go.Proofs.YtmpnollfdpdipaaGreatDoor
open Go Go.Pg
theorem tg {c:UInt8}(h:97≤c.toNat∧c.toNat≤122):IntKind.wrap .u8 ((c.toNat:Int) - 97)=(c.toNat:Int) - 97:=by
 unfold IntKind.wrap
 simp [IntKind.bits,IntKind.signed]
 omega
theorem qu {g:aN}{k:Nat}(h:k<g.length):sub g (k:Int) ((k+1:Nat):Int)=[ix g (k:Int)]:=by
 unfold sub
 rw [Int.toNat_natCast,Int.toNat_natCast,List.take_succ_eq_append_getElem h,List.drop_append_of_le_length (by simp; omega),bQ h]
 simp
theorem xv {gs:List aN}{dss:List (List Int)}{b:List aN×aN×Bool}{x:Nat}(I:b.1=gs)(Z:x<gs.length)(u:LT (ix gs (x:Int))){m:Nat}(Y:m≤100){s:aN×List Int}(h1:s.1.length≤m)(h2:s.2.length=26)(D:(ix gs (x:Int)).length=(ix dss (x:Int)).length) :
  (∃ s',lq (ix gs (x:Int)) (ix dss (x:Int)) s=some s'∧aQ (fun s:aN×List Int×Int=>Z0_L2 dss b (x:Int) s.1 s.2.1 s.2.2) (s.1,s.2,0)=some (.inr (s'.1,s'.2))∧s'.1.length≤m+6∧s'.2.length=26) ∨
  (lq (ix gs (x:Int)) (ix dss (x:Int)) s=none∧∃ e,aQ (fun s:aN×List Int×Int=>Z0_L2 dss b (x:Int) s.1 s.2.1 s.2.2) (s.1,s.2,0)=some (.inl e)∧e.2=false):=by
 obtain ⟨g,l⟩:∃ g,g=ix gs (x:Int):=⟨_,rfl⟩
 obtain ⟨ds,h⟩:∃ ds,ds=ix dss (x:Int):=⟨_,rfl⟩
 have a:ix b.1 (x:Int)=g:=by rw [I,l]
 rw [← l] at u D ⊢
 rw [← h] at D ⊢
 unfold lq
 rw [if_pos D]
 rcases jh (f:=fun s:aN×List Int×Int=>Z0_L2 dss b (x:Int) s.1 s.2.1 s.2.2) (fun s k=>kX s (ix g (k:Int)) (ix ds (k:Int))) (fun s i=>(s.1,s.2,i)) (fun s=>(s.1,s.2)) (fun e=>e.2=false) (fun j s=>s.1.length≤m+j∧s.2.length=26) g.length
  (fun j s F E=>by
   obtain ⟨i1,T⟩:=E
   have J:=u.2 _ (bE F)
   have L:=u.1
   have B:bt g (j:Int)=((ix g (j:Int)).toNat:Int):=rfl
   simp only [Z0_L2]
   rw [a,← h,if_pos (by simp; omega),if_pos (by omega),B,tg J,if_pos (by omega),if_pos (fun _=>by omega)]
   show (∃ s',kX s _ _=_∧_)∨_
   unfold kX
   by_cases c:lk s.2 (ix g (j:Int))≠0∧lk s.2 (ix g (j:Int))≠ix ds (j:Int)
   ·rw [if_pos c,if_pos (by unfold lk at c; simpa using c)]
    exact .inr ⟨rfl,_,rfl,rfl⟩
   ·rw [if_neg c]
    obtain ⟨r,U,G⟩:=nL s.1 (ix g (j:Int))
    have O:((((ix g (j:Int)).toNat:Int) - 97)).toNat=(ix g (j:Int)).toNat - 97:=by omega
    have M:¬ (((ix s.2 (((ix g (j:Int)).toNat:Int) - 97)) != 0)&&((ix s.2 (((ix g (j:Int)).toNat:Int) - 97)) != (ix ds (j:Int))))=true:=by
     unfold lk at c; simpa using c
    refine .inl ⟨_,rfl,?_,?_,by simpa using T⟩
    ·rw [if_neg M,if_pos (by omega)]
     simp only [nm,Option.bind_some]
     rw [U,O]
     simp only [Option.bind_some]
     by_cases q:ix g (j:Int)∈s.1
     ·rw [if_neg (by simp; have:¬ r<0:=fun z=>G.1 z q; omega),if_pos q]
      simp only [Z0_J5]
      rw [bU (by unfold bY; omega)]
     ·rw [if_pos (decide_eq_true (G.2 q)),bU (by unfold bY; omega),if_pos (by omega),qu F,if_pos (by simp; omega),if_neg q]
      simp only [Z0_J5]
      rw [bU (by unfold bY; omega)]
    ·by_cases q:ix g (j:Int)∈s.1
     ·simp only [if_pos q]; omega
     ·simp only [if_neg q]; simp; omega)
  (fun s E=>by
   simp only [Z0_L2]
   rw [a,if_neg (by simp)])
  (s:=s) ⟨by omega,h2⟩ with ⟨s',a1,a2,a3,a4⟩|⟨a1,e,a2,a3⟩
 ·have:=u.1
  exact .inl ⟨s',a1,a2,by omega,a4⟩
 ·exact .inr ⟨a1,e,a2,a3⟩
theorem th {gs:List aN}{dss:List (List Int)}{b:List aN×aN×Bool}(l:b.1=gs)(F:gs.length≤6)(u:∀ g∈gs,LT g)(E:gs.length=dss.length){s:aN×List Int}(h1:s.1.length≤6)(h2:s.2.length=26) :
  (∃ s',mX gs dss s=some s'∧aQ (fun s:aN×List Int×Int=>Z0_L1 dss b s.1 s.2.1 s.2.2) (s.1,s.2,0)=some (.inr (s'.1,s'.2))∧s'.1.length≤42∧s'.2.length=26) ∨
  (mX gs dss s=none∧∃ e,aQ (fun s:aN×List Int×Int=>Z0_L1 dss b s.1 s.2.1 s.2.2) (s.1,s.2,0)=some (.inl e)∧e.2=false):=by
 unfold mX
 rcases jh (f:=fun s:aN×List Int×Int=>Z0_L1 dss b s.1 s.2.1 s.2.2) (fun s k=>lq (ix gs (k:Int)) (ix dss (k:Int)) s) (fun s i=>(s.1,s.2,i)) (fun s=>(s.1,s.2)) (fun e=>e.2=false) (fun j s=>s.1.length≤6+6*j∧s.2.length=26) gs.length
  (fun j s r q=>by
   obtain ⟨B,D⟩:=q
   simp only [Z0_L1]
   rw [l,if_pos (by simp; omega),if_pos (by omega),if_pos (by omega)]
   by_cases c:(ix gs (j:Int)).length=(ix dss (j:Int)).length
   ·rw [if_neg (by simp; omega)]
    rcases xv (m:=6+6*j) l r (u _ (bE r)) (by omega) B D c with ⟨s',a,h,a3,a4⟩|⟨a,e,h,a3⟩
    ·rw [h]
     refine .inl ⟨s',a,?_,by omega,a4⟩
     simp only [Option.bind_some,Z0_J6]
     rw [bU (by unfold bY; omega)]
    ·rw [h]
     exact .inr ⟨a,e,rfl,a3⟩
   ·rw [if_pos (by simp; omega)]
    refine .inr ⟨by unfold lq; rw [if_neg c],_,rfl,rfl⟩)
  (fun s q=>by
   simp only [Z0_L1]
   rw [l,if_neg (by simp)])
  (s:=s) ⟨by omega,h2⟩ with ⟨s',a,h,a3,a4⟩|⟨a,e,h,a3⟩
 ·exact .inl ⟨s',a,h,by omega,a4⟩
 ·exact .inr ⟨a,e,h,a3⟩
theorem tj:∀ {f:aN} {c:UInt8} {j:Nat},j<f.idxOf c→∀ h:j<f.length,f[j]≠c
 | [],_,_,_,h=>by simp at h
 | b::l,c,j,hj,h=>by
  rw [List.idxOf_cons] at hj
  cases e:b==c with
  | true=>rw [e] at hj; simp at hj
  | false =>
   rw [e] at hj
   cases j with
   | zero=>simpa using e
   | succ j=>exact tj (f:=l) (by simp at hj; omega) (by simpa using h)
theorem xw {gs:List aN}{k i:Nat}{f:aN}(m:f.length<bY)(r:i<(ix gs (k:Int)).length):aQ (fun s:Int=>Z3_L3 gs (k:Int) f (i:Int) s) 0=some ((f.idxOf (ix (ix gs (k:Int)) (i:Int)):Nat):Int):=by
 obtain ⟨c,g⟩:∃ c,c=ix (ix gs (k:Int)) (i:Int):=⟨_,rfl⟩
 rw [← g]
 have l:f.idxOf c≤f.length:=List.idxOf_le_length
 have a:bt (ix gs (k:Int)) (i:Int)=(c.toNat:Int):=by rw [g]; rfl
 have e:∀ j:Nat,(bt f (j:Int) != (c.toNat:Int))=!decide (ix f (j:Int)=c):=by
  intro j
  have:(bt f (j:Int)==(c.toNat:Int))=decide (ix f (j:Int)=c):=kU
  unfold bne; rw [this]
 refine eH (f:=fun s:Int=>Z3_L3 gs (k:Int) f (i:Int) s) (fun j=>(j:Int)) (f.idxOf c) (fun j h=>?_) ?_ rfl
 ·have b:j<f.length:=by omega
  simp only [Z3_L3]
  rw [if_pos (fun _=>by omega),if_pos (fun _=>by omega),a,e,bU (by omega),if_pos]
  have:ix f (j:Int)≠c:=by
   rw [bQ b]; exact tj h b
  simp [this]; omega
 ·simp only [Z3_L3]
  rw [if_pos (fun z=>by simp at z; omega),if_pos (fun _=>by omega),a,e,if_neg]
  by_cases q:f.idxOf c<f.length
  ·have:ix f ((f.idxOf c:Nat):Int)=c:=by rw [bQ q]; exact List.getElem_idxOf q
   simp [this]
  ·simp; omega
theorem lr {lens:List Int}(h:lens.length=26){c a:UInt8}(g:97≤c.toNat∧c.toNat≤122)(b:97≤a.toNat∧a.toNat≤122)(d:Int):lk (lens.set (c.toNat - 97) d) a=if a=c then d else lk lens a:=by
 unfold lk
 have e:((a.toNat:Int) - 97)=((a.toNat - 97:Nat):Int):=by omega
 rw [e,bQ (by simp; omega),List.getElem_set]
 by_cases q:a=c
 ·rw [if_pos q,if_pos (by rw [q])]
 ·have:a.toNat≠c.toNat:=fun z=>q (UInt8.toNat_inj.1 z)
  rw [if_neg q,if_neg (by omega),bQ (by omega)]
theorem qv:∀ {f:aN} {c:UInt8} {g h:UInt8→Int} {d:Int},f.Nodup→c∈f→h c=d→(∀ x∈f,x≠c→h x=g x)→(f.map g).set (f.idxOf c) d=f.map h
 | [],_,_,_,_,_,hm,_,_=>by simp at hm
 | b::l,c,g,h,d,hn,hm,h1,h2=>by
  rw [List.nodup_cons] at hn
  rw [List.idxOf_cons]
  by_cases q:b=c
  ·subst q
   simp only [beq_self_eq_true,cond_true,List.map_cons,List.set_cons_zero,h1]
   congr 1
   apply List.map_congr_left
   intro x a
   exact (h2 x (List.mem_cons_of_mem _ a) (fun z=>hn.1 (z▸a))).symm
  ·have e:(b==c)=false:=by simpa using q
   have i:c∈l:=by
    rcases List.mem_cons.1 hm with z | z
    ·exact absurd z.symm q
    ·exact z
   rw [e]
   simp only [cond_false,List.map_cons,List.set_cons_succ]
   rw [qv hn.2 i h1 (fun x a j=>h2 x (List.mem_cons_of_mem _ a) j),h2 b (List.mem_cons_self ..) q]
structure IS (s:aN×List Int):Prop where
 l:s.2.length=26
 n:s.1.Nodup
 c:∀ c∈s.1,97≤c.toNat∧c.toNat≤122
 z:∀ c:UInt8,97≤c.toNat→c.toNat≤122→c ∉ s.1→lk s.2 c=0
theorem qw {s s':aN×List Int}{c:UInt8}{d:Int}(e:IS s)(i:97≤c.toNat∧c.toNat≤122)(h:kX s c d=some s'):IS s'∧s'.1.length≤s.1.length+1:=by
 unfold kX at h
 split at h
 ·cases h
 ·cases h
  by_cases q:c∈s.1
  ·simp only [if_pos q]
   refine ⟨⟨by simpa using e.l,e.n,e.c,fun x h1 h2 g=>?_⟩,by omega⟩
   rw [lr e.l i ⟨h1,h2⟩,if_neg (fun z=>g (by rw [z]; exact q))]
   exact e.z x h1 h2 g
  ·simp only [if_neg q]
   refine ⟨⟨by simpa using e.l,?_,?_,fun x h1 h2 g=>?_⟩,by simp⟩
   ·rw [List.nodup_append]
    refine ⟨e.n,by simp,?_⟩
    intro a m b j
    simp at j; subst j
    exact fun z=>q (z▸m)
   ·intro x r
    rcases List.mem_append.1 r with z | z
    ·exact e.c x z
    ·simp at z; rw [z]; exact i
   ·simp at g
    rw [lr e.l i ⟨h1,h2⟩,if_neg g.2]
    exact e.z x h1 h2 g.1
theorem pC {f:aN}{g:UInt8→Int}{p:Nat}(h:p<f.length):ix (f.map g) (p:Int)=g f[p]:=by
 rw [bQ (by simpa using h)]; simp
theorem tl {gs:List aN}{dss:List (List Int)}{x j:Nat}{s:aN×List Int}(B:IS s)(J:s.1.length≤100)(Z:j<(ix gs (x:Int)).length)(hl:(ix gs (x:Int)).length=(ix dss (x:Int)).length)(h6:(ix gs (x:Int)).length≤6)(g:97≤(ix (ix gs (x:Int)) (j:Int)).toNat∧(ix (ix gs (x:Int)) (j:Int)).toNat≤122) :
  (∃ s',kX s (ix (ix gs (x:Int)) (j:Int)) (ix (ix dss (x:Int)) (j:Int))=some s'∧Z3_L2 gs dss (x:Int) s.1 (s.1.map (lk s.2)) (j:Int)=some (.inl (s'.1,s'.1.map (lk s'.2),((j+1:Nat):Int)))) ∨
  (kX s (ix (ix gs (x:Int)) (j:Int)) (ix (ix dss (x:Int)) (j:Int))=none∧∃ e,Z3_L2 gs dss (x:Int) s.1 (s.1.map (lk s.2)) (j:Int)=some (.inr (.inl e))∧e.2.2=false):=by
 obtain ⟨c,m⟩:∃ c,c=ix (ix gs (x:Int)) (j:Int):=⟨_,rfl⟩
 obtain ⟨d,Y⟩:∃ d,d=ix (ix dss (x:Int)) (j:Int):=⟨_,rfl⟩
 rw [← m] at g ⊢
 rw [← Y]
 have F:=xw (gs:=gs) (k:=x) (i:=j) (f:=s.1) (by unfold bY; omega) Z
 rw [← m] at F
 simp only [Z3_L2]
 rw [if_pos (by simp; omega),F]
 simp only [Option.bind_some]
 have T:∀ (f:aN) (ls:List Int),f.Nodup→c∈f→s.1.idxOf c=f.idxOf c→ls=f.map (lk s.2)→(∀ y∈f,97≤y.toNat∧y.toNat≤122) →
   Z3_J9 dss (x:Int) (j:Int) ((s.1.idxOf c:Nat):Int) f ls=if lk s.2 c≠0∧lk s.2 c≠d then some (.inr (.inl ([],ls,false))) else some (.inl (f,f.map (lk (s.2.set (c.toNat - 97) d)),((j+1:Nat):Int))):=by
  intro f ls hn J hi u r
  have D:f.idxOf c<f.length:=List.idxOf_lt_length_iff.2 J
  have e:ix ls ((f.idxOf c:Nat):Int)=lk s.2 c:=by
   rw [u,pC D]; congr 1; exact List.getElem_idxOf D
  have a0:ls.length=f.length:=by rw [u]; simp
  unfold Z3_J9
  rw [hi,e,← Y,if_pos (by omega),if_pos (fun _=>by omega)]
  by_cases q:lk s.2 c≠0∧lk s.2 c≠d
  ·rw [if_pos q,if_pos (by simpa using q)]
  ·rw [if_neg q,if_neg (by simpa using q),if_pos (by omega),bU (by unfold bY; omega),Int.toNat_natCast,u,qv hn J (h:=lk (s.2.set (c.toNat - 97) d))]
   ·rw [lr B.l g g,if_pos rfl]
   ·intro y M O
    rw [lr B.l g (r y M),if_neg O]
 have R:∀ f,(if c∈s.1 then s.1 else s.1++[c])=f→(∀ z,z=(if lk s.2 c≠0∧lk s.2 c≠d then some (.inr (.inl ([],f.map (lk s.2),false))) else some (.inl (f,f.map (lk (s.2.set (c.toNat - 97) d)),((j+1:Nat):Int))):Option ((aN×(List Int)×Int)⊕((aN×(List Int)×Bool)⊕(aN×(List Int))))) →
   (∃ s',kX s c d=some s'∧z=some (.inl (s'.1,s'.1.map (lk s'.2),((j+1:Nat):Int))))∨(kX s c d=none∧∃ e,z=some (.inr (.inl e))∧e.2.2=false)):=by
  intro f F z G
  unfold kX
  by_cases q:lk s.2 c≠0∧lk s.2 c≠d
  ·rw [if_pos q] at G ⊢
   exact .inr ⟨rfl,_,G,rfl⟩
  ·rw [if_neg q] at G ⊢
   rw [F]
   exact .inl ⟨_,rfl,G⟩
 unfold Z3_J8
 by_cases q:c∈s.1
 ·have D:s.1.idxOf c<s.1.length:=List.idxOf_lt_length_iff.2 q
  rw [if_neg (by simp; omega),T s.1 _ B.n q rfl rfl B.c]
  exact R s.1 (if_pos q) _ rfl
 ·have D:s.1.idxOf c=s.1.length:=by
   have:¬ s.1.idxOf c<s.1.length:=fun z=>q (List.idxOf_lt_length_iff.1 z)
   have:s.1.idxOf c≤s.1.length:=List.idxOf_le_length
   omega
  have I:(s.1++[c]).idxOf c=s.1.length:=by
   rw [List.idxOf_append,if_neg q]; simp
  have L:(s.1++[c]).Nodup:=by
   rw [List.nodup_append]
   refine ⟨B.n,by simp,?_⟩
   intro a ha b U
   simp at U; subst U
   exact fun z=>q (z▸ha)
  have r:∀ y∈s.1++[c],97≤y.toNat∧y.toNat≤122:=by
   intro y M
   rcases List.mem_append.1 M with z | z
   ·exact B.c y z
   ·simp at z; rw [z]; exact g
  have E:s.1.map (lk s.2)++[0]=(s.1++[c]).map (lk s.2):=by
   rw [List.map_append]; simp [B.z c g.1 g.2 q]
  rw [if_pos (by rw [D]; simp),bU (by unfold bY; omega),if_pos (by omega),qu Z,← m,if_pos (by simp; omega),if_pos (by simp; omega),T (s.1++[c]) _ L (by simp) (by rw [D,I]) E r,E]
  exact R _ (if_neg q) _ rfl
theorem xx {gs:List aN}{dss:List (List Int)}{x:Nat}(l:LT (ix gs (x:Int))){m:Nat}(G:m≤90){s:aN×List Int}(h1:s.1.length≤m)(E:IS s)(u:(ix gs (x:Int)).length=(ix dss (x:Int)).length) :
  (∃ s',lq (ix gs (x:Int)) (ix dss (x:Int)) s=some s'∧aQ (fun s:aN×List Int×Int=>Z3_L2 gs dss (x:Int) s.1 s.2.1 s.2.2) (s.1,s.1.map (lk s.2),0)=some (.inr (s'.1,s'.1.map (lk s'.2)))∧s'.1.length≤m+6∧IS s') ∨
  (lq (ix gs (x:Int)) (ix dss (x:Int)) s=none∧∃ e,aQ (fun s:aN×List Int×Int=>Z3_L2 gs dss (x:Int) s.1 s.2.1 s.2.2) (s.1,s.1.map (lk s.2),0)=some (.inl e)∧e.2.2=false):=by
 unfold lq
 rw [if_pos u]
 have D:=l.1
 rcases jh (f:=fun s:aN×List Int×Int=>Z3_L2 gs dss (x:Int) s.1 s.2.1 s.2.2) (fun s k=>kX s (ix (ix gs (x:Int)) (k:Int)) (ix (ix dss (x:Int)) (k:Int))) (fun s i=>(s.1,s.1.map (lk s.2),i)) (fun s=>(s.1,s.1.map (lk s.2))) (fun e=>e.2.2=false) (fun j s=>s.1.length≤m+j∧IS s) (ix gs (x:Int)).length
  (fun j s r g=>by
   have h:=l.2 _ (bE r)
   rcases tl g.2 (by have:=g.1; omega) r u D h with ⟨s',a,b⟩ | q
   ·obtain ⟨B,F⟩:=qw g.2 h a
    exact .inl ⟨s',a,b,by have:=g.1; omega,B⟩
   ·exact .inr q)
  (fun s g=>by
   simp only [Z3_L2]
   rw [if_neg (by simp)])
  (s:=s) ⟨by omega,E⟩ with ⟨s',a,b,a3,a4⟩|⟨a,e,b,a3⟩
 ·exact .inl ⟨s',a,b,by omega,a4⟩
 ·exact .inr ⟨a,e,b,a3⟩
theorem tm {gs:List aN}{dss:List (List Int)}(E:gs.length≤6)(l:∀ g∈gs,LT g)(D:gs.length=dss.length){s:aN×List Int}(h1:s.1.length≤6)(r:IS s) :
  (∃ s',mX gs dss s=some s'∧aQ (fun s:aN×List Int×Int=>Z3_L1 gs dss s.1 s.2.1 s.2.2) (s.1,s.1.map (lk s.2),0)=some (.inr (s'.1,s'.1.map (lk s'.2)))∧s'.1.length≤42∧IS s') ∨
  (mX gs dss s=none∧∃ e,aQ (fun s:aN×List Int×Int=>Z3_L1 gs dss s.1 s.2.1 s.2.2) (s.1,s.1.map (lk s.2),0)=some (.inl e)∧e.2.2=false):=by
 unfold mX
 rcases jh (f:=fun s:aN×List Int×Int=>Z3_L1 gs dss s.1 s.2.1 s.2.2) (fun s k=>lq (ix gs (k:Int)) (ix dss (k:Int)) s) (fun s i=>(s.1,s.1.map (lk s.2),i)) (fun s=>(s.1,s.1.map (lk s.2))) (fun e=>e.2.2=false) (fun j s=>s.1.length≤6+6*j∧IS s) gs.length
  (fun j s q h=>by
   obtain ⟨u,B⟩:=h
   simp only [Z3_L1]
   rw [if_pos (by simp; omega),if_pos (by omega),if_pos (by omega)]
   by_cases c:(ix gs (j:Int)).length=(ix dss (j:Int)).length
   ·rw [if_neg (by simp; omega)]
    rcases xx (m:=6+6*j) (l _ (bE q)) (by omega) u B c with ⟨s',a,b,a3,a4⟩|⟨a,e,b,a3⟩
    ·rw [b]
     refine .inl ⟨s',a,?_,by omega,a4⟩
     simp only [Option.bind_some,Z3_J10]
     rw [bU (by unfold bY; omega)]
    ·rw [b]
     exact .inr ⟨a,e,rfl,a3⟩
   ·rw [if_pos (by simp; omega)]
    refine .inr ⟨by unfold lq; rw [if_neg c],_,rfl,rfl⟩)
  (fun s h=>by
   simp only [Z3_L1]
   rw [if_neg (by simp)])
  (s:=s) ⟨by omega,r⟩ with ⟨s',a,b,a3,a4⟩|⟨a,e,b,a3⟩
 ·exact .inl ⟨s',a,b,by omega,a4⟩
 ·exact .inr ⟨a,e,b,a3⟩
theorem nM {S:Type}{st:S→Nat→Option S}(I:Nat→S→Prop){s:S}(a:I 0 s):∀ (n:Nat),(∀ j s s',j<n→I j s→st s j=some s'→I (j+1) s')→∀ {s':S},pB st n s=some s'→I n s'
 | 0,_,s',h=>by cases h; exact a
 | n+1,hs,s',h=>by
  rw [pB] at h
  obtain ⟨m,h1,h2⟩:=bd h
  exact hs n m s' (by omega) (nM I a n (fun j s s' b=>hs j s s' (by omega)) h1) h2
structure Ext (s s':aN×List Int):Prop where
 i:IS s'
 p:∃ t,s'.1=s.1++t
 k:∀ c:UInt8,97≤c.toNat→c.toNat≤122→lk s.2 c≠0→lk s'.2 c=lk s.2 c
theorem Ext.rfl_ {s:aN×List Int}(h:IS s):Ext s s:=⟨h,⟨[],by simp⟩,fun _ _ _ _=>rfl⟩
theorem Ext.trans {a b c:aN×List Int}(h1:Ext a b)(h2:Ext b c):Ext a c:=by
 obtain ⟨t,e⟩:=h1.p
 obtain ⟨u,g⟩:=h2.p
 refine ⟨h2.i,⟨t++u,by rw [g,e,List.append_assoc]⟩,fun x a b h=>?_⟩
 have:=h1.k x a b h
 rw [h2.k x a b (by rw [this]; exact h),this]
theorem tn {s s':aN×List Int}{c:UInt8}{d:Int}(j:IS s)(g:97≤c.toNat∧c.toNat≤122)(h:kX s c d=some s'):Ext s s'∧c∈s'.1∧lk s'.2 c=d∧∀ x∈s'.1,x∈s.1∨x=c:=by
 have u:=(qw j g h).1
 unfold kX at h
 split at h
 ·cases h
 ·rename_i q
  cases h
  refine ⟨⟨u,?_,fun x a b r=>?_⟩,?_,?_,?_⟩
  ·by_cases m:c∈s.1
   ·exact ⟨[],by simp [m]⟩
   ·exact ⟨[c],by simp [m]⟩
  ·show lk (s.2.set _ _) x=_
   rw [lr j.l g ⟨a,b⟩]
   by_cases e:x=c
   ·subst e
    rw [if_pos rfl]
    exact Classical.byContradiction fun z=>q ⟨r,fun w=>z w.symm⟩
   ·rw [if_neg e]
  ·by_cases m:c∈s.1<;>simp [m]
  ·show lk (s.2.set _ _) c=_
   rw [lr j.l g g,if_pos rfl]
  ·intro x i
   by_cases m:c∈s.1
   ·simp only [if_pos m] at i; exact .inl i
   ·simp only [if_neg m] at i; simpa using i
theorem tp {g:aN}{ds:List Int}{s s':aN×List Int}(M:IS s)(E:LT g)(J:∀ d∈ds,d≠0)(h:lq g ds s=some s') :
  Ext s s'∧g.length=ds.length∧(∀ j:Nat,j<g.length→ix g (j:Int)∈s'.1∧lk s'.2 (ix g (j:Int))=ix ds (j:Int))∧∀ x∈s'.1,x∈s.1∨x∈g:=by
 unfold lq at h
 split at h
 ·rename_i L
  obtain ⟨a,b,c⟩:=nM (fun n z=>Ext s z∧(∀ j:Nat,j<n→ix g (j:Int)∈z.1∧lk z.2 (ix g (j:Int))=ix ds (j:Int))∧∀ x∈z.1,x∈s.1∨x∈g) ⟨Ext.rfl_ M,fun j F=>absurd F (Nat.not_lt_zero _),fun x B=>.inl B⟩ g.length
   (fun n z U G I T=>by
    obtain ⟨a,b,c⟩:=I
    obtain ⟨p,q,r,t⟩:=tn a.i (E.2 _ (bE G)) T
    refine ⟨a.trans p,fun j F=>?_,fun x B=>?_⟩
    ·by_cases e:j=n
     ·subst e; exact ⟨q,r⟩
     ·obtain ⟨m,l⟩:=b j (by omega)
      obtain ⟨u,O⟩:=p.p
      have D:=E.2 _ (bE (show j<g.length by omega))
      refine ⟨by rw [O]; exact List.mem_append_left _ m,?_⟩
      rw [p.k _ D.1 D.2 (by rw [l]; exact J _ (bE (by omega))),l]
    ·rcases t x B with y | y
     ·exact c x y
     ·rw [y]; exact .inr (bE G)) h
  exact ⟨a,L,b,c⟩
 ·cases h
theorem tq {gs:List aN}{dss:List (List Int)}{s s':aN×List Int}(M:IS s)(U:gs.length=dss.length)(G:∀ g∈gs,LT g)(F:∀ ds∈dss,∀ d∈ds,d≠0)(h:mX gs dss s=some s') :
  Ext s s'∧(∀ x:Nat,x<gs.length→(ix gs (x:Int)).length=(ix dss (x:Int)).length∧∀ j:Nat,j<(ix gs (x:Int)).length→ix (ix gs (x:Int)) (j:Int)∈s'.1∧lk s'.2 (ix (ix gs (x:Int)) (j:Int))=ix (ix dss (x:Int)) (j:Int))∧∀ y∈s'.1,y∈s.1∨∃ g∈gs,y∈g:=by
 unfold mX at h
 exact nM (fun n z=>Ext s z∧(∀ x:Nat,x<n→(ix gs (x:Int)).length=(ix dss (x:Int)).length∧∀ j:Nat,j<(ix gs (x:Int)).length→ix (ix gs (x:Int)) (j:Int)∈z.1∧lk z.2 (ix (ix gs (x:Int)) (j:Int))=ix (ix dss (x:Int)) (j:Int))∧∀ y∈z.1,y∈s.1∨∃ g∈gs,y∈g) ⟨Ext.rfl_ M,fun j B=>absurd B (Nat.not_lt_zero _),fun x J=>.inl J⟩ gs.length
  (fun n z Y I L T=>by
   obtain ⟨a,b,c⟩:=L
   have D:=G _ (bE I)
   obtain ⟨p,q,r,t⟩:=tp a.i D (F _ (bE (by omega))) T
   refine ⟨a.trans p,fun x J=>?_,fun y O=>?_⟩
   ·by_cases e:x=n
    ·subst e; exact ⟨q,r⟩
    ·obtain ⟨l,m⟩:=b x (by omega)
     refine ⟨l,fun j B=>?_⟩
     obtain ⟨u,v⟩:=m j B
     obtain ⟨w,hw⟩:=p.p
     have E:=(G _ (bE (show x<gs.length by omega))).2 _ (bE B)
     refine ⟨by rw [hw]; exact List.mem_append_left _ u,?_⟩
     rw [p.k _ E.1 E.2 (by rw [v]; exact F _ (bE (by omega)) _ (bE (by omega))),v]
   ·rcases t y O with w | w
    ·exact c y w
    ·exact .inr ⟨_,bE I,w⟩) h
theorem uX {ds:List Int}{k:Int}(M:ds.length≤100)(h1:∀ d∈ds,1≤d∧d≤4096)(e:0≤k)(h:k≤65536):Zj ds k=some (gZ ds k):=by
 have a:∀ j,1≤pr (ds.drop j):=fun j=>eX fun d g=>(h1 d (List.mem_of_mem_drop g)).1
 unfold Zj
 rw [if_pos (by omega)]
 have:=eH (f:=fun s:Int×List Int×Int=>Zj_L1 ds s.1 s.2.1 s.2.2) (r:=gZ ds k)
  (fun j=>(k / pr (ds.drop (ds.length - j)),List.replicate (ds.length - j) 0++gZ (ds.drop (ds.length - j)) k,(ds.length:Int) - 1 - j)) ds.length
  (fun j L=>by
   obtain ⟨i,D⟩:∃ i,i=ds.length - (j+1):=⟨_,rfl⟩
   have m:ds.length - j=i+1:=by omega
   have q:(ds.length:Int) - 1 - (j:Int)=(i:Int):=by omega
   have b:i<ds.length:=by omega
   have E:=h1 _ (bE b)
   have F:=a (i+1)
   have g:ds.drop i=ix ds (i:Int)::ds.drop (i+1):=by rw [List.drop_eq_getElem_cons b,bQ b]
   have l:0≤k / pr (ds.drop (i+1)):=Int.ediv_nonneg e (by omega)
   have G:k / pr (ds.drop (i+1))≤65536:=Int.le_trans (Int.ediv_le_self _ e) h
   simp only [Zj_L1,m,q,← D]
   rw [if_pos (by simp),if_pos (by omega),if_pos (by omega),if_pos (by simp; omega)]
   have u:(k / pr (ds.drop (i+1))).tdiv (ix ds (i:Int))=k / pr (ds.drop i):=by
    rw [Int.tdiv_eq_ediv_of_nonneg l,g]; exact (sx F E.1).1.symm
   have B:(k / pr (ds.drop (i+1))).tmod (ix ds (i:Int))=k / pr (ds.drop (i+1)) % ix ds (i:Int):=Int.tmod_eq_emod_of_nonneg l
   have I:0≤k / pr (ds.drop i):=Int.ediv_nonneg e (by have:=a i; omega)
   have J:k / pr (ds.drop i)≤65536:=Int.le_trans (Int.ediv_le_self _ e) h
   rw [u,B,bB (by omega) (by omega),bB (by omega) (by omega)]
   congr 4
   ·rw [g,List.set_append_left _ _ (by simp),List.replicate_succ',List.set_append_right _ _ (by simp)]
    simp [gZ]
   ·omega)
  (by
   simp only [Zj_L1,Nat.sub_self,List.drop_zero,List.replicate_zero,List.nil_append]
   rw [if_neg (by simp; omega)])
  (s:=(k,List.replicate (ds.length:Int).toNat 0,aH ((ds.length:Int) - 1))) (by
   rw [bB (by omega) (by omega)]
   simp [pr,gZ])
 rw [this]
 rfl
def wk (ls:List Int)(s:Int)(j:Nat):Option Int:=if s*ix ls (j:Int)>65536 then none else some (s*ix ls (j:Int))
theorem nN {ls:List Int}{j:Nat}(h:j<ls.length):pr (ls.take (j+1))=pr (ls.take j)*ix ls (j:Int):=by
 rw [List.take_succ_eq_append_getElem h,mD,bQ h]; simp [pr]
theorem Bh {ls:List Int}(h:∀ d∈ls,1≤d):∀ n,n≤ls.length→pB (wk ls) n 1=if pr (ls.take n)≤65536 then some (pr (ls.take n)) else none
 | 0,_=>by simp [pB,pr]
 | n+1,hn=>by
  have i:1≤pr (ls.take n):=eX fun d g=>h d (List.mem_of_mem_take g)
  have g:=h _ (bE (show n<ls.length by omega))
  rw [pB,Bh h n (by omega),nN (by omega)]
  by_cases c:pr (ls.take n)≤65536
  ·rw [if_pos c]
   simp only [Option.bind_some,wk]
   by_cases e:pr (ls.take n)*ix ls (n:Int)≤65536
   ·rw [if_neg (by omega),if_pos e]
   ·rw [if_pos (by omega),if_neg e]
  ·rw [if_neg c,if_neg]
   ·rfl
   ·have:=iO (a:=pr (ls.take n)) (b:=ix ls (n:Int)) (by omega) g
    omega
theorem xy {ls:List Int}(u:ls.length≤100)(h:∀ d∈ls,1≤d∧d≤4096) :
  (pr ls≤65536∧aQ (fun s:Int×Int=>Z3_L4 ls s.1 s.2) (1,0)=some (.inr ())) ∨
  (¬ pr ls≤65536∧∃ e,aQ (fun s:Int×Int=>Z3_L4 ls s.1 s.2) (1,0)=some (.inl e)∧e.2.2=false):=by
 have g:=Bh (fun d m=>(h d m).1) ls.length (Nat.le_refl _)
 rw [List.take_length] at g
 rcases jh (f:=fun s:Int×Int=>Z3_L4 ls s.1 s.2) (wk ls) (fun s i=>(s,i)) (fun _=>()) (fun e=>e.2.2=false) (fun j s=>1≤s∧s≤65536) ls.length
  (fun j s q l=>by
   have r:=h _ (bE q)
   simp only [Z3_L4]
   rw [if_pos (by simp; omega),if_pos (by omega),hJ (by omega) (by omega) (by omega) (by omega),bU (by unfold bY; omega)]
   unfold wk
   by_cases c:s*ix ls (j:Int)>65536
   ·rw [if_pos c,if_pos (decide_eq_true c)]
    exact .inr ⟨rfl,_,rfl,rfl⟩
   ·rw [if_neg c,if_neg (by simpa using c)]
    have:=iO (a:=s) (b:=ix ls (j:Int)) (by omega) r.1
    exact .inl ⟨_,rfl,rfl,by omega,by omega⟩)
  (fun s l=>by simp only [Z3_L4]; rw [if_neg (by simp)])
  (s:=1) ⟨by omega,by omega⟩ with ⟨s',a1,a2,a3⟩|⟨a1,e,a2,a3⟩
 ·rw [g] at a1
  refine .inl ⟨?_,a2⟩
  split at a1
  ·assumption
  ·cases a1
 ·rw [g] at a1
  refine .inr ⟨?_,e,a2,a3⟩
  split at a1
  ·cases a1
  ·assumption
theorem ts {f:aN}{lens:List Int}(I:f.length≤100)(D:∀ c∈f,97≤c.toNat∧c.toNat≤122)(h:∀ d∈f.map (lk lens),1≤d∧d≤4096) :
  (pr (f.map (lk lens))≤65536∧aQ (fun s:List Int×Int×Int=>Z0_L3 f lens s.1 s.2.1 s.2.2) ([],1,0)=some (.inr (f.map (lk lens)))) ∨
  (¬ pr (f.map (lk lens))≤65536∧∃ e,aQ (fun s:List Int×Int×Int=>Z0_L3 f lens s.1 s.2.1 s.2.2) ([],1,0)=some (.inl e)∧e.2=false):=by
 obtain ⟨ls,g⟩:∃ ls,ls=f.map (lk lens):=⟨_,rfl⟩
 rw [← g] at h ⊢
 have E:ls.length=f.length:=by rw [g]; simp
 have q:=Bh (fun d B=>(h d B).1) ls.length (Nat.le_refl _)
 rw [List.take_length] at q
 rcases jh (f:=fun s:List Int×Int×Int=>Z0_L3 f lens s.1 s.2.1 s.2.2) (wk ls) (fun s i=>(ls.take i.toNat,s,i)) (fun _=>ls) (fun e=>e.2=false) (fun j s=>1≤s∧s≤65536) ls.length
  (fun j s m r=>by
   have F:=h _ (bE m)
   have u:=D _ (bE (show j<f.length by omega))
   have G:ix lens (((ix f (j:Int)).toNat:Int) - 97)=ix ls (j:Int):=by
    rw [g,pC (by omega),bQ (xs:=f) (by omega)]; rfl
   have l:bt f (j:Int)=((ix f (j:Int)).toNat:Int):=rfl
   simp only [Z0_L3]
   rw [if_pos (by simp; omega),if_pos (by omega),l,tg u,if_pos (by omega),G,if_pos (by simp; omega),hJ (by omega) (by omega) (by omega) (by omega),bU (by unfold bY; omega)]
   unfold wk
   by_cases c:s*ix ls (j:Int)>65536
   ·rw [if_pos c,if_pos (decide_eq_true c)]
    exact .inr ⟨rfl,_,rfl,rfl⟩
   ·rw [if_neg c,if_neg (by simpa using c)]
    have:=iO (a:=s) (b:=ix ls (j:Int)) (by omega) F.1
    refine .inl ⟨_,rfl,?_,by omega,by omega⟩
    rw [Int.toNat_natCast,Int.toNat_natCast,List.take_succ_eq_append_getElem m,bQ m])
  (fun s r=>by simp only [Z0_L3]; rw [if_neg (by simp; omega)]; simp)
  (s:=1) ⟨by omega,by omega⟩ with ⟨s',a1,a2,a3⟩|⟨a1,e,a2,a3⟩
 ·rw [q] at a1
  refine .inl ⟨?_,a2⟩
  split at a1
  ·assumption
  ·cases a1
 ·rw [q] at a1
  refine .inr ⟨?_,e,a2,a3⟩
  split at a1
  ·cases a1
  ·assumption
theorem kg {f:form}{g:aN}{p:List Int}(e:f.order.length≤100)(h:g.length≤p.length)(q:p.length≤100):∃ r,Zl f g p=some r:=by
 unfold Zl
 rw [if_pos (by omega)]
 obtain ⟨r,h1,h2⟩:=fP (f:=fun s:List Int×Int=>Zl_L1 f g p s.1 s.2) (fun j s=>s.1.length=f.order.length∧s.2=(j:Int)) f.order.length (Post:=fun _=>True)
  (fun j s l a=>by
   obtain ⟨x,i⟩:=s
   obtain ⟨h1,rfl⟩:=a
   dsimp only at h1
   simp only [Zl_L1]
   rw [if_pos (by simp; omega)]
   obtain ⟨r,g1,b⟩:=fP (f:=fun s:List Int×Int=>Zl_L2 f g p (j:Int) s.1 s.2) (fun k s=>s.1.length=f.order.length∧s.2=(k:Int)) g.length (Post:=fun r=>r.length=f.order.length)
    (fun k s m a=>by
     obtain ⟨x,i⟩:=s
     obtain ⟨h1,rfl⟩:=a
     dsimp only at h1
     simp only [Zl_L2,Zl_J5]
     rw [if_pos (by simp; omega),if_pos (by omega),if_pos (by omega)]
     split
     ·rw [if_pos (by simp; omega),if_pos (by omega)]
      exact ⟨_,rfl,by simpa using h1,by rw [bU (by unfold bY; omega)]⟩
     ·exact ⟨_,rfl,h1,by rw [bU (by unfold bY; omega)]⟩)
    (fun s a=>by
     obtain ⟨x,i⟩:=s
     obtain ⟨h1,rfl⟩:=a
     simp only [Zl_L2]
     rw [if_neg (by simp)]
     exact ⟨_,rfl,h1⟩)
    (s:=(x,0)) ⟨h1,rfl⟩
   rw [g1]
   exact ⟨_,rfl,b,by rw [bU (by unfold bY; omega)]⟩)
  (fun s a=>by
   obtain ⟨x,i⟩:=s
   obtain ⟨h1,rfl⟩:=a
   simp only [Zl_L1]
   rw [if_neg (by simp)]
   exact ⟨_,rfl,trivial⟩)
  (s:=(List.replicate (f.order.length:Int).toNat 0,0)) ⟨by simp,rfl⟩
 rw [h1]
 exact ⟨r,rfl⟩
def mL (gs:List aN)(o:aN)(dss:List (List Int))(s:aN×List Int):Prop:=mX gs dss (o,List.replicate 26 0)=some s∧pr (s.1.map (lk s.2))≤65536
theorem nO {o:aN}(b:o.Nodup)(a:∀ c∈o,97≤c.toNat∧c.toNat≤122):IS (o,List.replicate 26 0):=by
 refine ⟨rfl,b,a,fun c h1 h2 _=>?_⟩
 unfold lk
 have e:((c.toNat:Int) - 97)=((c.toNat - 97:Nat):Int):=by omega
 rw [e,bQ (by rw [List.length_replicate]; omega)]
 exact List.getElem_replicate _
theorem uY {o:aN}(g:∀ c∈o,97≤c.toNat∧c.toNat≤122):List.replicate (o.length:Int).toNat (0:Int)=o.map (lk (List.replicate 26 0)):=by
 rw [Int.toNat_natCast]
 symm
 rw [List.eq_replicate_iff]
 refine ⟨by simp,fun b a=>?_⟩
 obtain ⟨c,h,rfl⟩:=List.mem_map.1 a
 obtain ⟨h1,h2⟩:=g c h
 unfold lk
 have e:((c.toNat:Int) - 97)=((c.toNat - 97:Nat):Int):=by omega
 rw [e,bQ (by rw [List.length_replicate]; omega)]
 exact List.getElem_replicate _
theorem kY {gs:List aN}{o:aN}(h:∀ i∈List.range o.length,OL gs o i):o.Nodup:=by
 refine List.pairwise_iff_getElem.2 fun i j g a b e=>?_
 have:=(h j (List.mem_range.2 a)).2
 rw [bQ a] at this
 refine this ?_
 rw [← e,List.mem_take_iff_getElem]
 exact ⟨i,by omega,rfl⟩
structure Laid (gs:List aN)(o:aN)(dss:List (List Int))(s:aN×List Int):Prop where
 i:IS s
 l:s.1.length≤42
 p:∃ t,s.1=o++t
 g:∀ x:Nat,x<gs.length→(ix gs (x:Int)).length=(ix dss (x:Int)).length∧∀ j:Nat,j<(ix gs (x:Int)).length→ix (ix gs (x:Int)) (j:Int)∈s.1∧lk s.2 (ix (ix gs (x:Int)) (j:Int))=ix (ix dss (x:Int)) (j:Int)
 d:∀ d∈s.1.map (lk s.2),1≤d∧d≤4096
theorem kZ {gs:List aN}{o:aN}{dss:List (List Int)}{s:aN×List Int}(hp:PO gs o)(L:gs.length=dss.length)(I:∀ ds∈dss,eB ds)(h:mX gs dss (o,List.replicate 26 0)=some s):Laid gs o dss s:=by
 obtain ⟨p1,T,U,Y⟩:=hp
 have M:=nO (kY Y) T.2
 obtain ⟨a,b,c⟩:=tq M L U (fun ds E d B=>by have:=(I ds E).2.1 d B; omega) h
 have m:s.1.length≤42:=by
  rcases tm p1 U L (s:=(o,List.replicate 26 0)) T.1 M with ⟨s',r,_,q3,_⟩|⟨r,_⟩
  ·rw [h] at r; cases r; exact q3
  ·rw [h] at r; cases r
 refine ⟨a.i,m,a.p,b,fun d D=>?_⟩
 obtain ⟨y,hy,rfl⟩:=List.mem_map.1 D
 have:∃ g∈gs,y∈g:=by
  rcases c y hy with q | q
  ·obtain ⟨k,J,e⟩:=List.getElem_of_mem q
   have:=(Y k (List.mem_range.2 J)).1
   rw [bQ J,e] at this
   exact this
  ·exact q
 obtain ⟨g,Z,G⟩:=this
 obtain ⟨x,O,rfl⟩:=List.getElem_of_mem Z
 obtain ⟨j,F,rfl⟩:=List.getElem_of_mem G
 have u:=b x O
 rw [bQ O] at u
 have l:=(u.2 j F).2
 rw [bQ F] at l
 rw [l]
 exact (I _ (bE (show x<dss.length by omega))).2.mem (bE (by rw [← u.1]; exact F))
theorem nj {gs:List aN}{o:aN}{dss:List (List Int)}(B:PO gs o)(l:gs.length=dss.length)(u:∀ ds∈dss,eB ds) :
  (∃ s,mL gs o dss s∧Z3 gs o dss=some (s.1,s.1.map (lk s.2),true))∨((∀ s,¬ mL gs o dss s)∧∃ e,Z3 gs o dss=some e∧e.2.2=false):=by
 obtain ⟨p1,g,m,q⟩:=B
 have D:=nO (kY q) g.2
 have F:=g.1
 unfold Z3
 rw [if_pos (by omega),uY g.2]
 rcases tm p1 m l (s:=(o,List.replicate 26 0)) g.1 D with ⟨s,a,b,a3,a4⟩|⟨a,e,b,a3⟩
 ·have r:=kZ ⟨p1,g,m,q⟩ l u a
  simp only at b
  rw [b]
  simp only [Option.bind_some,Z3_J11]
  rcases xy (ls:=s.1.map (lk s.2)) (by simp; omega) r.d with ⟨i,j⟩|⟨i,e,j,E⟩
  ·rw [j]
   exact .inl ⟨s,⟨a,i⟩,rfl⟩
  ·rw [j]
   refine .inr ⟨fun s' h=>?_,e,rfl,E⟩
   have:=h.1
   rw [a] at this; cases this
   exact i h.2
 ·simp only at b
  rw [b]
  refine .inr ⟨fun s' h=>?_,e,rfl,a3⟩
  have:=h.1
  rw [a] at this; cases this
theorem tt {f:aN}{dss:List (List Int)}(hb:f.length≤1048576)(U:∀ ds∈dss,eB ds) :
  ((parts f).2.2=true∧(parts f).1.length=dss.length∧∃ s,mL (parts f).1 (parts f).2.1 dss s∧eB ((s.1.map (lk s.2)).take (parts f).2.1.length)∧∃ r,Z0 f dss=some (r,true)∧r.dims=(s.1.map (lk s.2)).take (parts f).2.1.length) ∨
  (¬ ((parts f).2.2=true∧(parts f).1.length=dss.length∧∃ s,mL (parts f).1 (parts f).2.1 dss s∧eB ((s.1.map (lk s.2)).take (parts f).2.1.length))∧∃ r,Z0 f dss=some (r,false)):=by
 obtain ⟨b,D⟩:∃ b,b=parts f:=⟨_,rfl⟩
 have I:b.2.2=true→PO b.1 b.2.1:=by
  rw [D]; unfold parts
  split
  ·intro h; cases h
  ·split
   ·intro _; assumption
   ·intro h; cases h
 unfold Z0
 rw [qt hb,← D]
 simp only [Option.bind_some]
 by_cases a:b.2.2=true∧b.1.length=dss.length
 ·obtain ⟨a,E⟩:=a
  rw [if_neg (by simp [a,E])]
  have hP:=I a
  obtain ⟨p1,L,M,p4⟩:=hP
  have hs:=nO (kY p4) L.2
  rcases th (gs:=b.1) (b:=b) (dss:=dss) rfl p1 M E (s:=(b.2.1,List.replicate 26 0)) L.1 rfl with ⟨s,u,B,a3,a4⟩|⟨u,e,B,a3⟩
  ·have m:=kZ ⟨p1,L,M,p4⟩ E U u
   simp only at B
   rw [B]
   simp only [Option.bind_some,Z0_J7]
   rcases ts (f:=s.1) (lens:=s.2) (by omega) m.i.c m.d with ⟨O,T⟩|⟨O,e,T,w3⟩
   ·rw [T]
    simp only [Option.bind_some,Z0_J8]
    obtain ⟨t,ht⟩:=m.p
    have a5:b.2.1.length≤(s.1.map (lk s.2)).length:=by rw [ht]; simp
    have a0:(s.1.map (lk s.2)).length≤42:=by simpa using m.l
    rw [if_pos (by omega),kw,gL (by simp; omega)]
    simp only [Option.bind_some]
    rw [gK (by simp only [List.length_take]; unfold bY; omega)]
    simp only [Option.bind_some]
    by_cases c3:eB ((s.1.map (lk s.2)).take b.2.1.length)
    ·rw [decide_eq_true c3,if_neg (by simp)]
     refine .inl ⟨a,E,s,⟨u,O⟩,c3,?_⟩
     obtain ⟨r,h1,_⟩:=fP (f:=fun z:List (List Int)×Int=>Z0_L4 dss b s.1 (s.1.map (lk s.2)) ((s.1.map (lk s.2)).take b.2.1.length) z.1 z.2) (fun j z=>z.1.length=j∧z.2=(j:Int)) b.1.length (Post:=fun _=>True)
      (fun j z Z F=>by
       obtain ⟨x,i⟩:=z
       obtain ⟨h1,rfl⟩:=F
       dsimp only at h1
       simp only [Z0_L4]
       have G:=U _ (bE (show j<dss.length by omega))
       rw [if_pos (by simp; omega),if_pos (by omega),if_pos (by omega),kO G]
       simp only [Option.bind_some]
       have a6:=(m.g j Z).1
       have Y:=(M _ (bE Z)).1
       obtain ⟨q,J⟩:=kg (f:=(⟨b.1,b.2.1,s.1,s.1.map (lk s.2),(s.1.map (lk s.2)).take b.2.1.length,x,[]⟩:form)) (g:=ix b.1 (j:Int)) (p:=eK (ix dss (j:Int))) (by have:=m.l; show s.1.length≤100; omega) (by rw [cR]; omega) (by rw [cR]; omega)
       rw [J]
       simp only [Option.bind_some]
       rw [if_pos (by simp; omega),bU (by unfold bY; omega)]
       exact ⟨_,rfl,by simp; omega,rfl⟩)
      (fun z F=>by
       obtain ⟨x,i⟩:=z
       obtain ⟨h1,rfl⟩:=F
       simp only [Z0_L4]
       rw [if_neg (by simp)]
       exact ⟨_,rfl,trivial⟩)
      (s:=([],0)) ⟨rfl,rfl⟩
     rw [h1]
     simp only [Option.bind_some,Z0_J9]
     rw [kO c3]
     simp only [Option.bind_some]
     obtain ⟨q,J⟩:=kg (f:=(⟨b.1,b.2.1,s.1,s.1.map (lk s.2),(s.1.map (lk s.2)).take b.2.1.length,r,[]⟩:form)) (g:=b.2.1) (p:=eK ((s.1.map (lk s.2)).take b.2.1.length)) (by have:=m.l; show s.1.length≤100; omega) (by rw [cR]; simp only [List.length_take]; omega) (by rw [cR]; simp only [List.length_take]; omega)
     rw [J]
     exact ⟨_,rfl,rfl⟩
    ·rw [decide_eq_false c3,if_pos (by simp)]
     refine .inr ⟨?_,_,rfl⟩
     rintro ⟨_,_,s',h1,h2⟩
     have:=h1.1
     rw [u] at this; cases this
     exact c3 h2
   ·rw [T]
    obtain ⟨e1,e2⟩:=e
    simp only at w3; subst w3
    refine .inr ⟨?_,_,rfl⟩
    rintro ⟨_,_,s',h1,h2⟩
    have:=h1.1
    rw [u] at this; cases this
    exact O h1.2
  ·simp only at B
   rw [B]
   obtain ⟨e1,e2⟩:=e
   simp only at a3; subst a3
   refine .inr ⟨?_,_,rfl⟩
   rintro ⟨_,_,s',h1,h2⟩
   have:=h1.1
   rw [u] at this; cases this
 ·rw [if_pos]
  ·exact .inr ⟨fun z=>a ⟨z.1,z.2.1⟩,_,rfl⟩
  ·cases q:b.2.2
   ·rfl
   ·have:b.1.length≠dss.length:=fun z=>a ⟨q,z⟩
    simp; omega
theorem tu {g f:aN}{vs:List Int}(L:g.length≤6)(J:f.length≤42)(M:vs.length=f.length)(I:f.Nodup)(G:∀ c∈g,c∈f):Zh g f vs=some (g.map fun c=>ix vs ((f.idxOf c:Nat):Int)):=by
 unfold Zh
 rw [eH (f:=fun s:List Int×Int=>Zh_L1 g f vs s.1 s.2) (r:=g.map fun c=>ix vs ((f.idxOf c:Nat):Int)) (fun i=>((g.take i).map fun c=>ix vs ((f.idxOf c:Nat):Int),(i:Int))) g.length
  (fun i B=>by
   obtain ⟨c,l⟩:∃ c,c=g[i]:=⟨_,rfl⟩
   have m:ix g (i:Int)=c:=by rw [bQ B,l]
   have u:c∈f:=G c (by rw [l]; exact List.getElem_mem B)
   have E:f.idxOf c<f.length:=List.idxOf_lt_length_iff.2 u
   obtain ⟨h,b⟩:∃ h,h=(g.take i).map fun c=>ix vs ((f.idxOf c:Nat):Int):=⟨_,rfl⟩
   have F:h.length≤6:=by rw [b]; simp; omega
   simp only [Zh_L1]
   rw [if_pos (by simp; omega),← b]
   rw [eH (f:=fun s:List Int×Int=>Zh_L2 g f vs (i:Int) s.1 s.2) (r:=h++[ix vs ((f.idxOf c:Nat):Int)]) (fun k=>(h++(if f.idxOf c<k then [ix vs ((f.idxOf c:Nat):Int)] else []),(k:Int))) f.length
    (fun k D=>by
     have j:(bt f (k:Int)==bt g (i:Int))=decide (f[k]=c):=by
      rw [show bt f (k:Int)=((ix f (k:Int)).toNat:Int) from rfl,show bt g (i:Int)=((ix g (i:Int)).toNat:Int) from rfl,kU,m,bQ D]
     have a:f[k]=c↔f.idxOf c=k:=by
      constructor
      ·intro e
       rw [← e]
       exact I.idxOf_getElem k D
      ·intro e; subst e; exact List.getElem_idxOf E
     simp only [Zh_L2,Zh_J5]
     rw [if_pos (by simp; omega),if_pos (by omega),if_pos (by omega),j,bU (by unfold bY; omega)]
     by_cases q:f.idxOf c=k
     ·rw [if_pos (decide_eq_true (a.2 q)),if_pos (by omega),if_neg (show ¬ f.idxOf c<k by omega),if_pos (show f.idxOf c<k+1 by omega),List.append_nil,if_pos (by simp; omega),q]
     ·rw [if_neg (by simpa using fun z=>q (a.1 z))]
      by_cases r:f.idxOf c<k
      ·rw [if_pos r,if_pos (by omega)]
      ·rw [if_neg r,if_neg (by omega)])
    (by simp only [Zh_L2]; rw [if_neg (by simp),if_pos E])
    (s:=(h,0)) (by simp)]
   simp only [Option.bind_some,Zh_J6]
   rw [bU (by unfold bY; omega),List.take_succ_eq_append_getElem B,List.map_append,← b,← l]
   rfl)
  (by simp only [Zh_L1]; rw [if_neg (by simp),List.take_length])
  (s:=([],0)) rfl]
 rfl
theorem Ag {ds is:List Int}(h:IV ds is){j:Nat}(a:j<ds.length):0≤ix is (j:Int)∧ix is (j:Int)<ix ds (j:Int):=by
 induction ds generalizing is j with
 | nil=>simp at a
 | cons d ds ih=>cases is with
  | nil=>exact h.elim
  | cons i is =>
   cases j with
   | zero=>simpa [ix] using h.1
   | succ j =>
    have:=ih h.2 (j:=j) (by simpa using a)
    simpa [ix] using this
theorem Ah {ds is:List Int}(a:is.length=ds.length)(h:∀ j:Nat,j<ds.length→0≤ix is (j:Int)∧ix is (j:Int)<ix ds (j:Int)):IV ds is:=by
 induction ds generalizing is with
 | nil=>cases is with
  | nil=>trivial
  | cons=>simp at a
 | cons d ds ih=>cases is with
  | nil=>simp at a
  | cons i is =>
   refine ⟨by simpa [ix] using h 0 (by simp),ih (by simpa using a) fun j b=>?_⟩
   have:=h (j+1) (by simpa using b)
   simpa [ix] using this
theorem jA {ls:List Int}(h:∀ d∈ls,1≤d)(k:Nat):1≤pr (ls.take k)∧pr (ls.take k)≤pr ls:=by
 have h2:1≤pr (ls.drop k):=eX fun d a=>h d (List.mem_of_mem_drop a)
 have b:1≤pr (ls.take k):=eX fun d a=>h d (List.mem_of_mem_take a)
 exact ⟨b,by rw [gJ ls k]; exact iO (by omega) h2⟩
def tv (f:aN)(dss:List (List Int))(s:aN×List Int):Prop:=(parts f).2.2=true∧(parts f).1.length=dss.length∧mL (parts f).1 (parts f).2.1 dss s∧eB ((s.1.map (lk s.2)).take (parts f).2.1.length)
theorem mM {f:aN}{D:List Tensor}(hb:f.length≤1048576)(ht:∀ t∈D,TT t)(hn:D.length≤6) :
  (∃ s,tv f (D.map Tensor.Dims) s∧∃ d,Z6 f D=some ⟨(s.1.map (lk s.2)).take (parts f).2.1.length,d⟩∧TOk ((s.1.map (lk s.2)).take (parts f).2.1.length) d)∨((¬ ∃ s,tv f (D.map Tensor.Dims) s)∧Z6 f D=some ⟨[],[]⟩):=by
 obtain ⟨dss,B⟩:∃ dss,dss=D.map Tensor.Dims:=⟨_,rfl⟩
 have hd:∀ ds∈dss,eB ds:=by
  intro ds h
  rw [B] at h
  obtain ⟨t,h1,rfl⟩:=List.mem_map.1 h
  exact (ht t h1).d
 have ah:dss.length=D.length:=by rw [B]; simp
 rw [← B]
 unfold tv
 obtain ⟨b,Y⟩:∃ b,b=parts f:=⟨_,rfl⟩
 have a8:b.2.2=true→PO b.1 b.2.1:=by
  rw [Y]; unfold parts
  split
  ·intro h; cases h
  ·split
   ·intro _; assumption
   ·intro h; cases h
 unfold Z6
 rw [qr hb,← Y]
 simp only [Option.bind_some]
 by_cases L:b.2.2=true∧b.1.length=dss.length
 ·obtain ⟨L,c2⟩:=L
  rw [if_neg (by simp [L]; omega)]
  have hP:=a8 L
  have a5:=hP
  obtain ⟨p1,p2,p3,p4⟩:=a5
  have L1:aQ (fun s:List (List Int)×Int=>Z6_L1 D s.1 s.2) ([],0)=some (Sum.inr dss):=by
   refine eH (f:=fun s:List (List Int)×Int=>Z6_L1 D s.1 s.2) (fun k=>((D.take k).map Tensor.Dims,(k:Int))) D.length (fun k G=>?_) ?_ rfl
   ·simp only [Z6_L1]
    rw [if_pos (by simp; omega),if_pos (by omega),pn (ht _ (bE G))]
    simp only [Option.bind_some]
    rw [if_neg (by simp),if_pos (by simp; omega),bU (by unfold bY; omega),List.take_succ_eq_append_getElem G,List.map_append,bQ G]
    rfl
   ·simp only [Z6_L1]
    rw [if_neg (by simp),List.take_length,← B]
  rw [L1]
  simp only [Option.bind_some,Z6_J1]
  rcases nj hP c2 hd with ⟨s,h1,h2⟩|⟨h1,e,h2,h3⟩
  ·rw [h2]
   simp only [Option.bind_some]
   have U:=kZ hP c2 hd h1.1
   obtain ⟨ls,E⟩:∃ ls,ls=s.1.map (lk s.2):=⟨_,rfl⟩
   have a0:ls.length=s.1.length:=by rw [E]; simp
   have Z:=U.l
   have J:=U.d
   obtain ⟨t,a4⟩:=U.p
   have ae:b.2.1.length≤ls.length:=by rw [a0,a4]; simp
   have a9:=h1.2
   rw [← E] at a9 J ⊢
   have I:∀ d∈ls,1≤d:=fun d h=>(J d h).1
   rw [if_pos (fun _=>by omega)]
   simp only [bR,Bool.not_true,Bool.not_false,cond_true,Bool.false_or]
   rw [kw,gB (by simp only [List.length_take]; unfold bY; omega)]
   simp only [Option.bind_some]
   obtain ⟨a,F⟩:∃ a,a=ls.take b.2.1.length:=⟨_,rfl⟩
   rw [← F]
   by_cases c3:eB a
   ·rw [decide_eq_true c3,if_neg (by simp),if_pos (by omega),kM c3]
    simp only [Option.bind_some]
    refine .inl ⟨s,⟨L,c2,h1,by rw [← E,← F]; exact c3⟩,?_⟩
    rw [← E,← F]
    have L2:aQ (fun z:Int×Int=>Z6_L2 (s.1,ls,true) z.1 z.2) (1,0)=some (pr ls):=by
     refine eH (f:=fun z:Int×Int=>Z6_L2 (s.1,ls,true) z.1 z.2) (fun k=>(pr (ls.take k),(k:Int))) ls.length (fun k G=>?_) ?_ (by simp [pr])
     ·have a1:=jA I k
      have a2:=jA I (k+1)
      have a3:=J _ (bE G)
      simp only [Z6_L2]
      rw [if_pos (by simp; omega),if_pos (by omega),hJ (by omega) (by omega) (by omega) (by omega),bU (by unfold bY; omega),nN G]
     ·simp only [Z6_L2]
      rw [if_neg (by simp),List.take_length]
    rw [L2]
    simp only [Option.bind_some,Z6_J2]
    have ag:=eX I
    have ai:=c3.2.pos
    obtain ⟨r,q1,q2⟩:=kQ (f:=fun z:List Int×Int=>Z6_L3 D b (s.1,ls,true) ⟨a,List.replicate (pr a).toNat 0⟩ (pr ls) z.1 z.2) (Post:=fun r=>RG (pr a).toNat r) (pr a).toNat (pr ls).toNat
     (fun j hj x hx=>by
      have aj:(j:Int)<pr ls:=by omega
      simp only [Z6_L3]
      rw [if_pos (by simp; omega),uX (by omega) J (by omega) (by omega)]
      simp only [Option.bind_some]
      have hI:=hD I (j:Int)
      obtain ⟨vs,aa⟩:∃ vs,vs=gZ ls (j:Int):=⟨_,rfl⟩
      rw [← aa] at hI ⊢
      have al:=hI.len
      obtain ⟨p,g1,_⟩:=fP (f:=fun z:Int×Int=>Z6_L4 D b (s.1,ls,true) vs z.1 z.2) (fun k z=>z.2=(k:Int)) b.1.length (Post:=fun _=>True)
       (fun k z G hz=>by
        obtain ⟨y,i⟩:=z
        dsimp only at hz; subst hz
        simp only [Z6_L4]
        have O:k<D.length:=by omega
        obtain ⟨e1,e2⟩:=U.g k G
        have a6:ix dss (k:Int)=(ix D (k:Int)).Dims:=by rw [B,bQ (by simpa using O),bQ O]; simp
        have a7:=p3 _ (bE G)
        rw [if_pos (by simp; omega),if_pos (by omega),if_pos (by omega),tu a7.1 Z (by omega) U.i.n (fun c hc=>by
         obtain ⟨m,hm,rfl⟩:=List.getElem_of_mem hc
         have:=(e2 m hm).1
         rwa [bQ hm] at this)]
        simp only [Option.bind_some]
        obtain ⟨w,w1,_⟩:=na (ht _ (bE O)) (is:=(ix b.1 (k:Int)).map fun c=>ix vs ((s.1.idxOf c:Nat):Int)) (by
         rw [← a6]
         refine Ah (by simp [e1]) fun m hm=>?_
         have T:m<(ix b.1 (k:Int)).length:=by omega
         obtain ⟨f1,f2⟩:=e2 m T
         have hp:s.1.idxOf (ix (ix b.1 (k:Int)) (m:Int))<s.1.length:=List.idxOf_lt_length_iff.2 f1
         have hv:=Ag hI (j:=s.1.idxOf (ix (ix b.1 (k:Int)) (m:Int))) (by omega)
         have ab:ix ((ix b.1 (k:Int)).map fun c=>ix vs ((s.1.idxOf c:Nat):Int)) (m:Int)=ix vs ((s.1.idxOf (ix (ix b.1 (k:Int)) (m:Int)):Nat):Int):=by
          rw [bQ (by simpa using T),List.getElem_map,bQ (xs:=ix b.1 (k:Int)) T]
         have ac:ix ls ((s.1.idxOf (ix (ix b.1 (k:Int)) (m:Int)):Nat):Int)=ix (ix dss (k:Int)) (m:Int):=by
          rw [E,pC hp,List.getElem_idxOf hp,f2]
         rw [ab,← ac]
         exact hv)
        rw [w1]
        simp only [Option.bind_some]
        obtain ⟨u,u1,_⟩:=ma y w
        rw [u1]
        exact ⟨_,rfl,by rw [bU (by unfold bY; omega)]⟩)
       (fun z hz=>by
        obtain ⟨y,i⟩:=z
        dsimp only at hz; subst hz
        simp only [Z6_L4]
        rw [if_neg (by simp)]
        exact ⟨_,rfl,trivial⟩)
       (s:=(1,0)) rfl
      rw [g1]
      simp only [Option.bind_some,Z6_J4]
      have M:=qm hI b.2.1.length
      rw [← F] at M
      have ak:=mE c3.2.1 M
      rw [if_pos (by omega),kw,nB c3 M]
      simp only [Option.bind_some,List.length_replicate]
      rw [if_pos (by omega)]
      obtain ⟨u,u1,u2⟩:=nG (ix x (m8 a (vs.take b.2.1.length))) p
      rw [u1]
      exact ⟨_,by rw [bU (by unfold bY; omega)]; rfl,hx.set u2 _⟩)
     (fun x hx=>by
      simp only [Z6_L3]
      rw [if_neg (by simp; omega)]
      exact ⟨_,rfl,hx⟩)
     (x:=List.replicate (pr a).toNat 0) (RG.rep _)
    rw [q1]
    exact ⟨r,rfl,hG c3 q2⟩
   ·rw [decide_eq_false c3,if_pos (by simp)]
    refine .inr ⟨?_,rfl⟩
    rintro ⟨s',_,_,g1,g2⟩
    have:=g1.1
    rw [h1.1] at this; cases this
    rw [← E,← F] at g2
    exact c3 g2
  ·rw [h2]
   obtain ⟨e1,e2,e3⟩:=e
   dsimp only at h3; subst h3
   simp only [Option.bind_some]
   rw [if_pos (fun z=>by simp at z)]
   simp only [bR,Bool.not_true,Bool.not_false,cond_false,Option.bind_some,Bool.true_or,if_true]
   exact .inr ⟨fun ⟨s,_,_,z,_⟩=>h1 s z,trivial⟩
 ·rw [if_pos]
  ·exact .inr ⟨fun ⟨s,z1,z2,_⟩=>L ⟨z1,z2⟩,rfl⟩
  ·cases q:b.2.2
   ·rfl
   ·have:b.1.length≠dss.length:=fun z=>L ⟨q,z⟩
    simp; omega
theorem re {f:aN}(h:(parts f).2.2=true):1≤(parts f).1.length∧(parts f).1.length≤6:=by
 unfold parts at h ⊢
 split
 ·rename_i e; rw [e] at h; cases h
 ·rename_i p e
  rw [e] at h
  simp only at h ⊢
  by_cases c:PO (fJ p.1) p.2
  ·rw [if_pos c]
   refine ⟨?_,c.1⟩
   have:=ln p.1
   cases q:fJ p.1 with
   | nil=>exact absurd q this
   | cons=>simp
  ·rw [if_neg c] at h; cases h
theorem sh5 (b i j s n args):bP ⟨5,b,i,j,s⟩ n args=Z2o ⟨⟩ n args:=rfl
theorem uZ {n:Node}{out:List Tensor}(F:Caps n out)(e:n.Op=11):oG n out (Zg n (out.map Tensor.Dims)):=by
 have U:ng n out.length→∀ t∈(n.Args.map fun a=>ix out a),TT t:=jW F
 have Z:∀ A:List Tensor,(∀ t∈A,TT t)→∃ r i,bP ⟨5,false,0,0,[]⟩ n (A.map Tensor.Dims)=some (r,i)∧(i=true→∃ s,tv n.Form (A.map Tensor.Dims) s∧r=(s.1.map (lk s.2)).take (parts n.Form).2.1.length)∧(i=false→¬ ∃ s,tv n.Form (A.map Tensor.Dims) s):=by
  intro A q
  rw [sh5]
  unfold Z2o
  rcases tt (f:=n.Form) (dss:=A.map Tensor.Dims) F.f (fun ds h=>by
   obtain ⟨t,h1,rfl⟩:=List.mem_map.1 h
   exact (q t h1).d) with ⟨q1,q2,s,q3,q4,r,q5,q6⟩|⟨q1,r,q2⟩
  ·rw [q5]
   exact ⟨_,_,rfl,fun _=>⟨s,⟨q1,q2,q3,q4⟩,q6⟩,fun h=>by cases h⟩
  ·rw [q2]
   exact ⟨_,_,rfl,(fun h=>by cases h),fun _=>fun ⟨s,a,b,c,d⟩=>q1 ⟨a,b,s,c,d⟩⟩
 refine mJ F (kd:=⟨5,false,0,0,[]⟩) (u:=ki) (fb:=decide (FM n 1 6 false 0 0)) (by rw [e]; rfl) rfl rfl (kS n ki false false true false xd xe xf xg) (gM (by omega) (by omega) (by rw [e]; rfl) (by rw [e]; rfl) (by rw [e]; rfl) (by rw [e]; rfl) ⟨by omega,by omega⟩) ?_ ?_ ?_
 ·intro B
  obtain ⟨f1,f2,O,f4,T,f6,f7⟩:=of_decide_eq_true B
  have g3:n.Dims=[]:=O.resolve_left (by simp)
  have g5:n.Data=[]:=T.resolve_left (by omega)
  have g6:n.Ints=[]:=List.eq_nil_of_length_eq_zero (by omega)
  exact ⟨by rw [g3,g5,g6]; rfl,by omega⟩
 ·intro G hw B
  obtain ⟨r,i,D,E,M⟩:=Z _ (U hw)
  cases i with
  | false=>exact ⟨r,D⟩
  | true =>
   obtain ⟨s,⟨l,m,_⟩,_⟩:=E rfl
   have Y:=re l
   refine absurd ?_ (of_decide_eq_false B)
   simp only [Bool.false_or,Bool.true_or,Bool.and_true,Bool.and_eq_true,kT,beq_iff_eq] at G
   have I:((n.Args.map fun a=>ix out a).map Tensor.Dims).length=n.Args.length:=by simp
   rw [I] at m
   exact ⟨by omega,by omega,.inr G.1.1,.inl e,.inr G.2,by omega,by rw [G.1.2]; decide⟩
 ·intro B hw
  obtain ⟨f1,f2,O,f4,T,f6,f7⟩:=of_decide_eq_true B
  have q:=U hw
  obtain ⟨A,j⟩:∃ A,A=n.Args.map fun a=>ix out a:=⟨_,rfl⟩
  have g:Do n out=(Z6 n.Form A).bind fun r=>some r:=by
   unfold Do Z2
   rw [if_neg (by omega),← j]
   simp only [Z2_J1,Z2_J2,e]
   simp only [Int.reduceBEq,Bool.false_eq_true,if_false,if_true,beq_self_eq_true]
  have Y:A.length≤6:=by rw [j]; simp; omega
  rw [← j] at q ⊢
  obtain ⟨r,i,D,E,M⟩:=Z A q
  rcases mM F.f q Y with ⟨s,l,d,m,c3⟩|⟨l,m⟩
  ·rw [m] at g
   cases i with
   | false=>exact absurd ⟨s,l⟩ (M rfl)
   | true =>
    obtain ⟨s',k1,k2⟩:=E rfl
    have J:s'=s:=by
     have L:=k1.2.2.1.1
     rw [l.2.2.1.1] at L
     exact (Option.some.inj L).symm
    subst J
    exact ⟨⟨_,d⟩,.inl ⟨by rw [D,k2],g,c3⟩⟩
  ·rw [m] at g
   cases i with
   | false=>exact ⟨⟨[],[]⟩,.inr ⟨r,D,g⟩⟩
   | true=>obtain ⟨s',k1,_⟩:=E rfl; exact absurd ⟨s',k1⟩ l
theorem tw {n:Node}{out:List Tensor}(g:Caps n out):oG n out (Zg n (out.map Tensor.Dims)):=by
 by_cases h:1≤n.Op∧n.Op≤19
 ·by_cases h1:n.Op=1
  ·exact sY g h1
  by_cases h2:n.Op=2
  ·exact sZ g h2
  by_cases h3:n.Op≤5
  ·exact uL g (by omega) h3
  by_cases h4:n.Op≤9
  ·exact uM g ⟨by omega,h4⟩
  have:n.Op=10∨n.Op=11∨n.Op=12∨n.Op=13∨n.Op=14∨n.Op=15∨n.Op=16∨n.Op=17∨n.Op=18∨n.Op=19:=by omega
  rcases this with q | q | q | q | q | q | q | q | q | q
  ·exact xm g q
  ·exact uZ g q
  ·exact qZ g q
  ·exact px g q
  ·exact t7 g q
  ·exact xr g q
  ·exact ra g q
  ·exact py g q
  ·exact r0 g q
  ·exact uR g q
 ·have e:∀ k:Int,1≤k→k≤19→(n.Op==k)=false:=fun k a b=>by simp; omega
  have i:Zy n.Op=some ⟨0,false,0,0,[]⟩:=by
   unfold Zy Zy_J1 Zy_J2 Zy_J3
   simp only [e 1 (by omega) (by omega),e 2 (by omega) (by omega),e 3 (by omega) (by omega),e 4 (by omega) (by omega),e 5 (by omega) (by omega),e 6 (by omega) (by omega),e 7 (by omega) (by omega),e 8 (by omega) (by omega),e 9 (by omega) (by omega),e 10 (by omega) (by omega),e 11 (by omega) (by omega),e 12 (by omega) (by omega),e 13 (by omega) (by omega),e 14 (by omega) (by omega),e 15 (by omega) (by omega),e 16 (by omega) (by omega),e 17 (by omega) (by omega),e 18 (by omega) (by omega),e 19 (by omega) (by omega),Bool.false_eq_true,if_false]
  refine .inr ⟨[],?_,.inl ?_⟩
  ·unfold Zg
   rw [i]
   rfl
  ·unfold Z16
   rw [if_pos (by simp; omega)]
structure GC (g:Graph):Prop where
 n:g.Nodes.length<bY
 o:g.Outs.length<bY
 a:∀ n∈g.Nodes,n.Args.length<bY
 d:∀ n∈g.Nodes,n.Dims.length<bY
 i:∀ n∈g.Nodes,n.Ints.length<bY
 x:∀ n∈g.Nodes,n.Data.length<bY
 f:∀ n∈g.Nodes,n.Form.length≤1048576
def Ai (g:Graph)(k:Nat)(out:List Tensor):Prop:=∀ j:Nat,j<k→Z16 (ix g.Nodes (j:Int))=some true∧ng (ix g.Nodes (j:Int)) j∧Do (ix g.Nodes (j:Int)) (out.take j)=some (ix out (j:Int))
theorem xz {g:Graph}{out:List Tensor}{k:Nat}(h:k<g.Nodes.length)(l:out.length≤200)(e:(ix g.Nodes (k:Int)).Args.length≤100)(hw:ng (ix g.Nodes (k:Int)) out.length) :
  aQ (fun s:List Tensor×Int=>Za_L2 g out (k:Int) s.1 s.2) ([],0)=some ((ix g.Nodes (k:Int)).Args.map fun a=>ix out a):=by
 refine eH (f:=fun s:List Tensor×Int=>Za_L2 g out (k:Int) s.1 s.2) (fun j=>(((ix g.Nodes (k:Int)).Args.take j).map fun a=>ix out a,(j:Int))) (ix g.Nodes (k:Int)).Args.length (fun j b=>?_) ?_ rfl
 ·have i:=hw _ (bE b)
  simp only [Za_L2]
  rw [if_pos (by simp; omega),if_pos (by omega),if_pos (by omega),if_pos (by simp; omega),bU (by unfold bY; omega),List.take_succ_eq_append_getElem b,List.map_append,bQ b]
  rfl
 ·simp only [Za_L2]
  rw [if_neg (by simp),List.take_length]
theorem kh {n:Node}(h:Z16 n=some true):n.Args.length≤6:=by
 unfold Z16 at h
 split at h
 ·cases h
 ·obtain ⟨r,h1,h⟩:=bd h
  have a:r.2≤6:=by
   unfold Z2v at h1
   repeat' split at h1
   all_goals (cases h1; decide)
  split at h
  ·cases h
  ·rename_i q
   simp only [Bool.or_eq_true,decide_eq_true_eq,not_or] at q
   omega
theorem tx {g:Graph}{ins:List Tensor}{out:List Tensor}{k:Nat}{t:Tensor}(h:k<g.Nodes.length)(i:out.length=k)(m:g.Nodes.length≤200)(e:Z16 (ix g.Nodes (k:Int))=some true)(hw:ng (ix g.Nodes (k:Int)) out.length)(a:Do (ix g.Nodes (k:Int)) out=some t) :
  Za_L1 g ins true out 0 (k:Int)=Za_J4 out (k:Int) 0 t.Dims t.Data:=by
 have l:=kh e
 simp only [Za_L1]
 rw [if_pos (by simp; omega),if_pos (by omega),e]
 simp only [Option.bind_some,bR,Bool.not_true,Bool.not_false,cond_true,Bool.false_or]
 rw [jV (by unfold bY; omega)]
 have b:∀ x∈(ix g.Nodes (k:Int)).Args,0≤x∧x<(k:Int):=by
  intro x j
  have:=hw x j
  rwa [i] at this
 simp only [Option.bind_some]
 rw [decide_eq_true b,if_neg (by simp),xz h (by omega) (by omega) hw]
 simp only [Option.bind_some,Za_J3]
 unfold Do at a
 by_cases c:(ix g.Nodes (k:Int)).Op=1
 ·rw [if_pos c] at a
  rw [if_neg (by simp [c]),if_pos trivial,a]
  rfl
 ·rw [if_neg c] at a
  rw [if_pos (by simp [c]),a]
  rfl
theorem oH {g:Graph}{ins:List Tensor}(r:GC g)(J:g.Nodes.length≤200):∀ (m k:Nat) (out:List Tensor),k+m=g.Nodes.length→out.length=k→(∀ t∈out,TT t)→Ai g k out →
  (∃ h,aQ (fun s:List Tensor×Int×Int=>Za_L1 g ins true s.1 s.2.1 s.2.2) (out,0,(k:Int))=some (.inr (h,0))∧aQ (fun s:List (List Int)×Int=>Zk_L1 g s.1 s.2) (out.map Tensor.Dims,(k:Int))=some (.inr (h.map Tensor.Dims))∧h.length=g.Nodes.length∧(∀ t∈h,TT t)∧Ai g g.Nodes.length h) ∨
  ((∃ e,aQ (fun s:List Tensor×Int×Int=>Za_L1 g ins true s.1 s.2.1 s.2.2) (out,0,(k:Int))=some (.inl e)∧e.2=false)∧∃ e,aQ (fun s:List (List Int)×Int=>Zk_L1 g s.1 s.2) (out.map Tensor.Dims,(k:Int))=some (.inl e)∧e.2=false)
 | 0,k,out,I,ho,ht,hr=>by
  have I:k=g.Nodes.length:=by omega
  subst I
  refine .inl ⟨out,dH ?_,dH ?_,ho,ht,hr⟩
  ·simp only [Za_L1]; rw [if_neg (by simp)]
  ·simp only [Zk_L1]; rw [if_neg (by simp)]
 | m+1,k,out,I,ho,ht,hr=>by
  have q:k<g.Nodes.length:=by omega
  have D:=bE q
  have Y:Caps (ix g.Nodes (k:Int)) out:=⟨r.a _ D,r.d _ D,r.i _ D,r.x _ D,r.f _ D,by omega,ht⟩
  have M:∀ p:List Int×Bool,Zg (ix g.Nodes (k:Int)) (out.map Tensor.Dims)=some p→Zk_L1 g (out.map Tensor.Dims) (k:Int)=if p.2=true then some (.inl (out.map Tensor.Dims++[p.1],((k+1:Nat):Int))) else some (.inr (.inl ([],false))):=by
   intro p U
   simp only [Zk_L1]
   rw [if_pos (by simp; omega),if_pos (by omega),U]
   simp only [Option.bind_some]
   cases p.2
   ·rfl
   ·rw [if_neg (by simp),if_pos (by simp; omega),bU (by unfold bY; omega)]; rfl
  rcases tw Y with ⟨t,h1,h2,B,O,G⟩|⟨ds,h1,h2⟩
  ·have T:=G.l
   have U:=G.d.2.pos
   have E:=tx (ins:=ins) q ho J h2 B O
   unfold Za_J4 at E
   rw [if_neg (by simp; intro z; rw [z] at T; simp at T; omega),if_pos (by simp; omega),bU (by unfold bY; omega)] at E
   have F:=M _ h1
   rw [if_pos rfl] at F
   rw [eV (f:=fun s:List Tensor×Int×Int=>Za_L1 g ins true s.1 s.2.1 s.2.2) E,eV (f:=fun s:List (List Int)×Int=>Zk_L1 g s.1 s.2) F]
   have:=oH (ins:=ins) r J m (k+1) (out++[t]) (by omega) (by simp [ho]) (by
    intro u Z
    rcases List.mem_append.1 Z with z | z
    ·exact ht u z
    ·simp at z; subst z; exact G) (by
    intro j hj
    by_cases e:j<k
    ·obtain ⟨a,b,c⟩:=hr j e
     refine ⟨a,b,?_⟩
     rw [List.take_append_of_le_length (by omega),c,bQ (by omega),bQ (by simp; omega),List.getElem_append_left (by omega)]
    ·have e:j=k:=by omega
     subst e
     rw [ho] at B
     refine ⟨h2,B,?_⟩
     rw [List.take_append_of_le_length (by omega),List.take_of_length_le (by omega),bQ (xs:=out++[t]) (by rw [List.length_append,List.length_singleton]; omega),List.getElem_append_right (by omega)]
     simpa [ho] using O)
   rw [List.map_append] at this
   exact this
  ·have F:=M _ h1
   rw [if_neg (by simp)] at F
   refine .inr ⟨?_,_,dH F,rfl⟩
   rcases h2 with h2 | ⟨h2,B⟩
   ·refine ⟨(out,false),dH ?_,rfl⟩
    simp only [Za_L1]
    rw [if_pos (by simp; omega),if_pos (by omega),h2]
    rfl
   ·by_cases w:ng (ix g.Nodes (k:Int)) out.length
    ·have E:=tx (ins:=ins) q ho J h2 w (B w)
     exact ⟨(out,false),dH E,rfl⟩
    ·refine ⟨(out,false),dH ?_,rfl⟩
     have ha:=kh h2
     simp only [Za_L1]
     rw [if_pos (by simp; omega),if_pos (by omega),h2]
     simp only [Option.bind_some,bR,Bool.not_true,Bool.not_false,cond_true,Bool.false_or]
     rw [jV (by unfold bY; omega)]
     have L:¬ ∀ x∈(ix g.Nodes (k:Int)).Args,0≤x∧x<(k:Int):=by
      intro z; refine w fun x hx=>?_
      have:=z x hx
      rwa [ho]
     simp only [Option.bind_some]
     rw [decide_eq_false L,if_pos (by simp)]
theorem oI {g:Graph}(G:GC g):∃ b J E,Za g [] true=some (b,E)∧Zk g=some (J,E)∧(E=true→J=b.map Tensor.Dims∧b.length=g.Nodes.length∧(∀ t∈b,TT t)∧Ai g g.Nodes.length b∧g.Nodes.length≤200∧g.Outs.length≤40∧∀ o∈g.Outs,0≤o∧o<(g.Nodes.length:Int)):=by
 unfold Za Zk
 by_cases c:g.Nodes.length≤200∧g.Outs.length≤40
 ·rw [if_neg (by simp; omega),if_neg (by simp; omega)]
  have m:∀ s:Int→Option (Int⊕(((List (List Int))×Bool)⊕Unit)),s=(fun x=>Zk_L2 g x)→aQ s 0=some (if g.Outs.all (fun x=>!(decide (x<0)||decide (x≥(g.Nodes.length:Int)))) then .inr () else .inl ([],false)):=by
   rintro _ rfl
   refine eM g.Outs (fun x=>Zk_L2 g x) (fun i=>i) _ _ _ (fun j I=>?_) ?_
   ·simp only [Zk_L2]
    rw [if_pos (by simp; omega),if_pos (by omega),bU (by unfold bY; omega)]
    cases (decide (ix g.Outs (j:Int)<0)||decide (ix g.Outs (j:Int)≥(g.Nodes.length:Int)))<;>rfl
   ·simp only [Zk_L2]
    rw [if_neg (by simp)]
  have M:g.Outs.all (fun x=>!(decide (x<0)||decide (x≥(g.Nodes.length:Int))))=decide (∀ o∈g.Outs,0≤o∧o<(g.Nodes.length:Int)):=by
   rw [Bool.eq_iff_iff]
   simp only [List.all_eq_true,decide_eq_true_eq,Bool.not_eq_true',Bool.or_eq_false_iff,decide_eq_false_iff_not]
   exact ⟨fun h x D=>by have:=h x D; omega,fun h x D=>by have:=h x D; omega⟩
  have m:=m _ rfl
  rw [M] at m
  rcases oH (ins:=[]) G c.1 g.Nodes.length 0 [] (by omega) rfl (fun t h=>by simp at h) (fun j I=>absurd I (Nat.not_lt_zero _)) with ⟨out,h1,h2,u,l,L⟩|⟨⟨e,h1,h2⟩,F,u,l⟩
  ·have a:aQ (fun s:List Tensor×Int×Int=>Za_L1 g [] true s.1 s.2.1 s.2.2) ([],0,0)=some (.inr (out,0)):=h1
   have r:aQ (fun s:List (List Int)×Int=>Zk_L1 g s.1 s.2) ([],0)=some (.inr (out.map Tensor.Dims)):=h2
   rw [a,r]
   simp only [Option.bind_some,Za_J5,Zk_J1,Zk_J2]
   rw [jV G.o,m]
   simp only [Option.bind_some]
   by_cases q:∀ o∈g.Outs,0≤o∧o<(g.Nodes.length:Int)
   ·rw [decide_eq_true q]
    exact ⟨_,_,_,rfl,rfl,fun _=>⟨rfl,u,l,L,c.1,c.2,q⟩⟩
   ·rw [decide_eq_false q]
    exact ⟨_,_,_,rfl,rfl,fun h=>by cases h⟩
  ·have a:aQ (fun s:List Tensor×Int×Int=>Za_L1 g [] true s.1 s.2.1 s.2.2) ([],0,0)=some (.inl e):=h1
   have B:aQ (fun s:List (List Int)×Int=>Zk_L1 g s.1 s.2) ([],0)=some (.inl F):=u
   rw [a,B]
   obtain ⟨O,T⟩:=e
   obtain ⟨U,Y⟩:=F
   dsimp only at h2 l
   subst h2; subst l
   exact ⟨_,_,_,rfl,rfl,fun h=>by cases h⟩
 ·rw [if_pos (by simp; omega),if_pos (by simp; omega)]
  exact ⟨_,_,_,rfl,rfl,fun h=>by cases h⟩
def Ax:Nat:=9223372036854775807
def fV (n:Nat)(a:Int):Int:=if a<(n:Int) then -1 else a - n
def mN {α:Type}(n:α→Nat)(xs:List α):Nat:=xs.length+(xs.map n).sum
theorem jB {a b:Nat}{e:Int}(g:0≤e):fV (a+b) e=if fV a e<0 then -1 else fV b (fV a e):=by
 unfold fV
 (repeat' split)<;>omega
theorem j3 {a:Nat}{b:Int}(e:0≤b)(h:¬ fV a b<0):0≤fV a b∧fV a b≤b∧fV a b=b - a:=by
 unfold fV at *
 split at h<;>rename_i q
 ·exact absurd (by decide) h
 ·rw [if_neg q]; omega
theorem u' {n:Nat}{a:Int}(b:n≤Ax)(e:0≤a)(h1:a≤1048576) :
  (if (decide ((aH (a - (n:Int)))<(0:Int)))=true then (some (-1:Int)) else (some (aH (a - (n:Int)))))=some (fV n a):=by
 unfold Ax at b
 rw [bB (by omega) (by omega)]
 unfold fV
 by_cases h:a<(n:Int)
 ·rw [if_pos (by simp; omega),if_pos h]
 ·rw [if_neg (by simp; omega),if_neg h]
theorem v2 {α:Type}[Inhabited α](xs:List α)(n:α→Nat)(E:xs.length<bY)(g:α→Int→Option Int)(f:Int×Int→Option ((Int×Int)⊕(Int⊕Int)))
  (D:∀ x∈xs,∀ a:Int,0≤a→a≤1048576→g x a=some (fV (n x) a))
  (m:∀ a i,f (a,i)=if (decide (i<(xs.length:Int)))=true then (if (0≤i∧i<(xs.length:Int)) then (g (ix xs i) a).bind fun (r:Int)=>if (decide (r<(0:Int)))=true then (some (.inr (.inl (-1:Int)))) else (some (.inl (r,(aH (i+(1:Int)))))) else none) else (some (.inr (.inr a))))
  (a:Int) (l:0≤a) (h1:a≤1048576) :
  ((aQ f (a,0)).bind fun e=>match e with | .inl e=>some e | .inr e=>some e)=some (fV ((xs.map n).sum) a):=by
 rw [jd (S:=Int) xs (fun _ s=>0≤s∧s≤1048576) f (fun s i=>(s,i)) (fun s _ x=>if fV (n x) s<0 then .inr (.inl (-1)) else .inl (fV (n x) s)) (fun s=>.inr s) ?_ ?_ ?_ a ⟨l,h1⟩]
 ·rw [aW]
  clear m E
  generalize 0=k
  induction xs generalizing a k with
  | nil=>show some a=some (fV 0 a); unfold fV; rw [if_neg (by omega)]; congr 1; simp
  | cons x xs ih =>
   unfold qc
   rw [List.map_cons,List.sum_cons,jB l]
   by_cases h:fV (n x) a<0
   ·simp only [h,if_true]
   ·obtain ⟨B,G,_⟩:=j3 l h
    simp only [h,if_false]
    exact ih (fun y F=>D y (by simp [F])) _ B (by omega) _
 ·rintro s k ⟨j,u⟩ q
  rw [m,if_pos (by simpa using q),if_pos (by omega),D _ (bE q) s j u,aW,bU (by omega)]
  by_cases h:fV (n (ix xs (k:Int))) s<0
  ·simp [h]
  ·simp [h]
 ·rintro s k s' ⟨j,u⟩ q b
  split at b
  ·cases b
  ·rename_i h
   obtain ⟨B,G,_⟩:=j3 j h
   injection b with b
   subst b
   exact ⟨B,by omega⟩
 ·rintro s ⟨j,u⟩
  rw [m,if_neg (by simp)]
theorem v6 {α:Type}[Inhabited α]{xs:List α}{n:α→Nat}{a:Int}{x:Int→Option Int}(j:xs.length≤Ax)(i:0≤a)(h1:a≤1048576)(l:¬ fV xs.length a<0→x (fV xs.length a)=some (fV ((xs.map n).sum) (fV xs.length a))) :
  (if (decide ((aH (a - (xs.length:Int)))<(0:Int)))=true then (some (-1:Int)) else x (aH (a - (xs.length:Int))))=some (fV (mN n xs) a):=by
 have g:=j
 unfold Ax at g
 unfold mN
 rw [jB i]
 have e:aH (a - (xs.length:Int))=a - xs.length:=bB (by omega) (by omega)
 rw [e]
 by_cases h:a<(xs.length:Int)
 ·rw [if_pos (by simp; omega),if_pos (by unfold fV; rw [if_pos h]; omega)]
 ·have b:fV xs.length a=a - xs.length:=by unfold fV; rw [if_neg h]
  rw [if_neg (by simp; omega),if_neg (by rw [b]; omega)]
  have:=l (by rw [b]; omega)
  rw [b] at this ⊢
  exact this
theorem pD {k:Nat}{n:Nat}(h:k<n):(0:Int)≤(k:Int)∧(k:Int)<(n:Int):=⟨by omega,by omega⟩
theorem Aj {k:Nat}{n:Nat}(h:k<n):(decide ((k:Int)<(n:Int)))=true:=by simpa using h
theorem tz {n:Nat}:(decide ((n:Int)<(n:Int)))=false:=by simp
theorem nP (xs ys:List Int)(h:xs.length=ys.length):((List.range xs.length).all fun k=>ix xs (k:Int)==ix ys (k:Int))=decide (xs=ys):=by
 by_cases e:xs=ys
 ·subst e; simp
 ·simp only [e,decide_false]
  rw [List.all_eq_false]
  refine Classical.byContradiction fun b=>e ?_
  refine List.ext_getElem h fun k h1 h2=>?_
  refine Classical.byContradiction fun a=>b ⟨k,by simpa using h1,?_⟩
  rw [bQ h1,bQ h2]
  simpa using a
theorem v7 (xs ys:List Int)(h:xs.length<bY):Z01 xs ys=some (decide (xs=ys)):=by
 unfold Z01
 by_cases hl:xs.length=ys.length
 ·rw [if_neg (by simp [hl])]
  rw [je xs.length (fun s:Int=>Z01_L1 xs ys s) (fun i=>i) (fun k=>ix xs (k:Int)==ix ys (k:Int)) (.inl false) (.inr ()) (fun k a=>by
   unfold Z01_L1
   rw [if_pos (Aj a),if_pos (pD a),if_pos (pD (hl▸a)),bU (by omega)]
   by_cases hq:ix xs (k:Int)=ix ys (k:Int)
   ·simp [hq]
   ·simp [hq]) (by unfold Z01_L1; simp only [tz,Bool.false_eq_true,if_false])]
  rw [nP xs ys hl,aW]
  by_cases e:xs=ys<;>simp [e,Z01_J1]
 ·rw [if_pos (by simp; omega)]
  have:xs≠ys:=fun e=>hl (by rw [e])
  simp [this]
theorem oJ (xs ys:List Int):Z0f xs ys=Z01 xs ys:=rfl
def Rg (g:List Bool)(n:Nat)(gl:List Int):Prop:=g.length=n∧∀ j:Nat,j<n→ix g (j:Int)=decide ((j:Int)∈gl)
theorem Rg.set {g:List Bool}{n:Nat}{gl:List Int}(h:Rg g n gl){b:Int}(m:0≤b)(h1:b<(n:Int)):Rg (g.set b.toNat true) n (gl++[b]):=by
 obtain ⟨l,q⟩:=h
 refine ⟨by simpa using l,fun j i=>?_⟩
 obtain ⟨c,rfl⟩:=Int.eq_ofNat_of_zero_le m
 have a:j<(g.set (c:Int).toNat true).length:=by simpa [l] using i
 rw [bQ a,List.getElem_set]
 by_cases e:(c:Int).toNat=j
 ·rw [if_pos e]; have:c=j:=by omega
  subst this; simp
 ·rw [if_neg e]
  have h2:=q j i
  rw [bQ (by omega)] at h2
  rw [h2]
  have:¬ (j:Int)=(c:Int):=by omega
  simp [this]
theorem mO {α T:Type}[Inhabited α](xs:List α)(z:α)(f:T→Option (T⊕List α))(mk:List α→Int→T)
  (u:∀ (ys:List α) (k:Nat),ys.length=xs.length→k<xs.length→f (mk ys (k:Int))=some (.inl (mk (ys.set k (ix xs (k:Int))) ((k+1:Nat):Int))))
  (g:∀ ys:List α,ys.length=xs.length→f (mk ys (xs.length:Int))=some (.inr ys)):aQ f (mk (List.replicate (xs.length:Int).toNat z) 0)=some xs:=by
 rw [Int.toNat_natCast]
 rw [jd (S:=List α) xs (fun _ s=>s.length=xs.length) f mk (fun s k x=>.inl (s.set k x)) (fun s=>s) (fun s k i a=>u s k i a) (fun s k s' i a h=>by injection h with h; subst h; simpa using i) g _ (by simp)]
 congr 1
 have r:∀ (m k:Nat) (ys:List α),k+m=xs.length→ys.length=xs.length→(∀ j,j<k→ys[j]?=xs[j]?)→qc (R:=List α) (fun s k x=>.inl (s.set k x)) (fun s=>s) (xs.drop k) k ys=xs:=by
  intro m
  induction m with
  | zero =>
   intro k ys a g l
   have a:k=xs.length:=by omega
   subst a
   rw [List.drop_length]
   show ys=xs
   refine List.ext_getElem? fun j=>?_
   by_cases q:j<xs.length
   ·exact l j q
   ·rw [List.getElem?_eq_none (by omega),List.getElem?_eq_none (by omega)]
  | succ m ih =>
   intro k ys a g l
   have b:k<xs.length:=by omega
   rw [List.drop_eq_getElem_cons b]
   unfold qc
   refine ih (k+1) _ (by omega) (by simpa using g) (fun j q=>?_)
   rw [List.getElem?_set]
   by_cases e:k=j
   ·subst e; rw [if_pos rfl,if_pos (by omega)]; exact (List.getElem?_eq_getElem b).symm
   ·rw [if_neg e]; exact l j (by omega)
 simpa using r xs.length 0 (List.replicate xs.length z) (by omega) (by simp) (fun j q=>by omega)
theorem xA {α:Type}{n:Nat}{z:α}{k:Nat}(h:k<n):(0:Int)≤(k:Int)∧(k:Int)<((List.replicate (n:Int).toNat z).length:Int):=by
 rw [List.length_replicate,Int.toNat_natCast]; omega
theorem v8 (xs:List Int)(h:xs.length≤1048576):Z0f xs xs=some true:=by
 rw [oJ,v7 _ _ (by unfold bY; omega)]; simp
theorem va {α:Type}[Inhabited α](xs:List α)(f:Int→Option (Int⊕(Bool⊕Unit)))(h:xs.length≤1048576)(e:α→α→Option Bool)(g:∀ x∈xs,e x x=some true)
  (b:∀ i,f i=if (decide (i<(xs.length:Int)))=true then (if (0≤i∧i<(xs.length:Int)) then if (0≤i∧i<(xs.length:Int)) then (e (ix xs i) (ix xs i)).bind fun (r:Bool)=>if (!r)=true then (some (.inr (.inl false))) else (some (.inl (aH (i+(1:Int))))) else none else none) else (some (.inr (.inr ())))) :
  aQ f 0=some (.inr ()):=by
 rw [eM xs f (fun i=>i) (fun _=>true) (.inl false) (.inr ()) (fun k a=>by
  rw [b,if_pos (Aj a),if_pos (pD a),if_pos (pD a),g _ (bE a),aW,bU (by unfold bY; omega)]; rfl) (by rw [b]; simp only [tz,Bool.false_eq_true,if_false])]
 simp
theorem pE (x:Int):(x != x)=false:=by simp
theorem tA {α:Type}(n:α→Nat)(xs:List α):xs.length≤mN n xs:=by unfold mN; omega
theorem tB {α:Type}(n:α→Nat){xs:List α}{x:α}(h:x∈xs):n x≤mN n xs:=by
 have:n x≤(xs.map n).sum:=by
  induction xs with
  | nil=>cases h
  | cons y t ih =>
   rcases List.mem_cons.1 h with rfl | h
   ·simp
   ·have:=ih h; simp; omega
 unfold mN; omega
theorem tC {a:Nat}{b:Int}(h:fV a b<0)(e:0≤b):fV a b = -1:=by
 unfold fV at *
 split at h
 ·rw [if_pos (by assumption)]
 ·omega
def mP (xs:(List Int)):Prop:=xs.length≤maxLen
def jX (xs:(List Int)):Prop:=xs.length≤1048576
theorem ji {xs:(List Int)}(h:xs.length≤1048576):jX xs:=h
theorem iR {xs:(List Int)}{a:Int}(e:mP xs)(b:0≤a)(h1:a≤1048576):Z1f xs a=some (fV xs.length a):=u' (Nat.le_trans e (by decide)) b h1
theorem l2 (xs:(List Int))(h:jX xs):Z06 xs=some xs:=by
 unfold Z06
 rw [if_pos (by have:xs.length≤1048576:=h; omega),mO xs 0 (fun s:(List Int)×Int=>Z06_L1 xs s.1 s.2) (fun s i=>(s,i)) (fun ys k e a=>by
  have b:xs.length≤1048576:=h
  show Z06_L1 xs ys (k:Int)=_
  unfold Z06_L1
  rw [if_pos (Aj a),if_pos (pD a),if_pos (xA a),bU (by unfold bY; omega)]; rfl) (fun ys _=>by
  show Z06_L1 xs ys (xs.length:Int)=_
  unfold Z06_L1; simp only [tz,Bool.false_eq_true,if_false])]
 rfl
theorem l3 (xs:(List Int))(h:jX xs):Z0f xs xs=some true:=v8 xs h
def Ak (x:aN):Prop:=x.length≤maxLen
def Al (x:aN):Prop:=x.length≤1048576
structure Cap213 (x:Node):Prop where
 Args:mP x.Args
 Dims:mP x.Dims
 Ints:mP x.Ints
 Form:Ak x.Form
 Data:mP x.Data
structure SmNode (x:Node):Prop where
 Args:jX x.Args
 Dims:jX x.Dims
 Ints:jX x.Ints
 Form:Al x.Form
 Data:jX x.Data
def kl (x:Node):Nat:=x.Args.length+x.Dims.length+x.Ints.length+x.Form.length+x.Data.length
theorem rh {x:Node}(h:kl x≤1048576):SmNode x:=by
 unfold kl at h
 exact ⟨ji (by omega),ji (by omega),ji (by omega),show _≤_ by omega,ji (by omega)⟩
theorem ri {x:Node}{a:Int}(u:Cap213 x)(b:0≤a)(h1:a≤1048576):Z2f x a=some (fV (kl x) a):=by
 obtain ⟨l,m,q,r,s⟩:=u
 unfold Z2f kl
 rw [jB b,jB b,jB b,jB b]
 rw [iR l b (by omega),aW]
 by_cases h2:fV (x.Args.length) a<0
 ·simp [h2]
 ·obtain ⟨i,I,B⟩:=j3 b h2
  rw [if_neg (by simpa using h2),if_neg h2]
  rw [iR m i (by omega),aW]
  by_cases h3:fV (x.Dims.length) (fV (x.Args.length) a)<0
  ·simp [h3]
  ·obtain ⟨j,J,D⟩:=j3 i h3
   rw [if_neg (by simpa using h3),if_neg h3]
   rw [iR q j (by omega),aW]
   by_cases h4:fV (x.Ints.length) (fV (x.Dims.length) (fV (x.Args.length) a))<0
   ·simp [h4]
   ·obtain ⟨F,L,E⟩:=j3 j h4
    rw [if_neg (by simpa using h4),if_neg h4]
    have h:aH (fV (x.Ints.length) (fV (x.Dims.length) (fV (x.Args.length) a)) - (x.Form.length:Int))=fV (x.Ints.length) (fV (x.Dims.length) (fV (x.Args.length) a)) - (x.Form.length:Int):=by
     have:x.Form.length≤9223372036854775807:=Nat.le_trans r (by decide)
     exact bB (by omega) (by omega)
    by_cases h5:fV (x.Form.length) (fV (x.Ints.length) (fV (x.Dims.length) (fV (x.Args.length) a)))<0
    ·have:fV (x.Ints.length) (fV (x.Dims.length) (fV (x.Args.length) a))<(x.Form.length:Int):=by unfold fV at h5; split at h5<;>omega
     rw [h,if_pos (by simp; omega)]
     simp [h5]
    ·obtain ⟨g,M,e⟩:=j3 F h5
     rw [h,← e,if_neg (by simpa using h5),if_neg h5]
     rw [iR s g (by omega),aW]
     by_cases h6:fV (x.Data.length) (fV (x.Form.length) (fV (x.Ints.length) (fV (x.Dims.length) (fV (x.Args.length) a))))<0
     ·rw [if_pos (by simpa using h6),tC h6 g]
     ·obtain ⟨O,T,G⟩:=j3 g h6
      rw [if_neg (by simpa using h6)]
theorem vc (x:Node)(h:SmNode x):Z2s x=some x:=by
 unfold Z2s
 rw [l2 _ h.Args,aW,l2 _ h.Dims,aW,l2 _ h.Ints,aW,l2 _ h.Data,aW]
theorem vd (x:Node)(h:SmNode x):Z2e x x=some true:=by
 unfold Z2e
 rw [l3 _ h.Args,aW,l3 _ h.Dims,aW,l3 _ h.Ints,aW,l3 _ h.Data,aW]
 simp
def tD (xs:(List Node)):Prop:=xs.length≤maxLen∧∀ x∈xs,Cap213 x
def me (xs:(List Node)):Prop:=xs.length≤1048576∧∀ x∈xs,SmNode x
theorem pF {xs:(List Node)}(h:mN kl xs≤1048576):me xs:=⟨Nat.le_trans (tA _ _) h,fun x a=>rh (Nat.le_trans (tB _ a) h)⟩
theorem pG {xs:(List Node)}{a:Int}(g:tD xs)(b:0≤a)(h1:a≤1048576):Z17 xs a=some (fV (mN kl xs) a):=by
 unfold Z17
 refine v6 (x:=fun l=>(aQ (fun s:Int×Int=>Z17_L1 xs s.1 s.2) (l,(0:Int))).bind fun e=>match e with | .inl e=>some e | .inr e=>Z17_J1 e) (Nat.le_trans g.1 (by decide)) b h1 (fun h=>?_)
 obtain ⟨j,m,q⟩:=j3 b h
 exact v2 xs kl (Nat.lt_of_le_of_lt (show xs.length≤1048576 by unfold fV at h; split at h<;>omega) (by decide)) Z2f _ (fun x i a=>ri (g.2 x i)) (fun _ _=>rfl) _ j (by omega)
theorem tF (xs:(List Node))(h:me xs):Z0o xs=some xs:=by
 unfold Z0o
 rw [if_pos (by have:xs.length≤1048576:=h.1; omega),mO xs zT171.z (fun s:(List Node)×Int=>Z0o_L1 xs s.1 s.2) (fun s i=>(s,i)) (fun ys k e a=>by
  have b:xs.length≤1048576:=h.1
  show Z0o_L1 xs ys (k:Int)=_
  unfold Z0o_L1
  rw [if_pos (Aj a),if_pos (pD a),vc _ (h.2 _ (bE a)),aW,if_pos (xA a),bU (by unfold bY; omega)]; rfl) (fun ys _=>by
  show Z0o_L1 xs ys (xs.length:Int)=_
  unfold Z0o_L1; simp only [tz,Bool.false_eq_true,if_false])]
 rfl
theorem tG (xs:(List Node))(h:me xs):Z1b xs xs=some true:=by
 unfold Z1b
 rw [pE,va xs (fun s:Int=>Z1b_L1 xs xs s) h.1 Z2e (fun x a=>vd x (h.2 x a)) (fun _=>rfl)]; rfl
structure Cap62 (x:Graph):Prop where
 Nodes:tD x.Nodes
 Outs:mP x.Outs
structure SmGraph (x:Graph):Prop where
 Nodes:me x.Nodes
 Outs:jX x.Outs
def lu (x:Graph):Nat:=mN kl x.Nodes+x.Outs.length
theorem pH {x:Graph}(h:lu x≤1048576):SmGraph x:=by
 unfold lu at h
 exact ⟨pF (by omega),ji (by omega)⟩
theorem pI {x:Graph}{a:Int}(i:Cap62 x)(b:0≤a)(h1:a≤1048576):Z2r x a=some (fV (lu x) a):=by
 obtain ⟨g,h⟩:=i
 unfold Z2r lu
 rw [jB b]
 rw [pG g b (by omega),aW]
 by_cases h2:fV (mN kl x.Nodes) a<0
 ·simp [h2]
 ·obtain ⟨e,m,j⟩:=j3 b h2
  rw [if_neg (by simpa using h2),if_neg h2]
  rw [iR h e (by omega),aW]
  by_cases h3:fV (x.Outs.length) (fV (mN kl x.Nodes) a)<0
  ·rw [if_pos (by simpa using h3),tC h3 e]
  ·obtain ⟨q,r,l⟩:=j3 e h3
   rw [if_neg (by simpa using h3)]
theorem tH (x:Graph)(h:SmGraph x):Z1s x=some x:=by
 unfold Z1s
 rw [tF _ h.Nodes,aW,l2 _ h.Outs,aW]
theorem tJ (x:Graph)(h:SmGraph x):Z2q x x=some true:=by
 unfold Z2q
 rw [tG _ h.Nodes,aW,l3 _ h.Outs,aW]
 simp
theorem tK {f:aN}{dss:List (List Int)}(hb:f.length≤1048576)(U:∀ ds∈dss,eB ds) :
  ((parts f).2.2=true∧(parts f).1.length=dss.length∧∃ s,mL (parts f).1 (parts f).2.1 dss s∧eB ((s.1.map (lk s.2)).take (parts f).2.1.length)∧∃ r,Z0 f dss=some (r,true)∧r.dims=(s.1.map (lk s.2)).take (parts f).2.1.length∧r.order=s.1∧r.loops=s.1.map (lk s.2)) ∨
  (¬ ((parts f).2.2=true∧(parts f).1.length=dss.length∧∃ s,mL (parts f).1 (parts f).2.1 dss s∧eB ((s.1.map (lk s.2)).take (parts f).2.1.length))∧∃ r,Z0 f dss=some (r,false)):=by
 obtain ⟨b,D⟩:∃ b,b=parts f:=⟨_,rfl⟩
 have I:b.2.2=true→PO b.1 b.2.1:=by
  rw [D]; unfold parts
  split
  ·intro h; cases h
  ·split
   ·intro _; assumption
   ·intro h; cases h
 unfold Z0
 rw [qt hb,← D]
 simp only [Option.bind_some]
 by_cases a:b.2.2=true∧b.1.length=dss.length
 ·obtain ⟨a,E⟩:=a
  rw [if_neg (by simp [a,E])]
  have hP:=I a
  obtain ⟨p1,L,M,p4⟩:=hP
  have hs:=nO (kY p4) L.2
  rcases th (gs:=b.1) (b:=b) (dss:=dss) rfl p1 M E (s:=(b.2.1,List.replicate 26 0)) L.1 rfl with ⟨s,u,B,a3,a4⟩|⟨u,e,B,a3⟩
  ·have m:=kZ ⟨p1,L,M,p4⟩ E U u
   simp only at B
   rw [B]
   simp only [Option.bind_some,Z0_J7]
   rcases ts (f:=s.1) (lens:=s.2) (by omega) m.i.c m.d with ⟨O,T⟩|⟨O,e,T,w3⟩
   ·rw [T]
    simp only [Option.bind_some,Z0_J8]
    obtain ⟨t,ht⟩:=m.p
    have a5:b.2.1.length≤(s.1.map (lk s.2)).length:=by rw [ht]; simp
    have a0:(s.1.map (lk s.2)).length≤42:=by simpa using m.l
    rw [if_pos (by omega),kw,gL (by simp; omega)]
    simp only [Option.bind_some]
    rw [gK (by simp only [List.length_take]; unfold bY; omega)]
    simp only [Option.bind_some]
    by_cases c3:eB ((s.1.map (lk s.2)).take b.2.1.length)
    ·rw [decide_eq_true c3,if_neg (by simp)]
     refine .inl ⟨a,E,s,⟨u,O⟩,c3,?_⟩
     obtain ⟨r,h1,_⟩:=fP (f:=fun z:List (List Int)×Int=>Z0_L4 dss b s.1 (s.1.map (lk s.2)) ((s.1.map (lk s.2)).take b.2.1.length) z.1 z.2) (fun j z=>z.1.length=j∧z.2=(j:Int)) b.1.length (Post:=fun _=>True)
      (fun j z Z F=>by
       obtain ⟨x,i⟩:=z
       obtain ⟨h1,rfl⟩:=F
       dsimp only at h1
       simp only [Z0_L4]
       have G:=U _ (bE (show j<dss.length by omega))
       rw [if_pos (by simp; omega),if_pos (by omega),if_pos (by omega),kO G]
       simp only [Option.bind_some]
       have a6:=(m.g j Z).1
       have Y:=(M _ (bE Z)).1
       obtain ⟨q,J⟩:=kg (f:=(⟨b.1,b.2.1,s.1,s.1.map (lk s.2),(s.1.map (lk s.2)).take b.2.1.length,x,[]⟩:form)) (g:=ix b.1 (j:Int)) (p:=eK (ix dss (j:Int))) (by have:=m.l; show s.1.length≤100; omega) (by rw [cR]; omega) (by rw [cR]; omega)
       rw [J]
       simp only [Option.bind_some]
       rw [if_pos (by simp; omega),bU (by unfold bY; omega)]
       exact ⟨_,rfl,by simp; omega,rfl⟩)
      (fun z F=>by
       obtain ⟨x,i⟩:=z
       obtain ⟨h1,rfl⟩:=F
       simp only [Z0_L4]
       rw [if_neg (by simp)]
       exact ⟨_,rfl,trivial⟩)
      (s:=([],0)) ⟨rfl,rfl⟩
     rw [h1]
     simp only [Option.bind_some,Z0_J9]
     rw [kO c3]
     simp only [Option.bind_some]
     obtain ⟨q,J⟩:=kg (f:=(⟨b.1,b.2.1,s.1,s.1.map (lk s.2),(s.1.map (lk s.2)).take b.2.1.length,r,[]⟩:form)) (g:=b.2.1) (p:=eK ((s.1.map (lk s.2)).take b.2.1.length)) (by have:=m.l; show s.1.length≤100; omega) (by rw [cR]; simp only [List.length_take]; omega) (by rw [cR]; simp only [List.length_take]; omega)
     rw [J]
     exact ⟨_,rfl,rfl,rfl,rfl⟩
    ·rw [decide_eq_false c3,if_pos (by simp)]
     refine .inr ⟨?_,_,rfl⟩
     rintro ⟨_,_,s',h1,h2⟩
     have:=h1.1
     rw [u] at this; cases this
     exact c3 h2
   ·rw [T]
    obtain ⟨e1,e2⟩:=e
    simp only at w3; subst w3
    refine .inr ⟨?_,_,rfl⟩
    rintro ⟨_,_,s',h1,h2⟩
    have:=h1.1
    rw [u] at this; cases this
    exact O h1.2
  ·simp only at B
   rw [B]
   obtain ⟨e1,e2⟩:=e
   simp only at a3; subst a3
   refine .inr ⟨?_,_,rfl⟩
   rintro ⟨_,_,s',h1,h2⟩
   have:=h1.1
   rw [u] at this; cases this
 ·rw [if_pos]
  ·exact .inr ⟨fun z=>a ⟨z.1,z.2.1⟩,_,rfl⟩
  ·cases q:b.2.2
   ·rfl
   ·have:b.1.length≠dss.length:=fun z=>a ⟨q,z⟩
    simp; omega
theorem vY {g:Graph}(h:SmGraph g):GC g:=by
 have b:(1048576:Nat)<bY:=by decide
 have a:=h.Nodes
 exact ⟨Nat.lt_of_le_of_lt a.1 b,Nat.lt_of_le_of_lt h.Outs b,fun n m=>Nat.lt_of_le_of_lt (a.2 n m).Args b,fun n m=>Nat.lt_of_le_of_lt (a.2 n m).Dims b,fun n m=>Nat.lt_of_le_of_lt (a.2 n m).Ints b,fun n m=>Nat.lt_of_le_of_lt (a.2 n m).Data b,fun n m=>(a.2 n m).Form⟩
theorem Am {g:Graph}(h:¬ fV (lu g) 1048576<0):SmGraph g:=pH (by unfold fV at h; split at h<;>omega)
def gN (p:Nat→Bool)(n:Nat):List Int:=((List.range n).filter p).map fun k:Nat=>(k:Int)
theorem jj (p:Nat→Bool)(n:Nat):gN p (n+1)=if p n=true then gN p n++[(n:Int)] else gN p n:=by
 unfold gN
 rw [List.range_succ,List.filter_append,List.map_append]
 by_cases h:p n=true<;>simp [h]
theorem oK (p:Nat→Bool)(n:Nat):(gN p n).length≤n:=by
 unfold gN
 rw [List.length_map]
 have:=List.length_filter_le p (List.range n)
 simpa using this
def GA (g:Graph):Prop:=g.Nodes.length≤200∧∀ k:Nat,k<g.Nodes.length→(ix g.Nodes (k:Int)).Args.length≤6∧∀ a∈(ix g.Nodes (k:Int)).Args,0≤a∧a<(k:Int)
def Sn (s:List Bool)(j:Nat):Prop:=ix s (j:Int)=true
def Cl (g:Graph)(B:Nat→Prop)(s:List Bool):Prop:=∀ j:Nat,j<g.Nodes.length→Sn s j→¬ B j→∀ a∈(ix g.Nodes (j:Int)).Args,Sn s a.toNat
def Te (g:Graph)(T:Nat→Prop):Prop:=∀ j:Nat,j<g.Nodes.length→T j→∀ a∈(ix g.Nodes (j:Int)).Args,T a.toNat
theorem jY {s:List Bool}{k j:Nat}(a:k<s.length){b:Bool}:Sn (s.set k b) j↔if j=k then b=true else Sn s j:=by
 unfold Sn
 by_cases e:j=k
 ·subst e; rw [if_pos rfl,bQ (by simpa using a)]; simp
 ·rw [if_neg e]
  by_cases hj:j<s.length
  ·rw [bQ (by simpa using hj),bQ hj,List.getElem_set_ne (fun z=>e z.symm)]
  ·simp [ix,List.getElem?_set,hj,show ¬ k=j from fun z=>e z.symm]
theorem tL {g:Graph}(hg:GA g):∀ (n k:Nat),k<n→k<g.Nodes.length→∀ (B:Nat→Prop) (s:List Bool),s.length=g.Nodes.length→(∀ j,B j→k<j)→Cl g B s →
  ∃ s',Zv_R n g (k:Int) s=some s'∧s'.length=g.Nodes.length∧(∀ j,Sn s j→Sn s' j)∧Sn s' k∧Cl g B s'∧∀ T:Nat→Prop,Te g T→T k→(∀ j,Sn s j→T j)→∀ j,Sn s' j→T j
 | 0,k,h,_,_,_,_,_,_=>absurd h (Nat.not_lt_zero _)
 | n+1,k,hkn,E,B,s,hl,hB,hc=>by
  show ∃ s',Zv_S (Zv_R n) g (k:Int) s=some s'∧_
  unfold Zv_S
  rw [if_pos (by omega)]
  by_cases q:ix s (k:Int)=true
  ·rw [if_pos q]
   exact ⟨s,rfl,hl,fun _ h=>h,q,hc,fun T _ _ h=>h⟩
  ·rw [if_neg q,Int.toNat_natCast]
   obtain ⟨a0,ha⟩:=hg.2 k E
   obtain ⟨r,h1,h2⟩:=fP (f:=fun z:List Bool×Int=>Zv_L1 g (k:Int) (Zv_R n) z.1 z.2)
    (fun i z=>z.2=(i:Int)∧z.1.length=g.Nodes.length∧(∀ j,Sn s j→Sn z.1 j)∧Sn z.1 k∧Cl g (fun j=>B j∨j=k) z.1∧(∀ j:Nat,j<i→Sn z.1 (ix (ix g.Nodes (k:Int)).Args (j:Int)).toNat)∧∀ T:Nat→Prop,Te g T→T k→(∀ j,Sn s j→T j)→∀ j,Sn z.1 j→T j)
    (ix g.Nodes (k:Int)).Args.length
    (Post:=fun s'=>s'.length=g.Nodes.length∧(∀ j,Sn s j→Sn s' j)∧Sn s' k∧Cl g B s'∧∀ T:Nat→Prop,Te g T→T k→(∀ j,Sn s j→T j)→∀ j,Sn s' j→T j)
    (fun i z hi hI=>by
     obtain ⟨x,i'⟩:=z
     obtain ⟨rfl,F,G,I,J,L,M⟩:=hI
     dsimp only at F G I J L M
     have Y:=ha _ (bE hi)
     obtain ⟨c,D⟩:∃ c:Nat,ix (ix g.Nodes (k:Int)).Args (i:Int)=(c:Int):=⟨_,(Int.toNat_of_nonneg Y.1).symm⟩
     have a1:c<k:=by omega
     simp only [Zv_L1]
     rw [if_pos (by omega),if_pos (by simp; omega),if_pos (by omega),D]
     obtain ⟨s',e1,e2,Z,e4,e5,e6⟩:=tL hg n c (by omega) (by omega) (fun j=>B j∨j=k) x F (fun j b=>by
      rcases b with b | b
      ·have:=hB j b; omega
      ·omega) J
     rw [e1]
     simp only [Option.bind_some]
     refine ⟨_,rfl,by rw [bU (by unfold bY; omega)],e2,fun j h=>Z j (G j h),Z _ I,e5,fun j b=>?_,fun T O E u j b=>?_⟩
     ·by_cases e:j=i
      ·subst e; rw [D]; exact e4
      ·exact Z _ (L j (by omega))
     ·refine e6 T O ?_ (M T O E u) j b
      have:=O k (by omega) E _ (bE hi)
      rwa [D] at this)
    (fun z hI=>by
     obtain ⟨x,i'⟩:=z
     obtain ⟨rfl,F,G,I,J,L,M⟩:=hI
     dsimp only at F G I J L M
     simp only [Zv_L1]
     rw [if_pos (by omega),if_neg (by simp)]
     refine ⟨x,rfl,F,G,I,fun j b u U a l=>?_,M⟩
     by_cases e:j=k
     ·subst e
      obtain ⟨m,Y,rfl⟩:=List.getElem_of_mem l
      have:=L m Y
      rwa [bQ Y] at this
     ·exact J j b u (fun z=>by rcases z with z | z; exact U z; exact e z) a l)
    (s:=(s.set k true,0)) ⟨rfl,by simpa using hl,fun j h=>by
     rw [jY (by omega)]; split
     ·rfl
     ·exact h,by rw [jY (by omega),if_pos rfl],fun j b u U a l=>by
     rw [jY (by omega)] at u
     by_cases e:j=k
     ·exact absurd (.inr e) U
     ·rw [if_neg e] at u
      have:=hc j b u (fun z=>U (.inl z)) a l
      rw [jY (by omega)]; split
      ·rfl
      ·exact this,fun j b=>absurd b (Nat.not_lt_zero _),fun T O E u j b=>by
     rw [jY (by omega)] at b
     by_cases e:j=k
     ·rw [e]; exact E
     ·rw [if_neg e] at b; exact u j b⟩
   rw [h1]
   exact ⟨r,rfl,h2⟩
structure Ls (g:Graph)(s:List Bool):Prop where
 l:s.length=g.Nodes.length
 o:∀ o∈g.Outs,Sn s o.toNat
 c:Te g (Sn s)
 m:∀ T:Nat→Prop,Te g T→(∀ o∈g.Outs,T o.toNat)→∀ j,Sn s j→T j
theorem Ls.eq {g:Graph}{s t:List Bool}(e:Ls g s)(i:Ls g t):s=t:=by
 have q:s.length=t.length:=by rw [e.l,i.l]
 refine List.ext_getElem q fun j h1 h2=>?_
 have a:=e.m _ i.c i.o j
 have b:=i.m _ e.c e.o j
 unfold Sn at a b
 rw [bQ h1,bQ h2] at a b
 cases h:s[j]<;>cases h':t[j]<;>simp_all
theorem xB {g:Graph}(M:GA g)(ho:g.Outs.length≤40)(I:∀ o∈g.Outs,0≤o∧o<(g.Nodes.length:Int)):∃ s,Z0x g=some s∧Ls g s:=by
 have hn:=M.1
 have b:∀ j,¬ Sn (List.replicate g.Nodes.length false) j:=by
  intro j h
  unfold Sn at h
  by_cases c:j<g.Nodes.length
  ·rw [bQ (by simpa using c)] at h; simp at h
  ·simp [ix,c] at h
 unfold Z0x
 rw [if_pos (by omega),Int.toNat_natCast]
 obtain ⟨r,h1,h2⟩:=fP (f:=fun z:List Bool×Int=>Z0x_L1 g z.1 z.2)
  (fun i z=>z.2=(i:Int)∧z.1.length=g.Nodes.length∧Cl g (fun _=>False) z.1∧(∀ j:Nat,j<i→Sn z.1 (ix g.Outs (j:Int)).toNat)∧∀ T:Nat→Prop,Te g T→(∀ o∈g.Outs,T o.toNat)→∀ j,Sn z.1 j→T j)
  g.Outs.length (Post:=fun s=>Ls g s)
  (fun i z O G=>by
   obtain ⟨x,i'⟩:=z
   obtain ⟨rfl,u,B,D,E⟩:=G
   dsimp only at u B D E
   have F:=I _ (bE O)
   obtain ⟨c,l⟩:∃ c:Nat,ix g.Outs (i:Int)=(c:Int):=⟨_,(Int.toNat_of_nonneg F.1).symm⟩
   simp only [Z0x_L1]
   rw [if_pos (by simp; omega),if_pos (by omega),l]
   obtain ⟨s',U,Y,Z,e4,e5,e6⟩:=tL M jv c (by unfold jv; omega) (by omega) (fun _=>False) x u (fun j h=>h.elim) B
   rw [show Zv g (c:Int) x=some s' from U]
   simp only [Option.bind_some]
   refine ⟨_,rfl,by rw [bU (by unfold bY; omega)],Y,e5,fun j q=>?_,fun T L J j q=>?_⟩
   ·by_cases e:j=i
    ·subst e; rw [l]; exact e4
    ·exact Z _ (D j (by omega))
   ·refine e6 T L ?_ (E T L J) j q
    have:=J _ (bE O)
    rwa [l] at this)
  (fun z G=>by
   obtain ⟨x,i'⟩:=z
   obtain ⟨rfl,u,B,D,E⟩:=G
   dsimp only at u B D E
   simp only [Z0x_L1]
   rw [if_neg (by simp)]
   refine ⟨x,rfl,u,fun o h=>?_,fun j q hs a ha=>B j q hs (fun z=>z) a ha,E⟩
   obtain ⟨m,F,rfl⟩:=List.getElem_of_mem h
   have:=D m F
   rwa [bQ F] at this)
  (s:=(List.replicate g.Nodes.length false,0)) ⟨rfl,by simp,fun j _ h=>absurd h (b j),fun j q=>absurd q (Nat.not_lt_zero _),fun T _ _ j h=>absurd h (b j)⟩
 rw [h1]
 exact ⟨r,rfl,h2⟩
theorem xC {g:Graph}(U:GA g){k:Nat}(Z:k<g.Nodes.length){s:List Bool}(hl:s.length=g.Nodes.length) :
  ∃ s',aQ (fun z:List Bool×Int=>Ze_L3 g (k:Int) z.1 z.2) (s,0)=some s'∧s'.length=g.Nodes.length∧(∀ j,Sn s j→Sn s' j)∧(∀ j,k≤j→Sn s' j→Sn s j)∧(Sn s k→∀ a∈(ix g.Nodes (k:Int)).Args,Sn s' a.toNat)∧∀ T:Nat→Prop,Te g T→(∀ j,Sn s j→T j)→∀ j,Sn s' j→T j:=by
 have hn:=U.1
 obtain ⟨a0,ha⟩:=U.2 k Z
 refine fP (f:=fun z:List Bool×Int=>Ze_L3 g (k:Int) z.1 z.2)
  (fun i z=>z.2=(i:Int)∧z.1.length=g.Nodes.length∧(∀ j,Sn s j→Sn z.1 j)∧(∀ j,k≤j→Sn z.1 j→Sn s j)∧(Sn s k→∀ j:Nat,j<i→Sn z.1 (ix (ix g.Nodes (k:Int)).Args (j:Int)).toNat)∧∀ T:Nat→Prop,Te g T→(∀ j,Sn s j→T j)→∀ j,Sn z.1 j→T j)
  (ix g.Nodes (k:Int)).Args.length (fun i z Y J=>?_) (fun z J=>?_) (s:=(s,0)) ⟨rfl,hl,fun _ h=>h,fun _ _ h=>h,fun _ j G=>absurd G (Nat.not_lt_zero _),fun T _ h=>h⟩
 ·obtain ⟨x,i'⟩:=z
  obtain ⟨rfl,B,r,u,D,E⟩:=J
  dsimp only at B r u D E
  have I:=ha _ (bE Y)
  obtain ⟨c,l⟩:∃ c:Nat,ix (ix g.Nodes (k:Int)).Args (i:Int)=(c:Int):=⟨_,(Int.toNat_of_nonneg I.1).symm⟩
  have a1:c<k:=by omega
  have M:c<x.length:=by omega
  simp only [Ze_L3]
  rw [if_pos (by simp; omega),if_pos (by omega),l,if_pos (by simp; omega),if_pos (fun _=>by simp; omega),Int.toNat_natCast]
  simp only [nm,Option.bind_some]
  have b:∀ j,Sn (x.set c (ix x (c:Int)||ix x (k:Int))) j↔Sn x j∨j=c∧Sn x k:=by
   intro j
   rw [jY M]
   by_cases e:j=c
   ·subst e
    rw [if_pos rfl,Bool.or_eq_true]
    exact ⟨fun h=>h.imp id (fun h=>⟨rfl,h⟩),fun h=>h.imp id (fun h=>h.2)⟩
   ·rw [if_neg e]
    exact ⟨.inl,fun h=>h.resolve_right (fun z=>e z.1)⟩
  refine ⟨_,rfl,by rw [bU (by unfold bY; omega)],by simpa using B,fun j h=>(b j).2 (.inl (r j h)),fun j G h=>?_,fun F j G=>?_,fun T O hs j h=>?_⟩
  ·rcases (b j).1 h with q | ⟨q,_⟩
   ·exact u j G q
   ·omega
  ·by_cases e:j=i
   ·subst e; rw [l]; exact (b _).2 (.inr ⟨by simp,r k F⟩)
   ·exact (b _).2 (.inl (D F j (by omega)))
  ·rcases (b j).1 h with q | ⟨q,w⟩
   ·exact E T O hs j q
   ·have:=O k Z (hs k (u k (Nat.le_refl _) w)) _ (bE Y)
    rw [l] at this
    rw [q]; simpa using this
 ·obtain ⟨x,i'⟩:=z
  obtain ⟨rfl,B,r,u,D,E⟩:=J
  dsimp only at B r u D E
  simp only [Ze_L3]
  rw [if_neg (by simp)]
  refine ⟨x,rfl,B,r,u,fun h a L=>?_,E⟩
  obtain ⟨m,I,rfl⟩:=List.getElem_of_mem L
  have:=D h m I
  rwa [bQ I] at this
theorem xD {g:Graph}(hg:GA g)(ho:g.Outs.length≤40)(U:∀ o∈g.Outs,0≤o∧o<(g.Nodes.length:Int)):∃ s,Ze g=some s∧Ls g s:=by
 have hn:=hg.1
 have I:∀ j,¬ Sn (List.replicate g.Nodes.length false) j:=by
  intro j h
  unfold Sn at h
  by_cases c:j<g.Nodes.length
  ·rw [bQ (by simpa using c)] at h; simp at h
  ·simp [ix,c] at h
 unfold Ze
 rw [if_pos (by omega)]
 obtain ⟨r,h1,h2,J,h4⟩:=fP (f:=fun z:List Bool×Int=>Ze_L1 g z.1 z.2)
  (fun i z=>z.2=(i:Int)∧z.1.length=g.Nodes.length∧(∀ j:Nat,j<i→Sn z.1 (ix g.Outs (j:Int)).toNat)∧∀ T:Nat→Prop,(∀ o∈g.Outs,T o.toNat)→∀ j,Sn z.1 j→T j)
  g.Outs.length (Post:=fun s=>s.length=g.Nodes.length∧(∀ o∈g.Outs,Sn s o.toNat)∧∀ T:Nat→Prop,(∀ o∈g.Outs,T o.toNat)→∀ j,Sn s j→T j)
  (fun i z L D=>by
   obtain ⟨x,Y⟩:=z
   obtain ⟨rfl,b,l,u⟩:=D
   dsimp only at b l u
   have O:=U _ (bE L)
   simp only [Ze_L1]
   rw [if_pos (by simp; omega),if_pos (by omega),if_pos (by simp; omega)]
   refine ⟨_,rfl,by rw [bU (by unfold bY; omega)],by simpa using b,fun j B=>?_,fun T E j B=>?_⟩
   ·rw [jY (by omega)]
    by_cases e:j=i
    ·subst e; rw [if_pos rfl]
    ·split
     ·rfl
     ·exact l j (by omega)
   ·rw [jY (by omega)] at B
    by_cases e:j=(ix g.Outs (i:Int)).toNat
    ·rw [e]; exact E _ (bE L)
    ·rw [if_neg e] at B; exact u T E j B)
  (fun z D=>by
   obtain ⟨x,Y⟩:=z
   obtain ⟨rfl,b,l,u⟩:=D
   dsimp only at b l u
   simp only [Ze_L1]
   rw [if_neg (by simp)]
   refine ⟨x,rfl,b,fun o h=>?_,u⟩
   obtain ⟨m,O,rfl⟩:=List.getElem_of_mem h
   have:=l m O
   rwa [bQ O] at this)
  (s:=(List.replicate (g.Nodes.length:Int).toNat false,0)) ⟨rfl,by simp,fun j B=>absurd B (Nat.not_lt_zero _),fun T _ j h=>absurd (by simpa using h) (I j)⟩
 rw [h1]
 simp only [Option.bind_some,Ze_J1]
 obtain ⟨q,q1,q2⟩:=fP (f:=fun z:List Bool×Int=>Ze_L2 g z.1 z.2)
  (fun i z=>z.2=(g.Nodes.length:Int) - 1 - (i:Int)∧z.1.length=g.Nodes.length∧(∀ o∈g.Outs,Sn z.1 o.toNat)∧(∀ j:Nat,g.Nodes.length≤j+i→j<g.Nodes.length→Sn z.1 j→∀ a∈(ix g.Nodes (j:Int)).Args,Sn z.1 a.toNat)∧∀ T:Nat→Prop,Te g T→(∀ o∈g.Outs,T o.toNat)→∀ j,Sn z.1 j→T j)
  g.Nodes.length (Post:=fun s=>Ls g s)
  (fun i z L D=>by
   obtain ⟨x,Y⟩:=z
   obtain ⟨rfl,b,l,u,F⟩:=D
   dsimp only at b l u F
   obtain ⟨k,hk⟩:∃ k:Nat,k=g.Nodes.length - 1 - i:=⟨_,rfl⟩
   have M:(g.Nodes.length:Int) - 1 - (i:Int)=(k:Int):=by omega
   simp only [Ze_L2]
   rw [M,if_pos (by simp),if_pos (by omega)]
   obtain ⟨s',e1,e2,Z,e4,e5,e6⟩:=xC hg (k:=k) (by omega) b
   rw [e1]
   simp only [Option.bind_some,Ze_J3]
   refine ⟨_,rfl,by rw [bB (by omega) (by omega)]; omega,e2,fun o h=>Z _ (l o h),fun j h1 h2 J a G=>?_,fun T hT E=>e6 T hT (F T hT E)⟩
   by_cases e:j=k
   ·subst e; exact e5 (e4 j (Nat.le_refl _) J) a G
   ·exact Z _ (u j (by omega) h2 (e4 j (by omega) J) a G))
  (fun z D=>by
   obtain ⟨x,Y⟩:=z
   obtain ⟨rfl,b,l,u,F⟩:=D
   dsimp only at b l u F
   simp only [Ze_L2]
   rw [if_neg (by simp; omega)]
   exact ⟨x,rfl,b,l,fun j B=>u j (by omega) B,F⟩)
  (s:=(r,aH ((g.Nodes.length:Int) - 1))) ⟨by rw [bB (by omega) (by omega)]; omega,h2,J,fun j a0 a1=>by omega,fun T _ E=>h4 T E⟩
 rw [q1]
 exact ⟨q,rfl,q2⟩
theorem An {g:Graph}{j:List Tensor}(i:g.Nodes.length≤200)(h:Ai g g.Nodes.length j):GA g:=by
 refine ⟨i,fun k e=>?_⟩
 obtain ⟨a,b,_⟩:=h k e
 exact ⟨kh a,b⟩
theorem ve {s:List Bool}(e:s.length≤200):aQ (fun z:List Int×Int=>Z07_L1 s z.1 z.2) ([],0)=some (gN (fun k=>ix s (k:Int)) s.length):=by
 refine eH (f:=fun z:List Int×Int=>Z07_L1 s z.1 z.2) (fun k=>(gN (fun k=>ix s (k:Int)) k,(k:Int))) s.length (fun k a=>?_) ?_ rfl
 ·have b:=oK (fun k=>ix s (k:Int)) k
  simp only [Z07_L1,Z07_J2]
  rw [if_pos (by simp; omega),if_pos (by omega),bU (by unfold bY; omega)]
  by_cases q:ix s (k:Int)=true
  ·rw [if_pos q,if_pos (by simp; omega),jj,if_pos q]
  ·rw [if_neg q,jj,if_neg q]
 ·simp only [Z07_L1]
  rw [if_neg (by simp)]
theorem vZ {ls:List Int}(h:∀ d∈ls,1≤d)(e:pr ls≤65536){j:Nat}(a:j<ls.length):aH (pr (ls.take j)*ix ls (j:Int))=pr (ls.take (j+1)):=by
 have h1:=jA h j
 have h2:=jA h (j+1)
 rw [nN a] at h2 ⊢
 have b:=h _ (bE a)
 have:=iV h1.1 (show (0:Int)≤ix ls (j:Int) by omega)
 rw [hJ (by omega) (by omega) (by omega) (by omega)]
theorem xE {ls:List Int}(e:ls.length<bY)(h:∀ d∈ls,1≤d)(b:pr ls≤65536):Z9 ls=some (pr ls):=by
 unfold Z9
 rw [eH (f:=fun s:Int×Int=>Z9_L1 ls s.1 s.2) (r:=pr ls) (fun j=>(pr (ls.take j),(j:Int))) ls.length
  (fun j a=>by simp only [Z9_L1]; rw [if_pos (by simp; omega),if_pos (by omega),vZ h b a,bU (by omega)])
  (by simp only [Z9_L1]; rw [if_neg (by simp),List.take_length]) (by simp [pr])]
 rfl
theorem xF {ls:List Int}{a:aN}{b:Bool}(i:ls.length<bY)(h:∀ d∈ls,1≤d)(g:pr ls≤65536):aQ (fun s:Int×Int=>Z4_L3 (a,ls,b) s.1 s.2) (1,0)=some (pr ls) :=
 eH (f:=fun s:Int×Int=>Z4_L3 (a,ls,b) s.1 s.2) (r:=pr ls) (fun j=>(pr (ls.take j),(j:Int))) ls.length
  (fun j e=>by simp only [Z4_L3]; rw [if_pos (by simp; omega),if_pos (by omega),vZ h g e,bU (by omega)])
  (by simp only [Z4_L3]; rw [if_neg (by simp),List.take_length]) (by simp [pr])
theorem vf {g:Graph}{b:List (List Int)}{h:List Int}{i:Int}{k:Nat}(l:ix h i=(k:Int))(m:(ix g.Nodes (k:Int)).Args.length≤6)(hw:∀ a∈(ix g.Nodes (k:Int)).Args,0≤a∧a<(b.length:Int)) :
  aQ (fun s:List (List Int)×Int=>Z4_L2 g b h i s.1 s.2) ([],0)=some ((ix g.Nodes (k:Int)).Args.map fun a=>ix b a):=by
 refine eH (f:=fun s:List (List Int)×Int=>Z4_L2 g b h i s.1 s.2) (fun j=>(((ix g.Nodes (k:Int)).Args.take j).map fun a=>ix b a,(j:Int))) (ix g.Nodes (k:Int)).Args.length (fun j e=>?_) ?_ rfl
 ·have q:=hw _ (bE e)
  simp only [Z4_L2,l]
  rw [if_pos (by simp; omega),if_pos (by omega),if_pos (by omega),if_pos (by simp; omega),bU (by unfold bY; omega),List.take_succ_eq_append_getElem e,List.map_append,bQ e]
  rfl
 ·simp only [Z4_L2,l]
  rw [if_neg (by simp),List.take_length]
theorem vg {xs:List Int}{b:List (List Int)}(j:xs.length≤6)(hw:∀ a∈xs,0≤a∧a<(b.length:Int)):Z0m xs b=some (xs.map fun a=>ix b a):=by
 unfold Z0m
 rw [if_pos (by omega)]
 have:=mO (xs.map fun a=>ix b a) [] (fun s:(List (List Int))×Int=>Z0m_L1 xs b s.1 s.2) (fun s i=>(s,i)) (fun ys k g e=>by
  rw [List.length_map] at e g
  have h:=hw _ (bE e)
  show Z0m_L1 xs b ys (k:Int)=_
  unfold Z0m_L1 Z2y
  rw [if_pos (Aj e),if_pos (pD e),if_pos h,aW,if_pos (xA e),bU (by unfold bY; omega),bQ (xs:=xs.map fun a=>ix b a) (by simpa using e),List.getElem_map,bQ (xs:=xs) e]; rfl) (fun ys _=>by
  rw [List.length_map]
  show Z0m_L1 xs b ys (xs.length:Int)=_
  unfold Z0m_L1; simp only [tz,Bool.false_eq_true,if_false])
 rw [List.length_map] at this
 rw [this]
 rfl
noncomputable def qx (g:Graph)(b:List (List Int))(k:Nat):Int :=
 if (ix g.Nodes (k:Int)).Op=1∨(ix g.Nodes (k:Int)).Op=2 then 0 else
 if (ix g.Nodes (k:Int)).Op=11 then (match Z3 (parts (ix g.Nodes (k:Int)).Form).1 (parts (ix g.Nodes (k:Int)).Form).2.1 ((ix g.Nodes (k:Int)).Args.map fun a=>ix b a) with | some r=>pr r.2.1 | none=>0) else pr (ix b (k:Int))
theorem tM {n:Node}{out:List Tensor}{t:Tensor}(T:n.Form.length≤1048576)(ho:out.length≤200)(I:∀ t∈out,TT t)(ha:n.Args.length≤6)(E:n.Op=11)(hw:ng n out.length)(m:Do n out=some t)(U:TT t) :
  ∃ (s:aN×List Int) (r:form),Z3 (parts n.Form).1 (parts n.Form).2.1 (n.Args.map fun a=>ix (out.map Tensor.Dims) a)=some (s.1,s.1.map (lk s.2),true)∧Z0 n.Form (n.Args.map fun a=>ix (out.map Tensor.Dims) a)=some (r,true)∧r.loops=s.1.map (lk s.2)∧(∀ d∈s.1.map (lk s.2),1≤d)∧pr (s.1.map (lk s.2))≤65536∧s.1.length≤42:=by
 obtain ⟨A,j⟩:∃ A,A=n.Args.map fun a=>ix out a:=⟨_,rfl⟩
 have O:∀ t∈A,TT t:=by
  rw [j]; intro u hu
  obtain ⟨a,h1,rfl⟩:=List.mem_map.1 hu
  exact I _ (hH (hw a h1).1 (hw a h1).2).2
 have B:(n.Args.map fun a=>ix (out.map Tensor.Dims) a)=A.map Tensor.Dims:=by
  rw [j,List.map_map]
  exact List.map_congr_left fun a h1=>(hH (hw a h1).1 (hw a h1).2).1
 have D:Do n out=(Z6 n.Form A).bind fun r=>some r:=by
  unfold Do Z2
  rw [if_neg (by omega),← j]
  simp only [Z2_J1,Z2_J2,E]
  simp only [Int.reduceBEq,Bool.false_eq_true,if_false,if_true,beq_self_eq_true]
 have b:∀ ds∈A.map Tensor.Dims,eB ds:=by
  intro ds h
  obtain ⟨u,h1,rfl⟩:=List.mem_map.1 h
  exact (O u h1).d
 rw [B]
 rcases mM T O (by rw [j]; simpa using ha) with ⟨s,⟨q,g,L,Z⟩,d,c5,c6⟩|⟨q,g⟩
 ·rcases tK T b with ⟨_,_,s',k1,k2,r,k3,k4,k5,k6⟩|⟨k1,_⟩
  ·have G:s'=s:=by
    have e:=k1.1
    rw [L.1] at e
    exact (Option.some.inj e).symm
   subst G
   have i:PO (parts n.Form).1 (parts n.Form).2.1:=by
    revert q; unfold parts
    split
    ·intro h; cases h
    ·split
     ·intro _; assumption
     ·intro h; cases h
   have M:=kZ i g b k1.1
   rcases nj i g b with ⟨Y,J,m2⟩|⟨J,_⟩
   ·have F:Y=s':=by
     have e:=J.1
     rw [k1.1] at e
     exact (Option.some.inj e).symm
    subst F
    exact ⟨Y,r,m2,k3,k6,fun d m=>(M.d d m).1,k1.2,M.l⟩
   ·exact absurd k1 (J s')
  ·exact absurd ⟨q,g,s,L,Z⟩ k1
 ·rw [D,g] at m
  cases m
  have:=U.l
  have:=U.d.2.pos
  simp at *
  omega
noncomputable def l4 (g:Graph)(a:List (List Int))(s:List Bool):Nat→Int
 | 0=>0
 | k+1=>l4 g a s k+if ix s (k:Int)=true then qx g a k else 0
theorem rj {g:Graph}{j:List Tensor}(hg:GC g)(hn:g.Nodes.length≤200)(hl:j.length=g.Nodes.length)(ht:∀ t∈j,TT t)(hr:Ai g g.Nodes.length j){k:Nat}(hk:k<g.Nodes.length) :
  (0≤qx g (j.map Tensor.Dims) k∧qx g (j.map Tensor.Dims) k≤65536) ∧
  (∀ (l:List Int) (i:Nat) (b:Int),i<l.length→l.length≤200→ix l (i:Int)=(k:Int)→0≤b→b≤13107200→Z4_L1 g (j.map Tensor.Dims) l b (i:Int)=some (.inl (b+qx g (j.map Tensor.Dims) k,((i+1:Nat):Int)))) ∧
  (∀ (s:List Bool) (b:Int),s.length=g.Nodes.length→0≤b→b≤13107200→Zw_L1 g (j.map Tensor.Dims,true) s b (k:Int)=some (.inl (b+(if ix s (k:Int)=true then qx g (j.map Tensor.Dims) k else 0),((k+1:Nat):Int)))):=by
 obtain ⟨h1,h2,h3⟩:=hr k hk
 have q:=kh h1
 have hm:=bE hk
 have O:(j.take k).length=k:=by rw [List.length_take]; omega
 have a3:ix j (k:Int)∈j:=bE (by omega)
 have L:=ht _ a3
 have Y:ix (j.map Tensor.Dims) (k:Int)=(ix j (k:Int)).Dims:=(hH (by omega) (by omega)).1
 have E:SZ (ix (j.map Tensor.Dims) (k:Int)):=by rw [Y]; exact L.d.2
 have a2:(ix (j.map Tensor.Dims) (k:Int)).length≤6:=by rw [Y]; exact L.d.1
 have T:((ix g.Nodes (k:Int)).Args.map fun a=>ix ((j.take k).map Tensor.Dims) a)=((ix g.Nodes (k:Int)).Args.map fun a=>ix (j.map Tensor.Dims) a):=by
  refine List.map_congr_left fun a ha=>?_
  have hw:=h2 a ha
  obtain ⟨m,rfl⟩:=Int.eq_ofNat_of_zero_le hw.1
  rw [(hH (out:=j.take k) hw.1 (by rw [O]; omega)).1,(hH (out:=j) hw.1 (by omega)).1,bQ (xs:=j.take k) (by omega),bQ (xs:=j) (by omega),List.getElem_take]
 have I:∀ a∈(ix g.Nodes (k:Int)).Args,0≤a∧a<((j.map Tensor.Dims).length:Int):=fun a ha=>by
  have:=h2 a ha
  simp only [List.length_map]; omega
 by_cases o1:(ix g.Nodes (k:Int)).Op=1∨(ix g.Nodes (k:Int)).Op=2
 ·have J:qx g (j.map Tensor.Dims) k=0:=by unfold qx; rw [if_pos o1]
  rw [J]
  refine ⟨⟨by omega,by omega⟩,fun l i b B G D Z b5=>?_,fun s b B G D=>?_⟩
  ·simp only [Z4_L1,D]
   rw [if_pos (by simp; omega),if_pos (by omega),if_pos (by omega)]
   have j5:Z4_J5 g (j.map Tensor.Dims) l b (i:Int) true=some (.inl (b+0,((i+1:Nat):Int))):=by
    simp only [Z4_J5,Z4_J8]
    rw [if_pos trivial,bU (by unfold bY; omega),Int.add_zero]
   rcases o1 with o | o
   ·rw [if_pos (by simp [o]),o]; exact j5
   ·rw [if_neg (by simp [o]),o]; exact j5
  ·simp only [Zw_L1,Zw_J2]
   rw [if_pos (by simp; omega),if_pos (by omega),if_pos (by omega),if_pos (by rcases o1 with o | o<;>simp [o]),bU (by unfold bY; omega)]
   simp
 ·have F:(ix g.Nodes (k:Int)).Op≠1∧(ix g.Nodes (k:Int)).Op≠2:=⟨fun z=>o1 (.inl z),fun z=>o1 (.inr z)⟩
  have M:∀ c:Int,qx g (j.map Tensor.Dims) k=c→0≤c→c≤65536 →
    (∀ (l:List Int) (i:Nat) (b:Int),ix l (i:Int)=(k:Int)→i<200→0≤b→b≤13107200→Z4_J5 g (j.map Tensor.Dims) l b (i:Int) false=some (.inl (b+c,((i+1:Nat):Int)))) →
    (∀ (b:Int),0≤b→b≤13107200→(if ((ix g.Nodes (k:Int)).Op==(11:Int))=true then (
      (Z0m ((ix g.Nodes (k:Int)).Args) (j.map Tensor.Dims)).bind fun (a4:(List (List Int))) =>
      (Z0 ((ix g.Nodes (k:Int)).Form) a4).bind fun (a5:form×Bool) =>
      (Z9 a5.1.loops).bind fun (a6:Int) =>
      Zw_J2 (k:Int) (aH (b+a6)))
     else (
      if (0≤(k:Int)∧(k:Int)<((j.map Tensor.Dims).length:Int)) then
       (Z9 (ix (j.map Tensor.Dims) (k:Int))).bind fun (a7:Int) =>
       Zw_J2 (k:Int) (aH (b+a7))
      else none))=some (.inl (b+c,((k+1:Nat):Int)))) →
    (0≤qx g (j.map Tensor.Dims) k∧qx g (j.map Tensor.Dims) k≤65536) ∧
    (∀ (l:List Int) (i:Nat) (b:Int),i<l.length→l.length≤200→ix l (i:Int)=(k:Int)→0≤b→b≤13107200→Z4_L1 g (j.map Tensor.Dims) l b (i:Int)=some (.inl (b+qx g (j.map Tensor.Dims) k,((i+1:Nat):Int)))) ∧
    (∀ (s:List Bool) (b:Int),s.length=g.Nodes.length→0≤b→b≤13107200→Zw_L1 g (j.map Tensor.Dims,true) s b (k:Int)=some (.inl (b+(if ix s (k:Int)=true then qx g (j.map Tensor.Dims) k else 0),((k+1:Nat):Int)))):=by
   intro c J a0 a1 hs hi
   rw [J]
   refine ⟨⟨a0,a1⟩,fun l i b B G D Z b5=>?_,fun s b B G D=>?_⟩
   ·have:=hs l i b D (by omega) Z b5
    simp only [Z4_L1,D]
    rw [if_pos (by simp; omega),if_pos (by omega),if_pos (by omega),if_neg (by simpa using F.1)]
    have e:((ix g.Nodes (k:Int)).Op==(2:Int))=false:=by simpa using F.2
    rw [e]; exact this
   ·have:=hi b G D
    simp only [Zw_L1]
    rw [if_pos (by simp; omega),if_pos (by omega),if_pos (by omega)]
    by_cases u:ix s (k:Int)=true
    ·rw [if_neg (by simp [u,F.1,F.2]),if_pos u]
     exact this
    ·rw [if_pos (by simp [u]),if_neg u]
     simp only [Zw_J2]
     rw [bU (by unfold bY; omega),Int.add_zero]
  by_cases o2:(ix g.Nodes (k:Int)).Op=11
  ·obtain ⟨s,r,e1,e2,e3,e4,e5,e6⟩:=tM (n:=ix g.Nodes (k:Int)) (out:=j.take k) (hg.f _ hm) (by omega) (fun t h=>ht t (List.mem_of_mem_take h)) q o2 (by rw [O]; exact h2) h3 L
   rw [T] at e1 e2
   have U:=eX e4
   refine M (pr (s.1.map (lk s.2))) (by unfold qx; rw [if_neg o1,if_pos o2,e1]) (by omega) e5 (fun l i b B G D Z=>?_) (fun b B G=>?_)
   ·simp only [Z4_J5]
    rw [B,if_neg (by simp),if_pos (by simpa using o2),vf B q I,aW]
    simp only [Z4_J6]
    rw [B,qr (hg.f _ hm),aW,e1,aW,xF (by simp [bY]; omega) e4 e5,aW]
    simp only [Z4_J7,Z4_J8]
    rw [bB (by omega) (by omega),bU (by unfold bY; omega)]
   ·rw [if_pos (by simpa using o2),vg q I,aW,e2,aW]
    show (Z9 r.loops).bind _=_
    rw [e3,xE (by simp [bY]; omega) e4 e5,aW]
    simp only [Zw_J2]
    rw [bB (by omega) (by omega),bU (by unfold bY; omega)]
  ·have U:=E.pos
   have a8:=E.2
   refine M (pr (ix (j.map Tensor.Dims) (k:Int))) (by unfold qx; rw [if_neg o1,if_neg o2]) (by omega) (by omega) (fun l i b B G D Z=>?_) (fun b B G=>?_)
   ·simp only [Z4_J5]
    rw [B,if_neg (by simp),if_neg (by simpa using o2),if_pos (by simp; omega),iZ (by unfold bY; omega),if_pos E,aW]
    simp only [Z4_J8]
    rw [bB (by omega) (by omega),bU (by unfold bY; omega)]
   ·rw [if_neg (by simpa using o2),if_pos (by simp; omega),ks (by unfold bY; omega) E,aW]
    simp only [Zw_J2]
    rw [bB (by omega) (by omega),bU (by unfold bY; omega)]
theorem rk {a:Graph}(hs:SmGraph a):∃ x,Z4 a=some x∧Zw a=some x:=by
 obtain ⟨b,sh,ok,h1,h2,h3⟩:=oI (vY hs)
 have G:=vY hs
 unfold Z4 Zw Z0g Z07
 have g1:Z2t a=some ok:=by unfold Z2t; rw [h1]; rfl
 rw [h1,h2,g1,aW,aW,aW]
 cases ok with
 | false =>
  refine ⟨0,?_,by simp⟩
  rw [dH (f:=fun s:List (List Int)×Int=>Z0g_L1 (b,false) s.1 s.2) (r:=[]) (by simp only [Z0g_L1]; rw [if_neg (by simp)]),aW]
  simp only [Z0g_J1]
  rw [aW,if_pos (by simp),aW]
  rw [dH (f:=fun s:Int×Int=>Z4_L1 a [] [] s.1 s.2) (r:=0) (by simp only [Z4_L1]; rw [if_neg (by simp)]),aW]
  rfl
 | true =>
  obtain ⟨a1,a2,a3,a4,a5,T,U⟩:=h3 rfl
  have Z:=An a5 a4
  obtain ⟨s,s1,s2⟩:=xB Z T U
  obtain ⟨t,t1,t2⟩:=xD Z T U
  have L:=s2.eq t2
  subst L
  have hl:=s2.l
  subst a1
  have hd:aQ (fun z:List (List Int)×Int=>Z0g_L1 (b,true) z.1 z.2) ([],0)=some (b.map Tensor.Dims):=by
   refine eH (f:=fun s:List (List Int)×Int=>Z0g_L1 (b,true) s.1 s.2) (fun k=>((b.take k).map Tensor.Dims,(k:Int))) b.length (fun k g=>?_) ?_ rfl
   ·simp only [Z0g_L1]
    rw [if_pos (by simp; omega),if_pos (by omega),if_pos (by simp; omega),bU (by unfold bY; omega),List.take_succ_eq_append_getElem g,List.map_append,bQ g]
    rfl
   ·simp only [Z0g_L1]
    rw [if_neg (by simp),List.take_length]
  rw [hd,aW]
  simp only [Z0g_J1]
  rw [aW,if_neg (by simp),s1,aW,ve (by omega),aW]
  simp only [Z07_J3]
  rw [aW]
  rw [if_neg (by simp),t1,aW]
  obtain ⟨p,J⟩:∃ p:Nat→Bool,p=fun k:Nat=>ix s (k:Int):=⟨_,rfl⟩
  rw [← J]
  have O:=fun k g=>rj G a5 a2 a3 a4 (k:=k) g
  have a0:=oK p s.length
  have Y:∀ k,k≤a.Nodes.length→0≤l4 a (b.map Tensor.Dims) s k∧l4 a (b.map Tensor.Dims) s k≤65536*(k:Int):=by
   intro k
   induction k with
   | zero=>intro _; simp [l4]
   | succ k ih =>
    intro g
    have:=ih (by omega)
    have:=(O k (by omega)).1
    simp only [l4]
    split<;>omega
  have j:∀ k m,k≤m→gN p k <+: gN p m:=by
   intro k m h
   induction m with
   | zero =>
    have:k=0:=by omega
    subst this
    exact List.prefix_refl _
   | succ m ih =>
    by_cases e:k=m+1
    ·subst e; exact List.prefix_refl _
    ·refine (ih (by omega)).trans ?_
     rw [jj]; split
     ·exact List.prefix_append _ _
     ·exact List.prefix_refl _
  -- the reference's loop,node by node
  have D:∀ k,k≤a.Nodes.length→aQ (fun z:Int×Int=>Z4_L1 a (b.map Tensor.Dims) (gN p s.length) z.1 z.2) (0,0)=aQ (fun z:Int×Int=>Z4_L1 a (b.map Tensor.Dims) (gN p s.length) z.1 z.2) (l4 a (b.map Tensor.Dims) s k,((gN p k).length:Int)):=by
   intro k
   induction k with
   | zero=>intro _; rfl
   | succ k ih =>
    intro g
    rw [ih (by omega)]
    have F:=Y k (by omega)
    by_cases u:p k=true
    ·have E:gN p (k+1)=gN p k++[(k:Int)]:=by rw [jj,if_pos u]
     have q:=j (k+1) s.length (by omega)
     rw [E] at q
     obtain ⟨z,hz⟩:=q
     have i:(gN p k).length<(gN p s.length).length:=by rw [← hz]; simp
     have I:ix (gN p s.length) ((gN p k).length:Int)=(k:Int):=by
      rw [bQ i]
      have:(gN p s.length)[(gN p k).length]=((gN p k++[(k:Int)])++z)[(gN p k).length]'(by simp):=by congr 1; exact hz.symm
      rw [this]; simp
     have st:=(O k (by omega)).2.1 (gN p s.length) (gN p k).length (l4 a (b.map Tensor.Dims) s k) i (by omega) I F.1 (by omega)
     rw [eV (f:=fun z:Int×Int=>Z4_L1 a (b.map Tensor.Dims) (gN p s.length) z.1 z.2) st,E]
     have M:ix s (k:Int)=true:=by rw [J] at u; exact u
     simp only [l4,M,if_true,List.length_append,List.length_singleton]
    ·have M:¬ ix s (k:Int)=true:=by rw [J] at u; exact u
     have E:gN p (k+1)=gN p k:=by rw [jj,if_neg u]
     simp only [l4]
     rw [if_neg M,Int.add_zero,E]
  have B:aQ (fun z:Int×Int=>Zw_L1 a (b.map Tensor.Dims,true) s z.1 z.2) (0,0)=some (l4 a (b.map Tensor.Dims) s a.Nodes.length):=by
   refine eH (f:=fun z:Int×Int=>Zw_L1 a (b.map Tensor.Dims,true) s z.1 z.2) (fun k=>(l4 a (b.map Tensor.Dims) s k,(k:Int))) a.Nodes.length (fun k g=>?_) ?_ rfl
   ·have F:=Y k (by omega)
    have st:=(O k g).2.2 s (l4 a (b.map Tensor.Dims) s k) hl F.1 (by omega)
    simp only [l4]
    exact st
   ·simp only [Zw_L1]
    rw [if_neg (by simp; omega)]
  rw [B,D a.Nodes.length (Nat.le_refl _),← hl,dH (f:=fun z:Int×Int=>Z4_L1 a (b.map Tensor.Dims) (gN p s.length) z.1 z.2) (r:=l4 a (b.map Tensor.Dims) s s.length) (by simp only [Z4_L1]; rw [if_neg (by simp)]),aW,aW]
  exact ⟨_,rfl,rfl⟩
theorem tN (a:Graph)(e:Cap62 a):Z34 a=some true:=by
 unfold Z34
 rw [pI e (by omega) (by omega),aW]
 by_cases h:fV (lu a) 1048576<0
 ·rw [if_pos (by simpa using h)]
 ·have b:=Am h
  obtain ⟨x,h1,h2⟩:=rk b
  rw [if_neg (by simpa using h),tH a b,aW,h1,aW,aW,h2,aW,if_neg (by simp),aW,tJ a b,aW]
  rfl
end Go.Proofs.YtmpnollfdpdipaaGreatDoor
