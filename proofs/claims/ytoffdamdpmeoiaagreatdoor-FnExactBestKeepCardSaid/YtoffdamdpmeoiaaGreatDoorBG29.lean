import Derived.Test.YtoffdamdpmeoiaaGreatDoorBG13
import Derived.Test.YtoffdamdpmeoiaaGreatDoorBkF
import Derived.Test.YtoffdamdpmeoiaaGreatDoorPL1
set_option linter.unusedVariables false
set_option linter.unusedSimpArgs false
namespace Go.Proofs.YtoffdamdpmeoiaaGreatDoor
open Go Go.Pg
theorem uQ {c:UInt8}(h:97≤c.toNat∧c.toNat≤122):IntKind.wrap .u8 ((c.toNat:Int) - 97)=(c.toNat:Int) - 97:=by
 unfold IntKind.wrap
 simp [IntKind.bits,IntKind.signed]
 omega
theorem sk {g:aN}{k:Nat}(h:k<g.length):sub g (k:Int) ((k+1:Nat):Int)=[ix g (k:Int)]:=by
 unfold sub
 rw [Int.toNat_natCast,Int.toNat_natCast,List.take_succ_eq_append_getElem h,List.drop_append_of_le_length (by simp; omega),cC h]
 simp
theorem zn {gs:List aN}{dss:List (List Int)}{b:List aN×aN×Bool}{x:Nat}(I:b.1=gs)(Z:x<gs.length)(u:LT (ix gs (x:Int))){m:Nat}(Y:m≤100){s:aN×List Int}(h1:s.1.length≤m)(h2:s.2.length=26)(D:(ix gs (x:Int)).length=(ix dss (x:Int)).length) :
  (∃ s',mh (ix gs (x:Int)) (ix dss (x:Int)) s=some s'∧aQ (fun s:aN×List Int×Int=>Z0_L2 dss b (x:Int) s.1 s.2.1 s.2.2) (s.1,s.2,0)=some (.inr (s'.1,s'.2))∧s'.1.length≤m+6∧s'.2.length=26) ∨
  (mh (ix gs (x:Int)) (ix dss (x:Int)) s=none∧∃ e,aQ (fun s:aN×List Int×Int=>Z0_L2 dss b (x:Int) s.1 s.2.1 s.2.2) (s.1,s.2,0)=some (.inl e)∧e.2=false):=by
 obtain ⟨g,l⟩:∃ g,g=ix gs (x:Int):=⟨_,rfl⟩
 obtain ⟨ds,h⟩:∃ ds,ds=ix dss (x:Int):=⟨_,rfl⟩
 have a:ix b.1 (x:Int)=g:=by rw [I,l]
 rw [← l] at u D ⊢
 rw [← h] at D ⊢
 unfold mh
 rw [if_pos D]
 rcases jN (f:=fun s:aN×List Int×Int=>Z0_L2 dss b (x:Int) s.1 s.2.1 s.2.2) (fun s k=>lT s (ix g (k:Int)) (ix ds (k:Int))) (fun s i=>(s.1,s.2,i)) (fun s=>(s.1,s.2)) (fun e=>e.2=false) (fun j s=>s.1.length≤m+j∧s.2.length=26) g.length
  (fun j s F E=>by
   obtain ⟨i1,T⟩:=E
   have J:=u.2 _ (bI F)
   have L:=u.1
   have B:bt g (j:Int)=((ix g (j:Int)).toNat:Int):=rfl
   simp only [Z0_L2]
   rw [a,← h,if_pos (by simp; omega),if_pos (by omega),B,uQ J,if_pos (by omega),if_pos (fun _=>by omega)]
   show (∃ s',lT s _ _=_∧_)∨_
   unfold lT
   by_cases c:lk s.2 (ix g (j:Int))≠0∧lk s.2 (ix g (j:Int))≠ix ds (j:Int)
   ·rw [if_pos c,if_pos (by unfold lk at c; simpa using c)]
    exact .inr ⟨rfl,_,rfl,rfl⟩
   ·rw [if_neg c]
    obtain ⟨r,U,G⟩:=oV s.1 (ix g (j:Int))
    have O:((((ix g (j:Int)).toNat:Int) - 97)).toNat=(ix g (j:Int)).toNat - 97:=by omega
    have M:¬ (((ix s.2 (((ix g (j:Int)).toNat:Int) - 97)) != 0)&&((ix s.2 (((ix g (j:Int)).toNat:Int) - 97)) != (ix ds (j:Int))))=true:=by
     unfold lk at c; simpa using c
    refine .inl ⟨_,rfl,?_,?_,by simpa using T⟩
    ·rw [if_neg M,if_pos (by omega)]
     simp only [nm,Option.bind_some]
     rw [U,O]
     simp only [Option.bind_some]
     by_cases q:ix g (j:Int)∈s.1
     ·rw [if_neg (by simp; have:¬ r<0:=fun z=>G.1 z q; omega),if_pos q]
      simp only [Z0_J5]
      rw [cA (by unfold cS; omega)]
     ·rw [if_pos (decide_eq_true (G.2 q)),cA (by unfold cS; omega),if_pos (by omega),sk F,if_pos (by simp; omega),if_neg q]
      simp only [Z0_J5]
      rw [cA (by unfold cS; omega)]
    ·by_cases q:ix g (j:Int)∈s.1
     ·simp only [if_pos q]; omega
     ·simp only [if_neg q]; simp; omega)
  (fun s E=>by
   simp only [Z0_L2]
   rw [a,if_neg (by simp)])
  (s:=s) ⟨by omega,h2⟩ with ⟨s',a1,a2,a3,a4⟩|⟨a1,e,a2,a3⟩
 ·have:=u.1
  exact .inl ⟨s',a1,a2,by omega,a4⟩
 ·exact .inr ⟨a1,e,a2,a3⟩
theorem zo {gs:List aN}{dss:List (List Int)}{b:List aN×aN×Bool}(l:b.1=gs)(F:gs.length≤6)(u:∀ g∈gs,LT g)(E:gs.length=dss.length){s:aN×List Int}(h1:s.1.length≤6)(h2:s.2.length=26) :
  (∃ s',nU gs dss s=some s'∧aQ (fun s:aN×List Int×Int=>Z0_L1 dss b s.1 s.2.1 s.2.2) (s.1,s.2,0)=some (.inr (s'.1,s'.2))∧s'.1.length≤42∧s'.2.length=26) ∨
  (nU gs dss s=none∧∃ e,aQ (fun s:aN×List Int×Int=>Z0_L1 dss b s.1 s.2.1 s.2.2) (s.1,s.2,0)=some (.inl e)∧e.2=false):=by
 unfold nU
 rcases jN (f:=fun s:aN×List Int×Int=>Z0_L1 dss b s.1 s.2.1 s.2.2) (fun s k=>mh (ix gs (k:Int)) (ix dss (k:Int)) s) (fun s i=>(s.1,s.2,i)) (fun s=>(s.1,s.2)) (fun e=>e.2=false) (fun j s=>s.1.length≤6+6*j∧s.2.length=26) gs.length
  (fun j s r q=>by
   obtain ⟨B,D⟩:=q
   simp only [Z0_L1]
   rw [l,if_pos (by simp; omega),if_pos (by omega),if_pos (by omega)]
   by_cases c:(ix gs (j:Int)).length=(ix dss (j:Int)).length
   ·rw [if_neg (by simp; omega)]
    rcases zn (m:=6+6*j) l r (u _ (bI r)) (by omega) B D c with ⟨s',a,h,a3,a4⟩|⟨a,e,h,a3⟩
    ·rw [h]
     refine .inl ⟨s',a,?_,by omega,a4⟩
     simp only [Option.bind_some,Z0_J6]
     rw [cA (by unfold cS; omega)]
    ·rw [h]
     exact .inr ⟨a,e,rfl,a3⟩
   ·rw [if_pos (by simp; omega)]
    refine .inr ⟨by unfold mh; rw [if_neg c],_,rfl,rfl⟩)
  (fun s q=>by
   simp only [Z0_L1]
   rw [l,if_neg (by simp)])
  (s:=s) ⟨by omega,h2⟩ with ⟨s',a,h,a3,a4⟩|⟨a,e,h,a3⟩
 ·exact .inl ⟨s',a,h,by omega,a4⟩
 ·exact .inr ⟨a,e,h,a3⟩
theorem uR:∀ {f:aN} {c:UInt8} {j:Nat},j<f.idxOf c→∀ h:j<f.length,f[j]≠c
 | [],_,_,_,h=>by simp at h
 | b::l,c,j,hj,h=>by
  rw [List.idxOf_cons] at hj
  cases e:b==c with
  | true=>rw [e] at hj; simp at hj
  | false =>
   rw [e] at hj
   cases j with
   | zero=>simpa using e
   | succ j=>exact uR (f:=l) (by simp at hj; omega) (by simpa using h)
theorem zp {gs:List aN}{k i:Nat}{f:aN}(u:f.length<cS)(B:i<(ix gs (k:Int)).length):aQ (fun s:Int=>Z3_L3 gs (k:Int) f (i:Int) s) 0=some ((f.idxOf (ix (ix gs (k:Int)) (i:Int)):Nat):Int):=by
 obtain ⟨c,h⟩:∃ c,c=ix (ix gs (k:Int)) (i:Int):=⟨_,rfl⟩
 rw [← h]
 have r:f.idxOf c≤f.length:=List.idxOf_le_length
 have a:bt (ix gs (k:Int)) (i:Int)=(c.toNat:Int):=by rw [h]; rfl
 have e:∀ j:Nat,(bt f (j:Int) != (c.toNat:Int))=!decide (ix f (j:Int)=c):=by
  intro j
  have:(bt f (j:Int)==(c.toNat:Int))=decide (ix f (j:Int)=c):=lL
  unfold bne; rw [this]
 refine eV (f:=fun s:Int=>Z3_L3 gs (k:Int) f (i:Int) s) (fun j=>(j:Int)) (f.idxOf c) (fun j l=>?_) ?_ rfl
 ·have b:j<f.length:=by omega
  simp only [Z3_L3]
  rw [if_pos (fun _=>by omega),if_pos (fun _=>by omega),a,e,cA (by omega),if_pos]
  have:ix f (j:Int)≠c:=by
   rw [cC b]; exact uR l b
  simp [this]; omega
 ·simp only [Z3_L3]
  rw [if_pos (fun z=>by simp at z; omega),if_pos (fun _=>by omega),a,e,if_neg]
  by_cases q:f.idxOf c<f.length
  ·have:ix f ((f.idxOf c:Nat):Int)=c:=by rw [cC q]; exact List.getElem_idxOf q
   simp [this]
  ·simp; omega
theorem mi {lens:List Int}(h:lens.length=26){c a:UInt8}(i:97≤c.toNat∧c.toNat≤122)(b:97≤a.toNat∧a.toNat≤122)(d:Int):lk (lens.set (c.toNat - 97) d) a=if a=c then d else lk lens a:=by
 unfold lk
 have e:((a.toNat:Int) - 97)=((a.toNat - 97:Nat):Int):=by omega
 rw [e,cC (by simp; omega),List.getElem_set]
 by_cases q:a=c
 ·rw [if_pos q,if_pos (by rw [q])]
 ·have:a.toNat≠c.toNat:=fun z=>q (UInt8.toNat_inj.1 z)
  rw [if_neg q,if_neg (by omega),cC (by omega)]
theorem sn:∀ {f:aN} {c:UInt8} {g h:UInt8→Int} {d:Int},f.Nodup→c∈f→h c=d→(∀ x∈f,x≠c→h x=g x)→(f.map g).set (f.idxOf c) d=f.map h
 | [],_,_,_,_,_,hm,_,_=>by simp at hm
 | b::l,c,g,h,d,hn,hm,h1,h2=>by
  rw [List.nodup_cons] at hn
  rw [List.idxOf_cons]
  by_cases q:b=c
  ·subst q
   simp only [beq_self_eq_true,cond_true,List.map_cons,List.set_cons_zero,h1]
   congr 1
   apply List.map_congr_left
   intro x a
   exact (h2 x (List.mem_cons_of_mem _ a) (fun z=>hn.1 (z▸a))).symm
  ·have e:(b==c)=false:=by simpa using q
   have i:c∈l:=by
    rcases List.mem_cons.1 hm with z | z
    ·exact absurd z.symm q
    ·exact z
   rw [e]
   simp only [cond_false,List.map_cons,List.set_cons_succ]
   rw [sn hn.2 i h1 (fun x a j=>h2 x (List.mem_cons_of_mem _ a) j),h2 b (List.mem_cons_self ..) q]
structure IS (s:aN×List Int):Prop where
 l:s.2.length=26
 n:s.1.Nodup
 c:∀ c∈s.1,97≤c.toNat∧c.toNat≤122
 z:∀ c:UInt8,97≤c.toNat→c.toNat≤122→c ∉ s.1→lk s.2 c=0
theorem sq {s s':aN×List Int}{c:UInt8}{d:Int}(e:IS s)(j:97≤c.toNat∧c.toNat≤122)(h:lT s c d=some s'):IS s'∧s'.1.length≤s.1.length+1:=by
 unfold lT at h
 split at h
 ·cases h
 ·cases h
  by_cases q:c∈s.1
  ·simp only [if_pos q]
   refine ⟨⟨by simpa using e.l,e.n,e.c,fun x h1 h2 i=>?_⟩,by omega⟩
   rw [mi e.l j ⟨h1,h2⟩,if_neg (fun z=>i (by rw [z]; exact q))]
   exact e.z x h1 h2 i
  ·simp only [if_neg q]
   refine ⟨⟨by simpa using e.l,?_,?_,fun x h1 h2 i=>?_⟩,by simp⟩
   ·rw [List.nodup_append]
    refine ⟨e.n,by simp,?_⟩
    intro a u b r
    simp at r; subst r
    exact fun z=>q (z▸u)
   ·intro x B
    rcases List.mem_append.1 B with z | z
    ·exact e.c x z
    ·simp at z; rw [z]; exact j
   ·simp at i
    rw [mi e.l j ⟨h1,h2⟩,if_neg i.2]
    exact e.z x h1 h2 i.1
theorem ra {f:aN}{g:UInt8→Int}{p:Nat}(h:p<f.length):ix (f.map g) (p:Int)=g f[p]:=by
 rw [cC (by simpa using h)]; simp
theorem uS {gs:List aN}{dss:List (List Int)}{x j:Nat}{s:aN×List Int}(E:IS s)(M:s.1.length≤100)(hj:j<(ix gs (x:Int)).length)(hl:(ix gs (x:Int)).length=(ix dss (x:Int)).length)(h6:(ix gs (x:Int)).length≤6)(r:97≤(ix (ix gs (x:Int)) (j:Int)).toNat∧(ix (ix gs (x:Int)) (j:Int)).toNat≤122) :
  (∃ s',lT s (ix (ix gs (x:Int)) (j:Int)) (ix (ix dss (x:Int)) (j:Int))=some s'∧Z3_L2 gs dss (x:Int) s.1 (s.1.map (lk s.2)) (j:Int)=some (.inl (s'.1,s'.1.map (lk s'.2),((j+1:Nat):Int)))) ∨
  (lT s (ix (ix gs (x:Int)) (j:Int)) (ix (ix dss (x:Int)) (j:Int))=none∧∃ e,Z3_L2 gs dss (x:Int) s.1 (s.1.map (lk s.2)) (j:Int)=some (.inr (.inl e))∧e.2.2=false):=by
 obtain ⟨c,u⟩:∃ c,c=ix (ix gs (x:Int)) (j:Int):=⟨_,rfl⟩
 obtain ⟨d,hd⟩:∃ d,d=ix (ix dss (x:Int)) (j:Int):=⟨_,rfl⟩
 rw [← u] at r ⊢
 rw [← hd]
 have I:=zp (gs:=gs) (k:=x) (i:=j) (f:=s.1) (by unfold cS; omega) hj
 rw [← u] at I
 simp only [Z3_L2]
 rw [if_pos (by simp; omega),I]
 simp only [Option.bind_some]
 have Y:∀ (f:aN) (ls:List Int),f.Nodup→c∈f→s.1.idxOf c=f.idxOf c→ls=f.map (lk s.2)→(∀ y∈f,97≤y.toNat∧y.toNat≤122) →
   Z3_J9 dss (x:Int) (j:Int) ((s.1.idxOf c:Nat):Int) f ls=if lk s.2 c≠0∧lk s.2 c≠d then some (.inr (.inl ([],ls,false))) else some (.inl (f,f.map (lk (s.2.set (c.toNat - 97) d)),((j+1:Nat):Int))):=by
  intro f ls hn M hi D B
  have F:f.idxOf c<f.length:=List.idxOf_lt_length_iff.2 M
  have e:ix ls ((f.idxOf c:Nat):Int)=lk s.2 c:=by
   rw [D,ra F]; congr 1; exact List.getElem_idxOf F
  have a0:ls.length=f.length:=by rw [D]; simp
  unfold Z3_J9
  rw [hi,e,← hd,if_pos (by omega),if_pos (fun _=>by omega)]
  by_cases q:lk s.2 c≠0∧lk s.2 c≠d
  ·rw [if_pos q,if_pos (by simpa using q)]
  ·rw [if_neg q,if_neg (by simpa using q),if_pos (by omega),cA (by unfold cS; omega),Int.toNat_natCast,D,sn hn M (h:=lk (s.2.set (c.toNat - 97) d))]
   ·rw [mi E.l r r,if_pos rfl]
   ·intro y T U
    rw [mi E.l r (B y T),if_neg U]
 have R:∀ f,(if c∈s.1 then s.1 else s.1++[c])=f→(∀ z,z=(if lk s.2 c≠0∧lk s.2 c≠d then some (.inr (.inl ([],f.map (lk s.2),false))) else some (.inl (f,f.map (lk (s.2.set (c.toNat - 97) d)),((j+1:Nat):Int))):Option ((aN×(List Int)×Int)⊕((aN×(List Int)×Bool)⊕(aN×(List Int))))) →
   (∃ s',lT s c d=some s'∧z=some (.inl (s'.1,s'.1.map (lk s'.2),((j+1:Nat):Int))))∨(lT s c d=none∧∃ e,z=some (.inr (.inl e))∧e.2.2=false)):=by
  intro f I z J
  unfold lT
  by_cases q:lk s.2 c≠0∧lk s.2 c≠d
  ·rw [if_pos q] at J ⊢
   exact .inr ⟨rfl,_,J,rfl⟩
  ·rw [if_neg q] at J ⊢
   rw [I]
   exact .inl ⟨_,rfl,J⟩
 unfold Z3_J8
 by_cases q:c∈s.1
 ·have F:s.1.idxOf c<s.1.length:=List.idxOf_lt_length_iff.2 q
  rw [if_neg (by simp; omega),Y s.1 _ E.n q rfl rfl E.c]
  exact R s.1 (if_pos q) _ rfl
 ·have F:s.1.idxOf c=s.1.length:=by
   have:¬ s.1.idxOf c<s.1.length:=fun z=>q (List.idxOf_lt_length_iff.1 z)
   have:s.1.idxOf c≤s.1.length:=List.idxOf_le_length
   omega
  have L:(s.1++[c]).idxOf c=s.1.length:=by
   rw [List.idxOf_append,if_neg q]; simp
  have O:(s.1++[c]).Nodup:=by
   rw [List.nodup_append]
   refine ⟨E.n,by simp,?_⟩
   intro a ha b Z
   simp at Z; subst Z
   exact fun z=>q (z▸ha)
  have B:∀ y∈s.1++[c],97≤y.toNat∧y.toNat≤122:=by
   intro y T
   rcases List.mem_append.1 T with z | z
   ·exact E.c y z
   ·simp at z; rw [z]; exact r
  have G:s.1.map (lk s.2)++[0]=(s.1++[c]).map (lk s.2):=by
   rw [List.map_append]; simp [E.z c r.1 r.2 q]
  rw [if_pos (by rw [F]; simp),cA (by unfold cS; omega),if_pos (by omega),sk hj,← u,if_pos (by simp; omega),if_pos (by simp; omega),Y (s.1++[c]) _ O (by simp) (by rw [F,L]) G B,G]
  exact R _ (if_neg q) _ rfl
theorem zq {gs:List aN}{dss:List (List Int)}{x:Nat}(r:LT (ix gs (x:Int))){m:Nat}(I:m≤90){s:aN×List Int}(h1:s.1.length≤m)(F:IS s)(B:(ix gs (x:Int)).length=(ix dss (x:Int)).length) :
  (∃ s',mh (ix gs (x:Int)) (ix dss (x:Int)) s=some s'∧aQ (fun s:aN×List Int×Int=>Z3_L2 gs dss (x:Int) s.1 s.2.1 s.2.2) (s.1,s.1.map (lk s.2),0)=some (.inr (s'.1,s'.1.map (lk s'.2)))∧s'.1.length≤m+6∧IS s') ∨
  (mh (ix gs (x:Int)) (ix dss (x:Int)) s=none∧∃ e,aQ (fun s:aN×List Int×Int=>Z3_L2 gs dss (x:Int) s.1 s.2.1 s.2.2) (s.1,s.1.map (lk s.2),0)=some (.inl e)∧e.2.2=false):=by
 unfold mh
 rw [if_pos B]
 have E:=r.1
 rcases jN (f:=fun s:aN×List Int×Int=>Z3_L2 gs dss (x:Int) s.1 s.2.1 s.2.2) (fun s k=>lT s (ix (ix gs (x:Int)) (k:Int)) (ix (ix dss (x:Int)) (k:Int))) (fun s i=>(s.1,s.1.map (lk s.2),i)) (fun s=>(s.1,s.1.map (lk s.2))) (fun e=>e.2.2=false) (fun j s=>s.1.length≤m+j∧IS s) (ix gs (x:Int)).length
  (fun j s u h=>by
   have l:=r.2 _ (bI u)
   rcases uS h.2 (by have:=h.1; omega) u B E l with ⟨s',a,b⟩ | q
   ·obtain ⟨D,G⟩:=sq h.2 l a
    exact .inl ⟨s',a,b,by have:=h.1; omega,D⟩
   ·exact .inr q)
  (fun s h=>by
   simp only [Z3_L2]
   rw [if_neg (by simp)])
  (s:=s) ⟨by omega,F⟩ with ⟨s',a,b,a3,a4⟩|⟨a,e,b,a3⟩
 ·exact .inl ⟨s',a,b,by omega,a4⟩
 ·exact .inr ⟨a,e,b,a3⟩
theorem uT {gs:List aN}{dss:List (List Int)}(E:gs.length≤6)(l:∀ g∈gs,LT g)(D:gs.length=dss.length){s:aN×List Int}(h1:s.1.length≤6)(r:IS s) :
  (∃ s',nU gs dss s=some s'∧aQ (fun s:aN×List Int×Int=>Z3_L1 gs dss s.1 s.2.1 s.2.2) (s.1,s.1.map (lk s.2),0)=some (.inr (s'.1,s'.1.map (lk s'.2)))∧s'.1.length≤42∧IS s') ∨
  (nU gs dss s=none∧∃ e,aQ (fun s:aN×List Int×Int=>Z3_L1 gs dss s.1 s.2.1 s.2.2) (s.1,s.1.map (lk s.2),0)=some (.inl e)∧e.2.2=false):=by
 unfold nU
 rcases jN (f:=fun s:aN×List Int×Int=>Z3_L1 gs dss s.1 s.2.1 s.2.2) (fun s k=>mh (ix gs (k:Int)) (ix dss (k:Int)) s) (fun s i=>(s.1,s.1.map (lk s.2),i)) (fun s=>(s.1,s.1.map (lk s.2))) (fun e=>e.2.2=false) (fun j s=>s.1.length≤6+6*j∧IS s) gs.length
  (fun j s q h=>by
   obtain ⟨u,B⟩:=h
   simp only [Z3_L1]
   rw [if_pos (by simp; omega),if_pos (by omega),if_pos (by omega)]
   by_cases c:(ix gs (j:Int)).length=(ix dss (j:Int)).length
   ·rw [if_neg (by simp; omega)]
    rcases zq (m:=6+6*j) (l _ (bI q)) (by omega) u B c with ⟨s',a,b,a3,a4⟩|⟨a,e,b,a3⟩
    ·rw [b]
     refine .inl ⟨s',a,?_,by omega,a4⟩
     simp only [Option.bind_some,Z3_J10]
     rw [cA (by unfold cS; omega)]
    ·rw [b]
     exact .inr ⟨a,e,rfl,a3⟩
   ·rw [if_pos (by simp; omega)]
    refine .inr ⟨by unfold mh; rw [if_neg c],_,rfl,rfl⟩)
  (fun s h=>by
   simp only [Z3_L1]
   rw [if_neg (by simp)])
  (s:=s) ⟨by omega,r⟩ with ⟨s',a,b,a3,a4⟩|⟨a,e,b,a3⟩
 ·exact .inl ⟨s',a,b,by omega,a4⟩
 ·exact .inr ⟨a,e,b,a3⟩
theorem oW {S:Type}{st:S→Nat→Option S}(I:Nat→S→Prop){s:S}(a:I 0 s):∀ (n:Nat),(∀ j s s',j<n→I j s→st s j=some s'→I (j+1) s')→∀ {s':S},r0 st n s=some s'→I n s'
 | 0,_,s',h=>by cases h; exact a
 | n+1,hs,s',h=>by
  rw [r0] at h
  obtain ⟨m,h1,h2⟩:=bd h
  exact hs n m s' (by omega) (oW I a n (fun j s s' b=>hs j s s' (by omega)) h1) h2
structure Ext (s s':aN×List Int):Prop where
 i:IS s'
 p:∃ t,s'.1=s.1++t
 k:∀ c:UInt8,97≤c.toNat→c.toNat≤122→lk s.2 c≠0→lk s'.2 c=lk s.2 c
theorem Ext.rfl_ {s:aN×List Int}(h:IS s):Ext s s:=⟨h,⟨[],by simp⟩,fun _ _ _ _=>rfl⟩
theorem Ext.trans {a b c:aN×List Int}(h1:Ext a b)(h2:Ext b c):Ext a c:=by
 obtain ⟨t,e⟩:=h1.p
 obtain ⟨u,j⟩:=h2.p
 refine ⟨h2.i,⟨t++u,by rw [j,e,List.append_assoc]⟩,fun x a b h=>?_⟩
 have:=h1.k x a b h
 rw [h2.k x a b (by rw [this]; exact h),this]
theorem uU {s s':aN×List Int}{c:UInt8}{d:Int}(r:IS s)(i:97≤c.toNat∧c.toNat≤122)(h:lT s c d=some s'):Ext s s'∧c∈s'.1∧lk s'.2 c=d∧∀ x∈s'.1,x∈s.1∨x=c:=by
 have B:=(sq r i h).1
 unfold lT at h
 split at h
 ·cases h
 ·rename_i q
  cases h
  refine ⟨⟨B,?_,fun x a b u=>?_⟩,?_,?_,?_⟩
  ·by_cases m:c∈s.1
   ·exact ⟨[],by simp [m]⟩
   ·exact ⟨[c],by simp [m]⟩
  ·show lk (s.2.set _ _) x=_
   rw [mi r.l i ⟨a,b⟩]
   by_cases e:x=c
   ·subst e
    rw [if_pos rfl]
    exact Classical.byContradiction fun z=>q ⟨u,fun w=>z w.symm⟩
   ·rw [if_neg e]
  ·by_cases m:c∈s.1<;>simp [m]
  ·show lk (s.2.set _ _) c=_
   rw [mi r.l i i,if_pos rfl]
  ·intro x j
   by_cases m:c∈s.1
   ·simp only [if_pos m] at j; exact .inl j
   ·simp only [if_neg m] at j; simpa using j
theorem uV {g:aN}{ds:List Int}{s s':aN×List Int}(M:IS s)(E:LT g)(J:∀ d∈ds,d≠0)(h:mh g ds s=some s') :
  Ext s s'∧g.length=ds.length∧(∀ j:Nat,j<g.length→ix g (j:Int)∈s'.1∧lk s'.2 (ix g (j:Int))=ix ds (j:Int))∧∀ x∈s'.1,x∈s.1∨x∈g:=by
 unfold mh at h
 split at h
 ·rename_i L
  obtain ⟨a,b,c⟩:=oW (fun n z=>Ext s z∧(∀ j:Nat,j<n→ix g (j:Int)∈z.1∧lk z.2 (ix g (j:Int))=ix ds (j:Int))∧∀ x∈z.1,x∈s.1∨x∈g) ⟨Ext.rfl_ M,fun j F=>absurd F (Nat.not_lt_zero _),fun x B=>.inl B⟩ g.length
   (fun n z U G I T=>by
    obtain ⟨a,b,c⟩:=I
    obtain ⟨p,q,r,t⟩:=uU a.i (E.2 _ (bI G)) T
    refine ⟨a.trans p,fun j F=>?_,fun x B=>?_⟩
    ·by_cases e:j=n
     ·subst e; exact ⟨q,r⟩
     ·obtain ⟨m,l⟩:=b j (by omega)
      obtain ⟨u,O⟩:=p.p
      have D:=E.2 _ (bI (show j<g.length by omega))
      refine ⟨by rw [O]; exact List.mem_append_left _ m,?_⟩
      rw [p.k _ D.1 D.2 (by rw [l]; exact J _ (bI (by omega))),l]
    ·rcases t x B with y | y
     ·exact c x y
     ·rw [y]; exact .inr (bI G)) h
  exact ⟨a,L,b,c⟩
 ·cases h
theorem uW {gs:List aN}{dss:List (List Int)}{s s':aN×List Int}(M:IS s)(U:gs.length=dss.length)(G:∀ g∈gs,LT g)(F:∀ ds∈dss,∀ d∈ds,d≠0)(h:nU gs dss s=some s') :
  Ext s s'∧(∀ x:Nat,x<gs.length→(ix gs (x:Int)).length=(ix dss (x:Int)).length∧∀ j:Nat,j<(ix gs (x:Int)).length→ix (ix gs (x:Int)) (j:Int)∈s'.1∧lk s'.2 (ix (ix gs (x:Int)) (j:Int))=ix (ix dss (x:Int)) (j:Int))∧∀ y∈s'.1,y∈s.1∨∃ g∈gs,y∈g:=by
 unfold nU at h
 exact oW (fun n z=>Ext s z∧(∀ x:Nat,x<n→(ix gs (x:Int)).length=(ix dss (x:Int)).length∧∀ j:Nat,j<(ix gs (x:Int)).length→ix (ix gs (x:Int)) (j:Int)∈z.1∧lk z.2 (ix (ix gs (x:Int)) (j:Int))=ix (ix dss (x:Int)) (j:Int))∧∀ y∈z.1,y∈s.1∨∃ g∈gs,y∈g) ⟨Ext.rfl_ M,fun j B=>absurd B (Nat.not_lt_zero _),fun x J=>.inl J⟩ gs.length
  (fun n z Y I L T=>by
   obtain ⟨a,b,c⟩:=L
   have D:=G _ (bI I)
   obtain ⟨p,q,r,t⟩:=uV a.i D (F _ (bI (by omega))) T
   refine ⟨a.trans p,fun x J=>?_,fun y O=>?_⟩
   ·by_cases e:x=n
    ·subst e; exact ⟨q,r⟩
    ·obtain ⟨l,m⟩:=b x (by omega)
     refine ⟨l,fun j B=>?_⟩
     obtain ⟨u,v⟩:=m j B
     obtain ⟨w,hw⟩:=p.p
     have E:=(G _ (bI (show x<gs.length by omega))).2 _ (bI B)
     refine ⟨by rw [hw]; exact List.mem_append_left _ u,?_⟩
     rw [p.k _ E.1 E.2 (by rw [v]; exact F _ (bI (by omega)) _ (bI (by omega))),v]
   ·rcases t y O with w | w
    ·exact c y w
    ·exact .inr ⟨_,bI I,w⟩) h
theorem wI {ds:List Int}{k:Int}(O:ds.length≤100)(h1:∀ d∈ds,1≤d∧d≤4096)(e:0≤k)(hk:k≤65536):Zm ds k=some (iA ds k):=by
 have a:∀ j,1≤pr (ds.drop j):=fun j=>fP fun d h=>(h1 d (List.mem_of_mem_drop h)).1
 unfold Zm
 rw [if_pos (by omega)]
 have:=eV (f:=fun s:Int×List Int×Int=>Zm_L1 ds s.1 s.2.1 s.2.2) (r:=iA ds k)
  (fun j=>(k / pr (ds.drop (ds.length - j)),List.replicate (ds.length - j) 0++iA (ds.drop (ds.length - j)) k,(ds.length:Int) - 1 - j)) ds.length
  (fun j M=>by
   obtain ⟨i,E⟩:∃ i,i=ds.length - (j+1):=⟨_,rfl⟩
   have q:ds.length - j=i+1:=by omega
   have u:(ds.length:Int) - 1 - (j:Int)=(i:Int):=by omega
   have b:i<ds.length:=by omega
   have F:=h1 _ (bI b)
   have G:=a (i+1)
   have h:ds.drop i=ix ds (i:Int)::ds.drop (i+1):=by rw [List.drop_eq_getElem_cons b,cC b]
   have l:0≤k / pr (ds.drop (i+1)):=Int.ediv_nonneg e (by omega)
   have I:k / pr (ds.drop (i+1))≤65536:=Int.le_trans (Int.ediv_le_self _ e) hk
   simp only [Zm_L1,q,u,← E]
   rw [if_pos (by simp),if_pos (by omega),if_pos (by omega),if_pos (by simp; omega)]
   have B:(k / pr (ds.drop (i+1))).tdiv (ix ds (i:Int))=k / pr (ds.drop i):=by
    rw [Int.tdiv_eq_ediv_of_nonneg l,h]; exact (uh G F.1).1.symm
   have D:(k / pr (ds.drop (i+1))).tmod (ix ds (i:Int))=k / pr (ds.drop (i+1)) % ix ds (i:Int):=Int.tmod_eq_emod_of_nonneg l
   have J:0≤k / pr (ds.drop i):=Int.ediv_nonneg e (by have:=a i; omega)
   have L:k / pr (ds.drop i)≤65536:=Int.le_trans (Int.ediv_le_self _ e) hk
   rw [B,D,aX (by omega) (by omega),aX (by omega) (by omega)]
   congr 4
   ·rw [h,List.set_append_left _ _ (by simp),List.replicate_succ',List.set_append_right _ _ (by simp)]
    simp [iA]
   ·omega)
  (by
   simp only [Zm_L1,Nat.sub_self,List.drop_zero,List.replicate_zero,List.nil_append]
   rw [if_neg (by simp; omega)])
  (s:=(k,List.replicate (ds.length:Int).toNat 0,aI ((ds.length:Int) - 1))) (by
   rw [aX (by omega) (by omega)]
   simp [pr,iA])
 rw [this]
 rfl
def wk (ls:List Int)(s:Int)(j:Nat):Option Int:=if s*ix ls (j:Int)>65536 then none else some (s*ix ls (j:Int))
theorem sr {ls:List Int}{j:Nat}(h:j<ls.length):pr (ls.take (j+1))=pr (ls.take j)*ix ls (j:Int):=by
 rw [List.take_succ_eq_append_getElem h,nt,cC h]; simp [pr]
theorem DF {ls:List Int}(h:∀ d∈ls,1≤d):∀ n,n≤ls.length→r0 (wk ls) n 1=if pr (ls.take n)≤65536 then some (pr (ls.take n)) else none
 | 0,_=>by simp [r0,pr]
 | n+1,hn=>by
  have j:1≤pr (ls.take n):=fP fun d i=>h d (List.mem_of_mem_take i)
  have i:=h _ (bI (show n<ls.length by omega))
  rw [r0,DF h n (by omega),sr (by omega)]
  by_cases c:pr (ls.take n)≤65536
  ·rw [if_pos c]
   simp only [Option.bind_some,wk]
   by_cases e:pr (ls.take n)*ix ls (n:Int)≤65536
   ·rw [if_neg (by omega),if_pos e]
   ·rw [if_pos (by omega),if_neg e]
  ·rw [if_neg c,if_neg]
   ·rfl
   ·have:=ja (a:=pr (ls.take n)) (b:=ix ls (n:Int)) (by omega) i
    omega
theorem zr {ls:List Int}(D:ls.length≤100)(h:∀ d∈ls,1≤d∧d≤4096) :
  (pr ls≤65536∧aQ (fun s:Int×Int=>Z3_L4 ls s.1 s.2) (1,0)=some (.inr ())) ∨
  (¬ pr ls≤65536∧∃ e,aQ (fun s:Int×Int=>Z3_L4 ls s.1 s.2) (1,0)=some (.inl e)∧e.2.2=false):=by
 have l:=DF (fun d r=>(h d r).1) ls.length (Nat.le_refl _)
 rw [List.take_length] at l
 rcases jN (f:=fun s:Int×Int=>Z3_L4 ls s.1 s.2) (wk ls) (fun s i=>(s,i)) (fun _=>()) (fun e=>e.2.2=false) (fun j s=>1≤s∧s≤65536) ls.length
  (fun j s u q=>by
   have B:=h _ (bI u)
   simp only [Z3_L4]
   rw [if_pos (by simp; omega),if_pos (by omega),iY (by omega) (by omega) (by omega) (by omega),cA (by unfold cS; omega)]
   unfold wk
   by_cases c:s*ix ls (j:Int)>65536
   ·rw [if_pos c,if_pos (decide_eq_true c)]
    exact .inr ⟨rfl,_,rfl,rfl⟩
   ·rw [if_neg c,if_neg (by simpa using c)]
    have:=ja (a:=s) (b:=ix ls (j:Int)) (by omega) B.1
    exact .inl ⟨_,rfl,rfl,by omega,by omega⟩)
  (fun s q=>by simp only [Z3_L4]; rw [if_neg (by simp)])
  (s:=1) ⟨by omega,by omega⟩ with ⟨s',a1,a2,a3⟩|⟨a1,e,a2,a3⟩
 ·rw [l] at a1
  refine .inl ⟨?_,a2⟩
  split at a1
  ·assumption
  ·cases a1
 ·rw [l] at a1
  refine .inr ⟨?_,e,a2,a3⟩
  split at a1
  ·cases a1
  ·assumption
theorem zt {f:aN}{lens:List Int}(L:f.length≤100)(F:∀ c∈f,97≤c.toNat∧c.toNat≤122)(h:∀ d∈f.map (lk lens),1≤d∧d≤4096) :
  (pr (f.map (lk lens))≤65536∧aQ (fun s:List Int×Int×Int=>Z0_L3 f lens s.1 s.2.1 s.2.2) ([],1,0)=some (.inr (f.map (lk lens)))) ∨
  (¬ pr (f.map (lk lens))≤65536∧∃ e,aQ (fun s:List Int×Int×Int=>Z0_L3 f lens s.1 s.2.1 s.2.2) ([],1,0)=some (.inl e)∧e.2=false):=by
 obtain ⟨ls,l⟩:∃ ls,ls=f.map (lk lens):=⟨_,rfl⟩
 rw [← l] at h ⊢
 have G:ls.length=f.length:=by rw [l]; simp
 have u:=DF (fun d E=>(h d E).1) ls.length (Nat.le_refl _)
 rw [List.take_length] at u
 rcases jN (f:=fun s:List Int×Int×Int=>Z0_L3 f lens s.1 s.2.1 s.2.2) (wk ls) (fun s i=>(ls.take i.toNat,s,i)) (fun _=>ls) (fun e=>e.2=false) (fun j s=>1≤s∧s≤65536) ls.length
  (fun j s r B=>by
   have I:=h _ (bI r)
   have D:=F _ (bI (show j<f.length by omega))
   have J:ix lens (((ix f (j:Int)).toNat:Int) - 97)=ix ls (j:Int):=by
    rw [l,ra (by omega),cC (xs:=f) (by omega)]; rfl
   have q:bt f (j:Int)=((ix f (j:Int)).toNat:Int):=rfl
   simp only [Z0_L3]
   rw [if_pos (by simp; omega),if_pos (by omega),q,uQ D,if_pos (by omega),J,if_pos (by simp; omega),iY (by omega) (by omega) (by omega) (by omega),cA (by unfold cS; omega)]
   unfold wk
   by_cases c:s*ix ls (j:Int)>65536
   ·rw [if_pos c,if_pos (decide_eq_true c)]
    exact .inr ⟨rfl,_,rfl,rfl⟩
   ·rw [if_neg c,if_neg (by simpa using c)]
    have:=ja (a:=s) (b:=ix ls (j:Int)) (by omega) I.1
    refine .inl ⟨_,rfl,?_,by omega,by omega⟩
    rw [Int.toNat_natCast,Int.toNat_natCast,List.take_succ_eq_append_getElem r,cC r])
  (fun s B=>by simp only [Z0_L3]; rw [if_neg (by simp; omega)]; simp)
  (s:=1) ⟨by omega,by omega⟩ with ⟨s',a1,a2,a3⟩|⟨a1,e,a2,a3⟩
 ·rw [u] at a1
  refine .inl ⟨?_,a2⟩
  split at a1
  ·assumption
  ·cases a1
 ·rw [u] at a1
  refine .inr ⟨?_,e,a2,a3⟩
  split at a1
  ·cases a1
  ·assumption
theorem og {f:form}{g:aN}{p:List Int}(e:f.order.length≤100)(h:g.length≤p.length)(q:p.length≤100):∃ r,Zo f g p=some r:=by
 unfold Zo
 rw [if_pos (by omega)]
 obtain ⟨r,h1,h2⟩:=gX (f:=fun s:List Int×Int=>Zo_L1 f g p s.1 s.2) (fun j s=>s.1.length=f.order.length∧s.2=(j:Int)) f.order.length (Post:=fun _=>True)
  (fun j s l a=>by
   obtain ⟨x,i⟩:=s
   obtain ⟨h1,rfl⟩:=a
   dsimp only at h1
   simp only [Zo_L1]
   rw [if_pos (by simp; omega)]
   obtain ⟨r,g1,b⟩:=gX (f:=fun s:List Int×Int=>Zo_L2 f g p (j:Int) s.1 s.2) (fun k s=>s.1.length=f.order.length∧s.2=(k:Int)) g.length (Post:=fun r=>r.length=f.order.length)
    (fun k s hk a=>by
     obtain ⟨x,i⟩:=s
     obtain ⟨h1,rfl⟩:=a
     dsimp only at h1
     simp only [Zo_L2,Zo_J5]
     rw [if_pos (by simp; omega),if_pos (by omega),if_pos (by omega)]
     split
     ·rw [if_pos (by simp; omega),if_pos (by omega)]
      exact ⟨_,rfl,by simpa using h1,by rw [cA (by unfold cS; omega)]⟩
     ·exact ⟨_,rfl,h1,by rw [cA (by unfold cS; omega)]⟩)
    (fun s a=>by
     obtain ⟨x,i⟩:=s
     obtain ⟨h1,rfl⟩:=a
     simp only [Zo_L2]
     rw [if_neg (by simp)]
     exact ⟨_,rfl,h1⟩)
    (s:=(x,0)) ⟨h1,rfl⟩
   rw [g1]
   exact ⟨_,rfl,b,by rw [cA (by unfold cS; omega)]⟩)
  (fun s a=>by
   obtain ⟨x,i⟩:=s
   obtain ⟨h1,rfl⟩:=a
   simp only [Zo_L1]
   rw [if_neg (by simp)]
   exact ⟨_,rfl,trivial⟩)
  (s:=(List.replicate (f.order.length:Int).toNat 0,0)) ⟨by simp,rfl⟩
 rw [h1]
 exact ⟨r,rfl⟩
def pV (gs:List aN)(o:aN)(dss:List (List Int))(s:aN×List Int):Prop:=nU gs dss (o,List.replicate 26 0)=some s∧pr (s.1.map (lk s.2))≤65536
theorem rb {o:aN}(b:o.Nodup)(a:∀ c∈o,97≤c.toNat∧c.toNat≤122):IS (o,List.replicate 26 0):=by
 refine ⟨rfl,b,a,fun c h1 h2 _=>?_⟩
 unfold lk
 have e:((c.toNat:Int) - 97)=((c.toNat - 97:Nat):Int):=by omega
 rw [e,cC (by rw [List.length_replicate]; omega)]
 exact List.getElem_replicate _
theorem wJ {o:aN}(i:∀ c∈o,97≤c.toNat∧c.toNat≤122):List.replicate (o.length:Int).toNat (0:Int)=o.map (lk (List.replicate 26 0)):=by
 rw [Int.toNat_natCast]
 symm
 rw [List.eq_replicate_iff]
 refine ⟨by simp,fun b a=>?_⟩
 obtain ⟨c,h,rfl⟩:=List.mem_map.1 a
 obtain ⟨h1,h2⟩:=i c h
 unfold lk
 have e:((c.toNat:Int) - 97)=((c.toNat - 97:Nat):Int):=by omega
 rw [e,cC (by rw [List.length_replicate]; omega)]
 exact List.getElem_replicate _
theorem nA {gs:List aN}{o:aN}(h:∀ i∈List.range o.length,OL gs o i):o.Nodup:=by
 refine List.pairwise_iff_getElem.2 fun i j l a b e=>?_
 have:=(h j (List.mem_range.2 a)).2
 rw [cC a] at this
 refine this ?_
 rw [← e,List.mem_take_iff_getElem]
 exact ⟨i,by omega,rfl⟩
structure Laid (gs:List aN)(o:aN)(dss:List (List Int))(s:aN×List Int):Prop where
 i:IS s
 l:s.1.length≤42
 p:∃ t,s.1=o++t
 g:∀ x:Nat,x<gs.length→(ix gs (x:Int)).length=(ix dss (x:Int)).length∧∀ j:Nat,j<(ix gs (x:Int)).length→ix (ix gs (x:Int)) (j:Int)∈s.1∧lk s.2 (ix (ix gs (x:Int)) (j:Int))=ix (ix dss (x:Int)) (j:Int)
 d:∀ d∈s.1.map (lk s.2),1≤d∧d≤4096
theorem oX {gs:List aN}{o:aN}{dss:List (List Int)}{s:aN×List Int}(hp:PO gs o)(L:gs.length=dss.length)(J:∀ ds∈dss,eL ds)(h:nU gs dss (o,List.replicate 26 0)=some s):Laid gs o dss s:=by
 obtain ⟨p1,T,U,Y⟩:=hp
 have M:=rb (nA Y) T.2
 obtain ⟨a,b,c⟩:=uW M L U (fun ds F d D=>by have:=(J ds F).2.1 d D; omega) h
 have r:s.1.length≤42:=by
  rcases uT p1 U L (s:=(o,List.replicate 26 0)) T.1 M with ⟨s',u,_,q3,_⟩|⟨u,_⟩
  ·rw [h] at u; cases u; exact q3
  ·rw [h] at u; cases u
 refine ⟨a.i,r,a.p,b,fun d E=>?_⟩
 obtain ⟨y,hy,rfl⟩:=List.mem_map.1 E
 have:∃ g∈gs,y∈g:=by
  rcases c y hy with q | q
  ·obtain ⟨k,hk,e⟩:=List.getElem_of_mem q
   have:=(Y k (List.mem_range.2 hk)).1
   rw [cC hk,e] at this
   exact this
  ·exact q
 obtain ⟨g,Z,I⟩:=this
 obtain ⟨x,O,rfl⟩:=List.getElem_of_mem Z
 obtain ⟨j,G,rfl⟩:=List.getElem_of_mem I
 have B:=b x O
 rw [cC O] at B
 have l:=(B.2 j G).2
 rw [cC G] at l
 rw [l]
 exact (J _ (bI (show x<dss.length by omega))).2.mem (bI (by rw [← B.1]; exact G))
theorem t7 {gs:List aN}{o:aN}{dss:List (List Int)}(E:PO gs o)(q:gs.length=dss.length)(D:∀ ds∈dss,eL ds) :
  (∃ s,pV gs o dss s∧Z3 gs o dss=some (s.1,s.1.map (lk s.2),true))∨((∀ s,¬ pV gs o dss s)∧∃ e,Z3 gs o dss=some e∧e.2.2=false):=by
 obtain ⟨p1,h,r,u⟩:=E
 have F:=rb (nA u) h.2
 have I:=h.1
 unfold Z3
 rw [if_pos (by omega),wJ h.2]
 rcases uT p1 r q (s:=(o,List.replicate 26 0)) h.1 F with ⟨s,a,b,a3,a4⟩|⟨a,e,b,a3⟩
 ·have B:=oX ⟨p1,h,r,u⟩ q D a
  simp only at b
  rw [b]
  simp only [Option.bind_some,Z3_J11]
  rcases zr (ls:=s.1.map (lk s.2)) (by simp; omega) B.d with ⟨j,l⟩|⟨j,e,l,G⟩
  ·rw [l]
   exact .inl ⟨s,⟨a,j⟩,rfl⟩
  ·rw [l]
   refine .inr ⟨fun s' i=>?_,e,rfl,G⟩
   have:=i.1
   rw [a] at this; cases this
   exact j i.2
 ·simp only at b
  rw [b]
  refine .inr ⟨fun s' i=>?_,e,rfl,a3⟩
  have:=i.1
  rw [a] at this; cases this
theorem uX {f:aN}{dss:List (List Int)}(hb:f.length≤1048576)(Y:∀ ds∈dss,eL ds) :
  ((parts f).2.2=true∧(parts f).1.length=dss.length∧∃ s,pV (parts f).1 (parts f).2.1 dss s∧eL ((s.1.map (lk s.2)).take (parts f).2.1.length)∧∃ r,Z0 f dss=some (r,true)∧r.dims=(s.1.map (lk s.2)).take (parts f).2.1.length) ∨
  (¬ ((parts f).2.2=true∧(parts f).1.length=dss.length∧∃ s,pV (parts f).1 (parts f).2.1 dss s∧eL ((s.1.map (lk s.2)).take (parts f).2.1.length))∧∃ r,Z0 f dss=some (r,false)):=by
 obtain ⟨b,E⟩:∃ b,b=parts f:=⟨_,rfl⟩
 have J:b.2.2=true→PO b.1 b.2.1:=by
  rw [E]; unfold parts
  split
  ·intro h; cases h
  ·split
   ·intro _; assumption
   ·intro h; cases h
 unfold Z0
 rw [wH hb,← E]
 simp only [Option.bind_some]
 by_cases a:b.2.2=true∧b.1.length=dss.length
 ·obtain ⟨a,F⟩:=a
  rw [if_neg (by simp [a,F])]
  have hP:=J a
  obtain ⟨p1,M,O,p4⟩:=hP
  have hs:=rb (nA p4) M.2
  rcases zo (gs:=b.1) (b:=b) (dss:=dss) rfl p1 O F (s:=(b.2.1,List.replicate 26 0)) M.1 rfl with ⟨s,B,D,a3,a4⟩|⟨B,e,D,a3⟩
  ·have u:=oX ⟨p1,M,O,p4⟩ F Y B
   simp only at D
   rw [D]
   simp only [Option.bind_some,Z0_J7]
   rcases zt (f:=s.1) (lens:=s.2) (by omega) u.i.c u.d with ⟨T,U⟩|⟨T,e,U,w3⟩
   ·rw [U]
    simp only [Option.bind_some,Z0_J8]
    obtain ⟨t,ht⟩:=u.p
    have a5:b.2.1.length≤(s.1.map (lk s.2)).length:=by rw [ht]; simp
    have a0:(s.1.map (lk s.2)).length≤42:=by simpa using u.l
    rw [if_pos (by omega),lG,iF (by simp; omega)]
    simp only [Option.bind_some]
    rw [hY (by simp only [List.length_take]; unfold cS; omega)]
    simp only [Option.bind_some]
    by_cases c3:eL ((s.1.map (lk s.2)).take b.2.1.length)
    ·rw [decide_eq_true c3,if_neg (by simp)]
     refine .inl ⟨a,F,s,⟨B,T⟩,c3,?_⟩
     obtain ⟨r,h1,_⟩:=gX (f:=fun z:List (List Int)×Int=>Z0_L4 dss b s.1 (s.1.map (lk s.2)) ((s.1.map (lk s.2)).take b.2.1.length) z.1 z.2) (fun j z=>z.1.length=j∧z.2=(j:Int)) b.1.length (Post:=fun _=>True)
      (fun j z hj G=>by
       obtain ⟨x,i⟩:=z
       obtain ⟨h1,rfl⟩:=G
       dsimp only at h1
       simp only [Z0_L4]
       have I:=Y _ (bI (show j<dss.length by omega))
       rw [if_pos (by simp; omega),if_pos (by omega),if_pos (by omega),oK I]
       simp only [Option.bind_some]
       have a6:=(u.g j hj).1
       have Z:=(O _ (bI hj)).1
       obtain ⟨q,L⟩:=og (f:=(⟨b.1,b.2.1,s.1,s.1.map (lk s.2),(s.1.map (lk s.2)).take b.2.1.length,x,[]⟩:form)) (g:=ix b.1 (j:Int)) (p:=eY (ix dss (j:Int))) (by have:=u.l; show s.1.length≤100; omega) (by rw [dT]; omega) (by rw [dT]; omega)
       rw [L]
       simp only [Option.bind_some]
       rw [if_pos (by simp; omega),cA (by unfold cS; omega)]
       exact ⟨_,rfl,by simp; omega,rfl⟩)
      (fun z G=>by
       obtain ⟨x,i⟩:=z
       obtain ⟨h1,rfl⟩:=G
       simp only [Z0_L4]
       rw [if_neg (by simp)]
       exact ⟨_,rfl,trivial⟩)
      (s:=([],0)) ⟨rfl,rfl⟩
     rw [h1]
     simp only [Option.bind_some,Z0_J9]
     rw [oK c3]
     simp only [Option.bind_some]
     obtain ⟨q,L⟩:=og (f:=(⟨b.1,b.2.1,s.1,s.1.map (lk s.2),(s.1.map (lk s.2)).take b.2.1.length,r,[]⟩:form)) (g:=b.2.1) (p:=eY ((s.1.map (lk s.2)).take b.2.1.length)) (by have:=u.l; show s.1.length≤100; omega) (by rw [dT]; simp only [List.length_take]; omega) (by rw [dT]; simp only [List.length_take]; omega)
     rw [L]
     exact ⟨_,rfl,rfl⟩
    ·rw [decide_eq_false c3,if_pos (by simp)]
     refine .inr ⟨?_,_,rfl⟩
     rintro ⟨_,_,s',h1,h2⟩
     have:=h1.1
     rw [B] at this; cases this
     exact c3 h2
   ·rw [U]
    obtain ⟨e1,e2⟩:=e
    simp only at w3; subst w3
    refine .inr ⟨?_,_,rfl⟩
    rintro ⟨_,_,s',h1,h2⟩
    have:=h1.1
    rw [B] at this; cases this
    exact T h1.2
  ·simp only at D
   rw [D]
   obtain ⟨e1,e2⟩:=e
   simp only at a3; subst a3
   refine .inr ⟨?_,_,rfl⟩
   rintro ⟨_,_,s',h1,h2⟩
   have:=h1.1
   rw [B] at this; cases this
 ·rw [if_pos]
  ·exact .inr ⟨fun z=>a ⟨z.1,z.2.1⟩,_,rfl⟩
  ·cases q:b.2.2
   ·rfl
   ·have:b.1.length≠dss.length:=fun z=>a ⟨q,z⟩
    simp; omega
theorem uY {g f:aN}{vs:List Int}(L:g.length≤6)(J:f.length≤42)(M:vs.length=f.length)(I:f.Nodup)(G:∀ c∈g,c∈f):Zi g f vs=some (g.map fun c=>ix vs ((f.idxOf c:Nat):Int)):=by
 unfold Zi
 rw [eV (f:=fun s:List Int×Int=>Zi_L1 g f vs s.1 s.2) (r:=g.map fun c=>ix vs ((f.idxOf c:Nat):Int)) (fun i=>((g.take i).map fun c=>ix vs ((f.idxOf c:Nat):Int),(i:Int))) g.length
  (fun i D=>by
   obtain ⟨c,l⟩:∃ c,c=g[i]:=⟨_,rfl⟩
   have u:ix g (i:Int)=c:=by rw [cC D,l]
   have B:c∈f:=G c (by rw [l]; exact List.getElem_mem D)
   have E:f.idxOf c<f.length:=List.idxOf_lt_length_iff.2 B
   obtain ⟨h,b⟩:∃ h,h=(g.take i).map fun c=>ix vs ((f.idxOf c:Nat):Int):=⟨_,rfl⟩
   have F:h.length≤6:=by rw [b]; simp; omega
   simp only [Zi_L1]
   rw [if_pos (by simp; omega),← b]
   rw [eV (f:=fun s:List Int×Int=>Zi_L2 g f vs (i:Int) s.1 s.2) (r:=h++[ix vs ((f.idxOf c:Nat):Int)]) (fun k=>(h++(if f.idxOf c<k then [ix vs ((f.idxOf c:Nat):Int)] else []),(k:Int))) f.length
    (fun k hk=>by
     have j:(bt f (k:Int)==bt g (i:Int))=decide (f[k]=c):=by
      rw [show bt f (k:Int)=((ix f (k:Int)).toNat:Int) from rfl,show bt g (i:Int)=((ix g (i:Int)).toNat:Int) from rfl,lL,u,cC hk]
     have a:f[k]=c↔f.idxOf c=k:=by
      constructor
      ·intro e
       rw [← e]
       exact I.idxOf_getElem k hk
      ·intro e; subst e; exact List.getElem_idxOf E
     simp only [Zi_L2,Zi_J5]
     rw [if_pos (by simp; omega),if_pos (by omega),if_pos (by omega),j,cA (by unfold cS; omega)]
     by_cases q:f.idxOf c=k
     ·rw [if_pos (decide_eq_true (a.2 q)),if_pos (by omega),if_neg (show ¬ f.idxOf c<k by omega),if_pos (show f.idxOf c<k+1 by omega),List.append_nil,if_pos (by simp; omega),q]
     ·rw [if_neg (by simpa using fun z=>q (a.1 z))]
      by_cases r:f.idxOf c<k
      ·rw [if_pos r,if_pos (by omega)]
      ·rw [if_neg r,if_neg (by omega)])
    (by simp only [Zi_L2]; rw [if_neg (by simp),if_pos E])
    (s:=(h,0)) (by simp)]
   simp only [Option.bind_some,Zi_J6]
   rw [cA (by unfold cS; omega),List.take_succ_eq_append_getElem D,List.map_append,← b,← l]
   rfl)
  (by simp only [Zi_L1]; rw [if_neg (by simp),List.take_length])
  (s:=([],0)) rfl]
 rfl
theorem BX {ds is:List Int}(h:IV ds is){j:Nat}(a:j<ds.length):0≤ix is (j:Int)∧ix is (j:Int)<ix ds (j:Int):=by
 induction ds generalizing is j with
 | nil=>simp at a
 | cons d ds ih=>cases is with
  | nil=>exact h.elim
  | cons i is =>
   cases j with
   | zero=>simpa [ix] using h.1
   | succ j =>
    have:=ih h.2 (j:=j) (by simpa using a)
    simpa [ix] using this
theorem BY {ds is:List Int}(a:is.length=ds.length)(h:∀ j:Nat,j<ds.length→0≤ix is (j:Int)∧ix is (j:Int)<ix ds (j:Int)):IV ds is:=by
 induction ds generalizing is with
 | nil=>cases is with
  | nil=>trivial
  | cons=>simp at a
 | cons d ds ih=>cases is with
  | nil=>simp at a
  | cons i is =>
   refine ⟨by simpa [ix] using h 0 (by simp),ih (by simpa using a) fun j b=>?_⟩
   have:=h (j+1) (by simpa using b)
   simpa [ix] using this
theorem nB {ls:List Int}(h:∀ d∈ls,1≤d)(k:Nat):1≤pr (ls.take k)∧pr (ls.take k)≤pr ls:=by
 have h2:1≤pr (ls.drop k):=fP fun d a=>h d (List.mem_of_mem_drop a)
 have b:1≤pr (ls.take k):=fP fun d a=>h d (List.mem_of_mem_take a)
 exact ⟨b,by rw [gW ls k]; exact ja (by omega) h2⟩
def uZ (f:aN)(dss:List (List Int))(s:aN×List Int):Prop:=(parts f).2.2=true∧(parts f).1.length=dss.length∧pV (parts f).1 (parts f).2.1 dss s∧eL ((s.1.map (lk s.2)).take (parts f).2.1.length)
theorem re {f:aN}{D:List Tensor}(hb:f.length≤1048576)(ht:∀ t∈D,TT t)(hn:D.length≤6) :
  (∃ s,uZ f (D.map Tensor.Dims) s∧∃ d,Z5 f D=some ⟨(s.1.map (lk s.2)).take (parts f).2.1.length,d⟩∧TOk ((s.1.map (lk s.2)).take (parts f).2.1.length) d)∨((¬ ∃ s,uZ f (D.map Tensor.Dims) s)∧Z5 f D=some ⟨[],[]⟩):=by
 obtain ⟨dss,B⟩:∃ dss,dss=D.map Tensor.Dims:=⟨_,rfl⟩
 have hd:∀ ds∈dss,eL ds:=by
  intro ds h
  rw [B] at h
  obtain ⟨t,h1,rfl⟩:=List.mem_map.1 h
  exact (ht t h1).d
 have ag:dss.length=D.length:=by rw [B]; simp
 rw [← B]
 unfold uZ
 obtain ⟨b,U⟩:∃ b,b=parts f:=⟨_,rfl⟩
 have a7:b.2.2=true→PO b.1 b.2.1:=by
  rw [U]; unfold parts
  split
  ·intro h; cases h
  ·split
   ·intro _; assumption
   ·intro h; cases h
 unfold Z5
 rw [wF hb,← U]
 simp only [Option.bind_some]
 by_cases J:b.2.2=true∧b.1.length=dss.length
 ·obtain ⟨J,c2⟩:=J
  rw [if_neg (by simp [J]; omega)]
  have hP:=a7 J
  have a4:=hP
  obtain ⟨p1,p2,p3,p4⟩:=a4
  have L1:aQ (fun s:List (List Int)×Int=>Z5_L1 D s.1 s.2) ([],0)=some (Sum.inr dss):=by
   refine eV (f:=fun s:List (List Int)×Int=>Z5_L1 D s.1 s.2) (fun k=>((D.take k).map Tensor.Dims,(k:Int))) D.length (fun k hk=>?_) ?_ rfl
   ·simp only [Z5_L1]
    rw [if_pos (by simp; omega),if_pos (by omega),qQ (ht _ (bI hk))]
    simp only [Option.bind_some]
    rw [if_neg (by simp),if_pos (by simp; omega),cA (by unfold cS; omega),List.take_succ_eq_append_getElem hk,List.map_append,cC hk]
    rfl
   ·simp only [Z5_L1]
    rw [if_neg (by simp),List.take_length,← B]
  rw [L1]
  simp only [Option.bind_some,Z5_J1]
  rcases t7 hP c2 hd with ⟨s,h1,h2⟩|⟨h1,e,h2,h3⟩
  ·rw [h2]
   simp only [Option.bind_some]
   have T:=oX hP c2 hd h1.1
   obtain ⟨ls,E⟩:∃ ls,ls=s.1.map (lk s.2):=⟨_,rfl⟩
   have Z:ls.length=s.1.length:=by rw [E]; simp
   have Y:=T.l
   have I:=T.d
   obtain ⟨t,a0⟩:=T.p
   have ac:b.2.1.length≤ls.length:=by rw [Z,a0]; simp
   have a8:=h1.2
   rw [← E] at a8 I ⊢
   have G:∀ d∈ls,1≤d:=fun d h=>(I d h).1
   rw [if_pos (fun _=>by omega)]
   simp only [bP,Bool.not_true,Bool.not_false,cond_true,Bool.false_or]
   rw [lG,gO (by simp only [List.length_take]; unfold cS; omega)]
   simp only [Option.bind_some]
   obtain ⟨a,F⟩:∃ a,a=ls.take b.2.1.length:=⟨_,rfl⟩
   rw [← F]
   by_cases c3:eL a
   ·rw [decide_eq_true c3,if_neg (by simp),if_pos (by omega),lz c3]
    simp only [Option.bind_some]
    refine .inl ⟨s,⟨J,c2,h1,by rw [← E,← F]; exact c3⟩,?_⟩
    rw [← E,← F]
    have L2:aQ (fun z:Int×Int=>Z5_L2 (s.1,ls,true) z.1 z.2) (1,0)=some (pr ls):=by
     refine eV (f:=fun z:Int×Int=>Z5_L2 (s.1,ls,true) z.1 z.2) (fun k=>(pr (ls.take k),(k:Int))) ls.length (fun k hk=>?_) ?_ (by simp [pr])
     ·have a1:=nB G k
      have a2:=nB G (k+1)
      have a3:=I _ (bI hk)
      simp only [Z5_L2]
      rw [if_pos (by simp; omega),if_pos (by omega),iY (by omega) (by omega) (by omega) (by omega),cA (by unfold cS; omega),sr hk]
     ·simp only [Z5_L2]
      rw [if_neg (by simp),List.take_length]
    rw [L2]
    simp only [Option.bind_some,Z5_J2]
    have ae:=fP G
    have ai:=c3.2.pos
    obtain ⟨r,q1,q2⟩:=lE (f:=fun z:List Int×Int=>Z5_L3 D b (s.1,ls,true) ⟨a,List.replicate (pr a).toNat 0⟩ (pr ls) z.1 z.2) (Post:=fun r=>RG (pr a).toNat r) (pr a).toNat (pr ls).toNat
     (fun j hj x hx=>by
      have aj:(j:Int)<pr ls:=by omega
      simp only [Z5_L3]
      rw [if_pos (by simp; omega),wI (by omega) I (by omega) (by omega)]
      simp only [Option.bind_some]
      have hI:=iB G (j:Int)
      obtain ⟨vs,a9⟩:∃ vs,vs=iA ls (j:Int):=⟨_,rfl⟩
      rw [← a9] at hI ⊢
      have al:=hI.len
      obtain ⟨p,g1,_⟩:=gX (f:=fun z:Int×Int=>Z5_L4 D b (s.1,ls,true) vs z.1 z.2) (fun k z=>z.2=(k:Int)) b.1.length (Post:=fun _=>True)
       (fun k z hk hz=>by
        obtain ⟨y,i⟩:=z
        dsimp only at hz; subst hz
        simp only [Z5_L4]
        have M:k<D.length:=by omega
        obtain ⟨e1,e2⟩:=T.g k hk
        have a5:ix dss (k:Int)=(ix D (k:Int)).Dims:=by rw [B,cC (by simpa using M),cC M]; simp
        have a6:=p3 _ (bI hk)
        rw [if_pos (by simp; omega),if_pos (by omega),if_pos (by omega),uY a6.1 Y (by omega) T.i.n (fun c hc=>by
         obtain ⟨m,hm,rfl⟩:=List.getElem_of_mem hc
         have:=(e2 m hm).1
         rwa [cC hm] at this)]
        simp only [Option.bind_some]
        obtain ⟨w,w1,_⟩:=o4 (ht _ (bI M)) (is:=(ix b.1 (k:Int)).map fun c=>ix vs ((s.1.idxOf c:Nat):Int)) (by
         rw [← a5]
         refine BY (by simp [e1]) fun m hm=>?_
         have O:m<(ix b.1 (k:Int)).length:=by omega
         obtain ⟨f1,f2⟩:=e2 m O
         have hp:s.1.idxOf (ix (ix b.1 (k:Int)) (m:Int))<s.1.length:=List.idxOf_lt_length_iff.2 f1
         have hv:=BX hI (j:=s.1.idxOf (ix (ix b.1 (k:Int)) (m:Int))) (by omega)
         have aa:ix ((ix b.1 (k:Int)).map fun c=>ix vs ((s.1.idxOf c:Nat):Int)) (m:Int)=ix vs ((s.1.idxOf (ix (ix b.1 (k:Int)) (m:Int)):Nat):Int):=by
          rw [cC (by simpa using O),List.getElem_map,cC (xs:=ix b.1 (k:Int)) O]
         have ab:ix ls ((s.1.idxOf (ix (ix b.1 (k:Int)) (m:Int)):Nat):Int)=ix (ix dss (k:Int)) (m:Int):=by
          rw [E,ra hp,List.getElem_idxOf hp,f2]
         rw [aa,← ab]
         exact hv)
        rw [w1]
        simp only [Option.bind_some]
        obtain ⟨u,u1,_⟩:=mR y w
        rw [u1]
        exact ⟨_,rfl,by rw [cA (by unfold cS; omega)]⟩)
       (fun z hz=>by
        obtain ⟨y,i⟩:=z
        dsimp only at hz; subst hz
        simp only [Z5_L4]
        rw [if_neg (by simp)]
        exact ⟨_,rfl,trivial⟩)
       (s:=(1,0)) rfl
      rw [g1]
      simp only [Option.bind_some,Z5_J4]
      have L:=sd hI b.2.1.length
      rw [← F] at L
      have ak:=nu c3.2.1 L
      rw [if_pos (by omega),lG,oJ c3 L]
      simp only [Option.bind_some,List.length_replicate]
      rw [if_pos (by omega)]
      obtain ⟨u,u1,u2⟩:=oO (ix x (mP a (vs.take b.2.1.length))) p
      rw [u1]
      exact ⟨_,by rw [cA (by unfold cS; omega)]; rfl,hx.set u2 _⟩)
     (fun x hx=>by
      simp only [Z5_L3]
      rw [if_neg (by simp; omega)]
      exact ⟨_,rfl,hx⟩)
     (x:=List.replicate (pr a).toNat 0) (RG.rep _)
    rw [q1]
    exact ⟨r,rfl,iC c3 q2⟩
   ·rw [decide_eq_false c3,if_pos (by simp)]
    refine .inr ⟨?_,rfl⟩
    rintro ⟨s',_,_,g1,g2⟩
    have:=g1.1
    rw [h1.1] at this; cases this
    rw [← E,← F] at g2
    exact c3 g2
  ·rw [h2]
   obtain ⟨e1,e2,e3⟩:=e
   dsimp only at h3; subst h3
   simp only [Option.bind_some]
   rw [if_pos (fun z=>by simp at z)]
   simp only [bP,Bool.not_true,Bool.not_false,cond_false,Option.bind_some,Bool.true_or,if_true]
   exact .inr ⟨fun ⟨s,_,_,z,_⟩=>h1 s z,trivial⟩
 ·rw [if_pos]
  ·exact .inr ⟨fun ⟨s,z1,z2,_⟩=>J ⟨z1,z2⟩,rfl⟩
  ·cases q:b.2.2
   ·rfl
   ·have:b.1.length≠dss.length:=fun z=>J ⟨q,z⟩
    simp; omega
theorem t8 {f:aN}(h:(parts f).2.2=true):1≤(parts f).1.length∧(parts f).1.length≤6:=by
 unfold parts at h ⊢
 split
 ·rename_i e; rw [e] at h; cases h
 ·rename_i p e
  rw [e] at h
  simp only at h ⊢
  by_cases c:PO (gB p.1) p.2
  ·rw [if_pos c]
   refine ⟨?_,c.1⟩
   have:=mg p.1
   cases q:gB p.1 with
   | nil=>exact absurd q this
   | cons=>simp
  ·rw [if_neg c] at h; cases h
theorem sh5 (b i j s n args):bT ⟨5,b,i,j,s⟩ n args=Z34 ⟨⟩ n args:=rfl
theorem wK {n:Node}{out:List Tensor}(I:Caps n out)(e:n.Op=11):pU n out (Zh n (out.map Tensor.Dims)):=by
 have Z:oS n out.length→∀ t∈(n.Args.map fun a=>ix out a),TT t:=kx I
 have sh:∀ A:List Tensor,(∀ t∈A,TT t)→∃ r j,bT ⟨5,false,0,0,[]⟩ n (A.map Tensor.Dims)=some (r,j)∧(j=true→∃ s,uZ n.Form (A.map Tensor.Dims) s∧r=(s.1.map (lk s.2)).take (parts n.Form).2.1.length)∧(j=false→¬ ∃ s,uZ n.Form (A.map Tensor.Dims) s):=by
  intro A D
  rw [sh5]
  unfold Z34
  rcases uX (f:=n.Form) (dss:=A.map Tensor.Dims) I.f (fun ds h=>by
   obtain ⟨t,h1,rfl⟩:=List.mem_map.1 h
   exact (D t h1).d) with ⟨q1,q2,s,q3,q4,r,q5,q6⟩|⟨q1,r,q2⟩
  ·rw [q5]
   exact ⟨_,_,rfl,fun _=>⟨s,⟨q1,q2,q3,q4⟩,q6⟩,fun h=>by cases h⟩
  ·rw [q2]
   exact ⟨_,_,rfl,(fun h=>by cases h),fun _=>fun ⟨s,a,b,c,d⟩=>q1 ⟨a,b,s,c,d⟩⟩
 refine ny I (kd:=⟨5,false,0,0,[]⟩) (u:=kL) (fb:=decide (FM n 1 6 false 0 0)) (by rw [e]; rfl) rfl rfl (lH n kL false false true false yY yZ y' z6) (gY (by omega) (by omega) (by rw [e]; rfl) (by rw [e]; rfl) (by rw [e]; rfl) (by rw [e]; rfl) ⟨by omega,by omega⟩) ?_ ?_ ?_
 ·intro E
  obtain ⟨f1,f2,U,f4,Y,f6,f7⟩:=of_decide_eq_true E
  have g3:n.Dims=[]:=U.resolve_left (by simp)
  have g5:n.Data=[]:=Y.resolve_left (by omega)
  have g6:n.Ints=[]:=List.eq_nil_of_length_eq_zero (by omega)
  exact ⟨by rw [g3,g5,g6]; rfl,by omega⟩
 ·intro J hw E
  obtain ⟨r,j,F,G,T⟩:=sh _ (Z hw)
  cases j with
  | false=>exact ⟨r,F⟩
  | true =>
   obtain ⟨s,⟨q,B,_⟩,_⟩:=G rfl
   have hl:=t8 q
   refine absurd ?_ (of_decide_eq_false E)
   simp only [Bool.false_or,Bool.true_or,Bool.and_true,Bool.and_eq_true,lK,beq_iff_eq] at J
   have L:((n.Args.map fun a=>ix out a).map Tensor.Dims).length=n.Args.length:=by simp
   rw [L] at B
   exact ⟨by omega,by omega,.inr J.1.1,.inl e,.inr J.2,by omega,by rw [J.1.2]; decide⟩
 ·intro E hw
  obtain ⟨f1,f2,U,f4,Y,f6,f7⟩:=of_decide_eq_true E
  have D:=Z hw
  obtain ⟨A,l⟩:∃ A,A=n.Args.map fun a=>ix out a:=⟨_,rfl⟩
  have i:Do n out=(Z5 n.Form A).bind fun r=>some r:=by
   unfold Do Z2
   rw [if_neg (by omega),← l]
   simp only [Z2_J1,Z2_J2,e]
   simp only [Int.reduceBEq,Bool.false_eq_true,if_false,if_true,beq_self_eq_true]
  have hl:A.length≤6:=by rw [l]; simp; omega
  rw [← l] at D ⊢
  obtain ⟨r,j,F,G,T⟩:=sh A D
  rcases re I.f D hl with ⟨s,q,d,B,c3⟩|⟨q,B⟩
  ·rw [B] at i
   cases j with
   | false=>exact absurd ⟨s,q⟩ (T rfl)
   | true =>
    obtain ⟨s',k1,k2⟩:=G rfl
    have M:s'=s:=by
     have O:=k1.2.2.1.1
     rw [q.2.2.1.1] at O
     exact (Option.some.inj O).symm
    subst M
    exact ⟨⟨_,d⟩,.inl ⟨by rw [F,k2],i,c3⟩⟩
  ·rw [B] at i
   cases j with
   | false=>exact ⟨⟨[],[]⟩,.inr ⟨r,F,i⟩⟩
   | true=>obtain ⟨s',k1,_⟩:=G rfl; exact absurd ⟨s',k1⟩ q
theorem u' {n:Node}{out:List Tensor}(i:Caps n out):pU n out (Zh n (out.map Tensor.Dims)):=by
 by_cases h:1≤n.Op∧n.Op≤19
 ·by_cases h1:n.Op=1
  ·exact uG i h1
  by_cases h2:n.Op=2
  ·exact uH i h2
  by_cases h3:n.Op≤5
  ·exact wu i (by omega) h3
  by_cases h4:n.Op≤9
  ·exact wv i ⟨by omega,h4⟩
  have:n.Op=10∨n.Op=11∨n.Op=12∨n.Op=13∨n.Op=14∨n.Op=15∨n.Op=16∨n.Op=17∨n.Op=18∨n.Op=19:=by omega
  rcases this with q | q | q | q | q | q | q | q | q | q
  ·exact ze i q
  ·exact wK i q
  ·exact sY i q
  ·exact qW i q
  ·exact uJ i q
  ·exact zj i q
  ·exact t2 i q
  ·exact qX i q
  ·exact sZ i q
  ·exact wA i q
 ·have e:∀ k:Int,1≤k→k≤19→(n.Op==k)=false:=fun k a b=>by simp; omega
  have hk:Z01 n.Op=some ⟨0,false,0,0,[]⟩:=by
   unfold Z01 Z01_J1 Z01_J2 Z01_J3
   simp only [e 1 (by omega) (by omega),e 2 (by omega) (by omega),e 3 (by omega) (by omega),e 4 (by omega) (by omega),e 5 (by omega) (by omega),e 6 (by omega) (by omega),e 7 (by omega) (by omega),e 8 (by omega) (by omega),e 9 (by omega) (by omega),e 10 (by omega) (by omega),e 11 (by omega) (by omega),e 12 (by omega) (by omega),e 13 (by omega) (by omega),e 14 (by omega) (by omega),e 15 (by omega) (by omega),e 16 (by omega) (by omega),e 17 (by omega) (by omega),e 18 (by omega) (by omega),e 19 (by omega) (by omega),Bool.false_eq_true,if_false]
  refine .inr ⟨[],?_,.inl ?_⟩
  ·unfold Zh
   rw [hk]
   rfl
  ·unfold Z1f
   rw [if_pos (by simp; omega)]
structure GC (g:Graph):Prop where
 n:g.Nodes.length<cS
 o:g.Outs.length<cS
 a:∀ n∈g.Nodes,n.Args.length<cS
 d:∀ n∈g.Nodes,n.Dims.length<cS
 i:∀ n∈g.Nodes,n.Ints.length<cS
 x:∀ n∈g.Nodes,n.Data.length<cS
 f:∀ n∈g.Nodes,n.Form.length≤1048576
def Cf (g:Graph)(k:Nat)(out:List Tensor):Prop:=∀ j:Nat,j<k→Z1f (ix g.Nodes (j:Int))=some true∧oS (ix g.Nodes (j:Int)) j∧Do (ix g.Nodes (j:Int)) (out.take j)=some (ix out (j:Int))
theorem zu {g:Graph}{out:List Tensor}{k:Nat}(hk:k<g.Nodes.length)(i:out.length≤200)(e:(ix g.Nodes (k:Int)).Args.length≤100)(hw:oS (ix g.Nodes (k:Int)) out.length) :
  aQ (fun s:List Tensor×Int=>Za_L2 g out (k:Int) s.1 s.2) ([],0)=some ((ix g.Nodes (k:Int)).Args.map fun a=>ix out a):=by
 refine eV (f:=fun s:List Tensor×Int=>Za_L2 g out (k:Int) s.1 s.2) (fun j=>(((ix g.Nodes (k:Int)).Args.take j).map fun a=>ix out a,(j:Int))) (ix g.Nodes (k:Int)).Args.length (fun j b=>?_) ?_ rfl
 ·have h:=hw _ (bI b)
  simp only [Za_L2]
  rw [if_pos (by simp; omega),if_pos (by omega),if_pos (by omega),if_pos (by simp; omega),cA (by unfold cS; omega),List.take_succ_eq_append_getElem b,List.map_append,cC b]
  rfl
 ·simp only [Za_L2]
  rw [if_neg (by simp),List.take_length]
theorem mj {n:Node}(h:Z1f n=some true):n.Args.length≤6:=by
 unfold Z1f at h
 split at h
 ·cases h
 ·obtain ⟨r,h1,h⟩:=bd h
  have a:r.2≤6:=by
   unfold Z3a at h1
   repeat' split at h1
   all_goals (cases h1; decide)
  split at h
  ·cases h
  ·rename_i q
   simp only [Bool.or_eq_true,decide_eq_true_eq,not_or] at q
   omega
theorem v2 {g:Graph}{ins:List Tensor}{out:List Tensor}{k:Nat}{t:Tensor}(hk:k<g.Nodes.length)(h:out.length=k)(l:g.Nodes.length≤200)(e:Z1f (ix g.Nodes (k:Int))=some true)(hw:oS (ix g.Nodes (k:Int)) out.length)(a:Do (ix g.Nodes (k:Int)) out=some t) :
  Za_L1 g ins true out 0 (k:Int)=Za_J4 out (k:Int) 0 t.Dims t.Data:=by
 have j:=mj e
 simp only [Za_L1]
 rw [if_pos (by simp; omega),if_pos (by omega),e]
 simp only [Option.bind_some,bP,Bool.not_true,Bool.not_false,cond_true,Bool.false_or]
 rw [kw (by unfold cS; omega)]
 have b:∀ x∈(ix g.Nodes (k:Int)).Args,0≤x∧x<(k:Int):=by
  intro x i
  have:=hw x i
  rwa [h] at this
 simp only [Option.bind_some]
 rw [decide_eq_true b,if_neg (by simp),zu hk (by omega) (by omega) hw]
 simp only [Option.bind_some,Za_J3]
 unfold Do at a
 by_cases c:(ix g.Nodes (k:Int)).Op=1
 ·rw [if_pos c] at a
  rw [if_neg (by simp [c]),if_pos trivial,a]
  rfl
 ·rw [if_neg c] at a
  rw [if_pos (by simp [c]),a]
  rfl
theorem pW {g:Graph}{ins:List Tensor}(r:GC g)(I:g.Nodes.length≤200):∀ (m k:Nat) (out:List Tensor),k+m=g.Nodes.length→out.length=k→(∀ t∈out,TT t)→Cf g k out →
  (∃ h,aQ (fun s:List Tensor×Int×Int=>Za_L1 g ins true s.1 s.2.1 s.2.2) (out,0,(k:Int))=some (.inr (h,0))∧aQ (fun s:List (List Int)×Int=>Zn_L1 g s.1 s.2) (out.map Tensor.Dims,(k:Int))=some (.inr (h.map Tensor.Dims))∧h.length=g.Nodes.length∧(∀ t∈h,TT t)∧Cf g g.Nodes.length h) ∨
  ((∃ e,aQ (fun s:List Tensor×Int×Int=>Za_L1 g ins true s.1 s.2.1 s.2.2) (out,0,(k:Int))=some (.inl e)∧e.2=false)∧∃ e,aQ (fun s:List (List Int)×Int=>Zn_L1 g s.1 s.2) (out.map Tensor.Dims,(k:Int))=some (.inl e)∧e.2=false)
 | 0,k,out,hk,ho,ht,hr=>by
  have hk:k=g.Nodes.length:=by omega
  subst hk
  refine .inl ⟨out,cT ?_,cT ?_,ho,ht,hr⟩
  ·simp only [Za_L1]; rw [if_neg (by simp)]
  ·simp only [Zn_L1]; rw [if_neg (by simp)]
 | m+1,k,out,hk,ho,ht,hr=>by
  have q:k<g.Nodes.length:=by omega
  have D:=bI q
  have U:Caps (ix g.Nodes (k:Int)) out:=⟨r.a _ D,r.d _ D,r.i _ D,r.x _ D,r.f _ D,by omega,ht⟩
  have L:∀ p:List Int×Bool,Zh (ix g.Nodes (k:Int)) (out.map Tensor.Dims)=some p→Zn_L1 g (out.map Tensor.Dims) (k:Int)=if p.2=true then some (.inl (out.map Tensor.Dims++[p.1],((k+1:Nat):Int))) else some (.inr (.inl ([],false))):=by
   intro p T
   simp only [Zn_L1]
   rw [if_pos (by simp; omega),if_pos (by omega),T]
   simp only [Option.bind_some]
   cases p.2
   ·rfl
   ·rw [if_neg (by simp),if_pos (by simp; omega),cA (by unfold cS; omega)]; rfl
  rcases u' U with ⟨t,h1,h2,B,M,G⟩|⟨ds,h1,h2⟩
  ·have O:=G.l
   have T:=G.d.2.pos
   have E:=v2 (ins:=ins) q ho I h2 B M
   unfold Za_J4 at E
   rw [if_neg (by simp; intro z; rw [z] at O; simp at O; omega),if_pos (by simp; omega),cA (by unfold cS; omega)] at E
   have F:=L _ h1
   rw [if_pos rfl] at F
   rw [eH (f:=fun s:List Tensor×Int×Int=>Za_L1 g ins true s.1 s.2.1 s.2.2) E,eH (f:=fun s:List (List Int)×Int=>Zn_L1 g s.1 s.2) F]
   have:=pW (ins:=ins) r I m (k+1) (out++[t]) (by omega) (by simp [ho]) (by
    intro u Y
    rcases List.mem_append.1 Y with z | z
    ·exact ht u z
    ·simp at z; subst z; exact G) (by
    intro j hj
    by_cases e:j<k
    ·obtain ⟨a,b,c⟩:=hr j e
     refine ⟨a,b,?_⟩
     rw [List.take_append_of_le_length (by omega),c,cC (by omega),cC (by simp; omega),List.getElem_append_left (by omega)]
    ·have e:j=k:=by omega
     subst e
     rw [ho] at B
     refine ⟨h2,B,?_⟩
     rw [List.take_append_of_le_length (by omega),List.take_of_length_le (by omega),cC (xs:=out++[t]) (by rw [List.length_append,List.length_singleton]; omega),List.getElem_append_right (by omega)]
     simpa [ho] using M)
   rw [List.map_append] at this
   exact this
  ·have F:=L _ h1
   rw [if_neg (by simp)] at F
   refine .inr ⟨?_,_,cT F,rfl⟩
   rcases h2 with h2 | ⟨h2,B⟩
   ·refine ⟨(out,false),cT ?_,rfl⟩
    simp only [Za_L1]
    rw [if_pos (by simp; omega),if_pos (by omega),h2]
    rfl
   ·by_cases w:oS (ix g.Nodes (k:Int)) out.length
    ·have E:=v2 (ins:=ins) q ho I h2 w (B w)
     exact ⟨(out,false),cT E,rfl⟩
    ·refine ⟨(out,false),cT ?_,rfl⟩
     have ha:=mj h2
     simp only [Za_L1]
     rw [if_pos (by simp; omega),if_pos (by omega),h2]
     simp only [Option.bind_some,bP,Bool.not_true,Bool.not_false,cond_true,Bool.false_or]
     rw [kw (by unfold cS; omega)]
     have J:¬ ∀ x∈(ix g.Nodes (k:Int)).Args,0≤x∧x<(k:Int):=by
      intro z; refine w fun x Z=>?_
      have:=z x Z
      rwa [ho]
     simp only [Option.bind_some]
     rw [decide_eq_false J,if_pos (by simp)]
theorem pX {g:Graph}(I:GC g):∃ b L F,Za g [] true=some (b,F)∧Zn g=some (L,F)∧(F=true→L=b.map Tensor.Dims∧b.length=g.Nodes.length∧(∀ t∈b,TT t)∧Cf g g.Nodes.length b∧g.Nodes.length≤200∧g.Outs.length≤40∧∀ o∈g.Outs,0≤o∧o<(g.Nodes.length:Int)):=by
 unfold Za Zn
 by_cases c:g.Nodes.length≤200∧g.Outs.length≤40
 ·rw [if_neg (by simp; omega),if_neg (by simp; omega)]
  have r:∀ s:Int→Option (Int⊕(((List (List Int))×Bool)⊕Unit)),s=(fun x=>Zn_L2 g x)→aQ s 0=some (if g.Outs.all (fun x=>!(decide (x<0)||decide (x≥(g.Nodes.length:Int)))) then .inr () else .inl ([],false)):=by
   rintro _ rfl
   refine eP g.Outs (fun x=>Zn_L2 g x) (fun i=>i) _ _ _ (fun j J=>?_) ?_
   ·simp only [Zn_L2]
    rw [if_pos (by simp; omega),if_pos (by omega),cA (by unfold cS; omega)]
    cases (decide (ix g.Outs (j:Int)<0)||decide (ix g.Outs (j:Int)≥(g.Nodes.length:Int)))<;>rfl
   ·simp only [Zn_L2]
    rw [if_neg (by simp)]
  have O:g.Outs.all (fun x=>!(decide (x<0)||decide (x≥(g.Nodes.length:Int))))=decide (∀ o∈g.Outs,0≤o∧o<(g.Nodes.length:Int)):=by
   rw [Bool.eq_iff_iff]
   simp only [List.all_eq_true,decide_eq_true_eq,Bool.not_eq_true',Bool.or_eq_false_iff,decide_eq_false_iff_not]
   exact ⟨fun h x E=>by have:=h x E; omega,fun h x E=>by have:=h x E; omega⟩
  have r:=r _ rfl
  rw [O] at r
  rcases pW (ins:=[]) I c.1 g.Nodes.length 0 [] (by omega) rfl (fun t h=>by simp at h) (fun j J=>absurd J (Nat.not_lt_zero _)) with ⟨out,h1,h2,B,l,M⟩|⟨⟨e,h1,h2⟩,G,B,l⟩
  ·have a:aQ (fun s:List Tensor×Int×Int=>Za_L1 g [] true s.1 s.2.1 s.2.2) ([],0,0)=some (.inr (out,0)):=h1
   have u:aQ (fun s:List (List Int)×Int=>Zn_L1 g s.1 s.2) ([],0)=some (.inr (out.map Tensor.Dims)):=h2
   rw [a,u]
   simp only [Option.bind_some,Za_J5,Zn_J1,Zn_J2]
   rw [kw I.o,r]
   simp only [Option.bind_some]
   by_cases q:∀ o∈g.Outs,0≤o∧o<(g.Nodes.length:Int)
   ·rw [decide_eq_true q]
    exact ⟨_,_,_,rfl,rfl,fun _=>⟨rfl,B,l,M,c.1,c.2,q⟩⟩
   ·rw [decide_eq_false q]
    exact ⟨_,_,_,rfl,rfl,fun h=>by cases h⟩
  ·have a:aQ (fun s:List Tensor×Int×Int=>Za_L1 g [] true s.1 s.2.1 s.2.2) ([],0,0)=some (.inl e):=h1
   have D:aQ (fun s:List (List Int)×Int=>Zn_L1 g s.1 s.2) ([],0)=some (.inl G):=B
   rw [a,D]
   obtain ⟨T,U⟩:=e
   obtain ⟨Y,Z⟩:=G
   dsimp only at h2 l
   subst h2; subst l
   exact ⟨_,_,_,rfl,rfl,fun h=>by cases h⟩
 ·rw [if_pos (by simp; omega),if_pos (by simp; omega)]
  exact ⟨_,_,_,rfl,rfl,fun h=>by cases h⟩
def Cg:Nat:=9223372036854775807
def gI (n:Nat)(a:Int):Int:=if a<(n:Int) then -1 else a - n
def nC {α:Type}(n:α→Nat)(xs:List α):Nat:=xs.length+(xs.map n).sum
theorem k9 {a b:Nat}{e:Int}(h:0≤e):gI (a+b) e=if gI a e<0 then -1 else gI b (gI a e):=by
 unfold gI
 (repeat' split)<;>omega
theorem jB {a:Nat}{b:Int}(e:0≤b)(h:¬ gI a b<0):0≤gI a b∧gI a b≤b∧gI a b=b - a:=by
 unfold gI at *
 split at h<;>rename_i q
 ·exact absurd (by decide) h
 ·rw [if_neg q]; omega
theorem wL {n:Nat}{a:Int}(b:n≤Cg)(e:0≤a)(h1:a≤1048576) :
  (if (decide ((aI (a - (n:Int)))<(0:Int)))=true then (some (-1:Int)) else (some (aI (a - (n:Int)))))=some (gI n a):=by
 unfold Cg at b
 rw [aX (by omega) (by omega)]
 unfold gI
 by_cases h:a<(n:Int)
 ·rw [if_pos (by simp; omega),if_pos h]
 ·rw [if_neg (by simp; omega),if_neg h]
theorem wM {α:Type}[Inhabited α](xs:List α)(n:α→Nat)(D:xs.length<cS)(g:α→Int→Option Int)(f:Int×Int→Option ((Int×Int)⊕(Int⊕Int)))
  (B:∀ x∈xs,∀ a:Int,0≤a→a≤1048576→g x a=some (gI (n x) a))
  (l:∀ a i,f (a,i)=if (decide (i<(xs.length:Int)))=true then (if (0≤i∧i<(xs.length:Int)) then (g (ix xs i) a).bind fun (r:Int)=>if (decide (r<(0:Int)))=true then (some (.inr (.inl (-1:Int)))) else (some (.inl (r,(aI (i+(1:Int)))))) else none) else (some (.inr (.inr a))))
  (a:Int) (j:0≤a) (h1:a≤1048576) :
  ((aQ f (a,0)).bind fun e=>match e with | .inl e=>some e | .inr e=>some e)=some (gI ((xs.map n).sum) a):=by
 rw [jL (S:=Int) xs (fun _ s=>0≤s∧s≤1048576) f (fun s i=>(s,i)) (fun s _ x=>if gI (n x) s<0 then .inr (.inl (-1)) else .inl (gI (n x) s)) (fun s=>.inr s) ?_ ?_ ?_ a ⟨j,h1⟩]
 ·rw [aP]
  clear l D
  generalize 0=k
  induction xs generalizing a k with
  | nil=>show some a=some (gI 0 a); unfold gI; rw [if_neg (by omega)]; congr 1; simp
  | cons x xs ih =>
   unfold rW
   rw [List.map_cons,List.sum_cons,k9 j]
   by_cases h:gI (n x) a<0
   ·simp only [h,if_true]
   ·obtain ⟨u,F,_⟩:=jB j h
    simp only [h,if_false]
    exact ih (fun y E=>B y (by simp [E])) _ u (by omega) _
 ·rintro s k ⟨i0,q⟩ hk
  rw [l,if_pos (by simpa using hk),if_pos (by omega),B _ (bI hk) s i0 q,aP,cA (by omega)]
  by_cases h:gI (n (ix xs (k:Int))) s<0
  ·simp [h]
  ·simp [h]
 ·rintro s k s' ⟨i0,q⟩ hk b
  split at b
  ·cases b
  ·rename_i h
   obtain ⟨u,F,_⟩:=jB i0 h
   injection b with b
   subst b
   exact ⟨u,by omega⟩
 ·rintro s ⟨i0,q⟩
  rw [l,if_neg (by simp)]
theorem wN {α:Type}[Inhabited α]{xs:List α}{n:α→Nat}{a:Int}{x:Int→Option Int}(l:xs.length≤Cg)(j:0≤a)(h1:a≤1048576)(q:¬ gI xs.length a<0→x (gI xs.length a)=some (gI ((xs.map n).sum) (gI xs.length a))) :
  (if (decide ((aI (a - (xs.length:Int)))<(0:Int)))=true then (some (-1:Int)) else x (aI (a - (xs.length:Int))))=some (gI (nC n xs) a):=by
 have i:=l
 unfold Cg at i
 unfold nC
 rw [k9 j]
 have e:aI (a - (xs.length:Int))=a - xs.length:=aX (by omega) (by omega)
 rw [e]
 by_cases h:a<(xs.length:Int)
 ·rw [if_pos (by simp; omega),if_pos (by unfold gI; rw [if_pos h]; omega)]
 ·have b:gI xs.length a=a - xs.length:=by unfold gI; rw [if_neg h]
  rw [if_neg (by simp; omega),if_neg (by rw [b]; omega)]
  have:=q (by rw [b]; omega)
  rw [b] at this ⊢
  exact this
theorem oY {k:Nat}{n:Nat}(h:k<n):(0:Int)≤(k:Int)∧(k:Int)<(n:Int):=⟨by omega,by omega⟩
theorem zw {k:Nat}{n:Nat}(h:k<n):(decide ((k:Int)<(n:Int)))=true:=by simpa using h
theorem rf {n:Nat}:(decide ((n:Int)<(n:Int)))=false:=by simp
theorem oZ (xs ys:List Int)(h:xs.length=ys.length):((List.range xs.length).all fun k=>ix xs (k:Int)==ix ys (k:Int))=decide (xs=ys):=by
 by_cases e:xs=ys
 ·subst e; simp
 ·simp only [e,decide_false]
  rw [List.all_eq_false]
  refine Classical.byContradiction fun b=>e ?_
  refine List.ext_getElem h fun k h1 h2=>?_
  refine Classical.byContradiction fun a=>b ⟨k,by simpa using h1,?_⟩
  rw [cC h1,cC h2]
  simpa using a
theorem wO (xs ys:List Int)(h:xs.length<cS):Z06 xs ys=some (decide (xs=ys)):=by
 unfold Z06
 by_cases hl:xs.length=ys.length
 ·rw [if_neg (by simp [hl])]
  rw [gR xs.length (fun s:Int=>Z06_L1 xs ys s) (fun i=>i) (fun k=>ix xs (k:Int)==ix ys (k:Int)) (.inl false) (.inr ()) (fun k hk=>by
   unfold Z06_L1
   rw [if_pos (zw hk),if_pos (oY hk),if_pos (oY (hl▸hk)),cA (by omega)]
   by_cases hq:ix xs (k:Int)=ix ys (k:Int)
   ·simp [hq]
   ·simp [hq]) (by unfold Z06_L1; simp only [rf,Bool.false_eq_true,if_false])]
  rw [oZ xs ys hl,aP]
  by_cases e:xs=ys<;>simp [e,Z06_J1]
 ·rw [if_pos (by simp; omega)]
  have:xs≠ys:=fun e=>hl (by rw [e])
  simp [this]
theorem pY (xs ys:List Int):Zz xs ys=Z06 xs ys:=rfl
theorem BZ {α:Type}[Inhabited α](x:Option α):bP true x=x:=rfl
def Rg (g:List Bool)(n:Nat)(gl:List Int):Prop:=g.length=n∧∀ j:Nat,j<n→ix g (j:Int)=decide ((j:Int)∈gl)
theorem Rg.set {g:List Bool}{n:Nat}{gl:List Int}(h:Rg g n gl){b:Int}(q:0≤b)(h1:b<(n:Int)):Rg (g.set b.toNat true) n (gl++[b]):=by
 obtain ⟨l,r⟩:=h
 refine ⟨by simpa using l,fun j i=>?_⟩
 obtain ⟨c,rfl⟩:=Int.eq_ofNat_of_zero_le q
 have a:j<(g.set (c:Int).toNat true).length:=by simpa [l] using i
 rw [cC a,List.getElem_set]
 by_cases e:(c:Int).toNat=j
 ·rw [if_pos e]; have:c=j:=by omega
  subst this; simp
 ·rw [if_neg e]
  have h2:=r j i
  rw [cC (by omega)] at h2
  rw [h2]
  have:¬ (j:Int)=(c:Int):=by omega
  simp [this]
theorem pZ {α T:Type}[Inhabited α](xs:List α)(z:α)(f:T→Option (T⊕List α))(mk:List α→Int→T)
  (u:∀ (ys:List α) (k:Nat),ys.length=xs.length→k<xs.length→f (mk ys (k:Int))=some (.inl (mk (ys.set k (ix xs (k:Int))) ((k+1:Nat):Int))))
  (b:∀ ys:List α,ys.length=xs.length→f (mk ys (xs.length:Int))=some (.inr ys)):aQ f (mk (List.replicate (xs.length:Int).toNat z) 0)=some xs:=by
 rw [Int.toNat_natCast]
 rw [jL (S:=List α) xs (fun _ s=>s.length=xs.length) f mk (fun s k x=>.inl (s.set k x)) (fun s=>s) (fun s k i hk=>u s k i hk) (fun s k s' i hk h=>by injection h with h; subst h; simpa using i) b _ (by simp)]
 congr 1
 have r:∀ (m k:Nat) (ys:List α),k+m=xs.length→ys.length=xs.length→(∀ j,j<k→ys[j]?=xs[j]?)→rW (R:=List α) (fun s k x=>.inl (s.set k x)) (fun s=>s) (xs.drop k) k ys=xs:=by
  intro m
  induction m with
  | zero =>
   intro k ys hk b l
   have hk:k=xs.length:=by omega
   subst hk
   rw [List.drop_length]
   show ys=xs
   refine List.ext_getElem? fun j=>?_
   by_cases q:j<xs.length
   ·exact l j q
   ·rw [List.getElem?_eq_none (by omega),List.getElem?_eq_none (by omega)]
  | succ m ih =>
   intro k ys hk b l
   have a:k<xs.length:=by omega
   rw [List.drop_eq_getElem_cons a]
   unfold rW
   refine ih (k+1) _ (by omega) (by simpa using b) (fun j q=>?_)
   rw [List.getElem?_set]
   by_cases e:k=j
   ·subst e; rw [if_pos rfl,if_pos (by omega)]; exact (List.getElem?_eq_getElem a).symm
   ·rw [if_neg e]; exact l j (by omega)
 simpa using r xs.length 0 (List.replicate xs.length z) (by omega) (by simp) (fun j q=>by omega)
theorem B' {α:Type}{n:Nat}{z:α}{k:Nat}(h:k<n):(0:Int)≤(k:Int)∧(k:Int)<((List.replicate (n:Int).toNat z).length:Int):=by
 rw [List.length_replicate,Int.toNat_natCast]; omega
theorem p6 (xs:List Int)(h:xs.length≤1048576):Zz xs xs=some true:=by
 rw [pY,wO _ _ (by unfold cS; omega)]; simp
theorem wP {α:Type}[Inhabited α](xs:List α)(f:Int→Option (Int⊕(Bool⊕Unit)))(h:xs.length≤1048576)(e:α→α→Option Bool)(b:∀ x∈xs,e x x=some true)
  (a:∀ i,f i=if (decide (i<(xs.length:Int)))=true then (if (0≤i∧i<(xs.length:Int)) then if (0≤i∧i<(xs.length:Int)) then (e (ix xs i) (ix xs i)).bind fun (r:Bool)=>if (!r)=true then (some (.inr (.inl false))) else (some (.inl (aI (i+(1:Int))))) else none else none) else (some (.inr (.inr ())))) :
  aQ f 0=some (.inr ()):=by
 rw [eP xs f (fun i=>i) (fun _=>true) (.inl false) (.inr ()) (fun k hk=>by
  rw [a,if_pos (zw hk),if_pos (oY hk),if_pos (oY hk),b _ (bI hk),aP,cA (by unfold cS; omega)]; rfl) (by rw [a]; simp only [rf,Bool.false_eq_true,if_false])]
 simp
theorem nD (x:Int):(x != x)=false:=by simp
def BB:Nat:=4611686018427387904
theorem kQ {α:Type}[Inhabited α]{ys:List α}{k:Nat}{v:α}(h:k<ys.length):ix (ys.set k v) (k:Int)=v:=by
 rw [cC (by simpa using h)]; simp
theorem kI {α:Type}[Inhabited α]{ys:List α}{k j:Nat}{v:α}(h:k≠j):ix (ys.set k v) (j:Int)=ix ys (j:Int):=by
 simp [ix,List.getD_eq_getElem?_getD,List.getElem?_set,h]
def mF {α:Type}(n:α→Nat)(xs:List α):Nat:=(xs.map n).sum
theorem nE {α:Type}(n:α→Nat)(x:α)(t:List α):mF n (x::t)=n x+mF n t:=by simp [mF]
theorem v6 {α:Type}(n:α→Nat){xs:List α}{k:Nat}(h:k<xs.length):mF n (xs.drop k)=n xs[k]+mF n (xs.drop (k+1)):=by
 rw [List.drop_eq_getElem_cons h,nE]
theorem oh {α T U:Type}[Inhabited α](xs:List α)(n:α→Nat)(g:α→Nat→α)(f:T→Option (T⊕(Int×List α)))(mk:List α→Int→Int→T)
  (I:∀ (ys:List α) (k i:Nat),i<xs.length→ys.length=xs.length→ix ys (i:Int)=ix xs (i:Int)→k+n (ix xs (i:Int))≤BB→f (mk ys (k:Int) (i:Int))=some (.inl (mk (ys.set i (g (ix xs (i:Int)) k)) ((k+n (ix xs (i:Int)):Nat):Int) ((i+1:Nat):Int))))
  (G:∀ ys k,f (mk ys k (xs.length:Int))=some (.inr (k,ys))) (k:Nat) (hk:k+mF n xs≤BB) :
  ∃ ys,aQ f (mk xs (k:Int) 0)=some (((k+mF n xs:Nat):Int),ys)∧ys.length=xs.length ∧
   ∀ (b:U→Option (U⊕(Int⊕Int))) (a:Int→Int→U),(∀ (k i:Nat),i<xs.length→k+n (ix xs (i:Int))≤BB→ix ys (i:Int)=g (ix xs (i:Int)) k→b (a (k:Int) (i:Int))=some (.inl (a ((k+n (ix xs (i:Int)):Nat):Int) ((i+1:Nat):Int)))) →
    (∀ k,b (a k (xs.length:Int))=some (.inr (.inr k)))→aQ b (a (k:Int) 0)=some (.inr ((k+mF n xs:Nat):Int)):=by
 have s:∀ (m i k:Nat) (ys:List α),i+m=xs.length→ys.length=xs.length→(∀ j,i≤j→j<xs.length→ix ys (j:Int)=ix xs (j:Int))→k+mF n (xs.drop i)≤BB →
   ∃ zs,aQ f (mk ys (k:Int) (i:Int))=some (((k+mF n (xs.drop i):Nat):Int),zs)∧zs.length=xs.length∧(∀ j,j<i→ix zs (j:Int)=ix ys (j:Int)) ∧
    ∀ (b:U→Option (U⊕(Int⊕Int))) (a:Int→Int→U),(∀ (k j:Nat),i≤j→j<xs.length→k+n (ix xs (j:Int))≤BB→ix zs (j:Int)=g (ix xs (j:Int)) k→b (a (k:Int) (j:Int))=some (.inl (a ((k+n (ix xs (j:Int)):Nat):Int) ((j+1:Nat):Int)))) →
     (∀ k,b (a k (xs.length:Int))=some (.inr (.inr k)))→aQ b (a (k:Int) (i:Int))=some (.inr ((k+mF n (xs.drop i):Nat):Int)):=by
  intro m
  induction m with
  | zero =>
   intro i k ys r l _ _
   have r:i=xs.length:=by omega
   subst r
   rw [List.drop_length]
   exact ⟨ys,cT (G ys k),l,fun j _=>rfl,fun b a _ h2=>cT (h2 k)⟩
  | succ m ih =>
   intro i k ys r l u Y
   have e:i<xs.length:=by omega
   have F:=v6 n e
   rw [← cC e] at F
   have q:=I ys k i e l (u i (Nat.le_refl _) e) (by omega)
   obtain ⟨zs,E,M,z3,z4⟩:=ih (i+1) (k+n (ix xs (i:Int))) (ys.set i (g (ix xs (i:Int)) k)) (by omega) (by simpa using l) (fun j h1 h2=>by
    rw [kI (by omega)]; exact u j (by omega) h2) (by omega)
   have h:k+n (ix xs (i:Int))+mF n (xs.drop (i+1))=k+mF n (xs.drop i):=by omega
   rw [h] at E z4
   refine ⟨zs,by rw [eH q]; exact E,M,fun j Z=>?_,fun b a h1 h2=>?_⟩
   ·rw [z3 j (by omega),kI (by omega)]
   ·have J:ix zs (i:Int)=g (ix xs (i:Int)) k:=by rw [z3 i (by omega),kQ (by omega)]
    rw [eH (h1 k i (Nat.le_refl _) e (by omega) J)]
    exact z4 b a (fun k j O=>h1 k j (by omega)) h2
 obtain ⟨ys,B,L,_,D⟩:=s xs.length 0 k xs (by omega) rfl (fun _ _ _=>rfl) (by simpa using hk)
 rw [List.drop_zero] at B D
 exact ⟨ys,B,L,fun b a h1 h2=>D b a (fun k j _=>h1 k j) h2⟩
theorem wn {k:Nat}(h:k+1≤BB):aI ((k:Int)+1)=((k+1:Nat):Int):=by
 unfold BB at h; rw [aX (by omega) (by omega)]; omega
theorem sv {α:Type}(c:Nat)(xs:List α):mF (fun _=>c) xs=c*xs.length:=by
 induction xs with
 | nil=>simp [mF]
 | cons x t ih=>rw [nE,ih,List.length_cons,Nat.mul_succ]; omega
noncomputable def vv (xs:List Int)(k:Nat):List Int:=((Zy xs (k:Int)).getD default).2
theorem wi {n k:Nat}(a:n≤1048576)(h:k<n):aI ((k:Int)+1)=((k+1:Nat):Int):=cA (by unfold cS; omega)
theorem jO (xs:List Int)(k:Nat)(b:xs.length≤1048576)(h:k+xs.length≤BB):Zy xs (k:Int)=some (((k+xs.length:Nat):Int),vv xs k)∧Z0k (vv xs k) (k:Int)=some ((k+xs.length:Nat):Int):=by
 obtain ⟨ys,j,u,l⟩:=oh (U:=Int×Int) xs (fun _=>1) (fun _ k=>(k:Int)) (fun s:(List Int)×Int×Int=>Zy_L1 xs s.1 s.2.1 s.2.2) (fun ys k i=>(ys,k,i)) (fun ys k i a D B hk=>by
  show Zy_L1 xs ys (k:Int) (i:Int)=_
  unfold Zy_L1
  rw [if_pos (zw a),if_pos (oY a),wi b a,wn hk,Int.toNat_natCast]) (fun ys k=>by
  show Zy_L1 xs ys k (xs.length:Int)=_
  unfold Zy_L1; simp only [rf,Bool.false_eq_true,if_false]) k (by rw [sv]; omega)
 rw [sv,Nat.one_mul] at j l
 have e:Zy xs (k:Int)=some (((k+xs.length:Nat):Int),ys):=by
  unfold Zy; rw [j,aP]; rfl
 have q:vv xs k=ys:=by unfold vv; rw [e]; rfl
 rw [q]
 refine ⟨e,?_⟩
 unfold Z0k
 rw [l (fun s:Int×Int=>Z0k_L1 ys s.1 s.2) (fun k i=>(k,i)) (fun k i a hk r=>by
  show Z0k_L1 ys (k:Int) (i:Int)=_
  unfold Z0k_L1
  rw [if_pos (zw (by omega)),if_pos (oY (by omega)),r,nD,wi b a,wn hk]; rfl) (fun k=>by
  show Z0k_L1 ys k (xs.length:Int)=_
  rw [← u]
  unfold Z0k_L1; simp only [rf,Bool.false_eq_true,if_false])]
 rfl
theorem zx {α:Type}(n:α→Nat)(M:Nat)(xs:List α)(h:∀ x∈xs,n x≤M):mF n xs≤xs.length*M:=by
 induction xs with
 | nil=>simp [mF]
 | cons x t ih =>
  rw [nE,List.length_cons,Nat.succ_mul]
  have:=h x (by simp)
  have:=ih (fun y a=>h y (by simp [a]))
  omega
theorem zy {α:Type}(n:α→Nat)(M:Nat)(xs:List α)(h:∀ x∈xs,n x≤M)(a:xs.length≤1048576):mF n xs≤1048576*M:=Nat.le_trans (zx n M xs h) (Nat.mul_le_mul_right _ a)
theorem v7 {α:Type}(n:α→Nat)(xs:List α):xs.length≤nC n xs:=by unfold nC; omega
theorem v8 {α:Type}(n:α→Nat){xs:List α}{x:α}(h:x∈xs):n x≤nC n xs:=by
 have:n x≤(xs.map n).sum:=by
  induction xs with
  | nil=>cases h
  | cons y t ih =>
   rcases List.mem_cons.1 h with rfl | h
   ·simp
   ·have:=ih h; simp; omega
 unfold nC; omega
theorem va {a:Nat}{b:Int}(h:gI a b<0)(e:0≤b):gI a b = -1:=by
 unfold gI at *
 split at h
 ·rw [if_pos (by assumption)]
 ·omega
theorem nG {f:Int×aN→Option ((Int×aN)⊕aN)}(b:∀ (n:Nat) (s:aN),0<n→n<10000000000000000000→s.length≤100→∃ c:aN,c.length=1∧f ((n:Int),s)=some (.inl (((n / 10:Nat):Int),c++s)))(a:∀ s,f (0,s)=some (.inr s)):∀ (m n:Nat) (s:aN),n<10 ^ m→m≤19→s.length+m≤100→∃ r,aQ f ((n:Int),s)=some r∧r.length≤s.length+m
 | 0,n,s,h,hm,hs=>by
  have:n=0:=by simpa using h
  subst this
  exact ⟨s,cT (a s),by omega⟩
 | m+1,n,s,h,hm,hs=>by
  by_cases e:n=0
  ·subst e; exact ⟨s,cT (a s),by omega⟩
  ·have i:10 ^ (m+1)≤10 ^ 19:=Nat.pow_le_pow_right (by omega) hm
   obtain ⟨c,h1,h2⟩:=b n s (by omega) (by omega) (by omega)
   obtain ⟨r,j,l⟩:=nG b a m (n / 10) (c++s) (by rw [Nat.pow_succ] at h; omega) (by omega) (by simp; omega)
   exact ⟨r,by rw [eH h2]; exact j,by simp at l; omega⟩
theorem vc (k:Nat)(h:k≤BB):∃ s,Z0u (k:Int)=some s:=by
 unfold Z0u
 by_cases c:k=0
 ·rw [if_pos (by simp; omega)]; exact ⟨_,rfl⟩
 ·rw [if_neg (by simp; omega)]
  obtain ⟨r,i,j⟩:=nG (f:=fun s:Int×aN=>Z0u_L1 s.1 s.2) (fun n s l e q=>by
   have b:aI ((n:Int).tdiv 10)=((n / 10:Nat):Int):=by
    rw [Int.tdiv_eq_ediv_of_nonneg (by omega),aX (by omega) (by omega)]; omega
   have a:(oB [IntKind.wrap .u8 (aI (48+(n:Int).tmod 10))]).length=1:=by simp [oB]
   refine ⟨oB [IntKind.wrap .u8 (aI (48+(n:Int).tmod 10))],a,?_⟩
   simp only [Z0u_L1]
   rw [if_pos (by simp; omega),if_pos (by rw [a]; omega),b]) (fun s=>by simp only [Z0u_L1]; rfl) 19 k [] (by unfold BB at h; omega) (by omega) (by simp)
  rw [i]
  simp only [Option.bind_some,Z0u_J1]
  rw [if_pos (by simp [str9] at j ⊢; omega)]
  exact ⟨_,rfl⟩
noncomputable def DG (k:Nat):aN:=(Z0u (k:Int)).getD default
theorem zA {k:Nat}(h:k≤BB:=by omega):Z0u (k:Int)=some (DG k):=by
 obtain ⟨s,a⟩:=vc k h
 unfold DG; rw [a]; rfl
def nH (xs:(List Int)):Prop:=xs.length≤maxLen
def ka (xs:(List Int)):Prop:=xs.length≤1048576
theorem jP {xs:(List Int)}(h:xs.length≤1048576):ka xs:=h
theorem jf {xs:(List Int)}{a:Int}(e:nH xs)(b:0≤a)(h1:a≤1048576):Z1q xs a=some (gI xs.length a):=wL (Nat.le_trans e (by decide)) b h1
theorem lU (xs:(List Int))(h:ka xs):Z0d xs=some xs:=by
 unfold Z0d
 rw [if_pos (by have:xs.length≤1048576:=h; omega),pZ xs 0 (fun s:(List Int)×Int=>Z0d_L1 xs s.1 s.2) (fun s i=>(s,i)) (fun ys k b hk=>by
  have a:xs.length≤1048576:=h
  show Z0d_L1 xs ys (k:Int)=_
  unfold Z0d_L1
  rw [if_pos (zw hk),if_pos (oY hk),if_pos (B' hk),cA (by unfold cS; omega)]; rfl) (fun ys _=>by
  show Z0d_L1 xs ys (xs.length:Int)=_
  unfold Z0d_L1; simp only [rf,Bool.false_eq_true,if_false])]
 rfl
theorem lV (xs:(List Int))(h:ka xs):Zz xs xs=some true:=p6 xs h
theorem ta (xs:(List Int))(k:Nat)(h:ka xs)(a:k+xs.length≤BB):Zy xs (k:Int)=some (((k+xs.length:Nat):Int),vv xs k)∧Z0k (vv xs k) (k:Int)=some ((k+xs.length:Nat):Int):=jO xs k h a
def C0 (x:aN):Prop:=x.length≤maxLen
def C1 (x:aN):Prop:=x.length≤1048576
structure Cap75 (x:Node):Prop where
 Args:nH x.Args
 Dims:nH x.Dims
 Ints:nH x.Ints
 Form:C0 x.Form
 Data:nH x.Data
structure SmNode (x:Node):Prop where
 Args:ka x.Args
 Dims:ka x.Dims
 Ints:ka x.Ints
 Form:C1 x.Form
 Data:ka x.Data
def kR (x:Node):Nat:=x.Args.length+x.Dims.length+x.Ints.length+x.Form.length+x.Data.length
theorem tb {x:Node}(h:kR x≤1048576):SmNode x:=by
 unfold kR at h
 exact ⟨jP (by omega),jP (by omega),jP (by omega),show _≤_ by omega,jP (by omega)⟩
theorem tc {x:Node}{a:Int}(D:Cap75 x)(b:0≤a)(h1:a≤1048576):Z2u x a=some (gI (kR x) a):=by
 obtain ⟨q,r,s,u,B⟩:=D
 unfold Z2u kR
 rw [k9 b,k9 b,k9 b,k9 b]
 rw [jf q b (by omega),aP]
 by_cases h2:gI (x.Args.length) a<0
 ·simp [h2]
 ·obtain ⟨j,L,E⟩:=jB b h2
  rw [if_neg (by simpa using h2),if_neg h2]
  rw [jf r j (by omega),aP]
  by_cases h3:gI (x.Dims.length) (gI (x.Args.length) a)<0
  ·simp [h3]
  ·obtain ⟨l,M,F⟩:=jB j h3
   rw [if_neg (by simpa using h3),if_neg h3]
   rw [jf s l (by omega),aP]
   by_cases h4:gI (x.Ints.length) (gI (x.Dims.length) (gI (x.Args.length) a))<0
   ·simp [h4]
   ·obtain ⟨I,O,G⟩:=jB l h4
    rw [if_neg (by simpa using h4),if_neg h4]
    have i:aI (gI (x.Ints.length) (gI (x.Dims.length) (gI (x.Args.length) a)) - (x.Form.length:Int))=gI (x.Ints.length) (gI (x.Dims.length) (gI (x.Args.length) a)) - (x.Form.length:Int):=by
     have:x.Form.length≤9223372036854775807:=Nat.le_trans u (by decide)
     exact aX (by omega) (by omega)
    by_cases h5:gI (x.Form.length) (gI (x.Ints.length) (gI (x.Dims.length) (gI (x.Args.length) a)))<0
    ·have:gI (x.Ints.length) (gI (x.Dims.length) (gI (x.Args.length) a))<(x.Form.length:Int):=by unfold gI at h5; split at h5<;>omega
     rw [i,if_pos (by simp; omega)]
     simp [h5]
    ·obtain ⟨h,T,e⟩:=jB I h5
     rw [i,← e,if_neg (by simpa using h5),if_neg h5]
     rw [jf B h (by omega),aP]
     by_cases h6:gI (x.Data.length) (gI (x.Form.length) (gI (x.Ints.length) (gI (x.Dims.length) (gI (x.Args.length) a))))<0
     ·rw [if_pos (by simpa using h6),va h6 h]
     ·obtain ⟨U,Y,J⟩:=jB h h6
      rw [if_neg (by simpa using h6)]
theorem wQ (x:Node)(h:SmNode x):Z37 x=some x:=by
 unfold Z37
 rw [lU _ h.Args,aP,lU _ h.Dims,aP,lU _ h.Ints,aP,lU _ h.Data,aP]
theorem wR (x:Node)(h:SmNode x):Z2t x x=some true:=by
 unfold Z2t
 rw [lV _ h.Args,aP,lV _ h.Dims,aP,lV _ h.Ints,aP,lV _ h.Data,aP]
 simp
def vd (xs:(List Node)):Prop:=xs.length≤maxLen∧∀ x∈xs,Cap75 x
def lX (xs:(List Node)):Prop:=xs.length≤1048576∧∀ x∈xs,SmNode x
theorem rh {xs:(List Node)}(h:nC kR xs≤1048576):lX xs:=⟨Nat.le_trans (v7 _ _) h,fun x a=>tb (Nat.le_trans (v8 _ a) h)⟩
theorem ri {xs:(List Node)}{a:Int}(i:vd xs)(b:0≤a)(h1:a≤1048576):Z1h xs a=some (gI (nC kR xs) a):=by
 unfold Z1h
 refine wN (x:=fun l=>(aQ (fun s:Int×Int=>Z1h_L1 xs s.1 s.2) (l,(0:Int))).bind fun e=>match e with | .inl e=>some e | .inr e=>Z1h_J1 e) (Nat.le_trans i.1 (by decide)) b h1 (fun h=>?_)
 obtain ⟨q,r,u⟩:=jB b h
 exact wM xs kR (Nat.lt_of_le_of_lt (show xs.length≤1048576 by unfold gI at h; split at h<;>omega) (by decide)) Z2u _ (fun x j a=>tc (i.2 x j)) (fun _ _=>rfl) _ q (by omega)
theorem ve (xs:(List Node))(h:lX xs):Z0w xs=some xs:=by
 unfold Z0w
 rw [if_pos (by have:xs.length≤1048576:=h.1; omega),pZ xs zT42.z (fun s:(List Node)×Int=>Z0w_L1 xs s.1 s.2) (fun s i=>(s,i)) (fun ys k b hk=>by
  have a:xs.length≤1048576:=h.1
  show Z0w_L1 xs ys (k:Int)=_
  unfold Z0w_L1
  rw [if_pos (zw hk),if_pos (oY hk),wQ _ (h.2 _ (bI hk)),aP,if_pos (B' hk),cA (by unfold cS; omega)]; rfl) (fun ys _=>by
  show Z0w_L1 xs ys (xs.length:Int)=_
  unfold Z0w_L1; simp only [rf,Bool.false_eq_true,if_false])]
 rfl
theorem vf (xs:(List Node))(h:lX xs):Z1m xs xs=some true:=by
 unfold Z1m
 rw [nD,wP xs (fun s:Int=>Z1m_L1 xs xs s) h.1 Z2t (fun x a=>wR x (h.2 x a)) (fun _=>rfl)]; rfl
def iO (x:Node):Nat:=1+x.Args.length+x.Dims.length+x.Ints.length+1+x.Data.length
noncomputable def vg (x:Node)(k:Nat):Node:=⟨((k:Nat):Int),vv x.Args (k+1),vv x.Dims (k+1+x.Args.length),vv x.Ints (k+1+x.Args.length+x.Dims.length),DG (k+1+x.Args.length+x.Dims.length+x.Ints.length),vv x.Data (k+1+x.Args.length+x.Dims.length+x.Ints.length+1)⟩
noncomputable def p8 (xs:(List Node))(k:Nat):(List Node):=((Z0o xs (k:Int)).getD default).2
theorem rj (xs:(List Node))(k:Nat)(h:lX xs)(r:k+mF iO xs≤BB):Z0o xs (k:Int)=some (((k+mF iO xs:Nat):Int),p8 xs k):=by
 obtain ⟨ys,u,D,E⟩:=oh (U:=Int×Int) xs iO vg (fun s:(List Node)×Int×Int=>Z0o_L1 xs s.1 s.2.1 s.2.2) (fun ys k i=>(ys,k,i)) (fun ys k i l B j hk=>by
  show Z0o_L1 xs ys (k:Int) (i:Int)=_
  have b:=h.2 _ (bI l)
  have a:i<ys.length:=by omega
  unfold iO at hk
  unfold Z0o_L1 vg iO
  generalize ix xs (i:Int)=x at *
  rw [if_pos (zw l),if_pos (oY l),wi h.1 l]
  (try simp only [jp,Int.toNat_natCast,kQ a,List.set_set,j])
  rw [wn (by omega)]
  (try simp only [jp,Int.toNat_natCast,kQ a,List.set_set,j])
  rw [(jO _ _ b.Args (by omega)).1,aP]
  (try simp only [jp,Int.toNat_natCast,kQ a,List.set_set,j])
  rw [(jO _ _ b.Dims (by omega)).1,aP]
  (try simp only [jp,Int.toNat_natCast,kQ a,List.set_set,j])
  rw [(jO _ _ b.Ints (by omega)).1,aP]
  (try simp only [jp,Int.toNat_natCast,kQ a,List.set_set,j])
  rw [zA,aP,wn (by omega)]
  (try simp only [jp,Int.toNat_natCast,kQ a,List.set_set,j])
  rw [(jO _ _ b.Data (by omega)).1,aP]
  (try simp only [jp,Int.toNat_natCast,kQ a,List.set_set,j])
  rw [show k+1+x.Args.length+x.Dims.length+x.Ints.length+1+x.Data.length=k+(1+x.Args.length+x.Dims.length+x.Ints.length+1+x.Data.length) by omega]) (fun ys k=>by
  show Z0o_L1 xs ys k (xs.length:Int)=_
  unfold Z0o_L1; simp only [rf,Bool.false_eq_true,if_false]) k r
 have e:Z0o xs (k:Int)=some (((k+mF iO xs:Nat):Int),ys):=by
  unfold Z0o; rw [u,aP]; rfl
 have q:p8 xs k=ys:=by unfold p8; rw [e]; rfl
 rw [q,e]
structure Cap25 (x:Graph):Prop where
 Nodes:vd x.Nodes
 Outs:nH x.Outs
structure SmGraph (x:Graph):Prop where
 Nodes:lX x.Nodes
 Outs:ka x.Outs
def ml (x:Graph):Nat:=nC kR x.Nodes+x.Outs.length
theorem rk {x:Graph}(h:ml x≤1048576):SmGraph x:=by
 unfold ml at h
 exact ⟨rh (by omega),jP (by omega)⟩
theorem rl {x:Graph}{a:Int}(j:Cap25 x)(b:0≤a)(h1:a≤1048576):Z36 x a=some (gI (ml x) a):=by
 obtain ⟨h,i⟩:=j
 unfold Z36 ml
 rw [k9 b]
 rw [ri h b (by omega),aP]
 by_cases h2:gI (nC kR x.Nodes) a<0
 ·simp [h2]
 ·obtain ⟨e,r,l⟩:=jB b h2
  rw [if_neg (by simpa using h2),if_neg h2]
  rw [jf i e (by omega),aP]
  by_cases h3:gI (x.Outs.length) (gI (nC kR x.Nodes) a)<0
  ·rw [if_pos (by simpa using h3),va h3 e]
  ·obtain ⟨s,u,q⟩:=jB e h3
   rw [if_neg (by simpa using h3)]
theorem nI (x:Graph)(h:SmGraph x):Z1i x=some x:=by
 unfold Z1i
 rw [ve _ h.Nodes,aP,lU _ h.Outs,aP]
theorem vh (x:Graph)(h:SmGraph x):Z2s x x=some true:=by
 unfold Z2s
 rw [vf _ h.Nodes,aP,lV _ h.Outs,aP]
 simp
theorem rn (x:Graph)(k:Nat)(h:SmGraph x)(a:k+(mF iO x.Nodes+x.Outs.length)≤BB):∃ r,Z2f x (k:Int)=some (((k+mF iO x.Nodes+x.Outs.length:Nat):Int),r):=by
 unfold Z2f
 rw [(rj x.Nodes (k) h.Nodes (by omega)),aP,(ta x.Outs (k+mF iO x.Nodes) h.Outs (by omega)).1,aP]
 exact ⟨_,rfl⟩
end Go.Proofs.YtoffdamdpmeoiaaGreatDoor
