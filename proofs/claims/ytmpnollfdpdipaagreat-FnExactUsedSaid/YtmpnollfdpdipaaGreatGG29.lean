import Derived.Test.YtmpnollfdpdipaaGreatGG13
import Derived.Test.YtmpnollfdpdipaaGreatGkF
import Derived.Test.YtmpnollfdpdipaaGreatPL1
set_option linter.unusedVariables false
set_option linter.unusedSimpArgs false
namespace Go.Proofs.YtmpnollfdpdipaaGreat
open Go Go.Pg
theorem tB {c:UInt8}(h:97≤c.toNat∧c.toNat≤122):IntKind.wrap .u8 ((c.toNat:Int) - 97)=(c.toNat:Int) - 97:=by
 unfold IntKind.wrap
 simp [IntKind.bits,IntKind.signed]
 omega
theorem qQ {g:aN}{k:Nat}(h:k<g.length):sub g (k:Int) ((k+1:Nat):Int)=[ix g (k:Int)]:=by
 unfold sub
 rw [Int.toNat_natCast,Int.toNat_natCast,List.take_succ_eq_append_getElem h,List.drop_append_of_le_length (by simp; omega),bR h]
 simp
theorem xG {gs:List aN}{dss:List (List Int)}{b:List aN×aN×Bool}{x:Nat}(U:b.1=gs)(hx:x<gs.length)(u:LT (ix gs (x:Int))){m:Nat}(Z:m≤100){s:aN×List Int}(h1:s.1.length≤m)(h2:s.2.length=26)(B:(ix gs (x:Int)).length=(ix dss (x:Int)).length) :
  (∃ s',lm (ix gs (x:Int)) (ix dss (x:Int)) s=some s'∧aR (fun s:aN×List Int×Int=>Z3_L2 dss b (x:Int) s.1 s.2.1 s.2.2) (s.1,s.2,0)=some (.inr (s'.1,s'.2))∧s'.1.length≤m+6∧s'.2.length=26) ∨
  (lm (ix gs (x:Int)) (ix dss (x:Int)) s=none∧∃ e,aR (fun s:aN×List Int×Int=>Z3_L2 dss b (x:Int) s.1 s.2.1 s.2.2) (s.1,s.2,0)=some (.inl e)∧e.2=false):=by
 obtain ⟨g,h⟩:∃ g,g=ix gs (x:Int):=⟨_,rfl⟩
 obtain ⟨ds,a⟩:∃ ds,ds=ix dss (x:Int):=⟨_,rfl⟩
 have l:ix b.1 (x:Int)=g:=by rw [U,h]
 rw [← h] at u B ⊢
 rw [← a] at B ⊢
 unfold lm
 rw [if_pos B]
 rcases je (f:=fun s:aN×List Int×Int=>Z3_L2 dss b (x:Int) s.1 s.2.1 s.2.2) (fun s k=>kZ s (ix g (k:Int)) (ix ds (k:Int))) (fun s i=>(s.1,s.2,i)) (fun s=>(s.1,s.2)) (fun e=>e.2=false) (fun j s=>s.1.length≤m+j∧s.2.length=26) g.length
  (fun j s F G=>by
   obtain ⟨Y,L⟩:=G
   have J:=u.2 _ (bE F)
   have T:=u.1
   have D:bt g (j:Int)=((ix g (j:Int)).toNat:Int):=rfl
   simp only [Z3_L2]
   rw [l,← a,if_pos (by simp; omega),if_pos (by omega),D,tB J,if_pos (by omega),if_pos (fun _=>by omega)]
   show (∃ s',kZ s _ _=_∧_)∨_
   unfold kZ
   by_cases c:lk s.2 (ix g (j:Int))≠0∧lk s.2 (ix g (j:Int))≠ix ds (j:Int)
   ·rw [if_pos c,if_pos (by unfold lk at c; simpa using c)]
    exact .inr ⟨rfl,_,rfl,rfl⟩
   ·rw [if_neg c]
    obtain ⟨r,I,E⟩:=nV s.1 (ix g (j:Int))
    have M:((((ix g (j:Int)).toNat:Int) - 97)).toNat=(ix g (j:Int)).toNat - 97:=by omega
    have O:¬ (((ix s.2 (((ix g (j:Int)).toNat:Int) - 97)) != 0)&&((ix s.2 (((ix g (j:Int)).toNat:Int) - 97)) != (ix ds (j:Int))))=true:=by
     unfold lk at c; simpa using c
    refine .inl ⟨_,rfl,?_,?_,by simpa using L⟩
    ·rw [if_neg O,if_pos (by omega)]
     simp only [nm,Option.bind_some]
     rw [I,M]
     simp only [Option.bind_some]
     by_cases q:ix g (j:Int)∈s.1
     ·rw [if_neg (by simp; have:¬ r<0:=fun z=>E.1 z q; omega),if_pos q]
      simp only [Z3_J5]
      rw [bX (by unfold cB; omega)]
     ·rw [if_pos (decide_eq_true (E.2 q)),bX (by unfold cB; omega),if_pos (by omega),qQ F,if_pos (by simp; omega),if_neg q]
      simp only [Z3_J5]
      rw [bX (by unfold cB; omega)]
    ·by_cases q:ix g (j:Int)∈s.1
     ·simp only [if_pos q]; omega
     ·simp only [if_neg q]; simp; omega)
  (fun s G=>by
   simp only [Z3_L2]
   rw [l,if_neg (by simp)])
  (s:=s) ⟨by omega,h2⟩ with ⟨s',a1,a2,a3,a4⟩|⟨a1,e,a2,a3⟩
 ·have:=u.1
  exact .inl ⟨s',a1,a2,by omega,a4⟩
 ·exact .inr ⟨a1,e,a2,a3⟩
theorem xH {gs:List aN}{dss:List (List Int)}{b:List aN×aN×Bool}(l:b.1=gs)(F:gs.length≤6)(D:∀ g∈gs,LT g)(E:gs.length=dss.length){s:aN×List Int}(h1:s.1.length≤6)(h2:s.2.length=26) :
  (∃ s',n3 gs dss s=some s'∧aR (fun s:aN×List Int×Int=>Z3_L1 dss b s.1 s.2.1 s.2.2) (s.1,s.2,0)=some (.inr (s'.1,s'.2))∧s'.1.length≤42∧s'.2.length=26) ∨
  (n3 gs dss s=none∧∃ e,aR (fun s:aN×List Int×Int=>Z3_L1 dss b s.1 s.2.1 s.2.2) (s.1,s.2,0)=some (.inl e)∧e.2=false):=by
 unfold n3
 rcases je (f:=fun s:aN×List Int×Int=>Z3_L1 dss b s.1 s.2.1 s.2.2) (fun s k=>lm (ix gs (k:Int)) (ix dss (k:Int)) s) (fun s i=>(s.1,s.2,i)) (fun s=>(s.1,s.2)) (fun e=>e.2=false) (fun j s=>s.1.length≤6+6*j∧s.2.length=26) gs.length
  (fun j s q r=>by
   obtain ⟨u,B⟩:=r
   simp only [Z3_L1]
   rw [l,if_pos (by simp; omega),if_pos (by omega),if_pos (by omega)]
   by_cases c:(ix gs (j:Int)).length=(ix dss (j:Int)).length
   ·rw [if_neg (by simp; omega)]
    rcases xG (m:=6+6*j) l q (D _ (bE q)) (by omega) u B c with ⟨s',a,h,a3,a4⟩|⟨a,e,h,a3⟩
    ·rw [h]
     refine .inl ⟨s',a,?_,by omega,a4⟩
     simp only [Option.bind_some,Z3_J6]
     rw [bX (by unfold cB; omega)]
    ·rw [h]
     exact .inr ⟨a,e,rfl,a3⟩
   ·rw [if_pos (by simp; omega)]
    refine .inr ⟨by unfold lm; rw [if_neg c],_,rfl,rfl⟩)
  (fun s r=>by
   simp only [Z3_L1]
   rw [l,if_neg (by simp)])
  (s:=s) ⟨by omega,h2⟩ with ⟨s',a,h,a3,a4⟩|⟨a,e,h,a3⟩
 ·exact .inl ⟨s',a,h,by omega,a4⟩
 ·exact .inr ⟨a,e,h,a3⟩
theorem tC:∀ {f:aN} {c:UInt8} {j:Nat},j<f.idxOf c→∀ h:j<f.length,f[j]≠c
 | [],_,_,_,h=>by simp at h
 | b::l,c,j,hj,h=>by
  rw [List.idxOf_cons] at hj
  cases e:b==c with
  | true=>rw [e] at hj; simp at hj
  | false =>
   rw [e] at hj
   cases j with
   | zero=>simpa using e
   | succ j=>exact tC (f:=l) (by simp at hj; omega) (by simpa using h)
theorem xI {gs:List aN}{k i:Nat}{f:aN}(r:f.length<cB)(m:i<(ix gs (k:Int)).length):aR (fun s:Int=>Z2_L3 gs (k:Int) f (i:Int) s) 0=some ((f.idxOf (ix (ix gs (k:Int)) (i:Int)):Nat):Int):=by
 obtain ⟨c,g⟩:∃ c,c=ix (ix gs (k:Int)) (i:Int):=⟨_,rfl⟩
 rw [← g]
 have l:f.idxOf c≤f.length:=List.idxOf_le_length
 have a:bt (ix gs (k:Int)) (i:Int)=(c.toNat:Int):=by rw [g]; rfl
 have b:∀ j:Nat,(bt f (j:Int) != (c.toNat:Int))=!decide (ix f (j:Int)=c):=by
  intro j
  have:(bt f (j:Int)==(c.toNat:Int))=decide (ix f (j:Int)=c):=kW
  unfold bne; rw [this]
 refine eT (f:=fun s:Int=>Z2_L3 gs (k:Int) f (i:Int) s) (fun j=>(j:Int)) (f.idxOf c) (fun j h=>?_) ?_ rfl
 ·have e:j<f.length:=by omega
  simp only [Z2_L3]
  rw [if_pos (fun _=>by omega),if_pos (fun _=>by omega),a,b,bX (by omega),if_pos]
  have:ix f (j:Int)≠c:=by
   rw [bR e]; exact tC h e
  simp [this]; omega
 ·simp only [Z2_L3]
  rw [if_pos (fun z=>by simp at z; omega),if_pos (fun _=>by omega),a,b,if_neg]
  by_cases q:f.idxOf c<f.length
  ·have:ix f ((f.idxOf c:Nat):Int)=c:=by rw [bR q]; exact List.getElem_idxOf q
   simp [this]
  ·simp; omega
theorem ln {lens:List Int}(h:lens.length=26){c a:UInt8}(g:97≤c.toNat∧c.toNat≤122)(b:97≤a.toNat∧a.toNat≤122)(d:Int):lk (lens.set (c.toNat - 97) d) a=if a=c then d else lk lens a:=by
 unfold lk
 have e:((a.toNat:Int) - 97)=((a.toNat - 97:Nat):Int):=by omega
 rw [e,bR (by simp; omega),List.getElem_set]
 by_cases q:a=c
 ·rw [if_pos q,if_pos (by rw [q])]
 ·have:a.toNat≠c.toNat:=fun z=>q (UInt8.toNat_inj.1 z)
  rw [if_neg q,if_neg (by omega),bR (by omega)]
theorem qR:∀ {f:aN} {c:UInt8} {g h:UInt8→Int} {d:Int},f.Nodup→c∈f→h c=d→(∀ x∈f,x≠c→h x=g x)→(f.map g).set (f.idxOf c) d=f.map h
 | [],_,_,_,_,_,hm,_,_=>by simp at hm
 | b::l,c,g,h,d,hn,hm,h1,h2=>by
  rw [List.nodup_cons] at hn
  rw [List.idxOf_cons]
  by_cases q:b=c
  ·subst q
   simp only [beq_self_eq_true,cond_true,List.map_cons,List.set_cons_zero,h1]
   congr 1
   apply List.map_congr_left
   intro x a
   exact (h2 x (List.mem_cons_of_mem _ a) (fun z=>hn.1 (z▸a))).symm
  ·have e:(b==c)=false:=by simpa using q
   have i:c∈l:=by
    rcases List.mem_cons.1 hm with z | z
    ·exact absurd z.symm q
    ·exact z
   rw [e]
   simp only [cond_false,List.map_cons,List.set_cons_succ]
   rw [qR hn.2 i h1 (fun x a j=>h2 x (List.mem_cons_of_mem _ a) j),h2 b (List.mem_cons_self ..) q]
structure IS (s:aN×List Int):Prop where
 l:s.2.length=26
 n:s.1.Nodup
 c:∀ c∈s.1,97≤c.toNat∧c.toNat≤122
 z:∀ c:UInt8,97≤c.toNat→c.toNat≤122→c ∉ s.1→lk s.2 c=0
theorem qT {s s':aN×List Int}{c:UInt8}{d:Int}(e:IS s)(i:97≤c.toNat∧c.toNat≤122)(h:kZ s c d=some s'):IS s'∧s'.1.length≤s.1.length+1:=by
 unfold kZ at h
 split at h
 ·cases h
 ·cases h
  by_cases q:c∈s.1
  ·simp only [if_pos q]
   refine ⟨⟨by simpa using e.l,e.n,e.c,fun x h1 h2 g=>?_⟩,by omega⟩
   rw [ln e.l i ⟨h1,h2⟩,if_neg (fun z=>g (by rw [z]; exact q))]
   exact e.z x h1 h2 g
  ·simp only [if_neg q]
   refine ⟨⟨by simpa using e.l,?_,?_,fun x h1 h2 g=>?_⟩,by simp⟩
   ·rw [List.nodup_append]
    refine ⟨e.n,by simp,?_⟩
    intro a m b j
    simp at j; subst j
    exact fun z=>q (z▸m)
   ·intro x r
    rcases List.mem_append.1 r with z | z
    ·exact e.c x z
    ·simp at z; rw [z]; exact i
   ·simp at g
    rw [ln e.l i ⟨h1,h2⟩,if_neg g.2]
    exact e.z x h1 h2 g.1
theorem pO {f:aN}{g:UInt8→Int}{p:Nat}(h:p<f.length):ix (f.map g) (p:Int)=g f[p]:=by
 rw [bR (by simpa using h)]; simp
theorem tD {gs:List aN}{dss:List (List Int)}{x j:Nat}{s:aN×List Int}(m:IS s)(J:s.1.length≤100)(U:j<(ix gs (x:Int)).length)(hl:(ix gs (x:Int)).length=(ix dss (x:Int)).length)(h6:(ix gs (x:Int)).length≤6)(g:97≤(ix (ix gs (x:Int)) (j:Int)).toNat∧(ix (ix gs (x:Int)) (j:Int)).toNat≤122) :
  (∃ s',kZ s (ix (ix gs (x:Int)) (j:Int)) (ix (ix dss (x:Int)) (j:Int))=some s'∧Z2_L2 gs dss (x:Int) s.1 (s.1.map (lk s.2)) (j:Int)=some (.inl (s'.1,s'.1.map (lk s'.2),((j+1:Nat):Int)))) ∨
  (kZ s (ix (ix gs (x:Int)) (j:Int)) (ix (ix dss (x:Int)) (j:Int))=none∧∃ e,Z2_L2 gs dss (x:Int) s.1 (s.1.map (lk s.2)) (j:Int)=some (.inr (.inl e))∧e.2.2=false):=by
 obtain ⟨c,r⟩:∃ c,c=ix (ix gs (x:Int)) (j:Int):=⟨_,rfl⟩
 obtain ⟨d,T⟩:∃ d,d=ix (ix dss (x:Int)) (j:Int):=⟨_,rfl⟩
 rw [← r] at g ⊢
 rw [← T]
 have G:=xI (gs:=gs) (k:=x) (i:=j) (f:=s.1) (by unfold cB; omega) U
 rw [← r] at G
 simp only [Z2_L2]
 rw [if_pos (by simp; omega),G]
 simp only [Option.bind_some]
 have Y:∀ (f:aN) (ls:List Int),f.Nodup→c∈f→s.1.idxOf c=f.idxOf c→ls=f.map (lk s.2)→(∀ y∈f,97≤y.toNat∧y.toNat≤122) →
   Z2_J9 dss (x:Int) (j:Int) ((s.1.idxOf c:Nat):Int) f ls=if lk s.2 c≠0∧lk s.2 c≠d then some (.inr (.inl ([],ls,false))) else some (.inl (f,f.map (lk (s.2.set (c.toNat - 97) d)),((j+1:Nat):Int))):=by
  intro f ls hn J hi B u
  have D:f.idxOf c<f.length:=List.idxOf_lt_length_iff.2 J
  have e:ix ls ((f.idxOf c:Nat):Int)=lk s.2 c:=by
   rw [B,pO D]; congr 1; exact List.getElem_idxOf D
  have a0:ls.length=f.length:=by rw [B]; simp
  unfold Z2_J9
  rw [hi,e,← T,if_pos (by omega),if_pos (fun _=>by omega)]
  by_cases q:lk s.2 c≠0∧lk s.2 c≠d
  ·rw [if_pos q,if_pos (by simpa using q)]
  ·rw [if_neg q,if_neg (by simpa using q),if_pos (by omega),bX (by unfold cB; omega),Int.toNat_natCast,B,qR hn J (h:=lk (s.2.set (c.toNat - 97) d))]
   ·rw [ln m.l g g,if_pos rfl]
   ·intro y L M
    rw [ln m.l g (u y L),if_neg M]
 have R:∀ f,(if c∈s.1 then s.1 else s.1++[c])=f→(∀ z,z=(if lk s.2 c≠0∧lk s.2 c≠d then some (.inr (.inl ([],f.map (lk s.2),false))) else some (.inl (f,f.map (lk (s.2.set (c.toNat - 97) d)),((j+1:Nat):Int))):Option ((aN×(List Int)×Int)⊕((aN×(List Int)×Bool)⊕(aN×(List Int))))) →
   (∃ s',kZ s c d=some s'∧z=some (.inl (s'.1,s'.1.map (lk s'.2),((j+1:Nat):Int))))∨(kZ s c d=none∧∃ e,z=some (.inr (.inl e))∧e.2.2=false)):=by
  intro f G z F
  unfold kZ
  by_cases q:lk s.2 c≠0∧lk s.2 c≠d
  ·rw [if_pos q] at F ⊢
   exact .inr ⟨rfl,_,F,rfl⟩
  ·rw [if_neg q] at F ⊢
   rw [G]
   exact .inl ⟨_,rfl,F⟩
 unfold Z2_J8
 by_cases q:c∈s.1
 ·have D:s.1.idxOf c<s.1.length:=List.idxOf_lt_length_iff.2 q
  rw [if_neg (by simp; omega),Y s.1 _ m.n q rfl rfl m.c]
  exact R s.1 (if_pos q) _ rfl
 ·have D:s.1.idxOf c=s.1.length:=by
   have:¬ s.1.idxOf c<s.1.length:=fun z=>q (List.idxOf_lt_length_iff.1 z)
   have:s.1.idxOf c≤s.1.length:=List.idxOf_le_length
   omega
  have I:(s.1++[c]).idxOf c=s.1.length:=by
   rw [List.idxOf_append,if_neg q]; simp
  have O:(s.1++[c]).Nodup:=by
   rw [List.nodup_append]
   refine ⟨m.n,by simp,?_⟩
   intro a ha b Z
   simp at Z; subst Z
   exact fun z=>q (z▸ha)
  have u:∀ y∈s.1++[c],97≤y.toNat∧y.toNat≤122:=by
   intro y L
   rcases List.mem_append.1 L with z | z
   ·exact m.c y z
   ·simp at z; rw [z]; exact g
  have E:s.1.map (lk s.2)++[0]=(s.1++[c]).map (lk s.2):=by
   rw [List.map_append]; simp [m.z c g.1 g.2 q]
  rw [if_pos (by rw [D]; simp),bX (by unfold cB; omega),if_pos (by omega),qQ U,← r,if_pos (by simp; omega),if_pos (by simp; omega),Y (s.1++[c]) _ O (by simp) (by rw [D,I]) E u,E]
  exact R _ (if_neg q) _ rfl
theorem xJ {gs:List aN}{dss:List (List Int)}{x:Nat}(u:LT (ix gs (x:Int))){m:Nat}(G:m≤90){s:aN×List Int}(h1:s.1.length≤m)(E:IS s)(h:(ix gs (x:Int)).length=(ix dss (x:Int)).length) :
  (∃ s',lm (ix gs (x:Int)) (ix dss (x:Int)) s=some s'∧aR (fun s:aN×List Int×Int=>Z2_L2 gs dss (x:Int) s.1 s.2.1 s.2.2) (s.1,s.1.map (lk s.2),0)=some (.inr (s'.1,s'.1.map (lk s'.2)))∧s'.1.length≤m+6∧IS s') ∨
  (lm (ix gs (x:Int)) (ix dss (x:Int)) s=none∧∃ e,aR (fun s:aN×List Int×Int=>Z2_L2 gs dss (x:Int) s.1 s.2.1 s.2.2) (s.1,s.1.map (lk s.2),0)=some (.inl e)∧e.2.2=false):=by
 unfold lm
 rw [if_pos h]
 have D:=u.1
 rcases je (f:=fun s:aN×List Int×Int=>Z2_L2 gs dss (x:Int) s.1 s.2.1 s.2.2) (fun s k=>kZ s (ix (ix gs (x:Int)) (k:Int)) (ix (ix dss (x:Int)) (k:Int))) (fun s i=>(s.1,s.1.map (lk s.2),i)) (fun s=>(s.1,s.1.map (lk s.2))) (fun e=>e.2.2=false) (fun j s=>s.1.length≤m+j∧IS s) (ix gs (x:Int)).length
  (fun j s l b=>by
   have r:=u.2 _ (bE l)
   rcases tD b.2 (by have:=b.1; omega) l h D r with ⟨s',a,g⟩ | q
   ·obtain ⟨B,F⟩:=qT b.2 r a
    exact .inl ⟨s',a,g,by have:=b.1; omega,B⟩
   ·exact .inr q)
  (fun s b=>by
   simp only [Z2_L2]
   rw [if_neg (by simp)])
  (s:=s) ⟨by omega,E⟩ with ⟨s',a,g,a3,a4⟩|⟨a,e,g,a3⟩
 ·exact .inl ⟨s',a,g,by omega,a4⟩
 ·exact .inr ⟨a,e,g,a3⟩
theorem tF {gs:List aN}{dss:List (List Int)}(E:gs.length≤6)(B:∀ g∈gs,LT g)(D:gs.length=dss.length){s:aN×List Int}(h1:s.1.length≤6)(u:IS s) :
  (∃ s',n3 gs dss s=some s'∧aR (fun s:aN×List Int×Int=>Z2_L1 gs dss s.1 s.2.1 s.2.2) (s.1,s.1.map (lk s.2),0)=some (.inr (s'.1,s'.1.map (lk s'.2)))∧s'.1.length≤42∧IS s') ∨
  (n3 gs dss s=none∧∃ e,aR (fun s:aN×List Int×Int=>Z2_L1 gs dss s.1 s.2.1 s.2.2) (s.1,s.1.map (lk s.2),0)=some (.inl e)∧e.2.2=false):=by
 unfold n3
 rcases je (f:=fun s:aN×List Int×Int=>Z2_L1 gs dss s.1 s.2.1 s.2.2) (fun s k=>lm (ix gs (k:Int)) (ix dss (k:Int)) s) (fun s i=>(s.1,s.1.map (lk s.2),i)) (fun s=>(s.1,s.1.map (lk s.2))) (fun e=>e.2.2=false) (fun j s=>s.1.length≤6+6*j∧IS s) gs.length
  (fun j s r h=>by
   obtain ⟨l,q⟩:=h
   simp only [Z2_L1]
   rw [if_pos (by simp; omega),if_pos (by omega),if_pos (by omega)]
   by_cases c:(ix gs (j:Int)).length=(ix dss (j:Int)).length
   ·rw [if_neg (by simp; omega)]
    rcases xJ (m:=6+6*j) (B _ (bE r)) (by omega) l q c with ⟨s',a,b,a3,a4⟩|⟨a,e,b,a3⟩
    ·rw [b]
     refine .inl ⟨s',a,?_,by omega,a4⟩
     simp only [Option.bind_some,Z2_J10]
     rw [bX (by unfold cB; omega)]
    ·rw [b]
     exact .inr ⟨a,e,rfl,a3⟩
   ·rw [if_pos (by simp; omega)]
    refine .inr ⟨by unfold lm; rw [if_neg c],_,rfl,rfl⟩)
  (fun s h=>by
   simp only [Z2_L1]
   rw [if_neg (by simp)])
  (s:=s) ⟨by omega,u⟩ with ⟨s',a,b,a3,a4⟩|⟨a,e,b,a3⟩
 ·exact .inl ⟨s',a,b,by omega,a4⟩
 ·exact .inr ⟨a,e,b,a3⟩
theorem nW {S:Type}{st:S→Nat→Option S}(I:Nat→S→Prop){s:S}(a:I 0 s):∀ (n:Nat),(∀ j s s',j<n→I j s→st s j=some s'→I (j+1) s')→∀ {s':S},pN st n s=some s'→I n s'
 | 0,_,s',h=>by cases h; exact a
 | n+1,hs,s',h=>by
  rw [pN] at h
  obtain ⟨m,h1,h2⟩:=bd h
  exact hs n m s' (by omega) (nW I a n (fun j s s' b=>hs j s s' (by omega)) h1) h2
structure Ext (s s':aN×List Int):Prop where
 i:IS s'
 p:∃ t,s'.1=s.1++t
 k:∀ c:UInt8,97≤c.toNat→c.toNat≤122→lk s.2 c≠0→lk s'.2 c=lk s.2 c
theorem Ext.rfl_ {s:aN×List Int}(h:IS s):Ext s s:=⟨h,⟨[],by simp⟩,fun _ _ _ _=>rfl⟩
theorem Ext.trans {a b c:aN×List Int}(h1:Ext a b)(h2:Ext b c):Ext a c:=by
 obtain ⟨t,g⟩:=h1.p
 obtain ⟨u,e⟩:=h2.p
 refine ⟨h2.i,⟨t++u,by rw [e,g,List.append_assoc]⟩,fun x a b h=>?_⟩
 have:=h1.k x a b h
 rw [h2.k x a b (by rw [this]; exact h),this]
theorem tG {s s':aN×List Int}{c:UInt8}{d:Int}(j:IS s)(g:97≤c.toNat∧c.toNat≤122)(h:kZ s c d=some s'):Ext s s'∧c∈s'.1∧lk s'.2 c=d∧∀ x∈s'.1,x∈s.1∨x=c:=by
 have u:=(qT j g h).1
 unfold kZ at h
 split at h
 ·cases h
 ·rename_i q
  cases h
  refine ⟨⟨u,?_,fun x a b r=>?_⟩,?_,?_,?_⟩
  ·by_cases m:c∈s.1
   ·exact ⟨[],by simp [m]⟩
   ·exact ⟨[c],by simp [m]⟩
  ·show lk (s.2.set _ _) x=_
   rw [ln j.l g ⟨a,b⟩]
   by_cases e:x=c
   ·subst e
    rw [if_pos rfl]
    exact Classical.byContradiction fun z=>q ⟨r,fun w=>z w.symm⟩
   ·rw [if_neg e]
  ·by_cases m:c∈s.1<;>simp [m]
  ·show lk (s.2.set _ _) c=_
   rw [ln j.l g g,if_pos rfl]
  ·intro x i
   by_cases m:c∈s.1
   ·simp only [if_pos m] at i; exact .inl i
   ·simp only [if_neg m] at i; simpa using i
theorem tH {g:aN}{ds:List Int}{s s':aN×List Int}(O:IS s)(F:LT g)(J:∀ d∈ds,d≠0)(h:lm g ds s=some s') :
  Ext s s'∧g.length=ds.length∧(∀ j:Nat,j<g.length→ix g (j:Int)∈s'.1∧lk s'.2 (ix g (j:Int))=ix ds (j:Int))∧∀ x∈s'.1,x∈s.1∨x∈g:=by
 unfold lm at h
 split at h
 ·rename_i M
  obtain ⟨a,b,c⟩:=nW (fun n z=>Ext s z∧(∀ j:Nat,j<n→ix g (j:Int)∈z.1∧lk z.2 (ix g (j:Int))=ix ds (j:Int))∧∀ x∈z.1,x∈s.1∨x∈g) ⟨Ext.rfl_ O,fun j D=>absurd D (Nat.not_lt_zero _),fun x B=>.inl B⟩ g.length
   (fun n z U G T L=>by
    obtain ⟨a,b,c⟩:=T
    obtain ⟨p,q,r,t⟩:=tG a.i (F.2 _ (bE G)) L
    refine ⟨a.trans p,fun j D=>?_,fun x B=>?_⟩
    ·by_cases e:j=n
     ·subst e; exact ⟨q,r⟩
     ·obtain ⟨m,l⟩:=b j (by omega)
      obtain ⟨u,I⟩:=p.p
      have E:=F.2 _ (bE (show j<g.length by omega))
      refine ⟨by rw [I]; exact List.mem_append_left _ m,?_⟩
      rw [p.k _ E.1 E.2 (by rw [l]; exact J _ (bE (by omega))),l]
    ·rcases t x B with y | y
     ·exact c x y
     ·rw [y]; exact .inr (bE G)) h
  exact ⟨a,M,b,c⟩
 ·cases h
theorem tJ {gs:List aN}{dss:List (List Int)}{s s':aN×List Int}(L:IS s)(Y:gs.length=dss.length)(F:∀ g∈gs,LT g)(E:∀ ds∈dss,∀ d∈ds,d≠0)(h:n3 gs dss s=some s') :
  Ext s s'∧(∀ x:Nat,x<gs.length→(ix gs (x:Int)).length=(ix dss (x:Int)).length∧∀ j:Nat,j<(ix gs (x:Int)).length→ix (ix gs (x:Int)) (j:Int)∈s'.1∧lk s'.2 (ix (ix gs (x:Int)) (j:Int))=ix (ix dss (x:Int)) (j:Int))∧∀ y∈s'.1,y∈s.1∨∃ g∈gs,y∈g:=by
 unfold n3 at h
 exact nW (fun n z=>Ext s z∧(∀ x:Nat,x<n→(ix gs (x:Int)).length=(ix dss (x:Int)).length∧∀ j:Nat,j<(ix gs (x:Int)).length→ix (ix gs (x:Int)) (j:Int)∈z.1∧lk z.2 (ix (ix gs (x:Int)) (j:Int))=ix (ix dss (x:Int)) (j:Int))∧∀ y∈z.1,y∈s.1∨∃ g∈gs,y∈g) ⟨Ext.rfl_ L,fun j B=>absurd B (Nat.not_lt_zero _),fun x J=>.inl J⟩ gs.length
  (fun n z U G T O=>by
   obtain ⟨a,b,c⟩:=T
   have D:=F _ (bE G)
   obtain ⟨p,q,r,t⟩:=tH a.i D (E _ (bE (by omega))) O
   refine ⟨a.trans p,fun x J=>?_,fun y M=>?_⟩
   ·by_cases e:x=n
    ·subst e; exact ⟨q,r⟩
    ·obtain ⟨l,m⟩:=b x (by omega)
     refine ⟨l,fun j B=>?_⟩
     obtain ⟨u,v⟩:=m j B
     obtain ⟨w,hw⟩:=p.p
     have I:=(F _ (bE (show x<gs.length by omega))).2 _ (bE B)
     refine ⟨by rw [hw]; exact List.mem_append_left _ u,?_⟩
     rw [p.k _ I.1 I.2 (by rw [v]; exact E _ (bE (by omega)) _ (bE (by omega))),v]
   ·rcases t y M with w | w
    ·exact c y w
    ·exact .inr ⟨_,bE G,w⟩) h
theorem vi {ds:List Int}{k:Int}(L:ds.length≤100)(h1:∀ d∈ds,1≤d∧d≤4096)(g:0≤k)(l:k≤65536):Zh ds k=some (gY ds k):=by
 have a:∀ j,1≤pr (ds.drop j):=fun j=>fF fun d e=>(h1 d (List.mem_of_mem_drop e)).1
 unfold Zh
 rw [if_pos (by omega)]
 have:=eT (f:=fun s:Int×List Int×Int=>Zh_L1 ds s.1 s.2.1 s.2.2) (r:=gY ds k)
  (fun j=>(k / pr (ds.drop (ds.length - j)),List.replicate (ds.length - j) 0++gY (ds.drop (ds.length - j)) k,(ds.length:Int) - 1 - j)) ds.length
  (fun j M=>by
   obtain ⟨i,G⟩:∃ i,i=ds.length - (j+1):=⟨_,rfl⟩
   have J:ds.length - j=i+1:=by omega
   have D:(ds.length:Int) - 1 - (j:Int)=(i:Int):=by omega
   have b:i<ds.length:=by omega
   have B:=h1 _ (bE b)
   have I:=a (i+1)
   have e:ds.drop i=ix ds (i:Int)::ds.drop (i+1):=by rw [List.drop_eq_getElem_cons b,bR b]
   have h:0≤k / pr (ds.drop (i+1)):=Int.ediv_nonneg g (by omega)
   have u:k / pr (ds.drop (i+1))≤65536:=Int.le_trans (Int.ediv_le_self _ g) l
   simp only [Zh_L1,J,D,← G]
   rw [if_pos (by simp),if_pos (by omega),if_pos (by omega),if_pos (by simp; omega)]
   have F:(k / pr (ds.drop (i+1))).tdiv (ix ds (i:Int))=k / pr (ds.drop i):=by
    rw [Int.tdiv_eq_ediv_of_nonneg h,e]; exact (sS I B.1).1.symm
   have m:(k / pr (ds.drop (i+1))).tmod (ix ds (i:Int))=k / pr (ds.drop (i+1)) % ix ds (i:Int):=Int.tmod_eq_emod_of_nonneg h
   have E:0≤k / pr (ds.drop i):=Int.ediv_nonneg g (by have:=a i; omega)
   have q:k / pr (ds.drop i)≤65536:=Int.le_trans (Int.ediv_le_self _ g) l
   rw [F,m,bA (by omega) (by omega),bA (by omega) (by omega)]
   congr 4
   ·rw [e,List.set_append_left _ _ (by simp),List.replicate_succ',List.set_append_right _ _ (by simp)]
    simp [gY]
   ·omega)
  (by
   simp only [Zh_L1,Nat.sub_self,List.drop_zero,List.replicate_zero,List.nil_append]
   rw [if_neg (by simp; omega)])
  (s:=(k,List.replicate (ds.length:Int).toNat 0,aH ((ds.length:Int) - 1))) (by
   rw [bA (by omega) (by omega)]
   simp [pr,gY])
 rw [this]
 rfl
def wk (ls:List Int)(s:Int)(j:Nat):Option Int:=if s*ix ls (j:Int)>65536 then none else some (s*ix ls (j:Int))
theorem qU {ls:List Int}{j:Nat}(h:j<ls.length):pr (ls.take (j+1))=pr (ls.take j)*ix ls (j:Int):=by
 rw [List.take_succ_eq_append_getElem h,mF,bR h]; simp [pr]
theorem Bz {ls:List Int}(h:∀ d∈ls,1≤d):∀ n,n≤ls.length→pN (wk ls) n 1=if pr (ls.take n)≤65536 then some (pr (ls.take n)) else none
 | 0,_=>by simp [pN,pr]
 | n+1,hn=>by
  have i:1≤pr (ls.take n):=fF fun d g=>h d (List.mem_of_mem_take g)
  have g:=h _ (bE (show n<ls.length by omega))
  rw [pN,Bz h n (by omega),qU (by omega)]
  by_cases c:pr (ls.take n)≤65536
  ·rw [if_pos c]
   simp only [Option.bind_some,wk]
   by_cases e:pr (ls.take n)*ix ls (n:Int)≤65536
   ·rw [if_neg (by omega),if_pos e]
   ·rw [if_pos (by omega),if_neg e]
  ·rw [if_neg c,if_neg]
   ·rfl
   ·have:=iN (a:=pr (ls.take n)) (b:=ix ls (n:Int)) (by omega) g
    omega
theorem xK {ls:List Int}(u:ls.length≤100)(h:∀ d∈ls,1≤d∧d≤4096) :
  (pr ls≤65536∧aR (fun s:Int×Int=>Z2_L4 ls s.1 s.2) (1,0)=some (.inr ())) ∨
  (¬ pr ls≤65536∧∃ e,aR (fun s:Int×Int=>Z2_L4 ls s.1 s.2) (1,0)=some (.inl e)∧e.2.2=false):=by
 have g:=Bz (fun d q=>(h d q).1) ls.length (Nat.le_refl _)
 rw [List.take_length] at g
 rcases je (f:=fun s:Int×Int=>Z2_L4 ls s.1 s.2) (wk ls) (fun s i=>(s,i)) (fun _=>()) (fun e=>e.2.2=false) (fun j s=>1≤s∧s≤65536) ls.length
  (fun j s l m=>by
   have r:=h _ (bE l)
   simp only [Z2_L4]
   rw [if_pos (by simp; omega),if_pos (by omega),iD (by omega) (by omega) (by omega) (by omega),bX (by unfold cB; omega)]
   unfold wk
   by_cases c:s*ix ls (j:Int)>65536
   ·rw [if_pos c,if_pos (decide_eq_true c)]
    exact .inr ⟨rfl,_,rfl,rfl⟩
   ·rw [if_neg c,if_neg (by simpa using c)]
    have:=iN (a:=s) (b:=ix ls (j:Int)) (by omega) r.1
    exact .inl ⟨_,rfl,rfl,by omega,by omega⟩)
  (fun s m=>by simp only [Z2_L4]; rw [if_neg (by simp)])
  (s:=1) ⟨by omega,by omega⟩ with ⟨s',a1,a2,a3⟩|⟨a1,e,a2,a3⟩
 ·rw [g] at a1
  refine .inl ⟨?_,a2⟩
  split at a1
  ·assumption
  ·cases a1
 ·rw [g] at a1
  refine .inr ⟨?_,e,a2,a3⟩
  split at a1
  ·cases a1
  ·assumption
theorem xL {f:aN}{lens:List Int}(I:f.length≤100)(G:∀ c∈f,97≤c.toNat∧c.toNat≤122)(h:∀ d∈f.map (lk lens),1≤d∧d≤4096) :
  (pr (f.map (lk lens))≤65536∧aR (fun s:List Int×Int×Int=>Z3_L3 f lens s.1 s.2.1 s.2.2) ([],1,0)=some (.inr (f.map (lk lens)))) ∨
  (¬ pr (f.map (lk lens))≤65536∧∃ e,aR (fun s:List Int×Int×Int=>Z3_L3 f lens s.1 s.2.1 s.2.2) ([],1,0)=some (.inl e)∧e.2=false):=by
 obtain ⟨ls,g⟩:∃ ls,ls=f.map (lk lens):=⟨_,rfl⟩
 rw [← g] at h ⊢
 have E:ls.length=f.length:=by rw [g]; simp
 have q:=Bz (fun d r=>(h d r).1) ls.length (Nat.le_refl _)
 rw [List.take_length] at q
 rcases je (f:=fun s:List Int×Int×Int=>Z3_L3 f lens s.1 s.2.1 s.2.2) (wk ls) (fun s i=>(ls.take i.toNat,s,i)) (fun _=>ls) (fun e=>e.2=false) (fun j s=>1≤s∧s≤65536) ls.length
  (fun j s m B=>by
   have u:=h _ (bE m)
   have D:=G _ (bE (show j<f.length by omega))
   have F:ix lens (((ix f (j:Int)).toNat:Int) - 97)=ix ls (j:Int):=by
    rw [g,pO (by omega),bR (xs:=f) (by omega)]; rfl
   have l:bt f (j:Int)=((ix f (j:Int)).toNat:Int):=rfl
   simp only [Z3_L3]
   rw [if_pos (by simp; omega),if_pos (by omega),l,tB D,if_pos (by omega),F,if_pos (by simp; omega),iD (by omega) (by omega) (by omega) (by omega),bX (by unfold cB; omega)]
   unfold wk
   by_cases c:s*ix ls (j:Int)>65536
   ·rw [if_pos c,if_pos (decide_eq_true c)]
    exact .inr ⟨rfl,_,rfl,rfl⟩
   ·rw [if_neg c,if_neg (by simpa using c)]
    have:=iN (a:=s) (b:=ix ls (j:Int)) (by omega) u.1
    refine .inl ⟨_,rfl,?_,by omega,by omega⟩
    rw [Int.toNat_natCast,Int.toNat_natCast,List.take_succ_eq_append_getElem m,bR m])
  (fun s B=>by simp only [Z3_L3]; rw [if_neg (by simp; omega)]; simp)
  (s:=1) ⟨by omega,by omega⟩ with ⟨s',a1,a2,a3⟩|⟨a1,e,a2,a3⟩
 ·rw [q] at a1
  refine .inl ⟨?_,a2⟩
  split at a1
  ·assumption
  ·cases a1
 ·rw [q] at a1
  refine .inr ⟨?_,e,a2,a3⟩
  split at a1
  ·cases a1
  ·assumption
theorem np {f:form}{g:aN}{p:List Int}(q:f.order.length≤100)(l:g.length≤p.length)(m:p.length≤100):∃ r,Zj f g p=some r:=by
 unfold Zj
 rw [if_pos (by omega)]
 obtain ⟨r,h1,h2⟩:=fX (f:=fun s:List Int×Int=>Zj_L1 f g p s.1 s.2) (fun j s=>s.1.length=f.order.length∧s.2=(j:Int)) f.order.length (Post:=fun _=>True)
  (fun j s h a=>by
   obtain ⟨x,i⟩:=s
   obtain ⟨h1,rfl⟩:=a
   dsimp only at h1
   simp only [Zj_L1]
   rw [if_pos (by simp; omega)]
   obtain ⟨r,g1,b⟩:=fX (f:=fun s:List Int×Int=>Zj_L2 f g p (j:Int) s.1 s.2) (fun k s=>s.1.length=f.order.length∧s.2=(k:Int)) g.length (Post:=fun r=>r.length=f.order.length)
    (fun k s e a=>by
     obtain ⟨x,i⟩:=s
     obtain ⟨h1,rfl⟩:=a
     dsimp only at h1
     simp only [Zj_L2,Zj_J5]
     rw [if_pos (by simp; omega),if_pos (by omega),if_pos (by omega)]
     split
     ·rw [if_pos (by simp; omega),if_pos (by omega)]
      exact ⟨_,rfl,by simpa using h1,by rw [bX (by unfold cB; omega)]⟩
     ·exact ⟨_,rfl,h1,by rw [bX (by unfold cB; omega)]⟩)
    (fun s a=>by
     obtain ⟨x,i⟩:=s
     obtain ⟨h1,rfl⟩:=a
     simp only [Zj_L2]
     rw [if_neg (by simp)]
     exact ⟨_,rfl,h1⟩)
    (s:=(x,0)) ⟨h1,rfl⟩
   rw [g1]
   exact ⟨_,rfl,b,by rw [bX (by unfold cB; omega)]⟩)
  (fun s a=>by
   obtain ⟨x,i⟩:=s
   obtain ⟨h1,rfl⟩:=a
   simp only [Zj_L1]
   rw [if_neg (by simp)]
   exact ⟨_,rfl,trivial⟩)
  (s:=(List.replicate (f.order.length:Int).toNat 0,0)) ⟨by simp,rfl⟩
 rw [h1]
 exact ⟨r,rfl⟩
def oU (gs:List aN)(o:aN)(dss:List (List Int))(s:aN×List Int):Prop:=n3 gs dss (o,List.replicate 26 0)=some s∧pr (s.1.map (lk s.2))≤65536
theorem pP {o:aN}(a:o.Nodup)(b:∀ c∈o,97≤c.toNat∧c.toNat≤122):IS (o,List.replicate 26 0):=by
 refine ⟨rfl,a,b,fun c h1 h2 _=>?_⟩
 unfold lk
 have e:((c.toNat:Int) - 97)=((c.toNat - 97:Nat):Int):=by omega
 rw [e,bR (by rw [List.length_replicate]; omega)]
 exact List.getElem_replicate _
theorem vj {o:aN}(g:∀ c∈o,97≤c.toNat∧c.toNat≤122):List.replicate (o.length:Int).toNat (0:Int)=o.map (lk (List.replicate 26 0)):=by
 rw [Int.toNat_natCast]
 symm
 rw [List.eq_replicate_iff]
 refine ⟨by simp,fun b a=>?_⟩
 obtain ⟨c,h,rfl⟩:=List.mem_map.1 a
 obtain ⟨h1,h2⟩:=g c h
 unfold lk
 have e:((c.toNat:Int) - 97)=((c.toNat - 97:Nat):Int):=by omega
 rw [e,bR (by rw [List.length_replicate]; omega)]
 exact List.getElem_replicate _
theorem mN {gs:List aN}{o:aN}(h:∀ i∈List.range o.length,OL gs o i):o.Nodup:=by
 refine List.pairwise_iff_getElem.2 fun i j g a b e=>?_
 have:=(h j (List.mem_range.2 a)).2
 rw [bR a] at this
 refine this ?_
 rw [← e,List.mem_take_iff_getElem]
 exact ⟨i,by omega,rfl⟩
structure Laid (gs:List aN)(o:aN)(dss:List (List Int))(s:aN×List Int):Prop where
 i:IS s
 l:s.1.length≤42
 p:∃ t,s.1=o++t
 g:∀ x:Nat,x<gs.length→(ix gs (x:Int)).length=(ix dss (x:Int)).length∧∀ j:Nat,j<(ix gs (x:Int)).length→ix (ix gs (x:Int)) (j:Int)∈s.1∧lk s.2 (ix (ix gs (x:Int)) (j:Int))=ix (ix dss (x:Int)) (j:Int)
 d:∀ d∈s.1.map (lk s.2),1≤d∧d≤4096
theorem nX {gs:List aN}{o:aN}{dss:List (List Int)}{s:aN×List Int}(hp:PO gs o)(L:gs.length=dss.length)(J:∀ ds∈dss,eC ds)(h:n3 gs dss (o,List.replicate 26 0)=some s):Laid gs o dss s:=by
 obtain ⟨p1,I,T,U⟩:=hp
 have O:=pP (mN U) I.2
 obtain ⟨a,b,c⟩:=tJ O L T (fun ds D d B=>by have:=(J ds D).2.1 d B; omega) h
 have r:s.1.length≤42:=by
  rcases tF p1 T L (s:=(o,List.replicate 26 0)) I.1 O with ⟨s',m,_,q3,_⟩|⟨m,_⟩
  ·rw [h] at m; cases m; exact q3
  ·rw [h] at m; cases m
 refine ⟨a.i,r,a.p,b,fun d u=>?_⟩
 obtain ⟨y,hy,rfl⟩:=List.mem_map.1 u
 have:∃ g∈gs,y∈g:=by
  rcases c y hy with q | q
  ·obtain ⟨k,M,e⟩:=List.getElem_of_mem q
   have:=(U k (List.mem_range.2 M)).1
   rw [bR M,e] at this
   exact this
  ·exact q
 obtain ⟨g,Z,E⟩:=this
 obtain ⟨x,Y,rfl⟩:=List.getElem_of_mem Z
 obtain ⟨j,F,rfl⟩:=List.getElem_of_mem E
 have G:=b x Y
 rw [bR Y] at G
 have l:=(G.2 j F).2
 rw [bR F] at l
 rw [l]
 exact (J _ (bE (show x<dss.length by omega))).2.mem (bE (by rw [← G.1]; exact F))
theorem rA {gs:List aN}{o:aN}{dss:List (List Int)}(E:PO gs o)(l:gs.length=dss.length)(u:∀ ds∈dss,eC ds) :
  (∃ s,oU gs o dss s∧Z2 gs o dss=some (s.1,s.1.map (lk s.2),true))∨((∀ s,¬ oU gs o dss s)∧∃ e,Z2 gs o dss=some e∧e.2.2=false):=by
 obtain ⟨p1,a,m,q⟩:=E
 have B:=pP (mN q) a.2
 have F:=a.1
 unfold Z2
 rw [if_pos (by omega),vj a.2]
 rcases tF p1 m l (s:=(o,List.replicate 26 0)) a.1 B with ⟨s,b,g,a3,a4⟩|⟨b,e,g,a3⟩
 ·have D:=nX ⟨p1,a,m,q⟩ l u b
  simp only at g
  rw [g]
  simp only [Option.bind_some,Z2_J11]
  rcases xK (ls:=s.1.map (lk s.2)) (by simp; omega) D.d with ⟨i,j⟩|⟨i,e,j,r⟩
  ·rw [j]
   exact .inl ⟨s,⟨b,i⟩,rfl⟩
  ·rw [j]
   refine .inr ⟨fun s' h=>?_,e,rfl,r⟩
   have:=h.1
   rw [b] at this; cases this
   exact i h.2
 ·simp only at g
  rw [g]
  refine .inr ⟨fun s' h=>?_,e,rfl,a3⟩
  have:=h.1
  rw [b] at this; cases this
theorem tK {f:aN}{dss:List (List Int)}(hb:f.length≤1048576)(Y:∀ ds∈dss,eC ds) :
  ((parts f).2.2=true∧(parts f).1.length=dss.length∧∃ s,oU (parts f).1 (parts f).2.1 dss s∧eC ((s.1.map (lk s.2)).take (parts f).2.1.length)∧∃ r,Z3 f dss=some (r,true)∧r.dims=(s.1.map (lk s.2)).take (parts f).2.1.length) ∨
  (¬ ((parts f).2.2=true∧(parts f).1.length=dss.length∧∃ s,oU (parts f).1 (parts f).2.1 dss s∧eC ((s.1.map (lk s.2)).take (parts f).2.1.length))∧∃ r,Z3 f dss=some (r,false)):=by
 obtain ⟨b,B⟩:∃ b,b=parts f:=⟨_,rfl⟩
 have I:b.2.2=true→PO b.1 b.2.1:=by
  rw [B]; unfold parts
  split
  ·intro h; cases h
  ·split
   ·intro _; assumption
   ·intro h; cases h
 unfold Z3
 rw [vh hb,← B]
 simp only [Option.bind_some]
 by_cases a:b.2.2=true∧b.1.length=dss.length
 ·obtain ⟨a,E⟩:=a
  rw [if_neg (by simp [a,E])]
  have hP:=I a
  obtain ⟨p1,G,T,p4⟩:=hP
  have hs:=pP (mN p4) G.2
  rcases xH (gs:=b.1) (b:=b) (dss:=dss) rfl p1 T E (s:=(b.2.1,List.replicate 26 0)) G.1 rfl with ⟨s,u,D,a3,a4⟩|⟨u,e,D,a3⟩
  ·have m:=nX ⟨p1,G,T,p4⟩ E Y u
   simp only at D
   rw [D]
   simp only [Option.bind_some,Z3_J7]
   rcases xL (f:=s.1) (lens:=s.2) (by omega) m.i.c m.d with ⟨M,L⟩|⟨M,e,L,U⟩
   ·rw [L]
    simp only [Option.bind_some,Z3_J8]
    obtain ⟨t,ht⟩:=m.p
    have Z:b.2.1.length≤(s.1.map (lk s.2)).length:=by rw [ht]; simp
    have a0:(s.1.map (lk s.2)).length≤42:=by simpa using m.l
    rw [if_pos (by omega),kT,hH (by simp; omega)]
    simp only [Option.bind_some]
    rw [gX (by simp only [List.length_take]; unfold cB; omega)]
    simp only [Option.bind_some]
    by_cases c3:eC ((s.1.map (lk s.2)).take b.2.1.length)
    ·rw [decide_eq_true c3,if_neg (by simp)]
     refine .inl ⟨a,E,s,⟨u,M⟩,c3,?_⟩
     obtain ⟨r,h1,_⟩:=fX (f:=fun z:List (List Int)×Int=>Z3_L4 dss b s.1 (s.1.map (lk s.2)) ((s.1.map (lk s.2)).take b.2.1.length) z.1 z.2) (fun j z=>z.1.length=j∧z.2=(j:Int)) b.1.length (Post:=fun _=>True)
      (fun j z hj O=>by
       obtain ⟨x,i⟩:=z
       obtain ⟨h1,rfl⟩:=O
       dsimp only at h1
       simp only [Z3_L4]
       have F:=Y _ (bE (show j<dss.length by omega))
       rw [if_pos (by simp; omega),if_pos (by omega),if_pos (by omega),nK F]
       simp only [Option.bind_some]
       have a6:=(m.g j hj).1
       have a5:=(T _ (bE hj)).1
       obtain ⟨q,J⟩:=np (f:=(⟨b.1,b.2.1,s.1,s.1.map (lk s.2),(s.1.map (lk s.2)).take b.2.1.length,x,[]⟩:form)) (g:=ix b.1 (j:Int)) (p:=eJ (ix dss (j:Int))) (by have:=m.l; show s.1.length≤100; omega) (by rw [dH]; omega) (by rw [dH]; omega)
       rw [J]
       simp only [Option.bind_some]
       rw [if_pos (by simp; omega),bX (by unfold cB; omega)]
       exact ⟨_,rfl,by simp; omega,rfl⟩)
      (fun z O=>by
       obtain ⟨x,i⟩:=z
       obtain ⟨h1,rfl⟩:=O
       simp only [Z3_L4]
       rw [if_neg (by simp)]
       exact ⟨_,rfl,trivial⟩)
      (s:=([],0)) ⟨rfl,rfl⟩
     rw [h1]
     simp only [Option.bind_some,Z3_J9]
     rw [nK c3]
     simp only [Option.bind_some]
     obtain ⟨q,J⟩:=np (f:=(⟨b.1,b.2.1,s.1,s.1.map (lk s.2),(s.1.map (lk s.2)).take b.2.1.length,r,[]⟩:form)) (g:=b.2.1) (p:=eJ ((s.1.map (lk s.2)).take b.2.1.length)) (by have:=m.l; show s.1.length≤100; omega) (by rw [dH]; simp only [List.length_take]; omega) (by rw [dH]; simp only [List.length_take]; omega)
     rw [J]
     exact ⟨_,rfl,rfl⟩
    ·rw [decide_eq_false c3,if_pos (by simp)]
     refine .inr ⟨?_,_,rfl⟩
     rintro ⟨_,_,s',h1,h2⟩
     have:=h1.1
     rw [u] at this; cases this
     exact c3 h2
   ·rw [L]
    obtain ⟨e1,e2⟩:=e
    simp only at U; subst U
    refine .inr ⟨?_,_,rfl⟩
    rintro ⟨_,_,s',h1,h2⟩
    have:=h1.1
    rw [u] at this; cases this
    exact M h1.2
  ·simp only at D
   rw [D]
   obtain ⟨e1,e2⟩:=e
   simp only at a3; subst a3
   refine .inr ⟨?_,_,rfl⟩
   rintro ⟨_,_,s',h1,h2⟩
   have:=h1.1
   rw [u] at this; cases this
 ·rw [if_pos]
  ·exact .inr ⟨fun z=>a ⟨z.1,z.2.1⟩,_,rfl⟩
  ·cases q:b.2.2
   ·rfl
   ·have:b.1.length≠dss.length:=fun z=>a ⟨q,z⟩
    simp; omega
theorem tL {g f:aN}{vs:List Int}(J:g.length≤6)(M:f.length≤42)(L:vs.length=f.length)(G:f.Nodup)(I:∀ c∈g,c∈f):Zf g f vs=some (g.map fun c=>ix vs ((f.idxOf c:Nat):Int)):=by
 unfold Zf
 rw [eT (f:=fun s:List Int×Int=>Zf_L1 g f vs s.1 s.2) (r:=g.map fun c=>ix vs ((f.idxOf c:Nat):Int)) (fun i=>((g.take i).map fun c=>ix vs ((f.idxOf c:Nat):Int),(i:Int))) g.length
  (fun i u=>by
   obtain ⟨c,m⟩:∃ c,c=g[i]:=⟨_,rfl⟩
   have B:ix g (i:Int)=c:=by rw [bR u,m]
   have l:c∈f:=I c (by rw [m]; exact List.getElem_mem u)
   have F:f.idxOf c<f.length:=List.idxOf_lt_length_iff.2 l
   obtain ⟨h,b⟩:∃ h,h=(g.take i).map fun c=>ix vs ((f.idxOf c:Nat):Int):=⟨_,rfl⟩
   have D:h.length≤6:=by rw [b]; simp; omega
   simp only [Zf_L1]
   rw [if_pos (by simp; omega),← b]
   rw [eT (f:=fun s:List Int×Int=>Zf_L2 g f vs (i:Int) s.1 s.2) (r:=h++[ix vs ((f.idxOf c:Nat):Int)]) (fun k=>(h++(if f.idxOf c<k then [ix vs ((f.idxOf c:Nat):Int)] else []),(k:Int))) f.length
    (fun k E=>by
     have j:(bt f (k:Int)==bt g (i:Int))=decide (f[k]=c):=by
      rw [show bt f (k:Int)=((ix f (k:Int)).toNat:Int) from rfl,show bt g (i:Int)=((ix g (i:Int)).toNat:Int) from rfl,kW,B,bR E]
     have a:f[k]=c↔f.idxOf c=k:=by
      constructor
      ·intro e
       rw [← e]
       exact G.idxOf_getElem k E
      ·intro e; subst e; exact List.getElem_idxOf F
     simp only [Zf_L2,Zf_J5]
     rw [if_pos (by simp; omega),if_pos (by omega),if_pos (by omega),j,bX (by unfold cB; omega)]
     by_cases q:f.idxOf c=k
     ·rw [if_pos (decide_eq_true (a.2 q)),if_pos (by omega),if_neg (show ¬ f.idxOf c<k by omega),if_pos (show f.idxOf c<k+1 by omega),List.append_nil,if_pos (by simp; omega),q]
     ·rw [if_neg (by simpa using fun z=>q (a.1 z))]
      by_cases r:f.idxOf c<k
      ·rw [if_pos r,if_pos (by omega)]
      ·rw [if_neg r,if_neg (by omega)])
    (by simp only [Zf_L2]; rw [if_neg (by simp),if_pos F])
    (s:=(h,0)) (by simp)]
   simp only [Option.bind_some,Zf_J6]
   rw [bX (by unfold cB; omega),List.take_succ_eq_append_getElem u,List.map_append,← b,← m]
   rfl)
  (by simp only [Zf_L1]; rw [if_neg (by simp),List.take_length])
  (s:=([],0)) rfl]
 rfl
theorem Ab {ds is:List Int}(h:IV ds is){j:Nat}(a:j<ds.length):0≤ix is (j:Int)∧ix is (j:Int)<ix ds (j:Int):=by
 induction ds generalizing is j with
 | nil=>simp at a
 | cons d ds ih=>cases is with
  | nil=>exact h.elim
  | cons i is =>
   cases j with
   | zero=>simpa [ix] using h.1
   | succ j =>
    have:=ih h.2 (j:=j) (by simpa using a)
    simpa [ix] using this
theorem Ac {ds is:List Int}(a:is.length=ds.length)(h:∀ j:Nat,j<ds.length→0≤ix is (j:Int)∧ix is (j:Int)<ix ds (j:Int)):IV ds is:=by
 induction ds generalizing is with
 | nil=>cases is with
  | nil=>trivial
  | cons=>simp at a
 | cons d ds ih=>cases is with
  | nil=>simp at a
  | cons i is =>
   refine ⟨by simpa [ix] using h 0 (by simp),ih (by simpa using a) fun j b=>?_⟩
   have:=h (j+1) (by simpa using b)
   simpa [ix] using this
theorem mO {ls:List Int}(h:∀ d∈ls,1≤d)(k:Nat):1≤pr (ls.take k)∧pr (ls.take k)≤pr ls:=by
 have h2:1≤pr (ls.drop k):=fF fun d a=>h d (List.mem_of_mem_drop a)
 have b:1≤pr (ls.take k):=fF fun d a=>h d (List.mem_of_mem_take a)
 exact ⟨b,by rw [gL ls k]; exact iN (by omega) h2⟩
def tM (f:aN)(dss:List (List Int))(s:aN×List Int):Prop:=(parts f).2.2=true∧(parts f).1.length=dss.length∧oU (parts f).1 (parts f).2.1 dss s∧eC ((s.1.map (lk s.2)).take (parts f).2.1.length)
theorem pQ {f:aN}{D:List Tensor}(hb:f.length≤1048576)(ht:∀ t∈D,TT t)(hn:D.length≤6) :
  (∃ s,tM f (D.map Tensor.Dims) s∧∃ d,Z5 f D=some ⟨(s.1.map (lk s.2)).take (parts f).2.1.length,d⟩∧TOk ((s.1.map (lk s.2)).take (parts f).2.1.length) d)∨((¬ ∃ s,tM f (D.map Tensor.Dims) s)∧Z5 f D=some ⟨[],[]⟩):=by
 obtain ⟨dss,B⟩:∃ dss,dss=D.map Tensor.Dims:=⟨_,rfl⟩
 have hd:∀ ds∈dss,eC ds:=by
  intro ds h
  rw [B] at h
  obtain ⟨t,h1,rfl⟩:=List.mem_map.1 h
  exact (ht t h1).d
 have ag:dss.length=D.length:=by rw [B]; simp
 rw [← B]
 unfold tM
 obtain ⟨b,a4⟩:∃ b,b=parts f:=⟨_,rfl⟩
 have a5:b.2.2=true→PO b.1 b.2.1:=by
  rw [a4]; unfold parts
  split
  ·intro h; cases h
  ·split
   ·intro _; assumption
   ·intro h; cases h
 unfold Z5
 rw [vf hb,← a4]
 simp only [Option.bind_some]
 by_cases M:b.2.2=true∧b.1.length=dss.length
 ·obtain ⟨M,c2⟩:=M
  rw [if_neg (by simp [M]; omega)]
  have hP:=a5 M
  have ac:=hP
  obtain ⟨p1,p2,p3,p4⟩:=ac
  have L1:aR (fun s:List (List Int)×Int=>Z5_L1 D s.1 s.2) ([],0)=some (Sum.inr dss):=by
   refine eT (f:=fun s:List (List Int)×Int=>Z5_L1 D s.1 s.2) (fun k=>((D.take k).map Tensor.Dims,(k:Int))) D.length (fun k I=>?_) ?_ rfl
   ·simp only [Z5_L1]
    rw [if_pos (by simp; omega),if_pos (by omega),pE (ht _ (bE I))]
    simp only [Option.bind_some]
    rw [if_neg (by simp),if_pos (by simp; omega),bX (by unfold cB; omega),List.take_succ_eq_append_getElem I,List.map_append,bR I]
    rfl
   ·simp only [Z5_L1]
    rw [if_neg (by simp),List.take_length,← B]
  rw [L1]
  simp only [Option.bind_some,Z5_J1]
  rcases rA hP c2 hd with ⟨s,h1,h2⟩|⟨h1,e,h2,h3⟩
  ·rw [h2]
   simp only [Option.bind_some]
   have Z:=nX hP c2 hd h1.1
   obtain ⟨ls,E⟩:∃ ls,ls=s.1.map (lk s.2):=⟨_,rfl⟩
   have Y:ls.length=s.1.length:=by rw [E]; simp
   have a0:=Z.l
   have J:=Z.d
   obtain ⟨t,U⟩:=Z.p
   have ae:b.2.1.length≤ls.length:=by rw [Y,U]; simp
   have ab:=h1.2
   rw [← E] at ab J ⊢
   have G:∀ d∈ls,1≤d:=fun d h=>(J d h).1
   rw [if_pos (fun _=>by omega)]
   simp only [bQ,Bool.not_true,Bool.not_false,cond_true,Bool.false_or]
   rw [kT,f' (by simp only [List.length_take]; unfold cB; omega)]
   simp only [Option.bind_some]
   obtain ⟨a,F⟩:∃ a,a=ls.take b.2.1.length:=⟨_,rfl⟩
   rw [← F]
   by_cases c3:eC a
   ·rw [decide_eq_true c3,if_neg (by simp),if_pos (by omega),kO c3]
    simp only [Option.bind_some]
    refine .inl ⟨s,⟨M,c2,h1,by rw [← E,← F]; exact c3⟩,?_⟩
    rw [← E,← F]
    have L2:aR (fun z:Int×Int=>Z5_L2 (s.1,ls,true) z.1 z.2) (1,0)=some (pr ls):=by
     refine eT (f:=fun z:Int×Int=>Z5_L2 (s.1,ls,true) z.1 z.2) (fun k=>(pr (ls.take k),(k:Int))) ls.length (fun k I=>?_) ?_ (by simp [pr])
     ·have a1:=mO G k
      have a2:=mO G (k+1)
      have a3:=J _ (bE I)
      simp only [Z5_L2]
      rw [if_pos (by simp; omega),if_pos (by omega),iD (by omega) (by omega) (by omega) (by omega),bX (by unfold cB; omega),qU I]
     ·simp only [Z5_L2]
      rw [if_neg (by simp),List.take_length]
    rw [L2]
    simp only [Option.bind_some,Z5_J2]
    have ak:=fF G
    have al:=c3.2.pos
    obtain ⟨r,q1,q2⟩:=kR (f:=fun z:List Int×Int=>Z5_L3 D b (s.1,ls,true) ⟨a,List.replicate (pr a).toNat 0⟩ (pr ls) z.1 z.2) (Post:=fun r=>RG (pr a).toNat r) (pr a).toNat (pr ls).toNat
     (fun j hj x hx=>by
      have ai:(j:Int)<pr ls:=by omega
      simp only [Z5_L3]
      rw [if_pos (by simp; omega),vi (by omega) J (by omega) (by omega)]
      simp only [Option.bind_some]
      have hI:=gZ G (j:Int)
      obtain ⟨vs,a7⟩:∃ vs,vs=gY ls (j:Int):=⟨_,rfl⟩
      rw [← a7] at hI ⊢
      have aj:=hI.len
      obtain ⟨p,g1,_⟩:=fX (f:=fun z:Int×Int=>Z5_L4 D b (s.1,ls,true) vs z.1 z.2) (fun k z=>z.2=(k:Int)) b.1.length (Post:=fun _=>True)
       (fun k z I hz=>by
        obtain ⟨y,i⟩:=z
        dsimp only at hz; subst hz
        simp only [Z5_L4]
        have T:k<D.length:=by omega
        obtain ⟨e1,e2⟩:=Z.g k I
        have aa:ix dss (k:Int)=(ix D (k:Int)).Dims:=by rw [B,bR (by simpa using T),bR T]; simp
        have a8:=p3 _ (bE I)
        rw [if_pos (by simp; omega),if_pos (by omega),if_pos (by omega),tL a8.1 a0 (by omega) Z.i.n (fun c hc=>by
         obtain ⟨m,hm,rfl⟩:=List.getElem_of_mem hc
         have:=(e2 m hm).1
         rwa [bR hm] at this)]
        simp only [Option.bind_some]
        obtain ⟨w,w1,_⟩:=nd (ht _ (bE T)) (is:=(ix b.1 (k:Int)).map fun c=>ix vs ((s.1.idxOf c:Nat):Int)) (by
         rw [← aa]
         refine Ac (by simp [e1]) fun m hm=>?_
         have O:m<(ix b.1 (k:Int)).length:=by omega
         obtain ⟨f1,f2⟩:=e2 m O
         have hp:s.1.idxOf (ix (ix b.1 (k:Int)) (m:Int))<s.1.length:=List.idxOf_lt_length_iff.2 f1
         have hv:=Ab hI (j:=s.1.idxOf (ix (ix b.1 (k:Int)) (m:Int))) (by omega)
         have a9:ix ((ix b.1 (k:Int)).map fun c=>ix vs ((s.1.idxOf c:Nat):Int)) (m:Int)=ix vs ((s.1.idxOf (ix (ix b.1 (k:Int)) (m:Int)):Nat):Int):=by
          rw [bR (by simpa using O),List.getElem_map,bR (xs:=ix b.1 (k:Int)) O]
         have a6:ix ls ((s.1.idxOf (ix (ix b.1 (k:Int)) (m:Int)):Nat):Int)=ix (ix dss (k:Int)) (m:Int):=by
          rw [E,pO hp,List.getElem_idxOf hp,f2]
         rw [a9,← a6]
         exact hv)
        rw [w1]
        simp only [Option.bind_some]
        obtain ⟨u,u1,_⟩:=ma y w
        rw [u1]
        exact ⟨_,rfl,by rw [bX (by unfold cB; omega)]⟩)
       (fun z hz=>by
        obtain ⟨y,i⟩:=z
        dsimp only at hz; subst hz
        simp only [Z5_L4]
        rw [if_neg (by simp)]
        exact ⟨_,rfl,trivial⟩)
       (s:=(1,0)) rfl
      rw [g1]
      simp only [Option.bind_some,Z5_J4]
      have L:=qH hI b.2.1.length
      rw [← F] at L
      have ah:=mH c3.2.1 L
      rw [if_pos (by omega),kT,nJ c3 L]
      simp only [Option.bind_some,List.length_replicate]
      rw [if_pos (by omega)]
      obtain ⟨u,u1,u2⟩:=nO (ix x (m8 a (vs.take b.2.1.length))) p
      rw [u1]
      exact ⟨_,by rw [bX (by unfold cB; omega)]; rfl,hx.set u2 _⟩)
     (fun x hx=>by
      simp only [Z5_L3]
      rw [if_neg (by simp; omega)]
      exact ⟨_,rfl,hx⟩)
     (x:=List.replicate (pr a).toNat 0) (RG.rep _)
    rw [q1]
    exact ⟨r,rfl,hD c3 q2⟩
   ·rw [decide_eq_false c3,if_pos (by simp)]
    refine .inr ⟨?_,rfl⟩
    rintro ⟨s',_,_,g1,g2⟩
    have:=g1.1
    rw [h1.1] at this; cases this
    rw [← E,← F] at g2
    exact c3 g2
  ·rw [h2]
   obtain ⟨e1,e2,e3⟩:=e
   dsimp only at h3; subst h3
   simp only [Option.bind_some]
   rw [if_pos (fun z=>by simp at z)]
   simp only [bQ,Bool.not_true,Bool.not_false,cond_false,Option.bind_some,Bool.true_or,if_true]
   exact .inr ⟨fun ⟨s,_,_,z,_⟩=>h1 s z,trivial⟩
 ·rw [if_pos]
  ·exact .inr ⟨fun ⟨s,z1,z2,_⟩=>M ⟨z1,z2⟩,rfl⟩
  ·cases q:b.2.2
   ·rfl
   ·have:b.1.length≠dss.length:=fun z=>M ⟨q,z⟩
    simp; omega
theorem rB {f:aN}(h:(parts f).2.2=true):1≤(parts f).1.length∧(parts f).1.length≤6:=by
 unfold parts at h ⊢
 split
 ·rename_i e; rw [e] at h; cases h
 ·rename_i p e
  rw [e] at h
  simp only at h ⊢
  by_cases c:PO (fL p.1) p.2
  ·rw [if_pos c]
   refine ⟨?_,c.1⟩
   have:=ll p.1
   cases q:fL p.1 with
   | nil=>exact absurd q this
   | cons=>simp
  ·rw [if_neg c] at h; cases h
theorem sh5 (b i j s n args):bO ⟨5,b,i,j,s⟩ n args=Z2s ⟨⟩ n args:=rfl
theorem vk {n:Node}{e:List Tensor}(G:Caps n e)(g:n.Op=11):oS n e (Ze n (e.map Tensor.Dims)):=by
 have U:nS n e.length→∀ t∈(n.Args.map fun a=>ix e a),TT t:=k8 G
 have M:∀ A:List Tensor,(∀ t∈A,TT t)→∃ r j,bO ⟨5,false,0,0,[]⟩ n (A.map Tensor.Dims)=some (r,j)∧(j=true→∃ s,tM n.Form (A.map Tensor.Dims) s∧r=(s.1.map (lk s.2)).take (parts n.Form).2.1.length)∧(j=false→¬ ∃ s,tM n.Form (A.map Tensor.Dims) s):=by
  intro A B
  rw [sh5]
  unfold Z2s
  rcases tK (f:=n.Form) (dss:=A.map Tensor.Dims) G.f (fun ds h=>by
   obtain ⟨t,h1,rfl⟩:=List.mem_map.1 h
   exact (B t h1).d) with ⟨q1,q2,s,q3,q4,r,q5,q6⟩|⟨q1,r,q2⟩
  ·rw [q5]
   exact ⟨_,_,rfl,fun _=>⟨s,⟨q1,q2,q3,q4⟩,q6⟩,fun h=>by cases h⟩
  ·rw [q2]
   exact ⟨_,_,rfl,(fun h=>by cases h),fun _=>fun ⟨s,a,b,c,d⟩=>q1 ⟨a,b,s,c,d⟩⟩
 refine mL G (kd:=⟨5,false,0,0,[]⟩) (u:=ki) (fb:=decide (FM n 1 6 false 0 0)) (by rw [g]; rfl) rfl rfl (kU n ki false false true false xo xp xq xr) (gM (by omega) (by omega) (by rw [g]; rfl) (by rw [g]; rfl) (by rw [g]; rfl) (by rw [g]; rfl) ⟨by omega,by omega⟩) ?_ ?_ ?_
 ·intro D
  obtain ⟨f1,f2,f3,f4,Z,f6,f7⟩:=of_decide_eq_true D
  have g3:n.Dims=[]:=f3.resolve_left (by simp)
  have g5:n.Data=[]:=Z.resolve_left (by omega)
  have g6:n.Ints=[]:=List.eq_nil_of_length_eq_zero (by omega)
  exact ⟨by rw [g3,g5,g6]; rfl,by omega⟩
 ·intro F hw D
  obtain ⟨r,j,I,E,Y⟩:=M _ (U hw)
  cases j with
  | false=>exact ⟨r,I⟩
  | true =>
   obtain ⟨s,⟨m,q,_⟩,_⟩:=E rfl
   have T:=rB m
   refine absurd ?_ (of_decide_eq_false D)
   simp only [Bool.false_or,Bool.true_or,Bool.and_true,Bool.and_eq_true,kV,beq_iff_eq] at F
   have J:((n.Args.map fun a=>ix e a).map Tensor.Dims).length=n.Args.length:=by simp
   rw [J] at q
   exact ⟨by omega,by omega,.inr F.1.1,.inl g,.inr F.2,by omega,by rw [F.1.2]; decide⟩
 ·intro D hw
  obtain ⟨f1,f2,f3,f4,Z,f6,f7⟩:=of_decide_eq_true D
  have B:=U hw
  obtain ⟨A,l⟩:∃ A,A=n.Args.map fun a=>ix e a:=⟨_,rfl⟩
  have i:Do n e=(Z5 n.Form A).bind fun r=>some r:=by
   unfold Do Z1
   rw [if_neg (by omega),← l]
   simp only [Z1_J1,Z1_J2,g]
   simp only [Int.reduceBEq,Bool.false_eq_true,if_false,if_true,beq_self_eq_true]
  have T:A.length≤6:=by rw [l]; simp; omega
  rw [← l] at B ⊢
  obtain ⟨r,j,I,E,Y⟩:=M A B
  rcases pQ G.f B T with ⟨s,m,d,q,c3⟩|⟨m,q⟩
  ·rw [q] at i
   cases j with
   | false=>exact absurd ⟨s,m⟩ (Y rfl)
   | true =>
    obtain ⟨s',k1,k2⟩:=E rfl
    have L:s'=s:=by
     have O:=k1.2.2.1.1
     rw [m.2.2.1.1] at O
     exact (Option.some.inj O).symm
    subst L
    exact ⟨⟨_,d⟩,.inl ⟨by rw [I,k2],i,c3⟩⟩
  ·rw [q] at i
   cases j with
   | false=>exact ⟨⟨[],[]⟩,.inr ⟨r,I,i⟩⟩
   | true=>obtain ⟨s',k1,_⟩:=E rfl; exact absurd ⟨s',k1⟩ m
theorem tN {n:Node}{i:List Tensor}(g:Caps n i):oS n i (Ze n (i.map Tensor.Dims)):=by
 by_cases h:1≤n.Op∧n.Op≤19
 ·by_cases h1:n.Op=1
  ·exact tp g h1
  by_cases h2:n.Op=2
  ·exact tq g h2
  by_cases h3:n.Op≤5
  ·exact uY g (by omega) h3
  by_cases h4:n.Op≤9
  ·exact uZ g ⟨by omega,h4⟩
  have:n.Op=10∨n.Op=11∨n.Op=12∨n.Op=13∨n.Op=14∨n.Op=15∨n.Op=16∨n.Op=17∨n.Op=18∨n.Op=19:=by omega
  rcases this with q | q | q | q | q | q | q | q | q | q
  ·exact xy g q
  ·exact vk g q
  ·exact rv g q
  ·exact pJ g q
  ·exact tt g q
  ·exact xD g q
  ·exact ry g q
  ·exact pK g q
  ·exact rx g q
  ·exact v8 g q
 ·have e:∀ k:Int,1≤k→k≤19→(n.Op==k)=false:=fun k a b=>by simp; omega
  have j:Zy n.Op=some ⟨0,false,0,0,[]⟩:=by
   unfold Zy Zy_J1 Zy_J2 Zy_J3
   simp only [e 1 (by omega) (by omega),e 2 (by omega) (by omega),e 3 (by omega) (by omega),e 4 (by omega) (by omega),e 5 (by omega) (by omega),e 6 (by omega) (by omega),e 7 (by omega) (by omega),e 8 (by omega) (by omega),e 9 (by omega) (by omega),e 10 (by omega) (by omega),e 11 (by omega) (by omega),e 12 (by omega) (by omega),e 13 (by omega) (by omega),e 14 (by omega) (by omega),e 15 (by omega) (by omega),e 16 (by omega) (by omega),e 17 (by omega) (by omega),e 18 (by omega) (by omega),e 19 (by omega) (by omega),Bool.false_eq_true,if_false]
  refine .inr ⟨[],?_,.inl ?_⟩
  ·unfold Ze
   rw [j]
   rfl
  ·unfold Z17
   rw [if_pos (by simp; omega)]
structure GC (g:Graph):Prop where
 n:g.Nodes.length<cB
 o:g.Outs.length<cB
 a:∀ n∈g.Nodes,n.Args.length<cB
 d:∀ n∈g.Nodes,n.Dims.length<cB
 i:∀ n∈g.Nodes,n.Ints.length<cB
 x:∀ n∈g.Nodes,n.Data.length<cB
 f:∀ n∈g.Nodes,n.Form.length≤1048576
def As (g:Graph)(k:Nat)(a:List Tensor):Prop:=∀ j:Nat,j<k→Z17 (ix g.Nodes (j:Int))=some true∧nS (ix g.Nodes (j:Int)) j∧Do (ix g.Nodes (j:Int)) (a.take j)=some (ix a (j:Int))
theorem xM {g:Graph}{b:List Tensor}{k:Nat}(m:k<g.Nodes.length)(i:b.length≤200)(h:(ix g.Nodes (k:Int)).Args.length≤100)(hw:nS (ix g.Nodes (k:Int)) b.length) :
  aR (fun s:List Tensor×Int=>Z9_L2 g b (k:Int) s.1 s.2) ([],0)=some ((ix g.Nodes (k:Int)).Args.map fun a=>ix b a):=by
 refine eT (f:=fun s:List Tensor×Int=>Z9_L2 g b (k:Int) s.1 s.2) (fun j=>(((ix g.Nodes (k:Int)).Args.take j).map fun a=>ix b a,(j:Int))) (ix g.Nodes (k:Int)).Args.length (fun j e=>?_) ?_ rfl
 ·have l:=hw _ (bE e)
  simp only [Z9_L2]
  rw [if_pos (by simp; omega),if_pos (by omega),if_pos (by omega),if_pos (by simp; omega),bX (by unfold cB; omega),List.take_succ_eq_append_getElem e,List.map_append,bR e]
  rfl
 ·simp only [Z9_L2]
  rw [if_neg (by simp),List.take_length]
theorem lq {n:Node}(h:Z17 n=some true):n.Args.length≤6:=by
 unfold Z17 at h
 split at h
 ·cases h
 ·obtain ⟨r,h1,h⟩:=bd h
  have a:r.2≤6:=by
   unfold Z2y at h1
   repeat' split at h1
   all_goals (cases h1; decide)
  split at h
  ·cases h
  ·rename_i q
   simp only [Bool.or_eq_true,decide_eq_true_eq,not_or] at q
   omega
theorem tO {g:Graph}{ins:List Tensor}{a:List Tensor}{k:Nat}{t:Tensor}(l:k<g.Nodes.length)(i:a.length=k)(q:g.Nodes.length≤200)(h:Z17 (ix g.Nodes (k:Int))=some true)(hw:nS (ix g.Nodes (k:Int)) a.length)(b:Do (ix g.Nodes (k:Int)) a=some t) :
  Z9_L1 g ins true a 0 (k:Int)=Z9_J4 a (k:Int) 0 t.Dims t.Data:=by
 have m:=lq h
 simp only [Z9_L1]
 rw [if_pos (by simp; omega),if_pos (by omega),h]
 simp only [Option.bind_some,bQ,Bool.not_true,Bool.not_false,cond_true,Bool.false_or]
 rw [jZ (by unfold cB; omega)]
 have e:∀ x∈(ix g.Nodes (k:Int)).Args,0≤x∧x<(k:Int):=by
  intro x j
  have:=hw x j
  rwa [i] at this
 simp only [Option.bind_some]
 rw [decide_eq_true e,if_neg (by simp),xM l (by omega) (by omega) hw]
 simp only [Option.bind_some,Z9_J3]
 unfold Do at b
 by_cases c:(ix g.Nodes (k:Int)).Op=1
 ·rw [if_pos c] at b
  rw [if_neg (by simp [c]),if_pos trivial,b]
  rfl
 ·rw [if_neg c] at b
  rw [if_pos (by simp [c]),b]
  rfl
theorem oV {g:Graph}{ins:List Tensor}(B:GC g)(M:g.Nodes.length≤200):∀ (m k:Nat) (h:List Tensor),k+m=g.Nodes.length→h.length=k→(∀ t∈h,TT t)→As g k h →
  (∃ q,aR (fun s:List Tensor×Int×Int=>Z9_L1 g ins true s.1 s.2.1 s.2.2) (h,0,(k:Int))=some (.inr (q,0))∧aR (fun s:List (List Int)×Int=>Zi_L1 g s.1 s.2) (h.map Tensor.Dims,(k:Int))=some (.inr (q.map Tensor.Dims))∧q.length=g.Nodes.length∧(∀ t∈q,TT t)∧As g g.Nodes.length q) ∨
  ((∃ e,aR (fun s:List Tensor×Int×Int=>Z9_L1 g ins true s.1 s.2.1 s.2.2) (h,0,(k:Int))=some (.inl e)∧e.2=false)∧∃ e,aR (fun s:List (List Int)×Int=>Zi_L1 g s.1 s.2) (h.map Tensor.Dims,(k:Int))=some (.inl e)∧e.2=false)
 | 0,k,h,I,ho,ht,hr=>by
  have I:k=g.Nodes.length:=by omega
  subst I
  refine .inl ⟨h,dB ?_,dB ?_,ho,ht,hr⟩
  ·simp only [Z9_L1]; rw [if_neg (by simp)]
  ·simp only [Zi_L1]; rw [if_neg (by simp)]
 | m+1,k,h,I,ho,ht,hr=>by
  have r:k<g.Nodes.length:=by omega
  have E:=bE r
  have hc:Caps (ix g.Nodes (k:Int)) h:=⟨B.a _ E,B.d _ E,B.i _ E,B.x _ E,B.f _ E,by omega,ht⟩
  have T:∀ p:List Int×Bool,Ze (ix g.Nodes (k:Int)) (h.map Tensor.Dims)=some p→Zi_L1 g (h.map Tensor.Dims) (k:Int)=if p.2=true then some (.inl (h.map Tensor.Dims++[p.1],((k+1:Nat):Int))) else some (.inr (.inl ([],false))):=by
   intro p Y
   simp only [Zi_L1]
   rw [if_pos (by simp; omega),if_pos (by omega),Y]
   simp only [Option.bind_some]
   cases p.2
   ·rfl
   ·rw [if_neg (by simp),if_pos (by simp; omega),bX (by unfold cB; omega)]; rfl
  rcases tN hc with ⟨t,h1,h2,F,O,J⟩|⟨ds,h1,h2⟩
  ·have U:=J.l
   have Y:=J.d.2.pos
   have G:=tO (ins:=ins) r ho M h2 F O
   unfold Z9_J4 at G
   rw [if_neg (by simp; intro z; rw [z] at U; simp at U; omega),if_pos (by simp; omega),bX (by unfold cB; omega)] at G
   have D:=T _ h1
   rw [if_pos rfl] at D
   rw [eF (f:=fun s:List Tensor×Int×Int=>Z9_L1 g ins true s.1 s.2.1 s.2.2) G,eF (f:=fun s:List (List Int)×Int=>Zi_L1 g s.1 s.2) D]
   have:=oV (ins:=ins) B M m (k+1) (h++[t]) (by omega) (by simp [ho]) (by
    intro u Z
    rcases List.mem_append.1 Z with z | z
    ·exact ht u z
    ·simp at z; subst z; exact J) (by
    intro j hj
    by_cases e:j<k
    ·obtain ⟨a,b,c⟩:=hr j e
     refine ⟨a,b,?_⟩
     rw [List.take_append_of_le_length (by omega),c,bR (by omega),bR (by simp; omega),List.getElem_append_left (by omega)]
    ·have e:j=k:=by omega
     subst e
     rw [ho] at F
     refine ⟨h2,F,?_⟩
     rw [List.take_append_of_le_length (by omega),List.take_of_length_le (by omega),bR (xs:=h++[t]) (by rw [List.length_append,List.length_singleton]; omega),List.getElem_append_right (by omega)]
     simpa [ho] using O)
   rw [List.map_append] at this
   exact this
  ·have D:=T _ h1
   rw [if_neg (by simp)] at D
   refine .inr ⟨?_,_,dB D,rfl⟩
   rcases h2 with h2 | ⟨h2,F⟩
   ·refine ⟨(h,false),dB ?_,rfl⟩
    simp only [Z9_L1]
    rw [if_pos (by simp; omega),if_pos (by omega),h2]
    rfl
   ·by_cases w:nS (ix g.Nodes (k:Int)) h.length
    ·have G:=tO (ins:=ins) r ho M h2 w (F w)
     exact ⟨(h,false),dB G,rfl⟩
    ·refine ⟨(h,false),dB ?_,rfl⟩
     have ha:=lq h2
     simp only [Z9_L1]
     rw [if_pos (by simp; omega),if_pos (by omega),h2]
     simp only [Option.bind_some,bQ,Bool.not_true,Bool.not_false,cond_true,Bool.false_or]
     rw [jZ (by unfold cB; omega)]
     have L:¬ ∀ x∈(ix g.Nodes (k:Int)).Args,0≤x∧x<(k:Int):=by
      intro z; refine w fun x hx=>?_
      have:=z x hx
      rwa [ho]
     simp only [Option.bind_some]
     rw [decide_eq_false L,if_pos (by simp)]
theorem oW {g:Graph}(L:GC g):∃ b G D,Z9 g [] true=some (b,D)∧Zi g=some (G,D)∧(D=true→G=b.map Tensor.Dims∧b.length=g.Nodes.length∧(∀ t∈b,TT t)∧As g g.Nodes.length b∧g.Nodes.length≤200∧g.Outs.length≤40∧∀ o∈g.Outs,0≤o∧o<(g.Nodes.length:Int)):=by
 unfold Z9 Zi
 by_cases c:g.Nodes.length≤200∧g.Outs.length≤40
 ·rw [if_neg (by simp; omega),if_neg (by simp; omega)]
  have r:∀ s:Int→Option (Int⊕(((List (List Int))×Bool)⊕Unit)),s=(fun x=>Zi_L2 g x)→aR s 0=some (if g.Outs.all (fun x=>!(decide (x<0)||decide (x≥(g.Nodes.length:Int)))) then .inr () else .inl ([],false)):=by
   rintro _ rfl
   refine eO g.Outs (fun x=>Zi_L2 g x) (fun i=>i) _ _ _ (fun j J=>?_) ?_
   ·simp only [Zi_L2]
    rw [if_pos (by simp; omega),if_pos (by omega),bX (by unfold cB; omega)]
    cases (decide (ix g.Outs (j:Int)<0)||decide (ix g.Outs (j:Int)≥(g.Nodes.length:Int)))<;>rfl
   ·simp only [Zi_L2]
    rw [if_neg (by simp)]
  have M:g.Outs.all (fun x=>!(decide (x<0)||decide (x≥(g.Nodes.length:Int))))=decide (∀ o∈g.Outs,0≤o∧o<(g.Nodes.length:Int)):=by
   rw [Bool.eq_iff_iff]
   simp only [List.all_eq_true,decide_eq_true_eq,Bool.not_eq_true',Bool.or_eq_false_iff,decide_eq_false_iff_not]
   exact ⟨fun h x F=>by have:=h x F; omega,fun h x F=>by have:=h x F; omega⟩
  have r:=r _ rfl
  rw [M] at r
  rcases oV (ins:=[]) L c.1 g.Nodes.length 0 [] (by omega) rfl (fun t h=>by simp at h) (fun j J=>absurd J (Nat.not_lt_zero _)) with ⟨l,h1,h2,B,m,O⟩|⟨⟨e,h1,h2⟩,I,B,m⟩
  ·have a:aR (fun s:List Tensor×Int×Int=>Z9_L1 g [] true s.1 s.2.1 s.2.2) ([],0,0)=some (.inr (l,0)):=h1
   have E:aR (fun s:List (List Int)×Int=>Zi_L1 g s.1 s.2) ([],0)=some (.inr (l.map Tensor.Dims)):=h2
   rw [a,E]
   simp only [Option.bind_some,Z9_J5,Zi_J1,Zi_J2]
   rw [jZ L.o,r]
   simp only [Option.bind_some]
   by_cases q:∀ o∈g.Outs,0≤o∧o<(g.Nodes.length:Int)
   ·rw [decide_eq_true q]
    exact ⟨_,_,_,rfl,rfl,fun _=>⟨rfl,B,m,O,c.1,c.2,q⟩⟩
   ·rw [decide_eq_false q]
    exact ⟨_,_,_,rfl,rfl,fun h=>by cases h⟩
  ·have a:aR (fun s:List Tensor×Int×Int=>Z9_L1 g [] true s.1 s.2.1 s.2.2) ([],0,0)=some (.inl e):=h1
   have u:aR (fun s:List (List Int)×Int=>Zi_L1 g s.1 s.2) ([],0)=some (.inl I):=B
   rw [a,u]
   obtain ⟨Y,Z⟩:=e
   obtain ⟨U,T⟩:=I
   dsimp only at h2 m
   subst h2; subst m
   exact ⟨_,_,_,rfl,rfl,fun h=>by cases h⟩
 ·rw [if_pos (by simp; omega),if_pos (by simp; omega)]
  exact ⟨_,_,_,rfl,rfl,fun h=>by cases h⟩
def At:Nat:=9223372036854775807
def fV (n:Nat)(a:Int):Int:=if a<(n:Int) then -1 else a - n
def mP {α:Type}(n:α→Nat)(xs:List α):Nat:=xs.length+(xs.map n).sum
theorem jD {a b:Nat}{e:Int}(g:0≤e):fV (a+b) e=if fV a e<0 then -1 else fV b (fV a e):=by
 unfold fV
 (repeat' split)<;>omega
theorem iZ {a:Nat}{b:Int}(e:0≤b)(h:¬ fV a b<0):0≤fV a b∧fV a b≤b∧fV a b=b - a:=by
 unfold fV at *
 split at h<;>rename_i q
 ·exact absurd (by decide) h
 ·rw [if_neg q]; omega
theorem vl {n:Nat}{a:Int}(b:n≤At)(e:0≤a)(h1:a≤1048576) :
  (if (decide ((aH (a - (n:Int)))<(0:Int)))=true then (some (-1:Int)) else (some (aH (a - (n:Int)))))=some (fV n a):=by
 unfold At at b
 rw [bA (by omega) (by omega)]
 unfold fV
 by_cases h:a<(n:Int)
 ·rw [if_pos (by simp; omega),if_pos h]
 ·rw [if_neg (by simp; omega),if_neg h]
theorem vm {α:Type}[Inhabited α](xs:List α)(n:α→Nat)(G:xs.length<cB)(g:α→Int→Option Int)(f:Int×Int→Option ((Int×Int)⊕(Int⊕Int)))
  (D:∀ x∈xs,∀ a:Int,0≤a→a≤1048576→g x a=some (fV (n x) a))
  (B:∀ a i,f (a,i)=if (decide (i<(xs.length:Int)))=true then (if (0≤i∧i<(xs.length:Int)) then (g (ix xs i) a).bind fun (r:Int)=>if (decide (r<(0:Int)))=true then (some (.inr (.inl (-1:Int)))) else (some (.inl (r,(aH (i+(1:Int)))))) else none) else (some (.inr (.inr a))))
  (a:Int) (q:0≤a) (h1:a≤1048576) :
  ((aR f (a,0)).bind fun e=>match e with | .inl e=>some e | .inr e=>some e)=some (fV ((xs.map n).sum) a):=by
 rw [j9 (S:=Int) xs (fun _ s=>0≤s∧s≤1048576) f (fun s i=>(s,i)) (fun s _ x=>if fV (n x) s<0 then .inr (.inl (-1)) else .inl (fV (n x) s)) (fun s=>.inr s) ?_ ?_ ?_ a ⟨q,h1⟩]
 ·rw [aY]
  clear B G
  generalize 0=k
  induction xs generalizing a k with
  | nil=>show some a=some (fV 0 a); unfold fV; rw [if_neg (by omega)]; congr 1; simp
  | cons x xs ih =>
   unfold qv
   rw [List.map_cons,List.sum_cons,jD q]
   by_cases h:fV (n x) a<0
   ·simp only [h,if_true]
   ·obtain ⟨u,F,_⟩:=iZ q h
    simp only [h,if_false]
    exact ih (fun y E=>D y (by simp [E])) _ u (by omega) _
 ·rintro s k ⟨j,l⟩ m
  rw [B,if_pos (by simpa using m),if_pos (by omega),D _ (bE m) s j l,aY,bX (by omega)]
  by_cases h:fV (n (ix xs (k:Int))) s<0
  ·simp [h]
  ·simp [h]
 ·rintro s k s' ⟨j,l⟩ m b
  split at b
  ·cases b
  ·rename_i h
   obtain ⟨u,F,_⟩:=iZ j h
   injection b with b
   subst b
   exact ⟨u,by omega⟩
 ·rintro s ⟨j,l⟩
  rw [B,if_neg (by simp)]
theorem vn {α:Type}[Inhabited α]{xs:List α}{n:α→Nat}{a:Int}{x:Int→Option Int}(j:xs.length≤At)(i:0≤a)(h1:a≤1048576)(l:¬ fV xs.length a<0→x (fV xs.length a)=some (fV ((xs.map n).sum) (fV xs.length a))) :
  (if (decide ((aH (a - (xs.length:Int)))<(0:Int)))=true then (some (-1:Int)) else x (aH (a - (xs.length:Int))))=some (fV (mP n xs) a):=by
 have b:=j
 unfold At at b
 unfold mP
 rw [jD i]
 have e:aH (a - (xs.length:Int))=a - xs.length:=bA (by omega) (by omega)
 rw [e]
 by_cases h:a<(xs.length:Int)
 ·rw [if_pos (by simp; omega),if_pos (by unfold fV; rw [if_pos h]; omega)]
 ·have g:fV xs.length a=a - xs.length:=by unfold fV; rw [if_neg h]
  rw [if_neg (by simp; omega),if_neg (by rw [g]; omega)]
  have:=l (by rw [g]; omega)
  rw [g] at this ⊢
  exact this
theorem nY {k:Nat}{n:Nat}(h:k<n):(0:Int)≤(k:Int)∧(k:Int)<(n:Int):=⟨by omega,by omega⟩
theorem xN {k:Nat}{n:Nat}(h:k<n):(decide ((k:Int)<(n:Int)))=true:=by simpa using h
theorem pR {n:Nat}:(decide ((n:Int)<(n:Int)))=false:=by simp
theorem nZ (xs ys:List Int)(h:xs.length=ys.length):((List.range xs.length).all fun k=>ix xs (k:Int)==ix ys (k:Int))=decide (xs=ys):=by
 by_cases e:xs=ys
 ·subst e; simp
 ·simp only [e,decide_false]
  rw [List.all_eq_false]
  refine Classical.byContradiction fun b=>e ?_
  refine List.ext_getElem h fun k h1 h2=>?_
  refine Classical.byContradiction fun a=>b ⟨k,by simpa using h1,?_⟩
  rw [bR h1,bR h2]
  simpa using a
theorem vo (xs ys:List Int)(h:xs.length<cB):Z01 xs ys=some (decide (xs=ys)):=by
 unfold Z01
 by_cases hl:xs.length=ys.length
 ·rw [if_neg (by simp [hl])]
  rw [ja xs.length (fun s:Int=>Z01_L1 xs ys s) (fun i=>i) (fun k=>ix xs (k:Int)==ix ys (k:Int)) (.inl false) (.inr ()) (fun k a=>by
   unfold Z01_L1
   rw [if_pos (xN a),if_pos (nY a),if_pos (nY (hl▸a)),bX (by omega)]
   by_cases hq:ix xs (k:Int)=ix ys (k:Int)
   ·simp [hq]
   ·simp [hq]) (by unfold Z01_L1; simp only [pR,Bool.false_eq_true,if_false])]
  rw [nZ xs ys hl,aY]
  by_cases e:xs=ys<;>simp [e,Z01_J1]
 ·rw [if_pos (by simp; omega)]
  have:xs≠ys:=fun e=>hl (by rw [e])
  simp [this]
theorem oX (xs ys:List Int):Zw xs ys=Z01 xs ys:=rfl
theorem BA {α:Type}[Inhabited α](x:Option α):bQ true x=x:=rfl
def Rg (g:List Bool)(n:Nat)(gl:List Int):Prop:=g.length=n∧∀ j:Nat,j<n→ix g (j:Int)=decide ((j:Int)∈gl)
theorem Rg.set {g:List Bool}{n:Nat}{gl:List Int}(h:Rg g n gl){b:Int}(m:0≤b)(h1:b<(n:Int)):Rg (g.set b.toNat true) n (gl++[b]):=by
 obtain ⟨l,q⟩:=h
 refine ⟨by simpa using l,fun j i=>?_⟩
 obtain ⟨c,rfl⟩:=Int.eq_ofNat_of_zero_le m
 have a:j<(g.set (c:Int).toNat true).length:=by simpa [l] using i
 rw [bR a,List.getElem_set]
 by_cases e:(c:Int).toNat=j
 ·rw [if_pos e]; have:c=j:=by omega
  subst this; simp
 ·rw [if_neg e]
  have h2:=q j i
  rw [bR (by omega)] at h2
  rw [h2]
  have:¬ (j:Int)=(c:Int):=by omega
  simp [this]
theorem oY {α T:Type}[Inhabited α](xs:List α)(z:α)(f:T→Option (T⊕List α))(mk:List α→Int→T)
  (u:∀ (ys:List α) (k:Nat),ys.length=xs.length→k<xs.length→f (mk ys (k:Int))=some (.inl (mk (ys.set k (ix xs (k:Int))) ((k+1:Nat):Int))))
  (g:∀ ys:List α,ys.length=xs.length→f (mk ys (xs.length:Int))=some (.inr ys)):aR f (mk (List.replicate (xs.length:Int).toNat z) 0)=some xs:=by
 rw [Int.toNat_natCast]
 rw [j9 (S:=List α) xs (fun _ s=>s.length=xs.length) f mk (fun s k x=>.inl (s.set k x)) (fun s=>s) (fun s k q a=>u s k q a) (fun s k s' q a h=>by injection h with h; subst h; simpa using q) g _ (by simp)]
 congr 1
 have r:∀ (m k:Nat) (ys:List α),k+m=xs.length→ys.length=xs.length→(∀ j,j<k→ys[j]?=xs[j]?)→qv (R:=List α) (fun s k x=>.inl (s.set k x)) (fun s=>s) (xs.drop k) k ys=xs:=by
  intro m
  induction m with
  | zero =>
   intro k ys a g i
   have a:k=xs.length:=by omega
   subst a
   rw [List.drop_length]
   show ys=xs
   refine List.ext_getElem? fun j=>?_
   by_cases l:j<xs.length
   ·exact i j l
   ·rw [List.getElem?_eq_none (by omega),List.getElem?_eq_none (by omega)]
  | succ m ih =>
   intro k ys a g i
   have b:k<xs.length:=by omega
   rw [List.drop_eq_getElem_cons b]
   unfold qv
   refine ih (k+1) _ (by omega) (by simpa using g) (fun j l=>?_)
   rw [List.getElem?_set]
   by_cases e:k=j
   ·subst e; rw [if_pos rfl,if_pos (by omega)]; exact (List.getElem?_eq_getElem b).symm
   ·rw [if_neg e]; exact i j (by omega)
 simpa using r xs.length 0 (List.replicate xs.length z) (by omega) (by simp) (fun j l=>by omega)
theorem Ad {α:Type}{n:Nat}{z:α}{k:Nat}(h:k<n):(0:Int)≤(k:Int)∧(k:Int)<((List.replicate (n:Int).toNat z).length:Int):=by
 rw [List.length_replicate,Int.toNat_natCast]; omega
theorem n' (xs:List Int)(h:xs.length≤1048576):Zw xs xs=some true:=by
 rw [oX,vo _ _ (by unfold cB; omega)]; simp
theorem vq {α:Type}[Inhabited α](xs:List α)(f:Int→Option (Int⊕(Bool⊕Unit)))(h:xs.length≤1048576)(e:α→α→Option Bool)(g:∀ x∈xs,e x x=some true)
  (b:∀ i,f i=if (decide (i<(xs.length:Int)))=true then (if (0≤i∧i<(xs.length:Int)) then if (0≤i∧i<(xs.length:Int)) then (e (ix xs i) (ix xs i)).bind fun (r:Bool)=>if (!r)=true then (some (.inr (.inl false))) else (some (.inl (aH (i+(1:Int))))) else none else none) else (some (.inr (.inr ())))) :
  aR f 0=some (.inr ()):=by
 rw [eO xs f (fun i=>i) (fun _=>true) (.inl false) (.inr ()) (fun k a=>by
  rw [b,if_pos (xN a),if_pos (nY a),if_pos (nY a),g _ (bE a),aY,bX (by unfold cB; omega)]; rfl) (by rw [b]; simp only [pR,Bool.false_eq_true,if_false])]
 simp
theorem mQ (x:Int):(x != x)=false:=by simp
def BB:Nat:=4611686018427387904
theorem lH {α:Type}[Inhabited α]{ys:List α}{k:Nat}{v:α}(h:k<ys.length):ix (ys.set k v) (k:Int)=v:=by
 rw [bR (by simpa using h)]; simp
theorem nq {α:Type}[Inhabited α]{ys:List α}{k j:Nat}{v:α}(h:k≠j):ix (ys.set k v) (j:Int)=ix ys (j:Int):=by
 simp [ix,List.getD_eq_getElem?_getD,List.getElem?_set,h]
def lY {α:Type}(n:α→Nat)(xs:List α):Nat:=(xs.map n).sum
theorem mR {α:Type}(n:α→Nat)(x:α)(t:List α):lY n (x::t)=n x+lY n t:=by simp [lY]
theorem tP {α:Type}(n:α→Nat){xs:List α}{k:Nat}(h:k<xs.length):lY n (xs.drop k)=n xs[k]+lY n (xs.drop (k+1)):=by
 rw [List.drop_eq_getElem_cons h,mR]
theorem nr {α T U:Type}[Inhabited α](xs:List α)(n:α→Nat)(g:α→Nat→α)(f:T→Option (T⊕(Int×List α)))(mk:List α→Int→Int→T)
  (L:∀ (ys:List α) (k i:Nat),i<xs.length→ys.length=xs.length→ix ys (i:Int)=ix xs (i:Int)→k+n (ix xs (i:Int))≤BB→f (mk ys (k:Int) (i:Int))=some (.inl (mk (ys.set i (g (ix xs (i:Int)) k)) ((k+n (ix xs (i:Int)):Nat):Int) ((i+1:Nat):Int))))
  (O:∀ ys k,f (mk ys k (xs.length:Int))=some (.inr (k,ys))) (k:Nat) (F:k+lY n xs≤BB) :
  ∃ ys,aR f (mk xs (k:Int) 0)=some (((k+lY n xs:Nat):Int),ys)∧ys.length=xs.length ∧
   ∀ (b:U→Option (U⊕(Int⊕Int))) (a:Int→Int→U),(∀ (k i:Nat),i<xs.length→k+n (ix xs (i:Int))≤BB→ix ys (i:Int)=g (ix xs (i:Int)) k→b (a (k:Int) (i:Int))=some (.inl (a ((k+n (ix xs (i:Int)):Nat):Int) ((i+1:Nat):Int)))) →
    (∀ k,b (a k (xs.length:Int))=some (.inr (.inr k)))→aR b (a (k:Int) 0)=some (.inr ((k+lY n xs:Nat):Int)):=by
 have s:∀ (m i k:Nat) (ys:List α),i+m=xs.length→ys.length=xs.length→(∀ j,i≤j→j<xs.length→ix ys (j:Int)=ix xs (j:Int))→k+lY n (xs.drop i)≤BB →
   ∃ zs,aR f (mk ys (k:Int) (i:Int))=some (((k+lY n (xs.drop i):Nat):Int),zs)∧zs.length=xs.length∧(∀ j,j<i→ix zs (j:Int)=ix ys (j:Int)) ∧
    ∀ (b:U→Option (U⊕(Int⊕Int))) (a:Int→Int→U),(∀ (k j:Nat),i≤j→j<xs.length→k+n (ix xs (j:Int))≤BB→ix zs (j:Int)=g (ix xs (j:Int)) k→b (a (k:Int) (j:Int))=some (.inl (a ((k+n (ix xs (j:Int)):Nat):Int) ((j+1:Nat):Int)))) →
     (∀ k,b (a k (xs.length:Int))=some (.inr (.inr k)))→aR b (a (k:Int) (i:Int))=some (.inr ((k+lY n (xs.drop i):Nat):Int)):=by
  intro m
  induction m with
  | zero =>
   intro i k ys r l _ _
   have r:i=xs.length:=by omega
   subst r
   rw [List.drop_length]
   exact ⟨ys,dB (O ys k),l,fun j _=>rfl,fun b a _ h2=>dB (h2 k)⟩
  | succ m ih =>
   intro i k ys r l D hb
   have e:i<xs.length:=by omega
   have J:=tP n e
   rw [← bR e] at J
   have q:=L ys k i e l (D i (Nat.le_refl _) e) (by omega)
   obtain ⟨zs,E,G,z3,z4⟩:=ih (i+1) (k+n (ix xs (i:Int))) (ys.set i (g (ix xs (i:Int)) k)) (by omega) (by simpa using l) (fun j h1 h2=>by
    rw [nq (by omega)]; exact D j (by omega) h2) (by omega)
   have h:k+n (ix xs (i:Int))+lY n (xs.drop (i+1))=k+lY n (xs.drop i):=by omega
   rw [h] at E z4
   refine ⟨zs,by rw [eF q]; exact E,G,fun j Y=>?_,fun b a h1 h2=>?_⟩
   ·rw [z3 j (by omega),nq (by omega)]
   ·have I:ix zs (i:Int)=g (ix xs (i:Int)) k:=by rw [z3 i (by omega),lH (by omega)]
    rw [eF (h1 k i (Nat.le_refl _) e (by omega) I)]
    exact z4 b a (fun k j Z=>h1 k j (by omega)) h2
 obtain ⟨ys,u,M,_,B⟩:=s xs.length 0 k xs (by omega) rfl (fun _ _ _=>rfl) (by simpa using F)
 rw [List.drop_zero] at u B
 exact ⟨ys,u,M,fun b a h1 h2=>B b a (fun k j _=>h1 k j) h2⟩
theorem wn {k:Nat}(h:k+1≤BB):aH ((k:Int)+1)=((k+1:Nat):Int):=by
 unfold BB at h; rw [bA (by omega) (by omega)]; omega
theorem qV {α:Type}(c:Nat)(xs:List α):lY (fun _=>c) xs=c*xs.length:=by
 induction xs with
 | nil=>simp [lY]
 | cons x t ih=>rw [mR,ih,List.length_cons,Nat.mul_succ]; omega
noncomputable def u5 (xs:List Int)(k:Nat):List Int:=((Zu xs (k:Int)).getD default).2
theorem wi {n k:Nat}(a:n≤1048576)(h:k<n):aH ((k:Int)+1)=((k+1:Nat):Int):=bX (by unfold cB; omega)
theorem jf (xs:List Int)(k:Nat)(j:xs.length≤1048576)(h:k+xs.length≤BB):Zu xs (k:Int)=some (((k+xs.length:Nat):Int),u5 xs k)∧Z0d (u5 xs k) (k:Int)=some ((k+xs.length:Nat):Int):=by
 obtain ⟨ys,l,m,g⟩:=nr (U:=Int×Int) xs (fun _=>1) (fun _ k=>(k:Int)) (fun s:(List Int)×Int×Int=>Zu_L1 xs s.1 s.2.1 s.2.2) (fun ys k i=>(ys,k,i)) (fun ys k i a u B b=>by
  show Zu_L1 xs ys (k:Int) (i:Int)=_
  unfold Zu_L1
  rw [if_pos (xN a),if_pos (nY a),wi j a,wn b,Int.toNat_natCast]) (fun ys k=>by
  show Zu_L1 xs ys k (xs.length:Int)=_
  unfold Zu_L1; simp only [pR,Bool.false_eq_true,if_false]) k (by rw [qV]; omega)
 rw [qV,Nat.one_mul] at l g
 have e:Zu xs (k:Int)=some (((k+xs.length:Nat):Int),ys):=by
  unfold Zu; rw [l,aY]; rfl
 have r:u5 xs k=ys:=by unfold u5; rw [e]; rfl
 rw [r]
 refine ⟨e,?_⟩
 unfold Z0d
 rw [g (fun s:Int×Int=>Z0d_L1 ys s.1 s.2) (fun k i=>(k,i)) (fun k i a b q=>by
  show Z0d_L1 ys (k:Int) (i:Int)=_
  unfold Z0d_L1
  rw [if_pos (xN (by omega)),if_pos (nY (by omega)),q,mQ,wi j a,wn b]; rfl) (fun k=>by
  show Z0d_L1 ys k (xs.length:Int)=_
  rw [← m]
  unfold Z0d_L1; simp only [pR,Bool.false_eq_true,if_false])]
 rfl
theorem xO {α:Type}(n:α→Nat)(M:Nat)(xs:List α)(h:∀ x∈xs,n x≤M):lY n xs≤xs.length*M:=by
 induction xs with
 | nil=>simp [lY]
 | cons x t ih =>
  rw [mR,List.length_cons,Nat.succ_mul]
  have:=h x (by simp)
  have:=ih (fun y a=>h y (by simp [a]))
  omega
theorem xP {α:Type}(n:α→Nat)(M:Nat)(xs:List α)(h:∀ x∈xs,n x≤M)(a:xs.length≤1048576):lY n xs≤1048576*M:=Nat.le_trans (xO n M xs h) (Nat.mul_le_mul_right _ a)
theorem tQ {α:Type}(n:α→Nat)(xs:List α):xs.length≤mP n xs:=by unfold mP; omega
theorem tR {α:Type}(n:α→Nat){xs:List α}{x:α}(h:x∈xs):n x≤mP n xs:=by
 have:n x≤(xs.map n).sum:=by
  induction xs with
  | nil=>cases h
  | cons y t ih =>
   rcases List.mem_cons.1 h with rfl | h
   ·simp
   ·have:=ih h; simp; omega
 unfold mP; omega
theorem tS {a:Nat}{b:Int}(h:fV a b<0)(e:0≤b):fV a b = -1:=by
 unfold fV at *
 split at h
 ·rw [if_pos (by assumption)]
 ·omega
theorem mS {f:Int×aN→Option ((Int×aN)⊕aN)}(b:∀ (n:Nat) (s:aN),0<n→n<10000000000000000000→s.length≤100→∃ c:aN,c.length=1∧f ((n:Int),s)=some (.inl (((n / 10:Nat):Int),c++s)))(a:∀ s,f (0,s)=some (.inr s)):∀ (m n:Nat) (s:aN),n<10 ^ m→m≤19→s.length+m≤100→∃ r,aR f ((n:Int),s)=some r∧r.length≤s.length+m
 | 0,n,s,h,hm,hs=>by
  have:n=0:=by simpa using h
  subst this
  exact ⟨s,dB (a s),by omega⟩
 | m+1,n,s,h,hm,hs=>by
  by_cases e:n=0
  ·subst e; exact ⟨s,dB (a s),by omega⟩
  ·have j:10 ^ (m+1)≤10 ^ 19:=Nat.pow_le_pow_right (by omega) hm
   obtain ⟨c,h1,h2⟩:=b n s (by omega) (by omega) (by omega)
   obtain ⟨r,g,i⟩:=mS b a m (n / 10) (c++s) (by rw [Nat.pow_succ] at h; omega) (by omega) (by simp; omega)
   exact ⟨r,by rw [eF h2]; exact g,by simp at i; omega⟩
theorem tT (k:Nat)(h:k≤BB):∃ s,Z0o (k:Int)=some s:=by
 unfold Z0o
 by_cases c:k=0
 ·rw [if_pos (by simp; omega)]; exact ⟨_,rfl⟩
 ·rw [if_neg (by simp; omega)]
  obtain ⟨r,b,e⟩:=mS (f:=fun s:Int×aN=>Z0o_L1 s.1 s.2) (fun n s l g j=>by
   have i:aH ((n:Int).tdiv 10)=((n / 10:Nat):Int):=by
    rw [Int.tdiv_eq_ediv_of_nonneg (by omega),bA (by omega) (by omega)]; omega
   have a:(nz [IntKind.wrap .u8 (aH (48+(n:Int).tmod 10))]).length=1:=by simp [nz]
   refine ⟨nz [IntKind.wrap .u8 (aH (48+(n:Int).tmod 10))],a,?_⟩
   simp only [Z0o_L1]
   rw [if_pos (by simp; omega),if_pos (by rw [a]; omega),i]) (fun s=>by simp only [Z0o_L1]; rfl) 19 k [] (by unfold BB at h; omega) (by omega) (by simp)
  rw [b]
  simp only [Option.bind_some,Z0o_J1]
  rw [if_pos (by simp [str8] at e ⊢; omega)]
  exact ⟨_,rfl⟩
noncomputable def BC (k:Nat):aN:=(Z0o (k:Int)).getD default
theorem xQ {k:Nat}(h:k≤BB:=by omega):Z0o (k:Int)=some (BC k):=by
 obtain ⟨s,a⟩:=tT k h
 unfold BC; rw [a]; rfl
def mT (xs:(List Int)):Prop:=xs.length≤maxLen
def jF (xs:(List Int)):Prop:=xs.length≤1048576
theorem jh {xs:(List Int)}(h:xs.length≤1048576):jF xs:=h
theorem iQ {xs:(List Int)}{a:Int}(e:mT xs)(b:0≤a)(h1:a≤1048576):Z1h xs a=some (fV xs.length a):=vl (Nat.le_trans e (by decide)) b h1
theorem l2 (xs:(List Int))(h:jF xs):Z07 xs=some xs:=by
 unfold Z07
 rw [if_pos (by have:xs.length≤1048576:=h; omega),oY xs 0 (fun s:(List Int)×Int=>Z07_L1 xs s.1 s.2) (fun s i=>(s,i)) (fun ys k e a=>by
  have b:xs.length≤1048576:=h
  show Z07_L1 xs ys (k:Int)=_
  unfold Z07_L1
  rw [if_pos (xN a),if_pos (nY a),if_pos (Ad a),bX (by unfold cB; omega)]; rfl) (fun ys _=>by
  show Z07_L1 xs ys (xs.length:Int)=_
  unfold Z07_L1; simp only [pR,Bool.false_eq_true,if_false])]
 rfl
theorem l3 (xs:(List Int))(h:jF xs):Zw xs xs=some true:=n' xs h
theorem rC (xs:(List Int))(k:Nat)(h:jF xs)(a:k+xs.length≤BB):Zu xs (k:Int)=some (((k+xs.length:Nat):Int),u5 xs k)∧Z0d (u5 xs k) (k:Int)=some ((k+xs.length:Nat):Int):=jf xs k h a
def Ae (x:aN):Prop:=x.length≤maxLen
def Af (x:aN):Prop:=x.length≤1048576
structure Cap70 (x:Node):Prop where
 Args:mT x.Args
 Dims:mT x.Dims
 Ints:mT x.Ints
 Form:Ae x.Form
 Data:mT x.Data
structure SmNode (x:Node):Prop where
 Args:jF x.Args
 Dims:jF x.Dims
 Ints:jF x.Ints
 Form:Af x.Form
 Data:jF x.Data
def km (x:Node):Nat:=x.Args.length+x.Dims.length+x.Ints.length+x.Form.length+x.Data.length
theorem rD {x:Node}(h:km x≤1048576):SmNode x:=by
 unfold km at h
 exact ⟨jh (by omega),jh (by omega),jh (by omega),show _≤_ by omega,jh (by omega)⟩
theorem rE {x:Node}{a:Int}(D:Cap70 x)(b:0≤a)(h1:a≤1048576):Z2i x a=some (fV (km x) a):=by
 obtain ⟨s,u,q,E,G⟩:=D
 unfold Z2i km
 rw [jD b,jD b,jD b,jD b]
 rw [iQ s b (by omega),aY]
 by_cases h2:fV (x.Args.length) a<0
 ·simp [h2]
 ·obtain ⟨j,T,B⟩:=iZ b h2
  rw [if_neg (by simpa using h2),if_neg h2]
  rw [iQ u j (by omega),aY]
  by_cases h3:fV (x.Dims.length) (fV (x.Args.length) a)<0
  ·simp [h3]
  ·obtain ⟨i,I,r⟩:=iZ j h3
   rw [if_neg (by simpa using h3),if_neg h3]
   rw [iQ q i (by omega),aY]
   by_cases h4:fV (x.Ints.length) (fV (x.Dims.length) (fV (x.Args.length) a))<0
   ·simp [h4]
   ·obtain ⟨m,M,l⟩:=iZ i h4
    rw [if_neg (by simpa using h4),if_neg h4]
    have h:aH (fV (x.Ints.length) (fV (x.Dims.length) (fV (x.Args.length) a)) - (x.Form.length:Int))=fV (x.Ints.length) (fV (x.Dims.length) (fV (x.Args.length) a)) - (x.Form.length:Int):=by
     have:x.Form.length≤9223372036854775807:=Nat.le_trans E (by decide)
     exact bA (by omega) (by omega)
    by_cases h5:fV (x.Form.length) (fV (x.Ints.length) (fV (x.Dims.length) (fV (x.Args.length) a)))<0
    ·have:fV (x.Ints.length) (fV (x.Dims.length) (fV (x.Args.length) a))<(x.Form.length:Int):=by unfold fV at h5; split at h5<;>omega
     rw [h,if_pos (by simp; omega)]
     simp [h5]
    ·obtain ⟨g,J,e⟩:=iZ m h5
     rw [h,← e,if_neg (by simpa using h5),if_neg h5]
     rw [iQ G g (by omega),aY]
     by_cases h6:fV (x.Data.length) (fV (x.Form.length) (fV (x.Ints.length) (fV (x.Dims.length) (fV (x.Args.length) a))))<0
     ·rw [if_pos (by simpa using h6),tS h6 g]
     ·obtain ⟨L,O,F⟩:=iZ g h6
      rw [if_neg (by simpa using h6)]
theorem vr (x:Node)(h:SmNode x):Z2v x=some x:=by
 unfold Z2v
 rw [l2 _ h.Args,aY,l2 _ h.Dims,aY,l2 _ h.Ints,aY,l2 _ h.Data,aY]
theorem vt (x:Node)(h:SmNode x):Z2h x x=some true:=by
 unfold Z2h
 rw [l3 _ h.Args,aY,l3 _ h.Dims,aY,l3 _ h.Ints,aY,l3 _ h.Data,aY]
 simp
def tU (xs:(List Node)):Prop:=xs.length≤maxLen∧∀ x∈xs,Cap70 x
def l4 (xs:(List Node)):Prop:=xs.length≤1048576∧∀ x∈xs,SmNode x
theorem pS {xs:(List Node)}(h:mP km xs≤1048576):l4 xs:=⟨Nat.le_trans (tQ _ _) h,fun x a=>rD (Nat.le_trans (tR _ a) h)⟩
theorem pT {xs:(List Node)}{a:Int}(g:tU xs)(b:0≤a)(h1:a≤1048576):Z18 xs a=some (fV (mP km xs) a):=by
 unfold Z18
 refine vn (x:=fun l=>(aR (fun s:Int×Int=>Z18_L1 xs s.1 s.2) (l,(0:Int))).bind fun e=>match e with | .inl e=>some e | .inr e=>Z18_J1 e) (Nat.le_trans g.1 (by decide)) b h1 (fun h=>?_)
 obtain ⟨j,q,m⟩:=iZ b h
 exact vm xs km (Nat.lt_of_le_of_lt (show xs.length≤1048576 by unfold fV at h; split at h<;>omega) (by decide)) Z2i _ (fun x i a=>rE (g.2 x i)) (fun _ _=>rfl) _ j (by omega)
theorem tV (xs:(List Node))(h:l4 xs):Z0p xs=some xs:=by
 unfold Z0p
 rw [if_pos (by have:xs.length≤1048576:=h.1; omega),oY xs zT54.z (fun s:(List Node)×Int=>Z0p_L1 xs s.1 s.2) (fun s i=>(s,i)) (fun ys k e a=>by
  have b:xs.length≤1048576:=h.1
  show Z0p_L1 xs ys (k:Int)=_
  unfold Z0p_L1
  rw [if_pos (xN a),if_pos (nY a),vr _ (h.2 _ (bE a)),aY,if_pos (Ad a),bX (by unfold cB; omega)]; rfl) (fun ys _=>by
  show Z0p_L1 xs ys (xs.length:Int)=_
  unfold Z0p_L1; simp only [pR,Bool.false_eq_true,if_false])]
 rfl
theorem tW (xs:(List Node))(h:l4 xs):Z1d xs xs=some true:=by
 unfold Z1d
 rw [mQ,vq xs (fun s:Int=>Z1d_L1 xs xs s) h.1 Z2h (fun x a=>vt x (h.2 x a)) (fun _=>rfl)]; rfl
def hU (x:Node):Nat:=1+x.Args.length+x.Dims.length+x.Ints.length+1+x.Data.length
noncomputable def tX (x:Node)(k:Nat):Node:=⟨((k:Nat):Int),u5 x.Args (k+1),u5 x.Dims (k+1+x.Args.length),u5 x.Ints (k+1+x.Args.length+x.Dims.length),BC (k+1+x.Args.length+x.Dims.length+x.Ints.length),u5 x.Data (k+1+x.Args.length+x.Dims.length+x.Ints.length+1)⟩
noncomputable def o0 (xs:(List Node))(k:Nat):(List Node):=((Z0m xs (k:Int)).getD default).2
theorem pU (xs:(List Node))(k:Nat)(h:l4 xs)(r:k+lY hU xs≤BB):Z0m xs (k:Int)=some (((k+lY hU xs:Nat):Int),o0 xs k):=by
 obtain ⟨ys,q,u,B⟩:=nr (U:=Int×Int) xs hU tX (fun s:(List Node)×Int×Int=>Z0m_L1 xs s.1 s.2.1 s.2.2) (fun ys k i=>(ys,k,i)) (fun ys k i j D g m=>by
  show Z0m_L1 xs ys (k:Int) (i:Int)=_
  have b:=h.2 _ (bE j)
  have a:i<ys.length:=by omega
  unfold hU at m
  unfold Z0m_L1 tX hU
  generalize ix xs (i:Int)=x at *
  rw [if_pos (xN j),if_pos (nY j),wi h.1 j]
  (try simp only [jt,Int.toNat_natCast,lH a,List.set_set,g])
  rw [wn (by omega)]
  (try simp only [jt,Int.toNat_natCast,lH a,List.set_set,g])
  rw [(jf _ _ b.Args (by omega)).1,aY]
  (try simp only [jt,Int.toNat_natCast,lH a,List.set_set,g])
  rw [(jf _ _ b.Dims (by omega)).1,aY]
  (try simp only [jt,Int.toNat_natCast,lH a,List.set_set,g])
  rw [(jf _ _ b.Ints (by omega)).1,aY]
  (try simp only [jt,Int.toNat_natCast,lH a,List.set_set,g])
  rw [xQ,aY,wn (by omega)]
  (try simp only [jt,Int.toNat_natCast,lH a,List.set_set,g])
  rw [(jf _ _ b.Data (by omega)).1,aY]
  (try simp only [jt,Int.toNat_natCast,lH a,List.set_set,g])
  rw [show k+1+x.Args.length+x.Dims.length+x.Ints.length+1+x.Data.length=k+(1+x.Args.length+x.Dims.length+x.Ints.length+1+x.Data.length) by omega]) (fun ys k=>by
  show Z0m_L1 xs ys k (xs.length:Int)=_
  unfold Z0m_L1; simp only [pR,Bool.false_eq_true,if_false]) k r
 have e:Z0m xs (k:Int)=some (((k+lY hU xs:Nat):Int),ys):=by
  unfold Z0m; rw [q,aY]; rfl
 have l:o0 xs k=ys:=by unfold o0; rw [e]; rfl
 rw [l,e]
structure Cap25 (x:Graph):Prop where
 Nodes:tU x.Nodes
 Outs:mT x.Outs
structure SmGraph (x:Graph):Prop where
 Nodes:l4 x.Nodes
 Outs:jF x.Outs
def lr (x:Graph):Nat:=mP km x.Nodes+x.Outs.length
theorem pV {x:Graph}(h:lr x≤1048576):SmGraph x:=by
 unfold lr at h
 exact ⟨pS (by omega),jh (by omega)⟩
theorem pW {x:Graph}{a:Int}(i:Cap25 x)(e:0≤a)(h1:a≤1048576):Z2u x a=some (fV (lr x) a):=by
 obtain ⟨h,l⟩:=i
 unfold Z2u lr
 rw [jD e]
 rw [pT h e (by omega),aY]
 by_cases h2:fV (mP km x.Nodes) a<0
 ·simp [h2]
 ·obtain ⟨b,r,g⟩:=iZ e h2
  rw [if_neg (by simpa using h2),if_neg h2]
  rw [iQ l b (by omega),aY]
  by_cases h3:fV (x.Outs.length) (fV (mP km x.Nodes) a)<0
  ·rw [if_pos (by simpa using h3),tS h3 b]
  ·obtain ⟨m,q,j⟩:=iZ b h3
   rw [if_neg (by simpa using h3)]
theorem mU (x:Graph)(h:SmGraph x):Z19 x=some x:=by
 unfold Z19
 rw [tV _ h.Nodes,aY,l2 _ h.Outs,aY]
theorem tY (x:Graph)(h:SmGraph x):Z2g x x=some true:=by
 unfold Z2g
 rw [tW _ h.Nodes,aY,l3 _ h.Outs,aY]
 simp
theorem pX (x:Graph)(k:Nat)(h:SmGraph x)(a:k+(lY hU x.Nodes+x.Outs.length)≤BB):∃ r,Z24 x (k:Int)=some (((k+lY hU x.Nodes+x.Outs.length:Nat):Int),r):=by
 unfold Z24
 rw [(pU x.Nodes (k) h.Nodes (by omega)),aY,(rC x.Outs (k+lY hU x.Nodes) h.Outs (by omega)).1,aY]
 exact ⟨_,rfl⟩
theorem Ag {g:Graph}(h:SmGraph g):GC g:=by
 have b:(1048576:Nat)<cB:=by decide
 have a:=h.Nodes
 exact ⟨Nat.lt_of_le_of_lt a.1 b,Nat.lt_of_le_of_lt h.Outs b,fun n m=>Nat.lt_of_le_of_lt (a.2 n m).Args b,fun n m=>Nat.lt_of_le_of_lt (a.2 n m).Dims b,fun n m=>Nat.lt_of_le_of_lt (a.2 n m).Ints b,fun n m=>Nat.lt_of_le_of_lt (a.2 n m).Data b,fun n m=>(a.2 n m).Form⟩
theorem Ah {g:Graph}(h:¬ fV (lr g) 1048576<0):SmGraph g:=pV (by unfold fV at h; split at h<;>omega)
def oZ (p:Nat→Bool)(n:Nat):List Int:=((List.range n).filter p).map fun k:Nat=>(k:Int)
theorem ns (p:Nat→Bool)(n:Nat):oZ p (n+1)=if p n=true then oZ p n++[(n:Int)] else oZ p n:=by
 unfold oZ
 rw [List.range_succ,List.filter_append,List.map_append]
 by_cases h:p n=true<;>simp [h]
theorem p6 (p:Nat→Bool)(n:Nat):(oZ p n).length≤n:=by
 unfold oZ
 rw [List.length_map]
 have:=List.length_filter_le p (List.range n)
 simpa using this
theorem Ai {a:Graph}(b:SmGraph a):∃ (n:Nat) (r:(List Node)×(List Int)),Z24 a 1=some ((n:Int),r):=by
 have e:=b.Nodes
 have l:a.Outs.length≤1048576:=b.Outs
 have j:lY hU a.Nodes≤1048576*4194306:=xP hU 4194306 a.Nodes (fun x h=>by
  have:=e.2 x h
  have i:x.Args.length≤1048576:=this.Args
  have m:x.Dims.length≤1048576:=this.Dims
  have a3:x.Ints.length≤1048576:=this.Ints
  have a4:x.Data.length≤1048576:=this.Data
  unfold hU; omega) e.1
 obtain ⟨r,g⟩:=pX a 1 b (by unfold BB; omega)
 exact ⟨_,r,g⟩
theorem nn (n:Nat):decide ((n:Int)<0)=false:=by simp
theorem pY (x:Int):(x != x)=false:=by simp
theorem rF {a:Graph}{x:List Int}{f:Graph→Option (List Int)}(E:SmGraph a)(F:x.length≤1048576)(L:f a=some x){g:Graph→Option (List Int)}(T:g a=some x) :
  ((g a).bind fun i=>(Z19 a).bind fun h=>(f h).bind fun e=>(Zw e i).bind fun B=>if (!B)=true then some false else ((Z19 a).bind fun I=>(Z2g h I).bind fun G=>if (!G)=true then some false else (
   (Z24 h (1:Int)).bind fun j=>(bQ (!(decide (j.1<(0:Int)))) (Zw e i)).bind fun q=>if ((decide (j.1<(0:Int)))||(!q))=true then some false else (
   (Zu e (1:Int)).bind fun b=>(Z0d b.2 (1:Int)).bind fun m=>if (decide (m<(0:Int)))=true then some false else (if (m != b.1)=true then some false else (
   (Z19 a).bind fun s=>(f s).bind fun D=>(Zw D i).bind fun u=>if (!u)=true then some false else (
   (Z0d b.2 (1:Int)).bind fun l=>if (decide (l<(0:Int)))=true then some false else (if (l != b.1)=true then some false else some true))))))):Option Bool)=some true:=by
 obtain ⟨n,r,U⟩:=Ai E
 obtain ⟨M,J⟩:=jf x 1 F (by unfold BB; omega)
 have O:((1:Nat):Int)=1:=rfl
 rw [O] at M J
 rw [T,aY,mU a E,aY,L,aY,n' x F,aY,if_neg (by simp),aY,tY a E,aY,if_neg (by simp),U,aY,nn,Bool.not_false,BA,aY,if_neg (by simp),M,aY,J,aY,nn,if_neg (by simp),pY,if_neg (by simp),aY,L,aY,n' x F,aY,if_neg (by simp),aY,nn,if_neg (by simp),if_neg (by simp)]
def GA (g:Graph):Prop:=g.Nodes.length≤200∧∀ k:Nat,k<g.Nodes.length→(ix g.Nodes (k:Int)).Args.length≤6∧∀ a∈(ix g.Nodes (k:Int)).Args,0≤a∧a<(k:Int)
def Sn (s:List Bool)(j:Nat):Prop:=ix s (j:Int)=true
def Cl (g:Graph)(B:Nat→Prop)(s:List Bool):Prop:=∀ j:Nat,j<g.Nodes.length→Sn s j→¬ B j→∀ a∈(ix g.Nodes (j:Int)).Args,Sn s a.toNat
def Te (g:Graph)(T:Nat→Prop):Prop:=∀ j:Nat,j<g.Nodes.length→T j→∀ a∈(ix g.Nodes (j:Int)).Args,T a.toNat
theorem k9 {s:List Bool}{k j:Nat}(a:k<s.length){b:Bool}:Sn (s.set k b) j↔if j=k then b=true else Sn s j:=by
 unfold Sn
 by_cases e:j=k
 ·subst e; rw [if_pos rfl,bR (by simpa using a)]; simp
 ·rw [if_neg e]
  by_cases hj:j<s.length
  ·rw [bR (by simpa using hj),bR hj,List.getElem_set_ne (fun z=>e z.symm)]
  ·simp [ix,List.getElem?_set,hj,show ¬ k=j from fun z=>e z.symm]
theorem tZ {g:Graph}(hg:GA g):∀ (n k:Nat),k<n→k<g.Nodes.length→∀ (B:Nat→Prop) (s:List Bool),s.length=g.Nodes.length→(∀ j,B j→k<j)→Cl g B s →
  ∃ s',Zt_R n g (k:Int) s=some s'∧s'.length=g.Nodes.length∧(∀ j,Sn s j→Sn s' j)∧Sn s' k∧Cl g B s'∧∀ T:Nat→Prop,Te g T→T k→(∀ j,Sn s j→T j)→∀ j,Sn s' j→T j
 | 0,k,h,_,_,_,_,_,_=>absurd h (Nat.not_lt_zero _)
 | n+1,k,hkn,E,B,s,hl,hB,hc=>by
  show ∃ s',Zt_S (Zt_R n) g (k:Int) s=some s'∧_
  unfold Zt_S
  rw [if_pos (by omega)]
  by_cases q:ix s (k:Int)=true
  ·rw [if_pos q]
   exact ⟨s,rfl,hl,fun _ h=>h,q,hc,fun T _ _ h=>h⟩
  ·rw [if_neg q,Int.toNat_natCast]
   obtain ⟨a0,ha⟩:=hg.2 k E
   obtain ⟨r,h1,h2⟩:=fX (f:=fun z:List Bool×Int=>Zt_L1 g (k:Int) (Zt_R n) z.1 z.2)
    (fun i z=>z.2=(i:Int)∧z.1.length=g.Nodes.length∧(∀ j,Sn s j→Sn z.1 j)∧Sn z.1 k∧Cl g (fun j=>B j∨j=k) z.1∧(∀ j:Nat,j<i→Sn z.1 (ix (ix g.Nodes (k:Int)).Args (j:Int)).toNat)∧∀ T:Nat→Prop,Te g T→T k→(∀ j,Sn s j→T j)→∀ j,Sn z.1 j→T j)
    (ix g.Nodes (k:Int)).Args.length
    (Post:=fun s'=>s'.length=g.Nodes.length∧(∀ j,Sn s j→Sn s' j)∧Sn s' k∧Cl g B s'∧∀ T:Nat→Prop,Te g T→T k→(∀ j,Sn s j→T j)→∀ j,Sn s' j→T j)
    (fun i z hi hI=>by
     obtain ⟨x,i'⟩:=z
     obtain ⟨rfl,I,M,F,G,L,J⟩:=hI
     dsimp only at I M F G L J
     have U:=ha _ (bE hi)
     obtain ⟨c,D⟩:∃ c:Nat,ix (ix g.Nodes (k:Int)).Args (i:Int)=(c:Int):=⟨_,(Int.toNat_of_nonneg U.1).symm⟩
     have a1:c<k:=by omega
     simp only [Zt_L1]
     rw [if_pos (by omega),if_pos (by simp; omega),if_pos (by omega),D]
     obtain ⟨s',e1,e2,Z,e4,e5,e6⟩:=tZ hg n c (by omega) (by omega) (fun j=>B j∨j=k) x I (fun j b=>by
      rcases b with b | b
      ·have:=hB j b; omega
      ·omega) G
     rw [e1]
     simp only [Option.bind_some]
     refine ⟨_,rfl,by rw [bX (by unfold cB; omega)],e2,fun j h=>Z j (M j h),Z _ F,e5,fun j b=>?_,fun T O E l j b=>?_⟩
     ·by_cases e:j=i
      ·subst e; rw [D]; exact e4
      ·exact Z _ (L j (by omega))
     ·refine e6 T O ?_ (J T O E l) j b
      have:=O k (by omega) E _ (bE hi)
      rwa [D] at this)
    (fun z hI=>by
     obtain ⟨x,i'⟩:=z
     obtain ⟨rfl,I,M,F,G,L,J⟩:=hI
     dsimp only at I M F G L J
     simp only [Zt_L1]
     rw [if_pos (by omega),if_neg (by simp)]
     refine ⟨x,rfl,I,M,F,fun j b l Y a u=>?_,J⟩
     by_cases e:j=k
     ·subst e
      obtain ⟨m,U,rfl⟩:=List.getElem_of_mem u
      have:=L m U
      rwa [bR U] at this
     ·exact G j b l (fun z=>by rcases z with z | z; exact Y z; exact e z) a u)
    (s:=(s.set k true,0)) ⟨rfl,by simpa using hl,fun j h=>by
     rw [k9 (by omega)]; split
     ·rfl
     ·exact h,by rw [k9 (by omega),if_pos rfl],fun j b l Y a u=>by
     rw [k9 (by omega)] at l
     by_cases e:j=k
     ·exact absurd (.inr e) Y
     ·rw [if_neg e] at l
      have:=hc j b l (fun z=>Y (.inl z)) a u
      rw [k9 (by omega)]; split
      ·rfl
      ·exact this,fun j b=>absurd b (Nat.not_lt_zero _),fun T O E l j b=>by
     rw [k9 (by omega)] at b
     by_cases e:j=k
     ·rw [e]; exact E
     ·rw [if_neg e] at b; exact l j b⟩
   rw [h1]
   exact ⟨r,rfl,h2⟩
structure Ls (g:Graph)(s:List Bool):Prop where
 l:s.length=g.Nodes.length
 o:∀ o∈g.Outs,Sn s o.toNat
 c:Te g (Sn s)
 m:∀ T:Nat→Prop,Te g T→(∀ o∈g.Outs,T o.toNat)→∀ j,Sn s j→T j
theorem Ls.eq {g:Graph}{s t:List Bool}(i:Ls g s)(e:Ls g t):s=t:=by
 have q:s.length=t.length:=by rw [i.l,e.l]
 refine List.ext_getElem q fun j h1 h2=>?_
 have a:=i.m _ e.c e.o j
 have b:=e.m _ i.c i.o j
 unfold Sn at a b
 rw [bR h1,bR h2] at a b
 cases h:s[j]<;>cases h':t[j]<;>simp_all
theorem xR {g:Graph}(J:GA g)(ho:g.Outs.length≤40)(G:∀ o∈g.Outs,0≤o∧o<(g.Nodes.length:Int)):∃ s,Z0y g=some s∧Ls g s:=by
 have hn:=J.1
 have b:∀ j,¬ Sn (List.replicate g.Nodes.length false) j:=by
  intro j h
  unfold Sn at h
  by_cases c:j<g.Nodes.length
  ·rw [bR (by simpa using c)] at h; simp at h
  ·simp [ix,c] at h
 unfold Z0y
 rw [if_pos (by omega),Int.toNat_natCast]
 obtain ⟨r,h1,h2⟩:=fX (f:=fun z:List Bool×Int=>Z0y_L1 g z.1 z.2)
  (fun i z=>z.2=(i:Int)∧z.1.length=g.Nodes.length∧Cl g (fun _=>False) z.1∧(∀ j:Nat,j<i→Sn z.1 (ix g.Outs (j:Int)).toNat)∧∀ T:Nat→Prop,Te g T→(∀ o∈g.Outs,T o.toNat)→∀ j,Sn z.1 j→T j)
  g.Outs.length (Post:=fun s=>Ls g s)
  (fun i z O I=>by
   obtain ⟨x,i'⟩:=z
   obtain ⟨rfl,D,E,u,B⟩:=I
   dsimp only at D E u B
   have F:=G _ (bE O)
   obtain ⟨c,l⟩:∃ c:Nat,ix g.Outs (i:Int)=(c:Int):=⟨_,(Int.toNat_of_nonneg F.1).symm⟩
   simp only [Z0y_L1]
   rw [if_pos (by simp; omega),if_pos (by omega),l]
   obtain ⟨s',e1,e2,e3,Y,e5,e6⟩:=tZ J jv c (by unfold jv; omega) (by omega) (fun _=>False) x D (fun j h=>h.elim) E
   rw [show Zt g (c:Int) x=some s' from e1]
   simp only [Option.bind_some]
   refine ⟨_,rfl,by rw [bX (by unfold cB; omega)],e2,e5,fun j q=>?_,fun T L M j q=>?_⟩
   ·by_cases e:j=i
    ·subst e; rw [l]; exact Y
    ·exact e3 _ (u j (by omega))
   ·refine e6 T L ?_ (B T L M) j q
    have:=M _ (bE O)
    rwa [l] at this)
  (fun z I=>by
   obtain ⟨x,i'⟩:=z
   obtain ⟨rfl,D,E,u,B⟩:=I
   dsimp only at D E u B
   simp only [Z0y_L1]
   rw [if_neg (by simp)]
   refine ⟨x,rfl,D,fun o h=>?_,fun j q Z a U=>E j q Z (fun z=>z) a U,B⟩
   obtain ⟨m,F,rfl⟩:=List.getElem_of_mem h
   have:=u m F
   rwa [bR F] at this)
  (s:=(List.replicate g.Nodes.length false,0)) ⟨rfl,by simp,fun j _ h=>absurd h (b j),fun j q=>absurd q (Nat.not_lt_zero _),fun T _ _ j h=>absurd h (b j)⟩
 rw [h1]
 exact ⟨r,rfl,h2⟩
theorem xS {g:Graph}(Y:GA g){k:Nat}(O:k<g.Nodes.length){s:List Bool}(hl:s.length=g.Nodes.length) :
  ∃ s',aR (fun z:List Bool×Int=>Zc_L3 g (k:Int) z.1 z.2) (s,0)=some s'∧s'.length=g.Nodes.length∧(∀ j,Sn s j→Sn s' j)∧(∀ j,k≤j→Sn s' j→Sn s j)∧(Sn s k→∀ a∈(ix g.Nodes (k:Int)).Args,Sn s' a.toNat)∧∀ T:Nat→Prop,Te g T→(∀ j,Sn s j→T j)→∀ j,Sn s' j→T j:=by
 have hn:=Y.1
 obtain ⟨a0,ha⟩:=Y.2 k O
 refine fX (f:=fun z:List Bool×Int=>Zc_L3 g (k:Int) z.1 z.2)
  (fun i z=>z.2=(i:Int)∧z.1.length=g.Nodes.length∧(∀ j,Sn s j→Sn z.1 j)∧(∀ j,k≤j→Sn z.1 j→Sn s j)∧(Sn s k→∀ j:Nat,j<i→Sn z.1 (ix (ix g.Nodes (k:Int)).Args (j:Int)).toNat)∧∀ T:Nat→Prop,Te g T→(∀ j,Sn s j→T j)→∀ j,Sn z.1 j→T j)
  (ix g.Nodes (k:Int)).Args.length (fun i z Z L=>?_) (fun z L=>?_) (s:=(s,0)) ⟨rfl,hl,fun _ h=>h,fun _ _ h=>h,fun _ j I=>absurd I (Nat.not_lt_zero _),fun T _ h=>h⟩
 ·obtain ⟨x,i'⟩:=z
  obtain ⟨rfl,D,u,r,B,F⟩:=L
  dsimp only at D u r B F
  have G:=ha _ (bE Z)
  obtain ⟨c,l⟩:∃ c:Nat,ix (ix g.Nodes (k:Int)).Args (i:Int)=(c:Int):=⟨_,(Int.toNat_of_nonneg G.1).symm⟩
  have a1:c<k:=by omega
  have J:c<x.length:=by omega
  simp only [Zc_L3]
  rw [if_pos (by simp; omega),if_pos (by omega),l,if_pos (by simp; omega),if_pos (fun _=>by simp; omega),Int.toNat_natCast]
  simp only [nm,Option.bind_some]
  have b:∀ j,Sn (x.set c (ix x (c:Int)||ix x (k:Int))) j↔Sn x j∨j=c∧Sn x k:=by
   intro j
   rw [k9 J]
   by_cases e:j=c
   ·subst e
    rw [if_pos rfl,Bool.or_eq_true]
    exact ⟨fun h=>h.imp id (fun h=>⟨rfl,h⟩),fun h=>h.imp id (fun h=>h.2)⟩
   ·rw [if_neg e]
    exact ⟨.inl,fun h=>h.resolve_right (fun z=>e z.1)⟩
  refine ⟨_,rfl,by rw [bX (by unfold cB; omega)],by simpa using D,fun j h=>(b j).2 (.inl (u j h)),fun j I h=>?_,fun E j I=>?_,fun T hT U j h=>?_⟩
  ·rcases (b j).1 h with q | ⟨q,_⟩
   ·exact r j I q
   ·omega
  ·by_cases e:j=i
   ·subst e; rw [l]; exact (b _).2 (.inr ⟨by simp,u k E⟩)
   ·exact (b _).2 (.inl (B E j (by omega)))
  ·rcases (b j).1 h with q | ⟨q,w⟩
   ·exact F T hT U j q
   ·have:=hT k O (U k (r k (Nat.le_refl _) w)) _ (bE Z)
    rw [l] at this
    rw [q]; simpa using this
 ·obtain ⟨x,i'⟩:=z
  obtain ⟨rfl,D,u,r,B,F⟩:=L
  dsimp only at D u r B F
  simp only [Zc_L3]
  rw [if_neg (by simp)]
  refine ⟨x,rfl,D,u,r,fun h a M=>?_,F⟩
  obtain ⟨m,G,rfl⟩:=List.getElem_of_mem M
  have:=B h m G
  rwa [bR G] at this
theorem xT {g:Graph}(hg:GA g)(ho:g.Outs.length≤40)(L:∀ o∈g.Outs,0≤o∧o<(g.Nodes.length:Int)):∃ s,Zc g=some s∧Ls g s:=by
 have hn:=hg.1
 have I:∀ j,¬ Sn (List.replicate g.Nodes.length false) j:=by
  intro j h
  unfold Sn at h
  by_cases c:j<g.Nodes.length
  ·rw [bR (by simpa using c)] at h; simp at h
  ·simp [ix,c] at h
 unfold Zc
 rw [if_pos (by omega)]
 obtain ⟨r,h1,h2,J,h4⟩:=fX (f:=fun z:List Bool×Int=>Zc_L1 g z.1 z.2)
  (fun i z=>z.2=(i:Int)∧z.1.length=g.Nodes.length∧(∀ j:Nat,j<i→Sn z.1 (ix g.Outs (j:Int)).toNat)∧∀ T:Nat→Prop,(∀ o∈g.Outs,T o.toNat)→∀ j,Sn z.1 j→T j)
  g.Outs.length (Post:=fun s=>s.length=g.Nodes.length∧(∀ o∈g.Outs,Sn s o.toNat)∧∀ T:Nat→Prop,(∀ o∈g.Outs,T o.toNat)→∀ j,Sn s j→T j)
  (fun i z Y D=>by
   obtain ⟨x,U⟩:=z
   obtain ⟨rfl,l,u,b⟩:=D
   dsimp only at l u b
   have M:=L _ (bE Y)
   simp only [Zc_L1]
   rw [if_pos (by simp; omega),if_pos (by omega),if_pos (by simp; omega)]
   refine ⟨_,rfl,by rw [bX (by unfold cB; omega)],by simpa using l,fun j B=>?_,fun T E j B=>?_⟩
   ·rw [k9 (by omega)]
    by_cases e:j=i
    ·subst e; rw [if_pos rfl]
    ·split
     ·rfl
     ·exact u j (by omega)
   ·rw [k9 (by omega)] at B
    by_cases e:j=(ix g.Outs (i:Int)).toNat
    ·rw [e]; exact E _ (bE Y)
    ·rw [if_neg e] at B; exact b T E j B)
  (fun z D=>by
   obtain ⟨x,U⟩:=z
   obtain ⟨rfl,l,u,b⟩:=D
   dsimp only at l u b
   simp only [Zc_L1]
   rw [if_neg (by simp)]
   refine ⟨x,rfl,l,fun o h=>?_,b⟩
   obtain ⟨m,M,rfl⟩:=List.getElem_of_mem h
   have:=u m M
   rwa [bR M] at this)
  (s:=(List.replicate (g.Nodes.length:Int).toNat false,0)) ⟨rfl,by simp,fun j B=>absurd B (Nat.not_lt_zero _),fun T _ j h=>absurd (by simpa using h) (I j)⟩
 rw [h1]
 simp only [Option.bind_some,Zc_J1]
 obtain ⟨q,q1,q2⟩:=fX (f:=fun z:List Bool×Int=>Zc_L2 g z.1 z.2)
  (fun i z=>z.2=(g.Nodes.length:Int) - 1 - (i:Int)∧z.1.length=g.Nodes.length∧(∀ o∈g.Outs,Sn z.1 o.toNat)∧(∀ j:Nat,g.Nodes.length≤j+i→j<g.Nodes.length→Sn z.1 j→∀ a∈(ix g.Nodes (j:Int)).Args,Sn z.1 a.toNat)∧∀ T:Nat→Prop,Te g T→(∀ o∈g.Outs,T o.toNat)→∀ j,Sn z.1 j→T j)
  g.Nodes.length (Post:=fun s=>Ls g s)
  (fun i z Y D=>by
   obtain ⟨x,U⟩:=z
   obtain ⟨rfl,l,u,b,F⟩:=D
   dsimp only at l u b F
   obtain ⟨k,hk⟩:∃ k:Nat,k=g.Nodes.length - 1 - i:=⟨_,rfl⟩
   have O:(g.Nodes.length:Int) - 1 - (i:Int)=(k:Int):=by omega
   simp only [Zc_L2]
   rw [O,if_pos (by simp),if_pos (by omega)]
   obtain ⟨s',e1,e2,e3,Z,e5,e6⟩:=xS hg (k:=k) (by omega) l
   rw [e1]
   simp only [Option.bind_some,Zc_J3]
   refine ⟨_,rfl,by rw [bA (by omega) (by omega)]; omega,e2,fun o h=>e3 _ (u o h),fun j h1 h2 J a G=>?_,fun T hT E=>e6 T hT (F T hT E)⟩
   by_cases e:j=k
   ·subst e; exact e5 (Z j (Nat.le_refl _) J) a G
   ·exact e3 _ (b j (by omega) h2 (Z j (by omega) J) a G))
  (fun z D=>by
   obtain ⟨x,U⟩:=z
   obtain ⟨rfl,l,u,b,F⟩:=D
   dsimp only at l u b F
   simp only [Zc_L2]
   rw [if_neg (by simp; omega)]
   exact ⟨x,rfl,l,u,fun j B=>b j (by omega) B,F⟩)
  (s:=(r,aH ((g.Nodes.length:Int) - 1))) ⟨by rw [bA (by omega) (by omega)]; omega,h2,J,fun j a1 a0=>by omega,fun T _ E=>h4 T E⟩
 rw [q1]
 exact ⟨q,rfl,q2⟩
theorem Aj {g:Graph}{e:List Tensor}(i:g.Nodes.length≤200)(h:As g g.Nodes.length e):GA g:=by
 refine ⟨i,fun k j=>?_⟩
 obtain ⟨a,b,_⟩:=h k j
 exact ⟨lq a,b⟩
theorem vu {s:List Bool}(a:s.length≤200):aR (fun z:List Int×Int=>Z04_L1 s z.1 z.2) ([],0)=some (oZ (fun k=>ix s (k:Int)) s.length):=by
 refine eT (f:=fun z:List Int×Int=>Z04_L1 s z.1 z.2) (fun k=>(oZ (fun k=>ix s (k:Int)) k,(k:Int))) s.length (fun k e=>?_) ?_ rfl
 ·have b:=p6 (fun k=>ix s (k:Int)) k
  simp only [Z04_L1,Z04_J2]
  rw [if_pos (by simp; omega),if_pos (by omega),bX (by unfold cB; omega)]
  by_cases q:ix s (k:Int)=true
  ·rw [if_pos q,if_pos (by simp; omega),ns,if_pos q]
  ·rw [if_neg q,ns,if_neg q]
 ·simp only [Z04_L1]
  rw [if_neg (by simp)]
theorem t':Z0a_L1=Z04_L1:=rfl
theorem rG {a:Graph}(r:SmGraph a):∃ x,x.length≤200∧Z04 a=some x∧Z0a a=some x:=by
 obtain ⟨E,D,b,h1,h2,m⟩:=oW (Ag r)
 have g1:Z2w a=some b:=by unfold Z2w; rw [h1]; rfl
 have q:Z2j a=some b:=by unfold Z2j; rw [h2]; rfl
 unfold Z04 Z0a
 rw [g1,q,aY,aY]
 cases b with
 | false=>exact ⟨[],by simp,rfl,rfl⟩
 | true =>
  obtain ⟨F,I,a3,a4,a5,i,h⟩:=m rfl
  have j:=Aj a5 a4
  obtain ⟨s,u,g⟩:=xR j i h
  obtain ⟨t,t1,B⟩:=xT j i h
  have e:=g.eq B
  subst e
  have G:=g.l
  rw [if_neg (by simp),if_neg (by simp),u,t1,aY,aY,t',vu (by omega),aY,aY]
  have:=p6 (fun k=>ix s (k:Int)) s.length
  exact ⟨_,by omega,rfl,rfl⟩
theorem u0 (a:Graph)(g:Cap25 a):Z36 a=some true:=by
 unfold Z36
 rw [pW g (by omega) (by omega),aY]
 by_cases h:fV (lr a) 1048576<0
 ·rw [if_pos (by simpa using h)]
 ·have b:=Ah h
  obtain ⟨x,i,k1,e⟩:=rG b
  rw [if_neg (by simpa using h),mU a b,aY]
  have:=rF b (by omega) e k1
  rw [mU a b] at this
  exact this
end Go.Proofs.YtmpnollfdpdipaaGreat
