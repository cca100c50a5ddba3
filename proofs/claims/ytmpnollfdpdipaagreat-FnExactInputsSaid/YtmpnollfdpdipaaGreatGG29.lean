import Derived.Test.YtmpnollfdpdipaaGreatGG13
import Derived.Test.YtmpnollfdpdipaaGreatGkF
import Derived.Test.YtmpnollfdpdipaaGreatPL1
set_option linter.unusedVariables false
set_option linter.unusedSimpArgs false
namespace Go.Proofs.YtmpnollfdpdipaaGreat
open Go Go.Pg
theorem wrap_c {c:UInt8}(h:97≤c.toNat∧c.toNat≤122):IntKind.wrap .u8 ((c.toNat:Int) - 97)=(c.toNat:Int) - 97:=by
 unfold IntKind.wrap
 simp [IntKind.bits,IntKind.signed]
 omega
theorem sub_one {g:Str}{k:Nat}(h:k<g.length):sub g (k:Int) ((k+1:Nat):Int)=[ix g (k:Int)]:=by
 unfold sub
 rw [Int.toNat_natCast,Int.toNat_natCast,List.take_succ_eq_append_getElem h,List.drop_append_of_le_length (by simp; omega),ix_at h]
 simp
theorem layG_i {gs:List Str}{dss:List (List Int)}{b:List Str×Str×Bool}{x:Nat}(hb:b.1=gs)(hx:x<gs.length)(hg:LT (ix gs (x:Int))){m:Nat}(hm:m≤100){s:Str×List Int}(h1:s.1.length≤m)(h2:s.2.length=26)(hl:(ix gs (x:Int)).length=(ix dss (x:Int)).length) :
  (∃ s',layG (ix gs (x:Int)) (ix dss (x:Int)) s=some s'∧loopM (fun s:Str×List Int×Int=>Z3_L2 dss b (x:Int) s.1 s.2.1 s.2.2) (s.1,s.2,0)=some (.inr (s'.1,s'.2))∧s'.1.length≤m+6∧s'.2.length=26) ∨
  (layG (ix gs (x:Int)) (ix dss (x:Int)) s=none∧∃ e,loopM (fun s:Str×List Int×Int=>Z3_L2 dss b (x:Int) s.1 s.2.1 s.2.2) (s.1,s.2,0)=some (.inl e)∧e.2=false):=by
 obtain ⟨g,hgg⟩:∃ g,g=ix gs (x:Int):=⟨_,rfl⟩
 obtain ⟨ds,hds⟩:∃ ds,ds=ix dss (x:Int):=⟨_,rfl⟩
 have hbg:ix b.1 (x:Int)=g:=by rw [hb,hgg]
 rw [← hgg] at hg hl ⊢
 rw [← hds] at hl ⊢
 unfold layG
 rw [if_pos hl]
 rcases loop_foN (f:=fun s:Str×List Int×Int=>Z3_L2 dss b (x:Int) s.1 s.2.1 s.2.2) (fun s k=>lay1 s (ix g (k:Int)) (ix ds (k:Int))) (fun s i=>(s.1,s.2,i)) (fun s=>(s.1,s.2)) (fun e=>e.2=false) (fun j s=>s.1.length≤m+j∧s.2.length=26) g.length
  (fun j s hj hI=>by
   obtain ⟨i1,i2⟩:=hI
   have hc:=hg.2 _ (ix_mem hj)
   have hj6:=hg.1
   have hbt:bt g (j:Int)=((ix g (j:Int)).toNat:Int):=rfl
   simp only [Z3_L2]
   rw [hbg,← hds,if_pos (by simp; omega),if_pos (by omega),hbt,wrap_c hc,if_pos (by omega),if_pos (fun _=>by omega)]
   show (∃ s',lay1 s _ _=_∧_)∨_
   unfold lay1
   by_cases c:lk s.2 (ix g (j:Int))≠0∧lk s.2 (ix g (j:Int))≠ix ds (j:Int)
   ·rw [if_pos c,if_pos (by unfold lk at c; simpa using c)]
    exact .inr ⟨rfl,_,rfl,rfl⟩
   ·rw [if_neg c]
    obtain ⟨r,r1,r2⟩:=ibyte_i s.1 (ix g (j:Int))
    have ht:((((ix g (j:Int)).toNat:Int) - 97)).toNat=(ix g (j:Int)).toNat - 97:=by omega
    have hn:¬ (((ix s.2 (((ix g (j:Int)).toNat:Int) - 97)) != 0)&&((ix s.2 (((ix g (j:Int)).toNat:Int) - 97)) != (ix ds (j:Int))))=true:=by
     unfold lk at c; simpa using c
    refine .inl ⟨_,rfl,?_,?_,by simpa using i2⟩
    ·rw [if_neg hn,if_pos (by omega)]
     simp only [nm,Option.bind_some]
     rw [r1,ht]
     simp only [Option.bind_some]
     by_cases q:ix g (j:Int)∈s.1
     ·rw [if_neg (by simp; have:¬ r<0:=fun z=>r2.1 z q; omega),if_pos q]
      simp only [Z3_J5]
      rw [w64k (by unfold big; omega)]
     ·rw [if_pos (decide_eq_true (r2.2 q)),w64k (by unfold big; omega),if_pos (by omega),sub_one hj,if_pos (by simp; omega),if_neg q]
      simp only [Z3_J5]
      rw [w64k (by unfold big; omega)]
    ·by_cases q:ix g (j:Int)∈s.1
     ·simp only [if_pos q]; omega
     ·simp only [if_neg q]; simp; omega)
  (fun s hI=>by
   simp only [Z3_L2]
   rw [hbg,if_neg (by simp)])
  (s:=s) ⟨by omega,h2⟩ with ⟨s',a1,a2,a3,a4⟩|⟨a1,e,a2,a3⟩
 ·have:=hg.1
  exact .inl ⟨s',a1,a2,by omega,a4⟩
 ·exact .inr ⟨a1,e,a2,a3⟩
theorem layA_i {gs:List Str}{dss:List (List Int)}{b:List Str×Str×Bool}(hb:b.1=gs)(hn:gs.length≤6)(hg:∀ g∈gs,LT g)(hl:gs.length=dss.length){s:Str×List Int}(h1:s.1.length≤6)(h2:s.2.length=26) :
  (∃ s',layA gs dss s=some s'∧loopM (fun s:Str×List Int×Int=>Z3_L1 dss b s.1 s.2.1 s.2.2) (s.1,s.2,0)=some (.inr (s'.1,s'.2))∧s'.1.length≤42∧s'.2.length=26) ∨
  (layA gs dss s=none∧∃ e,loopM (fun s:Str×List Int×Int=>Z3_L1 dss b s.1 s.2.1 s.2.2) (s.1,s.2,0)=some (.inl e)∧e.2=false):=by
 unfold layA
 rcases loop_foN (f:=fun s:Str×List Int×Int=>Z3_L1 dss b s.1 s.2.1 s.2.2) (fun s k=>layG (ix gs (k:Int)) (ix dss (k:Int)) s) (fun s i=>(s.1,s.2,i)) (fun s=>(s.1,s.2)) (fun e=>e.2=false) (fun j s=>s.1.length≤6+6*j∧s.2.length=26) gs.length
  (fun j s hj hI=>by
   obtain ⟨i1,i2⟩:=hI
   simp only [Z3_L1]
   rw [hb,if_pos (by simp; omega),if_pos (by omega),if_pos (by omega)]
   by_cases c:(ix gs (j:Int)).length=(ix dss (j:Int)).length
   ·rw [if_neg (by simp; omega)]
    rcases layG_i (m:=6+6*j) hb hj (hg _ (ix_mem hj)) (by omega) i1 i2 c with ⟨s',a1,a2,a3,a4⟩|⟨a1,e,a2,a3⟩
    ·rw [a2]
     refine .inl ⟨s',a1,?_,by omega,a4⟩
     simp only [Option.bind_some,Z3_J6]
     rw [w64k (by unfold big; omega)]
    ·rw [a2]
     exact .inr ⟨a1,e,rfl,a3⟩
   ·rw [if_pos (by simp; omega)]
    refine .inr ⟨by unfold layG; rw [if_neg c],_,rfl,rfl⟩)
  (fun s hI=>by
   simp only [Z3_L1]
   rw [hb,if_neg (by simp)])
  (s:=s) ⟨by omega,h2⟩ with ⟨s',a1,a2,a3,a4⟩|⟨a1,e,a2,a3⟩
 ·exact .inl ⟨s',a1,a2,by omega,a4⟩
 ·exact .inr ⟨a1,e,a2,a3⟩
theorem idx_no:∀ {f:Str} {c:UInt8} {j:Nat},j<f.idxOf c→∀ h:j<f.length,f[j]≠c
 | [],_,_,_,h=>by simp at h
 | b::l,c,j,hj,h=>by
  rw [List.idxOf_cons] at hj
  cases e:b==c with
  | true=>rw [e] at hj; simp at hj
  | false =>
   rw [e] at hj
   cases j with
   | zero=>simpa using e
   | succ j=>exact idx_no (f:=l) (by simp at hj; omega) (by simpa using h)
theorem find_s {gs:List Str}{k i:Nat}{f:Str}(hf:f.length<big)(hi:i<(ix gs (k:Int)).length):loopM (fun s:Int=>Z2_L3 gs (k:Int) f (i:Int) s) 0=some ((f.idxOf (ix (ix gs (k:Int)) (i:Int)):Nat):Int):=by
 obtain ⟨c,hc⟩:∃ c,c=ix (ix gs (k:Int)) (i:Int):=⟨_,rfl⟩
 rw [← hc]
 have hle:f.idxOf c≤f.length:=List.idxOf_le_length
 have hbt:bt (ix gs (k:Int)) (i:Int)=(c.toNat:Int):=by rw [hc]; rfl
 have hne:∀ j:Nat,(bt f (j:Int) != (c.toNat:Int))=!decide (ix f (j:Int)=c):=by
  intro j
  have:(bt f (j:Int)==(c.toNat:Int))=decide (ix f (j:Int)=c):=byte_inj
  unfold bne; rw [this]
 refine loopN (f:=fun s:Int=>Z2_L3 gs (k:Int) f (i:Int) s) (fun j=>(j:Int)) (f.idxOf c) (fun j hj=>?_) ?_ rfl
 ·have hjl:j<f.length:=by omega
  simp only [Z2_L3]
  rw [if_pos (fun _=>by omega),if_pos (fun _=>by omega),hbt,hne,w64k (by omega),if_pos]
  have:ix f (j:Int)≠c:=by
   rw [ix_at hjl]; exact idx_no hj hjl
  simp [this]; omega
 ·simp only [Z2_L3]
  rw [if_pos (fun z=>by simp at z; omega),if_pos (fun _=>by omega),hbt,hne,if_neg]
  by_cases q:f.idxOf c<f.length
  ·have:ix f ((f.idxOf c:Nat):Int)=c:=by rw [ix_at q]; exact List.getElem_idxOf q
   simp [this]
  ·simp; omega
theorem lk_set {lens:List Int}(h:lens.length=26){c c':UInt8}(hc:97≤c.toNat∧c.toNat≤122)(hc':97≤c'.toNat∧c'.toNat≤122)(d:Int):lk (lens.set (c.toNat - 97) d) c'=if c'=c then d else lk lens c':=by
 unfold lk
 have e:((c'.toNat:Int) - 97)=((c'.toNat - 97:Nat):Int):=by omega
 rw [e,ix_at (by simp; omega),List.getElem_set]
 by_cases q:c'=c
 ·rw [if_pos q,if_pos (by rw [q])]
 ·have:c'.toNat≠c.toNat:=fun z=>q (UInt8.toNat_inj.1 z)
  rw [if_neg q,if_neg (by omega),ix_at (by omega)]
theorem map_set:∀ {f:Str} {c:UInt8} {g h:UInt8→Int} {d:Int},f.Nodup→c∈f→h c=d→(∀ x∈f,x≠c→h x=g x)→(f.map g).set (f.idxOf c) d=f.map h
 | [],_,_,_,_,_,hm,_,_=>by simp at hm
 | b::l,c,g,h,d,hn,hm,h1,h2=>by
  rw [List.nodup_cons] at hn
  rw [List.idxOf_cons]
  by_cases q:b=c
  ·subst q
   simp only [beq_self_eq_true,cond_true,List.map_cons,List.set_cons_zero,h1]
   congr 1
   apply List.map_congr_left
   intro x hx
   exact (h2 x (List.mem_cons_of_mem _ hx) (fun z=>hn.1 (z▸hx))).symm
  ·have e:(b==c)=false:=by simpa using q
   have hm':c∈l:=by
    rcases List.mem_cons.1 hm with z | z
    ·exact absurd z.symm q
    ·exact z
   rw [e]
   simp only [cond_false,List.map_cons,List.set_cons_succ]
   rw [map_set hn.2 hm' h1 (fun x hx hc=>h2 x (List.mem_cons_of_mem _ hx) hc),h2 b (List.mem_cons_self ..) q]
structure IS (s:Str×List Int):Prop where
 l:s.2.length=26
 n:s.1.Nodup
 c:∀ c∈s.1,97≤c.toNat∧c.toNat≤122
 z:∀ c:UInt8,97≤c.toNat→c.toNat≤122→c ∉ s.1→lk s.2 c=0
theorem lay1_IS {s s':Str×List Int}{c:UInt8}{d:Int}(hs:IS s)(hc:97≤c.toNat∧c.toNat≤122)(h:lay1 s c d=some s'):IS s'∧s'.1.length≤s.1.length+1:=by
 unfold lay1 at h
 split at h
 ·cases h
 ·cases h
  by_cases q:c∈s.1
  ·simp only [if_pos q]
   refine ⟨⟨by simpa using hs.l,hs.n,hs.c,fun x h1 h2 h3=>?_⟩,by omega⟩
   rw [lk_set hs.l hc ⟨h1,h2⟩,if_neg (fun z=>h3 (by rw [z]; exact q))]
   exact hs.z x h1 h2 h3
  ·simp only [if_neg q]
   refine ⟨⟨by simpa using hs.l,?_,?_,fun x h1 h2 h3=>?_⟩,by simp⟩
   ·rw [List.nodup_append]
    refine ⟨hs.n,by simp,?_⟩
    intro a ha b hb
    simp at hb; subst hb
    exact fun z=>q (z▸ha)
   ·intro x hx
    rcases List.mem_append.1 hx with z | z
    ·exact hs.c x z
    ·simp at z; rw [z]; exact hc
   ·simp at h3
    rw [lk_set hs.l hc ⟨h1,h2⟩,if_neg h3.2]
    exact hs.z x h1 h2 h3.1
theorem ix_map {f:Str}{g:UInt8→Int}{p:Nat}(h:p<f.length):ix (f.map g) (p:Int)=g f[p]:=by
 rw [ix_at (by simpa using h)]; simp
theorem letter_s {gs:List Str}{dss:List (List Int)}{x j:Nat}{s:Str×List Int}(hs:IS s)(hm:s.1.length≤100)(hj:j<(ix gs (x:Int)).length)(hl:(ix gs (x:Int)).length=(ix dss (x:Int)).length)(h6:(ix gs (x:Int)).length≤6)(hc:97≤(ix (ix gs (x:Int)) (j:Int)).toNat∧(ix (ix gs (x:Int)) (j:Int)).toNat≤122) :
  (∃ s',lay1 s (ix (ix gs (x:Int)) (j:Int)) (ix (ix dss (x:Int)) (j:Int))=some s'∧Z2_L2 gs dss (x:Int) s.1 (s.1.map (lk s.2)) (j:Int)=some (.inl (s'.1,s'.1.map (lk s'.2),((j+1:Nat):Int)))) ∨
  (lay1 s (ix (ix gs (x:Int)) (j:Int)) (ix (ix dss (x:Int)) (j:Int))=none∧∃ e,Z2_L2 gs dss (x:Int) s.1 (s.1.map (lk s.2)) (j:Int)=some (.inr (.inl e))∧e.2.2=false):=by
 obtain ⟨c,hcc⟩:∃ c,c=ix (ix gs (x:Int)) (j:Int):=⟨_,rfl⟩
 obtain ⟨d,hd⟩:∃ d,d=ix (ix dss (x:Int)) (j:Int):=⟨_,rfl⟩
 rw [← hcc] at hc ⊢
 rw [← hd]
 have hf:=find_s (gs:=gs) (k:=x) (i:=j) (f:=s.1) (by unfold big; omega) hj
 rw [← hcc] at hf
 simp only [Z2_L2]
 rw [if_pos (by simp; omega),hf]
 simp only [Option.bind_some]
 have J9:∀ (f:Str) (ls:List Int),f.Nodup→c∈f→s.1.idxOf c=f.idxOf c→ls=f.map (lk s.2)→(∀ y∈f,97≤y.toNat∧y.toNat≤122) →
   Z2_J9 dss (x:Int) (j:Int) ((s.1.idxOf c:Nat):Int) f ls=if lk s.2 c≠0∧lk s.2 c≠d then some (.inr (.inl ([],ls,false))) else some (.inl (f,f.map (lk (s.2.set (c.toNat - 97) d)),((j+1:Nat):Int))):=by
  intro f ls hn hm hi hls hcs
  have hp:f.idxOf c<f.length:=List.idxOf_lt_length_iff.2 hm
  have e:ix ls ((f.idxOf c:Nat):Int)=lk s.2 c:=by
   rw [hls,ix_map hp]; congr 1; exact List.getElem_idxOf hp
  have hll:ls.length=f.length:=by rw [hls]; simp
  unfold Z2_J9
  rw [hi,e,← hd,if_pos (by omega),if_pos (fun _=>by omega)]
  by_cases q:lk s.2 c≠0∧lk s.2 c≠d
  ·rw [if_pos q,if_pos (by simpa using q)]
  ·rw [if_neg q,if_neg (by simpa using q),if_pos (by omega),w64k (by unfold big; omega),Int.toNat_natCast,hls,map_set hn hm (h:=lk (s.2.set (c.toNat - 97) d))]
   ·rw [lk_set hs.l hc hc,if_pos rfl]
   ·intro y hy hyc
    rw [lk_set hs.l hc (hcs y hy),if_neg hyc]
 have R:∀ f,(if c∈s.1 then s.1 else s.1++[c])=f→(∀ z,z=(if lk s.2 c≠0∧lk s.2 c≠d then some (.inr (.inl ([],f.map (lk s.2),false))) else some (.inl (f,f.map (lk (s.2.set (c.toNat - 97) d)),((j+1:Nat):Int))):Option ((Str×(List Int)×Int)⊕((Str×(List Int)×Bool)⊕(Str×(List Int))))) →
   (∃ s',lay1 s c d=some s'∧z=some (.inl (s'.1,s'.1.map (lk s'.2),((j+1:Nat):Int))))∨(lay1 s c d=none∧∃ e,z=some (.inr (.inl e))∧e.2.2=false)):=by
  intro f hf z hz
  unfold lay1
  by_cases q:lk s.2 c≠0∧lk s.2 c≠d
  ·rw [if_pos q] at hz ⊢
   exact .inr ⟨rfl,_,hz,rfl⟩
  ·rw [if_neg q] at hz ⊢
   rw [hf]
   exact .inl ⟨_,rfl,hz⟩
 unfold Z2_J8
 by_cases q:c∈s.1
 ·have hp:s.1.idxOf c<s.1.length:=List.idxOf_lt_length_iff.2 q
  rw [if_neg (by simp; omega),J9 s.1 _ hs.n q rfl rfl hs.c]
  exact R s.1 (if_pos q) _ rfl
 ·have hp:s.1.idxOf c=s.1.length:=by
   have:¬ s.1.idxOf c<s.1.length:=fun z=>q (List.idxOf_lt_length_iff.1 z)
   have:s.1.idxOf c≤s.1.length:=List.idxOf_le_length
   omega
  have hi2:(s.1++[c]).idxOf c=s.1.length:=by
   rw [List.idxOf_append,if_neg q]; simp
  have hnd:(s.1++[c]).Nodup:=by
   rw [List.nodup_append]
   refine ⟨hs.n,by simp,?_⟩
   intro a ha b hb
   simp at hb; subst hb
   exact fun z=>q (z▸ha)
  have hcs:∀ y∈s.1++[c],97≤y.toNat∧y.toNat≤122:=by
   intro y hy
   rcases List.mem_append.1 hy with z | z
   ·exact hs.c y z
   ·simp at z; rw [z]; exact hc
  have hmp:s.1.map (lk s.2)++[0]=(s.1++[c]).map (lk s.2):=by
   rw [List.map_append]; simp [hs.z c hc.1 hc.2 q]
  rw [if_pos (by rw [hp]; simp),w64k (by unfold big; omega),if_pos (by omega),sub_one hj,← hcc,if_pos (by simp; omega),if_pos (by simp; omega),J9 (s.1++[c]) _ hnd (by simp) (by rw [hp,hi2]) hmp hcs,hmp]
  exact R _ (if_neg q) _ rfl
theorem layG_s {gs:List Str}{dss:List (List Int)}{x:Nat}(hg:LT (ix gs (x:Int))){m:Nat}(hm:m≤90){s:Str×List Int}(h1:s.1.length≤m)(hs:IS s)(hl:(ix gs (x:Int)).length=(ix dss (x:Int)).length) :
  (∃ s',layG (ix gs (x:Int)) (ix dss (x:Int)) s=some s'∧loopM (fun s:Str×List Int×Int=>Z2_L2 gs dss (x:Int) s.1 s.2.1 s.2.2) (s.1,s.1.map (lk s.2),0)=some (.inr (s'.1,s'.1.map (lk s'.2)))∧s'.1.length≤m+6∧IS s') ∨
  (layG (ix gs (x:Int)) (ix dss (x:Int)) s=none∧∃ e,loopM (fun s:Str×List Int×Int=>Z2_L2 gs dss (x:Int) s.1 s.2.1 s.2.2) (s.1,s.1.map (lk s.2),0)=some (.inl e)∧e.2.2=false):=by
 unfold layG
 rw [if_pos hl]
 have h6:=hg.1
 rcases loop_foN (f:=fun s:Str×List Int×Int=>Z2_L2 gs dss (x:Int) s.1 s.2.1 s.2.2) (fun s k=>lay1 s (ix (ix gs (x:Int)) (k:Int)) (ix (ix dss (x:Int)) (k:Int))) (fun s i=>(s.1,s.1.map (lk s.2),i)) (fun s=>(s.1,s.1.map (lk s.2))) (fun e=>e.2.2=false) (fun j s=>s.1.length≤m+j∧IS s) (ix gs (x:Int)).length
  (fun j s hj hI=>by
   have hc:=hg.2 _ (ix_mem hj)
   rcases letter_s hI.2 (by have:=hI.1; omega) hj hl h6 hc with ⟨s',a1,a2⟩ | q
   ·obtain ⟨b1,b2⟩:=lay1_IS hI.2 hc a1
    exact .inl ⟨s',a1,a2,by have:=hI.1; omega,b1⟩
   ·exact .inr q)
  (fun s hI=>by
   simp only [Z2_L2]
   rw [if_neg (by simp)])
  (s:=s) ⟨by omega,hs⟩ with ⟨s',a1,a2,a3,a4⟩|⟨a1,e,a2,a3⟩
 ·exact .inl ⟨s',a1,a2,by omega,a4⟩
 ·exact .inr ⟨a1,e,a2,a3⟩
theorem layA_s {gs:List Str}{dss:List (List Int)}(hn:gs.length≤6)(hg:∀ g∈gs,LT g)(hl:gs.length=dss.length){s:Str×List Int}(h1:s.1.length≤6)(hs:IS s) :
  (∃ s',layA gs dss s=some s'∧loopM (fun s:Str×List Int×Int=>Z2_L1 gs dss s.1 s.2.1 s.2.2) (s.1,s.1.map (lk s.2),0)=some (.inr (s'.1,s'.1.map (lk s'.2)))∧s'.1.length≤42∧IS s') ∨
  (layA gs dss s=none∧∃ e,loopM (fun s:Str×List Int×Int=>Z2_L1 gs dss s.1 s.2.1 s.2.2) (s.1,s.1.map (lk s.2),0)=some (.inl e)∧e.2.2=false):=by
 unfold layA
 rcases loop_foN (f:=fun s:Str×List Int×Int=>Z2_L1 gs dss s.1 s.2.1 s.2.2) (fun s k=>layG (ix gs (k:Int)) (ix dss (k:Int)) s) (fun s i=>(s.1,s.1.map (lk s.2),i)) (fun s=>(s.1,s.1.map (lk s.2))) (fun e=>e.2.2=false) (fun j s=>s.1.length≤6+6*j∧IS s) gs.length
  (fun j s hj hI=>by
   obtain ⟨i1,i2⟩:=hI
   simp only [Z2_L1]
   rw [if_pos (by simp; omega),if_pos (by omega),if_pos (by omega)]
   by_cases c:(ix gs (j:Int)).length=(ix dss (j:Int)).length
   ·rw [if_neg (by simp; omega)]
    rcases layG_s (m:=6+6*j) (hg _ (ix_mem hj)) (by omega) i1 i2 c with ⟨s',a1,a2,a3,a4⟩|⟨a1,e,a2,a3⟩
    ·rw [a2]
     refine .inl ⟨s',a1,?_,by omega,a4⟩
     simp only [Option.bind_some,Z2_J10]
     rw [w64k (by unfold big; omega)]
    ·rw [a2]
     exact .inr ⟨a1,e,rfl,a3⟩
   ·rw [if_pos (by simp; omega)]
    refine .inr ⟨by unfold layG; rw [if_neg c],_,rfl,rfl⟩)
  (fun s hI=>by
   simp only [Z2_L1]
   rw [if_neg (by simp)])
  (s:=s) ⟨by omega,hs⟩ with ⟨s',a1,a2,a3,a4⟩|⟨a1,e,a2,a3⟩
 ·exact .inl ⟨s',a1,a2,by omega,a4⟩
 ·exact .inr ⟨a1,e,a2,a3⟩
theorem foN_ind {S:Type}{st:S→Nat→Option S}(I:Nat→S→Prop){s:S}(h0:I 0 s):∀ (n:Nat),(∀ j s s',j<n→I j s→st s j=some s'→I (j+1) s')→∀ {s':S},foN st n s=some s'→I n s'
 | 0,_,s',h=>by cases h; exact h0
 | n+1,hs,s',h=>by
  rw [foN] at h
  obtain ⟨m,h1,h2⟩:=bd h
  exact hs n m s' (by omega) (foN_ind I h0 n (fun j s s' hj=>hs j s s' (by omega)) h1) h2
structure Ext (s s':Str×List Int):Prop where
 i:IS s'
 p:∃ t,s'.1=s.1++t
 k:∀ c:UInt8,97≤c.toNat→c.toNat≤122→lk s.2 c≠0→lk s'.2 c=lk s.2 c
theorem Ext.rfl_ {s:Str×List Int}(h:IS s):Ext s s:=⟨h,⟨[],by simp⟩,fun _ _ _ _=>rfl⟩
theorem Ext.trans {a b c:Str×List Int}(h1:Ext a b)(h2:Ext b c):Ext a c:=by
 obtain ⟨t,ht⟩:=h1.p
 obtain ⟨u,hu⟩:=h2.p
 refine ⟨h2.i,⟨t++u,by rw [hu,ht,List.append_assoc]⟩,fun x a b h=>?_⟩
 have:=h1.k x a b h
 rw [h2.k x a b (by rw [this]; exact h),this]
theorem lay1_ext {s s':Str×List Int}{c:UInt8}{d:Int}(hs:IS s)(hc:97≤c.toNat∧c.toNat≤122)(h:lay1 s c d=some s'):Ext s s'∧c∈s'.1∧lk s'.2 c=d∧∀ x∈s'.1,x∈s.1∨x=c:=by
 have hi:=(lay1_IS hs hc h).1
 unfold lay1 at h
 split at h
 ·cases h
 ·rename_i q
  cases h
  refine ⟨⟨hi,?_,fun x a b h3=>?_⟩,?_,?_,?_⟩
  ·by_cases m:c∈s.1
   ·exact ⟨[],by simp [m]⟩
   ·exact ⟨[c],by simp [m]⟩
  ·show lk (s.2.set _ _) x=_
   rw [lk_set hs.l hc ⟨a,b⟩]
   by_cases e:x=c
   ·subst e
    rw [if_pos rfl]
    exact Classical.byContradiction fun z=>q ⟨h3,fun w=>z w.symm⟩
   ·rw [if_neg e]
  ·by_cases m:c∈s.1<;>simp [m]
  ·show lk (s.2.set _ _) c=_
   rw [lk_set hs.l hc hc,if_pos rfl]
  ·intro x hx
   by_cases m:c∈s.1
   ·simp only [if_pos m] at hx; exact .inl hx
   ·simp only [if_neg m] at hx; simpa using hx
theorem layG_ext {g:Str}{ds:List Int}{s s':Str×List Int}(hs:IS s)(hg:LT g)(hd:∀ d∈ds,d≠0)(h:layG g ds s=some s') :
  Ext s s'∧g.length=ds.length∧(∀ j:Nat,j<g.length→ix g (j:Int)∈s'.1∧lk s'.2 (ix g (j:Int))=ix ds (j:Int))∧∀ x∈s'.1,x∈s.1∨x∈g:=by
 unfold layG at h
 split at h
 ·rename_i hl
  obtain ⟨a,b,c⟩:=foN_ind (fun n z=>Ext s z∧(∀ j:Nat,j<n→ix g (j:Int)∈z.1∧lk z.2 (ix g (j:Int))=ix ds (j:Int))∧∀ x∈z.1,x∈s.1∨x∈g) ⟨Ext.rfl_ hs,fun j hj=>absurd hj (Nat.not_lt_zero _),fun x hx=>.inl hx⟩ g.length
   (fun n z z' hn hI hz=>by
    obtain ⟨a,b,c⟩:=hI
    obtain ⟨p,q,r,t⟩:=lay1_ext a.i (hg.2 _ (ix_mem hn)) hz
    refine ⟨a.trans p,fun j hj=>?_,fun x hx=>?_⟩
    ·by_cases e:j=n
     ·subst e; exact ⟨q,r⟩
     ·obtain ⟨m,l⟩:=b j (by omega)
      obtain ⟨u,hu⟩:=p.p
      have hb:=hg.2 _ (ix_mem (show j<g.length by omega))
      refine ⟨by rw [hu]; exact List.mem_append_left _ m,?_⟩
      rw [p.k _ hb.1 hb.2 (by rw [l]; exact hd _ (ix_mem (by omega))),l]
    ·rcases t x hx with y | y
     ·exact c x y
     ·rw [y]; exact .inr (ix_mem hn)) h
  exact ⟨a,hl,b,c⟩
 ·cases h
theorem layA_ext {gs:List Str}{dss:List (List Int)}{s s':Str×List Int}(hs:IS s)(hl:gs.length=dss.length)(hg:∀ g∈gs,LT g)(hd:∀ ds∈dss,∀ d∈ds,d≠0)(h:layA gs dss s=some s') :
  Ext s s'∧(∀ x:Nat,x<gs.length→(ix gs (x:Int)).length=(ix dss (x:Int)).length∧∀ j:Nat,j<(ix gs (x:Int)).length→ix (ix gs (x:Int)) (j:Int)∈s'.1∧lk s'.2 (ix (ix gs (x:Int)) (j:Int))=ix (ix dss (x:Int)) (j:Int))∧∀ y∈s'.1,y∈s.1∨∃ g∈gs,y∈g:=by
 unfold layA at h
 exact foN_ind (fun n z=>Ext s z∧(∀ x:Nat,x<n→(ix gs (x:Int)).length=(ix dss (x:Int)).length∧∀ j:Nat,j<(ix gs (x:Int)).length→ix (ix gs (x:Int)) (j:Int)∈z.1∧lk z.2 (ix (ix gs (x:Int)) (j:Int))=ix (ix dss (x:Int)) (j:Int))∧∀ y∈z.1,y∈s.1∨∃ g∈gs,y∈g) ⟨Ext.rfl_ hs,fun j hj=>absurd hj (Nat.not_lt_zero _),fun x hx=>.inl hx⟩ gs.length
  (fun n z z' hn hI hz=>by
   obtain ⟨a,b,c⟩:=hI
   have hgn:=hg _ (ix_mem hn)
   obtain ⟨p,q,r,t⟩:=layG_ext a.i hgn (hd _ (ix_mem (by omega))) hz
   refine ⟨a.trans p,fun x hx=>?_,fun y hy=>?_⟩
   ·by_cases e:x=n
    ·subst e; exact ⟨q,r⟩
    ·obtain ⟨l,m⟩:=b x (by omega)
     refine ⟨l,fun j hj=>?_⟩
     obtain ⟨u,v⟩:=m j hj
     obtain ⟨w,hw⟩:=p.p
     have hb:=(hg _ (ix_mem (show x<gs.length by omega))).2 _ (ix_mem hj)
     refine ⟨by rw [hw]; exact List.mem_append_left _ u,?_⟩
     rw [p.k _ hb.1 hb.2 (by rw [v]; exact hd _ (ix_mem (by omega)) _ (ix_mem (by omega))),v]
   ·rcases t y hy with w | w
    ·exact c y w
    ·exact .inr ⟨_,ix_mem hn,w⟩) h
theorem index_w {ds:List Int}{k:Int}(hl:ds.length≤100)(h1:∀ d∈ds,1≤d∧d≤4096)(h0:0≤k)(hk:k≤65536):Zg ds k=some (idx ds k):=by
 have hpos:∀ j,1≤pr (ds.drop j):=fun j=>pr_pos fun d hd=>(h1 d (List.mem_of_mem_drop hd)).1
 unfold Zg
 rw [if_pos (by omega)]
 have:=loopN (f:=fun s:Int×List Int×Int=>Zg_L1 ds s.1 s.2.1 s.2.2) (r:=idx ds k)
  (fun j=>(k / pr (ds.drop (ds.length - j)),List.replicate (ds.length - j) 0++idx (ds.drop (ds.length - j)) k,(ds.length:Int) - 1 - j)) ds.length
  (fun j hj=>by
   obtain ⟨i,hi⟩:∃ i,i=ds.length - (j+1):=⟨_,rfl⟩
   have e1:ds.length - j=i+1:=by omega
   have e2:(ds.length:Int) - 1 - (j:Int)=(i:Int):=by omega
   have hi2:i<ds.length:=by omega
   have hm:=h1 _ (ix_mem hi2)
   have hp:=hpos (i+1)
   have hd:ds.drop i=ix ds (i:Int)::ds.drop (i+1):=by rw [List.drop_eq_getElem_cons hi2,ix_at hi2]
   have hq:0≤k / pr (ds.drop (i+1)):=Int.ediv_nonneg h0 (by omega)
   have hq2:k / pr (ds.drop (i+1))≤65536:=Int.le_trans (Int.ediv_le_self _ h0) hk
   simp only [Zg_L1,e1,e2,← hi]
   rw [if_pos (by simp),if_pos (by omega),if_pos (by omega),if_pos (by simp; omega)]
   have e3:(k / pr (ds.drop (i+1))).tdiv (ix ds (i:Int))=k / pr (ds.drop i):=by
    rw [Int.tdiv_eq_ediv_of_nonneg hq,hd]; exact (two_ hp hm.1).1.symm
   have e4:(k / pr (ds.drop (i+1))).tmod (ix ds (i:Int))=k / pr (ds.drop (i+1)) % ix ds (i:Int):=Int.tmod_eq_emod_of_nonneg hq
   have hq3:0≤k / pr (ds.drop i):=Int.ediv_nonneg h0 (by have:=hpos i; omega)
   have hq4:k / pr (ds.drop i)≤65536:=Int.le_trans (Int.ediv_le_self _ h0) hk
   rw [e3,e4,w64_id (by omega) (by omega),w64_id (by omega) (by omega)]
   congr 4
   ·rw [hd,List.set_append_left _ _ (by simp),List.replicate_succ',List.set_append_right _ _ (by simp)]
    simp [idx]
   ·omega)
  (by
   simp only [Zg_L1,Nat.sub_self,List.drop_zero,List.replicate_zero,List.nil_append]
   rw [if_neg (by simp; omega)])
  (s:=(k,List.replicate (ds.length:Int).toNat 0,w64 ((ds.length:Int) - 1))) (by
   rw [w64_id (by omega) (by omega)]
   simp [pr,idx])
 rw [this]
 rfl
def wk (ls:List Int)(s:Int)(j:Nat):Option Int:=if s*ix ls (j:Int)>65536 then none else some (s*ix ls (j:Int))
theorem pr_snoc {ls:List Int}{j:Nat}(h:j<ls.length):pr (ls.take (j+1))=pr (ls.take j)*ix ls (j:Int):=by
 rw [List.take_succ_eq_append_getElem h,pr_app,ix_at h]; simp [pr]
theorem foP {ls:List Int}(h:∀ d∈ls,1≤d):∀ n,n≤ls.length→foN (wk ls) n 1=if pr (ls.take n)≤65536 then some (pr (ls.take n)) else none
 | 0,_=>by simp [foN,pr]
 | n+1,hn=>by
  have hp:1≤pr (ls.take n):=pr_pos fun d hd=>h d (List.mem_of_mem_take hd)
  have hd:=h _ (ix_mem (show n<ls.length by omega))
  rw [foN,foP h n (by omega),pr_snoc (by omega)]
  by_cases c:pr (ls.take n)≤65536
  ·rw [if_pos c]
   simp only [Option.bind_some,wk]
   by_cases e:pr (ls.take n)*ix ls (n:Int)≤65536
   ·rw [if_neg (by omega),if_pos e]
   ·rw [if_pos (by omega),if_neg e]
  ·rw [if_neg c,if_neg]
   ·rfl
   ·have:=mul_ge (a:=pr (ls.take n)) (b:=ix ls (n:Int)) (by omega) hd
    omega
theorem work_s {ls:List Int}(hl:ls.length≤100)(h:∀ d∈ls,1≤d∧d≤4096) :
  (pr ls≤65536∧loopM (fun s:Int×Int=>Z2_L4 ls s.1 s.2) (1,0)=some (.inr ())) ∨
  (¬ pr ls≤65536∧∃ e,loopM (fun s:Int×Int=>Z2_L4 ls s.1 s.2) (1,0)=some (.inl e)∧e.2.2=false):=by
 have hf:=foP (fun d hd=>(h d hd).1) ls.length (Nat.le_refl _)
 rw [List.take_length] at hf
 rcases loop_foN (f:=fun s:Int×Int=>Z2_L4 ls s.1 s.2) (wk ls) (fun s i=>(s,i)) (fun _=>()) (fun e=>e.2.2=false) (fun j s=>1≤s∧s≤65536) ls.length
  (fun j s hj hI=>by
   have hm:=h _ (ix_mem hj)
   simp only [Z2_L4]
   rw [if_pos (by simp; omega),if_pos (by omega),w64_mul (by omega) (by omega) (by omega) (by omega),w64k (by unfold big; omega)]
   unfold wk
   by_cases c:s*ix ls (j:Int)>65536
   ·rw [if_pos c,if_pos (decide_eq_true c)]
    exact .inr ⟨rfl,_,rfl,rfl⟩
   ·rw [if_neg c,if_neg (by simpa using c)]
    have:=mul_ge (a:=s) (b:=ix ls (j:Int)) (by omega) hm.1
    exact .inl ⟨_,rfl,rfl,by omega,by omega⟩)
  (fun s hI=>by simp only [Z2_L4]; rw [if_neg (by simp)])
  (s:=1) ⟨by omega,by omega⟩ with ⟨s',a1,a2,a3⟩|⟨a1,e,a2,a3⟩
 ·rw [hf] at a1
  refine .inl ⟨?_,a2⟩
  split at a1
  ·assumption
  ·cases a1
 ·rw [hf] at a1
  refine .inr ⟨?_,e,a2,a3⟩
  split at a1
  ·cases a1
  ·assumption
theorem work_i {f:Str}{lens:List Int}(hl:f.length≤100)(hf:∀ c∈f,97≤c.toNat∧c.toNat≤122)(h:∀ d∈f.map (lk lens),1≤d∧d≤4096) :
  (pr (f.map (lk lens))≤65536∧loopM (fun s:List Int×Int×Int=>Z3_L3 f lens s.1 s.2.1 s.2.2) ([],1,0)=some (.inr (f.map (lk lens)))) ∨
  (¬ pr (f.map (lk lens))≤65536∧∃ e,loopM (fun s:List Int×Int×Int=>Z3_L3 f lens s.1 s.2.1 s.2.2) ([],1,0)=some (.inl e)∧e.2=false):=by
 obtain ⟨ls,hls⟩:∃ ls,ls=f.map (lk lens):=⟨_,rfl⟩
 rw [← hls] at h ⊢
 have hll:ls.length=f.length:=by rw [hls]; simp
 have hp:=foP (fun d hd=>(h d hd).1) ls.length (Nat.le_refl _)
 rw [List.take_length] at hp
 rcases loop_foN (f:=fun s:List Int×Int×Int=>Z3_L3 f lens s.1 s.2.1 s.2.2) (wk ls) (fun s i=>(ls.take i.toNat,s,i)) (fun _=>ls) (fun e=>e.2=false) (fun j s=>1≤s∧s≤65536) ls.length
  (fun j s hj hI=>by
   have hm:=h _ (ix_mem hj)
   have hc:=hf _ (ix_mem (show j<f.length by omega))
   have hx:ix lens (((ix f (j:Int)).toNat:Int) - 97)=ix ls (j:Int):=by
    rw [hls,ix_map (by omega),ix_at (xs:=f) (by omega)]; rfl
   have hbt:bt f (j:Int)=((ix f (j:Int)).toNat:Int):=rfl
   simp only [Z3_L3]
   rw [if_pos (by simp; omega),if_pos (by omega),hbt,wrap_c hc,if_pos (by omega),hx,if_pos (by simp; omega),w64_mul (by omega) (by omega) (by omega) (by omega),w64k (by unfold big; omega)]
   unfold wk
   by_cases c:s*ix ls (j:Int)>65536
   ·rw [if_pos c,if_pos (decide_eq_true c)]
    exact .inr ⟨rfl,_,rfl,rfl⟩
   ·rw [if_neg c,if_neg (by simpa using c)]
    have:=mul_ge (a:=s) (b:=ix ls (j:Int)) (by omega) hm.1
    refine .inl ⟨_,rfl,?_,by omega,by omega⟩
    rw [Int.toNat_natCast,Int.toNat_natCast,List.take_succ_eq_append_getElem hj,ix_at hj])
  (fun s hI=>by simp only [Z3_L3]; rw [if_neg (by simp; omega)]; simp)
  (s:=1) ⟨by omega,by omega⟩ with ⟨s',a1,a2,a3⟩|⟨a1,e,a2,a3⟩
 ·rw [hp] at a1
  refine .inl ⟨?_,a2⟩
  split at a1
  ·assumption
  ·cases a1
 ·rw [hp] at a1
  refine .inr ⟨?_,e,a2,a3⟩
  split at a1
  ·cases a1
  ·assumption
theorem stepsOf_i {f:form}{g:Str}{p:List Int}(hf:f.order.length≤100)(hg:g.length≤p.length)(hp:p.length≤100):∃ r,Zi f g p=some r:=by
 unfold Zi
 rw [if_pos (by omega)]
 obtain ⟨r,h1,h2⟩:=loopI (f:=fun s:List Int×Int=>Zi_L1 f g p s.1 s.2) (fun j s=>s.1.length=f.order.length∧s.2=(j:Int)) f.order.length (Post:=fun _=>True)
  (fun j s hj hI=>by
   obtain ⟨x,i⟩:=s
   obtain ⟨h1,rfl⟩:=hI
   dsimp only at h1
   simp only [Zi_L1]
   rw [if_pos (by simp; omega)]
   obtain ⟨r,g1,g2⟩:=loopI (f:=fun s:List Int×Int=>Zi_L2 f g p (j:Int) s.1 s.2) (fun k s=>s.1.length=f.order.length∧s.2=(k:Int)) g.length (Post:=fun r=>r.length=f.order.length)
    (fun k s hk hI=>by
     obtain ⟨x,i⟩:=s
     obtain ⟨h1,rfl⟩:=hI
     dsimp only at h1
     simp only [Zi_L2,Zi_J5]
     rw [if_pos (by simp; omega),if_pos (by omega),if_pos (by omega)]
     split
     ·rw [if_pos (by simp; omega),if_pos (by omega)]
      exact ⟨_,rfl,by simpa using h1,by rw [w64k (by unfold big; omega)]⟩
     ·exact ⟨_,rfl,h1,by rw [w64k (by unfold big; omega)]⟩)
    (fun s hI=>by
     obtain ⟨x,i⟩:=s
     obtain ⟨h1,rfl⟩:=hI
     simp only [Zi_L2]
     rw [if_neg (by simp)]
     exact ⟨_,rfl,h1⟩)
    (s:=(x,0)) ⟨h1,rfl⟩
   rw [g1]
   exact ⟨_,rfl,g2,by rw [w64k (by unfold big; omega)]⟩)
  (fun s hI=>by
   obtain ⟨x,i⟩:=s
   obtain ⟨h1,rfl⟩:=hI
   simp only [Zi_L1]
   rw [if_neg (by simp)]
   exact ⟨_,rfl,trivial⟩)
  (s:=(List.replicate (f.order.length:Int).toNat 0,0)) ⟨by simp,rfl⟩
 rw [h1]
 exact ⟨r,rfl⟩
def LayOk (gs:List Str)(o:Str)(dss:List (List Int))(s:Str×List Int):Prop:=layA gs dss (o,List.replicate 26 0)=some s∧pr (s.1.map (lk s.2))≤65536
theorem rep_IS {o:Str}(hn:o.Nodup)(hc:∀ c∈o,97≤c.toNat∧c.toNat≤122):IS (o,List.replicate 26 0):=by
 refine ⟨rfl,hn,hc,fun c h1 h2 _=>?_⟩
 unfold lk
 have e:((c.toNat:Int) - 97)=((c.toNat - 97:Nat):Int):=by omega
 rw [e,ix_at (by rw [List.length_replicate]; omega)]
 exact List.getElem_replicate _
theorem rep_map {o:Str}(hc:∀ c∈o,97≤c.toNat∧c.toNat≤122):List.replicate (o.length:Int).toNat (0:Int)=o.map (lk (List.replicate 26 0)):=by
 rw [Int.toNat_natCast]
 symm
 rw [List.eq_replicate_iff]
 refine ⟨by simp,fun b hb=>?_⟩
 obtain ⟨c,h,rfl⟩:=List.mem_map.1 hb
 obtain ⟨h1,h2⟩:=hc c h
 unfold lk
 have e:((c.toNat:Int) - 97)=((c.toNat - 97:Nat):Int):=by omega
 rw [e,ix_at (by rw [List.length_replicate]; omega)]
 exact List.getElem_replicate _
theorem nodup_of {gs:List Str}{o:Str}(h:∀ i∈List.range o.length,OL gs o i):o.Nodup:=by
 refine List.pairwise_iff_getElem.2 fun i j hi hj hij e=>?_
 have:=(h j (List.mem_range.2 hj)).2
 rw [ix_at hj] at this
 refine this ?_
 rw [← e,List.mem_take_iff_getElem]
 exact ⟨i,by omega,rfl⟩
structure Laid (gs:List Str)(o:Str)(dss:List (List Int))(s:Str×List Int):Prop where
 i:IS s
 l:s.1.length≤42
 p:∃ t,s.1=o++t
 g:∀ x:Nat,x<gs.length→(ix gs (x:Int)).length=(ix dss (x:Int)).length∧∀ j:Nat,j<(ix gs (x:Int)).length→ix (ix gs (x:Int)) (j:Int)∈s.1∧lk s.2 (ix (ix gs (x:Int)) (j:Int))=ix (ix dss (x:Int)) (j:Int)
 d:∀ d∈s.1.map (lk s.2),1≤d∧d≤4096
theorem laid_of {gs:List Str}{o:Str}{dss:List (List Int)}{s:Str×List Int}(hp:PO gs o)(hl:gs.length=dss.length)(hd:∀ ds∈dss,OKD ds)(h:layA gs dss (o,List.replicate 26 0)=some s):Laid gs o dss s:=by
 obtain ⟨p1,p2,p3,p4⟩:=hp
 have hs:=rep_IS (nodup_of p4) p2.2
 obtain ⟨a,b,c⟩:=layA_ext hs hl p3 (fun ds hds d hd'=>by have:=(hd ds hds).2.1 d hd'; omega) h
 have hlen:s.1.length≤42:=by
  rcases layA_s p1 p3 hl (s:=(o,List.replicate 26 0)) p2.1 hs with ⟨s',q1,_,q3,_⟩|⟨q1,_⟩
  ·rw [h] at q1; cases q1; exact q3
  ·rw [h] at q1; cases q1
 refine ⟨a.i,hlen,a.p,b,fun d hdm=>?_⟩
 obtain ⟨y,hy,rfl⟩:=List.mem_map.1 hdm
 have:∃ g∈gs,y∈g:=by
  rcases c y hy with q | q
  ·obtain ⟨k,hk,e⟩:=List.getElem_of_mem q
   have:=(p4 k (List.mem_range.2 hk)).1
   rw [ix_at hk,e] at this
   exact this
  ·exact q
 obtain ⟨g,hg,hyg⟩:=this
 obtain ⟨x,hx,rfl⟩:=List.getElem_of_mem hg
 obtain ⟨j,hj,rfl⟩:=List.getElem_of_mem hyg
 have hb:=b x hx
 rw [ix_at hx] at hb
 have hb2:=(hb.2 j hj).2
 rw [ix_at hj] at hb2
 rw [hb2]
 exact (hd _ (ix_mem (show x<dss.length by omega))).2.mem (ix_mem (by rw [← hb.1]; exact hj))
theorem lengths_s {gs:List Str}{o:Str}{dss:List (List Int)}(hp:PO gs o)(hl:gs.length=dss.length)(hd:∀ ds∈dss,OKD ds) :
  (∃ s,LayOk gs o dss s∧Z2 gs o dss=some (s.1,s.1.map (lk s.2),true))∨((∀ s,¬ LayOk gs o dss s)∧∃ e,Z2 gs o dss=some e∧e.2.2=false):=by
 obtain ⟨p1,p2,p3,p4⟩:=hp
 have hs:=rep_IS (nodup_of p4) p2.2
 have ho:=p2.1
 unfold Z2
 rw [if_pos (by omega),rep_map p2.2]
 rcases layA_s p1 p3 hl (s:=(o,List.replicate 26 0)) p2.1 hs with ⟨s,a1,a2,a3,a4⟩|⟨a1,e,a2,a3⟩
 ·have hL:=laid_of ⟨p1,p2,p3,p4⟩ hl hd a1
  simp only at a2
  rw [a2]
  simp only [Option.bind_some,Z2_J11]
  rcases work_s (ls:=s.1.map (lk s.2)) (by simp; omega) hL.d with ⟨w1,w2⟩|⟨w1,e,w2,w3⟩
  ·rw [w2]
   exact .inl ⟨s,⟨a1,w1⟩,rfl⟩
  ·rw [w2]
   refine .inr ⟨fun s' h'=>?_,e,rfl,w3⟩
   have:=h'.1
   rw [a1] at this; cases this
   exact w1 h'.2
 ·simp only at a2
  rw [a2]
  refine .inr ⟨fun s' h'=>?_,e,rfl,a3⟩
  have:=h'.1
  rw [a1] at this; cases this
theorem layOut_i {f:Str}{dss:List (List Int)}(hb:f.length≤1048576)(hd:∀ ds∈dss,OKD ds) :
  ((parts f).2.2=true∧(parts f).1.length=dss.length∧∃ s,LayOk (parts f).1 (parts f).2.1 dss s∧OKD ((s.1.map (lk s.2)).take (parts f).2.1.length)∧∃ r,Z3 f dss=some (r,true)∧r.dims=(s.1.map (lk s.2)).take (parts f).2.1.length) ∨
  (¬ ((parts f).2.2=true∧(parts f).1.length=dss.length∧∃ s,LayOk (parts f).1 (parts f).2.1 dss s∧OKD ((s.1.map (lk s.2)).take (parts f).2.1.length))∧∃ r,Z3 f dss=some (r,false)):=by
 obtain ⟨b,hbb⟩:∃ b,b=parts f:=⟨_,rfl⟩
 have hpo:b.2.2=true→PO b.1 b.2.1:=by
  rw [hbb]; unfold parts
  split
  ·intro h; cases h
  ·split
   ·intro _; assumption
   ·intro h; cases h
 unfold Z3
 rw [parts_i hb,← hbb]
 simp only [Option.bind_some]
 by_cases c1:b.2.2=true∧b.1.length=dss.length
 ·obtain ⟨c1,c2⟩:=c1
  rw [if_neg (by simp [c1,c2])]
  have hP:=hpo c1
  obtain ⟨p1,p2,p3,p4⟩:=hP
  have hs:=rep_IS (nodup_of p4) p2.2
  rcases layA_i (gs:=b.1) (b:=b) (dss:=dss) rfl p1 p3 c2 (s:=(b.2.1,List.replicate 26 0)) p2.1 rfl with ⟨s,a1,a2,a3,a4⟩|⟨a1,e,a2,a3⟩
  ·have hL:=laid_of ⟨p1,p2,p3,p4⟩ c2 hd a1
   simp only at a2
   rw [a2]
   simp only [Option.bind_some,Z3_J7]
   rcases work_i (f:=s.1) (lens:=s.2) (by omega) hL.i.c hL.d with ⟨w1,w2⟩|⟨w1,e,w2,w3⟩
   ·rw [w2]
    simp only [Option.bind_some,Z3_J8]
    obtain ⟨t,ht⟩:=hL.p
    have hlen:b.2.1.length≤(s.1.map (lk s.2)).length:=by rw [ht]; simp
    have hl42:(s.1.map (lk s.2)).length≤42:=by simpa using hL.l
    rw [if_pos (by omega),sub0,clone_i (by simp; omega)]
    simp only [Option.bind_some]
    rw [dims_i (by simp only [List.length_take]; unfold big; omega)]
    simp only [Option.bind_some]
    by_cases c3:OKD ((s.1.map (lk s.2)).take b.2.1.length)
    ·rw [decide_eq_true c3,if_neg (by simp)]
     refine .inl ⟨c1,c2,s,⟨a1,w1⟩,c3,?_⟩
     obtain ⟨r,h1,_⟩:=loopI (f:=fun z:List (List Int)×Int=>Z3_L4 dss b s.1 (s.1.map (lk s.2)) ((s.1.map (lk s.2)).take b.2.1.length) z.1 z.2) (fun j z=>z.1.length=j∧z.2=(j:Int)) b.1.length (Post:=fun _=>True)
      (fun j z hj hI=>by
       obtain ⟨x,i⟩:=z
       obtain ⟨h1,rfl⟩:=hI
       dsimp only at h1
       simp only [Z3_L4]
       have hok:=hd _ (ix_mem (show j<dss.length by omega))
       rw [if_pos (by simp; omega),if_pos (by omega),if_pos (by omega),steps_i hok]
       simp only [Option.bind_some]
       have hgl:=(hL.g j hj).1
       have hgl6:=(p3 _ (ix_mem hj)).1
       obtain ⟨q,hq⟩:=stepsOf_i (f:=(⟨b.1,b.2.1,s.1,s.1.map (lk s.2),(s.1.map (lk s.2)).take b.2.1.length,x,[]⟩:form)) (g:=ix b.1 (j:Int)) (p:=stp (ix dss (j:Int))) (by have:=hL.l; show s.1.length≤100; omega) (by rw [stp_len]; omega) (by rw [stp_len]; omega)
       rw [hq]
       simp only [Option.bind_some]
       rw [if_pos (by simp; omega),w64k (by unfold big; omega)]
       exact ⟨_,rfl,by simp; omega,rfl⟩)
      (fun z hI=>by
       obtain ⟨x,i⟩:=z
       obtain ⟨h1,rfl⟩:=hI
       simp only [Z3_L4]
       rw [if_neg (by simp)]
       exact ⟨_,rfl,trivial⟩)
      (s:=([],0)) ⟨rfl,rfl⟩
     rw [h1]
     simp only [Option.bind_some,Z3_J9]
     rw [steps_i c3]
     simp only [Option.bind_some]
     obtain ⟨q,hq⟩:=stepsOf_i (f:=(⟨b.1,b.2.1,s.1,s.1.map (lk s.2),(s.1.map (lk s.2)).take b.2.1.length,r,[]⟩:form)) (g:=b.2.1) (p:=stp ((s.1.map (lk s.2)).take b.2.1.length)) (by have:=hL.l; show s.1.length≤100; omega) (by rw [stp_len]; simp only [List.length_take]; omega) (by rw [stp_len]; simp only [List.length_take]; omega)
     rw [hq]
     exact ⟨_,rfl,rfl⟩
    ·rw [decide_eq_false c3,if_pos (by simp)]
     refine .inr ⟨?_,_,rfl⟩
     rintro ⟨_,_,s',h1,h2⟩
     have:=h1.1
     rw [a1] at this; cases this
     exact c3 h2
   ·rw [w2]
    obtain ⟨e1,e2⟩:=e
    simp only at w3; subst w3
    refine .inr ⟨?_,_,rfl⟩
    rintro ⟨_,_,s',h1,h2⟩
    have:=h1.1
    rw [a1] at this; cases this
    exact w1 h1.2
  ·simp only at a2
   rw [a2]
   obtain ⟨e1,e2⟩:=e
   simp only at a3; subst a3
   refine .inr ⟨?_,_,rfl⟩
   rintro ⟨_,_,s',h1,h2⟩
   have:=h1.1
   rw [a1] at this; cases this
 ·rw [if_pos]
  ·exact .inr ⟨fun z=>c1 ⟨z.1,z.2.1⟩,_,rfl⟩
  ·cases q:b.2.2
   ·rfl
   ·have:b.1.length≠dss.length:=fun z=>c1 ⟨q,z⟩
    simp; omega
theorem lplace_s {g f:Str}{vs:List Int}(hg:g.length≤6)(hf:f.length≤42)(hv:vs.length=f.length)(hn:f.Nodup)(hm:∀ c∈g,c∈f):Ze g f vs=some (g.map fun c=>ix vs ((f.idxOf c:Nat):Int)):=by
 unfold Ze
 rw [loopN (f:=fun s:List Int×Int=>Ze_L1 g f vs s.1 s.2) (r:=g.map fun c=>ix vs ((f.idxOf c:Nat):Int)) (fun i=>((g.take i).map fun c=>ix vs ((f.idxOf c:Nat):Int),(i:Int))) g.length
  (fun i hi=>by
   obtain ⟨c,hc⟩:∃ c,c=g[i]:=⟨_,rfl⟩
   have hcg:ix g (i:Int)=c:=by rw [ix_at hi,hc]
   have hcm:c∈f:=hm c (by rw [hc]; exact List.getElem_mem hi)
   have hp:f.idxOf c<f.length:=List.idxOf_lt_length_iff.2 hcm
   obtain ⟨x0,hx0⟩:∃ x0,x0=(g.take i).map fun c=>ix vs ((f.idxOf c:Nat):Int):=⟨_,rfl⟩
   have hx0l:x0.length≤6:=by rw [hx0]; simp; omega
   simp only [Ze_L1]
   rw [if_pos (by simp; omega),← hx0]
   rw [loopN (f:=fun s:List Int×Int=>Ze_L2 g f vs (i:Int) s.1 s.2) (r:=x0++[ix vs ((f.idxOf c:Nat):Int)]) (fun k=>(x0++(if f.idxOf c<k then [ix vs ((f.idxOf c:Nat):Int)] else []),(k:Int))) f.length
    (fun k hk=>by
     have hbt:(bt f (k:Int)==bt g (i:Int))=decide (f[k]=c):=by
      rw [show bt f (k:Int)=((ix f (k:Int)).toNat:Int) from rfl,show bt g (i:Int)=((ix g (i:Int)).toNat:Int) from rfl,byte_inj,hcg,ix_at hk]
     have hiff:f[k]=c↔f.idxOf c=k:=by
      constructor
      ·intro e
       rw [← e]
       exact hn.idxOf_getElem k hk
      ·intro e; subst e; exact List.getElem_idxOf hp
     simp only [Ze_L2,Ze_J5]
     rw [if_pos (by simp; omega),if_pos (by omega),if_pos (by omega),hbt,w64k (by unfold big; omega)]
     by_cases q:f.idxOf c=k
     ·rw [if_pos (decide_eq_true (hiff.2 q)),if_pos (by omega),if_neg (show ¬ f.idxOf c<k by omega),if_pos (show f.idxOf c<k+1 by omega),List.append_nil,if_pos (by simp; omega),q]
     ·rw [if_neg (by simpa using fun z=>q (hiff.1 z))]
      by_cases r:f.idxOf c<k
      ·rw [if_pos r,if_pos (by omega)]
      ·rw [if_neg r,if_neg (by omega)])
    (by simp only [Ze_L2]; rw [if_neg (by simp),if_pos hp])
    (s:=(x0,0)) (by simp)]
   simp only [Option.bind_some,Ze_J6]
   rw [w64k (by unfold big; omega),List.take_succ_eq_append_getElem hi,List.map_append,← hx0,← hc]
   rfl)
  (by simp only [Ze_L1]; rw [if_neg (by simp),List.take_length])
  (s:=([],0)) rfl]
 rfl
theorem IV_at {ds is:List Int}(h:IV ds is){j:Nat}(hj:j<ds.length):0≤ix is (j:Int)∧ix is (j:Int)<ix ds (j:Int):=by
 induction ds generalizing is j with
 | nil=>simp at hj
 | cons d ds ih=>cases is with
  | nil=>exact h.elim
  | cons i is =>
   cases j with
   | zero=>simpa [ix] using h.1
   | succ j =>
    have:=ih h.2 (j:=j) (by simpa using hj)
    simpa [ix] using this
theorem IV_of {ds is:List Int}(hl:is.length=ds.length)(h:∀ j:Nat,j<ds.length→0≤ix is (j:Int)∧ix is (j:Int)<ix ds (j:Int)):IV ds is:=by
 induction ds generalizing is with
 | nil=>cases is with
  | nil=>trivial
  | cons=>simp at hl
 | cons d ds ih=>cases is with
  | nil=>simp at hl
  | cons i is =>
   refine ⟨by simpa [ix] using h 0 (by simp),ih (by simpa using hl) fun j hj=>?_⟩
   have:=h (j+1) (by simpa using hj)
   simpa [ix] using this
theorem pr_take_le {ls:List Int}(h:∀ d∈ls,1≤d)(k:Nat):1≤pr (ls.take k)∧pr (ls.take k)≤pr ls:=by
 have h2:1≤pr (ls.drop k):=pr_pos fun d hd=>h d (List.mem_of_mem_drop hd)
 have h3:1≤pr (ls.take k):=pr_pos fun d hd=>h d (List.mem_of_mem_take hd)
 exact ⟨h3,by rw [pr_take_drop ls k]; exact mul_ge (by omega) h2⟩
def CoOk (f:Str)(dss:List (List Int))(s:Str×List Int):Prop:=(parts f).2.2=true∧(parts f).1.length=dss.length∧LayOk (parts f).1 (parts f).2.1 dss s∧OKD ((s.1.map (lk s.2)).take (parts f).2.1.length)
theorem contract_s {f:Str}{ts:List Tensor}(hb:f.length≤1048576)(ht:∀ t∈ts,TT t)(hn:ts.length≤6) :
  (∃ s,CoOk f (ts.map Tensor.Dims) s∧∃ d,Z5 f ts=some ⟨(s.1.map (lk s.2)).take (parts f).2.1.length,d⟩∧TOk ((s.1.map (lk s.2)).take (parts f).2.1.length) d)∨((¬ ∃ s,CoOk f (ts.map Tensor.Dims) s)∧Z5 f ts=some ⟨[],[]⟩):=by
 obtain ⟨dss,hdss⟩:∃ dss,dss=ts.map Tensor.Dims:=⟨_,rfl⟩
 have hd:∀ ds∈dss,OKD ds:=by
  intro ds h
  rw [hdss] at h
  obtain ⟨t,h1,rfl⟩:=List.mem_map.1 h
  exact (ht t h1).d
 have hdl:dss.length=ts.length:=by rw [hdss]; simp
 rw [← hdss]
 unfold CoOk
 obtain ⟨b,hbb⟩:∃ b,b=parts f:=⟨_,rfl⟩
 have hpo:b.2.2=true→PO b.1 b.2.1:=by
  rw [hbb]; unfold parts
  split
  ·intro h; cases h
  ·split
   ·intro _; assumption
   ·intro h; cases h
 unfold Z5
 rw [parts_s hb,← hbb]
 simp only [Option.bind_some]
 by_cases c1:b.2.2=true∧b.1.length=dss.length
 ·obtain ⟨c1,c2⟩:=c1
  rw [if_neg (by simp [c1]; omega)]
  have hP:=hpo c1
  have hP':=hP
  obtain ⟨p1,p2,p3,p4⟩:=hP'
  have L1:loopM (fun s:List (List Int)×Int=>Z5_L1 ts s.1 s.2) ([],0)=some (Sum.inr dss):=by
   refine loopN (f:=fun s:List (List Int)×Int=>Z5_L1 ts s.1 s.2) (fun k=>((ts.take k).map Tensor.Dims,(k:Int))) ts.length (fun k hk=>?_) ?_ rfl
   ·simp only [Z5_L1]
    rw [if_pos (by simp; omega),if_pos (by omega),tt_s (ht _ (ix_mem hk))]
    simp only [Option.bind_some]
    rw [if_neg (by simp),if_pos (by simp; omega),w64k (by unfold big; omega),List.take_succ_eq_append_getElem hk,List.map_append,ix_at hk]
    rfl
   ·simp only [Z5_L1]
    rw [if_neg (by simp),List.take_length,← hdss]
  rw [L1]
  simp only [Option.bind_some,Z5_J1]
  rcases lengths_s hP c2 hd with ⟨s,h1,h2⟩|⟨h1,e,h2,h3⟩
  ·rw [h2]
   simp only [Option.bind_some]
   have hL:=laid_of hP c2 hd h1.1
   obtain ⟨ls,hls⟩:∃ ls,ls=s.1.map (lk s.2):=⟨_,rfl⟩
   have hlsl:ls.length=s.1.length:=by rw [hls]; simp
   have hl42:=hL.l
   have hld:=hL.d
   obtain ⟨t,hpre⟩:=hL.p
   have hlen:b.2.1.length≤ls.length:=by rw [hlsl,hpre]; simp
   have hpr:=h1.2
   rw [← hls] at hpr hld ⊢
   have hl1:∀ d∈ls,1≤d:=fun d h=>(hld d h).1
   rw [if_pos (fun _=>by omega)]
   simp only [gcall,Bool.not_true,Bool.not_false,cond_true,Bool.false_or]
   rw [sub0,dims_s (by simp only [List.length_take]; unfold big; omega)]
   simp only [Option.bind_some]
   obtain ⟨dims,hdm⟩:∃ dims,dims=ls.take b.2.1.length:=⟨_,rfl⟩
   rw [← hdm]
   by_cases c3:OKD dims
   ·rw [decide_eq_true c3,if_neg (by simp),if_pos (by omega),new_s c3]
    simp only [Option.bind_some]
    refine .inl ⟨s,⟨c1,c2,h1,by rw [← hls,← hdm]; exact c3⟩,?_⟩
    rw [← hls,← hdm]
    have L2:loopM (fun z:Int×Int=>Z5_L2 (s.1,ls,true) z.1 z.2) (1,0)=some (pr ls):=by
     refine loopN (f:=fun z:Int×Int=>Z5_L2 (s.1,ls,true) z.1 z.2) (fun k=>(pr (ls.take k),(k:Int))) ls.length (fun k hk=>?_) ?_ (by simp [pr])
     ·have a1:=pr_take_le hl1 k
      have a2:=pr_take_le hl1 (k+1)
      have a3:=hld _ (ix_mem hk)
      simp only [Z5_L2]
      rw [if_pos (by simp; omega),if_pos (by omega),w64_mul (by omega) (by omega) (by omega) (by omega),w64k (by unfold big; omega),pr_snoc hk]
     ·simp only [Z5_L2]
      rw [if_neg (by simp),List.take_length]
    rw [L2]
    simp only [Option.bind_some,Z5_J2]
    have hP1:=pr_pos hl1
    have hdp:=c3.2.pos
    obtain ⟨r,q1,q2⟩:=fillL (f:=fun z:List Int×Int=>Z5_L3 ts b (s.1,ls,true) ⟨dims,List.replicate (pr dims).toNat 0⟩ (pr ls) z.1 z.2) (Post:=fun r=>RG (pr dims).toNat r) (pr dims).toNat (pr ls).toNat
     (fun j hj x hx=>by
      have hj2:(j:Int)<pr ls:=by omega
      simp only [Z5_L3]
      rw [if_pos (by simp; omega),index_w (by omega) hld (by omega) (by omega)]
      simp only [Option.bind_some]
      have hI:=idx_IV hl1 (j:Int)
      obtain ⟨vs,hvs⟩:∃ vs,vs=idx ls (j:Int):=⟨_,rfl⟩
      rw [← hvs] at hI ⊢
      have hvl:=hI.len
      obtain ⟨p,g1,_⟩:=loopI (f:=fun z:Int×Int=>Z5_L4 ts b (s.1,ls,true) vs z.1 z.2) (fun k z=>z.2=(k:Int)) b.1.length (Post:=fun _=>True)
       (fun k z hk hz=>by
        obtain ⟨y,i⟩:=z
        dsimp only at hz; subst hz
        simp only [Z5_L4]
        have hkt:k<ts.length:=by omega
        obtain ⟨e1,e2⟩:=hL.g k hk
        have hdk:ix dss (k:Int)=(ix ts (k:Int)).Dims:=by rw [hdss,ix_at (by simpa using hkt),ix_at hkt]; simp
        have hg6:=p3 _ (ix_mem hk)
        rw [if_pos (by simp; omega),if_pos (by omega),if_pos (by omega),lplace_s hg6.1 hl42 (by omega) hL.i.n (fun c hc=>by
         obtain ⟨m,hm,rfl⟩:=List.getElem_of_mem hc
         have:=(e2 m hm).1
         rwa [ix_at hm] at this)]
        simp only [Option.bind_some]
        obtain ⟨w,w1,_⟩:=get_s (ht _ (ix_mem hkt)) (is:=(ix b.1 (k:Int)).map fun c=>ix vs ((s.1.idxOf c:Nat):Int)) (by
         rw [← hdk]
         refine IV_of (by simp [e1]) fun m hm=>?_
         have hm2:m<(ix b.1 (k:Int)).length:=by omega
         obtain ⟨f1,f2⟩:=e2 m hm2
         have hp:s.1.idxOf (ix (ix b.1 (k:Int)) (m:Int))<s.1.length:=List.idxOf_lt_length_iff.2 f1
         have hv:=IV_at hI (j:=s.1.idxOf (ix (ix b.1 (k:Int)) (m:Int))) (by omega)
         have hx2:ix ((ix b.1 (k:Int)).map fun c=>ix vs ((s.1.idxOf c:Nat):Int)) (m:Int)=ix vs ((s.1.idxOf (ix (ix b.1 (k:Int)) (m:Int)):Nat):Int):=by
          rw [ix_at (by simpa using hm2),List.getElem_map,ix_at (xs:=ix b.1 (k:Int)) hm2]
         have hx3:ix ls ((s.1.idxOf (ix (ix b.1 (k:Int)) (m:Int)):Nat):Int)=ix (ix dss (k:Int)) (m:Int):=by
          rw [hls,ix_map hp,List.getElem_idxOf hp,f2]
         rw [hx2,← hx3]
         exact hv)
        rw [w1]
        simp only [Option.bind_some]
        obtain ⟨u,u1,_⟩:=times_s y w
        rw [u1]
        exact ⟨_,rfl,by rw [w64k (by unfold big; omega)]⟩)
       (fun z hz=>by
        obtain ⟨y,i⟩:=z
        dsimp only at hz; subst hz
        simp only [Z5_L4]
        rw [if_neg (by simp)]
        exact ⟨_,rfl,trivial⟩)
       (s:=(1,0)) rfl
      rw [g1]
      simp only [Option.bind_some,Z5_J4]
      have hIt:=IV_take hI b.2.1.length
      rw [← hdm] at hIt
      have hob:=ord_bd c3.2.1 hIt
      rw [if_pos (by omega),sub0,order_s c3 hIt]
      simp only [Option.bind_some,List.length_replicate]
      rw [if_pos (by omega)]
      obtain ⟨u,u1,u2⟩:=plus_s (ix x (ord dims (vs.take b.2.1.length))) p
      rw [u1]
      exact ⟨_,by rw [w64k (by unfold big; omega)]; rfl,hx.set u2 _⟩)
     (fun x hx=>by
      simp only [Z5_L3]
      rw [if_neg (by simp; omega)]
      exact ⟨_,rfl,hx⟩)
     (x:=List.replicate (pr dims).toNat 0) (RG.rep _)
    rw [q1]
    exact ⟨r,rfl,tok_of c3 q2⟩
   ·rw [decide_eq_false c3,if_pos (by simp)]
    refine .inr ⟨?_,rfl⟩
    rintro ⟨s',_,_,g1,g2⟩
    have:=g1.1
    rw [h1.1] at this; cases this
    rw [← hls,← hdm] at g2
    exact c3 g2
  ·rw [h2]
   obtain ⟨e1,e2,e3⟩:=e
   dsimp only at h3; subst h3
   simp only [Option.bind_some]
   rw [if_pos (fun z=>by simp at z)]
   simp only [gcall,Bool.not_true,Bool.not_false,cond_false,Option.bind_some,Bool.true_or,if_true]
   exact .inr ⟨fun ⟨s,_,_,z,_⟩=>h1 s z,trivial⟩
 ·rw [if_pos]
  ·exact .inr ⟨fun ⟨s,z1,z2,_⟩=>c1 ⟨z1,z2⟩,rfl⟩
  ·cases q:b.2.2
   ·rfl
   ·have:b.1.length≠dss.length:=fun z=>c1 ⟨q,z⟩
    simp; omega
theorem parts_len {f:Str}(h:(parts f).2.2=true):1≤(parts f).1.length∧(parts f).1.length≤6:=by
 unfold parts at h ⊢
 split
 ·rename_i e; rw [e] at h; cases h
 ·rename_i p e
  rw [e] at h
  simp only at h ⊢
  by_cases c:PO (spl p.1) p.2
  ·rw [if_pos c]
   refine ⟨?_,c.1⟩
   have:=spl_ne p.1
   cases q:spl p.1 with
   | nil=>exact absurd q this
   | cons=>simp
  ·rw [if_neg c] at h; cases h
theorem sh5 (b i j s n args):kindOfR_shape ⟨5,b,i,j,s⟩ n args=Z2q ⟨⟩ n args:=rfl
theorem op_form {n:Node}{out:List Tensor}(hc:Caps n out)(hop:n.Op=11):Res n out (Zd n (out.map Tensor.Dims)):=by
 have hA:Win n out.length→∀ t∈(n.Args.map fun a=>ix out a),TT t:=two_args hc
 have sh:∀ A:List Tensor,(∀ t∈A,TT t)→∃ r ok,kindOfR_shape ⟨5,false,0,0,[]⟩ n (A.map Tensor.Dims)=some (r,ok)∧(ok=true→∃ s,CoOk n.Form (A.map Tensor.Dims) s∧r=(s.1.map (lk s.2)).take (parts n.Form).2.1.length)∧(ok=false→¬ ∃ s,CoOk n.Form (A.map Tensor.Dims) s):=by
  intro A hT
  rw [sh5]
  unfold Z2q
  rcases layOut_i (f:=n.Form) (dss:=A.map Tensor.Dims) hc.f (fun ds h=>by
   obtain ⟨t,h1,rfl⟩:=List.mem_map.1 h
   exact (hT t h1).d) with ⟨q1,q2,s,q3,q4,r,q5,q6⟩|⟨q1,r,q2⟩
  ·rw [q5]
   exact ⟨_,_,rfl,fun _=>⟨s,⟨q1,q2,q3,q4⟩,q6⟩,fun h=>by cases h⟩
  ·rw [q2]
   exact ⟨_,_,rfl,(fun h=>by cases h),fun _=>fun ⟨s,a,b,c,d⟩=>q1 ⟨a,b,s,c,d⟩⟩
 refine res_of hc (kd:=⟨5,false,0,0,[]⟩) (u:=str4) (fb:=decide (FM n 1 6 false 0 0)) (by rw [hop]; rfl) rfl rfl (plain_i n str4 false false true false has_df has_if has_ff has_xf) (form_s (by omega) (by omega) (by rw [hop]; rfl) (by rw [hop]; rfl) (by rw [hop]; rfl) (by rw [hop]; rfl) ⟨by omega,by omega⟩) ?_ ?_ ?_
 ·intro hf
  obtain ⟨f1,f2,f3,f4,f5,f6,f7⟩:=of_decide_eq_true hf
  have g3:n.Dims=[]:=f3.resolve_left (by simp)
  have g5:n.Data=[]:=f5.resolve_left (by omega)
  have g6:n.Ints=[]:=List.eq_nil_of_length_eq_zero (by omega)
  exact ⟨by rw [g3,g5,g6]; rfl,by omega⟩
 ·intro hp hw hf
  obtain ⟨r,ok,e1,e2,e3⟩:=sh _ (hA hw)
  cases ok with
  | false=>exact ⟨r,e1⟩
  | true =>
   obtain ⟨s,⟨c1,c2,_⟩,_⟩:=e2 rfl
   have hl:=parts_len c1
   refine absurd ?_ (of_decide_eq_false hf)
   simp only [Bool.false_or,Bool.true_or,Bool.and_true,Bool.and_eq_true,len_nil,beq_iff_eq] at hp
   have hl2:((n.Args.map fun a=>ix out a).map Tensor.Dims).length=n.Args.length:=by simp
   rw [hl2] at c2
   exact ⟨by omega,by omega,.inr hp.1.1,.inl hop,.inr hp.2,by omega,by rw [hp.1.2]; decide⟩
 ·intro hf hw
  obtain ⟨f1,f2,f3,f4,f5,f6,f7⟩:=of_decide_eq_true hf
  have hT:=hA hw
  obtain ⟨A,hAA⟩:∃ A,A=n.Args.map fun a=>ix out a:=⟨_,rfl⟩
  have hdo:Do n out=(Z5 n.Form A).bind fun r=>some r:=by
   unfold Do Z1
   rw [if_neg (by omega),← hAA]
   simp only [Z1_J1,Z1_J2,hop]
   simp only [Int.reduceBEq,Bool.false_eq_true,if_false,if_true,beq_self_eq_true]
  have hl:A.length≤6:=by rw [hAA]; simp; omega
  rw [← hAA] at hT ⊢
  obtain ⟨r,ok,e1,e2,e3⟩:=sh A hT
  rcases contract_s hc.f hT hl with ⟨s,c1,d,c2,c3⟩|⟨c1,c2⟩
  ·rw [c2] at hdo
   cases ok with
   | false=>exact absurd ⟨s,c1⟩ (e3 rfl)
   | true =>
    obtain ⟨s',k1,k2⟩:=e2 rfl
    have hss:s'=s:=by
     have a1:=k1.2.2.1.1
     rw [c1.2.2.1.1] at a1
     exact (Option.some.inj a1).symm
    subst hss
    exact ⟨⟨_,d⟩,.inl ⟨by rw [e1,k2],hdo,c3⟩⟩
  ·rw [c2] at hdo
   cases ok with
   | false=>exact ⟨⟨[],[]⟩,.inr ⟨r,e1,hdo⟩⟩
   | true=>obtain ⟨s',k1,_⟩:=e2 rfl; exact absurd ⟨s',k1⟩ c1
theorem node_res {n:Node}{out:List Tensor}(hc:Caps n out):Res n out (Zd n (out.map Tensor.Dims)):=by
 by_cases h:1≤n.Op∧n.Op≤19
 ·by_cases h1:n.Op=1
  ·exact op_input hc h1
  by_cases h2:n.Op=2
  ·exact op_const hc h2
  by_cases h3:n.Op≤5
  ·exact op_pair hc (by omega) h3
  by_cases h4:n.Op≤9
  ·exact op_solo hc ⟨by omega,h4⟩
  have:n.Op=10∨n.Op=11∨n.Op=12∨n.Op=13∨n.Op=14∨n.Op=15∨n.Op=16∨n.Op=17∨n.Op=18∨n.Op=19:=by omega
  rcases this with q | q | q | q | q | q | q | q | q | q
  ·exact op_top hc q
  ·exact op_form hc q
  ·exact op_spread hc q
  ·exact op_reshape hc q
  ·exact op_slice hc q
  ·exact op_pad hc q
  ·exact op_gather hc q
  ·exact op_scatter hc q
  ·exact op_window hc q
  ·exact op_fold hc q
 ·have e:∀ k:Int,1≤k→k≤19→(n.Op==k)=false:=fun k a b=>by simp; omega
  have hk:Zw n.Op=some ⟨0,false,0,0,[]⟩:=by
   unfold Zw Zw_J1 Zw_J2 Zw_J3
   simp only [e 1 (by omega) (by omega),e 2 (by omega) (by omega),e 3 (by omega) (by omega),e 4 (by omega) (by omega),e 5 (by omega) (by omega),e 6 (by omega) (by omega),e 7 (by omega) (by omega),e 8 (by omega) (by omega),e 9 (by omega) (by omega),e 10 (by omega) (by omega),e 11 (by omega) (by omega),e 12 (by omega) (by omega),e 13 (by omega) (by omega),e 14 (by omega) (by omega),e 15 (by omega) (by omega),e 16 (by omega) (by omega),e 17 (by omega) (by omega),e 18 (by omega) (by omega),e 19 (by omega) (by omega),Bool.false_eq_true,if_false]
  refine .inr ⟨[],?_,.inl ?_⟩
  ·unfold Zd
   rw [hk]
   rfl
  ·unfold Z14
   rw [if_pos (by simp; omega)]
structure GC (g:Graph):Prop where
 n:g.Nodes.length<big
 o:g.Outs.length<big
 a:∀ n∈g.Nodes,n.Args.length<big
 d:∀ n∈g.Nodes,n.Dims.length<big
 i:∀ n∈g.Nodes,n.Ints.length<big
 x:∀ n∈g.Nodes,n.Data.length<big
 f:∀ n∈g.Nodes,n.Form.length≤1048576
def Ran (g:Graph)(k:Nat)(out:List Tensor):Prop:=∀ j:Nat,j<k→Z14 (ix g.Nodes (j:Int))=some true∧Win (ix g.Nodes (j:Int)) j∧Do (ix g.Nodes (j:Int)) (out.take j)=some (ix out (j:Int))
theorem args_s {g:Graph}{out:List Tensor}{k:Nat}(hk:k<g.Nodes.length)(ho:out.length≤200)(hb:(ix g.Nodes (k:Int)).Args.length≤100)(hw:Win (ix g.Nodes (k:Int)) out.length) :
  loopM (fun s:List Tensor×Int=>Z9_L2 g out (k:Int) s.1 s.2) ([],0)=some ((ix g.Nodes (k:Int)).Args.map fun a=>ix out a):=by
 refine loopN (f:=fun s:List Tensor×Int=>Z9_L2 g out (k:Int) s.1 s.2) (fun j=>(((ix g.Nodes (k:Int)).Args.take j).map fun a=>ix out a,(j:Int))) (ix g.Nodes (k:Int)).Args.length (fun j hj=>?_) ?_ rfl
 ·have hm:=hw _ (ix_mem hj)
  simp only [Z9_L2]
  rw [if_pos (by simp; omega),if_pos (by omega),if_pos (by omega),if_pos (by simp; omega),w64k (by unfold big; omega),List.take_succ_eq_append_getElem hj,List.map_append,ix_at hj]
  rfl
 ·simp only [Z9_L2]
  rw [if_neg (by simp),List.take_length]
theorem form_args {n:Node}(h:Z14 n=some true):n.Args.length≤6:=by
 unfold Z14 at h
 split at h
 ·cases h
 ·obtain ⟨r,h1,h⟩:=bd h
  have hr:r.2≤6:=by
   unfold Z2w at h1
   repeat' split at h1
   all_goals (cases h1; decide)
  split at h
  ·cases h
  ·rename_i q
   simp only [Bool.or_eq_true,decide_eq_true_eq,not_or] at q
   omega
theorem step_s {g:Graph}{ins:List Tensor}{out:List Tensor}{k:Nat}{t:Tensor}(hk:k<g.Nodes.length)(ho:out.length=k)(hn:g.Nodes.length≤200)(hf:Z14 (ix g.Nodes (k:Int))=some true)(hw:Win (ix g.Nodes (k:Int)) out.length)(hd:Do (ix g.Nodes (k:Int)) out=some t) :
  Z9_L1 g ins true out 0 (k:Int)=Z9_J4 out (k:Int) 0 t.Dims t.Data:=by
 have ha:=form_args hf
 simp only [Z9_L1]
 rw [if_pos (by simp; omega),if_pos (by omega),hf]
 simp only [Option.bind_some,gcall,Bool.not_true,Bool.not_false,cond_true,Bool.false_or]
 rw [within_s (by unfold big; omega)]
 have hw2:∀ x∈(ix g.Nodes (k:Int)).Args,0≤x∧x<(k:Int):=by
  intro x hx
  have:=hw x hx
  rwa [ho] at this
 simp only [Option.bind_some]
 rw [decide_eq_true hw2,if_neg (by simp),args_s hk (by omega) (by omega) hw]
 simp only [Option.bind_some,Z9_J3]
 unfold Do at hd
 by_cases c:(ix g.Nodes (k:Int)).Op=1
 ·rw [if_pos c] at hd
  rw [if_neg (by simp [c]),if_pos trivial,hd]
  rfl
 ·rw [if_neg c] at hd
  rw [if_pos (by simp [c]),hd]
  rfl
theorem run_both {g:Graph}{ins:List Tensor}(hg:GC g)(hn:g.Nodes.length≤200):∀ (m k:Nat) (out:List Tensor),k+m=g.Nodes.length→out.length=k→(∀ t∈out,TT t)→Ran g k out →
  (∃ out',loopM (fun s:List Tensor×Int×Int=>Z9_L1 g ins true s.1 s.2.1 s.2.2) (out,0,(k:Int))=some (.inr (out',0))∧loopM (fun s:List (List Int)×Int=>Zh_L1 g s.1 s.2) (out.map Tensor.Dims,(k:Int))=some (.inr (out'.map Tensor.Dims))∧out'.length=g.Nodes.length∧(∀ t∈out',TT t)∧Ran g g.Nodes.length out') ∨
  ((∃ e,loopM (fun s:List Tensor×Int×Int=>Z9_L1 g ins true s.1 s.2.1 s.2.2) (out,0,(k:Int))=some (.inl e)∧e.2=false)∧∃ e,loopM (fun s:List (List Int)×Int=>Zh_L1 g s.1 s.2) (out.map Tensor.Dims,(k:Int))=some (.inl e)∧e.2=false)
 | 0,k,out,hk,ho,ht,hr=>by
  have hk:k=g.Nodes.length:=by omega
  subst hk
  refine .inl ⟨out,loopM_end ?_,loopM_end ?_,ho,ht,hr⟩
  ·simp only [Z9_L1]; rw [if_neg (by simp)]
  ·simp only [Zh_L1]; rw [if_neg (by simp)]
 | m+1,k,out,hk,ho,ht,hr=>by
  have hkl:k<g.Nodes.length:=by omega
  have hm:=ix_mem hkl
  have hc:Caps (ix g.Nodes (k:Int)) out:=⟨hg.a _ hm,hg.d _ hm,hg.i _ hm,hg.x _ hm,hg.f _ hm,by omega,ht⟩
  have I1:∀ p:List Int×Bool,Zd (ix g.Nodes (k:Int)) (out.map Tensor.Dims)=some p→Zh_L1 g (out.map Tensor.Dims) (k:Int)=if p.2=true then some (.inl (out.map Tensor.Dims++[p.1],((k+1:Nat):Int))) else some (.inr (.inl ([],false))):=by
   intro p hp
   simp only [Zh_L1]
   rw [if_pos (by simp; omega),if_pos (by omega),hp]
   simp only [Option.bind_some]
   cases p.2
   ·rfl
   ·rw [if_neg (by simp),if_pos (by simp; omega),w64k (by unfold big; omega)]; rfl
  rcases node_res hc with ⟨t,h1,h2,h3,h4,h5⟩|⟨ds,h1,h2⟩
  ·have hl:=h5.l
   have hp:=h5.d.2.pos
   have s1:=step_s (ins:=ins) hkl ho hn h2 h3 h4
   unfold Z9_J4 at s1
   rw [if_neg (by simp; intro z; rw [z] at hl; simp at hl; omega),if_pos (by simp; omega),w64k (by unfold big; omega)] at s1
   have s2:=I1 _ h1
   rw [if_pos rfl] at s2
   rw [loopM_next (f:=fun s:List Tensor×Int×Int=>Z9_L1 g ins true s.1 s.2.1 s.2.2) s1,loopM_next (f:=fun s:List (List Int)×Int=>Zh_L1 g s.1 s.2) s2]
   have:=run_both (ins:=ins) hg hn m (k+1) (out++[t]) (by omega) (by simp [ho]) (by
    intro u hu
    rcases List.mem_append.1 hu with z | z
    ·exact ht u z
    ·simp at z; subst z; exact h5) (by
    intro j hj
    by_cases e:j<k
    ·obtain ⟨a,b,c⟩:=hr j e
     refine ⟨a,b,?_⟩
     rw [List.take_append_of_le_length (by omega),c,ix_at (by omega),ix_at (by simp; omega),List.getElem_append_left (by omega)]
    ·have e:j=k:=by omega
     subst e
     rw [ho] at h3
     refine ⟨h2,h3,?_⟩
     rw [List.take_append_of_le_length (by omega),List.take_of_length_le (by omega),ix_at (xs:=out++[t]) (by rw [List.length_append,List.length_singleton]; omega),List.getElem_append_right (by omega)]
     simpa [ho] using h4)
   rw [List.map_append] at this
   exact this
  ·have s2:=I1 _ h1
   rw [if_neg (by simp)] at s2
   refine .inr ⟨?_,_,loopM_end s2,rfl⟩
   rcases h2 with h2 | ⟨h2,h3⟩
   ·refine ⟨(out,false),loopM_end ?_,rfl⟩
    simp only [Z9_L1]
    rw [if_pos (by simp; omega),if_pos (by omega),h2]
    rfl
   ·by_cases w:Win (ix g.Nodes (k:Int)) out.length
    ·have s1:=step_s (ins:=ins) hkl ho hn h2 w (h3 w)
     exact ⟨(out,false),loopM_end s1,rfl⟩
    ·refine ⟨(out,false),loopM_end ?_,rfl⟩
     have ha:=form_args h2
     simp only [Z9_L1]
     rw [if_pos (by simp; omega),if_pos (by omega),h2]
     simp only [Option.bind_some,gcall,Bool.not_true,Bool.not_false,cond_true,Bool.false_or]
     rw [within_s (by unfold big; omega)]
     have hw2:¬ ∀ x∈(ix g.Nodes (k:Int)).Args,0≤x∧x<(k:Int):=by
      intro z; refine w fun x hx=>?_
      have:=z x hx
      rwa [ho]
     simp only [Option.bind_some]
     rw [decide_eq_false hw2,if_pos (by simp)]
theorem shapes_both {g:Graph}(hg:GC g):∃ ts sh ok,Z9 g [] true=some (ts,ok)∧Zh g=some (sh,ok)∧(ok=true→sh=ts.map Tensor.Dims∧ts.length=g.Nodes.length∧(∀ t∈ts,TT t)∧Ran g g.Nodes.length ts∧g.Nodes.length≤200∧g.Outs.length≤40∧∀ o∈g.Outs,0≤o∧o<(g.Nodes.length:Int)):=by
 unfold Z9 Zh
 by_cases c:g.Nodes.length≤200∧g.Outs.length≤40
 ·rw [if_neg (by simp; omega),if_neg (by simp; omega)]
  have hi:∀ s:Int→Option (Int⊕(((List (List Int))×Bool)⊕Unit)),s=(fun x=>Zh_L2 g x)→loopM s 0=some (if g.Outs.all (fun x=>!(decide (x<0)||decide (x≥(g.Nodes.length:Int)))) then .inr () else .inl ([],false)):=by
   rintro _ rfl
   refine loop_all g.Outs (fun x=>Zh_L2 g x) (fun i=>i) _ _ _ (fun j hj=>?_) ?_
   ·simp only [Zh_L2]
    rw [if_pos (by simp; omega),if_pos (by omega),w64k (by unfold big; omega)]
    cases (decide (ix g.Outs (j:Int)<0)||decide (ix g.Outs (j:Int)≥(g.Nodes.length:Int)))<;>rfl
   ·simp only [Zh_L2]
    rw [if_neg (by simp)]
  have he:g.Outs.all (fun x=>!(decide (x<0)||decide (x≥(g.Nodes.length:Int))))=decide (∀ o∈g.Outs,0≤o∧o<(g.Nodes.length:Int)):=by
   rw [Bool.eq_iff_iff]
   simp only [List.all_eq_true,decide_eq_true_eq,Bool.not_eq_true',Bool.or_eq_false_iff,decide_eq_false_iff_not]
   exact ⟨fun h x hx=>by have:=h x hx; omega,fun h x hx=>by have:=h x hx; omega⟩
  have hi:=hi _ rfl
  rw [he] at hi
  rcases run_both (ins:=[]) hg c.1 g.Nodes.length 0 [] (by omega) rfl (fun t h=>by simp at h) (fun j hj=>absurd hj (Nat.not_lt_zero _)) with ⟨out,h1,h2,h3,h4,h5⟩|⟨⟨e,h1,h2⟩,e',h3,h4⟩
  ·have h1':loopM (fun s:List Tensor×Int×Int=>Z9_L1 g [] true s.1 s.2.1 s.2.2) ([],0,0)=some (.inr (out,0)):=h1
   have h2':loopM (fun s:List (List Int)×Int=>Zh_L1 g s.1 s.2) ([],0)=some (.inr (out.map Tensor.Dims)):=h2
   rw [h1',h2']
   simp only [Option.bind_some,Z9_J5,Zh_J1,Zh_J2]
   rw [within_s hg.o,hi]
   simp only [Option.bind_some]
   by_cases q:∀ o∈g.Outs,0≤o∧o<(g.Nodes.length:Int)
   ·rw [decide_eq_true q]
    exact ⟨_,_,_,rfl,rfl,fun _=>⟨rfl,h3,h4,h5,c.1,c.2,q⟩⟩
   ·rw [decide_eq_false q]
    exact ⟨_,_,_,rfl,rfl,fun h=>by cases h⟩
  ·have h1':loopM (fun s:List Tensor×Int×Int=>Z9_L1 g [] true s.1 s.2.1 s.2.2) ([],0,0)=some (.inl e):=h1
   have h3':loopM (fun s:List (List Int)×Int=>Zh_L1 g s.1 s.2) ([],0)=some (.inl e'):=h3
   rw [h1',h3']
   obtain ⟨e1,e2⟩:=e
   obtain ⟨e3,e4⟩:=e'
   dsimp only at h2 h4
   subst h2; subst h4
   exact ⟨_,_,_,rfl,rfl,fun h=>by cases h⟩
 ·rw [if_pos (by simp; omega),if_pos (by simp; omega)]
  exact ⟨_,_,_,rfl,rfl,fun h=>by cases h⟩
def lim:Nat:=9223372036854775807
def szR (n:Nat)(left:Int):Int:=if left<(n:Int) then -1 else left - n
def sumN {α:Type}(n:α→Nat)(xs:List α):Nat:=xs.length+(xs.map n).sum
theorem szR_add {a b:Nat}{left:Int}(h0:0≤left):szR (a+b) left=if szR a left<0 then -1 else szR b (szR a left):=by
 unfold szR
 (repeat' split)<;>omega
theorem szR_le {a:Nat}{left:Int}(h0:0≤left)(h:¬ szR a left<0):0≤szR a left∧szR a left≤left∧szR a left=left - a:=by
 unfold szR at *
 split at h<;>rename_i q
 ·exact absurd (by decide) h
 ·rw [if_neg q]; omega
theorem sz_flat {n:Nat}{left:Int}(hn:n≤lim)(h0:0≤left)(h1:left≤1048576) :
  (if (decide ((w64 (left - (n:Int)))<(0:Int)))=true then (some (-1:Int)) else (some (w64 (left - (n:Int)))))=some (szR n left):=by
 unfold lim at hn
 rw [w64_id (by omega) (by omega)]
 unfold szR
 by_cases h:left<(n:Int)
 ·rw [if_pos (by simp; omega),if_pos h]
 ·rw [if_neg (by simp; omega),if_neg h]
theorem sz_loop {α:Type}[Inhabited α](xs:List α)(n:α→Nat)(hx:xs.length<big)(g:α→Int→Option Int)(f:Int×Int→Option ((Int×Int)⊕(Int⊕Int)))
  (hg:∀ x∈xs,∀ left:Int,0≤left→left≤1048576→g x left=some (szR (n x) left))
  (hf:∀ left i,f (left,i)=if (decide (i<(xs.length:Int)))=true then (if (0≤i∧i<(xs.length:Int)) then (g (ix xs i) left).bind fun (r:Int)=>if (decide (r<(0:Int)))=true then (some (.inr (.inl (-1:Int)))) else (some (.inl (r,(w64 (i+(1:Int)))))) else none) else (some (.inr (.inr left))))
  (left:Int) (h0:0≤left) (h1:left≤1048576) :
  ((loopM f (left,0)).bind fun e=>match e with | .inl e=>some e | .inr e=>some e)=some (szR ((xs.map n).sum) left):=by
 rw [loop_goI (S:=Int) xs (fun _ s=>0≤s∧s≤1048576) f (fun s i=>(s,i)) (fun s _ x=>if szR (n x) s<0 then .inr (.inl (-1)) else .inl (szR (n x) s)) (fun s=>.inr s) ?_ ?_ ?_ left ⟨h0,h1⟩]
 ·rw [bind_some']
  clear hf hx
  generalize 0=k
  induction xs generalizing left k with
  | nil=>show some left=some (szR 0 left); unfold szR; rw [if_neg (by omega)]; congr 1; simp
  | cons x xs ih =>
   unfold goI
   rw [List.map_cons,List.sum_cons,szR_add h0]
   by_cases h:szR (n x) left<0
   ·simp only [h,if_true]
   ·obtain ⟨q1,q2,_⟩:=szR_le h0 h
    simp only [h,if_false]
    exact ih (fun y hy=>hg y (by simp [hy])) _ q1 (by omega) _
 ·rintro s k ⟨i0,i1⟩ hk
  rw [hf,if_pos (by simpa using hk),if_pos (by omega),hg _ (ix_mem hk) s i0 i1,bind_some',w64k (by omega)]
  by_cases h:szR (n (ix xs (k:Int))) s<0
  ·simp [h]
  ·simp [h]
 ·rintro s k s' ⟨i0,i1⟩ hk hs
  split at hs
  ·cases hs
  ·rename_i h
   obtain ⟨q1,q2,_⟩:=szR_le i0 h
   injection hs with hs
   subst hs
   exact ⟨q1,by omega⟩
 ·rintro s ⟨i0,i1⟩
  rw [hf,if_neg (by simp)]
theorem sz_list {α:Type}[Inhabited α]{xs:List α}{n:α→Nat}{left:Int}{x:Int→Option Int}(hn:xs.length≤lim)(h0:0≤left)(h1:left≤1048576)(hx:¬ szR xs.length left<0→x (szR xs.length left)=some (szR ((xs.map n).sum) (szR xs.length left))) :
  (if (decide ((w64 (left - (xs.length:Int)))<(0:Int)))=true then (some (-1:Int)) else x (w64 (left - (xs.length:Int))))=some (szR (sumN n xs) left):=by
 have hn':=hn
 unfold lim at hn'
 unfold sumN
 rw [szR_add h0]
 have e:w64 (left - (xs.length:Int))=left - xs.length:=w64_id (by omega) (by omega)
 rw [e]
 by_cases h:left<(xs.length:Int)
 ·rw [if_pos (by simp; omega),if_pos (by unfold szR; rw [if_pos h]; omega)]
 ·have e2:szR xs.length left=left - xs.length:=by unfold szR; rw [if_neg h]
  rw [if_neg (by simp; omega),if_neg (by rw [e2]; omega)]
  have:=hx (by rw [e2]; omega)
  rw [e2] at this ⊢
  exact this
theorem inr_ {k:Nat}{n:Nat}(h:k<n):(0:Int)≤(k:Int)∧(k:Int)<(n:Int):=⟨by omega,by omega⟩
theorem lt_ {k:Nat}{n:Nat}(h:k<n):(decide ((k:Int)<(n:Int)))=true:=by simpa using h
theorem nlt_ {n:Nat}:(decide ((n:Int)<(n:Int)))=false:=by simp
theorem all_range_eq (xs ys:List Int)(h:xs.length=ys.length):((List.range xs.length).all fun k=>ix xs (k:Int)==ix ys (k:Int))=decide (xs=ys):=by
 by_cases e:xs=ys
 ·subst e; simp
 ·simp only [e,decide_false]
  rw [List.all_eq_false]
  refine Classical.byContradiction fun hn=>e ?_
  refine List.ext_getElem h fun k h1 h2=>?_
  refine Classical.byContradiction fun hne=>hn ⟨k,by simpa using h1,?_⟩
  rw [ix_at h1,ix_at h2]
  simpa using hne
theorem same_eq (xs ys:List Int)(h:xs.length<big):Zz xs ys=some (decide (xs=ys)):=by
 unfold Zz
 by_cases hl:xs.length=ys.length
 ·rw [if_neg (by simp [hl])]
  rw [loop_allI xs.length (fun s:Int=>Zz_L1 xs ys s) (fun i=>i) (fun k=>ix xs (k:Int)==ix ys (k:Int)) (.inl false) (.inr ()) (fun k hk=>by
   unfold Zz_L1
   rw [if_pos (lt_ hk),if_pos (inr_ hk),if_pos (inr_ (hl▸hk)),w64k (by omega)]
   by_cases hq:ix xs (k:Int)=ix ys (k:Int)
   ·simp [hq]
   ·simp [hq]) (by unfold Zz_L1; simp only [nlt_,Bool.false_eq_true,if_false])]
  rw [all_range_eq xs ys hl,bind_some']
  by_cases e:xs=ys<;>simp [e,Zz_J1]
 ·rw [if_pos (by simp; omega)]
  have:xs≠ys:=fun e=>hl (by rw [e])
  simp [this]
theorem eqIntS_same (xs ys:List Int):Zu xs ys=Zz xs ys:=rfl
theorem gc_t {α:Type}[Inhabited α](x:Option α):gcall true x=x:=rfl
def Rg (g:List Bool)(n:Nat)(gl:List Int):Prop:=g.length=n∧∀ j:Nat,j<n→ix g (j:Int)=decide ((j:Int)∈gl)
theorem Rg.set {g:List Bool}{n:Nat}{gl:List Int}(h:Rg g n gl){b:Int}(h0:0≤b)(h1:b<(n:Int)):Rg (g.set b.toNat true) n (gl++[b]):=by
 obtain ⟨hl,hx⟩:=h
 refine ⟨by simpa using hl,fun j hj=>?_⟩
 obtain ⟨c,rfl⟩:=Int.eq_ofNat_of_zero_le h0
 have hj':j<(g.set (c:Int).toNat true).length:=by simpa [hl] using hj
 rw [ix_at hj',List.getElem_set]
 by_cases e:(c:Int).toNat=j
 ·rw [if_pos e]; have:c=j:=by omega
  subst this; simp
 ·rw [if_neg e]
  have h2:=hx j hj
  rw [ix_at (by omega)] at h2
  rw [h2]
  have:¬ (j:Int)=(c:Int):=by omega
  simp [this]
theorem set_loop {α T:Type}[Inhabited α](xs:List α)(z:α)(f:T→Option (T⊕List α))(mk:List α→Int→T)
  (hf:∀ (ys:List α) (k:Nat),ys.length=xs.length→k<xs.length→f (mk ys (k:Int))=some (.inl (mk (ys.set k (ix xs (k:Int))) ((k+1:Nat):Int))))
  (hl:∀ ys:List α,ys.length=xs.length→f (mk ys (xs.length:Int))=some (.inr ys)):loopM f (mk (List.replicate (xs.length:Int).toNat z) 0)=some xs:=by
 rw [Int.toNat_natCast]
 rw [loop_goI (S:=List α) xs (fun _ s=>s.length=xs.length) f mk (fun s k x=>.inl (s.set k x)) (fun s=>s) (fun s k hI hk=>hf s k hI hk) (fun s k s' hI hk h=>by injection h with h; subst h; simpa using hI) hl _ (by simp)]
 congr 1
 have key:∀ (m k:Nat) (ys:List α),k+m=xs.length→ys.length=xs.length→(∀ j,j<k→ys[j]?=xs[j]?)→goI (R:=List α) (fun s k x=>.inl (s.set k x)) (fun s=>s) (xs.drop k) k ys=xs:=by
  intro m
  induction m with
  | zero =>
   intro k ys hk hl he
   have hk:k=xs.length:=by omega
   subst hk
   rw [List.drop_length]
   show ys=xs
   refine List.ext_getElem? fun j=>?_
   by_cases hj:j<xs.length
   ·exact he j hj
   ·rw [List.getElem?_eq_none (by omega),List.getElem?_eq_none (by omega)]
  | succ m ih =>
   intro k ys hk hl he
   have hlt:k<xs.length:=by omega
   rw [List.drop_eq_getElem_cons hlt]
   unfold goI
   refine ih (k+1) _ (by omega) (by simpa using hl) (fun j hj=>?_)
   rw [List.getElem?_set]
   by_cases e:k=j
   ·subst e; rw [if_pos rfl,if_pos (by omega)]; exact (List.getElem?_eq_getElem hlt).symm
   ·rw [if_neg e]; exact he j (by omega)
 simpa using key xs.length 0 (List.replicate xs.length z) (by omega) (by simp) (fun j hj=>by omega)
theorem rep_ {α:Type}{n:Nat}{z:α}{k:Nat}(h:k<n):(0:Int)≤(k:Int)∧(k:Int)<((List.replicate (n:Int).toNat z).length:Int):=by
 rw [List.length_replicate,Int.toNat_natCast]; omega
theorem eqI_rfl (xs:List Int)(h:xs.length≤1048576):Zu xs xs=some true:=by
 rw [eqIntS_same,same_eq _ _ (by unfold big; omega)]; simp
theorem eqL_rfl {α:Type}[Inhabited α](xs:List α)(f:Int→Option (Int⊕(Bool⊕Unit)))(hl:xs.length≤1048576)(e:α→α→Option Bool)(he:∀ x∈xs,e x x=some true)
  (hf:∀ i,f i=if (decide (i<(xs.length:Int)))=true then (if (0≤i∧i<(xs.length:Int)) then if (0≤i∧i<(xs.length:Int)) then (e (ix xs i) (ix xs i)).bind fun (r:Bool)=>if (!r)=true then (some (.inr (.inl false))) else (some (.inl (w64 (i+(1:Int))))) else none else none) else (some (.inr (.inr ())))) :
  loopM f 0=some (.inr ()):=by
 rw [loop_all xs f (fun i=>i) (fun _=>true) (.inl false) (.inr ()) (fun k hk=>by
  rw [hf,if_pos (lt_ hk),if_pos (inr_ hk),if_pos (inr_ hk),he _ (ix_mem hk),bind_some',w64k (by unfold big; omega)]; rfl) (by rw [hf]; simp only [nlt_,Bool.false_eq_true,if_false])]
 simp
theorem bne_self_i (x:Int):(x != x)=false:=by simp
def BB:Nat:=4611686018427387904
theorem ixSet {α:Type}[Inhabited α]{ys:List α}{k:Nat}{v:α}(h:k<ys.length):ix (ys.set k v) (k:Int)=v:=by
 rw [ix_at (by simpa using h)]; simp
theorem ix_set_ne {α:Type}[Inhabited α]{ys:List α}{k j:Nat}{v:α}(h:k≠j):ix (ys.set k v) (j:Int)=ix ys (j:Int):=by
 simp [ix,List.getD_eq_getElem?_getD,List.getElem?_set,h]
def cnt {α:Type}(n:α→Nat)(xs:List α):Nat:=(xs.map n).sum
theorem cnt_cons {α:Type}(n:α→Nat)(x:α)(t:List α):cnt n (x::t)=n x+cnt n t:=by simp [cnt]
theorem cnt_drop {α:Type}(n:α→Nat){xs:List α}{k:Nat}(h:k<xs.length):cnt n (xs.drop k)=n xs[k]+cnt n (xs.drop (k+1)):=by
 rw [List.drop_eq_getElem_cons h,cnt_cons]
theorem mark_loop {α T U:Type}[Inhabited α](xs:List α)(n:α→Nat)(g:α→Nat→α)(f:T→Option (T⊕(Int×List α)))(mk:List α→Int→Int→T)
  (hf:∀ (ys:List α) (k i:Nat),i<xs.length→ys.length=xs.length→ix ys (i:Int)=ix xs (i:Int)→k+n (ix xs (i:Int))≤BB→f (mk ys (k:Int) (i:Int))=some (.inl (mk (ys.set i (g (ix xs (i:Int)) k)) ((k+n (ix xs (i:Int)):Nat):Int) ((i+1:Nat):Int))))
  (he:∀ ys k,f (mk ys k (xs.length:Int))=some (.inr (k,ys))) (k:Nat) (hk:k+cnt n xs≤BB) :
  ∃ ys,loopM f (mk xs (k:Int) 0)=some (((k+cnt n xs:Nat):Int),ys)∧ys.length=xs.length ∧
   ∀ (f2:U→Option (U⊕(Int⊕Int))) (mk2:Int→Int→U),(∀ (k i:Nat),i<xs.length→k+n (ix xs (i:Int))≤BB→ix ys (i:Int)=g (ix xs (i:Int)) k→f2 (mk2 (k:Int) (i:Int))=some (.inl (mk2 ((k+n (ix xs (i:Int)):Nat):Int) ((i+1:Nat):Int)))) →
    (∀ k,f2 (mk2 k (xs.length:Int))=some (.inr (.inr k)))→loopM f2 (mk2 (k:Int) 0)=some (.inr ((k+cnt n xs:Nat):Int)):=by
 have key:∀ (m i k:Nat) (ys:List α),i+m=xs.length→ys.length=xs.length→(∀ j,i≤j→j<xs.length→ix ys (j:Int)=ix xs (j:Int))→k+cnt n (xs.drop i)≤BB →
   ∃ zs,loopM f (mk ys (k:Int) (i:Int))=some (((k+cnt n (xs.drop i):Nat):Int),zs)∧zs.length=xs.length∧(∀ j,j<i→ix zs (j:Int)=ix ys (j:Int)) ∧
    ∀ (f2:U→Option (U⊕(Int⊕Int))) (mk2:Int→Int→U),(∀ (k j:Nat),i≤j→j<xs.length→k+n (ix xs (j:Int))≤BB→ix zs (j:Int)=g (ix xs (j:Int)) k→f2 (mk2 (k:Int) (j:Int))=some (.inl (mk2 ((k+n (ix xs (j:Int)):Nat):Int) ((j+1:Nat):Int)))) →
     (∀ k,f2 (mk2 k (xs.length:Int))=some (.inr (.inr k)))→loopM f2 (mk2 (k:Int) (i:Int))=some (.inr ((k+cnt n (xs.drop i):Nat):Int)):=by
  intro m
  induction m with
  | zero =>
   intro i k ys hi hl _ _
   have hi:i=xs.length:=by omega
   subst hi
   rw [List.drop_length]
   exact ⟨ys,loopM_end (he ys k),hl,fun j _=>rfl,fun f2 mk2 _ h2=>loopM_end (h2 k)⟩
  | succ m ih =>
   intro i k ys hi hl hx hb
   have hlt:i<xs.length:=by omega
   have hc:=cnt_drop n hlt
   rw [← ix_at hlt] at hc
   have hf':=hf ys k i hlt hl (hx i (Nat.le_refl _) hlt) (by omega)
   obtain ⟨zs,z1,z2,z3,z4⟩:=ih (i+1) (k+n (ix xs (i:Int))) (ys.set i (g (ix xs (i:Int)) k)) (by omega) (by simpa using hl) (fun j h1 h2=>by
    rw [ix_set_ne (by omega)]; exact hx j (by omega) h2) (by omega)
   have hsum:k+n (ix xs (i:Int))+cnt n (xs.drop (i+1))=k+cnt n (xs.drop i):=by omega
   rw [hsum] at z1 z4
   refine ⟨zs,by rw [loopM_next hf']; exact z1,z2,fun j hj=>?_,fun f2 mk2 h1 h2=>?_⟩
   ·rw [z3 j (by omega),ix_set_ne (by omega)]
   ·have hz:ix zs (i:Int)=g (ix xs (i:Int)) k:=by rw [z3 i (by omega),ixSet (by omega)]
    rw [loopM_next (h1 k i (Nat.le_refl _) hlt (by omega) hz)]
    exact z4 f2 mk2 (fun k j h3=>h1 k j (by omega)) h2
 obtain ⟨ys,y1,y2,_,y4⟩:=key xs.length 0 k xs (by omega) rfl (fun _ _ _=>rfl) (by simpa using hk)
 rw [List.drop_zero] at y1 y4
 exact ⟨ys,y1,y2,fun f2 mk2 h1 h2=>y4 f2 mk2 (fun k j _=>h1 k j) h2⟩
theorem wn {k:Nat}(h:k+1≤BB):w64 ((k:Int)+1)=((k+1:Nat):Int):=by
 unfold BB at h; rw [w64_id (by omega) (by omega)]; omega
theorem cnt_one {α:Type}(c:Nat)(xs:List α):cnt (fun _=>c) xs=c*xs.length:=by
 induction xs with
 | nil=>simp [cnt]
 | cons x t ih=>rw [cnt_cons,ih,List.length_cons,Nat.mul_succ]; omega
noncomputable def mkI (xs:List Int)(k:Nat):List Int:=((Zs xs (k:Int)).getD default).2
theorem wi {n k:Nat}(hn:n≤1048576)(h:k<n):w64 ((k:Int)+1)=((k+1:Nat):Int):=w64k (by unfold big; omega)
theorem markI_eq (xs:List Int)(k:Nat)(hl:xs.length≤1048576)(h:k+xs.length≤BB):Zs xs (k:Int)=some (((k+xs.length:Nat):Int),mkI xs k)∧Z0b (mkI xs k) (k:Int)=some ((k+xs.length:Nat):Int):=by
 obtain ⟨ys,y1,y2,y3⟩:=mark_loop (U:=Int×Int) xs (fun _=>1) (fun _ k=>(k:Int)) (fun s:(List Int)×Int×Int=>Zs_L1 xs s.1 s.2.1 s.2.2) (fun ys k i=>(ys,k,i)) (fun ys k i hi hy hx hk=>by
  show Zs_L1 xs ys (k:Int) (i:Int)=_
  unfold Zs_L1
  rw [if_pos (lt_ hi),if_pos (inr_ hi),wi hl hi,wn hk,Int.toNat_natCast]) (fun ys k=>by
  show Zs_L1 xs ys k (xs.length:Int)=_
  unfold Zs_L1; simp only [nlt_,Bool.false_eq_true,if_false]) k (by rw [cnt_one]; omega)
 rw [cnt_one,Nat.one_mul] at y1 y3
 have e:Zs xs (k:Int)=some (((k+xs.length:Nat):Int),ys):=by
  unfold Zs; rw [y1,bind_some']; rfl
 have em:mkI xs k=ys:=by unfold mkI; rw [e]; rfl
 rw [em]
 refine ⟨e,?_⟩
 unfold Z0b
 rw [y3 (fun s:Int×Int=>Z0b_L1 ys s.1 s.2) (fun k i=>(k,i)) (fun k i hi hk hz=>by
  show Z0b_L1 ys (k:Int) (i:Int)=_
  unfold Z0b_L1
  rw [if_pos (lt_ (by omega)),if_pos (inr_ (by omega)),hz,bne_self_i,wi hl hi,wn hk]; rfl) (fun k=>by
  show Z0b_L1 ys k (xs.length:Int)=_
  rw [← y2]
  unfold Z0b_L1; simp only [nlt_,Bool.false_eq_true,if_false])]
 rfl
theorem cnt_le {α:Type}(n:α→Nat)(M:Nat)(xs:List α)(h:∀ x∈xs,n x≤M):cnt n xs≤xs.length*M:=by
 induction xs with
 | nil=>simp [cnt]
 | cons x t ih =>
  rw [cnt_cons,List.length_cons,Nat.succ_mul]
  have:=h x (by simp)
  have:=ih (fun y hy=>h y (by simp [hy]))
  omega
theorem cnt_bd {α:Type}(n:α→Nat)(M:Nat)(xs:List α)(h:∀ x∈xs,n x≤M)(hl:xs.length≤1048576):cnt n xs≤1048576*M:=Nat.le_trans (cnt_le n M xs h) (Nat.mul_le_mul_right _ hl)
theorem sumN_len {α:Type}(n:α→Nat)(xs:List α):xs.length≤sumN n xs:=by unfold sumN; omega
theorem sumN_mem {α:Type}(n:α→Nat){xs:List α}{x:α}(h:x∈xs):n x≤sumN n xs:=by
 have:n x≤(xs.map n).sum:=by
  induction xs with
  | nil=>cases h
  | cons y t ih =>
   rcases List.mem_cons.1 h with rfl | h
   ·simp
   ·have:=ih h; simp; omega
 unfold sumN; omega
theorem szR_m1 {a:Nat}{left:Int}(h:szR a left<0)(h0:0≤left):szR a left = -1:=by
 unfold szR at *
 split at h
 ·rw [if_pos (by assumption)]
 ·omega
theorem mtext_loop {f:Int×Str→Option ((Int×Str)⊕Str)}(hf:∀ (n:Nat) (s:Str),0<n→n<10000000000000000000→s.length≤100→∃ c:Str,c.length=1∧f ((n:Int),s)=some (.inl (((n / 10:Nat):Int),c++s)))(he:∀ s,f (0,s)=some (.inr s)):∀ (m n:Nat) (s:Str),n<10 ^ m→m≤19→s.length+m≤100→∃ r,loopM f ((n:Int),s)=some r∧r.length≤s.length+m
 | 0,n,s,h,hm,hs=>by
  have:n=0:=by simpa using h
  subst this
  exact ⟨s,loopM_end (he s),by omega⟩
 | m+1,n,s,h,hm,hs=>by
  by_cases e:n=0
  ·subst e; exact ⟨s,loopM_end (he s),by omega⟩
  ·have hpw:10 ^ (m+1)≤10 ^ 19:=Nat.pow_le_pow_right (by omega) hm
   obtain ⟨c,h1,h2⟩:=hf n s (by omega) (by omega) (by omega)
   obtain ⟨r,r1,r2⟩:=mtext_loop hf he m (n / 10) (c++s) (by rw [Nat.pow_succ] at h; omega) (by omega) (by simp; omega)
   exact ⟨r,by rw [loopM_next h2]; exact r1,by simp at r2; omega⟩
theorem markT_ex (k:Nat)(h:k≤BB):∃ s,Z0m (k:Int)=some s:=by
 unfold Z0m
 by_cases c:k=0
 ·rw [if_pos (by simp; omega)]; exact ⟨_,rfl⟩
 ·rw [if_neg (by simp; omega)]
  obtain ⟨r,r1,r2⟩:=mtext_loop (f:=fun s:Int×Str=>Z0m_L1 s.1 s.2) (fun n s hn hnb hs=>by
   have e1:w64 ((n:Int).tdiv 10)=((n / 10:Nat):Int):=by
    rw [Int.tdiv_eq_ediv_of_nonneg (by omega),w64_id (by omega) (by omega)]; omega
   have e2:(strB [IntKind.wrap .u8 (w64 (48+(n:Int).tmod 10))]).length=1:=by simp [strB]
   refine ⟨strB [IntKind.wrap .u8 (w64 (48+(n:Int).tmod 10))],e2,?_⟩
   simp only [Z0m_L1]
   rw [if_pos (by simp; omega),if_pos (by rw [e2]; omega),e1]) (fun s=>by simp only [Z0m_L1]; rfl) 19 k [] (by unfold BB at h; omega) (by omega) (by simp)
  rw [r1]
  simp only [Option.bind_some,Z0m_J1]
  rw [if_pos (by simp [str8] at r2 ⊢; omega)]
  exact ⟨_,rfl⟩
noncomputable def mkT (k:Nat):Str:=(Z0m (k:Int)).getD default
theorem markT_ {k:Nat}(h:k≤BB:=by omega):Z0m (k:Int)=some (mkT k):=by
 obtain ⟨s,hs⟩:=markT_ex k h
 unfold mkT; rw [hs]; rfl
def Cap23 (xs:(List Int)):Prop:=xs.length≤maxLen
def SmIntS (xs:(List Int)):Prop:=xs.length≤1048576
theorem smIntS_of {xs:(List Int)}(h:xs.length≤1048576):SmIntS xs:=h
theorem szIntS__eq {xs:(List Int)}{left:Int}(hc:Cap23 xs)(h0:0≤left)(h1:left≤1048576):Z1e xs left=some (szR xs.length left):=sz_flat (Nat.le_trans hc (by decide)) h0 h1
theorem toIntS_ (xs:(List Int))(h:SmIntS xs):Z05 xs=some xs:=by
 unfold Z05
 rw [if_pos (by have:xs.length≤1048576:=h; omega),set_loop xs 0 (fun s:(List Int)×Int=>Z05_L1 xs s.1 s.2) (fun s i=>(s,i)) (fun ys k hl hk=>by
  have hb:xs.length≤1048576:=h
  show Z05_L1 xs ys (k:Int)=_
  unfold Z05_L1
  rw [if_pos (lt_ hk),if_pos (inr_ hk),if_pos (rep_ hk),w64k (by unfold big; omega)]; rfl) (fun ys _=>by
  show Z05_L1 xs ys (xs.length:Int)=_
  unfold Z05_L1; simp only [nlt_,Bool.false_eq_true,if_false])]
 rfl
theorem eqIntS_ (xs:(List Int))(h:SmIntS xs):Zu xs xs=some true:=eqI_rfl xs h
theorem markIntS_ (xs:(List Int))(k:Nat)(h:SmIntS xs)(hb:k+xs.length≤BB):Zs xs (k:Int)=some (((k+xs.length:Nat):Int),mkI xs k)∧Z0b (mkI xs k) (k:Int)=some ((k+xs.length:Nat):Int):=markI_eq xs k h hb
def Cap9 (x:Str):Prop:=x.length≤maxLen
def SmStr (x:Str):Prop:=x.length≤1048576
structure Cap70 (x:Node):Prop where
 Args:Cap23 x.Args
 Dims:Cap23 x.Dims
 Ints:Cap23 x.Ints
 Form:Cap9 x.Form
 Data:Cap23 x.Data
structure SmNode (x:Node):Prop where
 Args:SmIntS x.Args
 Dims:SmIntS x.Dims
 Ints:SmIntS x.Ints
 Form:SmStr x.Form
 Data:SmIntS x.Data
def wNode (x:Node):Nat:=x.Args.length+x.Dims.length+x.Ints.length+x.Form.length+x.Data.length
theorem smNode_of {x:Node}(h:wNode x≤1048576):SmNode x:=by
 unfold wNode at h
 exact ⟨smIntS_of (by omega),smIntS_of (by omega),smIntS_of (by omega),show _≤_ by omega,smIntS_of (by omega)⟩
theorem szNode_eq {x:Node}{left:Int}(hc:Cap70 x)(h0:0≤left)(h1:left≤1048576):Z2g x left=some (szR (wNode x) left):=by
 obtain ⟨c0,c1,c2,c3,c4⟩:=hc
 unfold Z2g wNode
 rw [szR_add h0,szR_add h0,szR_add h0,szR_add h0]
 rw [szIntS__eq c0 h0 (by omega),bind_some']
 by_cases h2:szR (x.Args.length) left<0
 ·simp [h2]
 ·obtain ⟨q0,q1,q0x⟩:=szR_le h0 h2
  rw [if_neg (by simpa using h2),if_neg h2]
  rw [szIntS__eq c1 q0 (by omega),bind_some']
  by_cases h3:szR (x.Dims.length) (szR (x.Args.length) left)<0
  ·simp [h3]
  ·obtain ⟨q2,q3,q1x⟩:=szR_le q0 h3
   rw [if_neg (by simpa using h3),if_neg h3]
   rw [szIntS__eq c2 q2 (by omega),bind_some']
   by_cases h4:szR (x.Ints.length) (szR (x.Dims.length) (szR (x.Args.length) left))<0
   ·simp [h4]
   ·obtain ⟨q4,q5,q2x⟩:=szR_le q2 h4
    rw [if_neg (by simpa using h4),if_neg h4]
    have e3:w64 (szR (x.Ints.length) (szR (x.Dims.length) (szR (x.Args.length) left)) - (x.Form.length:Int))=szR (x.Ints.length) (szR (x.Dims.length) (szR (x.Args.length) left)) - (x.Form.length:Int):=by
     have:x.Form.length≤9223372036854775807:=Nat.le_trans c3 (by decide)
     exact w64_id (by omega) (by omega)
    by_cases h5:szR (x.Form.length) (szR (x.Ints.length) (szR (x.Dims.length) (szR (x.Args.length) left)))<0
    ·have:szR (x.Ints.length) (szR (x.Dims.length) (szR (x.Args.length) left))<(x.Form.length:Int):=by unfold szR at h5; split at h5<;>omega
     rw [e3,if_pos (by simp; omega)]
     simp [h5]
    ·obtain ⟨q6,q7,q3x⟩:=szR_le q4 h5
     rw [e3,← q3x,if_neg (by simpa using h5),if_neg h5]
     rw [szIntS__eq c4 q6 (by omega),bind_some']
     by_cases h6:szR (x.Data.length) (szR (x.Form.length) (szR (x.Ints.length) (szR (x.Dims.length) (szR (x.Args.length) left))))<0
     ·rw [if_pos (by simpa using h6),szR_m1 h6 q6]
     ·obtain ⟨q8,q9,q4x⟩:=szR_le q6 h6
      rw [if_neg (by simpa using h6)]
theorem toNode_ (x:Node)(h:SmNode x):Z2t x=some x:=by
 unfold Z2t
 rw [toIntS_ _ h.Args,bind_some',toIntS_ _ h.Dims,bind_some',toIntS_ _ h.Ints,bind_some',toIntS_ _ h.Data,bind_some']
theorem eqNode_ (x:Node)(h:SmNode x):Z2f x x=some true:=by
 unfold Z2f
 rw [eqIntS_ _ h.Args,bind_some',eqIntS_ _ h.Dims,bind_some',eqIntS_ _ h.Ints,bind_some',eqIntS_ _ h.Data,bind_some']
 simp
def Cap22 (xs:(List Node)):Prop:=xs.length≤maxLen∧∀ x∈xs,Cap70 x
def SmNodeS (xs:(List Node)):Prop:=xs.length≤1048576∧∀ x∈xs,SmNode x
theorem smNodeS_of {xs:(List Node)}(h:sumN wNode xs≤1048576):SmNodeS xs:=⟨Nat.le_trans (sumN_len _ _) h,fun x hx=>smNode_of (Nat.le_trans (sumN_mem _ hx) h)⟩
theorem szNodeS_eq {xs:(List Node)}{left:Int}(hc:Cap22 xs)(h0:0≤left)(h1:left≤1048576):Z15 xs left=some (szR (sumN wNode xs) left):=by
 unfold Z15
 refine sz_list (x:=fun l=>(loopM (fun s:Int×Int=>Z15_L1 xs s.1 s.2) (l,(0:Int))).bind fun e=>match e with | .inl e=>some e | .inr e=>Z15_J1 e) (Nat.le_trans hc.1 (by decide)) h0 h1 (fun h=>?_)
 obtain ⟨q1,q2,q3⟩:=szR_le h0 h
 exact sz_loop xs wNode (Nat.lt_of_le_of_lt (show xs.length≤1048576 by unfold szR at h; split at h<;>omega) (by decide)) Z2g _ (fun x hx left=>szNode_eq (hc.2 x hx)) (fun _ _=>rfl) _ q1 (by omega)
theorem toNodeS_ (xs:(List Node))(h:SmNodeS xs):Z0n xs=some xs:=by
 unfold Z0n
 rw [if_pos (by have:xs.length≤1048576:=h.1; omega),set_loop xs zT54.z (fun s:(List Node)×Int=>Z0n_L1 xs s.1 s.2) (fun s i=>(s,i)) (fun ys k hl hk=>by
  have hb:xs.length≤1048576:=h.1
  show Z0n_L1 xs ys (k:Int)=_
  unfold Z0n_L1
  rw [if_pos (lt_ hk),if_pos (inr_ hk),toNode_ _ (h.2 _ (ix_mem hk)),bind_some',if_pos (rep_ hk),w64k (by unfold big; omega)]; rfl) (fun ys _=>by
  show Z0n_L1 xs ys (xs.length:Int)=_
  unfold Z0n_L1; simp only [nlt_,Bool.false_eq_true,if_false])]
 rfl
theorem eqNodeS_ (xs:(List Node))(h:SmNodeS xs):Z1a xs xs=some true:=by
 unfold Z1a
 rw [bne_self_i,eqL_rfl xs (fun s:Int=>Z1a_L1 xs xs s) h.1 Z2f (fun x hx=>eqNode_ x (h.2 x hx)) (fun _=>rfl)]; rfl
def nmNode (x:Node):Nat:=1+x.Args.length+x.Dims.length+x.Ints.length+1+x.Data.length
noncomputable def gmNode (x:Node)(k:Nat):Node:=⟨((k:Nat):Int),mkI x.Args (k+1),mkI x.Dims (k+1+x.Args.length),mkI x.Ints (k+1+x.Args.length+x.Dims.length),mkT (k+1+x.Args.length+x.Dims.length+x.Ints.length),mkI x.Data (k+1+x.Args.length+x.Dims.length+x.Ints.length+1)⟩
noncomputable def mkNodeS (xs:(List Node))(k:Nat):(List Node):=((Z0k xs (k:Int)).getD default).2
theorem markNodeS_ (xs:(List Node))(k:Nat)(h:SmNodeS xs)(hb:k+cnt nmNode xs≤BB):Z0k xs (k:Int)=some (((k+cnt nmNode xs:Nat):Int),mkNodeS xs k):=by
 obtain ⟨ys,y1,y2,y3⟩:=mark_loop (U:=Int×Int) xs nmNode gmNode (fun s:(List Node)×Int×Int=>Z0k_L1 xs s.1 s.2.1 s.2.2) (fun ys k i=>(ys,k,i)) (fun ys k i hi hy hx hk=>by
  show Z0k_L1 xs ys (k:Int) (i:Int)=_
  have hdi:=h.2 _ (ix_mem hi)
  have hiy:i<ys.length:=by omega
  unfold nmNode at hk
  unfold Z0k_L1 gmNode nmNode
  generalize ix xs (i:Int)=x at *
  rw [if_pos (lt_ hi),if_pos (inr_ hi),wi h.1 hi]
  (try simp only [nm_bind,Int.toNat_natCast,ixSet hiy,List.set_set,hx])
  rw [wn (by omega)]
  (try simp only [nm_bind,Int.toNat_natCast,ixSet hiy,List.set_set,hx])
  rw [(markI_eq _ _ hdi.Args (by omega)).1,bind_some']
  (try simp only [nm_bind,Int.toNat_natCast,ixSet hiy,List.set_set,hx])
  rw [(markI_eq _ _ hdi.Dims (by omega)).1,bind_some']
  (try simp only [nm_bind,Int.toNat_natCast,ixSet hiy,List.set_set,hx])
  rw [(markI_eq _ _ hdi.Ints (by omega)).1,bind_some']
  (try simp only [nm_bind,Int.toNat_natCast,ixSet hiy,List.set_set,hx])
  rw [markT_,bind_some',wn (by omega)]
  (try simp only [nm_bind,Int.toNat_natCast,ixSet hiy,List.set_set,hx])
  rw [(markI_eq _ _ hdi.Data (by omega)).1,bind_some']
  (try simp only [nm_bind,Int.toNat_natCast,ixSet hiy,List.set_set,hx])
  rw [show k+1+x.Args.length+x.Dims.length+x.Ints.length+1+x.Data.length=k+(1+x.Args.length+x.Dims.length+x.Ints.length+1+x.Data.length) by omega]) (fun ys k=>by
  show Z0k_L1 xs ys k (xs.length:Int)=_
  unfold Z0k_L1; simp only [nlt_,Bool.false_eq_true,if_false]) k hb
 have e:Z0k xs (k:Int)=some (((k+cnt nmNode xs:Nat):Int),ys):=by
  unfold Z0k; rw [y1,bind_some']; rfl
 have em:mkNodeS xs k=ys:=by unfold mkNodeS; rw [e]; rfl
 rw [em,e]
structure Cap25 (x:Graph):Prop where
 Nodes:Cap22 x.Nodes
 Outs:Cap23 x.Outs
structure SmGraph (x:Graph):Prop where
 Nodes:SmNodeS x.Nodes
 Outs:SmIntS x.Outs
def wGraph (x:Graph):Nat:=sumN wNode x.Nodes+x.Outs.length
theorem smGraph_of {x:Graph}(h:wGraph x≤1048576):SmGraph x:=by
 unfold wGraph at h
 exact ⟨smNodeS_of (by omega),smIntS_of (by omega)⟩
theorem szGraph_eq {x:Graph}{left:Int}(hc:Cap25 x)(h0:0≤left)(h1:left≤1048576):Z2s x left=some (szR (wGraph x) left):=by
 obtain ⟨c0,c1⟩:=hc
 unfold Z2s wGraph
 rw [szR_add h0]
 rw [szNodeS_eq c0 h0 (by omega),bind_some']
 by_cases h2:szR (sumN wNode x.Nodes) left<0
 ·simp [h2]
 ·obtain ⟨q0,q1,q0x⟩:=szR_le h0 h2
  rw [if_neg (by simpa using h2),if_neg h2]
  rw [szIntS__eq c1 q0 (by omega),bind_some']
  by_cases h3:szR (x.Outs.length) (szR (sumN wNode x.Nodes) left)<0
  ·rw [if_pos (by simpa using h3),szR_m1 h3 q0]
  ·obtain ⟨q2,q3,q1x⟩:=szR_le q0 h3
   rw [if_neg (by simpa using h3)]
theorem toGraph_ (x:Graph)(h:SmGraph x):Z16 x=some x:=by
 unfold Z16
 rw [toNodeS_ _ h.Nodes,bind_some',toIntS_ _ h.Outs,bind_some']
theorem eqGraph_ (x:Graph)(h:SmGraph x):Z2e x x=some true:=by
 unfold Z2e
 rw [eqNodeS_ _ h.Nodes,bind_some',eqIntS_ _ h.Outs,bind_some']
 simp
theorem markGraph_ (x:Graph)(k:Nat)(h:SmGraph x)(hb:k+(cnt nmNode x.Nodes+x.Outs.length)≤BB):∃ r,Z22 x (k:Int)=some (((k+cnt nmNode x.Nodes+x.Outs.length:Nat):Int),r):=by
 unfold Z22
 rw [(markNodeS_ x.Nodes (k) h.Nodes (by omega)),bind_some',(markIntS_ x.Outs (k+cnt nmNode x.Nodes) h.Outs (by omega)).1,bind_some']
 exact ⟨_,rfl⟩
theorem gc_of {g:Graph}(h:SmGraph g):GC g:=by
 have b:(1048576:Nat)<big:=by decide
 have hn:=h.Nodes
 exact ⟨Nat.lt_of_le_of_lt hn.1 b,Nat.lt_of_le_of_lt h.Outs b,fun n m=>Nat.lt_of_le_of_lt (hn.2 n m).Args b,fun n m=>Nat.lt_of_le_of_lt (hn.2 n m).Dims b,fun n m=>Nat.lt_of_le_of_lt (hn.2 n m).Ints b,fun n m=>Nat.lt_of_le_of_lt (hn.2 n m).Data b,fun n m=>(hn.2 n m).Form⟩
theorem sm_or {g:Graph}(h:¬ szR (wGraph g) 1048576<0):SmGraph g:=smGraph_of (by unfold szR at h; split at h<;>omega)
def plcs (p:Nat→Bool)(n:Nat):List Int:=((List.range n).filter p).map fun k:Nat=>(k:Int)
theorem plcs_succ (p:Nat→Bool)(n:Nat):plcs p (n+1)=if p n=true then plcs p n++[(n:Int)] else plcs p n:=by
 unfold plcs
 rw [List.range_succ,List.filter_append,List.map_append]
 by_cases h:p n=true<;>simp [h]
theorem plcs_len (p:Nat→Bool)(n:Nat):(plcs p n).length≤n:=by
 unfold plcs
 rw [List.length_map]
 have:=List.length_filter_le p (List.range n)
 simpa using this
theorem mg_ok {a:Graph}(hs:SmGraph a):∃ (n:Nat) (r:(List Node)×(List Int)),Z22 a 1=some ((n:Int),r):=by
 have hn:=hs.Nodes
 have ho:a.Outs.length≤1048576:=hs.Outs
 have hc:cnt nmNode a.Nodes≤1048576*4194306:=cnt_bd nmNode 4194306 a.Nodes (fun x hx=>by
  have:=hn.2 x hx
  have a1:x.Args.length≤1048576:=this.Args
  have a2:x.Dims.length≤1048576:=this.Dims
  have a3:x.Ints.length≤1048576:=this.Ints
  have a4:x.Data.length≤1048576:=this.Data
  unfold nmNode; omega) hn.1
 obtain ⟨r,hr⟩:=markGraph_ a 1 hs (by unfold BB; omega)
 exact ⟨_,r,hr⟩
theorem nn (n:Nat):decide ((n:Int)<0)=false:=by simp
theorem bne_self_b (x:Int):(x != x)=false:=by simp
theorem tail_ints {a:Graph}{x:List Int}{f:Graph→Option (List Int)}(hs:SmGraph a)(hx:x.length≤1048576)(hf:f a=some x){g:Graph→Option (List Int)}(hg:g a=some x) :
  ((g a).bind fun r12=>(Z16 a).bind fun r15=>(f r15).bind fun r20=>(Zu r20 r12).bind fun r23=>if (!r23)=true then some false else ((Z16 a).bind fun r26=>(Z2e r15 r26).bind fun r30=>if (!r30)=true then some false else (
   (Z22 r15 (1:Int)).bind fun r33=>(gcall (!(decide (r33.1<(0:Int)))) (Zu r20 r12)).bind fun r35=>if ((decide (r33.1<(0:Int)))||(!r35))=true then some false else (
   (Zs r20 (1:Int)).bind fun r39=>(Z0b r39.2 (1:Int)).bind fun r41=>if (decide (r41<(0:Int)))=true then some false else (if (r41 != r39.1)=true then some false else (
   (Z16 a).bind fun r45=>(f r45).bind fun r49=>(Zu r49 r12).bind fun r52=>if (!r52)=true then some false else (
   (Z0b r39.2 (1:Int)).bind fun r55=>if (decide (r55<(0:Int)))=true then some false else (if (r55 != r39.1)=true then some false else some true))))))):Option Bool)=some true:=by
 obtain ⟨n,r,hm⟩:=mg_ok hs
 obtain ⟨m1,m2⟩:=markI_eq x 1 hx (by unfold BB; omega)
 have e1:((1:Nat):Int)=1:=rfl
 rw [e1] at m1 m2
 rw [hg,bind_some',toGraph_ a hs,bind_some',hf,bind_some',eqI_rfl x hx,bind_some',if_neg (by simp),bind_some',eqGraph_ a hs,bind_some',if_neg (by simp),hm,bind_some',nn,Bool.not_false,gc_t,bind_some',if_neg (by simp),m1,bind_some',m2,bind_some',nn,if_neg (by simp),bne_self_b,if_neg (by simp),bind_some',hf,bind_some',eqI_rfl x hx,bind_some',if_neg (by simp),bind_some',nn,if_neg (by simp),if_neg (by simp)]
theorem ins_s {g:Graph}(ok:Bool)(hn:g.Nodes.length≤200∨ok=false):loopM (fun s:List Int×Int=>Z01_L1 g ok s.1 s.2) ([],0)=some (if ok=true then plcs (fun k=>(ix g.Nodes (k:Int)).Op==1) g.Nodes.length else []):=by
 cases ok with
 | false =>
  refine loopM_end ?_
  simp only [Z01_L1]
  rw [if_neg (by simp)]; rfl
 | true =>
  have hn:=hn.resolve_right (by simp)
  rw [if_pos rfl]
  refine loopN (f:=fun s:List Int×Int=>Z01_L1 g true s.1 s.2) (fun k=>(plcs (fun k=>(ix g.Nodes (k:Int)).Op==1) k,(k:Int))) g.Nodes.length (fun k hk=>?_) ?_ rfl
  ·have hl:=plcs_len (fun k=>(ix g.Nodes (k:Int)).Op==1) k
   simp only [Z01_L1,Z01_J2]
   rw [if_pos (by simp; omega),if_pos (by omega),w64k (by unfold big; omega)]
   by_cases q:((ix g.Nodes (k:Int)).Op==1)=true
   ·rw [if_pos q,if_pos (by simp; omega),plcs_succ,if_pos q]
   ·rw [if_neg q,plcs_succ,if_neg q]
  ·simp only [Z01_L1]
   rw [if_neg (by simp)]
theorem ins_i {g:Graph}(hn:g.Nodes.length≤200):Z06 g=some (plcs (fun k=>(ix g.Nodes (k:Int)).Op==1) g.Nodes.length):=by
 unfold Z06
 rw [loopN (f:=fun s:List Int×Int=>Z06_L1 g s.1 s.2) (r:=plcs (fun k=>(ix g.Nodes (k:Int)).Op==1) g.Nodes.length) (fun k=>(plcs (fun k=>(ix g.Nodes (k:Int)).Op==1) k,(k:Int))) g.Nodes.length (fun k hk=>by
   have hl:=plcs_len (fun k=>(ix g.Nodes (k:Int)).Op==1) k
   simp only [Z06_L1,Z06_J2]
   rw [if_pos (by simp; omega),if_pos (by omega),w64k (by unfold big; omega)]
   by_cases q:((ix g.Nodes (k:Int)).Op==1)=true
   ·rw [if_pos q,if_pos (by simp; omega),plcs_succ,if_pos q]
   ·rw [if_neg q,plcs_succ,if_neg q]) (by
   simp only [Z06_L1]
   rw [if_neg (by simp)]) (s:=([],0)) rfl]
 rfl
theorem law_inputs (a:Graph)(hc:Cap25 a):Z34 a=some true:=by
 unfold Z34
 rw [szGraph_eq hc (by omega) (by omega),bind_some']
 by_cases h:szR (wGraph a) 1048576<0
 ·rw [if_pos (by simpa using h)]
 ·have hs:=sm_or h
  obtain ⟨ts,sh,ok,h1,h2,h3⟩:=shapes_both (gc_of hs)
  have g1:Z2u a=some ok:=by unfold Z2u; rw [h1]; rfl
  have g2:Z2h a=some ok:=by unfold Z2h; rw [h2]; rfl
  have hn:a.Nodes.length≤200∨ok=false:=by
   cases ok
   ·exact .inr rfl
   ·exact .inl (h3 rfl).2.2.2.2.1
  obtain ⟨x,hx⟩:∃ x,x=if ok=true then plcs (fun k=>(ix a.Nodes (k:Int)).Op==1) a.Nodes.length else []:=⟨_,rfl⟩
  have k1:Z01 a=some x:=by
   unfold Z01
   rw [g1,bind_some',ins_s ok hn,bind_some',hx]; rfl
  have k2:Z1u a=some x:=by
   unfold Z1u
   rw [g2,bind_some',hx]
   cases ok
   ·rfl
   ·rw [if_neg (by simp),ins_i (hn.resolve_right (by simp))]; rfl
  have hl:x.length≤1048576:=by
   rw [hx]; split
   ·have:=plcs_len (fun k=>(ix a.Nodes (k:Int)).Op==1) a.Nodes.length
    have:a.Nodes.length≤1048576:=hs.Nodes.1
    omega
   ·simp
  rw [if_neg (by simpa using h),toGraph_ a hs,bind_some']
  have:=tail_ints hs hl k2 k1
  rw [toGraph_ a hs] at this
  exact this
end Go.Proofs.YtmpnollfdpdipaaGreat
