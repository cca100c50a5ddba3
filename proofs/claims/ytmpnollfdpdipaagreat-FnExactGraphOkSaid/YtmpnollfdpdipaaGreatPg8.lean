import Derived.Test.YtmpnollfdpdipaaGreatPg7
set_option linter.unusedVariables false
set_option linter.unusedSimpArgs false
namespace Go.Pg
theorem storeCells_blk {P:Program}{b:Nat}{T:Nat}{fr:Nat×Nat}{N:Nat}(hf:fr=(0,0)∨N≤fr.1):∀ (vs:List Value) (k j:Nat) (cs:List Value) (w:World),cs.length=N→w.heap[b]?=some (.cells cs.toArray T fr)→k+j+vs.length≤cs.length→(∀ v∈vs,v.oneCell'=true) →
  ∃ w',(storeCells ⟨b,k,none⟩ vs j).run P w=.ok () w'∧w'.heap[b]?=some (.cells (cs.take (k+j)++vs++cs.drop (k+j+vs.length)).toArray T fr)∧(∀ i,i≠b→w'.heap[i]?=w.heap[i]?)∧∀ C,Same C w→Same C w':=by
 intro vs
 induction vs with
 | nil =>
  intro k j cs w _ hb _ _
  exact ⟨w,by simp [storeCells],by simpa using hb,fun _ _=>rfl,fun _ h=>h⟩
 | cons v vs ih =>
  intro k j cs w hN hb hl hv
  have hl':k+j<cs.length:=by simp at hl; omega
  have h1:=run_store_blk (P:=P) hb hl' (by rw [hN]; exact hf) (hv v (by simp))
  have hb':(w.setCell ⟨b,k+j,none⟩ v).heap[b]?=some (.cells (cs.set (k+j) v).toArray T fr):=by rw [heap_set_same hb]; simp
  obtain ⟨w',r,e,o,sm⟩:=ih k (j+1) (cs.set (k+j) v) _ (by simpa using hN) hb' (by simp at *; omega) (fun u hu=>hv u (by simp [hu]))
  refine ⟨w',?_,?_,fun i hi=>?_,fun C hC=>sm C (hC.setCell _ _)⟩
  ·simp only [storeCells,Sem.run_bind,add_eq,h1,Result.andThen_ok,r]
  ·rw [e]
   congr 2
   rw [show k+(j+1)=(k+j)+1 by omega,List.take_succ_eq_append_getElem (by simp; exact hl'),List.take_set_of_le (Nat.le_refl _),List.drop_set_of_lt (by omega)]
   simp [Nat.add_assoc,Nat.add_comm,Nat.add_left_comm]
  ·rw [o i hi,heap_set_other hi]
def Src {α:Type}(q:HP)(K:Kind α)(x:Value)(ys:List α):Prop :=
 ∀ I h,q.p I h→∃ A c news h',x=.slice A ys.length c∧ys.length≤maxLen∧Hp.le h' h∧ownL K I h' ys news ∧
  (∀ J,Hp.le I J→Hp.le h J→0<ys.length→∃ g o,A=some ⟨g,o,none⟩∧∀ k u,news[k]?=some u→cellH J g (o+k)=some u)
theorem src_ow {α:Type}{K:Kind α}{e:Nat}{v:Value}{ys:List α}:Src (ow K e v ys) K v ys:=by
 intro I h p
 have p:owS K e I h v ys:=p
 rcases p with ⟨A,rfl,rfl,rfl⟩|⟨g,c,pre,used,spare,fr,hb,rfl,h2,h3,h4,h5,jo,ol⟩
 ·exact ⟨A,0,[],Hp.none,rfl,Nat.zero_le _,Hp.le_refl _,⟨rfl,rfl⟩,fun _ _ _ h=>absurd h (Nat.lt_irrefl _)⟩
 ·refine ⟨_,c,used,hb,rfl,Nat.le_trans h2 h3,jo.right,ol,fun J _ lh _=>⟨g,pre.length,rfl,fun k u hu=>?_⟩⟩
  have hblk:J g=some (.cells (pre++used++spare).toArray e fr):=lh _ _ (jo.left g _ (by simp [Hp.one]))
  unfold cellH
  rw [hblk]
  have hlt:=(List.getElem?_eq_some_iff.1 hu).1
  show (pre++used++spare).toArray[pre.length+k]?=some u
  rw [List.getElem?_toArray,List.append_assoc,List.getElem?_append_right (by omega),Nat.add_sub_cancel_left,List.getElem?_append_left hlt]
  exact hu
theorem flat_cells {α:Type}{K:Kind α}(hf:K.Flat){J:Hp}{g o:Nat}:∀ (ys:List α) (b:Nat),(∀ j x,ys[j]?=some x→∃ cs,K.rd J x cs∧∀ i u,cs[i]?=some u→cellH J g (o+(b+j)*K.sz+i)=some u) →
  ∃ news,ownL K J Hp.none ys news∧∀ k u,news[k]?=some u→cellH J g (o+b*K.sz+k)=some u:=by
 intro ys
 induction ys with
 | nil=>intro b _; exact ⟨[],⟨rfl,rfl⟩,fun k u hu=>by simp at hu⟩
 | cons y ys ih =>
  intro b hc
  obtain ⟨cs,h1,h2⟩:=hc 0 y rfl
  obtain ⟨news,o1,o2⟩:=ih (b+1) (fun j x hx=>by
   obtain ⟨cs,p,q⟩:=hc (j+1) x (by simpa using hx)
   exact ⟨cs,p,fun i u hu=>by rw [show b+1+j=b+(j+1) by omega]; exact q i u hu⟩)
  refine ⟨cs++news,⟨Hp.none,Hp.none,cs,news,Join.none _,rfl,hf _ _ _ h1,o1⟩,fun k u hu=>?_⟩
  have hl:=K.rd_len h1
  by_cases hk:k<cs.length
  ·rw [List.getElem?_append_left hk] at hu
   simpa using h2 k u hu
  ·rw [List.getElem?_append_right (by omega)] at hu
   have:=o2 _ u hu
   rw [Nat.succ_mul] at this
   rw [show o+b*K.sz+k=o+(b*K.sz+K.sz)+(k - cs.length) by omega]
   exact this
theorem src_rd {α:Type}{K:Kind α}(hf:K.Flat){v:Value}{ys:List α}:Src (rds K v ys) K v ys:=by
 rintro I h ⟨rfl,A,c,hv,h2,h3,h4⟩
 by_cases hp:0<ys.length
 ·obtain ⟨g,o,hA,hc⟩:=h4 hp
  obtain ⟨news,o1,o2⟩:=flat_cells hf ys 0 (fun j x hx=>by
   obtain ⟨cs,p,q⟩:=hc j x hx
   exact ⟨cs,p,fun i u hu=>by rw [show 0+j=j from Nat.zero_add j]; exact q i u hu⟩)
  refine ⟨A,c,news,Hp.none,hv,h3,Hp.le_refl _,o1,fun J l _ _=>⟨g,o,hA,fun k u hu=>cellH_mono l ?_⟩⟩
  simpa using o2 k u hu
 ·obtain rfl:ys=[]:=List.eq_nil_of_length_eq_zero (by omega)
  exact ⟨A,c,[],Hp.none,hv,h3,Hp.le_refl _,⟨rfl,rfl⟩,fun _ _ _ h=>absurd h hp⟩
theorem Le.one_new {w w':World}{o:Obj}(h:w'.heap[w.heap.size]?=some o):Le (Hp.one w.heap.size o) w':=by
 intro b o' e
 simp only [Hp.one] at e
 split at e
 ·rename_i hb; subst hb; rw [← Option.some.inj e]; exact h
 ·cases e
theorem run_app {α:Type}{P:Program}{K:Kind α}{t ty e:TypeId}{by_:Nat}{w:World}{s x:Value}{xs ys:List α}{z:α}(ht:slB P t=some e)(hs:szB P e=some K.sz)(hb:bytesB P e=some by_)(hz:ZeroK P K e z)(hsz:0<K.sz)
  {I h1 h2 h12:Hp} {q:HP} (hj:Join h1 h2 h12) (ho:owS K e I h1 s xs) (hq:q.p I h2) (hsrc:Src q K x ys) (lI:Le I w) (l12:Le h12 w) (dj:∀ b,I b=Option.none∨h12 b=Option.none) (hl:(xs.length+ys.length)*by_≤140737488355328) (hl2:xs.length+ys.length≤140737488355328) (hby:0<by_) :
  ∃ a c w' h',(Builtin.append_ #[t,t] ty #[s,x]).run P w=.ok (.slice a (xs++ys).length c) w'∧(∀ C,Same C w→Same C w')∧owS K e I h' (.slice a (xs++ys).length c) (xs++ys)∧Le h' w' ∧
   (∀ k,h' k≠Option.none→h12 k≠Option.none∨w.heap.size≤k)∧∀ (k:Nat) (o:Obj),h12 k=Option.none→w.heap[k]?=some o→w'.heap[k]?=some o:=by
 obtain ⟨A,cx,news,h2',rfl,hm,lh2,on,hnews⟩:=hsrc I h2 hq
 have hnl:=ownL_len on
 obtain ⟨J,jJ⟩:=Join.of_disj dj
 have lJ:Le J w:=fun b o e=>by
  rcases jJ.cases e with ⟨e,_⟩|⟨e,_⟩
  ·exact lI b o e
  ·exact l12 b o e
 have hrd:=hnews J jJ.left (Hp.le_trans hj.right jJ.right)
 obtain ⟨zc,hz1,hz2,hz3⟩:=hz
 have hu:=slB_eq ht
 unfold zcB at hz1
 unfold szB at hs
 unfold bytesB at hb
 cases hi:P.info? e with
 | none=>rw [hi] at hs; cases hs
 | some info =>
 rw [hi] at hz1 hs hb
 simp only [Option.map_some,Option.some.injEq,Option.bind_some] at hz1 hs hb
 cases hzz:info.zero with
 | none=>rw [hzz] at hz1; cases hz1
 | some zv =>
 have hlen:(xs++ys).length=xs.length+ys.length:=List.length_append
 rcases Nat.eq_zero_or_pos ys.length with h0 | hpos
 ·-- nothing comes
  obtain rfl:ys=[]:=List.eq_nil_of_length_eq_zero h0
  have hn0:news=[]:=on.2
  have e0:h2'=Hp.none:=on.1
  rcases ho with ⟨B,rfl,rfl,rfl⟩|⟨g,c,pre,used,spare,fr,hbk,rfl,p2,p3,p4,p5,jo,ol⟩
  ·refine ⟨B,0,w,Hp.none,?_,fun _ h=>h,.inl ⟨B,rfl,rfl,rfl⟩,fun _ _ e=>(by cases e),fun _ h=>absurd rfl h,fun _ _ _ h=>h⟩
   cases B<;>cases A with
   | none=>simp [Builtin.append_,run_underlying hu,sizeOf,typeInfo,hi,Builtin.lenOf,Builtin.firstCells,loadCells,loadCellsFrom,storeCells]
   | some a=>simp [Builtin.append_,run_underlying hu,sizeOf,typeInfo,hi,Builtin.lenOf,Builtin.firstCells,loadCells,loadCellsFrom,storeCells]
  ·refine ⟨some ⟨g,pre.length,none⟩,c,w,h1,?_,fun _ h=>h,.inr ⟨g,c,pre,used,spare,fr,hbk,by simp,by simpa using p2,p3,by simpa using p4,p5,jo,by simpa using ol⟩,?_,?_,fun _ _ _ h=>h⟩
   ·cases A with
    | none=>simp [Builtin.append_,run_underlying hu,sizeOf,typeInfo,hi,Builtin.lenOf,Builtin.firstCells,loadCells,loadCellsFrom,p2,storeCells]
    | some a=>simp [Builtin.append_,run_underlying hu,sizeOf,typeInfo,hi,Builtin.lenOf,Builtin.firstCells,loadCells,loadCellsFrom,p2,storeCells]
   ·exact l12.mono hj.left
   ·exact fun k hk=>.inl fun hn=>hk ((hj.is_none k).1 hn).1
 ·obtain ⟨g2,o2,rfl,hcells⟩:=hrd hpos
  have hcell:∀ (j:Nat) (v:Value),news[j]?=some v→w.cell? ((⟨g2,o2,none⟩:Addr).add j)=some v:=fun j v hv=>by
   rw [add_eq]
   exact cell_of_H lJ (hcells j v hv)
  have hnl':news.length=ys.length*info.size:=by rw [hnl,hs]
  have fresh:∀ (old:Nat) (olds:List Value) (h1':Hp),old<xs.length+ys.length→Hp.le h1' h1→ownL K I h1' xs olds →
    ∃ h',owS K e I h' (.slice (some ⟨w.heap.size,0,none⟩) (xs++ys).length (grownCap w (xs.length+ys.length) old e)) (xs++ys) ∧
     Le h' (w.drew.alloc (.cells (olds.toArray++news.toArray++Builtin.zeroCells zv.cells (grownCap w (xs.length+ys.length) old e - (xs.length+ys.length))) e)) ∧
     (∀ k,h' k≠Option.none→h12 k≠Option.none∨w.heap.size≤k):=by
   intro old olds h1' hlt le1 ol
   obtain ⟨hu',ju⟩:=Join.of_disj (h1:=h1') (h2:=h2') (fun b=>by
    rcases hj.disj b with f | f
    ·refine .inl ?_
     cases hh:h1' b with
     | none=>rfl
     | some o=>rw [le1 b o hh] at f; cases f
    ·refine .inr ?_
     cases hh:h2' b with
     | none=>rfl
     | some o=>rw [lh2 b o hh] at f; cases f)
   have hule:Hp.le hu' h12:=fun b o e=>by
    rcases ju.cases e with ⟨e,_⟩|⟨e,_⟩
    ·exact hj.left b o (le1 b o e)
    ·exact hj.right b o (lh2 b o e)
   obtain ⟨h',jo⟩:=Join.of_disj (h1:=Hp.one w.heap.size (.cells (olds.toArray++news.toArray++Builtin.zeroCells zv.cells (grownCap w (xs.length+ys.length) old e - (xs.length+ys.length))) e)) (h2:=hu') (fun b=>by
    by_cases hbb:b=w.heap.size
    ·refine .inr ?_
     cases hh:hu' b with
     | none=>rfl
     | some o =>
      have:=l12.lt (b:=b) (by rw [hule b o hh]; exact fun h=>by cases h)
      omega
    ·exact .inl (by simp [Hp.one,hbb]))
   have hcap:=grownCap_ge w (xs.length+ys.length) old e
   have hcm:=grownCap_le_maxLen w (xs.length+ys.length) old e (by simp only [maxLen]; omega)
   refine ⟨h',.inr ⟨w.heap.size,_,[],olds++news,(Builtin.zeroCells zv.cells (grownCap w (xs.length+ys.length) old e - (xs.length+ys.length))).toList,(0,0),hu',rfl,by rw [hlen]; exact hcap,hcm,?_,.inl rfl,?_,ownL_app ju ol on⟩,?_,?_⟩
   ·rw [hlen]
    have:zv.cells.size=K.sz:=by
     rw [hzz] at hz1
     simp only [Option.map_some,Option.some.injEq] at hz1
     rw [← hz2,← hz1]; simp
    simp [size_zeroCells,this]
   ·have:([]++(olds++news)++(Builtin.zeroCells zv.cells (grownCap w (xs.length+ys.length) old e - (xs.length+ys.length))).toList).toArray=olds.toArray++news.toArray++Builtin.zeroCells zv.cells (grownCap w (xs.length+ys.length) old e - (xs.length+ys.length)):=by
     apply Array.ext'
     simp
    rw [this]
    exact jo
   ·intro b o e
    rcases jo.cases e with ⟨e,_⟩|⟨e,_⟩
    ·exact Le.one_new (w:=w) (by show (w.heap.push _)[w.heap.size]?=_; simp) b o e
    ·have hlt:=l12.lt (b:=b) (by rw [hule b o e]; exact fun h=>by cases h)
     show (w.heap.push _)[b]?=_
     rw [Array.getElem?_push,if_neg (Nat.ne_of_lt hlt)]
     exact l12 b o (hule b o e)
   ·intro k hk
    by_cases hkk:k=w.heap.size
    ·exact .inr (Nat.le_of_eq hkk.symm)
    ·refine .inl fun hn=>hk ((jo.is_none k).2 ⟨by simp [Hp.one,hkk],?_⟩)
     cases hh:hu' k with
     | none=>rfl
     | some o=>rw [hule k o hh] at hn; cases hn
  have keep:∀ (O:Obj) (k:Nat) (o:Obj),h12 k=Option.none→w.heap[k]?=some o→(w.drew.alloc O).heap[k]?=some o:=by
   intro O k o _ e
   have hlt:=(Array.getElem?_eq_some_iff.1 e).1
   show (w.heap.push _)[k]?=_
   rw [Array.getElem?_push,if_neg (Nat.ne_of_lt hlt)]
   exact e
  have same:∀ (O:Obj) (C:World),Same C w→Same C (w.drew.alloc O):=fun O C h=>h.drew.alloc O
  rcases ho with ⟨B,rfl,rfl,rfl⟩|⟨g,c,pre,used,spare,fr,hbk,rfl,p2,p3,p4,p5,jo,ol⟩
  ·cases B with
   | some b =>
    have hr:=run_append_grow (P:=P) w t ty e info zv hu hi hzz b 0 0 [] (by simp) (fun j v hv=>by simp at hv) ⟨g2,o2,none⟩ ys.length cx news hnl' hcell (by omega) (by omega) (by rw [hb,Nat.zero_add]; exact growslice_fits hpos (by simpa using hl))
    obtain ⟨h',f1,f2,f3⟩:=fresh 0 [] Hp.none (by simp; exact hpos) (Hp.le_refl _) ⟨rfl,rfl⟩
    simp only [List.length_nil,Nat.zero_add,List.nil_append] at f1 f2 hr ⊢
    exact ⟨_,_,_,h',hr,same _,f1,f2,f3,keep _⟩
   | none =>
   have hr:=run_append_nil (P:=P) w t ty e info zv hu hi hzz ⟨g2,o2,none⟩ ys.length cx news hnl' hcell hpos (by omega) (by rw [hb]; simp only [List.length_nil,Nat.zero_add] at hl; omega)
   obtain ⟨h',f1,f2,f3⟩:=fresh 0 [] Hp.none (by simp; exact hpos) (Hp.le_refl _) ⟨rfl,rfl⟩
   simp only [List.length_nil,Nat.zero_add,List.nil_append] at f1 f2 hr ⊢
   refine ⟨_,_,_,h',hr,same _,f1,?_,f3,keep _⟩
   rw [show ([]:List Value).toArray++news.toArray=news.toArray by simp] at f2
   exact f2
  ·have hblk:w.heap[g]?=some (.cells (pre++used++spare).toArray e fr):=l12 g _ (hj.left g _ (jo.left g _ (by simp [Hp.one])))
   have hul:=ownL_len ol
   by_cases hroom:xs.length+ys.length≤c
   ·-- in place
    have hsp:ys.length*K.sz≤spare.length:=by rw [p4]; exact Nat.mul_le_mul_right _ (by omega)
    obtain ⟨w',r,e',ot,sm⟩:=storeCells_blk (P:=P) (N:=(pre++used++spare).length) (T:=e) (fr:=fr) (b:=g) (by simpa [Nat.add_assoc] using p5) news (pre.length+xs.length*K.sz) 0 (pre++used++spare) w rfl hblk (by simp only [List.length_append]; omega) (ownL_one on)
    obtain ⟨hu',ju⟩:=Join.of_disj (h1:=hbk) (h2:=h2') (fun b=>by
     rcases hj.disj b with f | f
     ·exact .inl ((jo.is_none b).1 f).2
     ·refine .inr ?_
      cases hh:h2' b with
      | none=>rfl
      | some o=>rw [lh2 b o hh] at f; cases f)
    have hule:∀ b o,hu' b=some o→h12 b=some o∧b≠g:=fun b o e=>by
     rcases ju.cases e with ⟨e,_⟩|⟨e,_⟩
     ·refine ⟨hj.left b o (jo.right b o e),?_⟩
      rintro rfl
      rcases jo.disj b with f | f
      ·simp [Hp.one] at f
      ·rw [f] at e; cases e
     ·refine ⟨hj.right b o (lh2 b o e),?_⟩
      rintro rfl
      rcases hj.disj b with f | f
      ·have:=((jo.is_none b).1 f).1
       simp [Hp.one] at this
      ·rw [lh2 b o e] at f; cases f
    obtain ⟨h',jn⟩:=Join.of_disj (h1:=Hp.one g (.cells (pre++(used++news)++spare.drop news.length).toArray e fr)) (h2:=hu') (fun b=>by
     by_cases hbb:b=g
     ·refine .inr ?_
      cases hh:hu' b with
      | none=>rfl
      | some o=>exact absurd hbb (hule b o hh).2
     ·exact .inl (by simp [Hp.one,hbb]))
    have hcut:(pre++used++spare).take (pre.length+xs.length*K.sz+0)++news++(pre++used++spare).drop (pre.length+xs.length*K.sz+0+news.length)=pre++(used++news)++spare.drop news.length:=by
     have h1:pre.length+xs.length*K.sz+0=(pre++used).length:=by simp [hul]
     rw [h1,List.take_left,List.drop_append,List.drop_of_length_le (by omega),Nat.add_sub_cancel_left]
     simp [List.append_assoc]
    rw [hcut] at e'
    refine ⟨some ⟨g,pre.length,none⟩,c,w',h',?_,sm,.inr ⟨g,c,pre,used++news,spare.drop news.length,fr,hu',rfl,by rw [hlen]; exact hroom,p3,?_,?_,jn,ownL_app ju ol on⟩,?_,?_,?_⟩
    ·have hf:=run_firstCells_some (P:=P) w info.size ys.length ⟨g2,o2,none⟩ ys.length cx news hnl' hcell
     rw [hs] at hf
     simp [Builtin.append_,run_underlying hu,sizeOf,typeInfo,hi,Builtin.lenOf,hroom,hf,add_eq,hs,r,Sem.run_bind]
    ·rw [List.length_drop,p4,hnl,← Nat.sub_mul,hlen]
     congr 1
     omega
    ·rcases p5 with p5 | p5
     ·exact .inl p5
     ·refine .inr ?_
      simp only [List.length_append,List.length_drop]
      omega
    ·intro b o e
     rcases jn.cases e with ⟨e1,_⟩|⟨e1,_⟩
     ·simp only [Hp.one] at e1
      split at e1
      ·rename_i hbb; subst hbb; rw [← Option.some.inj e1]; exact e'
      ·cases e1
     ·obtain ⟨q1,q2⟩:=hule b o e1
      rw [ot b q2]
      exact l12 b o q1
    ·intro k hk
     refine .inl fun hn=>hk ((jn.is_none k).2 ⟨?_,?_⟩)
     ·have:=((jo.is_none k).1 ((hj.is_none k).1 hn).1).1
      simp only [Hp.one] at *
      split at this
      ·cases this
      ·rename_i hne; rw [if_neg hne]
     ·cases hh:hu' k with
      | none=>rfl
      | some o=>rw [(hule k o hh).1] at hn; cases hn
    ·intro k o hk e
     have hne:k≠g:=by
      rintro rfl
      have:=((jo.is_none k).1 ((hj.is_none k).1 hk).1).1
      simp [Hp.one] at this
     rw [ot k hne]
     exact e
   ·have holds:∀ (j:Nat) (v:Value),used[j]?=some v→w.cell? ((⟨g,pre.length,none⟩:Addr).add j)=some v:=fun j v hv=>by
     have hlt:=(List.getElem?_eq_some_iff.1 hv).1
     rw [add_eq]
     simp only [World.cell?,hblk,Option.isSome_none,Bool.false_eq_true,if_false,List.getElem?_toArray]
     rw [List.append_assoc,List.getElem?_append_right (by omega),Nat.add_sub_cancel_left,List.getElem?_append_left hlt]
     exact hv
    have hr:=run_append_grow (P:=P) w t ty e info zv hu hi hzz ⟨g,pre.length,none⟩ xs.length c used (by rw [hul,hs]) holds ⟨g2,o2,none⟩ ys.length cx news hnl' hcell (by omega) (by omega) (by rw [hb]; exact growslice_fits (by omega) hl)
    obtain ⟨h',f1,f2,f3⟩:=fresh c used hbk (by omega) jo.right ol
    rw [← hlen] at hr
    rw [hlen] at hr f1
    refine ⟨_,_,_,h',by rw [hlen]; exact hr,same _,by rw [hlen]; exact f1,f2,f3,keep _⟩
end Go.Pg
