import Derived.Test.YtmpnollfdpdipaaGreatPg8
set_option linter.unusedVariables false
set_option linter.unusedSimpArgs false
namespace Go.Pg
def tk:Nat→List HP→List HP
 | 0,_=>[]
 | _,[]=>[]
 | k+1,q::V=>q::tk k V
def dp:Nat→List HP→List HP
 | 0,V=>V
 | _,[]=>[]
 | k+1,_::V=>dp k V
theorem tk_dp (k:Nat)(V:List HP):tk k V++dp k V=V:=by
 induction k generalizing V with
 | zero=>rfl
 | succ k ih =>
  cases V with
  | nil=>rfl
  | cons q V=>simp [tk,dp,ih]
section
variable {X:Cx}{V:List HP}{σ:Env}{Q:Exit→Env→World→Prop}{ops:Array Oper}{rest:List Oper}
variable {d:Option Nat}{ty:TypeId}{pos:String}{af:Array Edge}{gd:Option (Nat×Bool)}
variable {α β:Type}
theorem l_app {K:Kind α}{t e:TypeId}{x y:Operand}{s u:Value}{xs ys:List α}{z:α}{q:HP}{by_:Nat}(N:Nat)(hd:dok X.n d=true)(hw:want ops σ ⟨d,.call ⟨.builtin .append,#[x,y],#[t,t]⟩,ty,pos,af,gd⟩=true)
  (ht:slB X.P t=some e) (hs:szB X.P e=some K.sz) (hb:bytesB X.P e=some by_) (hz:ZeroK X.P K e z) (hsz:Nat.blt 0 K.sz=true) (hN:Nat.ble (N*by_) 140737488355328=true) (hN2:Nat.ble N 140737488355328=true) (hby:Nat.blt 0 by_=true)
  (hx:ev σ x=s) (hy:ev σ y=u) (hsrc:Src q K u ys) (hl:xs.length+ys.length≤N)
  (h:∀ a c,TL X ops (ow K e (.slice a (xs++ys).length c) (xs++ys)::V) (updo σ d (.slice a (xs++ys).length c)) rest Q) :
  TL X ops (ow K e s xs::q::V) σ (⟨d,.call ⟨.builtin .append,#[x,y],#[t,t]⟩,ty,pos,af,gd⟩::rest) Q:=by
 intro w st
 have hN:=Nat.le_of_ble_eq_true hN
 have hN2:=Nat.le_of_ble_eq_true hN2
 have hsz:0<K.sz:=Nat.le_of_ble_eq_true hsz
 have hby:0<by_:=Nat.le_of_ble_eq_true hby
 have hbb:(xs.length+ys.length)*by_≤140737488355328:=Nat.le_trans (Nat.mul_le_mul_right _ hl) hN
 obtain ⟨⟨a,c⟩,w',hr,s'⟩:=St.act st.sep 0 (q:=fun p:Option Addr×Nat=>ow K e (.slice p.1 (xs++ys).length p.2) (xs++ys))
  (Ψ:=fun p w'=>(Builtin.append_ #[t,t] ty #[s,u]).run X.P w=.ok (.slice p.1 (xs++ys).length p.2) w') (by
   rintro I hh ⟨h1,h2,j,p1,p2⟩ lI lh dj
   obtain ⟨a,c,w',h',r1,r2,r3,r4,r5,r6⟩:=run_app (ty:=ty) ht hs hb hz hsz j p1 p2 hsrc lI lh dj hbb (Nat.le_trans hl hN2) hby
   exact ⟨⟨a,c⟩,w',h',r1,r2 _,r3,r4,r5,r6⟩)
 refine WL_step hd hw ?_
 have hr':(execOp (ev σ) ⟨d,.call ⟨.builtin .append,#[x,y],#[t,t]⟩,ty,pos,af,gd⟩).run X.P w=.ok (.value (.slice a (xs++ys).length c)) w':=by
  simp [execOp,resolve,invoke,builtin,hx,hy,hr]
 rw [hr']
 exact h a c w' s'
theorem fill_all {size:Nat}:∀ (vs:List Value) (k:Nat) (cells:Array Value),(∀ v∈vs,v.cells.size=size)→(k+vs.length)*size≤cells.size →
  ∃ r,Instr.fill (fun i=>some (i*size,size)) cells ((List.range' k vs.length).zip vs)=some r∧r.toList=cells.toList.take (k*size)++(vs.map (·.cells.toList)).flatten++cells.toList.drop ((k+vs.length)*size):=by
 intro vs
 induction vs with
 | nil=>intro k cells _ _; exact ⟨cells,by simp [Instr.fill],by simp⟩
 | cons v vs ih =>
  intro k cells hv hl
  have h1:=hv v (by simp)
  have hl':(k+1+vs.length)*size≤cells.size:=by simpa [Nat.add_assoc,Nat.add_comm 1] using hl
  have hk:k*size+size≤cells.size:=by
   have:(k+1)*size≤(k+1+vs.length)*size:=Nat.mul_le_mul_right _ (by omega)
   rw [Nat.succ_mul] at this
   omega
  have fold:∀ (l:List Value) (j:Nat) (cs:Array Value),k*size+j+l.length≤cs.size →
    ((l.zipIdx j).foldl (fun cs (c,j)=>cs.setIfInBounds (k*size+j) c) cs).toList=cs.toList.take (k*size+j)++l++cs.toList.drop (k*size+j+l.length):=by
   intro l
   induction l with
   | nil=>intro j cs _; simp
   | cons u l ihl =>
    intro j cs hcs
    simp only [List.zipIdx_cons,List.foldl_cons]
    rw [ihl (j+1) _ (by simp at *; omega)]
    simp only [List.length_cons] at hcs
    rw [Array.toList_setIfInBounds,show k*size+(j+1)=(k*size+j)+1 by omega,List.take_succ_eq_append_getElem (by simp; omega),List.take_set_of_le (Nat.le_refl _),List.drop_set_of_lt (by omega)]
    simp [Nat.add_assoc,Nat.add_comm,Nat.add_left_comm]
  have hsz:((v.cells.toList.zipIdx 0).foldl (fun cs (c,j)=>cs.setIfInBounds (k*size+j) c) cells).size=cells.size:=by
   generalize v.cells.toList.zipIdx 0=l
   clear h1 ih hl hl' hk fold hv
   induction l generalizing cells with
   | nil=>rfl
   | cons u l ihl=>simp only [List.foldl_cons]; rw [ihl]; simp
  obtain ⟨r,hr,e⟩:=ih (k+1) ((v.cells.toList.zipIdx 0).foldl (fun cs (c,j)=>cs.setIfInBounds (k*size+j) c) cells) (fun u hu=>hv u (by simp [hu])) (by rw [hsz]; exact hl')
  refine ⟨r,?_,?_⟩
  ·simp only [List.length_cons,List.range'_succ,List.zip_cons_cons,Instr.fill]
   have hc:¬ (v.cells.size≠size∨k*size+v.cells.size>cells.size):=by rw [h1]; omega
   rw [if_neg (by simpa using hc)]
   have hz:v.cells.zipIdx.foldl (fun cs (c,j)=>cs.setIfInBounds (k*size+j) c) cells=(v.cells.toList.zipIdx 0).foldl (fun cs (c,j)=>cs.setIfInBounds (k*size+j) c) cells:=by
    rw [← Array.foldl_toList]
    congr 1
    simp
   rw [hz]
   exact hr
  ·rw [e,fold v.cells.toList 0 cells (by simp [h1]; omega)]
   have e2:(k+1)*size=k*size+v.cells.toList.length:=by rw [Nat.succ_mul]; simp [h1]
   have e3:(k+1+vs.length)*size=k*size+v.cells.toList.length+vs.length*size:=by rw [Nat.add_mul,e2]
   have e4:(k+(vs.length+1))*size=(k+1+vs.length)*size:=by congr 1; omega
   have hk2:(cells.toList.take (k*size)).length=k*size:=by simp; omega
   simp only [List.length_cons,Nat.add_zero,List.map_cons,List.flatten_cons]
   rw [e4,e3,e2]
   rw [List.take_append_of_le_length (by simp [hk2]),List.take_of_length_le (by simp [hk2])]
   rw [List.drop_append,List.drop_of_length_le (by simp [hk2]),List.nil_append,List.drop_drop]
   simp only [List.append_assoc,List.length_append,hk2]
   congr 4
   omega
theorem l_buildn {K:Kind α}{t e:TypeId}{m:Nat}{parts:Array (Nat×Operand)}{xs:List α}{vs:List Value}{z:List Value}(k:Nat)(hd:dok X.n d=true)(hw:want ops σ ⟨d,.buildSlice t m parts,ty,pos,af,gd⟩=true)
  (ht:slB X.P t=some e) (hs:szB X.P e=some K.sz) (hz:zcB X.P e=some z) (hzl:z.length=K.sz) (hsz:Nat.blt 0 K.sz=true) (hp:parts.toList.map (fun p=>(p.1,ev σ p.2))=(List.range' 0 m).zip vs) (hm:vs.length=m) (hv:vs.all (fun v=>Nat.beq v.cells.size K.sz)=true) (hm2:Nat.ble (m*K.sz) 16777216=true)
  (hx:∀ I h,star (tk k V) I h→ownL K I h xs (vs.map (·.cells.toList)).flatten) (hxl:xs.length=m)
  (h:∀ g c,TL X ops (ow K e (.slice (some ⟨g,0,none⟩) xs.length c) xs::dp k V) (updo σ d (.slice (some ⟨g,0,none⟩) xs.length c)) rest Q):TL X ops V σ (⟨d,.buildSlice t m parts,ty,pos,af,gd⟩::rest) Q:=by
 intro w s
 refine WL_step hd hw ?_
 have hu:=slB_eq ht
 have hv':∀ v∈vs,v.cells.size=K.sz:=fun v hvv=>Nat.eq_of_beq_eq_true (List.all_eq_true.1 hv v hvv)
 have hm2:=Nat.le_of_ble_eq_true hm2
 obtain ⟨zv,hz1,hz2⟩:=run_zero (P:=X.P) (w:=w) hz
 have hzs:zv.cells.size=K.sz:=by rw [hz2]; simpa using hzl
 obtain ⟨r,hr,e'⟩:=fill_all (size:=K.sz) vs 0 ((Array.range (m*K.sz)).map ((if m*K.sz=0 then #[] else zv.cells)[· % (if m*K.sz=0 then #[] else zv.cells).size]!)) hv' (by simp [hm])
 have er:r=((vs.map (·.cells.toList)).flatten).toArray:=by
  apply Array.ext'
  rw [e',hm]
  simp
 have hrun:(execOp (ev σ) ⟨d,.buildSlice t m parts,ty,pos,af,gd⟩).run X.P w=.ok (.value (.slice (some ⟨w.heap.size,0,none⟩) m m)) (w.alloc (.cells ((vs.map (·.cells.toList)).flatten).toArray e)):=by
  have hpp:(parts.map fun (i,x)=>(i,ev σ x)).toList=(List.range' 0 m).zip vs:=by
   rw [← hp]; simp
  rw [hm] at hr
  simp only [execOp,Instr.buildSlice,Sem.run_bind,run_underlying hu,Result.andThen_ok,run_sizeOf hs]
  rw [if_neg (by omega)]
  by_cases h0:m*K.sz=0
  ·rw [if_pos h0] at hr ⊢
   simp only [Sem.run_bind,Sem.run_pure,Result.andThen_ok,hpp,hr,er]
   simp [newRow,Sem.run_bind]
  ·rw [if_neg h0] at hr ⊢
   simp only [Sem.run_bind,Sem.run_pure,Result.andThen_ok,hz1,hpp,hr,er]
   simp [newRow,Sem.run_bind]
 rw [hrun]
 have h':=h w.heap.size m
 rw [hxl] at h'
 refine h' _ ?_
 rw [← tk_dp k V] at s
 obtain ⟨sm,I,hh,g,j,l,st⟩:=s
 obtain ⟨h1,h2,j',sa,sb⟩:=star_app.1 st
 have lh:Le h1 w:=l.mono (Hp.le_trans j'.left j.right)
 have hnew:∀ b o,g b=some o→b≠w.heap.size:=fun b o e=>by
  have:=l.lt (b:=b) (by rw [e]; exact fun h=>by cases h)
  omega
 obtain ⟨h1',jo⟩:=Join.of_disj (h1:=Hp.one w.heap.size (.cells ((vs.map (·.cells.toList)).flatten).toArray e (0,0))) (h2:=h1) (fun b=>by
  by_cases hb:b=w.heap.size
  ·refine .inr ?_
   cases hq:h1 b with
   | none=>rfl
   | some o=>exact absurd hb (hnew b o (j.right b o (j'.left b o hq)))
  ·exact .inl (by simp [Hp.one,hb]))
 obtain ⟨k1,jk⟩:=Join.of_disj (h1:=h1') (h2:=h2) (fun b=>by
  by_cases hb:b=w.heap.size
  ·refine .inr ?_
   cases hq:h2 b with
   | none=>rfl
   | some o=>exact absurd hb (hnew b o (j.right b o (j'.right b o hq)))
  ·rcases j'.disj b with f | f
   ·exact .inl ((jo.is_none b).2 ⟨by simp [Hp.one,hb],f⟩)
   ·exact .inr f)
 obtain ⟨g',jg⟩:=Join.of_disj (h1:=I) (h2:=k1) (fun b=>by
  by_cases hb:b=w.heap.size
  ·refine .inl ?_
   cases hq:I b with
   | none=>rfl
   | some o=>exact absurd hb (hnew b o (j.left b o hq))
  ·rcases j.disj b with f | f
   ·exact .inl f
   ·have:=(j'.is_none b).1 f
    exact .inr ((jk.is_none b).2 ⟨(jo.is_none b).2 ⟨by simp [Hp.one,hb],this.1⟩,this.2⟩))
 have hal:∀ b o,g b=some o→(w.alloc (.cells ((vs.map (·.cells.toList)).flatten).toArray e)).heap[b]?=some o:=fun b o e=>l.alloc _ b o e
 refine ⟨sm.alloc _,I,k1,g',jg,?_,h1',h2,jk,?_,sb⟩
 ·intro b o e1
  rcases jg.cases e1 with ⟨e1,_⟩|⟨e1,_⟩
  ·exact hal b o (j.left b o e1)
  ·rcases jk.cases e1 with ⟨e1,_⟩|⟨e1,_⟩
   ·rcases jo.cases e1 with ⟨e1,_⟩|⟨e1,_⟩
    ·exact Le.one_new (w:=w) (by show (w.heap.push _)[w.heap.size]?=_; simp) b o e1
    ·exact hal b o (j.right b o (j'.left b o e1))
   ·exact hal b o (j.right b o (j'.right b o e1))
 ·refine .inr ⟨w.heap.size,m,[],(vs.map (·.cells.toList)).flatten,[],(0,0),h1,by simp [hxl],by omega,?_,by simp [hxl],.inl rfl,by simpa using jo,hx I h1 sa⟩
  have:m*1≤m*K.sz:=Nat.mul_le_mul_left _ (Nat.le_of_ble_eq_true hsz)
  simp only [maxLen]
  omega
theorem l_build {K:Kind α}{t e:TypeId}{m:Nat}{parts:Array (Nat×Operand)}{xs:List α}{vs:List Value}{z:List Value}(k:Nat)(hd:dok X.n d=true)(hw:want ops σ ⟨d,.buildSlice t m parts,ty,pos,af,gd⟩=true)
  (ht:slB X.P t=some e) (hs:szB X.P e=some K.sz) (hz:zcB X.P e=some z) (hzl:z.length=K.sz) (hsz:Nat.blt 0 K.sz=true) (hp:parts.toList.map (fun p=>(p.1,ev σ p.2))=(List.range' 0 m).zip vs) (hm:vs.length=m) (hv:vs.all (fun v=>Nat.beq v.cells.size K.sz)=true) (hm2:Nat.ble (m*K.sz) 16777216=true)
  (hx:∀ I h,star (tk k V) I h→ownL K I h xs (vs.map (·.cells.toList)).flatten) (hxl:xs.length=m)
  (h:∀ a c,TL X ops (ow K e (.slice a xs.length c) xs::dp k V) (updo σ d (.slice a xs.length c)) rest Q):TL X ops V σ (⟨d,.buildSlice t m parts,ty,pos,af,gd⟩::rest) Q :=
 l_buildn k hd hw ht hs hz hzl hsz hp hm hv hm2 hx hxl (fun g c=>h (some ⟨g,0,none⟩) c)
end
end Go.Pg
