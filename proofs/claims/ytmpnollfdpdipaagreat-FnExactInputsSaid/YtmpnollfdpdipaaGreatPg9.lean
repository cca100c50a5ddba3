import Derived.Test.YtmpnollfdpdipaaGreatPg1
import Derived.Deep.Quiet
import Derived.KernelRfl
import Derived.OrdersHeld
set_option linter.unusedVariables false
set_option linter.unusedSimpArgs false
namespace Go.Pg
def tk:Nat→List HP→List HP
 | 0,_=>[]
 | _,[]=>[]
 | k+1,q::V=>q::tk k V
def dp:Nat→List HP→List HP
 | 0,V=>V
 | _,[]=>[]
 | k+1,_::V=>dp k V
theorem tk_dp (k:Nat)(V:List HP):tk k V++dp k V=V:=by
 induction k generalizing V with
 | zero=>rfl
 | succ k ih =>
  cases V with
  | nil=>rfl
  | cons q V=>simp [tk,dp,ih]
section
variable {X:Cx}{V:List HP}{σ:Env}{Q:Exit→Env→World→Prop}{ops:Array Oper}{rest:List Oper}
variable {d:Option Nat}{ty:TypeId}{pos:String}{af:Array Edge}{gd:Option (Nat×Bool)}
variable {α β:Type}
theorem l_app {K:Kind α}{t e:TypeId}{x y:Operand}{s u:Value}{xs ys:List α}{z:α}{q:HP}{by_:Nat}(N:Nat)(hd:dok X.n d=true)(hw:want ops σ ⟨d,.call ⟨.builtin .append,#[x,y],#[t,t]⟩,ty,pos,af,gd⟩=true)
  (ht:slB X.P t=some e) (hs:szB X.P e=some K.sz) (hb:bytesB X.P e=some by_) (hz:ZeroK X.P K e z) (hsz:Nat.blt 0 K.sz=true) (hN:Nat.ble (N*by_) 140737488355328=true) (hN2:Nat.ble N 140737488355328=true) (hby:Nat.blt 0 by_=true)
  (hx:ev σ x=s) (hy:ev σ y=u) (hsrc:Src q K u ys) (hl:xs.length+ys.length≤N)
  (h:∀ a c,TL X ops (ow K e (.slice a (xs++ys).length c) (xs++ys)::V) (updo σ d (.slice a (xs++ys).length c)) rest Q) :
  TL X ops (ow K e s xs::q::V) σ (⟨d,.call ⟨.builtin .append,#[x,y],#[t,t]⟩,ty,pos,af,gd⟩::rest) Q:=by
 intro w st
 have hN:=Nat.le_of_ble_eq_true hN
 have hN2:=Nat.le_of_ble_eq_true hN2
 have hsz:0<K.sz:=Nat.le_of_ble_eq_true hsz
 have hby:0<by_:=Nat.le_of_ble_eq_true hby
 have hbb:(xs.length+ys.length)*by_≤140737488355328:=Nat.le_trans (Nat.mul_le_mul_right _ hl) hN
 obtain ⟨⟨a,c⟩,w',hr,s'⟩:=St.act st.sep 0 (q:=fun p:Option Addr×Nat=>ow K e (.slice p.1 (xs++ys).length p.2) (xs++ys))
  (Ψ:=fun p w'=>(Builtin.append_ #[t,t] ty #[s,u]).run X.P w=.ok (.slice p.1 (xs++ys).length p.2) w') (by
   rintro I hh ⟨h1,h2,j,p1,p2⟩ lI lh dj
   obtain ⟨a,c,w',h',r1,r2,r3,r4,r5,r6⟩:=run_app (ty:=ty) ht hs hb hz hsz j p1 p2 hsrc lI lh dj hbb (Nat.le_trans hl hN2) hby
   exact ⟨⟨a,c⟩,w',h',r1,r2 _,r3,r4,r5,r6⟩)
 refine WL_step hd hw ?_
 have hr':(execOp (ev σ) ⟨d,.call ⟨.builtin .append,#[x,y],#[t,t]⟩,ty,pos,af,gd⟩).run X.P w=.ok (.value (.slice a (xs++ys).length c)) w':=by
  simp [execOp,resolve,invoke,builtin,hx,hy,hr]
 rw [hr']
 exact h a c w' s'
theorem fill_all {size:Nat}:∀ (vs:List Value) (k:Nat) (cells:Array Value),(∀ v∈vs,v.cells.size=size)→(k+vs.length)*size≤cells.size →
  ∃ r,Instr.fill (fun i=>some (i*size,size)) cells ((List.range' k vs.length).zip vs)=some r∧r.toList=cells.toList.take (k*size)++(vs.map (·.cells.toList)).flatten++cells.toList.drop ((k+vs.length)*size):=by
 intro vs
 induction vs with
 | nil=>intro k cells _ _; exact ⟨cells,by simp [Instr.fill],by simp⟩
 | cons v vs ih =>
  intro k cells hv hl
  have h1:=hv v (by simp)
  have hl':(k+1+vs.length)*size≤cells.size:=by simpa [Nat.add_assoc,Nat.add_comm 1] using hl
  have hk:k*size+size≤cells.size:=by
   have:(k+1)*size≤(k+1+vs.length)*size:=Nat.mul_le_mul_right _ (by omega)
   rw [Nat.succ_mul] at this
   omega
  have fold:∀ (l:List Value) (j:Nat) (cs:Array Value),k*size+j+l.length≤cs.size →
    ((l.zipIdx j).foldl (fun cs (c,j)=>cs.setIfInBounds (k*size+j) c) cs).toList=cs.toList.take (k*size+j)++l++cs.toList.drop (k*size+j+l.length):=by
   intro l
   induction l with
   | nil=>intro j cs _; simp
   | cons u l ihl =>
    intro j cs hcs
    simp only [List.zipIdx_cons,List.foldl_cons]
    rw [ihl (j+1) _ (by simp at *; omega)]
    simp only [List.length_cons] at hcs
    rw [Array.toList_setIfInBounds,show k*size+(j+1)=(k*size+j)+1 by omega,List.take_succ_eq_append_getElem (by simp; omega),List.take_set_of_le (Nat.le_refl _),List.drop_set_of_lt (by omega)]
    simp [Nat.add_assoc,Nat.add_comm,Nat.add_left_comm]
  have hsz:((v.cells.toList.zipIdx 0).foldl (fun cs (c,j)=>cs.setIfInBounds (k*size+j) c) cells).size=cells.size:=by
   generalize v.cells.toList.zipIdx 0=l
   clear h1 ih hl hl' hk fold hv
   induction l generalizing cells with
   | nil=>rfl
   | cons u l ihl=>simp only [List.foldl_cons]; rw [ihl]; simp
  obtain ⟨r,hr,e⟩:=ih (k+1) ((v.cells.toList.zipIdx 0).foldl (fun cs (c,j)=>cs.setIfInBounds (k*size+j) c) cells) (fun u hu=>hv u (by simp [hu])) (by rw [hsz]; exact hl')
  refine ⟨r,?_,?_⟩
  ·simp only [List.length_cons,List.range'_succ,List.zip_cons_cons,Instr.fill]
   have hc:¬ (v.cells.size≠size∨k*size+v.cells.size>cells.size):=by rw [h1]; omega
   rw [if_neg (by simpa using hc)]
   have hz:v.cells.zipIdx.foldl (fun cs (c,j)=>cs.setIfInBounds (k*size+j) c) cells=(v.cells.toList.zipIdx 0).foldl (fun cs (c,j)=>cs.setIfInBounds (k*size+j) c) cells:=by
    rw [← Array.foldl_toList]
    congr 1
    simp
   rw [hz]
   exact hr
  ·rw [e,fold v.cells.toList 0 cells (by simp [h1]; omega)]
   have e2:(k+1)*size=k*size+v.cells.toList.length:=by rw [Nat.succ_mul]; simp [h1]
   have e3:(k+1+vs.length)*size=k*size+v.cells.toList.length+vs.length*size:=by rw [Nat.add_mul,e2]
   have e4:(k+(vs.length+1))*size=(k+1+vs.length)*size:=by congr 1; omega
   have hk2:(cells.toList.take (k*size)).length=k*size:=by simp; omega
   simp only [List.length_cons,Nat.add_zero,List.map_cons,List.flatten_cons]
   rw [e4,e3,e2]
   rw [List.take_append_of_le_length (by simp [hk2]),List.take_of_length_le (by simp [hk2])]
   rw [List.drop_append,List.drop_of_length_le (by simp [hk2]),List.nil_append,List.drop_drop]
   simp only [List.append_assoc,List.length_append,hk2]
   congr 4
   omega
theorem l_buildn {K:Kind α}{t e:TypeId}{m:Nat}{parts:Array (Nat×Operand)}{xs:List α}{vs:List Value}{z:List Value}(k:Nat)(hd:dok X.n d=true)(hw:want ops σ ⟨d,.buildSlice t m parts,ty,pos,af,gd⟩=true)
  (ht:slB X.P t=some e) (hs:szB X.P e=some K.sz) (hz:zcB X.P e=some z) (hzl:z.length=K.sz) (hsz:Nat.blt 0 K.sz=true) (hp:parts.toList.map (fun p=>(p.1,ev σ p.2))=(List.range' 0 m).zip vs) (hm:vs.length=m) (hv:vs.all (fun v=>Nat.beq v.cells.size K.sz)=true) (hm2:Nat.ble (m*K.sz) 16777216=true)
  (hx:∀ I h,star (tk k V) I h→ownL K I h xs (vs.map (·.cells.toList)).flatten) (hxl:xs.length=m)
  (h:∀ g c,TL X ops (ow K e (.slice (some ⟨g,0,none⟩) xs.length c) xs::dp k V) (updo σ d (.slice (some ⟨g,0,none⟩) xs.length c)) rest Q):TL X ops V σ (⟨d,.buildSlice t m parts,ty,pos,af,gd⟩::rest) Q:=by
 intro w s
 refine WL_step hd hw ?_
 have hu:=slB_eq ht
 have hv':∀ v∈vs,v.cells.size=K.sz:=fun v hvv=>Nat.eq_of_beq_eq_true (List.all_eq_true.1 hv v hvv)
 have hm2:=Nat.le_of_ble_eq_true hm2
 obtain ⟨zv,hz1,hz2⟩:=run_zero (P:=X.P) (w:=w) hz
 have hzs:zv.cells.size=K.sz:=by rw [hz2]; simpa using hzl
 obtain ⟨r,hr,e'⟩:=fill_all (size:=K.sz) vs 0 ((Array.range (m*K.sz)).map ((if m*K.sz=0 then #[] else zv.cells)[· % (if m*K.sz=0 then #[] else zv.cells).size]!)) hv' (by simp [hm])
 have er:r=((vs.map (·.cells.toList)).flatten).toArray:=by
  apply Array.ext'
  rw [e',hm]
  simp
 have hrun:(execOp (ev σ) ⟨d,.buildSlice t m parts,ty,pos,af,gd⟩).run X.P w=.ok (.value (.slice (some ⟨w.heap.size,0,none⟩) m m)) (w.alloc (.cells ((vs.map (·.cells.toList)).flatten).toArray e)):=by
  have hpp:(parts.map fun (i,x)=>(i,ev σ x)).toList=(List.range' 0 m).zip vs:=by
   rw [← hp]; simp
  rw [hm] at hr
  simp only [execOp,Instr.buildSlice,Sem.run_bind,run_underlying hu,Result.andThen_ok,run_sizeOf hs]
  rw [if_neg (by omega)]
  by_cases h0:m*K.sz=0
  ·rw [if_pos h0] at hr ⊢
   simp only [Sem.run_bind,Sem.run_pure,Result.andThen_ok,hpp,hr,er]
   simp [newRow,Sem.run_bind]
  ·rw [if_neg h0] at hr ⊢
   simp only [Sem.run_bind,Sem.run_pure,Result.andThen_ok,hz1,hpp,hr,er]
   simp [newRow,Sem.run_bind]
 rw [hrun]
 have h':=h w.heap.size m
 rw [hxl] at h'
 refine h' _ ?_
 rw [← tk_dp k V] at s
 obtain ⟨sm,I,hh,g,j,l,st⟩:=s
 obtain ⟨h1,h2,j',sa,sb⟩:=star_app.1 st
 have lh:Le h1 w:=l.mono (Hp.le_trans j'.left j.right)
 have hnew:∀ b o,g b=some o→b≠w.heap.size:=fun b o e=>by
  have:=l.lt (b:=b) (by rw [e]; exact fun h=>by cases h)
  omega
 obtain ⟨h1',jo⟩:=Join.of_disj (h1:=Hp.one w.heap.size (.cells ((vs.map (·.cells.toList)).flatten).toArray e (0,0))) (h2:=h1) (fun b=>by
  by_cases hb:b=w.heap.size
  ·refine .inr ?_
   cases hq:h1 b with
   | none=>rfl
   | some o=>exact absurd hb (hnew b o (j.right b o (j'.left b o hq)))
  ·exact .inl (by simp [Hp.one,hb]))
 obtain ⟨k1,jk⟩:=Join.of_disj (h1:=h1') (h2:=h2) (fun b=>by
  by_cases hb:b=w.heap.size
  ·refine .inr ?_
   cases hq:h2 b with
   | none=>rfl
   | some o=>exact absurd hb (hnew b o (j.right b o (j'.right b o hq)))
  ·rcases j'.disj b with f | f
   ·exact .inl ((jo.is_none b).2 ⟨by simp [Hp.one,hb],f⟩)
   ·exact .inr f)
 obtain ⟨g',jg⟩:=Join.of_disj (h1:=I) (h2:=k1) (fun b=>by
  by_cases hb:b=w.heap.size
  ·refine .inl ?_
   cases hq:I b with
   | none=>rfl
   | some o=>exact absurd hb (hnew b o (j.left b o hq))
  ·rcases j.disj b with f | f
   ·exact .inl f
   ·have:=(j'.is_none b).1 f
    exact .inr ((jk.is_none b).2 ⟨(jo.is_none b).2 ⟨by simp [Hp.one,hb],this.1⟩,this.2⟩))
 have hal:∀ b o,g b=some o→(w.alloc (.cells ((vs.map (·.cells.toList)).flatten).toArray e)).heap[b]?=some o:=fun b o e=>l.alloc _ b o e
 refine ⟨sm.alloc _,I,k1,g',jg,?_,h1',h2,jk,?_,sb⟩
 ·intro b o e1
  rcases jg.cases e1 with ⟨e1,_⟩|⟨e1,_⟩
  ·exact hal b o (j.left b o e1)
  ·rcases jk.cases e1 with ⟨e1,_⟩|⟨e1,_⟩
   ·rcases jo.cases e1 with ⟨e1,_⟩|⟨e1,_⟩
    ·exact Le.one_new (w:=w) (by show (w.heap.push _)[w.heap.size]?=_; simp) b o e1
    ·exact hal b o (j.right b o (j'.left b o e1))
   ·exact hal b o (j.right b o (j'.right b o e1))
 ·refine .inr ⟨w.heap.size,m,[],(vs.map (·.cells.toList)).flatten,[],(0,0),h1,by simp [hxl],by omega,?_,by simp [hxl],.inl rfl,by simpa using jo,hx I h1 sa⟩
  have:m*1≤m*K.sz:=Nat.mul_le_mul_left _ (Nat.le_of_ble_eq_true hsz)
  simp only [maxLen]
  omega
theorem l_build {K:Kind α}{t e:TypeId}{m:Nat}{parts:Array (Nat×Operand)}{xs:List α}{vs:List Value}{z:List Value}(k:Nat)(hd:dok X.n d=true)(hw:want ops σ ⟨d,.buildSlice t m parts,ty,pos,af,gd⟩=true)
  (ht:slB X.P t=some e) (hs:szB X.P e=some K.sz) (hz:zcB X.P e=some z) (hzl:z.length=K.sz) (hsz:Nat.blt 0 K.sz=true) (hp:parts.toList.map (fun p=>(p.1,ev σ p.2))=(List.range' 0 m).zip vs) (hm:vs.length=m) (hv:vs.all (fun v=>Nat.beq v.cells.size K.sz)=true) (hm2:Nat.ble (m*K.sz) 16777216=true)
  (hx:∀ I h,star (tk k V) I h→ownL K I h xs (vs.map (·.cells.toList)).flatten) (hxl:xs.length=m)
  (h:∀ a c,TL X ops (ow K e (.slice a xs.length c) xs::dp k V) (updo σ d (.slice a xs.length c)) rest Q):TL X ops V σ (⟨d,.buildSlice t m parts,ty,pos,af,gd⟩::rest) Q :=
 l_buildn k hd hw ht hs hz hzl hsz hp hm hv hm2 hx hxl (fun g c=>h (some ⟨g,0,none⟩) c)
end
end Go.Pg
namespace Go.Pg
section
variable {X:Cx}{V:List HP}{σ:Env}{Q:Exit→Env→World→Prop}{ops:Array Oper}{rest:List Oper}
variable {d:Option Nat}{ty:TypeId}{pos:String}{af:Array Edge}{gd:Option (Nat×Bool)}
variable {α β:Type}
def bound (σ:Env)(o:Option Operand)(other l:Int):Prop:=match o with
 | some x=>ev σ x=.int .i64 l
 | none=>l=other
theorem run_sbound {P:Program}{w:World}{l:Int}{y:Nat}{code:BoundsCode}(h0:0≤l)(h1:l≤y):(Instr.sliceBound (.int .i64 l) y code).run P w=.ok l.toNat w:=by
 simp [Instr.sliceBound,asIntOf,h0,h1]
theorem run_sbounds {P:Program}{w:World}{is:Bool}{n c:Nat}{lo hi:Option Operand}{l h:Int}(hlo:bound σ lo 0 l)(hhi:bound σ hi n h)(h0:0≤l)(h1:l≤h)(h2:h≤n)(hc:n≤c) :
  (Instr.sliceBounds is n c (lo.map (ev σ)) (hi.map (ev σ)) none).run P w=.ok (l.toNat,h.toNat,c) w:=by
 have el:∀ y:Nat,l≤y→(Instr.sliceBound (.int .i64 l) y .sliceB).run P w=.ok l.toNat w:=fun y hy=>run_sbound h0 hy
 cases hi with
 | none =>
  have:h=n:=hhi
  subst this
  cases lo with
  | none =>
   have:l=0:=hlo
   subst this
   simp [Instr.sliceBounds]
  | some x =>
   have hx:ev σ x=.int .i64 l:=hlo
   simp [Instr.sliceBounds,hx,el n h1]
 | some y =>
  have hy:ev σ y=.int .i64 h:=hhi
  have eh:∀ code,(Instr.sliceBound (.int .i64 h) c code).run P w=.ok h.toNat w:=fun code=>run_sbound (by omega) (by omega)
  cases lo with
  | none =>
   have:l=0:=hlo
   subst this
   simp [Instr.sliceBounds,hy,eh]
  | some x =>
   have hx:ev σ x=.int .i64 l:=hlo
   simp [Instr.sliceBounds,hx,hy,eh,el h.toNat (by omega)]
theorem bsize (s:Str):(⟨s.toArray⟩:ByteArray).size=s.length:=by show s.toArray.size=_; simp
def cutA (a:Option Addr)(c l sz:Nat):Option Addr:=if c=l then a else a.map (·.add (l*sz))
theorem run_slice {P:Program}{w:World}{t e:TypeId}{x:Operand}{a:Option Addr}{n c sz:Nat}{lo hi:Option Operand}{l h:Int}(ht:slB P t=some e)(hs:szB P e=some sz)(hx:ev σ x=.slice a n c)
  (hlo:bound σ lo 0 l) (hhi:bound σ hi n h) (h0:0≤l) (h1:l≤h) (h2:h≤n) (hc:n≤c) :
  (execOp (ev σ) ⟨d,.slice t x lo hi none,ty,pos,af,gd⟩).run P w=.ok (.value (.slice (cutA a c l.toNat sz) (h.toNat - l.toNat) (c - l.toNat))) w:=by
 have hu:=slB_eq ht
 have hb:=run_sbounds (P:=P) (w:=w) (is:=true) hlo hhi h0 h1 h2 hc
 simp only [execOp,Instr.sliceAt,hx,Sem.run_bind,run_underlying hu,Result.andThen_ok,Instr.slice,Option.map_none,hb,run_sizeOf hs,Sem.run_pure,cutA]
theorem sub_len {xs:List α}{l h:Int}(h0:0≤l)(h1:l≤h)(h2:h≤xs.length):(sub xs l h).length=h.toNat - l.toNat:=by
 simp [sub]; omega
theorem sub_get {xs:List α}{l h:Int}(h0:0≤l)(h1:l≤h)(h2:h≤xs.length){j:Nat}{x:α}(hx:(sub xs l h)[j]?=some x):xs[l.toNat+j]?=some x:=by
 simp only [sub,List.getElem?_drop,List.getElem?_take] at hx
 split at hx
 ·exact hx
 ·cases hx
theorem rdS_sub {K:Kind α}{I:Hp}{a:Option Addr}{n c:Nat}{xs:List α}{l h:Int}(r:rdS K I (.slice a n c) xs)(h0:0≤l)(h1:l≤h)(h2:h≤n):rdS K I (.slice (cutA a c l.toNat K.sz) (h.toNat - l.toNat) (c - l.toNat)) (sub xs l h):=by
 obtain ⟨A,c',hv,hn,hm,hc⟩:=r
 injection hv with e1 e2 e3
 subst e1; subst e3; subst e2
 have hl:=sub_len h0 h1 h2
 refine ⟨_,_,by rw [hl],by rw [hl]; omega,by rw [hl]; omega,fun hp=>?_⟩
 rw [hl] at hp
 obtain ⟨g,o,rfl,hcell⟩:=hc (by omega)
 refine ⟨g,o+l.toNat*K.sz,?_,fun j x hx=>?_⟩
 ·unfold cutA
  rw [if_neg (by omega)]
  simp [add_eq]
 ·obtain ⟨cs,p,q⟩:=hcell _ x (sub_get h0 h1 h2 hx)
  refine ⟨cs,p,fun i u hu=>?_⟩
  have:=q i u hu
  rw [Nat.add_mul] at this
  rw [show o+l.toNat*K.sz+j*K.sz+i=o+(l.toNat*K.sz+j*K.sz)+i by omega]
  exact this
theorem l_cut {K:Kind α}{t e:TypeId}{x:Operand}{a:Option Addr}{n c:Nat}{lo hi:Option Operand}{xs:List α}(l h:Int)(i:Nat)(hd:dok X.n d=true)(hw:want ops σ ⟨d,.slice t x lo hi none,ty,pos,af,gd⟩=true)
  (ht:slB X.P t=some e) (hs:szB X.P e=some K.sz) (hV:lk V i=rds K (.slice a n c) xs) (hx:ev σ x=.slice a n c) (hlo:bound σ lo 0 l) (hhi:bound σ hi n h) (h0:0≤l) (h1:l≤h) (h2:h≤n)
  (k:∀ a' c',TL X ops (rds K (.slice a' (sub xs l h).length c') (sub xs l h)::V) (updo σ d (.slice a' (sub xs l h).length c')) rest Q):TL X ops V σ (⟨d,.slice t x lo hi none,ty,pos,af,gd⟩::rest) Q:=by
 rintro w ⟨sm,I,hh,g,j,lw,s⟩
 obtain ⟨g1,g2,j',p,s'⟩:=star_take i s
 rw [hV] at p
 have hn:n=xs.length:=by obtain ⟨_,A,c',hv,_⟩:=p; injection hv
 have hnc:n≤c:=by
  obtain ⟨_,A,c',hv,hq,_⟩:=p
  injection hv with _ _ e3
  omega
 refine WL_step hd hw ?_
 rw [run_slice ht hs hx hlo hhi h0 h1 h2 hnc]
 have r:=rdS_sub p.2 h0 h1 h2
 have:=k (cutA a c l.toNat K.sz) (c - l.toNat)
 rw [sub_len h0 h1 (by omega)] at this
 exact this w ⟨sm,I,hh,g,j,lw,Hp.none,hh,Join.none hh,⟨rfl,r⟩,s⟩
theorem v_slen {t:TypeId}{x:Operand}{s:Str}(ht:X.P.underlying t=some .string)
  (hx:ev σ x=vstr s):VO X V σ ⟨d,.call ⟨.builtin .len,#[x],#[t]⟩,ty,pos,af,gd⟩ (.int .i64 s.length):=by
 intro w _
 simp [execOp,resolve,invoke,builtin,hx,vstr,Builtin.len_,run_underlying ht,goInt,bsize]
theorem v_sindex {t:TypeId}{x y:Operand}{s:Str}{k:IntKind}{j:Int}(ht:X.P.underlying t=some .string)
  (hx:ev σ x=vstr s) (hy:ev σ y=.int k j) (h0:0≤j) (h1:j<s.length):VO X V σ ⟨d,.index t x y,ty,pos,af,gd⟩ (.int .u8 (bt s j)):=by
 intro w _
 have hlt:j.toNat<s.length:=by omega
 have hb:(⟨s.toArray⟩:ByteArray)[j.toNat]?=some (ix s j):=by
  rw [ByteArray.getElem?_lt' _ _ (by rw [bsize]; exact hlt)]
  congr 1
  show s.toArray[j.toNat]=_
  simp [ix,List.getD_eq_getElem?_getD,hlt]
 simp [execOp,hx,hy,vstr,Instr.index,asIntOf,run_underlying ht,h0,hb,bt]
theorem v_scut {t:TypeId}{x:Operand}{s:Str}{lo hi:Option Operand}(l h:Int)
  (ht:X.P.underlying t=some .string) (hx:ev σ x=vstr s) (hlo:bound σ lo 0 l) (hhi:bound σ hi s.length h) (h0:0≤l) (h1:l≤h) (h2:h≤s.length):VO X V σ ⟨d,.slice t x lo hi none,ty,pos,af,gd⟩ (vstr (sub s l h)):=by
 intro w _
 have hb:=run_sbounds (P:=X.P) (w:=w) (is:=false) (n:=s.length) (c:=s.length) hlo hhi h0 h1 h2 (Nat.le_refl _)
 have hsz:=bsize s
 simp only [execOp,Instr.sliceAt,hx,Sem.run_bind,run_underlying ht,Result.andThen_ok,Instr.slice,Option.map_none,vstr,hsz,hb,Sem.run_pure,Option.isSome_none,Bool.false_eq_true,if_false]
 rw [ByteArray.extract_mk]
 congr 3
 simp [sub,List.drop_take]
theorem v_scat {t:TypeId}{x y:Operand}{yt:TypeId}{s u:Str}
  (hx:ev σ x=vstr s) (hy:ev σ y=vstr u) (hl:s.length+u.length≤9223372036854775807):VO X V σ ⟨d,.binOp .add t x y yt,ty,pos,af,gd⟩ (vstr (s++u)):=by
 intro w _
 have h:=run_string_add_sum (P:=X.P) (w:=w) (⟨s.toArray⟩:ByteArray) ⟨u.toArray⟩ (by rw [bsize,bsize]; exact hl)
 simp only [execOp,hx,hy,vstr,eqGuard_add,binOp_string_add,Sem.run_bind,Sem.run_pure,Result.andThen_ok,h]
 rw [ByteArray.mk_append_mk]
def scmp:BinOp→Str→Str→Option Bool
 | .eql,a,b=>some (a==b)
 | .neq,a,b=>some (!(a==b))
 | .lss,a,b=>some (Op.bytesLess a b)
 | .leq,a,b=>some (Op.bytesLess a b||a==b)
 | .gtr,a,b=>some (!(Op.bytesLess a b||a==b))
 | .geq,a,b=>some (!Op.bytesLess a b)
 | _,_,_=>none
theorem v_scmp {op:BinOp}{t:TypeId}{x y:Operand}{yt:TypeId}{s u:Str}{b:Bool}
  (hx:ev σ x=vstr s) (hy:ev σ y=vstr u) (hb:scmp op s u=some b):VO X V σ ⟨d,.binOp op t x y yt,ty,pos,af,gd⟩ (.bool b):=by
 intro w _
 cases op<;>simp only [scmp,reduceCtorEq,Option.some.injEq] at hb<;>subst hb <;>
  simp [execOp,hx,hy,vstr,eqGuard_at_string,binOp,Op.stringOp]
theorem v_conv {s' t:TypeId}{x:Operand}{k k':IntKind}{n:Int}{ds:TypeDesc}(h1:X.P.underlying s'=some ds)(h2:X.P.underlying t=some (.int k'))
  (hx:ev σ x=.int k n):VO X V σ ⟨d,.convert s' t x,ty,pos,af,gd⟩ (.int k' (k'.wrap n)):=by
 intro w _
 simp [execOp,hx,convert,run_underlying h1,run_underlying h2,Conv.intToInt]
theorem v_quo {t yt:TypeId}{x y:Operand}{k:IntKind}{a b:Int}(hx:ev σ x=.int k a)(hy:ev σ y=.int k b)(hb:b≠0):VO X V σ ⟨d,.binOp .quo t x y yt,ty,pos,af,gd⟩ (.int k (k.wrap (a.tdiv b))):=by
 intro w _
 simp [execOp,hx,hy,eqGuard_at_int,binOp,Op.intDiv,hb]
theorem v_rem {t yt:TypeId}{x y:Operand}{k:IntKind}{a b:Int}(hx:ev σ x=.int k a)(hy:ev σ y=.int k b)(hb:b≠0):VO X V σ ⟨d,.binOp .rem t x y yt,ty,pos,af,gd⟩ (.int k (a.tmod b)):=by
 intro w _
 simp [execOp,hx,hy,eqGuard_at_int,binOp,Op.intDiv,hb]
theorem v_max {x y:Operand}{ts:Array TypeId}{k k':IntKind}{a b:Int}(hx:ev σ x=.int k a)(hy:ev σ y=.int k' b):VO X V σ ⟨d,.call ⟨.builtin .max,#[x,y],ts⟩,ty,pos,af,gd⟩ (.int k (if b>a then b else a)):=by
 intro w _
 simp [execOp,resolve,invoke,builtin,hx,hy,run_max_int2]
theorem v_min {x y:Operand}{ts:Array TypeId}{k k':IntKind}{a b:Int}(hx:ev σ x=.int k a)(hy:ev σ y=.int k' b):VO X V σ ⟨d,.call ⟨.builtin .min,#[x,y],ts⟩,ty,pos,af,gd⟩ (.int k (if b<a then b else a)):=by
 intro w _
 simp [execOp,resolve,invoke,builtin,hx,hy,run_min_int2]
end
end Go.Pg
namespace Go.Pg
def FnOk {A:Type}(P:Program)(f:FuncId)(args:List Value)(Pre:List HP)(post:A→Value×List HP):Prop :=
 ∀ C w V,St C w (Pre++V)→Calls P f args.toArray w (fun e w'=>∃ x,e=.returned (post x).1∧St C w' ((post x).2++V))
def callB (P:Program)(f:FuncId):Bool:=match P.funcs[f]? with
 | some fn=>!(fn.name == "runtime.NumGoroutine")&&fn.body.isSome
 | none=>false
theorem run_callFunc {P:Program}{f:FuncId}{w:World}{args:Array Value}(h:callB P f=true):(callFunc f args).run P w=.ok (.enter f args) w:=by
 unfold callB at h
 cases hf:P.funcs[f]? with
 | none=>rw [hf] at h; cases h
 | some fn =>
  rw [hf] at h
  simp only [Bool.and_eq_true,Bool.not_eq_true'] at h
  cases hb:fn.body with
  | none=>rw [hb] at h; cases h.2
  | some c =>
   have h1:=h.1
   simp at h1
   simp [callFunc,hf,h1,hb]
section
variable {X:Cx}{V:List HP}{σ:Env}{Q:Exit→Env→World→Prop}{ops:Array Oper}{rest:List Oper}{o:Oper}
variable {d:Option Nat}{ty:TypeId}{pos:String}{af:Array Edge}{gd:Option (Nat×Bool)}
variable {α β:Type}
theorem arr_map (xs:Array Operand)(f:Operand→Value){as:List Value}(h:xs.toList.map f=as):xs.map f=as.toArray:=by
 apply Array.ext'
 simpa using h
theorem l_call {A:Type}{f:FuncId}{xs:Array Operand}{ats:Array TypeId}{as:List Value}{Pre V':List HP}{post:A→Value×List HP}(hd:dok X.n d=true)(hw:want ops σ ⟨d,.call ⟨.value (.func f),xs,ats⟩,ty,pos,af,gd⟩=true)
  (hf:callB X.P f=true) (ha:xs.toList.map (ev σ)=as) (hc:FnOk X.P f as Pre post) (hV:V=Pre++V') (k:∀ x,TL X ops ((post x).2++V') (updo σ d (post x).1) rest Q):TL X ops V σ (⟨d,.call ⟨.value (.func f),xs,ats⟩,ty,pos,af,gd⟩::rest) Q:=by
 intro w s
 refine WL_step hd hw ?_
 have hr:(execOp (ev σ) ⟨d,.call ⟨.value (.func f),xs,ats⟩,ty,pos,af,gd⟩).run X.P w=.ok (.enter f as.toArray) w:=by
  show (callFunc f (#[]++xs.map (ev σ)++#[])).run X.P w=_
  rw [arr_map xs _ ha,run_callFunc hf]
  simp
 rw [hr]
 subst hV
 refine Calls.mono' (hc X.C w V' s) ?_
 rintro e w' ⟨x,rfl,s'⟩
 exact k x w' s'
theorem l_callv {A:Type}{f:FuncId}{fv:Operand}{fs cs:List Value}{xs:Array Operand}{ats:Array TypeId}{as:List Value}{Pre V':List HP}{post:A→Value×List HP}(hd:dok X.n d=true)(hw:want ops σ ⟨d,.call ⟨.value fv,xs,ats⟩,ty,pos,af,gd⟩=true)
  (hf:callB X.P f=true) (hv:ev σ fv=.func (.func f) fs.toArray cs.toArray) (ha:fs++xs.toList.map (ev σ)++cs=as) (hc:FnOk X.P f as Pre post) (hV:V=Pre++V') (k:∀ x,TL X ops ((post x).2++V') (updo σ d (post x).1) rest Q):TL X ops V σ (⟨d,.call ⟨.value fv,xs,ats⟩,ty,pos,af,gd⟩::rest) Q:=by
 intro w s
 refine WL_step hd hw ?_
 have hr:(execOp (ev σ) ⟨d,.call ⟨.value fv,xs,ats⟩,ty,pos,af,gd⟩).run X.P w=.ok (.enter f as.toArray) w:=by
  have:(callFunc f (fs.toArray++xs.map (ev σ)++cs.toArray)).run X.P w=.ok (.enter f as.toArray) w:=by
   rw [run_callFunc hf,arr_map xs _ rfl,← ha]
   simp
  simp only [execOp,resolve,hv,Deferred.ofValue,Sem.run_bind,Sem.run_pure,Result.andThen_ok,invoke,this]
 rw [hr]
 subst hV
 refine Calls.mono' (hc X.C w V' s) ?_
 rintro e w' ⟨x,rfl,s'⟩
 exact k x w' s'
def HP.Closed (p:HP):Prop:=∀ I J h,p.p I h→p.p J h
theorem closed_ow {K:Kind α}{e:Nat}{v:Value}{xs:List α}(h:K.Closed):(ow K e v xs).Closed:=fun _ _ _ o=>owS_closed h o
theorem star_closed {A:List HP}(h:∀ p∈A,p.Closed){I J g:Hp}(s:star A I g):star A J g:=by
 induction A generalizing g with
 | nil=>exact s
 | cons p A ih =>
  obtain ⟨h1,h2,j,a,b⟩:=s
  exact ⟨h1,h2,j,h p (by simp) _ _ _ a,ih (fun q hq=>h q (by simp [hq])) b⟩
def AllC:List HP→Prop
 | []=>True
 | p::A=>p.Closed∧AllC A
theorem allC {A:List HP}(h:AllC A):∀ p∈A,p.Closed:=by
 induction A with
 | nil=>intro p hp; cases hp
 | cons q A ih =>
  intro p hp
  rcases List.mem_cons.1 hp with rfl | hp
  ·exact h.1
  ·exact ih h.2 p hp
def at_ (I0:Hp)(p:HP):HP:=⟨fun I h=>Hp.le I0 I∧p.p I0 h,fun l h=>⟨Hp.le_trans h.1 l,h.2⟩⟩
theorem star_at {I0 I:Hp}(l:Hp.le I0 I){V:List HP}{h:Hp}(s:star V I0 h):star (V.map (at_ I0)) I h:=by
 induction V generalizing h with
 | nil=>exact s
 | cons p V ih =>
  obtain ⟨h1,h2,j,a,b⟩:=s
  exact ⟨h1,h2,j,⟨l,a⟩,ih b⟩
theorem at_star {I0 I:Hp}{V:List HP}{h:Hp}(s:star (V.map (at_ I0)) I h):star V I0 h:=by
 induction V generalizing h with
 | nil=>exact s
 | cons p V ih =>
  obtain ⟨h1,h2,j,a,b⟩:=s
  exact ⟨h1,h2,j,a.2,ih b⟩
def has (g:Hp):HP:=⟨fun I h=>h=Hp.none∧Hp.le g I,fun l h=>⟨h.1,Hp.le_trans h.2 l⟩⟩
theorem FnOk.perm {A:Type}{P:Program}{f:FuncId}{args:List Value}{Pre Pre':List HP}{post:A→Value×List HP}(hc:FnOk P f args Pre post)(h:∀ C w V,St C w (Pre'++V)→St C w (Pre++V)):FnOk P f args Pre' post:=fun C w V s=>hc C w V (h C w V s)
theorem FnOk.post {A B:Type}{P:Program}{f:FuncId}{args:List Value}{Pre:List HP}{post:A→Value×List HP}{post':B→Value×List HP}(hc:FnOk P f args Pre post)(g:A→B)(h1:∀ x,(post x).1=(post' (g x)).1)(h:∀ x C w V,St C w ((post x).2++V)→St C w ((post' (g x)).2++V)):FnOk P f args Pre post':=by
 intro C w V s
 refine Calls.mono' (hc C w V s) ?_
 rintro e w' ⟨x,rfl,s'⟩
 exact ⟨g x,by rw [h1],h x C w' V s'⟩
def retVal:List Value→Value
 | [v]=>v
 | vs=>.tuple vs.toArray
def ResV (P:Program)(V:List HP)(σ:Env):List ResultVar→List Value→Prop
 | [],[]=>True
 | .tmp t::rs,v::vs=>σ t=v∧ResV P V σ rs vs
 | .cell a T::rs,v::vs=>(∃ i b cs T0,lk V i=bxl b cs T0∧σ a=.pointer (some ⟨b,0,none⟩)∧((aggB P T=some true∧szB P T=some cs.length∧v=.agg cs.toArray)∨(aggB P T=some false∧cs=[v])))∧ResV P V σ rs vs
 | _,_=>False
theorem run_resV {P:Program}{C w:World}{V:List HP}{σ:Env}(s:St C w V):∀ (rs:List ResultVar) (vs:List Value),ResV P V σ rs vs →
  (rs.mapM (fun | .tmp t=>pure (σ t) | .cell a t=>do loadVar t (← asAddr (σ a)):ResultVar→Sem Value)).run P w=.ok vs w
 | [],[],_=>rfl
 | .tmp t::rs,v::vs,⟨h1,h2⟩=>by
  have:=run_resV s rs vs h2
  simp [List.mapM_cons,this,h1]
 | .cell a T::rs,v::vs,⟨⟨i,b,cs,T0,hV,ha,hv⟩,h2⟩=>by
  have:=run_resV s rs vs h2
  have hb:=look_bx s i hV
  have hl:(loadVar T ⟨b,0,none⟩).run P w=.ok v w:=by
   rcases hv with ⟨h3,h4,rfl⟩|⟨h3,rfl⟩
   ·exact run_loadVar_agg h3 h4 (fun j u hu=>by rw [add_eq,cell_bx hb,Nat.zero_add]; exact hu)
   ·exact run_loadVar_one h3 (by rw [cell_bx hb]; rfl)
  have he:(asAddr (σ a)).run P w=.ok ⟨b,0,none⟩ w:=by rw [ha]; rfl
  simp [List.mapM_cons,this,he,hl]
 | [],_::_,h=>h.elim
 | .tmp _::_,[],h=>h.elim
 | .cell _ _::_,[],h=>h.elim
theorem run_results {P:Program}{C w:World}{V:List HP}{σ:Env}{fn:Func}{rs:List ResultVar}{vs:List Value}(s:St C w V)(hr:fn.results=rs.toArray)(h:ResV P V σ rs vs):(resultsE fn σ).run P w=.ok (retVal vs) w:=by
 have:=run_resV s rs vs h
 unfold resultsE
 rw [hr,List.mapM_toArray]
 simp only [Sem.run_bind,Sem.run_map]
 refine (congrArg (fun r=>Result.andThen (Result.andThen r _) _) this).trans ?_
 match vs with
 | []=>rfl
 | [v]=>rfl
 | v::u::l=>simp [retVal]
def Fin (X:Cx){A:Type}(V:List HP)(post:A→Value×List HP):Value→World→Prop:=fun v w=>∃ x,v=(post x).1∧St X.C w ((post x).2++V)
theorem q_fin {A:Type}{V0:List HP}{post:A→Value×List HP}{fn:Func}{rs:List ResultVar}{vs:List Value}{e:Exit}(he:e=.ret∨e=.normal)(x:A)(hr:fn.results=rs.toArray)(hv:ResV X.P V σ rs vs)(hx:(post x).1=retVal vs)(hs:∀ w,St X.C w V→St X.C w ((post x).2++V0)) :
  TQ X V σ e (Ends X.P fn (Fin X V0 post)):=by
 intro w s
 rcases he with rfl | rfl
 ·exact ⟨_,run_results s hr hv,x,hx.symm,hs w s⟩
 ·exact ⟨_,run_results s hr hv,x,hx.symm,hs w s⟩
theorem fn_ok {A:Type}{P:Program}{f:FuncId}{fn:Func}{c:Code}{args:List Value}{Pre:List HP}{post:A→Value×List HP}(hf:P.funcs[f]?=some fn)(hb:fn.body=some c)(n:Nat)(hn0:fn.ntmps=n)(hn:Nat.ble args.length n=true)
  (h:∀ C V,TC ⟨P,.of n,C⟩ (Pre++V) (env0 args.toArray) c (Ends P fn (Fin ⟨P,.of n,C⟩ V post))):FnOk P f args Pre post:=by
 subst hn0
 intro C w V s
 refine Calls.mono' (calls_of_W hf hb (by have:=Nat.le_of_ble_eq_true hn; simpa using this) (h C V w s)) ?_
 rintro e w' ⟨v,rfl,x,rfl,s'⟩
 exact ⟨x,rfl,s'⟩
theorem put_facts {a:Act}{o:Oper}{n:Nn}{σ:Env}(hd:dok n o.dst=true)(h1:a.tmps.size=n.n)(h2:a.defers=n.ds)(h3:envOf a=σ)(v:Value):(a.put o.dst v).tmps.size=n.n∧(a.put o.dst v).defers=n.ds∧envOf (a.put o.dst v)=updo σ o.dst v:=by
 refine ⟨?_,?_,?_⟩
 ·cases hdd:o.dst with
  | none=>exact h1
  | some d=>show (a.tmps.setIfInBounds d v).size=n.n; rw [Array.size_setIfInBounds,h1]
 ·cases hdd:o.dst with
  | none=>exact h2
  | some d=>exact h2
 ·rw [envOf_put,h3]
  intro d e
  rw [e] at hd
  rw [h1]
  exact Nat.lt_of_lt_of_le (Nat.lt_succ_self _) (Nat.le_of_ble_eq_true hd)
theorem l_v {dd:Nat}{op:Op}(v:Value)(hv:VO X V σ ⟨some dd,op,ty,pos,af,gd⟩ v)(hw:want ops σ ⟨some dd,op,ty,pos,af,gd⟩=true)(hd:dok X.n (some dd)=true)(h:TL X ops V (upd σ dd v) rest Q):TL X ops V σ (⟨some dd,op,ty,pos,af,gd⟩::rest) Q :=
 l_vo hd hw hv h
theorem bif_ {b:Bool}{x y:Option α}{r:α}(h:(if b=true then x else y)=some r):(b=true∧x=some r)∨(b=false∧y=some r):=by
 cases b
 ·exact .inr ⟨rfl,by simpa using h⟩
 ·exact .inl ⟨rfl,by simpa using h⟩
def AllS (σ:Env):List (Nat×Value)→Prop
 | []=>True
 | (t,v)::l=>σ t=v∧AllS σ l
theorem allS_updl {σ:Env}{l:List (Nat×Value)}(h:AllS σ l):updl σ l=σ:=by
 induction l with
 | nil=>rfl
 | cons p l ih =>
  obtain ⟨t,v⟩:=p
  show upd (updl σ l) t v=σ
  rw [ih h.2]
  exact upd_self σ t h.1
def Jn (X:Cx){A:Type}(pf:A→Prop)(sl:A→List (Nat×Value))(Vf:A→List HP):Env→World→Prop:=fun σ w=>∃ a,pf a∧AllS σ (sl a)∧St X.C w (Vf a)
theorem c_cut {A:Type}{x y:Code}(pf:A→Prop)(sl:A→List (Nat×Value))(Vf:A→List HP)(hx:TC X V σ x (Then (Jn X pf sl Vf) Q))(hy:∀ a σ',pf a→TC X (Vf a) (updl σ' (sl a)) y Q):TC X V σ x (Then (Nx X y Q) Q):=by
 intro w s
 refine W.mono (hx w s) ?_
 intro e σ' w' q
 cases e with
 | normal =>
  obtain ⟨a,h0,h1,h2⟩:=q
  have:=hy a σ' h0 w' h2
  rw [allS_updl h1] at this
  exact this
 | _=>exact q
theorem q_join {A:Type}{pf:A→Prop}{sl:A→List (Nat×Value)}{Vf:A→List HP}(a:A)(h0:pf a)(h1:AllS σ (sl a))(h2:∀ w,St X.C w V→St X.C w (Vf a)):TQ X V σ .normal (Then (Jn X pf sl Vf) Q):=fun w s=>⟨a,h0,h1,h2 w s⟩
def Nxt (X:Cx){S E A:Type}(out:S⊕E)(sl:S→A→List (Nat×Value))(Vf:S→A→List HP):Env→World→Prop:=fun σ w=>∃ s a,out=.inl s∧AllS σ (sl s a)∧St X.C w (Vf s a)
theorem c_loop {S E A:Type}{f:S→Option (S⊕E)}{s0:S}{e:E}{c:Code}(hl:loopM f s0=some e)(sl:S→A→List (Nat×Value))(Vf:S→A→List HP)(a0:A)(h1:AllS σ (sl s0 a0))(h2:∀ w,St X.C w V→St X.C w (Vf s0 a0))
  (round:∀ s a σ' out,f s=some out→(∀ e',out=.inr e'→e'=e)→TC X (Vf s a) (updl σ' (sl s a)) c (Then (Nxt X out sl Vf) Q)):TC X V σ (.loop c) Q:=by
 intro w st
 obtain ⟨k,hk⟩:=loopM_to hl
 refine W_loop (fun k σ w=>∃ s a,iterM f k s=some e∧AllS σ (sl s a)∧St X.C w (Vf s a)) k ⟨s0,a0,hk,h1,h2 w st⟩ ?_
 rintro k σ' w' ⟨s,a,hi,g1,g2⟩
 cases k with
 | zero=>cases hi
 | succ k =>
  simp only [iterM] at hi
  cases hf:f s with
  | none=>rw [hf] at hi; cases hi
  | some out =>
   rw [hf] at hi
   have:=round s a σ' out hf (fun e' he=>by subst he; exact Option.some.inj hi) w' g2
   rw [allS_updl g1] at this
   refine W.mono this ?_
   intro ex σ'' w'' q
   cases ex with
   | normal =>
    obtain ⟨s',a',rfl,q1,q2⟩:=q
    exact ⟨k,Nat.lt_succ_self k,s',a',hi,q1,q2⟩
   | _=>exact q
theorem q_again {S E A:Type}{sl:S→A→List (Nat×Value)}{Vf:S→A→List HP}{s:S}(a:A)(h1:AllS σ (sl s a))(h2:∀ w,St X.C w V→St X.C w (Vf s a)):TQ X V σ .normal (Then (Nxt X (E:=E) (.inl s) sl Vf) Q):=fun w st=>⟨s,a,rfl,h1,h2 w st⟩
end
end Go.Pg
namespace Go.Pg
section
variable {P:Program}{ops:Array Oper}{Q:Exit→Act→World→Prop}{S:World→Prop}{k:Nat}
def Shut (ops:Array Oper)(listed:Array Bool):Prop:=∀ j o,ops[j]?=some o→listed.getD j false=true→∀ e∈o.after,Region.binds .any e=true→listed.getD e.on false=true
def reach (ops:Array Oper):Nat→Nat→Nat→Bool
 | 0,_,_=>false
 | f+1,j,i=>match ops[j]? with
  | some o=>o.after.any (fun e=>Region.binds .any e&&e.on==i)||o.after.any (fun e=>Region.binds .any e&&reach ops f e.on i)
  | none=>false
theorem reach_listed {listed:Array Bool}(hs:Shut ops listed):∀ (f j i:Nat) (o:Oper),ops[j]?=some o→(∀ e∈o.after,Region.binds .any e=true→listed.getD e.on false=true)→reach ops f j i=true→listed.getD i false=true:=by
 intro f
 induction f with
 | zero=>intro j i o _ _ h; cases h
 | succ f ih =>
  intro j i o ho ha h
  simp only [reach,ho,Bool.or_eq_true,Array.any_eq_true',Bool.and_eq_true,beq_iff_eq] at h
  rcases h with ⟨e,he,hb,hi⟩|⟨e,he,hb,hr⟩
  ·rw [← hi]; exact ha e he hb
  ·have hl:=ha e he hb
   cases hoe:ops[e.on]? with
   | none =>
    cases f with
    | zero=>cases hr
    | succ f=>simp [reach,hoe] at hr
   | some o'=>exact ih e.on i o' hoe (hs e.on o' hoe hl) hr
def tailB (ops:Array Oper)(k:Nat):Bool:=(List.range ops.size).all fun j=>Nat.blt j k||(List.range k).all fun i=>reach ops ops.size j i
def tailI (ops:Array Oper)(k i:Nat):Bool:=(List.range ops.size).all fun j=>Nat.blt j k||reach ops ops.size j i
theorem tailB_I {ops:Array Oper}{k i:Nat}(h:tailB ops k=true)(hik:Nat.blt i k=true):tailI ops k i=true:=by
 simp only [tailB,tailI,List.all_eq_true,List.mem_range,Bool.or_eq_true] at h ⊢
 intro j hj
 rcases h j hj with h | h
 ·exact .inl h
 ·exact .inr (h i (Nat.lt_of_lt_of_le (Nat.lt_succ_self _) (Nat.le_of_ble_eq_true hik)))
theorem Shut.step {listed:Array Bool}{j:Nat}(h:Shut ops listed)(hj:j∈Region.ready .any ops listed):Shut ops (listed.setIfInBounds j true):=by
 obtain ⟨_,o,ho,ha⟩:=mem_ready.1 hj
 intro i o' hi hl e he hb
 by_cases hij:i=j
 ·subst hij
  rw [ho] at hi
  obtain rfl:=Option.some.inj hi
  exact getD_set_true (ha e he hb)
 ·rw [getD_set_ne false (Ne.symm hij)] at hl
  exact getD_set_true (h i o' hi hl e he hb)
def calm (ops:Array Oper)(k:Nat)(listed:Array Bool):Bool:=(List.range ops.size).all fun j=>Nat.blt j k||!listed.getD j false
theorem calm_set {listed:Array Bool}{i:Nat}(hik:Nat.blt i k=true)(h:calm ops k listed=true):calm ops k (listed.setIfInBounds i true)=true:=by
 simp only [calm,List.all_eq_true,List.mem_range,Bool.or_eq_true,Bool.not_eq_true'] at h ⊢
 intro j hj
 by_cases hji:j=i
 ·subst hji; exact .inl hik
 ·rw [getD_set_ne false (Ne.symm hji)]; exact h j hj
def wpAnyT (P:Program)(ops:Array Oper)(Q:Exit→Act→World→Prop)(S:World→Prop)(k:Nat):Nat→Array Bool→Act→World→Prop
 | 0,listed,a,w=>Region.ready .any ops listed=[]∧Q .normal a w
 | fuel+1,listed,a,w =>
  (Region.ready .any ops listed=[]→Q .normal a w) ∧
  ∀ i∈Region.ready .any ops listed,wpOp P ops Q i (fun a' w'=>(Nat.blt i k=true→calm ops k listed=true→S w')∧wpAnyT P ops Q S k fuel (listed.setIfInBounds i true) a' w') a w
theorem wpAny_of_T:∀ (fuel:Nat) (listed:Array Bool) (a:Act) (w:World),wpAnyT P ops Q S k fuel listed a w→wpAny P .any ops Q fuel listed a w
 | 0,_,_,_,h=>h
 | fuel+1,_,_,_,h=>⟨h.1,fun i hi=>wpOp_mono (fun a' w' h'=>wpAny_of_T fuel _ a' w' h'.2) (h.2 i hi)⟩
theorem wpAnyT_first {i:Nat}{oi:Oper}{v:Value}(hi:ops[i]?=some oi)(hik:Nat.blt i k=true)(ht:tailI ops k i=true)(hsel:∀ (j:Nat) (o:Oper) cs b,ops[j]?=some o→o.op≠.select cs b)
  (hQ:∀ c a w,Q (.panic c) (a.put oi.dst v) w→Q (.panic c) a w) :
  ∀ (fuel:Nat) (listed:Array Bool) (a:Act) (w:World),Shut ops listed →
   (∀ j oj,ops[j]?=some oj→j≠i→listed.getD j true=false→(∀ e∈oj.after,Region.binds .any e=true→e.on≠i)→oi.apart ops oj=true) →
   i∈Region.ready .any ops listed→YieldsIf P ops S oi v a→S w →
   wpAnyT P ops Q S k fuel (listed.setIfInBounds i true) (a.put oi.dst v) w→wpAnyT P ops Q S k (fuel+1) listed a w:=by
 intro fuel
 induction fuel with
 | zero =>
  intro listed a w _ _ hr hy hS H
  refine ⟨fun h=>(by rw [h] at hr; cases hr),fun j hj=>?_⟩
  by_cases hji:j=i
  ·subst hji; exact hy.wpOp hi hS ⟨fun _ _=>hS,H⟩
  ·have:=ready_mono hj hji
   rw [H.1] at this
   cases this
 | succ fuel ih =>
  intro listed a w hsh hfree hr hy hS H
  refine ⟨fun h=>(by rw [h] at hr; cases hr),fun j hj=>?_⟩
  by_cases hji:j=i
  ·subst hji; exact hy.wpOp hi hS ⟨fun _ _=>hS,H⟩
  ·have h1:=H.2 j (ready_mono hj hji)
   obtain ⟨hjun,oj,hoj,hall⟩:=mem_ready.1 hj
   have h0:=(mem_ready.1 hr).1
   have hin:listed.getD i false=true→False:=fun h1=>by
    rcases Nat.lt_or_ge i listed.size with h' | h'
    ·simp [h'] at h0 h1; rw [h0] at h1; cases h1
    ·simp [Array.getElem?_eq_none h'] at h1
   have hjk:Nat.blt j k=true:=by
    cases hb:Nat.blt j k with
    | true=>rfl
    | false =>
     simp only [tailI,List.all_eq_true,List.mem_range,Bool.or_eq_true] at ht
     have h3:=(ht j (Array.getElem?_eq_some_iff.1 hoj).1).resolve_left (by rw [hb]; exact fun h=>by cases h)
     exact (hin (reach_listed hsh _ j i oj hoj hall h3)).elim
   have hcalm:calm ops k listed=true:=by
    simp only [calm,List.all_eq_true,List.mem_range,Bool.or_eq_true,Bool.not_eq_true']
    intro m hm
    cases hb:Nat.blt m k with
    | true=>exact .inl rfl
    | false =>
     refine .inr ?_
     cases hl:listed.getD m false with
     | false=>rfl
     | true =>
      simp only [tailI,List.all_eq_true,List.mem_range,Bool.or_eq_true] at ht
      have h3:=(ht m hm).resolve_left (by rw [hb]; exact fun h=>by cases h)
      have ho:=Array.getElem?_eq_getElem hm
      exact (hin (reach_listed hsh _ m i _ ho (hsh m _ ho hl) h3)).elim
   have hnot:∀ e∈oj.after,Region.binds .any e=true→e.on≠i:=fun e he hb heq=>hin (heq▸hall e he hb)
   have h2:=wpOp_putIf hoj (hfree j oj hoj hji hjun hnot) (fun cs b=>hsel i oi cs b hi) (fun cs b=>hsel j oj cs b hoj) hQ hy h1
   have hfree':∀ m ok,ops[m]?=some ok→m≠i→(listed.setIfInBounds j true).getD m true=false →
     (∀ e∈ok.after,Region.binds .any e=true→e.on≠i)→oi.apart ops ok=true:=fun m ok hk hki hun hno=>by
    refine hfree m ok hk hki ?_ hno
    by_cases hjm:j=m
    ·subst hjm; exact hjun
    ·rw [getD_set_ne true hjm] at hun; exact hun
   refine wpOp_mono (fun a' w' h3=>⟨fun q1 q2=>h3.2.1 q1 (calm_set hik q2),ih (listed.setIfInBounds j true) a' w' (hsh.step hj) hfree' (ready_mono hr (Ne.symm hji)) h3.1 (h3.2.1 hjk (calm_set hik hcalm)) ?_⟩) h2
   rw [Array.setIfInBounds_comm _ _ hji]
   exact h3.2.2
end
def NP (Q:Exit→Env→World→Prop):Exit→Env→World→Prop
 | .panic _,_,_=>False
 | .outgrown,_,_=>False
 | e,σ,w=>Q e σ w
def TD (X:Cx)(ops:Array Oper)(k:Nat)(V0:List HP)(fuel:Nat)(listed:Array Bool)(V:List HP)(σ:Env)(Q:Exit→Env→World→Prop):Prop :=
 ∀ a w,a.tmps.size=X.n.n→a.defers=X.n.ds→envOf a=σ→Shut ops listed→St X.C w V→wpAnyT X.P ops (lift X.n (NP Q)) (fun w=>St X.C w V0) k fuel listed a w
def DK (X:Cx)(ops:Array Oper)(k:Nat)(V0:List HP)(fuel:Nat)(listed:Array Bool)(i:Nat)(Q:Exit→Env→World→Prop):Exit→Env→World→Prop
 | .normal,σ,w=>∀ a,a.tmps.size=X.n.n→a.defers=X.n.ds→envOf a=σ→Shut ops (listed.setIfInBounds i true)→(Nat.blt i k=true→calm ops k listed=true→St X.C w V0)∧wpAnyT X.P ops (lift X.n (NP Q)) (fun w=>St X.C w V0) k fuel (listed.setIfInBounds i true) a w
 | .panic _,_,_=>False
 | .outgrown,_,_=>False
 | e,σ,w=>Q e σ w
def DAll (X:Cx)(ops:Array Oper)(k:Nat)(V0:List HP)(fuel:Nat)(listed:Array Bool)(V:List HP)(σ:Env)(Q:Exit→Env→World→Prop):List Nat→Prop
 | []=>True
 | i::is=>(match ops[i]? with
  | some o=>TL X ops V σ [o] (DK X ops k V0 fuel listed i Q)
  | none=>False)∧DAll X ops k V0 fuel listed V σ Q is
section
variable {X:Cx}{V V0:List HP}{σ:Env}{Q:Exit→Env→World→Prop}{ops:Array Oper}{o:Oper}{k fuel:Nat}{listed:Array Bool}
variable {d:Nat}{op:Op}{ty:TypeId}{pos:String}{af:Array Edge}{gd:Option (Nat×Bool)}
theorem c_draw {id:Nat}{l:List Oper}(k:Nat)(V0:List HP)(hm:X.P.follows .mixedOrders=true)(ht:(tailB l.toArray k&&Region.noSelect l.toArray)=true)
  (h:tailB l.toArray k=true→Region.noSelect l.toArray=true→TD X l.toArray k V0 l.length (Array.replicate l.length false) V σ Q):TC X V σ (.region id l.toArray true) Q:=by
 intro w s a h1 h2 h3
 rw [Bool.and_eq_true] at ht
 refine wp_mono (P:=X.P) (Q:=lift X.n (NP Q)) (wp_region_any hm (wpAny_of_T (S:=fun w=>St X.C w V0) (k:=k) _ _ _ _ ?_)) ?_
 ·have:=h ht.1 ht.2 a w.drew h1 h2 h3 (fun j o _ hl=>by
   exfalso
   by_cases hj:j<l.length
   ·simp [Array.getElem?_replicate,hj] at hl
   ·simp [Array.getElem?_replicate,hj] at hl) s.drew
  simpa using this
 ·rintro e a w q
  refine lift_mono q fun q3=>?_
  cases e<;>first | exact q3 | exact q3.elim
theorem d_done (hr:Region.ready .any ops listed=[])(h:TQ X V σ .normal Q):TD X ops k V0 fuel listed V σ Q:=by
 intro a w h1 h2 h3 _ s
 have hq:lift X.n (NP Q) .normal a w:=.inl ⟨h1,h2,by rw [h3]; exact h w s⟩
 cases fuel with
 | zero=>exact ⟨hr,hq⟩
 | succ fuel=>exact ⟨fun _=>hq,by rw [hr]; intro i hi; cases hi⟩
theorem d_v2 (i:Nat)(v:Value)(hi:ops[i]?=some ⟨some d,op,ty,pos,af,gd⟩)(hv:VO X V0 σ ⟨some d,op,ty,pos,af,gd⟩ v)(hw:want ops σ ⟨some d,op,ty,pos,af,gd⟩=true)(hd:dok X.n (some d)=true)
  (hik:Nat.blt i k=true) (ht:tailI ops k i=true) (hn:Region.noSelect ops=true) (hf:(Region.free .any ops listed i&&(Region.ready .any ops listed).contains i)=true) (hS:∀ w,St X.C w V→St X.C w V0)
  (h:TD X ops k V0 fuel (listed.setIfInBounds i true) V (upd σ d v) Q):TD X ops k V0 (fuel+1) listed V σ Q:=by
 intro a w h1 h2 h3 hsh s
 rw [Bool.and_eq_true] at hf
 obtain ⟨p1,p2,p3⟩:=put_facts (o:=⟨some d,op,ty,pos,af,gd⟩) hd h1 h2 h3 v
 have hr:i∈Region.ready .any ops listed:=by simpa using hf.2
 refine wpAnyT_first (v:=v) hi hik ht (Region.noSelect_spec hn) ?_ fuel listed a w hsh (Region.free_spec hi hf.1) hr ?_ (hS w s) (h _ w p1 p2 p3 (hsh.step hr) s)
 ·rintro c a w q
  exact (lift_n q (by simp)).2.2.elim
 ·exact .inl ⟨by rw [wanted_env,h3]; exact hw,fun w s=>by rw [eval_env,h3]; exact hv w s⟩
theorem d_v (i:Nat)(v:Value)(hi:ops[i]?=some ⟨some d,op,ty,pos,af,gd⟩)(hv:VO X V0 σ ⟨some d,op,ty,pos,af,gd⟩ v)(hw:want ops σ ⟨some d,op,ty,pos,af,gd⟩=true)(hd:dok X.n (some d)=true)
  (hik:Nat.blt i k=true) (ht:tailB ops k=true) (hn:Region.noSelect ops=true) (hf:(Region.free .any ops listed i&&(Region.ready .any ops listed).contains i)=true) (hS:∀ w,St X.C w V→St X.C w V0)
  (h:TD X ops k V0 fuel (listed.setIfInBounds i true) V (upd σ d v) Q):TD X ops k V0 (fuel+1) listed V σ Q :=
 d_v2 i v hi hv hw hd hik (tailB_I ht hik) hn hf hS h
theorem d_off2 (i:Nat)(hi:ops[i]?=some ⟨some d,op,ty,pos,af,gd⟩)(hw:want ops σ ⟨some d,op,ty,pos,af,gd⟩=false)(hd:dok X.n (some d)=true)
  (hik:Nat.blt i k=true) (ht:tailI ops k i=true) (hn:Region.noSelect ops=true) (hf:(Region.free .any ops listed i&&(Region.ready .any ops listed).contains i)=true) (hS:∀ w,St X.C w V→St X.C w V0)
  (h:TD X ops k V0 fuel (listed.setIfInBounds i true) V (upd σ d undef) Q):TD X ops k V0 (fuel+1) listed V σ Q:=by
 intro a w h1 h2 h3 hsh s
 rw [Bool.and_eq_true] at hf
 obtain ⟨p1,p2,p3⟩:=put_facts (o:=⟨some d,op,ty,pos,af,gd⟩) hd h1 h2 h3 undef
 have hr:i∈Region.ready .any ops listed:=by simpa using hf.2
 refine wpAnyT_first (v:=undef) hi hik ht (Region.noSelect_spec hn) ?_ fuel listed a w hsh (Region.free_spec hi hf.1) hr ?_ (hS w s) (h _ w p1 p2 p3 (hsh.step hr) s)
 ·rintro c a w q
  exact (lift_n q (by simp)).2.2.elim
 ·exact .inr ⟨by rw [wanted_env,h3]; exact hw,rfl⟩
theorem d_off (i:Nat)(hi:ops[i]?=some ⟨some d,op,ty,pos,af,gd⟩)(hw:want ops σ ⟨some d,op,ty,pos,af,gd⟩=false)(hd:dok X.n (some d)=true)
  (hik:Nat.blt i k=true) (ht:tailB ops k=true) (hn:Region.noSelect ops=true) (hf:(Region.free .any ops listed i&&(Region.ready .any ops listed).contains i)=true) (hS:∀ w,St X.C w V→St X.C w V0)
  (h:TD X ops k V0 fuel (listed.setIfInBounds i true) V (upd σ d undef) Q):TD X ops k V0 (fuel+1) listed V σ Q :=
 d_off2 i hi hw hd hik (tailB_I ht hik) hn hf hS h
theorem d_all (rs:List Nat)(hr:Region.ready .any ops listed=rs)(hne:Nat.blt 0 rs.length=true)(h:DAll X ops k V0 fuel listed V σ Q rs):TD X ops k V0 (fuel+1) listed V σ Q:=by
 intro a w h1 h2 h3 hsh s
 refine ⟨fun h0=>(by rw [hr] at h0; rw [h0] at hne; cases hne),fun i hi=>?_⟩
 have hi':=hi
 rw [hr] at hi
 clear hr hne
 induction rs with
 | nil=>cases hi
 | cons j rs ih =>
  rcases List.mem_cons.1 hi with rfl | hi
  ·have hj:=h.1
   obtain ⟨_,o,ho,_⟩:=mem_ready.1 hi'
   rw [ho] at hj
   have hl:=hj w s a h1 h2 h3
   unfold wpOp
   simp only [ho]
   unfold wpList at hl
   split
   ·rename_i hw
    rw [if_pos hw] at hl
    have up:∀ r,o.upon X.P a (wpList X.P ops (lift X.n (DK X ops k V0 fuel listed i Q)) []) (lift X.n (DK X ops k V0 fuel listed i Q)) r →
      o.upon X.P a (fun a' w'=>(Nat.blt i k=true→calm ops k listed=true→St X.C w' V0)∧wpAnyT X.P ops (lift X.n (NP Q)) (fun w=>St X.C w V0) k fuel (listed.setIfInBounds i true) a' w') (lift X.n (NP Q)) r:=by
     have hq:∀ c a w,lift X.n (DK X ops k V0 fuel listed i Q) (.panic c) a w→lift X.n (NP Q) (.panic c) a w:=by
      rintro c a w q
      exact (lift_n q (by simp)).2.2.elim
     have hk:∀ a' w',wpList X.P ops (lift X.n (DK X ops k V0 fuel listed i Q)) [] a' w'→(Nat.blt i k=true→calm ops k listed=true→St X.C w' V0)∧wpAnyT X.P ops (lift X.n (NP Q)) (fun w=>St X.C w V0) k fuel (listed.setIfInBounds i true) a' w':=by
      rintro a' w' q
      obtain ⟨q1,q2,q3⟩:=lift_n q (by simp)
      exact q3 a' q1 q2 rfl (hsh.step hi')
     intro r hr
     match r,hr with
     | .ok (.value v) w',hr=>exact hk _ _ hr
     | .ok .skip w',hr=>exact hk _ _ hr
     | .ok (.defer _) w',hr=>exact hk _ _ hr
     | .ok (.enter f args) w',hr =>
      refine Calls.mono' hr ?_
      intro e w'' he
      cases e with
      | returned v=>exact hk _ _ he
      | panicked c=>exact hq _ _ _ he
      | outgrown =>
       obtain ⟨b,u,hb⟩:=he
       exact (lift_n hb (by simp)).2.2.elim
     | .ok (.row row args) w',hr=>exact Rows.mono hr fun v w'' h=>hk _ _ h
     | .halt (.panic v) w',hr=>exact hq _ _ _ hr
    rcases hl with hl | ⟨h1,b,u,hb⟩
    ·exact .inl (up _ hl)
    ·exact (lift_n hb (by simp)).2.2.elim
   ·rename_i hw
    rw [if_neg hw] at hl
    obtain ⟨q1,q2,q3⟩:=lift_n hl (by simp)
    exact q3 _ q1 q2 rfl (hsh.step hi')
  ·exact ih h.2 hi
theorem d_one (i:Nat)(hr:Region.ready .any ops listed=[i])(hi:ops[i]?=some o)(h:TL X ops V σ [o] (DK X ops k V0 fuel listed i Q)):TD X ops k V0 (fuel+1) listed V σ Q :=
 d_all [i] hr rfl ⟨by rw [hi]; exact h,trivial⟩
theorem q_draw {i:Nat}(hS:∀ w,St X.C w V→St X.C w V0)(h:TD X ops k V0 fuel (listed.setIfInBounds i true) V σ Q):TQ X V σ .normal (DK X ops k V0 fuel listed i Q) :=
 fun w s a h1 h2 h3 h4=>⟨fun _ _=>hS w s,h a w h1 h2 h3 h4 s⟩
theorem q_last {i:Nat}(hi:Nat.blt i k=false)(h:TD X ops k V0 fuel (listed.setIfInBounds i true) V σ Q):TQ X V σ .normal (DK X ops k V0 fuel listed i Q) :=
 fun w s a h1 h2 h3 h4=>⟨fun h=>(by rw [hi] at h; cases h),h a w h1 h2 h3 h4 s⟩
end
end Go.Pg
namespace Go.Pg
section
variable {α:Type}{K:Kind α}{C w:World}{V:List HP}
theorem St.len {a:Option Addr}{n c:Nat}{xs:List α}(s:St C w V)(i:Nat)(h:Sees (lk V i) K (.slice a n c) xs):n=xs.length:=by
 obtain ⟨J,lw,A,c',hv,h2,h3,h4⟩:=s.reads h
 injection hv
theorem St.cap {a:Option Addr}{n c:Nat}{xs:List α}(s:St C w V)(i:Nat)(h:Sees (lk V i) K (.slice a n c) xs):n≤9223372036854775807:=by
 obtain ⟨J,lw,A,c',hv,h2,h3,h4⟩:=s.reads h
 have:n=xs.length:=by injection hv
 simp only [maxLen] at h3
 omega
theorem St.dup {v:Value}{xs:List α}(s:St C w V)(i:Nat)(hV:lk V i=rds K v xs):St C w (rds K v xs::V):=by
 obtain ⟨a,I,hh,g,j,l,s⟩:=s
 obtain ⟨h1,h2,j',p,s'⟩:=star_take i s
 rw [hV] at p
 exact ⟨a,I,hh,g,j,l,Hp.none,hh,Join.none hh,⟨rfl,p.2⟩,s⟩
theorem St.shr {e:Nat}{v:Value}{xs:List α}(s:St C w V)(i:Nat)(hV:lk V i=ow K e v xs):St C w (rds K v xs::Pg.rm V i):=by
 have:=s.mv i
 unfold Pg.mv at this
 rw [hV] at this
 exact St.share this (fun I J hh l m p=>⟨rfl,owS_rdS l m p⟩)
theorem St.nilo (s:St C w V)(K:Kind α)(e:Nat):St C w (ow K e (.slice none 0 0) []::V) :=
 St.new s id (fun I _=>⟨Hp.none,.inl ⟨none,rfl,rfl,rfl⟩,fun _ _ e=>(by cases e),fun _ h=>absurd rfl h⟩) (fun _ _ h=>h)
theorem St.nilr (s:St C w V)(K:Kind α):St C w (rds K (.slice none 0 0) []::V) :=
 St.new s id (fun I _=>⟨Hp.none,⟨rfl,none,0,rfl,Nat.le_refl _,Nat.zero_le _,fun h=>absurd h (Nat.lt_irrefl _)⟩,fun _ _ e=>(by cases e),fun _ h=>absurd rfl h⟩) (fun _ _ h=>h)
end
section
variable {X:Cx}{V:List HP}{σ:Env}{Q:Exit→Env→World→Prop}{ops:Array Oper}{rest:List Oper}{o:Oper}{cd:Code}{ex:Exit}
variable {d:Option Nat}{ty:TypeId}{pos:String}{af:Array Edge}{gd:Option (Nat×Bool)}
variable {α β:Type}
theorem l_len {K:Kind α}{a:Option Addr}{n c:Nat}{xs:List α}(i:Nat)(hV:Sees (lk V i) K (.slice a n c) xs)(h:n=xs.length→TL X ops V σ rest Q):TL X ops V σ rest Q:=fun w s=>h (s.len i hV) w s
theorem c_len {K:Kind α}{a:Option Addr}{n c:Nat}{xs:List α}(i:Nat)(hV:Sees (lk V i) K (.slice a n c) xs)(h:n=xs.length→TC X V σ cd Q):TC X V σ cd Q:=fun w s=>h (s.len i hV) w s
theorem q_len {K:Kind α}{a:Option Addr}{n c:Nat}{xs:List α}(i:Nat)(hV:Sees (lk V i) K (.slice a n c) xs)(h:n=xs.length→TQ X V σ ex Q):TQ X V σ ex Q:=fun w s=>h (s.len i hV) w s
theorem l_st {V':List HP}(f:∀ w,St X.C w V→St X.C w V')(h:TL X ops V' σ rest Q):TL X ops V σ rest Q:=fun w s=>h w (f w s)
theorem c_st {V':List HP}(f:∀ w,St X.C w V→St X.C w V')(h:TC X V' σ cd Q):TC X V σ cd Q:=fun w s=>h w (f w s)
theorem q_st {V':List HP}(f:∀ w,St X.C w V→St X.C w V')(h:TQ X V' σ ex Q):TQ X V σ ex Q:=fun w s=>h w (f w s)
theorem l_calln {A:Type}{f:FuncId}{xs:Array Operand}{ats:Array TypeId}{as:List Value}{Pre:List HP}{post:A→Value×List HP}(m:Nat)(hd:dok X.n d=true)(hw:want ops σ ⟨d,.call ⟨.value (.func f),xs,ats⟩,ty,pos,af,gd⟩=true)
  (hf:callB X.P f=true) (ha:xs.toList.map (ev σ)=as) (hc:FnOk X.P f as Pre post) (hV:tk m V=Pre) (k:∀ x,TL X ops ((post x).2++dp m V) (updo σ d (post x).1) rest Q):TL X ops V σ (⟨d,.call ⟨.value (.func f),xs,ats⟩,ty,pos,af,gd⟩::rest) Q :=
 l_call hd hw hf ha hc (by rw [← hV,tk_dp]) k
theorem l_callvn {A:Type}{f:FuncId}{fv:Operand}{fs cs:List Value}{xs:Array Operand}{ats:Array TypeId}{as:List Value}{Pre:List HP}{post:A→Value×List HP}(m:Nat)(hd:dok X.n d=true)(hw:want ops σ ⟨d,.call ⟨.value fv,xs,ats⟩,ty,pos,af,gd⟩=true)
  (hf:callB X.P f=true) (hv:ev σ fv=.func (.func f) fs.toArray cs.toArray) (ha:fs++xs.toList.map (ev σ)++cs=as) (hc:FnOk X.P f as Pre post) (hV:tk m V=Pre) (k:∀ x,TL X ops ((post x).2++dp m V) (updo σ d (post x).1) rest Q):TL X ops V σ (⟨d,.call ⟨.value fv,xs,ats⟩,ty,pos,af,gd⟩::rest) Q :=
 l_callv hd hw hf hv ha hc (by rw [← hV,tk_dp]) k
theorem AllC.append {A B:List HP}(a:AllC A)(b:AllC B):AllC (A++B):=by
 induction A with
 | nil=>exact b
 | cons p A ih=>exact ⟨a.1,ih a.2⟩
theorem v_pickT {c a b:Operand}{k:Bool}{v v':Value}(hc:ev σ c=.bool k)(hk:k=true)(ha:ev σ a=v')(he:v'=v):VO X V σ ⟨d,.pick c a b,ty,pos,af,gd⟩ v:=v_pv (by
 simp only [pv,hc,hk,ha,he,cond_true])
theorem v_pickF {c a b:Operand}{k:Bool}{v v':Value}(hc:ev σ c=.bool k)(hk:k=false)(ha:ev σ b=v')(he:v'=v):VO X V σ ⟨d,.pick c a b,ty,pos,af,gd⟩ v:=v_pv (by
 simp only [pv,hc,hk,ha,he,cond_false])
theorem v_snil {t yt:TypeId}{x y:Operand}{a:Option Addr}{n c:Nat}{e:TypeId}(ht:slB X.P t=some e)(hx:ev σ x=.slice a n c)(hy:ev σ y=.slice none 0 0):VO X V σ ⟨d,.binOp .eql t x y yt,ty,pos,af,gd⟩ (.bool a.isNone):=by
 intro w _
 have hu:=slB_eq ht
 have he:(Op.equal t (.slice a n c) (.slice none 0 0)).run X.P w=.ok a.isNone w:=by
  unfold Op.equal
  rw [show Op.maxDepth=9999+1 from rfl]
  unfold Op.equalIn
  rw [Sem.run_bind,run_underlying hu]
  cases a<;>rfl
 cases a<;>simp [execOp,hx,hy,eqGuard,binOp,he]
end
end Go.Pg
namespace Go.Pg
def placesB (P:Program)(T:TypeId):Option (List (Nat×Nat)):=match P.underlying T with
 | some (.struct fs)=>fs.toList.mapM fun f=>(P.info? f.type).map fun i=>(f.offset,i.size)
 | _=>none
def fillB (ps:List (Nat×Nat)):List Value→List (Nat×Value)→Option (List Value)
 | z,[]=>some z
 | z,(i,v)::rest=>match nth ps i with
  | some (off,sz)=>cond (Nat.beq v.cells.toList.length sz&&Nat.ble (off+sz) z.length) (fillB ps (z.take off++v.cells.toList++z.drop (off+sz)) rest) none
  | none=>none
theorem fold_put:∀ (l:List Value) (off j:Nat) (cs:Array Value),off+j+l.length≤cs.size →
  ((l.zipIdx j).foldl (fun cs (c,j)=>cs.setIfInBounds (off+j) c) cs).toList=cs.toList.take (off+j)++l++cs.toList.drop (off+j+l.length):=by
 intro l
 induction l with
 | nil=>intro off j cs _; simp
 | cons u l ihl =>
  intro off j cs hcs
  simp only [List.zipIdx_cons,List.foldl_cons]
  rw [ihl off (j+1) _ (by simp at *; omega)]
  simp only [List.length_cons] at hcs
  rw [Array.toList_setIfInBounds,show off+(j+1)=(off+j)+1 by omega,List.take_succ_eq_append_getElem (by simp; omega),List.take_set_of_le (Nat.le_refl _),List.drop_set_of_lt (by omega)]
  simp [Nat.add_assoc,Nat.add_comm,Nat.add_left_comm]
theorem fill_B {ps:List (Nat×Nat)}:∀ (parts:List (Nat×Value)) (z:Array Value) (cs:List Value),fillB ps z.toList parts=some cs→∃ r,Instr.fill (ps.toArray[·]?) z parts=some r∧r.toList=cs:=by
 intro parts
 induction parts with
 | nil=>intro z cs h; exact ⟨z,rfl,Option.some.inj h⟩
 | cons p parts ih =>
  intro z cs h
  obtain ⟨i,v⟩:=p
  unfold fillB at h
  rw [nth_eq] at h
  unfold Instr.fill
  have he:ps.toArray[i]?=ps[i]?:=by simp
  simp only [he]
  cases hp:ps[i]? with
  | none=>rw [hp] at h; cases h
  | some q =>
   obtain ⟨off,sz⟩:=q
   rw [hp] at h
   simp only at h ⊢
   cases hb:(Nat.beq v.cells.toList.length sz&&Nat.ble (off+sz) z.toList.length) with
   | false=>rw [hb] at h; cases h
   | true =>
    rw [hb] at h
    simp only [cond_true,Bool.and_eq_true] at h hb
    have h1:v.cells.size=sz:=by simpa using Nat.eq_of_beq_eq_true hb.1
    have h2:off+sz≤z.size:=by simpa using Nat.le_of_ble_eq_true hb.2
    have hc:¬ (v.cells.size≠sz∨off+v.cells.size>z.size):=by rw [h1]; omega
    rw [if_neg (by simpa using hc)]
    have hz:v.cells.zipIdx.foldl (fun cs (c,j)=>cs.setIfInBounds (off+j) c) z=(v.cells.toList.zipIdx 0).foldl (fun cs (c,j)=>cs.setIfInBounds (off+j) c) z:=by
     rw [← Array.foldl_toList]
     congr 1
     simp
    rw [hz]
    refine ih _ cs ?_
    rw [fold_put _ _ _ _ (by simp [h1]; omega)]
    simpa [h1] using h
section
variable {X:Cx}{V:List HP}{σ:Env}{Q:Exit→Env→World→Prop}{ops:Array Oper}{rest:List Oper}{o:Oper}
variable {d:Option Nat}{ty:TypeId}{pos:String}{af:Array Edge}{gd:Option (Nat×Bool)}
variable {α β:Type}
theorem mapM_places {P:Program}{w:World}:∀ (fs:List Field) (ps:List (Nat×Nat)),fs.mapM (fun f=>(P.info? f.type).map fun i=>(f.offset,i.size))=some ps →
  (fs.mapM (fun f=>(do pure (f.offset,← sizeOf f.type):Sem (Nat×Nat)))).run P w=.ok ps w:=by
 intro fs
 induction fs with
 | nil=>intro ps h; simp at h; subst h; rfl
 | cons f fs ih =>
  intro ps h
  rw [List.mapM_cons] at h ⊢
  cases hi:P.info? f.type with
  | none=>rw [hi] at h; cases h
  | some i =>
   rw [hi] at h
   cases hm:fs.mapM (fun f=>(P.info? f.type).map fun i=>(f.offset,i.size)) with
   | none=>rw [hm] at h; cases h
   | some qs =>
    rw [hm] at h
    obtain rfl:=Option.some.inj h
    have h1:=ih qs hm
    simp only [Sem.run_bind,Sem.run_pure,Result.andThen_ok,run_sizeOf (show szB P f.type=some i.size by simp [szB,hi]),h1]
theorem v_build {T:TypeId}{parts:Array (Nat×Operand)}{cs z:List Value}{ps:List (Nat×Nat)}{l:List (Nat×Value)}(hp:placesB X.P T=some ps)(hz:zcB X.P T=some z)(hl:parts.toList.map (fun p=>(p.1,ev σ p.2))=l)(hr:fillB ps z l=some cs) :
  VO X V σ ⟨d,.build T parts,ty,pos,af,gd⟩ (.agg cs.toArray):=by
 intro w _
 unfold placesB at hp
 split at hp
 ·rename_i fs hu
  obtain ⟨zv,hz1,hz2⟩:=run_zero (P:=X.P) (w:=w) hz
  have hm:=mapM_places (P:=X.P) (w:=w) _ _ hp
  obtain ⟨r,hr1,hr2⟩:=fill_B (ps:=ps) l z.toArray cs (by simpa using hr)
  have hpp:(parts.map fun (i,x)=>(i,ev σ x)).toList=l:=by
   rw [← hl]; simp
  have hm':(fs.mapM (fun f=>(do pure (f.offset,← sizeOf f.type):Sem (Nat×Nat)))).run X.P w=.ok ps.toArray w:=by
   rw [show fs=fs.toList.toArray by simp,List.mapM_toArray,Sem.run_map]
   exact congrArg (fun r=>Result.andThen r _) hm
  have hrc:r=cs.toArray:=by apply Array.ext'; simpa using hr2
  simp only [execOp,Instr.build,Sem.run_bind,hz1,Result.andThen_ok,run_underlying hu,hm',hpp,hz2,hr1,hrc,Sem.run_pure]
 ·cases hp
def OwnDec (K:Kind α){A:Type}(cells:A→α→List Value)(ents:A→α→List HP):Prop:=∀ I h x cs,K.own I h x cs→∃ a,cs=cells a x∧star (ents a x) I Hp.none
theorem own_more {A:Type}{cells:A→α→List Value}{ents:A→α→List HP}{K:Kind α}{C w:World}{e g o n c:Nat}{xs:List α}(s:St C w V)(i:Nat)(hl:OwnDec K cells ents)(hV:lk V i=ow K e (.slice (some ⟨g,o,none⟩) n c) xs){j:Nat}{x:α}(hx:xs[j]?=some x) :
  ∃ a,(∀ k u,(cells a x)[k]?=some u→w.cell? ⟨g,o+j*K.sz+k,none⟩=some u)∧(cells a x).length=K.sz∧St C w (ents a x++V):=by
 obtain ⟨sm,I,h,g0,jg,l,st⟩:=s
 obtain ⟨h1,h2,j',p,s'⟩:=star_take i st
 rw [hV] at p
 have p:owS K e I h1 (.slice (some ⟨g,o,none⟩) n c) xs:=p
 rcases p with ⟨A,hv,rfl,_⟩|⟨g',c',pre,used,spare,fr,hb,hv,q2,q3,q4,q5,jo,ol⟩
 ·simp at hx
 injection hv with e1 e2 e3
 injection e1 with e1
 injection e1 with e1 e4
 subst e1; subst e4
 obtain ⟨a1,c1,b1,g1,g2,hc,hlen,jn,ox,hput⟩:=ownL_at ol hx
 obtain ⟨a,rfl,hst⟩:=hl _ _ _ _ ox
 have hblk:w.heap[g]?=some (.cells (pre++used++spare).toArray e fr):=l g _ (jg.right g _ (j'.left g _ (jo.left g _ (by simp [Hp.one]))))
 refine ⟨a,fun k u hu=>?_,K.own_len ox,sm,I,h,g0,jg,l,star_app.2 ⟨Hp.none,h,Join.none h,hst,st⟩⟩
 have hk:=(List.getElem?_eq_some_iff.1 hu).1
 have:w.cell? ⟨g,pre.length+j*K.sz+k,none⟩=(pre++used++spare)[pre.length+j*K.sz+k]?:=by simp [World.cell?,hblk]
 rw [this,List.append_assoc,List.getElem?_append_right (by omega),hc,show pre.length+j*K.sz+k - pre.length=j*K.sz+k by omega,List.append_assoc,List.append_assoc,List.getElem?_append_right (by omega),show j*K.sz+k - a1.length=k by omega,List.getElem?_append_left hk]
 exact hu
theorem l_ldo [Inhabited α]{A:Type}{cells:A→α→List Value}{ents:A→α→List HP}{K:Kind α}{T:TypeId}{x:Operand}{e g o n c:Nat}{xs:List α}(i:Nat)(j:Int)(hd:dok X.n d=true)(hw:want ops σ ⟨d,.load T x,ty,pos,af,gd⟩=true)(ha:aggB X.P T=some true)(hs:szB X.P T=some K.sz)
  (hl:OwnDec K cells ents) (hV:lk V i=ow K e (.slice (some ⟨g,o,none⟩) n c) xs) (hx:ev σ x=.pointer (some ⟨g,o+j.toNat*K.sz,none⟩)) (h0:0≤j) (h1:j<n)
  (h:∀ a,TL X ops (ents a (ix xs j)++V) (updo σ d (.agg (cells a (ix xs j)).toArray)) rest Q):TL X ops V σ (⟨d,.load T x,ty,pos,af,gd⟩::rest) Q:=by
 intro w s
 have hn:n=xs.length:=s.len i (by rw [hV]; exact sees_ow)
 obtain ⟨a,hc,hlen,s'⟩:=own_more s i hl hV (ix_get h0 (by omega))
 refine WL_step hd hw ?_
 have:=run_loadVar_agg (P:=X.P) (w:=w) (a:=⟨g,o+j.toNat*K.sz,none⟩) (cs:=cells a (ix xs j)) ha (by rw [hlen]; exact hs) (fun k u hu=>by rw [add_eq]; exact hc k u hu)
 have hr:(execOp (ev σ) ⟨d,.load T x,ty,pos,af,gd⟩).run X.P w=.ok (.value (.agg (cells a (ix xs j)).toArray)) w:=by
  simp only [execOp,Instr.loadAt,hx,Instr.sureAddr,Sem.run_bind,Sem.run_pure,Result.andThen_ok,this]
 rw [hr]
 exact h a w s'
theorem l_ldof [Inhabited α]{A:Type}{cells:A→α→List Value}{ents:A→α→List HP}{K:Kind α}{T:TypeId}{x:Operand}{e g o n c fo:Nat}{xs:List α}{pr:A→α→Value}(i:Nat)(j:Int)(hd:dok X.n d=true)(hw:want ops σ ⟨d,.load T x,ty,pos,af,gd⟩=true)(ha:aggB X.P T=some false)
  (hl:OwnDec K cells ents) (hp:∀ a x,nth (cells a x) fo=some (pr a x)) (hV:lk V i=ow K e (.slice (some ⟨g,o,none⟩) n c) xs) (hx:ev σ x=.pointer (some ⟨g,o+j.toNat*K.sz+fo,none⟩)) (h0:0≤j) (h1:j<n)
  (h:∀ a,TL X ops (ents a (ix xs j)++V) (updo σ d (pr a (ix xs j))) rest Q):TL X ops V σ (⟨d,.load T x,ty,pos,af,gd⟩::rest) Q:=by
 intro w s
 have hn:n=xs.length:=s.len i (by rw [hV]; exact sees_ow)
 obtain ⟨a,hc,hlen,s'⟩:=own_more s i hl hV (ix_get h0 (by omega))
 refine WL_step hd hw ?_
 have:=run_loadVar_one (P:=X.P) (w:=w) (a:=⟨g,o+j.toNat*K.sz+fo,none⟩) ha (hc fo _ (by rw [← nth_eq]; exact hp a _))
 have hr:(execOp (ev σ) ⟨d,.load T x,ty,pos,af,gd⟩).run X.P w=.ok (.value (pr a (ix xs j))) w:=by
  simp only [execOp,Instr.loadAt,hx,Instr.sureAddr,Sem.run_bind,Sem.run_pure,Result.andThen_ok,this]
 rw [hr]
 exact h a w s'
theorem St.seps {C w:World}{p:HP}{A V:List HP}(s:St C w (p::(A++V))):St C w (⟨fun I h=>∃ h1 h2,Join h1 h2 h∧p.p I h1∧star A I h2,fun l ⟨h1,h2,j,a,b⟩=>⟨h1,h2,j,p.mono l a,star_mono l b⟩⟩::V):=by
 obtain ⟨a,I,h,g,j,l,h1,h2,j1,c,s⟩:=s
 obtain ⟨h3,h4,j2,d,e⟩:=star_app.1 s
 obtain ⟨k,k1,k2⟩:=Join.assoc' j2 j1
 exact ⟨a,I,h,g,j,l,k,h4,k2,⟨h1,h3,k1,c,d⟩,e⟩
theorem l_stx [Inhabited α]{K:Kind α}{T e:TypeId}{x y:Operand}{g o n c:Nat}{xs:List α}{vs:List Value}{x':α}(k:Nat)(j:Int)(hd:dok X.n d=true)(hw:want ops σ ⟨d,.store T x y,ty,pos,af,gd⟩=true)(hs:szB X.P T=some K.sz)
  (hx:ev σ x=.pointer (some ⟨g,o+j.toNat*K.sz,none⟩)) (hy:(ev σ y).cells.toList=vs) (h0:0≤j) (h1:j<n) (ho:∀ I h,star (tk k V) I h→K.own I h x' vs)
  (h:TL X ops (ow K e (.slice (some ⟨g,o,none⟩) n c) (xs.set j.toNat x')::dp k V) (updo σ d undef) rest Q):TL X ops (ow K e (.slice (some ⟨g,o,none⟩) n c) xs::V) σ (⟨d,.store T x y,ty,pos,af,gd⟩::rest) Q:=by
 intro w s
 have s2:St X.C w (_::dp k V):=St.seps (A:=tk k V) (V:=dp k V) (by rw [tk_dp]; exact s)
 obtain ⟨_,w',hr,s'⟩:=St.act s2 0 (q:=fun _:Unit=>ow K e (.slice (some ⟨g,o,none⟩) n c) (xs.set j.toNat x')) (Ψ:=fun _ w'=>(execOp (ev σ) ⟨d,.store T x y,ty,pos,af,gd⟩).run X.P w=.ok .skip w') (by
  rintro I hh ⟨h1',hA,jS,p,stA⟩ lI lw dj
  have ox':=ho I hA stA
  have p:owS K e I h1' (.slice (some ⟨g,o,none⟩) n c) xs:=p
  rcases p with ⟨A,hv,rfl,_⟩|⟨g',c',pre,used,spare,fr,hb,hv,h2,h3,h4,h5,jo,ol⟩
  ·injection hv with _ hv _
   omega
  injection hv with e1 e2 e3
  injection e1 with e1
  injection e1 with e1 e4
  subst e1; subst e3; subst e4; subst e2
  obtain ⟨a1,c1,b1,g1,g2,hc,hlen,jn,ox,hput⟩:=ownL_at ol (ix_get h0 h1)
  have hlc:=K.own_len ox
  have hlv:=K.own_len ox'
  have hblk:w.heap[g]?=some (.cells (pre++used++spare).toArray e fr):=lw g _ (jS.left g _ (jo.left g _ (by simp [Hp.one])))
  have hlu:used.length=a1.length+c1.length+b1.length:=by rw [hc]; simp [Nat.add_assoc]
  obtain ⟨w',r,e',ot,sm⟩:=storeCells_blk (P:=X.P) (N:=(pre++used++spare).length) (T:=e) (fr:=fr) (b:=g) (by simpa [Nat.add_assoc] using h5) vs (pre.length+j.toNat*K.sz) 0 (pre++used++spare) w rfl hblk (by simp only [List.length_append]; omega) (K.own_one ox')
  obtain ⟨m,jm⟩:=Join.of_disj (h1:=hA) (h2:=g2) (fun b=>by
   rcases jS.disj b with f | f
   ·exact .inr ((jn.is_none b).1 ((jo.is_none b).1 f).2).2
   ·exact .inl f)
  have hnew:pre++used++spare=(pre++used++spare):=rfl
  have hset:(pre++used++spare).take (pre.length+j.toNat*K.sz+0)++vs++(pre++used++spare).drop (pre.length+j.toNat*K.sz+0+vs.length)=pre++(a1++vs++b1)++spare:=by
   have e1:pre++used++spare=(pre++a1)++(c1++(b1++spare)):=by rw [hc]; simp [List.append_assoc]
   have e2:pre.length+j.toNat*K.sz+0=(pre++a1).length:=by rw [List.length_append]; omega
   rw [e1,e2,List.take_left,List.drop_append,List.drop_of_length_le (by omega),List.nil_append,Nat.add_sub_cancel_left,hlv,← hlc,List.drop_left]
   simp [List.append_assoc]
  obtain ⟨h',jo'⟩:=Join.of_disj (h1:=Hp.one g (.cells (pre++(a1++vs++b1)++spare).toArray e fr)) (h2:=m) (fun b=>by
   by_cases hbg:b=g
   ·subst hbg
    refine .inr ((jm.is_none b).2 ⟨?_,?_⟩)
    ·rcases jS.disj b with f | f
     ·have:=((jo.is_none b).1 f).1
      simp [Hp.one] at this
     ·exact f
    ·rcases jo.disj b with f | f
     ·simp [Hp.one] at f
     ·exact ((jn.is_none b).1 f).2
   ·exact .inl (by simp [Hp.one,hbg]))
  refine ⟨(),w',h',?_,sm _,?_,?_,?_,?_⟩
  ·have hsz:(ev σ y).cells.size=K.sz:=by rw [← hlv,← hy]; simp
   simp only [execOp,Instr.storeAt,hx,Instr.sureAddr,Sem.run_bind,Sem.run_pure,Result.andThen_ok,storeVar,run_sizeOf hs,hy,hsz,ne_eq,not_true_eq_false,if_false,r]
  ·refine .inr ⟨g,_,pre,a1++vs++b1,spare,fr,m,by rw [List.length_set],by rw [List.length_set]; exact h2,h3,by rw [List.length_set]; exact h4,?_,jo',hput I hA x' vs m (Hp.le_refl I) jm ox'⟩
   rcases h5 with h5 | h5
   ·exact .inl h5
   ·refine .inr ?_
    simp only [List.length_append] at *
    omega
  ·intro b o' e1
   rcases jo'.cases e1 with ⟨e1,_⟩|⟨e1,e2⟩
   ·simp only [Hp.one] at e1
    split at e1
    ·rename_i hb'
     subst hb'
     rw [← Option.some.inj e1,e',hset]
    ·cases e1
   ·have hne:b≠g:=by rintro rfl; simp [Hp.one] at e2
    rw [ot b hne]
    rcases jm.cases e1 with ⟨e1,_⟩|⟨e1,_⟩
    ·exact lw b _ (jS.right b _ e1)
    ·exact lw b _ (jS.left b _ (jo.right b _ (jn.right b _ e1)))
  ·intro b hb'
   refine .inl fun hn=>hb' ?_
   have q1:=(jS.is_none b).1 hn
   have q2:=(jo.is_none b).1 q1.1
   refine (jo'.is_none b).2 ⟨?_,(jm.is_none b).2 ⟨q1.2,((jn.is_none b).1 q2.2).2⟩⟩
   have:=q2.1
   simp only [Hp.one] at *
   split at this
   ·cases this
   ·rename_i hne; rw [if_neg hne]
  ·intro b o' hn e1
   have q1:=(jS.is_none b).1 hn
   have q2:=((jo.is_none b).1 q1.1).1
   have hne:b≠g:=by rintro rfl; simp [Hp.one] at q2
   rw [ot b hne]
   exact e1)
 exact WL_step hd hw (by rw [hr]; exact h w' s')
end
end Go.Pg
namespace Go.Pg
structure DecK {α:Type}(K:Kind α) where
 A:Type
 cells:A→α→List Value
 ents:A→α→List HP
 dec:Dec K cells ents
section
variable {α β:Type}
def DecK.scal (enc:α→Value)(h1:∀ x,(enc x).oneCell'=true):DecK (Kind.scal enc h1):=⟨Unit,fun _ x=>[enc x],fun _ _=>[],fun I x cs h=>⟨(),h,rfl⟩⟩
def DecK.sl (e:Nat)(K:Kind α):DecK (Kind.sl e K):=⟨Option Addr×Nat,fun a xs=>[.slice a.1 xs.length a.2],fun a xs=>[rds K (.slice a.1 xs.length a.2) xs],fun I x cs h=>by
 obtain ⟨v,rfl,r⟩:=h
 obtain ⟨a,c,rfl⟩:=rdS_form r
 exact ⟨(a,c),rfl,Hp.none,Hp.none,Join.none _,⟨rfl,r⟩,rfl⟩⟩
def DecK.pair {A:Kind α}{B:Kind β}(a:DecK A)(b:DecK B):DecK (Kind.pair A B):=⟨a.A×b.A,fun p x=>a.cells p.1 x.1++b.cells p.2 x.2,fun p x=>a.ents p.1 x.1++b.ents p.2 x.2,fun I x cs h=>by
 obtain ⟨c1,c2,rfl,h1,h2⟩:=h
 obtain ⟨p,rfl,s1⟩:=a.dec _ _ _ h1
 obtain ⟨q,rfl,s2⟩:=b.dec _ _ _ h2
 exact ⟨(p,q),rfl,star_app.2 ⟨Hp.none,Hp.none,Join.none _,s1,s2⟩⟩⟩
def DecK.iso {K:Kind α}(a:DecK K)(f:β→α):DecK (Kind.iso K f):=⟨a.A,fun p x=>a.cells p (f x),fun p x=>a.ents p (f x),fun I x cs h=>a.dec I (f x) cs h⟩
theorem DecK.own {K:Kind α}(a:DecK K):OwnDec K.share a.cells a.ents:=fun I h x cs o=>a.dec I x cs o.2
theorem DecK.leaf {K:Kind α}(a:DecK K){fo:Nat}{pr:α→Value}(h:∀ p x,nth (a.cells p x) fo=some (pr x)):Leaf K fo pr:=fun I x cs hr=>by
 obtain ⟨p,rfl,_⟩:=a.dec I x cs hr
 exact h p x
structure MkS {α:Type}(K:Kind α) where
 A:Type
 cells:A→α→List Value
 ents:A→α→List HP
 put:∀ I h a x,star (ents a x) I h→h=Hp.none∧K.rd I x (cells a x)
structure MkO {α:Type}(K:Kind α) where
 A:Type
 cells:A→α→List Value
 ents:A→α→List HP
 put:∀ I h a x,star (ents a x) I h→K.own I h x (cells a x)
def MkS.scal (enc:α→Value)(h1:∀ x,(enc x).oneCell'=true):MkS (Kind.scal enc h1):=⟨Unit,fun _ x=>[enc x],fun _ _=>[],fun I h a x s=>⟨s,rfl⟩⟩
def MkS.sl (e:Nat)(K:Kind α):MkS (Kind.sl e K):=⟨Value,fun v _=>[v],fun v xs=>[rds K v xs],fun I h a x s=>by
 obtain ⟨h1,h2,j,⟨rfl,r⟩,e⟩:=s
 have e:h2=Hp.none:=e
 subst e
 exact ⟨j.eq_of_none,a,rfl,r⟩⟩
def MkS.pair {A:Kind α}{B:Kind β}(a:MkS A)(b:MkS B):MkS (Kind.pair A B):=⟨a.A×b.A,fun p x=>a.cells p.1 x.1++b.cells p.2 x.2,fun p x=>a.ents p.1 x.1++b.ents p.2 x.2,fun I h p x s=>by
 obtain ⟨h1,h2,j,s1,s2⟩:=star_app.1 s
 obtain ⟨e1,r1⟩:=a.put _ _ _ _ s1
 obtain ⟨e2,r2⟩:=b.put _ _ _ _ s2
 subst e1; subst e2
 exact ⟨j.eq_of_none,_,_,rfl,r1,r2⟩⟩
def MkS.iso {K:Kind α}(a:MkS K)(f:β→α):MkS (Kind.iso K f):=⟨a.A,fun p x=>a.cells p (f x),fun p x=>a.ents p (f x),fun I h p x s=>a.put I h p (f x) s⟩
def MkO.scal (enc:α→Value)(h1:∀ x,(enc x).oneCell'=true):MkO (Kind.scal enc h1):=⟨Unit,fun _ x=>[enc x],fun _ _=>[],fun I h a x s=>⟨s,rfl⟩⟩
def MkO.sl (e:Nat)(K:Kind α):MkO (Kind.sl e K):=⟨Value,fun v _=>[v],fun v xs=>[ow K e v xs],fun I h a x s=>by
 obtain ⟨h1,h2,j,o,e2⟩:=s
 have e2:h2=Hp.none:=e2
 subst e2
 rw [j.symm.eq_of_none]
 exact ⟨a,rfl,o⟩⟩
def MkO.pair {A:Kind α}{B:Kind β}(a:MkO A)(b:MkO B):MkO (Kind.pair A B):=⟨a.A×b.A,fun p x=>a.cells p.1 x.1++b.cells p.2 x.2,fun p x=>a.ents p.1 x.1++b.ents p.2 x.2,fun I h p x s=>by
 obtain ⟨h1,h2,j,s1,s2⟩:=star_app.1 s
 exact ⟨h1,h2,_,_,j,rfl,a.put _ _ _ _ s1,b.put _ _ _ _ s2⟩⟩
def MkO.iso {K:Kind α}(a:MkO K)(f:β→α):MkO (Kind.iso K f):=⟨a.A,fun p x=>a.cells p (f x),fun p x=>a.ents p (f x),fun I h p x s=>a.put I h p (f x) s⟩
structure SpO {α:Type}(K:Kind α) where
 A:Type
 cells:A→α→List Value
 ents:A→α→List HP
 sp:∀ I h x cs,K.own I h x cs→∃ a,cs=cells a x∧star (ents a x) I h
theorem owS_form {L:Kind β}{e:Nat}{I h:Hp}{v:Value}{ys:List β}(r:owS L e I h v ys):∃ a c,v=.slice a ys.length c:=by
 rcases r with ⟨A,rfl,rfl,_⟩|⟨g,c,pre,used,spare,fr,h1,rfl,_⟩
 ·exact ⟨A,0,rfl⟩
 ·exact ⟨_,c,rfl⟩
def SpO.scal (enc:α→Value)(h1:∀ x,(enc x).oneCell'=true):SpO (Kind.scal enc h1):=⟨Unit,fun _ x=>[enc x],fun _ _=>[],fun I h x cs o=>⟨(),o.2,o.1⟩⟩
def SpO.sl (e:Nat)(K:Kind α):SpO (Kind.sl e K):=⟨Option Addr×Nat,fun a xs=>[.slice a.1 xs.length a.2],fun a xs=>[ow K e (.slice a.1 xs.length a.2) xs],fun I h x cs o=>by
 obtain ⟨v,rfl,r⟩:=o
 obtain ⟨a,c,rfl⟩:=owS_form r
 exact ⟨(a,c),rfl,h,Hp.none,Join.none' _,r,rfl⟩⟩
def SpO.pair {A:Kind α}{B:Kind β}(a:SpO A)(b:SpO B):SpO (Kind.pair A B):=⟨a.A×b.A,fun p x=>a.cells p.1 x.1++b.cells p.2 x.2,fun p x=>a.ents p.1 x.1++b.ents p.2 x.2,fun I h x cs o=>by
 obtain ⟨h1,h2,c1,c2,j,rfl,o1,o2⟩:=o
 obtain ⟨p,rfl,s1⟩:=a.sp _ _ _ _ o1
 obtain ⟨q,rfl,s2⟩:=b.sp _ _ _ _ o2
 exact ⟨(p,q),rfl,star_app.2 ⟨h1,h2,j,s1,s2⟩⟩⟩
def SpO.iso {K:Kind α}(a:SpO K)(f:β→α):SpO (Kind.iso K f):=⟨a.A,fun p x=>a.cells p (f x),fun p x=>a.ents p (f x),fun I h x cs o=>a.sp I h (f x) cs o⟩
structure Zr {α:Type}(K:Kind α) where
 z:α
 cs:List Value
 len:cs.length=K.sz
 own:∀ I,K.own I Hp.none z cs
def Zr.scal (enc:α→Value)(h1:∀ x,(enc x).oneCell'=true)(z:α):Zr (Kind.scal enc h1):=⟨z,[enc z],rfl,fun I=>⟨rfl,rfl⟩⟩
def Zr.sl (e:Nat)(K:Kind α):Zr (Kind.sl e K):=⟨[],[.slice none 0 0],rfl,fun I=>⟨_,rfl,.inl ⟨none,rfl,rfl,rfl⟩⟩⟩
def Zr.pair {A:Kind α}{B:Kind β}(a:Zr A)(b:Zr B):Zr (Kind.pair A B):=⟨(a.z,b.z),a.cs++b.cs,by rw [List.length_append,a.len,b.len]; rfl,fun I=>⟨Hp.none,Hp.none,_,_,Join.none _,rfl,a.own I,b.own I⟩⟩
def Zr.iso {K:Kind α}(a:Zr K)(f:β→α)(z:β)(h:f z=a.z):Zr (Kind.iso K f):=⟨z,a.cs,a.len,fun I=>by show K.own I Hp.none (f z) a.cs; rw [h]; exact a.own I⟩
def Zr.share {K:Kind α}(a:Zr K):Zr K.share:=⟨a.z,a.cs,a.len,fun I=>⟨rfl,K.own_rd (Hp.le_refl I) (Hp.none_le I) (a.own I)⟩⟩
theorem Zr.zk {P:Program}{K:Kind α}{e:TypeId}(a:Zr K)(h:zcB P e=some a.cs):ZeroK P K e a.z:=⟨a.cs,h,a.len,a.own⟩
theorem ownL_share {K:Kind α}{I J:Hp}(l:Hp.le I J):∀ (xs:List α) (h:Hp) (cs:List Value),Hp.le h J→ownL K I h xs cs→ownL K.share J Hp.none xs cs:=by
 intro xs
 induction xs with
 | nil=>intro h cs _ o; exact ⟨rfl,o.2⟩
 | cons x xs ih =>
  rintro h cs lh ⟨h1,h2,c1,c2,j,e,a,b⟩
  exact ⟨Hp.none,Hp.none,c1,c2,Join.none _,e,⟨rfl,K.own_rd l (Hp.le_trans j.left lh) a⟩,ih h2 c2 (Hp.le_trans j.right lh) b⟩
theorem St.wk {C w:World}{V:List HP}{K:Kind α}{e:Nat}{v:Value}{xs:List α}(s:St C w V)(i:Nat)(hV:lk V i=ow K e v xs):St C w (ow K.share e v xs::Pg.rm V i):=by
 obtain ⟨a,I,h,g,j,l,s⟩:=s.mv i
 obtain ⟨h1,h2,j',p,s'⟩:=s
 rw [hV] at p
 have p:owS K e I h1 v xs:=p
 rcases p with ⟨A,rfl,rfl,rfl⟩|⟨b,c,pre,used,spare,fr,hb,rfl,q2,q3,q4,q5,jo,ol⟩
 ·exact ⟨a,I,h,g,j,l,Hp.none,h2,j',.inl ⟨A,rfl,rfl,rfl⟩,s'⟩
 ·obtain ⟨k,k1,k2⟩:=Join.assoc' j' j
  obtain ⟨J,jJ⟩:=Join.of_disj (h1:=I) (h2:=hb) (fun x=>by
   rcases k1.disj x with f | f
   ·exact .inl f
   ·exact .inr ((jo.is_none x).1 f).2)
  obtain ⟨hh,jh⟩:=Join.of_disj (h1:=Hp.one b (.cells (pre++used++spare).toArray e fr)) (h2:=h2) (fun x=>by
   rcases j'.disj x with f | f
   ·exact .inl ((jo.is_none x).1 f).1
   ·exact .inr f)
  obtain ⟨G,jG⟩:=Join.of_disj (h1:=J) (h2:=hh) (fun x=>by
   by_cases hx:J x=Option.none
   ·exact .inl hx
   ·refine .inr ((jh.is_none x).2 ?_)
    cases hI:I x with
    | some o =>
     have:h x=Option.none:=by
      rcases j.disj x with f | f
      ·rw [hI] at f; cases f
      ·exact f
     have:=(j'.is_none x).1 this
     exact ⟨((jo.is_none x).1 this.1).1,this.2⟩
    | none =>
     have hb':hb x≠Option.none:=fun hn=>hx ((jJ.is_none x).2 ⟨hI,hn⟩)
     refine ⟨?_,?_⟩
     ·rcases jo.disj x with f | f
      ·exact f
      ·exact absurd f hb'
     ·rcases j'.disj x with f | f
      ·exact absurd ((jo.is_none x).1 f).2 hb'
      ·exact f)
  refine ⟨a,J,hh,G,jG,?_,_,h2,jh,.inr ⟨b,c,pre,used,spare,fr,Hp.none,rfl,q2,q3,q4,q5,Join.none' _,ownL_share jJ.left xs hb used jJ.right ol⟩,star_mono jJ.left s'⟩
  intro x o e1
  rcases jG.cases e1 with ⟨e1,_⟩|⟨e1,_⟩
  ·rcases jJ.cases e1 with ⟨e1,_⟩|⟨e1,_⟩
   ·exact l x o (j.left x o e1)
   ·exact l x o (j.right x o (j'.left x o (jo.right x o e1)))
  ·rcases jh.cases e1 with ⟨e1,_⟩|⟨e1,_⟩
   ·exact l x o (j.right x o (j'.left x o (jo.left x o e1)))
   ·exact l x o (j.right x o (j'.right x o e1))
end
section
variable {X:Cx}{V:List HP}{σ:Env}{Q:Exit→Env→World→Prop}{ops:Array Oper}{rest:List Oper}
variable {d:Option Nat}{ty:TypeId}{pos:String}{af:Array Edge}{gd:Option (Nat×Bool)}
theorem v_loadw {T:TypeId}{x:Operand}{b k n:Nat}{cs ds:List Value}{T0:Nat}(i:Nat)(ha:aggB X.P T=some true)(hs:szB X.P T=some n)
  (hV:lk V i=bxl b cs T0) (hx:ev σ x=.pointer (some ⟨b,k,none⟩)) (hd:(cs.drop k).take n=ds) (hn:ds.length=n):VO X V σ ⟨d,.load T x,ty,pos,af,gd⟩ (.agg ds.toArray):=by
 subst hd
 exact v_loads i ha hs hV hx hn
end
section
variable {α:Type}
theorem MkO.list {K:Kind α}(M:MkO K):∀ (ps:List (M.A×α)) (I h:Hp),star (ps.flatMap fun p=>M.ents p.1 p.2) I h→ownL K I h (ps.map (·.2)) (ps.flatMap fun p=>M.cells p.1 p.2):=by
 intro ps
 induction ps with
 | nil=>intro I h s; exact ⟨s,rfl⟩
 | cons p ps ih =>
  intro I h s
  rw [List.flatMap_cons] at s
  obtain ⟨h1,h2,j,a,b⟩:=star_app.1 s
  exact ⟨h1,h2,_,_,j,by rw [List.flatMap_cons],M.put _ _ _ _ a,ih I h2 b⟩
theorem MkS.list {K:Kind α}(M:MkS K):∀ (ps:List (M.A×α)) (I h:Hp),star (ps.flatMap fun p=>M.ents p.1 p.2) I h→ownL K.share I h (ps.map (·.2)) (ps.flatMap fun p=>M.cells p.1 p.2):=by
 intro ps
 induction ps with
 | nil=>intro I h s; exact ⟨s,rfl⟩
 | cons p ps ih =>
  intro I h s
  rw [List.flatMap_cons] at s
  obtain ⟨h1,h2,j,a,b⟩:=star_app.1 s
  exact ⟨h1,h2,_,_,j,by rw [List.flatMap_cons],M.put _ _ _ _ a,ih I h2 b⟩
theorem DecK.flat {K:Kind α}(a:DecK K){cs':α→List Value}(h:∀ p x,a.cells p x=cs' x):∀ I x cs,K.rd I x cs→cs=cs' x:=fun I x cs r=>by
 obtain ⟨p,rfl,_⟩:=a.dec I x cs r
 exact h p x
end
theorem and_tt {a b:Bool}(ha:a=true)(hb:b=true):(a&&b)=true:=by rw [ha,hb]; rfl
theorem not_ff {a:Bool}(ha:a=false):(!a)=true:=by rw [ha]; rfl
theorem vb {a b:Bool}(h:a=b):Value.bool a=Value.bool b:=by rw [h]
def gcall {α:Type}[Inhabited α](c:Bool)(x:Option α):Option α:=cond c x (some default)
theorem gcall_t {α:Type}[Inhabited α]{c:Bool}{x:Option α}{r:α}(h:gcall c x=some r)(hc:c=true):x=some r:=by
 rw [hc] at h
 exact h
section
variable {X:Cx}{V:List HP}{σ:Env}{Q:Exit→Env→World→Prop}{ops:Array Oper}{rest:List Oper}
variable {d:Option Nat}{ty:TypeId}{pos:String}{af:Array Edge}{gd:Option (Nat×Bool)}
theorem v_fa {S:TypeId}{x:Operand}{f fo b k k2:Nat}(hf:fieldB X.P S f=some fo)(hx:ev σ x=.pointer (some ⟨b,k,none⟩))(he:k+fo=k2):VO X V σ ⟨d,.fieldAddr S x f,ty,pos,af,gd⟩ (.pointer (some ⟨b,k2,none⟩)):=by
 have h:=v_faddr (X:=X) (V:=V) (d:=d) (ty:=ty) (pos:=pos) (af:=af) (gd:=gd) hf hx
 rw [add_eq,he] at h
 exact h
theorem c_cutq {A:Type}{x:Code}(pf:A→Prop)(sl:A→List (Nat×Value))(Vf:A→List HP)(hx:TC X V σ x (Then (Jn X pf sl Vf) Q))(hy:∀ a σ',pf a→TQ X (Vf a) (updl σ' (sl a)) .normal Q):TC X V σ x Q:=by
 intro w s
 refine W.mono (hx w s) ?_
 intro e σ' w' q
 cases e with
 | normal =>
  obtain ⟨a,h0,h1,h2⟩:=q
  have:=hy a σ' h0 w' h2
  rw [allS_updl h1] at this
  exact this
 | _=>exact q
theorem v_clf {T:TypeId}{x:Operand}{g k fo:Nat}{v:Value}{cs:List Value}(i:Nat)(ha:aggB X.P T=some false)(hV:lk V i=cl g k cs)(hx:ev σ x=.pointer (some ⟨g,k+fo,none⟩))(hc:nth cs fo=some v):VO X V σ ⟨d,.load T x,ty,pos,af,gd⟩ v:=by
 intro w s
 have:=look_cl s i hV fo v (by rw [← nth_eq]; exact hc)
 simp only [execOp,Instr.loadAt,hx,Instr.sureAddr,Sem.run_bind,Sem.run_pure,Result.andThen_ok,run_loadVar_one ha this]
theorem v_clfs {T:TypeId}{x:Operand}{g k fo n:Nat}{cs ds:List Value}(i:Nat)(ha:aggB X.P T=some true)(hs:szB X.P T=some n)(hV:lk V i=cl g k cs)(hx:ev σ x=.pointer (some ⟨g,k+fo,none⟩))(hd:(cs.drop fo).take n=ds)(hn:ds.length=n) :
  VO X V σ ⟨d,.load T x,ty,pos,af,gd⟩ (.agg ds.toArray):=by
 intro w s
 have:=look_cl s i hV
 have h2:=run_loadVar_agg (P:=X.P) (w:=w) (a:=⟨g,k+fo,none⟩) (cs:=ds) ha (by rw [hn]; exact hs) (fun j u hu=>by
  rw [add_eq,Nat.add_assoc]
  refine this _ _ ?_
  rw [← hd,List.getElem?_take] at hu
  split at hu
  ·rwa [List.getElem?_drop] at hu
  ·cases hu)
 simp only [execOp,Instr.loadAt,hx,Instr.sureAddr,Sem.run_bind,Sem.run_pure,Result.andThen_ok,h2]
end
section
variable {α:Type}{P:Program}{f:FuncId}{args:List Value}
def Lends:List HP→List HP→Prop
 | [],[]=>True
 | p::A',q::A=>(∀ I J h,Hp.le I J→Hp.le h J→p.p I h→q.p J Hp.none)∧Lends A' A
 | _,_=>False
theorem lend_ow {K:Kind α}{e:Nat}{v:Value}{xs:List α}:∀ I J h,Hp.le I J→Hp.le h J→(ow K e v xs).p I h→(rds K v xs).p J Hp.none:=fun I J h l m p=>⟨rfl,owS_rdS l m p⟩
theorem lend_sh {K:Kind α}{e:Nat}{v:Value}{xs:List α}:∀ I J h,Hp.le I J→Hp.le h J→(ow K.share e v xs).p I h→(rds K v xs).p J Hp.none:=fun I J h l m p=>⟨rfl,owS_rdS (K:=K.share) l m p⟩
theorem sees_sh {K:Kind α}{e:Nat}{v:Value}{xs:List α}:Sees (ow K.share e v xs) K v xs:=sees_ow (K:=K.share)
theorem St.shs {C w:World}{V:List HP}{K:Kind α}{e:Nat}{v:Value}{xs:List α}(s:St C w V)(i:Nat)(hV:lk V i=ow K.share e v xs):St C w (rds K v xs::Pg.rm V i):=St.shr (K:=K.share) s i hV
theorem lends_star:∀ (A' A:List HP),Lends A' A→∀ I J h,Hp.le I J→Hp.le h J→star A' I h→star A J Hp.none:=by
 intro A'
 induction A' with
 | nil =>
  intro A hl I J h _ _ s
  cases A with
  | nil=>rfl
  | cons q A=>exact hl.elim
 | cons p A' ih =>
  intro A hl I J h lI lh s
  cases A with
  | nil=>exact hl.elim
  | cons q A =>
   obtain ⟨h1,h2,j,a,b⟩:=s
   exact ⟨Hp.none,Hp.none,Join.none _,hl.1 I J h1 lI (Hp.le_trans j.left lh) a,ih A hl.2 I J h2 lI (Hp.le_trans j.right lh) b⟩
theorem FnOk.lends {T:Type}{A' A B:List HP}{post:T→Value×List HP}(hc:FnOk P f args (A++B) post)(hl:Lends A' A)(hp:∀ x,AllC (post x).2):FnOk P f args (A'++B) (fun x=>((post x).1,A'++(post x).2)):=by
 rintro C w V ⟨sm,I,hh,g,j,lw,s0⟩
 rw [List.append_assoc] at s0
 obtain ⟨h1,h2,j',p,s⟩:=star_app.1 s0
 obtain ⟨s1,s2,j2,sP,sV⟩:=star_app.1 s
 obtain ⟨k,k1,k2⟩:=Join.assoc' j' j
 have st:St C w (A++B++(has I::has h1::V.map (at_ I))):=by
  refine ⟨sm,k,h2,g,k2,lw,?_⟩
  rw [List.append_assoc]
  exact star_app.2 ⟨Hp.none,h2,Join.none h2,lends_star A' A hl I k h1 k1.left k1.right p,star_app.2 ⟨s1,s2,j2,star_mono k1.left sP,Hp.none,s2,Join.none s2,⟨rfl,k1.left⟩,Hp.none,s2,Join.none s2,⟨rfl,k1.right⟩,star_at k1.left sV⟩⟩
 refine Calls.mono' (hc C w _ st) ?_
 rintro e' w' ⟨x,rfl,sm',I',hh',g',jg,lw',st'⟩
 refine ⟨x,rfl,sm',?_⟩
 obtain ⟨q1,q2,jq,sR,b1,b2,jb,⟨rfl,lI⟩,c1,c2,jc,⟨rfl,lh⟩,sV'⟩:=star_app.1 st'
 have e1:=jb.eq_of_none
 have e2:=jc.eq_of_none
 subst e2; subst e1
 have dj:∀ b,h1 b=Option.none∨hh' b=Option.none:=fun b=>by
  cases hb:h1 b with
  | none=>exact .inl rfl
  | some o =>
   refine .inr ?_
   rcases jg.disj b with f | f
   ·rw [lh b o hb] at f; cases f
   ·exact f
 obtain ⟨m,jm⟩:=Join.of_disj dj
 obtain ⟨g2,jg2⟩:=Join.of_disj (h1:=I) (h2:=m) (fun b=>by
  cases hb:I b with
  | none=>exact .inl rfl
  | some o =>
   refine .inr ((jm.is_none b).2 ⟨?_,?_⟩)
   ·rcases k1.disj b with f | f
    ·rw [hb] at f; cases f
    ·exact f
   ·rcases jg.disj b with f | f
    ·rw [lI b o hb] at f; cases f
    ·exact f)
 refine ⟨I,m,g2,jg2,?_,?_⟩
 ·intro b o eb
  rcases jg2.cases eb with ⟨eb,_⟩|⟨eb,_⟩
  ·exact lw' b o (jg.left b o (lI b o eb))
  ·rcases jm.cases eb with ⟨eb,_⟩|⟨eb,_⟩
   ·exact lw' b o (jg.left b o (lh b o eb))
   ·exact lw' b o (jg.right b o eb)
 ·rw [List.append_assoc]
  exact star_app.2 ⟨h1,hh',jm,p,star_app.2 ⟨q1,q2,jq,star_closed (allC (hp x)) sR,at_star sV'⟩⟩
end
end Go.Pg
namespace Go.Pg
def shiftN (i j:Nat):Nat:=cond (Nat.blt i j) (j - 1) j
def selB:Nat→List Nat→Bool
 | _,[]=>true
 | n,i::is=>Nat.blt i n&&is.all (fun j=>!Nat.beq i j)&&selB n is
theorem lk_rm:∀ (A:List HP) (i j:Nat),i≠j→lk (rm A i) (shiftN i j)=lk A j:=by
 intro A
 induction A with
 | nil=>intro i j _; cases i<;>rfl
 | cons p A ih =>
  intro i j hne
  cases i with
  | zero =>
   cases j with
   | zero=>exact absurd rfl hne
   | succ j=>rfl
  | succ i =>
   cases j with
   | zero =>
    have:shiftN (i+1) 0=0:=by simp [shiftN,Nat.blt]
    rw [this]; rfl
   | succ j =>
    have hs:shiftN (i+1) (j+1)=shiftN i j+1:=by
     have hb:Nat.blt (i+1) (j+1)=Nat.blt i j:=by
      cases h:Nat.blt i j with
      | true=>have:=Nat.le_of_ble_eq_true h; exact Nat.ble_eq_true_of_le (by omega)
      | false =>
       cases h2:Nat.blt (i+1) (j+1) with
       | false=>rfl
       | true =>
        have:=Nat.le_of_ble_eq_true h2
        have h3:Nat.blt i j=true:=Nat.ble_eq_true_of_le (by omega)
        rw [h3] at h; cases h
     unfold shiftN
     rw [hb]
     cases h:Nat.blt i j with
     | true=>have:=Nat.le_of_ble_eq_true h; show j+1 - 1=j - 1+1; omega
     | false=>rfl
    rw [hs]
    exact ih i j (fun e=>hne (by rw [e]))
theorem star_sel {I:Hp}:∀ (n:Nat) (is:List Nat) (A:List HP) (h:Hp),is.length≤n→(∀ i∈is,i<A.length)→is.Nodup→star A I h→∃ h',Hp.le h' h∧star (is.map (lk A)) I h':=by
 intro n
 induction n with
 | zero =>
  intro is A h hn _ _ _
  have:is=[]:=List.eq_nil_of_length_eq_zero (by omega)
  subst this
  exact ⟨Hp.none,Hp.none_le _,rfl⟩
 | succ n ih =>
  intro is A h hn hlt hnd s
  cases is with
  | nil=>exact ⟨Hp.none,Hp.none_le _,rfl⟩
  | cons i is =>
   obtain ⟨h1,h2,j,a,b⟩:=star_take i s
   have hnd':=List.nodup_cons.1 hnd
   have hi:=hlt i (by simp)
   have hlen:(rm A i).length+1=A.length:=by
    clear ih hn hlt hnd hnd' s j a b h1 h2
    induction A generalizing i with
    | nil=>cases hi
    | cons p A ihA =>
     cases i with
     | zero=>rfl
     | succ i=>exact congrArg (·+1) (ihA i (by simpa using hi))
   have hsh:∀ x∈is,x≠i:=fun x hx e=>hnd'.1 (e▸hx)
   obtain ⟨h',l,s'⟩:=ih (is.map (shiftN i)) (rm A i) h2 (by simp at hn ⊢; omega) (by
    intro x hx
    obtain ⟨y,hy,rfl⟩:=List.mem_map.1 hx
    have h3:=hlt y (by simp [hy])
    have h4:=hsh y hy
    unfold shiftN
    cases hb:Nat.blt i y with
    | true=>have:=Nat.le_of_ble_eq_true hb; show y - 1<_; omega
    | false =>
     have:¬ i<y:=fun h5=>by
      have h6:Nat.blt i y=true:=Nat.ble_eq_true_of_le h5
      rw [h6] at hb; cases hb
     show y<_
     omega) (by
    unfold List.Nodup
    rw [List.pairwise_map]
    refine List.Pairwise.imp_of_mem (fun {x y} hx hy hne=>?_) hnd'.2
    have h3:=hsh x hx
    have h4:=hsh y hy
    intro e
    unfold shiftN at e
    cases hb:Nat.blt i x<;>cases hc:Nat.blt i y<;>rw [hb,hc] at e
    ·exact hne e
    ·have:=Nat.le_of_ble_eq_true hc
     have hx':¬ i<x:=fun h5=>by
      have h6:Nat.blt i x=true:=Nat.ble_eq_true_of_le h5
      rw [h6] at hb; cases hb
     have e:x=y - 1:=e
     omega
    ·have:=Nat.le_of_ble_eq_true hb
     have hx':¬ i<y:=fun h5=>by
      have h6:Nat.blt i y=true:=Nat.ble_eq_true_of_le h5
      rw [h6] at hc; cases hc
     have e:x - 1=y:=e
     omega
    ·have:=Nat.le_of_ble_eq_true hb
     have:=Nat.le_of_ble_eq_true hc
     have e:x - 1=y - 1:=e
     omega) b
   have he:(is.map (shiftN i)).map (lk (rm A i))=is.map (lk A):=by
    rw [List.map_map]
    refine List.map_congr_left fun x hx=>?_
    exact lk_rm A i x (fun e=>hsh x hx e.symm)
   rw [he] at s'
   obtain ⟨g,jg⟩:=Join.of_disj (h1:=h1) (h2:=h') (fun b=>by
    rcases j.disj b with f | f
    ·exact .inl f
    ·refine .inr ?_
     cases hq:h' b with
     | none=>rfl
     | some o=>rw [l b o hq] at f; cases f)
   refine ⟨g,fun b o e=>?_,h1,h',jg,a,s'⟩
   rcases jg.cases e with ⟨e,_⟩|⟨e,_⟩
   ·exact j.left b o e
   ·exact j.right b o (l b o e)
theorem selB_spec:∀ (n:Nat) (is:List Nat),selB n is=true→(∀ i∈is,i<n)∧is.Nodup:=by
 intro n is
 induction is with
 | nil=>intro _; exact ⟨fun _ h=>(by cases h),List.nodup_nil⟩
 | cons i is ih =>
  intro h
  simp only [selB,Bool.and_eq_true,List.all_eq_true,Bool.not_eq_true'] at h
  obtain ⟨⟨h1,h2⟩,h3⟩:=h
  obtain ⟨g1,g2⟩:=ih h3
  refine ⟨fun x hx=>?_,List.nodup_cons.2 ⟨fun hm=>?_,g2⟩⟩
  ·rcases List.mem_cons.1 hx with rfl | hx
   ·exact Nat.lt_of_lt_of_le (Nat.lt_succ_self _) (Nat.le_of_ble_eq_true h1)
   ·exact g1 x hx
  ·have:=h2 i hm
   rw [show Nat.beq i i=true from Nat.beq_refl i] at this
   cases this
theorem tk_len:∀ (n:Nat) (V:List HP),n≤V.length→(tk n V).length=n:=by
 intro n
 induction n with
 | zero=>intro V _; rfl
 | succ n ih =>
  intro V h
  cases V with
  | nil=>simp at h
  | cons p V=>exact congrArg (·+1) (ih V (by simpa using h))
theorem lk_tk:∀ (n:Nat) (V:List HP) (i:Nat),i<n→lk (tk n V) i=lk V i:=by
 intro n
 induction n with
 | zero=>intro V i h; cases h
 | succ n ih =>
  intro V i h
  cases V with
  | nil=>rfl
  | cons p V =>
   cases i with
   | zero=>rfl
   | succ i=>exact ih V i (by omega)
def geB:Nat→List HP→Bool
 | 0,_=>true
 | _+1,[]=>false
 | n+1,_::V=>geB n V
theorem geB_spec:∀ (n:Nat) (V:List HP),geB n V=true→n≤V.length:=by
 intro n
 induction n with
 | zero=>intro V _; exact Nat.zero_le _
 | succ n ih =>
  intro V h
  cases V with
  | nil=>cases h
  | cons p V=>exact Nat.succ_le_succ (ih V h)
theorem St.sel {C w:World}{V:List HP}(s:St C w V)(n:Nat)(is:List Nat)(h:selB n is=true)(hn:geB n V=true):St C w (is.map (lk V)++dp n V):=by
 obtain ⟨h1,h2⟩:=selB_spec n is h
 have hn:=geB_spec n V hn
 rw [← tk_dp n V] at s
 obtain ⟨a,I,hh,g,j,l,s⟩:=s
 obtain ⟨g1,g2,j',sA,sB⟩:=star_app.1 s
 obtain ⟨g1',l1,sS⟩:=star_sel is.length is (tk n V) g1 (Nat.le_refl _) (fun i hi=>by rw [tk_len n V hn]; exact h1 i hi) h2 sA
 have he:is.map (lk (tk n V))=is.map (lk V):=List.map_congr_left fun i hi=>lk_tk n V i (h1 i hi)
 rw [he] at sS
 obtain ⟨m,jm⟩:=Join.of_disj (h1:=g1') (h2:=g2) (fun b=>by
  rcases j'.disj b with f | f
  ·refine .inl ?_
   cases hq:g1' b with
   | none=>rfl
   | some o=>rw [l1 b o hq] at f; cases f
  ·exact .inr f)
 have lm:Hp.le m hh:=fun b o e=>by
  rcases jm.cases e with ⟨e,_⟩|⟨e,_⟩
  ·exact j'.left b o (l1 b o e)
  ·exact j'.right b o e
 obtain ⟨G,jG⟩:=Join.of_disj (h1:=I) (h2:=m) (fun b=>by
  rcases j.disj b with f | f
  ·exact .inl f
  ·refine .inr ?_
   cases hq:m b with
   | none=>rfl
   | some o=>rw [lm b o hq] at f; cases f)
 refine ⟨a,I,m,G,jG,fun b o e=>?_,star_app.2 ⟨g1',g2,jm,sS,sB⟩⟩
 rcases jG.cases e with ⟨e,_⟩|⟨e,_⟩
 ·exact l b o (j.left b o e)
 ·exact l b o (j.right b o (lm b o e))
section
variable {X:Cx}{V:List HP}{σ:Env}{Q:Exit→Env→World→Prop}{cd:Code}{α:Type}
theorem c_nilx {K:Kind α}{a:Option Addr}{n c:Nat}{xs:List α}(i:Nat)(hV:Sees (lk V i) K (.slice a n c) xs)(ha:a.isNone=true)(h:xs=[]→TC X V σ cd Q):TC X V σ cd Q:=by
 intro w s
 obtain ⟨J,lw,A,c',hv,h2,h3,h4⟩:=s.reads hV
 refine h ?_ w s
 cases xs with
 | nil=>rfl
 | cons x xs =>
  obtain ⟨g,o,hA,_⟩:=h4 (by simp)
  injection hv with e1 _ _
  rw [e1,hA] at ha
  cases ha
end
end Go.Pg
namespace Go.Pg
theorem SetL.flat {α:Type}{K:Kind α}(S:SpO K)(M:MkO K)(A:M.A){fo:Nat}{v:Value}{f:α→α}(h1:Nat.blt fo K.sz=true)(h2:∀ a x,S.ents a x=[])(h3:∀ x,M.ents A (f x)=[])(h4:∀ a x,(S.cells a x).set fo v=M.cells A (f x)):SetL K fo v f:=by
 refine ⟨Nat.lt_of_lt_of_le (Nat.lt_succ_self _) (Nat.le_of_ble_eq_true h1),fun I h x cs o=>?_⟩
 obtain ⟨a,rfl,s⟩:=S.sp I h x cs o
 rw [h2] at s
 have s:h=Hp.none:=s
 subst s
 rw [h4]
 exact M.put I Hp.none A (f x) (by rw [h3]; rfl)
theorem SetL.deep {α:Type}{K:Kind α}(S:SpO K)(M:MkO K)(c:S.A→α→M.A){fo:Nat}{v:Value}{f:α→α}(h1:Nat.blt fo K.sz=true)(h2:∀ a x,S.ents a x=M.ents (c a x) (f x))(h4:∀ a x,(S.cells a x).set fo v=M.cells (c a x) (f x)):SetL K fo v f:=by
 refine ⟨Nat.lt_of_lt_of_le (Nat.lt_succ_self _) (Nat.le_of_ble_eq_true h1),fun I h x cs o=>?_⟩
 obtain ⟨a,rfl,s⟩:=S.sp I h x cs o
 rw [h4]
 exact M.put I h (c a x) (f x) (by rw [← h2]; exact s)
end Go.Pg
namespace Go.Pg
section
variable {α:Type}
def hol (K:Kind α)(e:Nat)(v:Value)(xs:List α)(j:Nat)(cs:List Value):HP where
 p I h:=∃ g c pre aU bU spare fr h1,v=.slice (some ⟨g,pre.length,none⟩) xs.length c∧xs.length≤c∧c≤maxLen∧spare.length=(c - xs.length)*K.sz ∧
  (fr=(0,0)∨pre.length+(aU++cs++bU).length+spare.length≤fr.1)∧aU.length=j*K.sz∧Join (Hp.one g (.cells (pre++(aU++cs++bU)++spare).toArray e fr)) h1 h ∧
  ∀ I' h' x' cs' g',Hp.le I I'→Join h' h1 g'→K.own I' h' x' cs'→ownL K I' g' (xs.set j x') (aU++cs'++bU)
 mono:=by
  rintro I J h l ⟨g,c,pre,aU,bU,spare,fr,h1,p1,p2,p3,p4,p5,p6,p7,p8⟩
  exact ⟨g,c,pre,aU,bU,spare,fr,h1,p1,p2,p3,p4,p5,p6,p7,fun I' h' x' cs' g' l'=>p8 I' h' x' cs' g' (Hp.le_trans l l')⟩
theorem St.focus [Inhabited α]{K:Kind α}{C w:World}{V:List HP}{e g o n c:Nat}{xs:List α}(S:SpO K)(s:St C w V)(i:Nat)(j:Int)(hV:lk V i=ow K e (.slice (some ⟨g,o,none⟩) n c) xs)(h0:0≤j)(h1:j<n) :
  ∃ a,St C w (hol K e (.slice (some ⟨g,o,none⟩) n c) xs j.toNat (S.cells a (ix xs j))::(S.ents a (ix xs j)++Pg.rm V i)):=by
 obtain ⟨sm,I,hh,gg,jg,l,h1',h2,jS,p,st⟩:=s.mv i
 rw [hV] at p
 have p:owS K e I h1' (.slice (some ⟨g,o,none⟩) n c) xs:=p
 rcases p with ⟨A,hv,rfl,_⟩|⟨g',c',pre,used,spare,fr,hb,hv,q2,q3,q4,q5,jo,ol⟩
 ·injection hv with _ hv _
  omega
 injection hv with e1 e2 e3
 injection e1 with e1
 injection e1 with e1 e4
 subst e1; subst e3; subst e4; subst e2
 obtain ⟨a1,c1,b1,g1,g2,hc,hlen,jn,ox,hput⟩:=ownL_at ol (ix_get h0 h1)
 obtain ⟨a,rfl,hst⟩:=S.sp _ _ _ _ ox
 obtain ⟨m,m1,m2⟩:=Join.assoc' jn.symm jo
 obtain ⟨k,k1,k2⟩:=Join.assoc m2 jS
 exact ⟨a,sm,I,hh,gg,jg,l,m,k,k2,⟨g,_,pre,a1,b1,spare,fr,g2,rfl,q2,q3,q4,by rw [← hc]; exact q5,hlen,by rw [← hc]; exact m1,fun I' h' x' cs' g' l' jj oo=>hput I' h' x' cs' g' l' jj oo⟩,star_app.2 ⟨g1,h2,k1,hst,st⟩⟩
theorem St.unfocus {K:Kind α}{C w:World}{E V:List HP}{e j:Nat}{v:Value}{xs:List α}{cs:List Value}(x':α)(s:St C w (hol K e v xs j cs::(E++V)))(f:∀ I h,star E I h→K.own I h x' cs):St C w (ow K e v (xs.set j x')::V):=by
 obtain ⟨sm,I,hh,gg,jg,l,h1,h2,jS,⟨g,c,pre,aU,bU,spare,fr,hb,rfl,q2,q3,q4,q5,q6,jo,hput⟩,st⟩:=s
 obtain ⟨hE,hV,jE,sE,sV⟩:=star_app.1 st
 obtain ⟨k,k1,k2⟩:=Join.assoc' jE jS
 obtain ⟨m,m1,m2⟩:=Join.assoc jo k1
 refine ⟨sm,I,hh,gg,jg,l,k,hV,k2,.inr ⟨g,c,pre,aU++cs++bU,spare,fr,m,by rw [List.length_set],by rw [List.length_set]; exact q2,q3,by rw [List.length_set]; exact q4,q5,m2,hput I hE x' cs m (Hp.le_refl I) m1.symm (f I hE sE)⟩,sV⟩
end
section
variable {X:Cx}{V:List HP}{σ:Env}{Q:Exit→Env→World→Prop}{ops:Array Oper}{rest:List Oper}{cd:Code}
variable {d:Option Nat}{ty:TypeId}{pos:String}{af:Array Edge}{gd:Option (Nat×Bool)}{α:Type}
theorem t_focus [Inhabited α]{K:Kind α}{e g o n c:Nat}{xs:List α}(S:SpO K)(i:Nat)(j:Int)(hV:lk V i=ow K e (.slice (some ⟨g,o,none⟩) n c) xs)(h0:0≤j)(h1:j<n)
  (h:∀ a,TL X ops (hol K e (.slice (some ⟨g,o,none⟩) n c) xs j.toNat (S.cells a (ix xs j))::(S.ents a (ix xs j)++Pg.rm V i)) σ rest Q):TL X ops V σ rest Q:=by
 intro w s
 obtain ⟨a,s'⟩:=s.focus S i j hV h0 h1
 exact h a w s'
theorem look_hol {K:Kind α}{C w:World}{e g o n c j:Nat}{xs:List α}{cs:List Value}(s:St C w V)(i:Nat)(hV:lk V i=hol K e (.slice (some ⟨g,o,none⟩) n c) xs j cs):∀ k u,cs[k]?=some u→w.cell? ⟨g,o+j*K.sz+k,none⟩=some u:=by
 obtain ⟨I,hh,p,lI,lh,_⟩:=s.look i
 rw [hV] at p
 obtain ⟨g',c',pre,aU,bU,spare,fr,hb,hv,q2,q3,q4,q5,q6,jo,_⟩:=p
 injection hv with e1 e2 e3
 injection e1 with e1
 injection e1 with e1 e4
 subst e1; subst e4
 have hblk:w.heap[g]?=some (.cells (pre++(aU++cs++bU)++spare).toArray e fr):=lh g _ (jo.left g _ (by simp [Hp.one]))
 intro k u hu
 have hk:=(List.getElem?_eq_some_iff.1 hu).1
 have:w.cell? ⟨g,pre.length+j*K.sz+k,none⟩=(pre++(aU++cs++bU)++spare)[pre.length+j*K.sz+k]?:=by simp [World.cell?,hblk]
 rw [this,List.append_assoc,List.getElem?_append_right (by omega),show pre.length+j*K.sz+k - pre.length=j*K.sz+k by omega,List.append_assoc,List.append_assoc,List.getElem?_append_right (by omega),show j*K.sz+k - aU.length=k by omega,List.getElem?_append_left hk]
 exact hu
theorem v_holf {K:Kind α}{T:TypeId}{x:Operand}{e g o n c fo j:Nat}{xs:List α}{v:Value}{cs:List Value}(i:Nat)(ha:aggB X.P T=some false)(hV:lk V i=hol K e (.slice (some ⟨g,o,none⟩) n c) xs j cs)(hx:ev σ x=.pointer (some ⟨g,o+j*K.sz+fo,none⟩))(hc:nth cs fo=some v):VO X V σ ⟨d,.load T x,ty,pos,af,gd⟩ v:=by
 intro w s
 have:=look_hol s i hV fo v (by rw [← nth_eq]; exact hc)
 simp only [execOp,Instr.loadAt,hx,Instr.sureAddr,Sem.run_bind,Sem.run_pure,Result.andThen_ok,run_loadVar_one ha this]
end
end Go.Pg
namespace Go.Pg
def pf (φ:Prop):HP:=⟨fun _ h=>h=Hp.none∧φ,fun _ e=>e⟩
section
variable {C w:World}{V:List HP}
end
section
variable {X:Cx}{V:List HP}{σ:Env}{Q:Exit→Env→World→Prop}{ops:Array Oper}{rest:List Oper}{o:Oper}{cd:Code}{ex:Exit}
variable {d:Option Nat}{ty:TypeId}{pos:String}{af:Array Edge}{gd:Option (Nat×Bool)}
variable {α:Type}
end
end Go.Pg
