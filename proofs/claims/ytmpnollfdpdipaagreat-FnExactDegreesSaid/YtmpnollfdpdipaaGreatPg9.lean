import Derived.Test.YtmpnollfdpdipaaGreatPg1
import Derived.Deep.Quiet
import Derived.KernelRfl
import Derived.OrdersHeld
set_option linter.unusedVariables false
set_option linter.unusedSimpArgs false
namespace Go.Pg
def tk:Nat→List HP→List HP
 | 0,_=>[]
 | _,[]=>[]
 | k+1,q::V=>q::tk k V
def dp:Nat→List HP→List HP
 | 0,V=>V
 | _,[]=>[]
 | k+1,_::V=>dp k V
theorem md (k:Nat)(V:List HP):tk k V++dp k V=V:=by
 induction k generalizing V with
 | zero=>rfl
 | succ k ih =>
  cases V with
  | nil=>rfl
  | cons q V=>simp [tk,dp,ih]
section
variable {X:Cx}{V:List HP}{σ:cZ}{Q:Exit→cZ→World→Prop}{ops:Array Oper}{rest:List Oper}
variable {d:Option Nat}{ty:TypeId}{pos:String}{af:Array Edge}{gd:Option (Nat×Bool)}
variable {α β:Type}
theorem eB {K:Kind α}{t e:TypeId}{x y:Operand}{s u:Value}{xs ys:List α}{z:α}{q:HP}{b:Nat}(N:Nat)(hd:iD X.n d=true)(hw:dP ops σ ⟨d,.call ⟨.builtin .append,#[x,y],#[t,t]⟩,ty,pos,af,gd⟩=true)
  (ht:li X.P t=some e) (Z:hK X.P e=some K.sz) (hb:gQ X.P e=some b) (hz:o9 X.P K e z) (i:Nat.blt 0 K.sz=true) (E:Nat.ble (N*b) 140737488355328=true) (g:Nat.ble N 140737488355328=true) (l:Nat.blt 0 b=true)
  (hx:ev σ x=s) (G:ev σ y=u) (r:Ah q K u ys) (F:xs.length+ys.length≤N)
  (h:∀ a c,TL X ops (ow K e (.slice a (xs++ys).length c) (xs++ys)::V) (fV σ d (.slice a (xs++ys).length c)) rest Q) :
  TL X ops (ow K e s xs::q::V) σ (⟨d,.call ⟨.builtin .append,#[x,y],#[t,t]⟩,ty,pos,af,gd⟩::rest) Q:=by
 intro w st
 have E:=Nat.le_of_ble_eq_true E
 have g:=Nat.le_of_ble_eq_true g
 have i:0<K.sz:=Nat.le_of_ble_eq_true i
 have l:0<b:=Nat.le_of_ble_eq_true l
 have D:(xs.length+ys.length)*b≤140737488355328:=Nat.le_trans (Nat.mul_le_mul_right _ F) E
 obtain ⟨⟨a,c⟩,m,hr,s'⟩:=St.act st.sep 0 (q:=fun p:Option Addr×Nat=>ow K e (.slice p.1 (xs++ys).length p.2) (xs++ys))
  (Ψ:=fun p m=>(Builtin.append_ #[t,t] ty #[s,u]).run X.P w=.ok (.slice p.1 (xs++ys).length p.2) m) (by
   rintro I hh ⟨h1,h2,j,p1,p2⟩ lI Y U
   obtain ⟨a,c,m,O,J,L,r3,r4,M,T⟩:=t' (ty:=ty) ht Z hb hz i j p1 p2 r lI Y U D (Nat.le_trans F g) l
   exact ⟨⟨a,c⟩,m,O,J,L _,r3,r4,M,T⟩)
 refine eN hd hw ?_
 have B:(execOp (ev σ) ⟨d,.call ⟨.builtin .append,#[x,y],#[t,t]⟩,ty,pos,af,gd⟩).run X.P w=.ok (.value (.slice a (xs++ys).length c)) m:=by
  simp [execOp,resolve,invoke,builtin,hx,G,hr]
 rw [B]
 exact h a c m s'
theorem rP {size:Nat}:∀ (vs:List Value) (k:Nat) (cells:Array Value),(∀ v∈vs,v.cells.size=size)→(k+vs.length)*size≤cells.size →
  ∃ r,Instr.fill (fun i=>some (i*size,size)) cells ((List.range' k vs.length).zip vs)=some r∧r.toList=cells.toList.take (k*size)++(vs.map (·.cells.toList)).flatten++cells.toList.drop ((k+vs.length)*size):=by
 intro vs
 induction vs with
 | nil=>intro k cells _ _; exact ⟨cells,by simp [Instr.fill],by simp⟩
 | cons v vs ih =>
  intro k cells q s
  have h1:=q v (by simp)
  have g:(k+1+vs.length)*size≤cells.size:=by simpa [Nat.add_assoc,Nat.add_comm 1] using s
  have E:k*size+size≤cells.size:=by
   have:(k+1)*size≤(k+1+vs.length)*size:=Nat.mul_le_mul_right _ (by omega)
   rw [Nat.succ_mul] at this
   omega
  have b:∀ (l:List Value) (j:Nat) (cs:Array Value),k*size+j+l.length≤cs.size →
    ((l.zipIdx j).foldl (fun cs (c,j)=>cs.setIfInBounds (k*size+j) c) cs).toList=cs.toList.take (k*size+j)++l++cs.toList.drop (k*size+j+l.length):=by
   intro l
   induction l with
   | nil=>intro j cs _; simp
   | cons u l ihl =>
    intro j cs m
    simp only [List.zipIdx_cons,List.foldl_cons]
    rw [ihl (j+1) _ (by simp at *; omega)]
    simp only [List.length_cons] at m
    rw [Array.toList_setIfInBounds,show k*size+(j+1)=(k*size+j)+1 by omega,List.take_succ_eq_append_getElem (by simp; omega),List.take_set_of_le (Nat.le_refl _),List.drop_set_of_lt (by omega)]
    simp [Nat.add_assoc,Nat.add_comm,Nat.add_left_comm]
  have h:((v.cells.toList.zipIdx 0).foldl (fun cs (c,j)=>cs.setIfInBounds (k*size+j) c) cells).size=cells.size:=by
   generalize v.cells.toList.zipIdx 0=l
   clear h1 ih s g E b q
   induction l generalizing cells with
   | nil=>rfl
   | cons u l ihl=>simp only [List.foldl_cons]; rw [ihl]; simp
  obtain ⟨r,F,e⟩:=ih (k+1) ((v.cells.toList.zipIdx 0).foldl (fun cs (c,j)=>cs.setIfInBounds (k*size+j) c) cells) (fun u J=>q u (by simp [J])) (by rw [h]; exact g)
  refine ⟨r,?_,?_⟩
  ·simp only [List.length_cons,List.range'_succ,List.zip_cons_cons,Instr.fill]
   have L:¬ (v.cells.size≠size∨k*size+v.cells.size>cells.size):=by rw [h1]; omega
   rw [if_neg (by simpa using L)]
   have D:v.cells.zipIdx.foldl (fun cs (c,j)=>cs.setIfInBounds (k*size+j) c) cells=(v.cells.toList.zipIdx 0).foldl (fun cs (c,j)=>cs.setIfInBounds (k*size+j) c) cells:=by
    rw [← Array.foldl_toList]
    congr 1
    simp
   rw [D]
   exact F
  ·rw [e,b v.cells.toList 0 cells (by simp [h1]; omega)]
   have B:(k+1)*size=k*size+v.cells.toList.length:=by rw [Nat.succ_mul]; simp [h1]
   have G:(k+1+vs.length)*size=k*size+v.cells.toList.length+vs.length*size:=by rw [Nat.add_mul,B]
   have I:(k+(vs.length+1))*size=(k+1+vs.length)*size:=by congr 1; omega
   have a:(cells.toList.take (k*size)).length=k*size:=by simp; omega
   simp only [List.length_cons,Nat.add_zero,List.map_cons,List.flatten_cons]
   rw [I,G,B]
   rw [List.take_append_of_le_length (by simp [a]),List.take_of_length_le (by simp [a])]
   rw [List.drop_append,List.drop_of_length_le (by simp [a]),List.nil_append,List.drop_drop]
   simp only [List.append_assoc,List.length_append,a]
   congr 4
   omega
theorem rQ {K:Kind α}{t e:TypeId}{m:Nat}{parts:Array (Nat×Operand)}{xs:List α}{vs:List Value}{z:List Value}(k:Nat)(hd:iD X.n d=true)(hw:dP ops σ ⟨d,.buildSlice t m parts,ty,pos,af,gd⟩=true)
  (ht:li X.P t=some e) (hs:hK X.P e=some K.sz) (hz:kv X.P e=some z) (O:z.length=K.sz) (Z:Nat.blt 0 K.sz=true) (hp:parts.toList.map (fun p=>(p.1,ev σ p.2))=(List.range' 0 m).zip vs) (U:vs.length=m) (hv:vs.all (fun v=>Nat.beq v.cells.size K.sz)=true) (G:Nat.ble (m*K.sz) 16777216=true)
  (hx:∀ I h,eQ (tk k V) I h→gF K I h xs (vs.map (·.cells.toList)).flatten) (u:xs.length=m)
  (h:∀ g c,TL X ops (ow K e (.slice (some ⟨g,0,none⟩) xs.length c) xs::dp k V) (fV σ d (.slice (some ⟨g,0,none⟩) xs.length c)) rest Q):TL X ops V σ (⟨d,.buildSlice t m parts,ty,pos,af,gd⟩::rest) Q:=by
 intro w s
 refine eN hd hw ?_
 have hu:=iO ht
 have a2:∀ v∈vs,v.cells.size=K.sz:=fun v a1=>Nat.eq_of_beq_eq_true (List.all_eq_true.1 hv v a1)
 have G:=Nat.le_of_ble_eq_true G
 obtain ⟨zv,a0,T⟩:=kz (P:=X.P) (w:=w) hz
 have a3:zv.cells.size=K.sz:=by rw [T]; simpa using O
 obtain ⟨r,L,e'⟩:=rP (size:=K.sz) vs 0 ((Array.range (m*K.sz)).map ((if m*K.sz=0 then #[] else zv.cells)[· % (if m*K.sz=0 then #[] else zv.cells).size]!)) a2 (by simp [U])
 have er:r=((vs.map (·.cells.toList)).flatten).toArray:=by
  apply Array.ext'
  rw [e',U]
  simp
 have J:(execOp (ev σ) ⟨d,.buildSlice t m parts,ty,pos,af,gd⟩).run X.P w=.ok (.value (.slice (some ⟨w.heap.size,0,none⟩) m m)) (w.alloc (.cells ((vs.map (·.cells.toList)).flatten).toArray e)):=by
  have E:(parts.map fun (i,x)=>(i,ev σ x)).toList=(List.range' 0 m).zip vs:=by
   rw [← hp]; simp
  rw [U] at L
  simp only [execOp,Instr.buildSlice,Sem.run_bind,run_underlying hu,Result.andThen_ok,eI hs]
  rw [if_neg (by omega)]
  by_cases h0:m*K.sz=0
  ·rw [if_pos h0] at L ⊢
   simp only [Sem.run_bind,Sem.run_pure,Result.andThen_ok,E,L,er]
   simp [newRow,Sem.run_bind]
  ·rw [if_neg h0] at L ⊢
   simp only [Sem.run_bind,Sem.run_pure,Result.andThen_ok,a0,E,L,er]
   simp [newRow,Sem.run_bind]
 rw [J]
 have h':=h w.heap.size m
 rw [u] at h'
 refine h' _ ?_
 rw [← md k V] at s
 obtain ⟨sm,I,hh,g,j,l,st⟩:=s
 obtain ⟨h1,h2,B,sa,sb⟩:=cD.1 st
 have lh:Le h1 w:=l.mono (Hp.le_trans B.left j.right)
 have q:∀ b o,g b=some o→b≠w.heap.size:=fun b o e=>by
  have:=l.lt (b:=b) (by rw [e]; exact fun h=>by cases h)
  omega
 obtain ⟨F,M⟩:=Join.of_disj (h1:=Hp.one w.heap.size (.cells ((vs.map (·.cells.toList)).flatten).toArray e (0,0))) (h2:=h1) (fun b=>by
  by_cases hb:b=w.heap.size
  ·refine .inr ?_
   cases hq:h1 b with
   | none=>rfl
   | some o=>exact absurd hb (q b o (j.right b o (B.left b o hq)))
  ·exact .inl (by simp [Hp.one,hb]))
 obtain ⟨k1,Y⟩:=Join.of_disj (h1:=F) (h2:=h2) (fun b=>by
  by_cases hb:b=w.heap.size
  ·refine .inr ?_
   cases hq:h2 b with
   | none=>rfl
   | some o=>exact absurd hb (q b o (j.right b o (B.right b o hq)))
  ·rcases B.disj b with f | f
   ·exact .inl ((M.is_none b).2 ⟨by simp [Hp.one,hb],f⟩)
   ·exact .inr f)
 obtain ⟨g',jg⟩:=Join.of_disj (h1:=I) (h2:=k1) (fun b=>by
  by_cases hb:b=w.heap.size
  ·refine .inl ?_
   cases hq:I b with
   | none=>rfl
   | some o=>exact absurd hb (q b o (j.left b o hq))
  ·rcases j.disj b with f | f
   ·exact .inl f
   ·have:=(B.is_none b).1 f
    exact .inr ((Y.is_none b).2 ⟨(M.is_none b).2 ⟨by simp [Hp.one,hb],this.1⟩,this.2⟩))
 have D:∀ b o,g b=some o→(w.alloc (.cells ((vs.map (·.cells.toList)).flatten).toArray e)).heap[b]?=some o:=fun b o e=>l.alloc _ b o e
 refine ⟨sm.alloc _,I,k1,g',jg,?_,F,h2,Y,?_,sb⟩
 ·intro b o a
  rcases jg.cases a with ⟨a,_⟩|⟨a,_⟩
  ·exact D b o (j.left b o a)
  ·rcases Y.cases a with ⟨a,_⟩|⟨a,_⟩
   ·rcases M.cases a with ⟨a,_⟩|⟨a,_⟩
    ·exact Le.one_new (w:=w) (by show (w.heap.push _)[w.heap.size]?=_; simp) b o a
    ·exact D b o (j.right b o (B.left b o a))
   ·exact D b o (j.right b o (B.right b o a))
 ·refine .inr ⟨w.heap.size,m,[],(vs.map (·.cells.toList)).flatten,[],(0,0),h1,by simp [u],by omega,?_,by simp [u],.inl rfl,by simpa using M,hx I h1 sa⟩
  have:m*1≤m*K.sz:=Nat.mul_le_mul_left _ (Nat.le_of_ble_eq_true Z)
  simp only [maxLen]
  omega
theorem bK {K:Kind α}{t e:TypeId}{m:Nat}{parts:Array (Nat×Operand)}{xs:List α}{vs:List Value}{z:List Value}(k:Nat)(E:iD X.n d=true)(hw:dP ops σ ⟨d,.buildSlice t m parts,ty,pos,af,gd⟩=true)
  (u:li X.P t=some e) (q:hK X.P e=some K.sz) (r:kv X.P e=some z) (j:z.length=K.sz) (b:Nat.blt 0 K.sz=true) (s:parts.toList.map (fun p=>(p.1,ev σ p.2))=(List.range' 0 m).zip vs) (B:vs.length=m) (D:vs.all (fun v=>Nat.beq v.cells.size K.sz)=true) (l:Nat.ble (m*K.sz) 16777216=true)
  (F:∀ I h,eQ (tk k V) I h→gF K I h xs (vs.map (·.cells.toList)).flatten) (i:xs.length=m)
  (h:∀ a c,TL X ops (ow K e (.slice a xs.length c) xs::dp k V) (fV σ d (.slice a xs.length c)) rest Q):TL X ops V σ (⟨d,.buildSlice t m parts,ty,pos,af,gd⟩::rest) Q :=
 rQ k E hw u q r j b s B D l F i (fun g c=>h (some ⟨g,0,none⟩) c)
end
end Go.Pg
namespace Go.Pg
section
variable {X:Cx}{V:List HP}{σ:cZ}{Q:Exit→cZ→World→Prop}{ops:Array Oper}{rest:List Oper}
variable {d:Option Nat}{ty:TypeId}{pos:String}{af:Array Edge}{gd:Option (Nat×Bool)}
variable {α β:Type}
def lj (σ:cZ)(o:Option Operand)(a l:Int):Prop:=match o with
 | some x=>ev σ x=.int .i64 l
 | none=>l=a
theorem me {P:Program}{w:World}{l:Int}{y:Nat}{a:BoundsCode}(b:0≤l)(h1:l≤y):(Instr.sliceBound (.int .i64 l) y a).run P w=.ok l.toNat w:=by
 simp [Instr.sliceBound,asIntOf,b,h1]
theorem ll {P:Program}{w:World}{is:Bool}{n c:Nat}{lo i:Option Operand}{l h:Int}(a:lj σ lo 0 l)(e:lj σ i n h)(r:0≤l)(h1:l≤h)(h2:h≤n)(s:n≤c) :
  (Instr.sliceBounds is n c (lo.map (ev σ)) (i.map (ev σ)) none).run P w=.ok (l.toNat,h.toNat,c) w:=by
 have q:∀ y:Nat,l≤y→(Instr.sliceBound (.int .i64 l) y .sliceB).run P w=.ok l.toNat w:=fun y g=>me r g
 cases i with
 | none =>
  have:h=n:=e
  subst this
  cases lo with
  | none =>
   have:l=0:=a
   subst this
   simp [Instr.sliceBounds]
  | some x =>
   have j:ev σ x=.int .i64 l:=a
   simp [Instr.sliceBounds,j,q n h1]
 | some y =>
  have g:ev σ y=.int .i64 h:=e
  have m:∀ b,(Instr.sliceBound (.int .i64 h) c b).run P w=.ok h.toNat w:=fun b=>me (by omega) (by omega)
  cases lo with
  | none =>
   have:l=0:=a
   subst this
   simp [Instr.sliceBounds,g,m]
  | some x =>
   have j:ev σ x=.int .i64 l:=a
   simp [Instr.sliceBounds,j,g,m,q h.toNat (by omega)]
theorem oa (s:aM):(⟨s.toArray⟩:ByteArray).size=s.length:=by show s.toArray.size=_; simp
def rR (a:Option Addr)(c l sz:Nat):Option Addr:=if c=l then a else a.map (·.add (l*sz))
theorem qP {P:Program}{w:World}{t e:TypeId}{x:Operand}{a:Option Addr}{n c sz:Nat}{lo i:Option Operand}{l h:Int}(m:li P t=some e)(j:hK P e=some sz)(B:ev σ x=.slice a n c)
  (b:lj σ lo 0 l) (g:lj σ i n h) (s:0≤l) (h1:l≤h) (h2:h≤n) (r:n≤c) :
  (execOp (ev σ) ⟨d,.slice t x lo i none,ty,pos,af,gd⟩).run P w=.ok (.value (.slice (rR a c l.toNat sz) (h.toNat - l.toNat) (c - l.toNat))) w:=by
 have q:=iO m
 have u:=ll (P:=P) (w:=w) (is:=true) b g s h1 h2 r
 simp only [execOp,Instr.sliceAt,B,Sem.run_bind,run_underlying q,Result.andThen_ok,Instr.slice,Option.map_none,u,eI j,Sem.run_pure,rR]
theorem pW {xs:List α}{l h:Int}(a:0≤l)(h1:l≤h)(h2:h≤xs.length):(sub xs l h).length=h.toNat - l.toNat:=by
 simp [sub]; omega
theorem u0 {xs:List α}{l h:Int}(b:0≤l)(h1:l≤h)(h2:h≤xs.length){j:Nat}{x:α}(a:(sub xs l h)[j]?=some x):xs[l.toNat+j]?=some x:=by
 simp only [sub,List.getElem?_drop,List.getElem?_take] at a
 split at a
 ·exact a
 ·cases a
theorem u3 {K:Kind α}{I:Hp}{a:Option Addr}{n c:Nat}{xs:List α}{l h:Int}(r:pT K I (.slice a n c) xs)(m:0≤l)(h1:l≤h)(h2:h≤n):pT K I (.slice (rR a c l.toNat K.sz) (h.toNat - l.toNat) (c - l.toNat)) (sub xs l h):=by
 obtain ⟨A,L,E,J,G,D⟩:=r
 injection E with e1 e2 e3
 subst e1; subst e3; subst e2
 have e:=pW m h1 h2
 refine ⟨_,_,by rw [e],by rw [e]; omega,by rw [e]; omega,fun s=>?_⟩
 rw [e] at s
 obtain ⟨g,o,rfl,b⟩:=D (by omega)
 refine ⟨g,o+l.toNat*K.sz,?_,fun j x F=>?_⟩
 ·unfold rR
  rw [if_neg (by omega)]
  simp [fS]
 ·obtain ⟨cs,p,q⟩:=b _ x (u0 m h1 h2 F)
  refine ⟨cs,p,fun i u B=>?_⟩
  have:=q i u B
  rw [Nat.add_mul] at this
  rw [show o+l.toNat*K.sz+j*K.sz+i=o+(l.toNat*K.sz+j*K.sz)+i by omega]
  exact this
theorem gC {K:Kind α}{t e:TypeId}{x:Operand}{a:Option Addr}{n c:Nat}{lo u:Option Operand}{xs:List α}(l h:Int)(i:Nat)(T:iD X.n d=true)(hw:dP ops σ ⟨d,.slice t x lo u none,ty,pos,af,gd⟩=true)
  (O:li X.P t=some e) (M:hK X.P e=some K.sz) (L:lk V i=aN K (.slice a n c) xs) (U:ev σ x=.slice a n c) (q:lj σ lo 0 l) (B:lj σ u n h) (E:0≤l) (h1:l≤h) (h2:h≤n)
  (k:∀ G b,TL X ops (aN K (.slice G (sub xs l h).length b) (sub xs l h)::V) (fV σ d (.slice G (sub xs l h).length b)) rest Q):TL X ops V σ (⟨d,.slice t x lo u none,ty,pos,af,gd⟩::rest) Q:=by
 rintro w ⟨J,I,D,g,j,lw,s⟩
 obtain ⟨g1,Z,j',p,s'⟩:=eS i s
 rw [L] at p
 have Y:n=xs.length:=by obtain ⟨_,A,b,F,_⟩:=p; injection F
 have m:n≤c:=by
  obtain ⟨_,A,b,F,hq,_⟩:=p
  injection F with _ _ e3
  omega
 refine eN T hw ?_
 rw [qP O M U q B E h1 h2 m]
 have r:=u3 p.2 E h1 h2
 have:=k (rR a c l.toNat K.sz) (c - l.toNat)
 rw [pW E h1 (by omega)] at this
 exact this w ⟨J,I,D,g,j,lw,Hp.none,D,Join.none D,⟨rfl,r⟩,s⟩
theorem dN {t:TypeId}{x:Operand}{s:aM}(a:X.P.underlying t=some .string)
  (b:ev σ x=aD s):VO X V σ ⟨d,.call ⟨.builtin .len,#[x],#[t]⟩,ty,pos,af,gd⟩ (.int .i64 s.length):=by
 intro w _
 simp [execOp,resolve,invoke,builtin,b,aD,Builtin.len_,run_underlying a,goInt,oa]
theorem cH {t:TypeId}{x y:Operand}{s:aM}{k:IntKind}{j:Int}(g:X.P.underlying t=some .string)
  (i:ev σ x=aD s) (b:ev σ y=.int k j) (e:0≤j) (h1:j<s.length):VO X V σ ⟨d,.index t x y,ty,pos,af,gd⟩ (.int .u8 (bt s j)):=by
 intro w _
 have a:j.toNat<s.length:=by omega
 have h:(⟨s.toArray⟩:ByteArray)[j.toNat]?=some (ix s j):=by
  rw [ByteArray.getElem?_lt' _ _ (by rw [oa]; exact a)]
  congr 1
  show s.toArray[j.toNat]=_
  simp [ix,List.getD_eq_getElem?_getD,a]
 simp [execOp,i,b,aD,Instr.index,asIntOf,run_underlying g,e,h,bt]
theorem hM {t:TypeId}{x:Operand}{s:aM}{lo g:Option Operand}(l h:Int)
  (j:X.P.underlying t=some .string) (q:ev σ x=aD s) (b:lj σ lo 0 l) (e:lj σ g s.length h) (i:0≤l) (h1:l≤h) (h2:h≤s.length):VO X V σ ⟨d,.slice t x lo g none,ty,pos,af,gd⟩ (aD (sub s l h)):=by
 intro w _
 have m:=ll (P:=X.P) (w:=w) (is:=false) (n:=s.length) (c:=s.length) b e i h1 h2 (Nat.le_refl _)
 have a:=oa s
 simp only [execOp,Instr.sliceAt,q,Sem.run_bind,run_underlying j,Result.andThen_ok,Instr.slice,Option.map_none,aD,a,m,Sem.run_pure,Option.isSome_none,Bool.false_eq_true,if_false]
 rw [ByteArray.extract_mk]
 congr 3
 simp [sub,List.drop_take]
theorem nl {t:TypeId}{x y:Operand}{e:TypeId}{s u:aM}
  (g:ev σ x=aD s) (a:ev σ y=aD u) (b:s.length+u.length≤9223372036854775807):VO X V σ ⟨d,.binOp .add t x y e,ty,pos,af,gd⟩ (aD (s++u)):=by
 intro w _
 have h:=run_string_add_sum (P:=X.P) (w:=w) (⟨s.toArray⟩:ByteArray) ⟨u.toArray⟩ (by rw [oa,oa]; exact b)
 simp only [execOp,g,a,aD,eqGuard_add,binOp_string_add,Sem.run_bind,Sem.run_pure,Result.andThen_ok,h]
 rw [ByteArray.mk_append_mk]
def y7:BinOp→aM→aM→Option Bool
 | .eql,a,b=>some (a==b)
 | .neq,a,b=>some (!(a==b))
 | .lss,a,b=>some (Op.bytesLess a b)
 | .leq,a,b=>some (Op.bytesLess a b||a==b)
 | .gtr,a,b=>some (!(Op.bytesLess a b||a==b))
 | .geq,a,b=>some (!Op.bytesLess a b)
 | _,_,_=>none
theorem jd {op:BinOp}{t:TypeId}{x y:Operand}{g:TypeId}{s u:aM}{b:Bool}
  (h:ev σ x=aD s) (e:ev σ y=aD u) (a:y7 op s u=some b):VO X V σ ⟨d,.binOp op t x y g,ty,pos,af,gd⟩ (.bool b):=by
 intro w _
 cases op<;>simp only [y7,reduceCtorEq,Option.some.injEq] at a<;>subst a <;>
  simp [execOp,h,e,aD,eqGuard_at_string,binOp,Op.stringOp]
theorem wd {s' t:TypeId}{x:Operand}{k a:IntKind}{n:Int}{ds:TypeDesc}(h1:X.P.underlying s'=some ds)(h2:X.P.underlying t=some (.int a))
  (b:ev σ x=.int k n):VO X V σ ⟨d,.convert s' t x,ty,pos,af,gd⟩ (.int a (a.wrap n)):=by
 intro w _
 simp [execOp,b,convert,run_underlying h1,run_underlying h2,Conv.intToInt]
theorem mf {t h:TypeId}{x y:Operand}{k:IntKind}{a b:Int}(i:ev σ x=.int k a)(e:ev σ y=.int k b)(g:b≠0):VO X V σ ⟨d,.binOp .quo t x y h,ty,pos,af,gd⟩ (.int k (k.wrap (a.tdiv b))):=by
 intro w _
 simp [execOp,i,e,eqGuard_at_int,binOp,Op.intDiv,g]
theorem pX {t h:TypeId}{x y:Operand}{k:IntKind}{a b:Int}(i:ev σ x=.int k a)(e:ev σ y=.int k b)(g:b≠0):VO X V σ ⟨d,.binOp .rem t x y h,ty,pos,af,gd⟩ (.int k (a.tmod b)):=by
 intro w _
 simp [execOp,i,e,eqGuard_at_int,binOp,Op.intDiv,g]
theorem vn {x y:Operand}{e:Array TypeId}{k h:IntKind}{a b:Int}(i:ev σ x=.int k a)(g:ev σ y=.int h b):VO X V σ ⟨d,.call ⟨.builtin .max,#[x,y],e⟩,ty,pos,af,gd⟩ (.int k (if b>a then b else a)):=by
 intro w _
 simp [execOp,resolve,invoke,builtin,i,g,run_max_int2]
theorem vo {x y:Operand}{e:Array TypeId}{k h:IntKind}{a b:Int}(i:ev σ x=.int k a)(g:ev σ y=.int h b):VO X V σ ⟨d,.call ⟨.builtin .min,#[x,y],e⟩,ty,pos,af,gd⟩ (.int k (if b<a then b else a)):=by
 intro w _
 simp [execOp,resolve,invoke,builtin,i,g,run_min_int2]
end
end Go.Pg
namespace Go.Pg
def FnOk {A:Type}(P:Program)(f:FuncId)(args:List Value)(b:List HP)(a:A→Value×List HP):Prop :=
 ∀ C w V,St C w (b++V)→Calls P f args.toArray w (fun e g=>∃ x,e=.returned (a x).1∧St C g ((a x).2++V))
def aW (P:Program)(f:FuncId):Bool:=match P.funcs[f]? with
 | some fn=>!(fn.name == "runtime.NumGoroutine")&&fn.body.isSome
 | none=>false
theorem je {P:Program}{f:FuncId}{w:World}{args:Array Value}(h:aW P f=true):(callFunc f args).run P w=.ok (.enter f args) w:=by
 unfold aW at h
 cases hf:P.funcs[f]? with
 | none=>rw [hf] at h; cases h
 | some fn =>
  rw [hf] at h
  simp only [Bool.and_eq_true,Bool.not_eq_true'] at h
  cases hb:fn.body with
  | none=>rw [hb] at h; cases h.2
  | some c =>
   have h1:=h.1
   simp at h1
   simp [callFunc,hf,h1,hb]
section
variable {X:Cx}{V:List HP}{σ:cZ}{Q:Exit→cZ→World→Prop}{ops:Array Oper}{rest:List Oper}{o:Oper}
variable {d:Option Nat}{ty:TypeId}{pos:String}{af:Array Edge}{gd:Option (Nat×Bool)}
variable {α β:Type}
theorem lQ (xs:Array Operand)(f:Operand→Value){as:List Value}(h:xs.toList.map f=as):xs.map f=as.toArray:=by
 apply Array.ext'
 simpa using h
theorem wf {A:Type}{f:FuncId}{xs:Array Operand}{b:Array TypeId}{as:List Value}{g V':List HP}{a:A→Value×List HP}(q:iD X.n d=true)(hw:dP ops σ ⟨d,.call ⟨.value (.func f),xs,b⟩,ty,pos,af,gd⟩=true)
  (j:aW X.P f=true) (i:xs.toList.map (ev σ)=as) (l:FnOk X.P f as g a) (r:V=g++V') (k:∀ x,TL X ops ((a x).2++V') (fV σ d (a x).1) rest Q):TL X ops V σ (⟨d,.call ⟨.value (.func f),xs,b⟩,ty,pos,af,gd⟩::rest) Q:=by
 intro w s
 refine eN q hw ?_
 have h:(execOp (ev σ) ⟨d,.call ⟨.value (.func f),xs,b⟩,ty,pos,af,gd⟩).run X.P w=.ok (.enter f as.toArray) w:=by
  show (callFunc f (#[]++xs.map (ev σ)++#[])).run X.P w=_
  rw [lQ xs _ i,je j]
  simp
 rw [h]
 subst r
 refine Calls.mono' (l X.C w V' s) ?_
 rintro e m ⟨x,rfl,s'⟩
 exact k x m s'
theorem u4 {A:Type}{f:FuncId}{h:Operand}{fs cs:List Value}{xs:Array Operand}{b:Array TypeId}{as:List Value}{g V':List HP}{a:A→Value×List HP}(u:iD X.n d=true)(hw:dP ops σ ⟨d,.call ⟨.value h,xs,b⟩,ty,pos,af,gd⟩=true)
  (l:aW X.P f=true) (r:ev σ h=.func (.func f) fs.toArray cs.toArray) (j:fs++xs.toList.map (ev σ)++cs=as) (m:FnOk X.P f as g a) (B:V=g++V') (k:∀ x,TL X ops ((a x).2++V') (fV σ d (a x).1) rest Q):TL X ops V σ (⟨d,.call ⟨.value h,xs,b⟩,ty,pos,af,gd⟩::rest) Q:=by
 intro w s
 refine eN u hw ?_
 have i:(execOp (ev σ) ⟨d,.call ⟨.value h,xs,b⟩,ty,pos,af,gd⟩).run X.P w=.ok (.enter f as.toArray) w:=by
  have:(callFunc f (fs.toArray++xs.map (ev σ)++cs.toArray)).run X.P w=.ok (.enter f as.toArray) w:=by
   rw [je l,lQ xs _ rfl,← j]
   simp
  simp only [execOp,resolve,r,Deferred.ofValue,Sem.run_bind,Sem.run_pure,Result.andThen_ok,invoke,this]
 rw [i]
 subst B
 refine Calls.mono' (m X.C w V' s) ?_
 rintro e q ⟨x,rfl,s'⟩
 exact k x q s'
def HP.Closed (p:HP):Prop:=∀ I J h,p.p I h→p.p J h
theorem qQ {b:Nat}{cs:List Value}{T:Nat}:(aJ b cs T).Closed:=fun _ _ _ h=>h
theorem bH {K:Kind α}{e:Nat}{v:Value}{xs:List α}(h:K.Closed):(ow K e v xs).Closed:=fun _ _ _ o=>p0 h o
theorem oc {A:List HP}(h:∀ p∈A,p.Closed){I J g:Hp}(s:eQ A I g):eQ A J g:=by
 induction A generalizing g with
 | nil=>exact s
 | cons p A ih =>
  obtain ⟨h1,h2,j,a,b⟩:=s
  exact ⟨h1,h2,j,h p (by simp) _ _ _ a,ih (fun q e=>h q (by simp [e])) b⟩
def AllC:List HP→Prop
 | []=>True
 | p::A=>p.Closed∧AllC A
theorem Aq {A:List HP}(h:AllC A):∀ p∈A,p.Closed:=by
 induction A with
 | nil=>intro p a; cases a
 | cons q A ih =>
  intro p a
  rcases List.mem_cons.1 a with rfl | a
  ·exact h.1
  ·exact ih h.2 p a
def Ar (a:Hp)(p:HP):HP:=⟨fun I h=>Hp.le a I∧p.p a h,fun l h=>⟨Hp.le_trans h.1 l,h.2⟩⟩
theorem u5 {e I:Hp}(l:Hp.le e I){V:List HP}{h:Hp}(s:eQ V e h):eQ (V.map (Ar e)) I h:=by
 induction V generalizing h with
 | nil=>exact s
 | cons p V ih =>
  obtain ⟨h1,h2,j,a,b⟩:=s
  exact ⟨h1,h2,j,⟨l,a⟩,ih b⟩
theorem u6 {e I:Hp}{V:List HP}{h:Hp}(s:eQ (V.map (Ar e)) I h):eQ V e h:=by
 induction V generalizing h with
 | nil=>exact s
 | cons p V ih =>
  obtain ⟨h1,h2,j,a,b⟩:=s
  exact ⟨h1,h2,j,a.2,ih b⟩
def BF (g:Hp):HP:=⟨fun I h=>h=Hp.none∧Hp.le g I,fun l h=>⟨h.1,Hp.le_trans h.2 l⟩⟩
theorem FnOk.perm {A:Type}{P:Program}{f:FuncId}{args:List Value}{b Pre':List HP}{a:A→Value×List HP}(e:FnOk P f args b a)(h:∀ C w V,St C w (Pre'++V)→St C w (b++V)):FnOk P f args Pre' a:=fun C w V s=>e C w V (h C w V s)
theorem FnOk.post {A B:Type}{P:Program}{f:FuncId}{args:List Value}{i:List HP}{b:A→Value×List HP}{a:B→Value×List HP}(j:FnOk P f args i b)(g:A→B)(h1:∀ x,(b x).1=(a (g x)).1)(h:∀ x C w V,St C w ((b x).2++V)→St C w ((a (g x)).2++V)):FnOk P f args i a:=by
 intro C w V s
 refine Calls.mono' (j C w V s) ?_
 rintro e l ⟨x,rfl,s'⟩
 exact ⟨g x,by rw [h1],h x C l V s'⟩
def p7:List Value→Value
 | [v]=>v
 | vs=>.tuple vs.toArray
def rS (P:Program)(V:List HP)(σ:cZ):List ResultVar→List Value→Prop
 | [],[]=>True
 | .tmp t::rs,v::vs=>σ t=v∧rS P V σ rs vs
 | .cell a T::rs,v::vs=>(∃ i b cs e,lk V i=aJ b cs e∧σ a=.pointer (some ⟨b,0,none⟩)∧((eX P T=some true∧hK P T=some cs.length∧v=.agg cs.toArray)∨(eX P T=some false∧cs=[v])))∧rS P V σ rs vs
 | _,_=>False
theorem mg {P:Program}{C w:World}{V:List HP}{σ:cZ}(s:St C w V):∀ (rs:List ResultVar) (vs:List Value),rS P V σ rs vs →
  (rs.mapM (fun | .tmp t=>pure (σ t) | .cell a t=>do loadVar t (← asAddr (σ a)):ResultVar→Sem Value)).run P w=.ok vs w
 | [],[],_=>rfl
 | .tmp t::rs,v::vs,⟨h1,h2⟩=>by
  have:=mg s rs vs h2
  simp [List.mapM_cons,this,h1]
 | .cell a T::rs,v::vs,⟨⟨i,b,cs,T0,hV,ha,hv⟩,h2⟩=>by
  have:=mg s rs vs h2
  have g:=kA s i hV
  have m:(loadVar T ⟨b,0,none⟩).run P w=.ok v w:=by
   rcases hv with ⟨e,q,rfl⟩|⟨e,rfl⟩
   ·exact eY e q (fun j u l=>by rw [fS,kB g,Nat.zero_add]; exact l)
   ·exact eM e (by rw [kB g]; rfl)
  have r:(asAddr (σ a)).run P w=.ok ⟨b,0,none⟩ w:=by rw [ha]; rfl
  simp [List.mapM_cons,this,r,m]
 | [],_::_,h=>h.elim
 | .tmp _::_,[],h=>h.elim
 | .cell _ _::_,[],h=>h.elim
theorem lm {P:Program}{C w:World}{V:List HP}{σ:cZ}{fn:Func}{rs:List ResultVar}{vs:List Value}(s:St C w V)(a:fn.results=rs.toArray)(h:rS P V σ rs vs):(hG fn σ).run P w=.ok (p7 vs) w:=by
 have:=mg s rs vs h
 unfold hG
 rw [a,List.mapM_toArray]
 simp only [Sem.run_bind,Sem.run_map]
 refine (congrArg (fun r=>Result.andThen (Result.andThen r _) _) this).trans ?_
 match vs with
 | []=>rfl
 | [v]=>rfl
 | v::u::l=>simp [p7]
def qR (X:Cx){A:Type}(V:List HP)(a:A→Value×List HP):Value→World→Prop:=fun v w=>∃ x,v=(a x).1∧St X.C w ((a x).2++V)
theorem dI {A:Type}{V0:List HP}{a:A→Value×List HP}{fn:Func}{rs:List ResultVar}{vs:List Value}{e:Exit}(j:e=.ret∨e=.normal)(x:A)(h:fn.results=rs.toArray)(g:rS X.P V σ rs vs)(i:(a x).1=p7 vs)(b:∀ w,St X.C w V→St X.C w ((a x).2++V0)) :
  TQ X V σ e (m8 X.P fn (qR X V0 a)):=by
 intro w s
 rcases j with rfl | rfl
 ·exact ⟨_,lm s h g,x,i.symm,b w s⟩
 ·exact ⟨_,lm s h g,x,i.symm,b w s⟩
theorem aQ {A:Type}{P:Program}{f:FuncId}{fn:Func}{c:Code}{args:List Value}{b:List HP}{a:A→Value×List HP}(i:P.funcs[f]?=some fn)(l:fn.body=some c)(n:Nat)(g:fn.ntmps=n)(j:Nat.ble args.length n=true)
  (h:∀ C V,TC ⟨P,.of n,C⟩ (b++V) (rH args.toArray) c (m8 P fn (qR ⟨P,.of n,C⟩ V a))):FnOk P f args b a:=by
 subst g
 intro C w V s
 refine Calls.mono' (oY i l (by have:=Nat.le_of_ble_eq_true j; simpa using this) (h C V w s)) ?_
 rintro e m ⟨v,rfl,x,rfl,s'⟩
 exact ⟨x,rfl,s'⟩
theorem kZ {a:Act}{o:Oper}{n:Nn}{σ:cZ}(b:iD n o.dst=true)(h1:a.tmps.size=n.n)(h2:a.defers=n.ds)(g:eU a=σ)(v:Value):(a.put o.dst v).tmps.size=n.n∧(a.put o.dst v).defers=n.ds∧eU (a.put o.dst v)=fV σ o.dst v:=by
 refine ⟨?_,?_,?_⟩
 ·cases hdd:o.dst with
  | none=>exact h1
  | some d=>show (a.tmps.setIfInBounds d v).size=n.n; rw [Array.size_setIfInBounds,h1]
 ·cases hdd:o.dst with
  | none=>exact h2
  | some d=>exact h2
 ·rw [jV,g]
  intro d e
  rw [e] at b
  rw [h1]
  exact Nat.lt_of_lt_of_le (Nat.lt_succ_self _) (Nat.le_of_ble_eq_true b)
theorem rT {a:Nat}{op:Op}(v:Value)(b:VO X V σ ⟨some a,op,ty,pos,af,gd⟩ v)(hw:dP ops σ ⟨some a,op,ty,pos,af,gd⟩=true)(e:iD X.n (some a)=true)(h:TL X ops V (ku σ a v) rest Q):TL X ops V σ (⟨some a,op,ty,pos,af,gd⟩::rest) Q :=
 Ap e hw b h
theorem cO {b:Bool}{x y:Option α}{r:α}(h:(if b=true then x else y)=some r):(b=true∧x=some r)∨(b=false∧y=some r):=by
 cases b
 ·exact .inr ⟨rfl,by simpa using h⟩
 ·exact .inl ⟨rfl,by simpa using h⟩
def l2 (σ:cZ):List (Nat×Value)→Prop
 | []=>True
 | (t,v)::l=>σ t=v∧l2 σ l
theorem l3 {σ:cZ}{l:List (Nat×Value)}(h:l2 σ l):oX σ l=σ:=by
 induction l with
 | nil=>rfl
 | cons p l ih =>
  obtain ⟨t,v⟩:=p
  show ku (oX σ l) t v=σ
  rw [ih h.2]
  exact rE σ t h.1
def Jn (X:Cx){A:Type}(pf:A→Prop)(b:A→List (Nat×Value))(e:A→List HP):cZ→World→Prop:=fun σ w=>∃ a,pf a∧l2 σ (b a)∧St X.C w (e a)
theorem aZ {A:Type}{x y:Code}(pf:A→Prop)(b:A→List (Nat×Value))(g:A→List HP)(l:TC X V σ x (iu (Jn X pf b g) Q))(h:∀ a σ',pf a→TC X (g a) (oX σ' (b a)) y Q):TC X V σ x (iu (Nx X y Q) Q):=by
 intro w s
 refine W.mono (l w s) ?_
 intro e σ' i q
 cases e with
 | normal =>
  obtain ⟨a,j,h1,h2⟩:=q
  have:=h a σ' j i h2
  rw [l3 h1] at this
  exact this
 | _=>exact q
theorem cS {A:Type}{pf:A→Prop}{b:A→List (Nat×Value)}{e:A→List HP}(a:A)(g:pf a)(h1:l2 σ (b a))(h2:∀ w,St X.C w V→St X.C w (e a)):TQ X V σ .normal (iu (Jn X pf b e) Q):=fun w s=>⟨a,g,h1,h2 w s⟩
def As (X:Cx){S E A:Type}(b:S⊕E)(e:S→A→List (Nat×Value))(g:S→A→List HP):cZ→World→Prop:=fun σ w=>∃ s a,b=.inl s∧l2 σ (e s a)∧St X.C w (g s a)
theorem bD {S E A:Type}{f:S→Option (S⊕E)}{i:S}{e:E}{c:Code}(u:aR f i=some e)(h:S→A→List (Nat×Value))(j:S→A→List HP)(a0:A)(h1:l2 σ (h i a0))(h2:∀ w,St X.C w V→St X.C w (j i a0))
  (b:∀ s a σ' out,f s=some out→(∀ l,out=.inr l→l=e)→TC X (j s a) (oX σ' (h s a)) c (iu (As X out h j) Q)):TC X V σ (.loop c) Q:=by
 intro w st
 obtain ⟨k,m⟩:=m7 u
 refine w8 (fun k σ w=>∃ s a,iW f k s=some e∧l2 σ (h s a)∧St X.C w (j s a)) k ⟨i,a0,m,h1,h2 w st⟩ ?_
 rintro k σ' D ⟨s,a,g,g1,B⟩
 cases k with
 | zero=>cases g
 | succ k =>
  simp only [iW] at g
  cases hf:f s with
  | none=>rw [hf] at g; cases g
  | some out =>
   rw [hf] at g
   have:=b s a σ' out hf (fun l F=>by subst F; exact Option.some.inj g) D B
   rw [l3 g1] at this
   refine W.mono this ?_
   intro ex σ'' r q
   cases ex with
   | normal =>
    obtain ⟨s',G,rfl,I,J⟩:=q
    exact ⟨k,Nat.lt_succ_self k,s',G,g,I,J⟩
   | _=>exact q
theorem u7 {S E A:Type}{b:S→A→List (Nat×Value)}{e:S→A→List HP}{s:S}(a:A)(h1:l2 σ (b s a))(h2:∀ w,St X.C w V→St X.C w (e s a)):TQ X V σ .normal (iu (As X (E:=E) (.inl s) b e) Q):=fun w st=>⟨s,a,rfl,h1,h2 w st⟩
end
end Go.Pg
namespace Go.Pg
section
variable {P:Program}{ops:Array Oper}{Q:Exit→Act→World→Prop}{S:World→Prop}{k:Nat}
def Shut (ops:Array Oper)(listed:Array Bool):Prop:=∀ j o,ops[j]?=some o→listed.getD j false=true→∀ e∈o.after,Region.binds .any e=true→listed.getD e.on false=true
def mY (ops:Array Oper):Nat→Nat→Nat→Bool
 | 0,_,_=>false
 | f+1,j,i=>match ops[j]? with
  | some o=>o.after.any (fun e=>Region.binds .any e&&e.on==i)||o.after.any (fun e=>Region.binds .any e&&mY ops f e.on i)
  | none=>false
theorem kC {listed:Array Bool}(m:Shut ops listed):∀ (f j i:Nat) (o:Oper),ops[j]?=some o→(∀ e∈o.after,Region.binds .any e=true→listed.getD e.on false=true)→mY ops f j i=true→listed.getD i false=true:=by
 intro f
 induction f with
 | zero=>intro j i o _ _ h; cases h
 | succ f ih =>
  intro j i o r l h
  simp only [mY,r,Bool.or_eq_true,Array.any_eq_true',Bool.and_eq_true,beq_iff_eq] at h
  rcases h with ⟨e,a,b,s⟩|⟨e,a,b,g⟩
  ·rw [← s]; exact l e a b
  ·have q:=l e a b
   cases hoe:ops[e.on]? with
   | none =>
    cases f with
    | zero=>cases g
    | succ f=>simp [mY,hoe] at g
   | some o'=>exact ih e.on i o' hoe (m e.on o' hoe q) g
def jx (ops:Array Oper)(k:Nat):Bool:=(List.range ops.size).all fun j=>Nat.blt j k||(List.range k).all fun i=>mY ops ops.size j i
def mh (ops:Array Oper)(k i:Nat):Bool:=(List.range ops.size).all fun j=>Nat.blt j k||mY ops ops.size j i
theorem pY {ops:Array Oper}{k i:Nat}(h:jx ops k=true)(a:Nat.blt i k=true):mh ops k i=true:=by
 simp only [jx,mh,List.all_eq_true,List.mem_range,Bool.or_eq_true] at h ⊢
 intro j b
 rcases h j b with h | h
 ·exact .inl h
 ·exact .inr (h i (Nat.lt_of_lt_of_le (Nat.lt_succ_self _) (Nat.le_of_ble_eq_true a)))
theorem Shut.step {listed:Array Bool}{j:Nat}(h:Shut ops listed)(r:j∈Region.ready .any ops listed):Shut ops (listed.setIfInBounds j true):=by
 obtain ⟨_,o,m,q⟩:=mem_ready.1 r
 intro i o' a b e g l
 by_cases hij:i=j
 ·subst hij
  rw [m] at a
  obtain rfl:=Option.some.inj a
  exact getD_set_true (q e g l)
 ·rw [getD_set_ne false (Ne.symm hij)] at b
  exact getD_set_true (h i o' a b e g l)
def np (ops:Array Oper)(k:Nat)(listed:Array Bool):Bool:=(List.range ops.size).all fun j=>Nat.blt j k||!listed.getD j false
theorem od {listed:Array Bool}{i:Nat}(a:Nat.blt i k=true)(h:np ops k listed=true):np ops k (listed.setIfInBounds i true)=true:=by
 simp only [np,List.all_eq_true,List.mem_range,Bool.or_eq_true,Bool.not_eq_true'] at h ⊢
 intro j b
 by_cases hji:j=i
 ·subst hji; exact .inl a
 ·rw [getD_set_ne false (Ne.symm hji)]; exact h j b
def jK (P:Program)(ops:Array Oper)(Q:Exit→Act→World→Prop)(S:World→Prop)(k:Nat):Nat→Array Bool→Act→World→Prop
 | 0,listed,a,w=>Region.ready .any ops listed=[]∧Q .normal a w
 | fuel+1,listed,a,w =>
  (Region.ready .any ops listed=[]→Q .normal a w) ∧
  ∀ i∈Region.ready .any ops listed,wpOp P ops Q i (fun e b=>(Nat.blt i k=true→np ops k listed=true→S b)∧jK P ops Q S k fuel (listed.setIfInBounds i true) e b) a w
theorem mi:∀ (fuel:Nat) (listed:Array Bool) (a:Act) (w:World),jK P ops Q S k fuel listed a w→wpAny P .any ops Q fuel listed a w
 | 0,_,_,_,h=>h
 | fuel+1,_,_,_,h=>⟨h.1,fun i g=>wpOp_mono (fun j e b=>mi fuel _ j e b.2) (h.2 i g)⟩
theorem kD {i:Nat}{J:Oper}{v:Value}(hi:ops[i]?=some J)(O:Nat.blt i k=true)(ht:mh ops k i=true)(E:∀ (j:Nat) (o:Oper) cs b,ops[j]?=some o→o.op≠.select cs b)
  (hQ:∀ c a w,Q (.panic c) (a.put J.dst v) w→Q (.panic c) a w) :
  ∀ (fuel:Nat) (listed:Array Bool) (a:Act) (w:World),Shut ops listed →
   (∀ j s,ops[j]?=some s→j≠i→listed.getD j true=false→(∀ e∈s.after,Region.binds .any e=true→e.on≠i)→J.apart ops s=true) →
   i∈Region.ready .any ops listed→YieldsIf P ops S J v a→S w →
   jK P ops Q S k fuel (listed.setIfInBounds i true) (a.put J.dst v) w→jK P ops Q S k (fuel+1) listed a w:=by
 intro fuel
 induction fuel with
 | zero =>
  intro listed a w _ _ I Z hS H
  refine ⟨fun h=>(by rw [h] at I; cases I),fun j T=>?_⟩
  by_cases hji:j=i
  ·subst hji; exact Z.wpOp hi hS ⟨fun _ _=>hS,H⟩
  ·have:=ready_mono T hji
   rw [H.1] at this
   cases this
 | succ fuel ih =>
  intro listed a w q l I Z hS H
  refine ⟨fun h=>(by rw [h] at I; cases I),fun j T=>?_⟩
  by_cases hji:j=i
  ·subst hji; exact Z.wpOp hi hS ⟨fun _ _=>hS,H⟩
  ·have h1:=H.2 j (ready_mono T hji)
   obtain ⟨B,s,g,u⟩:=mem_ready.1 T
   have h0:=(mem_ready.1 I).1
   have F:listed.getD i false=true→False:=fun h1=>by
    rcases Nat.lt_or_ge i listed.size with h' | h'
    ·simp [h'] at h0 h1; rw [h0] at h1; cases h1
    ·simp [Array.getElem?_eq_none h'] at h1
   have a1:Nat.blt j k=true:=by
    cases Y:Nat.blt j k with
    | true=>rfl
    | false =>
     simp only [mh,List.all_eq_true,List.mem_range,Bool.or_eq_true] at ht
     have D:=(ht j (Array.getElem?_eq_some_iff.1 g).1).resolve_left (by rw [Y]; exact fun h=>by cases h)
     exact (F (kC q _ j i s g u D)).elim
   have G:np ops k listed=true:=by
    simp only [np,List.all_eq_true,List.mem_range,Bool.or_eq_true,Bool.not_eq_true']
    intro m hm
    cases Y:Nat.blt m k with
    | true=>exact .inl rfl
    | false =>
     refine .inr ?_
     cases hl:listed.getD m false with
     | false=>rfl
     | true =>
      simp only [mh,List.all_eq_true,List.mem_range,Bool.or_eq_true] at ht
      have D:=(ht m hm).resolve_left (by rw [Y]; exact fun h=>by cases h)
      have ho:=Array.getElem?_eq_getElem hm
      exact (F (kC q _ m i _ ho (q m _ ho hl) D)).elim
   have L:∀ e∈s.after,Region.binds .any e=true→e.on≠i:=fun e he Y a2=>F (a2▸u e he Y)
   have h2:=wpOp_putIf g (l j s g hji B L) (fun cs b=>E i J cs b hi) (fun cs b=>E j s cs b g) hQ Z h1
   have r:∀ m M,ops[m]?=some M→m≠i→(listed.setIfInBounds j true).getD m true=false →
     (∀ e∈M.after,Region.binds .any e=true→e.on≠i)→J.apart ops M=true:=fun m M hk a0 U a3=>by
    refine l m M hk a0 ?_ a3
    by_cases hjm:j=m
    ·subst hjm; exact B
    ·rw [getD_set_ne true hjm] at U; exact U
   refine wpOp_mono (fun a' w' D=>⟨fun q1 q2=>D.2.1 q1 (od O q2),ih (listed.setIfInBounds j true) a' w' (q.step T) r (ready_mono I (Ne.symm hji)) D.1 (D.2.1 a1 (od O G)) ?_⟩) h2
   rw [Array.setIfInBounds_comm _ _ hji]
   exact D.2.2
end
def NP (Q:Exit→cZ→World→Prop):Exit→cZ→World→Prop
 | .panic _,_,_=>False
 | .outgrown,_,_=>False
 | e,σ,w=>Q e σ w
def TD (X:Cx)(ops:Array Oper)(k:Nat)(V0:List HP)(fuel:Nat)(listed:Array Bool)(V:List HP)(σ:cZ)(Q:Exit→cZ→World→Prop):Prop :=
 ∀ a w,a.tmps.size=X.n.n→a.defers=X.n.ds→eU a=σ→Shut ops listed→St X.C w V→jK X.P ops (gM X.n (NP Q)) (fun w=>St X.C w V0) k fuel listed a w
def DK (X:Cx)(ops:Array Oper)(k:Nat)(V0:List HP)(fuel:Nat)(listed:Array Bool)(i:Nat)(Q:Exit→cZ→World→Prop):Exit→cZ→World→Prop
 | .normal,σ,w=>∀ a,a.tmps.size=X.n.n→a.defers=X.n.ds→eU a=σ→Shut ops (listed.setIfInBounds i true)→(Nat.blt i k=true→np ops k listed=true→St X.C w V0)∧jK X.P ops (gM X.n (NP Q)) (fun w=>St X.C w V0) k fuel (listed.setIfInBounds i true) a w
 | .panic _,_,_=>False
 | .outgrown,_,_=>False
 | e,σ,w=>Q e σ w
def y8 (X:Cx)(ops:Array Oper)(k:Nat)(V0:List HP)(fuel:Nat)(listed:Array Bool)(V:List HP)(σ:cZ)(Q:Exit→cZ→World→Prop):List Nat→Prop
 | []=>True
 | i::is=>(match ops[i]? with
  | some o=>TL X ops V σ [o] (DK X ops k V0 fuel listed i Q)
  | none=>False)∧y8 X ops k V0 fuel listed V σ Q is
section
variable {X:Cx}{V V0:List HP}{σ:cZ}{Q:Exit→cZ→World→Prop}{ops:Array Oper}{o:Oper}{k fuel:Nat}{listed:Array Bool}
variable {d:Nat}{op:Op}{ty:TypeId}{pos:String}{af:Array Edge}{gd:Option (Nat×Bool)}
theorem wg {r:Nat}{l:List Oper}(k:Nat)(V0:List HP)(m:X.P.follows .mixedOrders=true)(b:(jx l.toArray k&&Region.noSelect l.toArray)=true)
  (h:jx l.toArray k=true→Region.noSelect l.toArray=true→TD X l.toArray k V0 l.length (Array.replicate l.length false) V σ Q):TC X V σ (.region r l.toArray true) Q:=by
 intro w s a h1 h2 u
 rw [Bool.and_eq_true] at b
 refine wp_mono (P:=X.P) (Q:=gM X.n (NP Q)) (wp_region_any m (mi (S:=fun w=>St X.C w V0) (k:=k) _ _ _ _ ?_)) ?_
 ·have:=h b.1 b.2 a w.drew h1 h2 u (fun j o _ g=>by
   exfalso
   by_cases hj:j<l.length
   ·simp [Array.getElem?_replicate,hj] at g
   ·simp [Array.getElem?_replicate,hj] at g) s.drew
  simpa using this
 ·rintro e a w q
  refine mV q fun i=>?_
  cases e<;>first | exact i | exact i.elim
theorem wh (e:Region.ready .any ops listed=[])(h:TQ X V σ .normal Q):TD X ops k V0 fuel listed V σ Q:=by
 intro a w h1 h2 j _ s
 have b:gM X.n (NP Q) .normal a w:=.inl ⟨h1,h2,by rw [j]; exact h w s⟩
 cases fuel with
 | zero=>exact ⟨e,b⟩
 | succ fuel=>exact ⟨fun _=>b,by rw [e]; intro i g; cases g⟩
theorem At (i:Nat)(v:Value)(m:ops[i]?=some ⟨some d,op,ty,pos,af,gd⟩)(D:VO X V0 σ ⟨some d,op,ty,pos,af,gd⟩ v)(hw:dP ops σ ⟨some d,op,ty,pos,af,gd⟩=true)(E:iD X.n (some d)=true)
  (g:Nat.blt i k=true) (r:mh ops k i=true) (u:Region.noSelect ops=true) (e:(Region.free .any ops listed i&&(Region.ready .any ops listed).contains i)=true) (hS:∀ w,St X.C w V→St X.C w V0)
  (h:TD X ops k V0 fuel (listed.setIfInBounds i true) V (ku σ d v) Q):TD X ops k V0 (fuel+1) listed V σ Q:=by
 intro a w h1 h2 j b s
 rw [Bool.and_eq_true] at e
 obtain ⟨p1,F,B⟩:=kZ (o:=⟨some d,op,ty,pos,af,gd⟩) E h1 h2 j v
 have l:i∈Region.ready .any ops listed:=by simpa using e.2
 refine kD (v:=v) m g r (Region.noSelect_spec u) ?_ fuel listed a w b (Region.free_spec m e.1) l ?_ (hS w s) (h _ w p1 F B (b.step l) s)
 ·rintro c a w q
  exact (fG q (by simp)).2.2.elim
 ·exact .inl ⟨by rw [j8,j]; exact hw,fun w s=>by rw [jG,j]; exact D w s⟩
theorem Au (i:Nat)(v:Value)(l:ops[i]?=some ⟨some d,op,ty,pos,af,gd⟩)(e:VO X V0 σ ⟨some d,op,ty,pos,af,gd⟩ v)(hw:dP ops σ ⟨some d,op,ty,pos,af,gd⟩=true)(j:iD X.n (some d)=true)
  (a:Nat.blt i k=true) (g:jx ops k=true) (b:Region.noSelect ops=true) (m:(Region.free .any ops listed i&&(Region.ready .any ops listed).contains i)=true) (hS:∀ w,St X.C w V→St X.C w V0)
  (h:TD X ops k V0 fuel (listed.setIfInBounds i true) V (ku σ d v) Q):TD X ops k V0 (fuel+1) listed V σ Q :=
 At i v l e hw j a (pY g a) b m hS h
theorem wj (i:Nat)(l:ops[i]?=some ⟨some d,op,ty,pos,af,gd⟩)(hw:dP ops σ ⟨some d,op,ty,pos,af,gd⟩=false)(D:iD X.n (some d)=true)
  (g:Nat.blt i k=true) (r:mh ops k i=true) (u:Region.noSelect ops=true) (e:(Region.free .any ops listed i&&(Region.ready .any ops listed).contains i)=true) (hS:∀ w,St X.C w V→St X.C w V0)
  (h:TD X ops k V0 fuel (listed.setIfInBounds i true) V (ku σ d undef) Q):TD X ops k V0 (fuel+1) listed V σ Q:=by
 intro a w h1 h2 m b s
 rw [Bool.and_eq_true] at e
 obtain ⟨p1,E,B⟩:=kZ (o:=⟨some d,op,ty,pos,af,gd⟩) D h1 h2 m undef
 have j:i∈Region.ready .any ops listed:=by simpa using e.2
 refine kD (v:=undef) l g r (Region.noSelect_spec u) ?_ fuel listed a w b (Region.free_spec l e.1) j ?_ (hS w s) (h _ w p1 E B (b.step j) s)
 ·rintro c a w q
  exact (fG q (by simp)).2.2.elim
 ·exact .inr ⟨by rw [j8,m]; exact hw,rfl⟩
theorem y9 (i:Nat)(j:ops[i]?=some ⟨some d,op,ty,pos,af,gd⟩)(hw:dP ops σ ⟨some d,op,ty,pos,af,gd⟩=false)(g:iD X.n (some d)=true)
  (a:Nat.blt i k=true) (e:jx ops k=true) (b:Region.noSelect ops=true) (l:(Region.free .any ops listed i&&(Region.ready .any ops listed).contains i)=true) (hS:∀ w,St X.C w V→St X.C w V0)
  (h:TD X ops k V0 fuel (listed.setIfInBounds i true) V (ku σ d undef) Q):TD X ops k V0 (fuel+1) listed V σ Q :=
 wj i j hw g a (pY e a) b l hS h
theorem hT (rs:List Nat)(g:Region.ready .any ops listed=rs)(B:Nat.blt 0 rs.length=true)(h:y8 X ops k V0 fuel listed V σ Q rs):TD X ops k V0 (fuel+1) listed V σ Q:=by
 intro a w h1 h2 h3 I s
 refine ⟨fun h0=>(by rw [g] at h0; rw [h0] at B; cases B),fun i F=>?_⟩
 have D:=F
 rw [g] at F
 clear g B
 induction rs with
 | nil=>cases F
 | cons j rs ih =>
  rcases List.mem_cons.1 F with rfl | F
  ·have Z:=h.1
   obtain ⟨_,o,Y,_⟩:=mem_ready.1 D
   rw [Y] at Z
   have m:=Z w s a h1 h2 h3
   unfold wpOp
   simp only [Y]
   unfold wpList at m
   split
   ·rename_i hw
    rw [if_pos hw] at m
    have up:∀ r,o.upon X.P a (wpList X.P ops (gM X.n (DK X ops k V0 fuel listed i Q)) []) (gM X.n (DK X ops k V0 fuel listed i Q)) r →
      o.upon X.P a (fun E l=>(Nat.blt i k=true→np ops k listed=true→St X.C l V0)∧jK X.P ops (gM X.n (NP Q)) (fun w=>St X.C w V0) k fuel (listed.setIfInBounds i true) E l) (gM X.n (NP Q)) r:=by
     have hq:∀ c a w,gM X.n (DK X ops k V0 fuel listed i Q) (.panic c) a w→gM X.n (NP Q) (.panic c) a w:=by
      rintro c a w q
      exact (fG q (by simp)).2.2.elim
     have G:∀ E l,wpList X.P ops (gM X.n (DK X ops k V0 fuel listed i Q)) [] E l→(Nat.blt i k=true→np ops k listed=true→St X.C l V0)∧jK X.P ops (gM X.n (NP Q)) (fun w=>St X.C w V0) k fuel (listed.setIfInBounds i true) E l:=by
      rintro E l q
      obtain ⟨U,M,T⟩:=fG q (by simp)
      exact T E U M rfl (I.step D)
     intro r g
     match r,g with
     | .ok (.value v) l,g=>exact G _ _ g
     | .ok .skip l,g=>exact G _ _ g
     | .ok (.defer _) l,g=>exact G _ _ g
     | .ok (.enter f args) l,g =>
      refine Calls.mono' g ?_
      intro e J L
      cases e with
      | returned v=>exact G _ _ L
      | panicked c=>exact hq _ _ _ L
      | outgrown =>
       obtain ⟨b,u,O⟩:=L
       exact (fG O (by simp)).2.2.elim
     | .ok (.row row args) l,g=>exact Rows.mono g fun v J h=>G _ _ h
     | .halt (.panic v) l,g=>exact hq _ _ _ g
    rcases m with m | ⟨h1,b,u,O⟩
    ·exact .inl (up _ m)
    ·exact (fG O (by simp)).2.2.elim
   ·rename_i hw
    rw [if_neg hw] at m
    obtain ⟨U,M,T⟩:=fG m (by simp)
    exact T _ U M rfl (I.step D)
  ·exact ih h.2 F
theorem ya (i:Nat)(b:Region.ready .any ops listed=[i])(a:ops[i]?=some o)(h:TL X ops V σ [o] (DK X ops k V0 fuel listed i Q)):TD X ops k V0 (fuel+1) listed V σ Q :=
 hT [i] b rfl ⟨by rw [a]; exact h,trivial⟩
theorem aG {i:Nat}(hS:∀ w,St X.C w V→St X.C w V0)(h:TD X ops k V0 fuel (listed.setIfInBounds i true) V σ Q):TQ X V σ .normal (DK X ops k V0 fuel listed i Q) :=
 fun w s a h1 h2 e b=>⟨fun _ _=>hS w s,h a w h1 h2 e b s⟩
theorem wl {i:Nat}(e:Nat.blt i k=false)(h:TD X ops k V0 fuel (listed.setIfInBounds i true) V σ Q):TQ X V σ .normal (DK X ops k V0 fuel listed i Q) :=
 fun w s a h1 h2 g b=>⟨fun h=>(by rw [e] at h; cases h),h a w h1 h2 g b s⟩
end
end Go.Pg
namespace Go.Pg
section
variable {α:Type}{K:Kind α}{C w:World}{V:List HP}
theorem St.len {a:Option Addr}{n c:Nat}{xs:List α}(s:St C w V)(i:Nat)(h:jC (lk V i) K (.slice a n c) xs):n=xs.length:=by
 obtain ⟨J,lw,A,e,b,h2,j,g⟩:=s.reads h
 injection b
theorem St.cap {a:Option Addr}{n c:Nat}{xs:List α}(s:St C w V)(i:Nat)(h:jC (lk V i) K (.slice a n c) xs):n≤9223372036854775807:=by
 obtain ⟨J,lw,A,g,b,h2,e,j⟩:=s.reads h
 have:n=xs.length:=by injection b
 simp only [maxLen] at e
 omega
theorem St.dup {v:Value}{xs:List α}(s:St C w V)(i:Nat)(e:lk V i=aN K v xs):St C w (aN K v xs::V):=by
 obtain ⟨a,I,b,g,j,l,s⟩:=s
 obtain ⟨h1,h2,h,p,s'⟩:=eS i s
 rw [e] at p
 exact ⟨a,I,b,g,j,l,Hp.none,b,Join.none b,⟨rfl,p.2⟩,s⟩
theorem St.shr {e:Nat}{v:Value}{xs:List α}(s:St C w V)(i:Nat)(a:lk V i=ow K e v xs):St C w (aN K v xs::Pg.rm V i):=by
 have:=s.mv i
 unfold Pg.mv at this
 rw [a] at this
 exact St.share this (fun I J b l m p=>⟨rfl,kx l m p⟩)
theorem St.nilo (s:St C w V)(K:Kind α)(e:Nat):St C w (ow K e (.slice none 0 0) []::V) :=
 St.new s id (fun I _=>⟨Hp.none,.inl ⟨none,rfl,rfl,rfl⟩,fun _ _ e=>(by cases e),fun _ h=>absurd rfl h⟩) (fun _ _ h=>h)
theorem St.nilr (s:St C w V)(K:Kind α):St C w (aN K (.slice none 0 0) []::V) :=
 St.new s id (fun I _=>⟨Hp.none,⟨rfl,none,0,rfl,Nat.le_refl _,Nat.zero_le _,fun h=>absurd h (Nat.lt_irrefl _)⟩,fun _ _ e=>(by cases e),fun _ h=>absurd rfl h⟩) (fun _ _ h=>h)
end
section
variable {X:Cx}{V:List HP}{σ:cZ}{Q:Exit→cZ→World→Prop}{ops:Array Oper}{rest:List Oper}{o:Oper}{cd:Code}{ex:Exit}
variable {d:Option Nat}{ty:TypeId}{pos:String}{af:Array Edge}{gd:Option (Nat×Bool)}
variable {α β:Type}
theorem aL {K:Kind α}{a:Option Addr}{n c:Nat}{xs:List α}(i:Nat)(b:jC (lk V i) K (.slice a n c) xs)(h:n=xs.length→TL X ops V σ rest Q):TL X ops V σ rest Q:=fun w s=>h (s.len i b) w s
theorem bJ {K:Kind α}{a:Option Addr}{n c:Nat}{xs:List α}(i:Nat)(b:jC (lk V i) K (.slice a n c) xs)(h:n=xs.length→TC X V σ cd Q):TC X V σ cd Q:=fun w s=>h (s.len i b) w s
theorem hU {K:Kind α}{a:Option Addr}{n c:Nat}{xs:List α}(i:Nat)(b:jC (lk V i) K (.slice a n c) xs)(h:n=xs.length→TQ X V σ ex Q):TQ X V σ ex Q:=fun w s=>h (s.len i b) w s
theorem iP {V':List HP}(f:∀ w,St X.C w V→St X.C w V')(h:TL X ops V' σ rest Q):TL X ops V σ rest Q:=fun w s=>h w (f w s)
theorem yb {V':List HP}(f:∀ w,St X.C w V→St X.C w V')(h:TC X V' σ cd Q):TC X V σ cd Q:=fun w s=>h w (f w s)
theorem Av {V':List HP}(f:∀ w,St X.C w V→St X.C w V')(h:TQ X V' σ ex Q):TQ X V σ ex Q:=fun w s=>h w (f w s)
theorem bX {A:Type}{f:FuncId}{xs:Array Operand}{e:Array TypeId}{as:List Value}{b:List HP}{a:A→Value×List HP}(m:Nat)(h:iD X.n d=true)(hw:dP ops σ ⟨d,.call ⟨.value (.func f),xs,e⟩,ty,pos,af,gd⟩=true)
  (l:aW X.P f=true) (i:xs.toList.map (ev σ)=as) (g:FnOk X.P f as b a) (j:tk m V=b) (k:∀ x,TL X ops ((a x).2++dp m V) (fV σ d (a x).1) rest Q):TL X ops V σ (⟨d,.call ⟨.value (.func f),xs,e⟩,ty,pos,af,gd⟩::rest) Q :=
 wf h hw l i g (by rw [← j,md]) k
theorem cE {A:Type}{f:FuncId}{g:Operand}{fs cs:List Value}{xs:Array Operand}{b:Array TypeId}{as:List Value}{e:List HP}{a:A→Value×List HP}(m:Nat)(q:iD X.n d=true)(hw:dP ops σ ⟨d,.call ⟨.value g,xs,b⟩,ty,pos,af,gd⟩=true)
  (i:aW X.P f=true) (l:ev σ g=.func (.func f) fs.toArray cs.toArray) (h:fs++xs.toList.map (ev σ)++cs=as) (j:FnOk X.P f as e a) (r:tk m V=e) (k:∀ x,TL X ops ((a x).2++dp m V) (fV σ d (a x).1) rest Q):TL X ops V σ (⟨d,.call ⟨.value g,xs,b⟩,ty,pos,af,gd⟩::rest) Q :=
 u4 q hw i l h j (by rw [← r,md]) k
theorem AllC.append {A B:List HP}(a:AllC A)(b:AllC B):AllC (A++B):=by
 induction A with
 | nil=>exact b
 | cons p A ih=>exact ⟨a.1,ih a.2⟩
theorem lR {c a b:Operand}{k:Bool}{v e:Value}(g:ev σ c=.bool k)(h:k=true)(j:ev σ a=e)(i:e=v):VO X V σ ⟨d,.pick c a b,ty,pos,af,gd⟩ v:=iw (by
 simp only [pv,g,h,j,i,cond_true])
theorem lT {c a b:Operand}{k:Bool}{v e:Value}(g:ev σ c=.bool k)(h:k=false)(j:ev σ b=e)(i:e=v):VO X V σ ⟨d,.pick c a b,ty,pos,af,gd⟩ v:=iw (by
 simp only [pv,g,h,j,i,cond_false])
theorem wm {t j:TypeId}{x y:Operand}{a:Option Addr}{n c:Nat}{e:TypeId}(h:li X.P t=some e)(l:ev σ x=.slice a n c)(g:ev σ y=.slice none 0 0):VO X V σ ⟨d,.binOp .eql t x y j,ty,pos,af,gd⟩ (.bool a.isNone):=by
 intro w _
 have b:=iO h
 have i:(Op.equal t (.slice a n c) (.slice none 0 0)).run X.P w=.ok a.isNone w:=by
  unfold Op.equal
  rw [show Op.maxDepth=9999+1 from rfl]
  unfold Op.equalIn
  rw [Sem.run_bind,run_underlying b]
  cases a<;>rfl
 cases a<;>simp [execOp,l,g,eqGuard,binOp,i]
end
end Go.Pg
namespace Go.Pg
def fY (P:Program)(T:TypeId):Option (List (Nat×Nat)):=match P.underlying T with
 | some (.struct fs)=>fs.toList.mapM fun f=>(P.info? f.type).map fun i=>(f.offset,i.size)
 | _=>none
def pZ (ps:List (Nat×Nat)):List Value→List (Nat×Value)→Option (List Value)
 | z,[]=>some z
 | z,(i,v)::rest=>match qO ps i with
  | some (off,sz)=>cond (Nat.beq v.cells.toList.length sz&&Nat.ble (off+sz) z.length) (pZ ps (z.take off++v.cells.toList++z.drop (off+sz)) rest) none
  | none=>none
theorem rU:∀ (l:List Value) (a j:Nat) (cs:Array Value),a+j+l.length≤cs.size →
  ((l.zipIdx j).foldl (fun cs (c,j)=>cs.setIfInBounds (a+j) c) cs).toList=cs.toList.take (a+j)++l++cs.toList.drop (a+j+l.length):=by
 intro l
 induction l with
 | nil=>intro a j cs _; simp
 | cons u l ihl =>
  intro a j cs b
  simp only [List.zipIdx_cons,List.foldl_cons]
  rw [ihl a (j+1) _ (by simp at *; omega)]
  simp only [List.length_cons] at b
  rw [Array.toList_setIfInBounds,show a+(j+1)=(a+j)+1 by omega,List.take_succ_eq_append_getElem (by simp; omega),List.take_set_of_le (Nat.le_refl _),List.drop_set_of_lt (by omega)]
  simp [Nat.add_assoc,Nat.add_comm,Nat.add_left_comm]
theorem wo {ps:List (Nat×Nat)}:∀ (parts:List (Nat×Value)) (z:Array Value) (cs:List Value),pZ ps z.toList parts=some cs→∃ r,Instr.fill (ps.toArray[·]?) z parts=some r∧r.toList=cs:=by
 intro parts
 induction parts with
 | nil=>intro z cs h; exact ⟨z,rfl,Option.some.inj h⟩
 | cons p parts ih =>
  intro z cs h
  obtain ⟨i,v⟩:=p
  unfold pZ at h
  rw [ki] at h
  unfold Instr.fill
  have g:ps.toArray[i]?=ps[i]?:=by simp
  simp only [g]
  cases hp:ps[i]? with
  | none=>rw [hp] at h; cases h
  | some q =>
   obtain ⟨a,sz⟩:=q
   rw [hp] at h
   simp only at h ⊢
   cases hb:(Nat.beq v.cells.toList.length sz&&Nat.ble (a+sz) z.toList.length) with
   | false=>rw [hb] at h; cases h
   | true =>
    rw [hb] at h
    simp only [cond_true,Bool.and_eq_true] at h hb
    have h1:v.cells.size=sz:=by simpa using Nat.eq_of_beq_eq_true hb.1
    have h2:a+sz≤z.size:=by simpa using Nat.le_of_ble_eq_true hb.2
    have b:¬ (v.cells.size≠sz∨a+v.cells.size>z.size):=by rw [h1]; omega
    rw [if_neg (by simpa using b)]
    have e:v.cells.zipIdx.foldl (fun cs (c,j)=>cs.setIfInBounds (a+j) c) z=(v.cells.toList.zipIdx 0).foldl (fun cs (c,j)=>cs.setIfInBounds (a+j) c) z:=by
     rw [← Array.foldl_toList]
     congr 1
     simp
    rw [e]
    refine ih _ cs ?_
    rw [rU _ _ _ _ (by simp [h1]; omega)]
    simpa [h1] using h
section
variable {X:Cx}{V:List HP}{σ:cZ}{Q:Exit→cZ→World→Prop}{ops:Array Oper}{rest:List Oper}{o:Oper}
variable {d:Option Nat}{ty:TypeId}{pos:String}{af:Array Edge}{gd:Option (Nat×Bool)}
variable {α β:Type}
theorem oe {P:Program}{w:World}:∀ (fs:List Field) (ps:List (Nat×Nat)),fs.mapM (fun f=>(P.info? f.type).map fun i=>(f.offset,i.size))=some ps →
  (fs.mapM (fun f=>(do pure (f.offset,← sizeOf f.type):Sem (Nat×Nat)))).run P w=.ok ps w:=by
 intro fs
 induction fs with
 | nil=>intro ps h; simp at h; subst h; rfl
 | cons f fs ih =>
  intro ps h
  rw [List.mapM_cons] at h ⊢
  cases hi:P.info? f.type with
  | none=>rw [hi] at h; cases h
  | some i =>
   rw [hi] at h
   cases hm:fs.mapM (fun f=>(P.info? f.type).map fun i=>(f.offset,i.size)) with
   | none=>rw [hm] at h; cases h
   | some qs =>
    rw [hm] at h
    obtain rfl:=Option.some.inj h
    have h1:=ih qs hm
    simp only [Sem.run_bind,Sem.run_pure,Result.andThen_ok,eI (show hK P f.type=some i.size by simp [hK,hi]),h1]
theorem aX {T:TypeId}{parts:Array (Nat×Operand)}{cs z:List Value}{ps:List (Nat×Nat)}{l:List (Nat×Value)}(a:fY X.P T=some ps)(s:kv X.P T=some z)(E:parts.toList.map (fun p=>(p.1,ev σ p.2))=l)(u:pZ ps z l=some cs) :
  VO X V σ ⟨d,.build T parts,ty,pos,af,gd⟩ (.agg cs.toArray):=by
 intro w _
 unfold fY at a
 split at a
 ·rename_i fs D
  obtain ⟨F,h,e⟩:=kz (P:=X.P) (w:=w) s
  have B:=oe (P:=X.P) (w:=w) _ _ a
  obtain ⟨r,q,j⟩:=wo (ps:=ps) l z.toArray cs (by simpa using u)
  have m:(parts.map fun (i,x)=>(i,ev σ x)).toList=l:=by
   rw [← E]; simp
  have b:(fs.mapM (fun f=>(do pure (f.offset,← sizeOf f.type):Sem (Nat×Nat)))).run X.P w=.ok ps.toArray w:=by
   rw [show fs=fs.toList.toArray by simp,List.mapM_toArray,Sem.run_map]
   exact congrArg (fun r=>Result.andThen r _) B
  have g:r=cs.toArray:=by apply Array.ext'; simpa using j
  simp only [execOp,Instr.build,Sem.run_bind,h,Result.andThen_ok,run_underlying D,b,m,e,q,g,Sem.run_pure]
 ·cases a
def nq (K:Kind α){A:Type}(cells:A→α→List Value)(b:A→α→List HP):Prop:=∀ I h x cs,K.own I h x cs→∃ a,cs=cells a x∧eQ (b a x) I Hp.none
theorem og {A:Type}{cells:A→α→List Value}{q:A→α→List HP}{K:Kind α}{C w:World}{e g o n c:Nat}{xs:List α}(s:St C w V)(i:Nat)(Z:nq K cells q)(hV:lk V i=ow K e (.slice (some ⟨g,o,none⟩) n c) xs){j:Nat}{x:α}(M:xs[j]?=some x) :
  ∃ a,(∀ k u,(cells a x)[k]?=some u→w.cell? ⟨g,o+j*K.sz+k,none⟩=some u)∧(cells a x).length=K.sz∧St C w (q a x++V):=by
 obtain ⟨T,I,h,g0,L,l,st⟩:=s
 obtain ⟨h1,h2,j',p,s'⟩:=eS i st
 rw [hV] at p
 have p:o0 K e I h1 (.slice (some ⟨g,o,none⟩) n c) xs:=p
 rcases p with ⟨A,J,rfl,_⟩|⟨g',c',pre,m,b,fr,hb,J,q2,q3,q4,q5,O,ol⟩
 ·simp at M
 injection J with e1 e2 e3
 injection e1 with e1
 injection e1 with e1 e4
 subst e1; subst e4
 obtain ⟨a1,c1,b1,g1,g2,Y,G,jn,D,E⟩:=kw ol M
 obtain ⟨a,rfl,B⟩:=Z _ _ _ _ D
 have r:w.heap[g]?=some (.cells (pre++m++b).toArray e fr):=l g _ (L.right g _ (j'.left g _ (O.left g _ (by simp [Hp.one]))))
 refine ⟨a,fun k u F=>?_,K.own_len D,T,I,h,g0,L,l,cD.2 ⟨Hp.none,h,Join.none h,B,st⟩⟩
 have U:=(List.getElem?_eq_some_iff.1 F).1
 have:w.cell? ⟨g,pre.length+j*K.sz+k,none⟩=(pre++m++b)[pre.length+j*K.sz+k]?:=by simp [World.cell?,r]
 rw [this,List.append_assoc,List.getElem?_append_right (by omega),Y,show pre.length+j*K.sz+k - pre.length=j*K.sz+k by omega,List.append_assoc,List.append_assoc,List.getElem?_append_right (by omega),show j*K.sz+k - a1.length=k by omega,List.getElem?_append_left U]
 exact F
theorem yc [Inhabited α]{A:Type}{cells:A→α→List Value}{b:A→α→List HP}{K:Kind α}{T:TypeId}{x:Operand}{e g o n c:Nat}{xs:List α}(i:Nat)(j:Int)(I:iD X.n d=true)(hw:dP ops σ ⟨d,.load T x,ty,pos,af,gd⟩=true)(B:eX X.P T=some true)(q:hK X.P T=some K.sz)
  (F:nq K cells b) (m:lk V i=ow K e (.slice (some ⟨g,o,none⟩) n c) xs) (J:ev σ x=.pointer (some ⟨g,o+j.toNat*K.sz,none⟩)) (G:0≤j) (h1:j<n)
  (h:∀ a,TL X ops (b a (ix xs j)++V) (fV σ d (.agg (cells a (ix xs j)).toArray)) rest Q):TL X ops V σ (⟨d,.load T x,ty,pos,af,gd⟩::rest) Q:=by
 intro w s
 have L:n=xs.length:=s.len i (by rw [m]; exact aB)
 obtain ⟨a,E,l,s'⟩:=og s i F m (ja G (by omega))
 refine eN I hw ?_
 have:=eY (P:=X.P) (w:=w) (a:=⟨g,o+j.toNat*K.sz,none⟩) (cs:=cells a (ix xs j)) B (by rw [l]; exact q) (fun k u D=>by rw [fS]; exact E k u D)
 have r:(execOp (ev σ) ⟨d,.load T x,ty,pos,af,gd⟩).run X.P w=.ok (.value (.agg (cells a (ix xs j)).toArray)) w:=by
  simp only [execOp,Instr.loadAt,J,Instr.sureAddr,Sem.run_bind,Sem.run_pure,Result.andThen_ok,this]
 rw [r]
 exact h a w s'
theorem wq [Inhabited α]{A:Type}{cells:A→α→List Value}{b:A→α→List HP}{K:Kind α}{T:TypeId}{x:Operand}{e g o n c fo:Nat}{xs:List α}{pr:A→α→Value}(i:Nat)(j:Int)(F:iD X.n d=true)(hw:dP ops σ ⟨d,.load T x,ty,pos,af,gd⟩=true)(u:eX X.P T=some false)
  (D:nq K cells b) (q:∀ a x,qO (cells a x) fo=some (pr a x)) (m:lk V i=ow K e (.slice (some ⟨g,o,none⟩) n c) xs) (G:ev σ x=.pointer (some ⟨g,o+j.toNat*K.sz+fo,none⟩)) (E:0≤j) (h1:j<n)
  (h:∀ a,TL X ops (b a (ix xs j)++V) (fV σ d (pr a (ix xs j))) rest Q):TL X ops V σ (⟨d,.load T x,ty,pos,af,gd⟩::rest) Q:=by
 intro w s
 have I:n=xs.length:=s.len i (by rw [m]; exact aB)
 obtain ⟨a,B,l,s'⟩:=og s i D m (ja E (by omega))
 refine eN F hw ?_
 have:=eM (P:=X.P) (w:=w) (a:=⟨g,o+j.toNat*K.sz+fo,none⟩) u (B fo _ (by rw [← ki]; exact q a _))
 have r:(execOp (ev σ) ⟨d,.load T x,ty,pos,af,gd⟩).run X.P w=.ok (.value (pr a (ix xs j))) w:=by
  simp only [execOp,Instr.loadAt,G,Instr.sureAddr,Sem.run_bind,Sem.run_pure,Result.andThen_ok,this]
 rw [r]
 exact h a w s'
theorem St.seps {C w:World}{p:HP}{A V:List HP}(s:St C w (p::(A++V))):St C w (⟨fun I h=>∃ h1 h2,Join h1 h2 h∧p.p I h1∧eQ A I h2,fun l ⟨h1,h2,j,a,b⟩=>⟨h1,h2,j,p.mono l a,iB l b⟩⟩::V):=by
 obtain ⟨a,I,h,g,j,l,h1,h2,m,c,s⟩:=s
 obtain ⟨u,i,r,d,e⟩:=cD.1 s
 obtain ⟨k,k1,q⟩:=Join.assoc' r m
 exact ⟨a,I,h,g,j,l,k,i,q,⟨h1,u,k1,c,d⟩,e⟩
theorem eA [Inhabited α]{K:Kind α}{T e:TypeId}{x y:Operand}{g o n c:Nat}{xs:List α}{vs:List Value}{x':α}(k:Nat)(j:Int)(hd:iD X.n d=true)(hw:dP ops σ ⟨d,.store T x y,ty,pos,af,gd⟩=true)(hs:hK X.P T=some K.sz)
  (hx:ev σ x=.pointer (some ⟨g,o+j.toNat*K.sz,none⟩)) (hy:(ev σ y).cells.toList=vs) (h0:0≤j) (h1:j<n) (ho:∀ I h,eQ (tk k V) I h→K.own I h x' vs)
  (h:TL X ops (ow K e (.slice (some ⟨g,o,none⟩) n c) (xs.set j.toNat x')::dp k V) (fV σ d undef) rest Q):TL X ops (ow K e (.slice (some ⟨g,o,none⟩) n c) xs::V) σ (⟨d,.store T x y,ty,pos,af,gd⟩::rest) Q:=by
 intro w s
 have s2:St X.C w (_::dp k V):=St.seps (A:=tk k V) (V:=dp k V) (by rw [md]; exact s)
 obtain ⟨_,O,hr,s'⟩:=St.act s2 0 (q:=fun _:Unit=>ow K e (.slice (some ⟨g,o,none⟩) n c) (xs.set j.toNat x')) (Ψ:=fun _ O=>(execOp (ev σ) ⟨d,.store T x y,ty,pos,af,gd⟩).run X.P w=.ok .skip O) (by
  rintro I hh ⟨a6,hA,B,p,a4⟩ lI lw dj
  have G:=ho I hA a4
  have p:o0 K e I a6 (.slice (some ⟨g,o,none⟩) n c) xs:=p
  rcases p with ⟨A,hv,rfl,_⟩|⟨g',c',pre,i,a,fr,hb,hv,h2,h3,h4,L,E,ol⟩
  ·injection hv with _ hv _
   omega
  injection hv with l U e3
  injection l with l
  injection l with l e4
  subst l; subst e3; subst e4; subst U
  obtain ⟨J,c1,Z,g1,g2,hc,a8,jn,ox,a0⟩:=kw ol (ja h0 h1)
  have a3:=K.own_len ox
  have a2:=K.own_len G
  have M:w.heap[g]?=some (.cells (pre++i++a).toArray e fr):=lw g _ (B.left g _ (E.left g _ (by simp [Hp.one])))
  have a9:i.length=J.length+c1.length+Z.length:=by rw [hc]; simp [Nat.add_assoc]
  obtain ⟨O,r,e',ot,sm⟩:=jI (P:=X.P) (N:=(pre++i++a).length) (T:=e) (fr:=fr) (b:=g) (by simpa [Nat.add_assoc] using L) vs (pre.length+j.toNat*K.sz) 0 (pre++i++a) w rfl M (by simp only [List.length_append]; omega) (K.own_one G)
  obtain ⟨m,jm⟩:=Join.of_disj (h1:=hA) (h2:=g2) (fun b=>by
   rcases B.disj b with f | f
   ·exact .inr ((jn.is_none b).1 ((E.is_none b).1 f).2).2
   ·exact .inl f)
  have a7:pre++i++a=(pre++i++a):=rfl
  have Y:(pre++i++a).take (pre.length+j.toNat*K.sz+0)++vs++(pre++i++a).drop (pre.length+j.toNat*K.sz+0+vs.length)=pre++(J++vs++Z)++a:=by
   have l:pre++i++a=(pre++J)++(c1++(Z++a)):=by rw [hc]; simp [List.append_assoc]
   have U:pre.length+j.toNat*K.sz+0=(pre++J).length:=by rw [List.length_append]; omega
   rw [l,U,List.take_left,List.drop_append,List.drop_of_length_le (by omega),List.nil_append,Nat.add_sub_cancel_left,a2,← a3,List.drop_left]
   simp [List.append_assoc]
  obtain ⟨h',D⟩:=Join.of_disj (h1:=Hp.one g (.cells (pre++(J++vs++Z)++a).toArray e fr)) (h2:=m) (fun b=>by
   by_cases hbg:b=g
   ·subst hbg
    refine .inr ((jm.is_none b).2 ⟨?_,?_⟩)
    ·rcases B.disj b with f | f
     ·have:=((E.is_none b).1 f).1
      simp [Hp.one] at this
     ·exact f
    ·rcases E.disj b with f | f
     ·simp [Hp.one] at f
     ·exact ((jn.is_none b).1 f).2
   ·exact .inl (by simp [Hp.one,hbg]))
  refine ⟨(),O,h',?_,sm _,?_,?_,?_,?_⟩
  ·have a5:(ev σ y).cells.size=K.sz:=by rw [← a2,← hy]; simp
   simp only [execOp,Instr.storeAt,hx,Instr.sureAddr,Sem.run_bind,Sem.run_pure,Result.andThen_ok,storeVar,eI hs,hy,a5,ne_eq,not_true_eq_false,if_false,r]
  ·refine .inr ⟨g,_,pre,J++vs++Z,a,fr,m,by rw [List.length_set],by rw [List.length_set]; exact h2,h3,by rw [List.length_set]; exact h4,?_,D,a0 I hA x' vs m (Hp.le_refl I) jm G⟩
   rcases L with L | L
   ·exact .inl L
   ·refine .inr ?_
    simp only [List.length_append] at *
    omega
  ·intro b o' l
   rcases D.cases l with ⟨l,_⟩|⟨l,U⟩
   ·simp only [Hp.one] at l
    split at l
    ·rename_i F
     subst F
     rw [← Option.some.inj l,e',Y]
    ·cases l
   ·have u:b≠g:=by rintro rfl; simp [Hp.one] at U
    rw [ot b u]
    rcases jm.cases l with ⟨l,_⟩|⟨l,_⟩
    ·exact lw b _ (B.right b _ l)
    ·exact lw b _ (B.left b _ (E.right b _ (jn.right b _ l)))
  ·intro b F
   refine .inl fun hn=>F ?_
   have q1:=(B.is_none b).1 hn
   have q2:=(E.is_none b).1 q1.1
   refine (D.is_none b).2 ⟨?_,(jm.is_none b).2 ⟨q1.2,((jn.is_none b).1 q2.2).2⟩⟩
   have:=q2.1
   simp only [Hp.one] at *
   split at this
   ·cases this
   ·rename_i u; rw [if_neg u]
  ·intro b o' hn l
   have q1:=(B.is_none b).1 hn
   have q2:=((E.is_none b).1 q1.1).1
   have u:b≠g:=by rintro rfl; simp [Hp.one] at q2
   rw [ot b u]
   exact l)
 exact eN hd hw (by rw [hr]; exact h O s')
end
end Go.Pg
namespace Go.Pg
structure DecK {α:Type}(K:Kind α) where
 A:Type
 cells:A→α→List Value
 ents:A→α→List HP
 dec:Ag K cells ents
section
variable {α β:Type}
def DecK.scal (enc:α→Value)(h1:∀ x,(enc x).oneCell'=true):DecK (Kind.scal enc h1):=⟨Unit,fun _ x=>[enc x],fun _ _=>[],fun I x cs h=>⟨(),h,rfl⟩⟩
def DecK.sl (e:Nat)(K:Kind α):DecK (Kind.sl e K):=⟨Option Addr×Nat,fun a xs=>[.slice a.1 xs.length a.2],fun a xs=>[aN K (.slice a.1 xs.length a.2) xs],fun I x cs h=>by
 obtain ⟨v,rfl,r⟩:=h
 obtain ⟨a,c,rfl⟩:=o8 r
 exact ⟨(a,c),rfl,Hp.none,Hp.none,Join.none _,⟨rfl,r⟩,rfl⟩⟩
def DecK.pair {A:Kind α}{B:Kind β}(a:DecK A)(b:DecK B):DecK (Kind.pair A B):=⟨a.A×b.A,fun p x=>a.cells p.1 x.1++b.cells p.2 x.2,fun p x=>a.ents p.1 x.1++b.ents p.2 x.2,fun I x cs h=>by
 obtain ⟨i,j,rfl,h1,h2⟩:=h
 obtain ⟨p,rfl,e⟩:=a.dec _ _ _ h1
 obtain ⟨q,rfl,g⟩:=b.dec _ _ _ h2
 exact ⟨(p,q),rfl,cD.2 ⟨Hp.none,Hp.none,Join.none _,e,g⟩⟩⟩
def DecK.iso {K:Kind α}(a:DecK K)(f:β→α):DecK (Kind.iso K f):=⟨a.A,fun p x=>a.cells p (f x),fun p x=>a.ents p (f x),fun I x cs h=>a.dec I (f x) cs h⟩
theorem DecK.own {K:Kind α}(a:DecK K):nq K.share a.cells a.ents:=fun I h x cs o=>a.dec I x cs o.2
theorem DecK.leaf {K:Kind α}(a:DecK K){fo:Nat}{pr:α→Value}(h:∀ p x,qO (a.cells p x) fo=some (pr x)):y5 K fo pr:=fun I x cs b=>by
 obtain ⟨p,rfl,_⟩:=a.dec I x cs b
 exact h p x
structure MkS {α:Type}(K:Kind α) where
 A:Type
 cells:A→α→List Value
 ents:A→α→List HP
 put:∀ I h a x,eQ (ents a x) I h→h=Hp.none∧K.rd I x (cells a x)
structure MkO {α:Type}(K:Kind α) where
 A:Type
 cells:A→α→List Value
 ents:A→α→List HP
 put:∀ I h a x,eQ (ents a x) I h→K.own I h x (cells a x)
def MkS.scal (enc:α→Value)(h1:∀ x,(enc x).oneCell'=true):MkS (Kind.scal enc h1):=⟨Unit,fun _ x=>[enc x],fun _ _=>[],fun I h a x s=>⟨s,rfl⟩⟩
def MkS.sl (e:Nat)(K:Kind α):MkS (Kind.sl e K):=⟨Value,fun v _=>[v],fun v xs=>[aN K v xs],fun I h a x s=>by
 obtain ⟨h1,h2,j,⟨rfl,r⟩,e⟩:=s
 have e:h2=Hp.none:=e
 subst e
 exact ⟨j.eq_of_none,a,rfl,r⟩⟩
def MkS.pair {A:Kind α}{B:Kind β}(a:MkS A)(b:MkS B):MkS (Kind.pair A B):=⟨a.A×b.A,fun p x=>a.cells p.1 x.1++b.cells p.2 x.2,fun p x=>a.ents p.1 x.1++b.ents p.2 x.2,fun I h p x s=>by
 obtain ⟨h1,h2,j,e,m⟩:=cD.1 s
 obtain ⟨l,g⟩:=a.put _ _ _ _ e
 obtain ⟨q,i⟩:=b.put _ _ _ _ m
 subst l; subst q
 exact ⟨j.eq_of_none,_,_,rfl,g,i⟩⟩
def MkS.iso {K:Kind α}(a:MkS K)(f:β→α):MkS (Kind.iso K f):=⟨a.A,fun p x=>a.cells p (f x),fun p x=>a.ents p (f x),fun I h p x s=>a.put I h p (f x) s⟩
def MkO.scal (enc:α→Value)(h1:∀ x,(enc x).oneCell'=true):MkO (Kind.scal enc h1):=⟨Unit,fun _ x=>[enc x],fun _ _=>[],fun I h a x s=>⟨s,rfl⟩⟩
def MkO.sl (e:Nat)(K:Kind α):MkO (Kind.sl e K):=⟨Value,fun v _=>[v],fun v xs=>[ow K e v xs],fun I h a x s=>by
 obtain ⟨h1,h2,j,o,b⟩:=s
 have b:h2=Hp.none:=b
 subst b
 rw [j.symm.eq_of_none]
 exact ⟨a,rfl,o⟩⟩
def MkO.pair {A:Kind α}{B:Kind β}(a:MkO A)(b:MkO B):MkO (Kind.pair A B):=⟨a.A×b.A,fun p x=>a.cells p.1 x.1++b.cells p.2 x.2,fun p x=>a.ents p.1 x.1++b.ents p.2 x.2,fun I h p x s=>by
 obtain ⟨h1,h2,j,e,g⟩:=cD.1 s
 exact ⟨h1,h2,_,_,j,rfl,a.put _ _ _ _ e,b.put _ _ _ _ g⟩⟩
def MkO.iso {K:Kind α}(a:MkO K)(f:β→α):MkO (Kind.iso K f):=⟨a.A,fun p x=>a.cells p (f x),fun p x=>a.ents p (f x),fun I h p x s=>a.put I h p (f x) s⟩
structure SpO {α:Type}(K:Kind α) where
 A:Type
 cells:A→α→List Value
 ents:A→α→List HP
 sp:∀ I h x cs,K.own I h x cs→∃ a,cs=cells a x∧eQ (ents a x) I h
theorem rV {L:Kind β}{e:Nat}{I h:Hp}{v:Value}{ys:List β}(r:o0 L e I h v ys):∃ a c,v=.slice a ys.length c:=by
 rcases r with ⟨A,rfl,rfl,_⟩|⟨g,c,pre,i,b,fr,h1,rfl,_⟩
 ·exact ⟨A,0,rfl⟩
 ·exact ⟨_,c,rfl⟩
def SpO.scal (enc:α→Value)(h1:∀ x,(enc x).oneCell'=true):SpO (Kind.scal enc h1):=⟨Unit,fun _ x=>[enc x],fun _ _=>[],fun I h x cs o=>⟨(),o.2,o.1⟩⟩
def SpO.sl (e:Nat)(K:Kind α):SpO (Kind.sl e K):=⟨Option Addr×Nat,fun a xs=>[.slice a.1 xs.length a.2],fun a xs=>[ow K e (.slice a.1 xs.length a.2) xs],fun I h x cs o=>by
 obtain ⟨v,rfl,r⟩:=o
 obtain ⟨a,c,rfl⟩:=rV r
 exact ⟨(a,c),rfl,h,Hp.none,Join.none' _,r,rfl⟩⟩
def SpO.pair {A:Kind α}{B:Kind β}(a:SpO A)(b:SpO B):SpO (Kind.pair A B):=⟨a.A×b.A,fun p x=>a.cells p.1 x.1++b.cells p.2 x.2,fun p x=>a.ents p.1 x.1++b.ents p.2 x.2,fun I h x cs o=>by
 obtain ⟨h1,h2,i,l,j,rfl,o1,o2⟩:=o
 obtain ⟨p,rfl,e⟩:=a.sp _ _ _ _ o1
 obtain ⟨q,rfl,g⟩:=b.sp _ _ _ _ o2
 exact ⟨(p,q),rfl,cD.2 ⟨h1,h2,j,e,g⟩⟩⟩
def SpO.iso {K:Kind α}(a:SpO K)(f:β→α):SpO (Kind.iso K f):=⟨a.A,fun p x=>a.cells p (f x),fun p x=>a.ents p (f x),fun I h x cs o=>a.sp I h (f x) cs o⟩
structure Zr {α:Type}(K:Kind α) where
 z:α
 cs:List Value
 len:cs.length=K.sz
 own:∀ I,K.own I Hp.none z cs
def Zr.scal (enc:α→Value)(h1:∀ x,(enc x).oneCell'=true)(z:α):Zr (Kind.scal enc h1):=⟨z,[enc z],rfl,fun I=>⟨rfl,rfl⟩⟩
def Zr.sl (e:Nat)(K:Kind α):Zr (Kind.sl e K):=⟨[],[.slice none 0 0],rfl,fun I=>⟨_,rfl,.inl ⟨none,rfl,rfl,rfl⟩⟩⟩
def Zr.pair {A:Kind α}{B:Kind β}(a:Zr A)(b:Zr B):Zr (Kind.pair A B):=⟨(a.z,b.z),a.cs++b.cs,by rw [List.length_append,a.len,b.len]; rfl,fun I=>⟨Hp.none,Hp.none,_,_,Join.none _,rfl,a.own I,b.own I⟩⟩
def Zr.iso {K:Kind α}(a:Zr K)(f:β→α)(z:β)(h:f z=a.z):Zr (Kind.iso K f):=⟨z,a.cs,a.len,fun I=>by show K.own I Hp.none (f z) a.cs; rw [h]; exact a.own I⟩
def Zr.share {K:Kind α}(a:Zr K):Zr K.share:=⟨a.z,a.cs,a.len,fun I=>⟨rfl,K.own_rd (Hp.le_refl I) (Hp.none_le I) (a.own I)⟩⟩
theorem Zr.zk {P:Program}{K:Kind α}{e:TypeId}(a:Zr K)(h:kv P e=some a.cs):o9 P K e a.z:=⟨a.cs,h,a.len,a.own⟩
theorem p8 {K:Kind α}{I J:Hp}(l:Hp.le I J):∀ (xs:List α) (h:Hp) (cs:List Value),Hp.le h J→gF K I h xs cs→gF K.share J Hp.none xs cs:=by
 intro xs
 induction xs with
 | nil=>intro h cs _ o; exact ⟨rfl,o.2⟩
 | cons x xs ih =>
  rintro h cs g ⟨h1,h2,m,i,j,e,a,b⟩
  exact ⟨Hp.none,Hp.none,m,i,Join.none _,e,⟨rfl,K.own_rd l (Hp.le_trans j.left g) a⟩,ih h2 i (Hp.le_trans j.right g) b⟩
theorem St.wk {C w:World}{V:List HP}{K:Kind α}{e:Nat}{v:Value}{xs:List α}(s:St C w V)(i:Nat)(U:lk V i=ow K e v xs):St C w (ow K.share e v xs::Pg.rm V i):=by
 obtain ⟨a,I,h,g,j,l,s⟩:=s.mv i
 obtain ⟨h1,h2,u,p,s'⟩:=s
 rw [U] at p
 have p:o0 K e I h1 v xs:=p
 rcases p with ⟨A,rfl,rfl,rfl⟩|⟨b,c,pre,r,q,fr,L,rfl,Y,q3,q4,q5,B,Z⟩
 ·exact ⟨a,I,h,g,j,l,Hp.none,h2,u,.inl ⟨A,rfl,rfl,rfl⟩,s'⟩
 ·obtain ⟨k,k1,k2⟩:=Join.assoc' u j
  obtain ⟨J,E⟩:=Join.of_disj (h1:=I) (h2:=L) (fun x=>by
   rcases k1.disj x with f | f
   ·exact .inl f
   ·exact .inr ((B.is_none x).1 f).2)
  obtain ⟨M,F⟩:=Join.of_disj (h1:=Hp.one b (.cells (pre++r++q).toArray e fr)) (h2:=h2) (fun x=>by
   rcases u.disj x with f | f
   ·exact .inl ((B.is_none x).1 f).1
   ·exact .inr f)
  obtain ⟨G,O⟩:=Join.of_disj (h1:=J) (h2:=M) (fun x=>by
   by_cases hx:J x=Option.none
   ·exact .inl hx
   ·refine .inr ((F.is_none x).2 ?_)
    cases hI:I x with
    | some o =>
     have:h x=Option.none:=by
      rcases j.disj x with f | f
      ·rw [hI] at f; cases f
      ·exact f
     have:=(u.is_none x).1 this
     exact ⟨((B.is_none x).1 this.1).1,this.2⟩
    | none =>
     have D:L x≠Option.none:=fun T=>hx ((E.is_none x).2 ⟨hI,T⟩)
     refine ⟨?_,?_⟩
     ·rcases B.disj x with f | f
      ·exact f
      ·exact absurd f D
     ·rcases u.disj x with f | f
      ·exact absurd ((B.is_none x).1 f).2 D
      ·exact f)
  refine ⟨a,J,M,G,O,?_,_,h2,F,.inr ⟨b,c,pre,r,q,fr,Hp.none,rfl,Y,q3,q4,q5,Join.none' _,p8 E.left xs L r E.right Z⟩,iB E.left s'⟩
  intro x o m
  rcases O.cases m with ⟨m,_⟩|⟨m,_⟩
  ·rcases E.cases m with ⟨m,_⟩|⟨m,_⟩
   ·exact l x o (j.left x o m)
   ·exact l x o (j.right x o (u.left x o (B.right x o m)))
  ·rcases F.cases m with ⟨m,_⟩|⟨m,_⟩
   ·exact l x o (j.right x o (u.left x o (B.left x o m)))
   ·exact l x o (j.right x o (u.right x o m))
end
section
variable {X:Cx}{V:List HP}{σ:cZ}{Q:Exit→cZ→World→Prop}{ops:Array Oper}{rest:List Oper}
variable {d:Option Nat}{ty:TypeId}{pos:String}{af:Array Edge}{gd:Option (Nat×Bool)}
theorem dT {T:TypeId}{x:Operand}{b k n:Nat}{cs ds:List Value}{l:Nat}(i:Nat)(h:eX X.P T=some true)(a:hK X.P T=some n)
  (j:lk V i=aJ b cs l) (m:ev σ x=.pointer (some ⟨b,k,none⟩)) (g:(cs.drop k).take n=ds) (e:ds.length=n):VO X V σ ⟨d,.load T x,ty,pos,af,gd⟩ (.agg ds.toArray):=by
 subst g
 exact tY i h a j m e
end
section
variable {α:Type}
theorem MkO.list {K:Kind α}(M:MkO K):∀ (ps:List (M.A×α)) (I h:Hp),eQ (ps.flatMap fun p=>M.ents p.1 p.2) I h→gF K I h (ps.map (·.2)) (ps.flatMap fun p=>M.cells p.1 p.2):=by
 intro ps
 induction ps with
 | nil=>intro I h s; exact ⟨s,rfl⟩
 | cons p ps ih =>
  intro I h s
  rw [List.flatMap_cons] at s
  obtain ⟨h1,h2,j,a,b⟩:=cD.1 s
  exact ⟨h1,h2,_,_,j,by rw [List.flatMap_cons],M.put _ _ _ _ a,ih I h2 b⟩
theorem MkS.list {K:Kind α}(M:MkS K):∀ (ps:List (M.A×α)) (I h:Hp),eQ (ps.flatMap fun p=>M.ents p.1 p.2) I h→gF K.share I h (ps.map (·.2)) (ps.flatMap fun p=>M.cells p.1 p.2):=by
 intro ps
 induction ps with
 | nil=>intro I h s; exact ⟨s,rfl⟩
 | cons p ps ih =>
  intro I h s
  rw [List.flatMap_cons] at s
  obtain ⟨h1,h2,j,a,b⟩:=cD.1 s
  exact ⟨h1,h2,_,_,j,by rw [List.flatMap_cons],M.put _ _ _ _ a,ih I h2 b⟩
theorem DecK.flat {K:Kind α}(a:DecK K){b:α→List Value}(h:∀ p x,a.cells p x=b x):∀ I x cs,K.rd I x cs→cs=b x:=fun I x cs r=>by
 obtain ⟨p,rfl,_⟩:=a.dec I x cs r
 exact h p x
end
theorem wr {a b:Bool}(g:a=true)(e:b=true):(a&&b)=true:=by rw [g,e]; rfl
theorem cT {a:Bool}(b:a=false):(!a)=true:=by rw [b]; rfl
theorem vb {a b:Bool}(h:a=b):Value.bool a=Value.bool b:=by rw [h]
def bQ {α:Type}[Inhabited α](c:Bool)(x:Option α):Option α:=cond c x (some default)
theorem bN {α:Type}[Inhabited α]{c:Bool}{x:Option α}{r:α}(h:bQ c x=some r)(a:c=true):x=some r:=by
 rw [a] at h
 exact h
section
variable {X:Cx}{V:List HP}{σ:cZ}{Q:Exit→cZ→World→Prop}{ops:Array Oper}{rest:List Oper}
variable {d:Option Nat}{ty:TypeId}{pos:String}{af:Array Edge}{gd:Option (Nat×Bool)}
theorem jf {S:TypeId}{x:Operand}{f fo b k a:Nat}(i:cW X.P S f=some fo)(g:ev σ x=.pointer (some ⟨b,k,none⟩))(e:k+fo=a):VO X V σ ⟨d,.fieldAddr S x f,ty,pos,af,gd⟩ (.pointer (some ⟨b,a,none⟩)):=by
 have h:=tZ (X:=X) (V:=V) (d:=d) (ty:=ty) (pos:=pos) (af:=af) (gd:=gd) i g
 rw [fS,e] at h
 exact h
theorem iQ {A:Type}{x:Code}(pf:A→Prop)(b:A→List (Nat×Value))(g:A→List HP)(l:TC X V σ x (iu (Jn X pf b g) Q))(h:∀ a σ',pf a→TQ X (g a) (oX σ' (b a)) .normal Q):TC X V σ x Q:=by
 intro w s
 refine W.mono (l w s) ?_
 intro e σ' i q
 cases e with
 | normal =>
  obtain ⟨a,j,h1,h2⟩:=q
  have:=h a σ' j i h2
  rw [l3 h1] at this
  exact this
 | _=>exact q
theorem eJ {T:TypeId}{x:Operand}{g k fo:Nat}{v:Value}{cs:List Value}(i:Nat)(b:eX X.P T=some false)(e:lk V i=cl g k cs)(h:ev σ x=.pointer (some ⟨g,k+fo,none⟩))(a:qO cs fo=some v):VO X V σ ⟨d,.load T x,ty,pos,af,gd⟩ v:=by
 intro w s
 have:=pV s i e fo v (by rw [← ki]; exact a)
 simp only [execOp,Instr.loadAt,h,Instr.sureAddr,Sem.run_bind,Sem.run_pure,Result.andThen_ok,eM b this]
theorem eE {T:TypeId}{x:Operand}{g k fo n:Nat}{cs ds:List Value}(i:Nat)(h:eX X.P T=some true)(e:hK X.P T=some n)(q:lk V i=cl g k cs)(r:ev σ x=.pointer (some ⟨g,k+fo,none⟩))(m:(cs.drop fo).take n=ds)(l:ds.length=n) :
  VO X V σ ⟨d,.load T x,ty,pos,af,gd⟩ (.agg ds.toArray):=by
 intro w s
 have:=pV s i q
 have h2:=eY (P:=X.P) (w:=w) (a:=⟨g,k+fo,none⟩) (cs:=ds) h (by rw [l]; exact e) (fun j u b=>by
  rw [fS,Nat.add_assoc]
  refine this _ _ ?_
  rw [← m,List.getElem?_take] at b
  split at b
  ·rwa [List.getElem?_drop] at b
  ·cases b)
 simp only [execOp,Instr.loadAt,r,Instr.sureAddr,Sem.run_bind,Sem.run_pure,Result.andThen_ok,h2]
end
section
variable {α:Type}{P:Program}{f:FuncId}{args:List Value}
def p':List HP→List HP→Prop
 | [],[]=>True
 | p::A',q::A=>(∀ I J h,Hp.le I J→Hp.le h J→p.p I h→q.p J Hp.none)∧p' A' A
 | _,_=>False
theorem aV {K:Kind α}{e:Nat}{v:Value}{xs:List α}:∀ I J h,Hp.le I J→Hp.le h J→(ow K e v xs).p I h→(aN K v xs).p J Hp.none:=fun I J h l m p=>⟨rfl,kx l m p⟩
theorem q8 {K:Kind α}{e:Nat}{v:Value}{xs:List α}:∀ I J h,Hp.le I J→Hp.le h J→(ow K.share e v xs).p I h→(aN K v xs).p J Hp.none:=fun I J h l m p=>⟨rfl,kx (K:=K.share) l m p⟩
theorem eW {K:Kind α}{e:Nat}{v:Value}{xs:List α}:jC (ow K.share e v xs) K v xs:=aB (K:=K.share)
theorem St.shs {C w:World}{V:List HP}{K:Kind α}{e:Nat}{v:Value}{xs:List α}(s:St C w V)(i:Nat)(a:lk V i=ow K.share e v xs):St C w (aN K v xs::Pg.rm V i):=St.shr (K:=K.share) s i a
theorem p9:∀ (A' A:List HP),p' A' A→∀ I J h,Hp.le I J→Hp.le h J→eQ A' I h→eQ A J Hp.none:=by
 intro A'
 induction A' with
 | nil =>
  intro A e I J h _ _ s
  cases A with
  | nil=>rfl
  | cons q A=>exact e.elim
 | cons p A' ih =>
  intro A e I J h lI g s
  cases A with
  | nil=>exact e.elim
  | cons q A =>
   obtain ⟨h1,h2,j,a,b⟩:=s
   exact ⟨Hp.none,Hp.none,Join.none _,e.1 I J h1 lI (Hp.le_trans j.left g) a,ih A e.2 I J h2 lI (Hp.le_trans j.right g) b⟩
theorem FnOk.lends {T:Type}{A' A B:List HP}{a:T→Value×List HP}(Y:FnOk P f args (A++B) a)(Z:p' A' A)(L:∀ x,AllC (a x).2):FnOk P f args (A'++B) (fun x=>((a x).1,A'++(a x).2)):=by
 rintro C w V ⟨M,I,hh,g,j,lw,G⟩
 rw [List.append_assoc] at G
 obtain ⟨h1,h2,j',p,s⟩:=cD.1 G
 obtain ⟨s1,l,j2,O,sV⟩:=cD.1 s
 obtain ⟨k,k1,U⟩:=Join.assoc' j' j
 have st:St C w (A++B++(BF I::BF h1::V.map (Ar I))):=by
  refine ⟨M,k,h2,g,U,lw,?_⟩
  rw [List.append_assoc]
  exact cD.2 ⟨Hp.none,h2,Join.none h2,p9 A' A Z I k h1 k1.left k1.right p,cD.2 ⟨s1,l,j2,iB k1.left O,Hp.none,l,Join.none l,⟨rfl,k1.left⟩,Hp.none,l,Join.none l,⟨rfl,k1.right⟩,u5 k1.left sV⟩⟩
 refine Calls.mono' (Y C w _ st) ?_
 rintro e' w' ⟨x,rfl,D,I',q,g',r,h,F⟩
 refine ⟨x,rfl,D,?_⟩
 obtain ⟨q1,q2,jq,sR,b1,b2,jb,⟨rfl,lI⟩,c1,c2,jc,⟨rfl,J⟩,u⟩:=cD.1 F
 have e1:=jb.eq_of_none
 have e2:=jc.eq_of_none
 subst e2; subst e1
 have dj:∀ b,h1 b=Option.none∨q b=Option.none:=fun b=>by
  cases hb:h1 b with
  | none=>exact .inl rfl
  | some o =>
   refine .inr ?_
   rcases r.disj b with f | f
   ·rw [J b o hb] at f; cases f
   ·exact f
 obtain ⟨m,E⟩:=Join.of_disj dj
 obtain ⟨g2,i⟩:=Join.of_disj (h1:=I) (h2:=m) (fun b=>by
  cases hb:I b with
  | none=>exact .inl rfl
  | some o =>
   refine .inr ((E.is_none b).2 ⟨?_,?_⟩)
   ·rcases k1.disj b with f | f
    ·rw [hb] at f; cases f
    ·exact f
   ·rcases r.disj b with f | f
    ·rw [lI b o hb] at f; cases f
    ·exact f)
 refine ⟨I,m,g2,i,?_,?_⟩
 ·intro b o e
  rcases i.cases e with ⟨e,_⟩|⟨e,_⟩
  ·exact h b o (r.left b o (lI b o e))
  ·rcases E.cases e with ⟨e,_⟩|⟨e,_⟩
   ·exact h b o (r.left b o (J b o e))
   ·exact h b o (r.right b o e)
 ·rw [List.append_assoc]
  exact cD.2 ⟨h1,q,E,p,cD.2 ⟨q1,q2,jq,oc (Aq (L x)) sR,u6 u⟩⟩
end
end Go.Pg
namespace Go.Pg
def iR (i j:Nat):Nat:=cond (Nat.blt i j) (j - 1) j
def pa:Nat→List Nat→Bool
 | _,[]=>true
 | n,i::is=>Nat.blt i n&&is.all (fun j=>!Nat.beq i j)&&pa n is
theorem yd:∀ (A:List HP) (i j:Nat),i≠j→lk (rm A i) (iR i j)=lk A j:=by
 intro A
 induction A with
 | nil=>intro i j _; cases i<;>rfl
 | cons p A ih =>
  intro i j a
  cases i with
  | zero =>
   cases j with
   | zero=>exact absurd rfl a
   | succ j=>rfl
  | succ i =>
   cases j with
   | zero =>
    have:iR (i+1) 0=0:=by simp [iR,Nat.blt]
    rw [this]; rfl
   | succ j =>
    have b:iR (i+1) (j+1)=iR i j+1:=by
     have g:Nat.blt (i+1) (j+1)=Nat.blt i j:=by
      cases h:Nat.blt i j with
      | true=>have:=Nat.le_of_ble_eq_true h; exact Nat.ble_eq_true_of_le (by omega)
      | false =>
       cases h2:Nat.blt (i+1) (j+1) with
       | false=>rfl
       | true =>
        have:=Nat.le_of_ble_eq_true h2
        have l:Nat.blt i j=true:=Nat.ble_eq_true_of_le (by omega)
        rw [l] at h; cases h
     unfold iR
     rw [g]
     cases h:Nat.blt i j with
     | true=>have:=Nat.le_of_ble_eq_true h; show j+1 - 1=j - 1+1; omega
     | false=>rfl
    rw [b]
    exact ih i j (fun e=>a (by rw [e]))
theorem rW {I:Hp}:∀ (n:Nat) (is:List Nat) (A:List HP) (h:Hp),is.length≤n→(∀ i∈is,i<A.length)→is.Nodup→eQ A I h→∃ B,Hp.le B h∧eQ (is.map (lk A)) I B:=by
 intro n
 induction n with
 | zero =>
  intro is A h J _ _ _
  have:is=[]:=List.eq_nil_of_length_eq_zero (by omega)
  subst this
  exact ⟨Hp.none,Hp.none_le _,rfl⟩
 | succ n ih =>
  intro is A h J u E s
  cases is with
  | nil=>exact ⟨Hp.none,Hp.none_le _,rfl⟩
  | cons i is =>
   obtain ⟨h1,h2,j,a,b⟩:=eS i s
   have m:=List.nodup_cons.1 E
   have M:=u i (by simp)
   have O:(rm A i).length+1=A.length:=by
    clear ih J u E m s j a b h1 h2
    induction A generalizing i with
    | nil=>cases M
    | cons p A ihA =>
     cases i with
     | zero=>rfl
     | succ i=>exact congrArg (·+1) (ihA i (by simpa using M))
   have q:∀ x∈is,x≠i:=fun x r e=>m.1 (e▸r)
   obtain ⟨B,l,s'⟩:=ih (is.map (iR i)) (rm A i) h2 (by simp at J ⊢; omega) (by
    intro x r
    obtain ⟨y,G,rfl⟩:=List.mem_map.1 r
    have Y:=u y (by simp [G])
    have Z:=q y G
    unfold iR
    cases hb:Nat.blt i y with
    | true=>have:=Nat.le_of_ble_eq_true hb; show y - 1<_; omega
    | false =>
     have:¬ i<y:=fun D=>by
      have F:Nat.blt i y=true:=Nat.ble_eq_true_of_le D
      rw [F] at hb; cases hb
     show y<_
     omega) (by
    unfold List.Nodup
    rw [List.pairwise_map]
    refine List.Pairwise.imp_of_mem (fun {x y} r G hne=>?_) m.2
    have Y:=q x r
    have Z:=q y G
    intro e
    unfold iR at e
    cases hb:Nat.blt i x<;>cases hc:Nat.blt i y<;>rw [hb,hc] at e
    ·exact hne e
    ·have:=Nat.le_of_ble_eq_true hc
     have L:¬ i<x:=fun D=>by
      have F:Nat.blt i x=true:=Nat.ble_eq_true_of_le D
      rw [F] at hb; cases hb
     have e:x=y - 1:=e
     omega
    ·have:=Nat.le_of_ble_eq_true hb
     have L:¬ i<y:=fun D=>by
      have F:Nat.blt i y=true:=Nat.ble_eq_true_of_le D
      rw [F] at hc; cases hc
     have e:x - 1=y:=e
     omega
    ·have:=Nat.le_of_ble_eq_true hb
     have:=Nat.le_of_ble_eq_true hc
     have e:x - 1=y - 1:=e
     omega) b
   have U:(is.map (iR i)).map (lk (rm A i))=is.map (lk A):=by
    rw [List.map_map]
    refine List.map_congr_left fun x r=>?_
    exact yd A i x (fun e=>q x r e.symm)
   rw [U] at s'
   obtain ⟨g,T⟩:=Join.of_disj (h1:=h1) (h2:=B) (fun b=>by
    rcases j.disj b with f | f
    ·exact .inl f
    ·refine .inr ?_
     cases hq:B b with
     | none=>rfl
     | some o=>rw [l b o hq] at f; cases f)
   refine ⟨g,fun b o e=>?_,h1,B,T,a,s'⟩
   rcases T.cases e with ⟨e,_⟩|⟨e,_⟩
   ·exact j.left b o e
   ·exact j.right b o (l b o e)
theorem qT:∀ (n:Nat) (is:List Nat),pa n is=true→(∀ i∈is,i<n)∧is.Nodup:=by
 intro n is
 induction is with
 | nil=>intro _; exact ⟨fun _ h=>(by cases h),List.nodup_nil⟩
 | cons i is ih =>
  intro h
  simp only [pa,Bool.and_eq_true,List.all_eq_true,Bool.not_eq_true'] at h
  obtain ⟨⟨h1,h2⟩,g⟩:=h
  obtain ⟨g1,b⟩:=ih g
  refine ⟨fun x a=>?_,List.nodup_cons.2 ⟨fun e=>?_,b⟩⟩
  ·rcases List.mem_cons.1 a with rfl | a
   ·exact Nat.lt_of_lt_of_le (Nat.lt_succ_self _) (Nat.le_of_ble_eq_true h1)
   ·exact g1 x a
  ·have:=h2 i e
   rw [show Nat.beq i i=true from Nat.beq_refl i] at this
   cases this
theorem ws:∀ (n:Nat) (V:List HP),n≤V.length→(tk n V).length=n:=by
 intro n
 induction n with
 | zero=>intro V _; rfl
 | succ n ih =>
  intro V h
  cases V with
  | nil=>simp at h
  | cons p V=>exact congrArg (·+1) (ih V (by simpa using h))
theorem ye:∀ (n:Nat) (V:List HP) (i:Nat),i<n→lk (tk n V) i=lk V i:=by
 intro n
 induction n with
 | zero=>intro V i h; cases h
 | succ n ih =>
  intro V i h
  cases V with
  | nil=>rfl
  | cons p V =>
   cases i with
   | zero=>rfl
   | succ i=>exact ih V i (by omega)
def xR:Nat→List HP→Bool
 | 0,_=>true
 | _+1,[]=>false
 | n+1,_::V=>xR n V
theorem rX:∀ (n:Nat) (V:List HP),xR n V=true→n≤V.length:=by
 intro n
 induction n with
 | zero=>intro V _; exact Nat.zero_le _
 | succ n ih =>
  intro V h
  cases V with
  | nil=>cases h
  | cons p V=>exact Nat.succ_le_succ (ih V h)
theorem St.sel {C w:World}{V:List HP}(s:St C w V)(n:Nat)(is:List Nat)(h:pa n is=true)(r:xR n V=true):St C w (is.map (lk V)++dp n V):=by
 obtain ⟨h1,h2⟩:=qT n is h
 have r:=rX n V r
 rw [← md n V] at s
 obtain ⟨a,I,Y,g,j,l,s⟩:=s
 obtain ⟨g1,E,B,T,O⟩:=cD.1 s
 obtain ⟨q,D,L⟩:=rW is.length is (tk n V) g1 (Nat.le_refl _) (fun i u=>by rw [ws n V r]; exact h1 i u) h2 T
 have U:is.map (lk (tk n V))=is.map (lk V):=List.map_congr_left fun i u=>ye n V i (h1 i u)
 rw [U] at L
 obtain ⟨m,J⟩:=Join.of_disj (h1:=q) (h2:=E) (fun b=>by
  rcases B.disj b with f | f
  ·refine .inl ?_
   cases hq:q b with
   | none=>rfl
   | some o=>rw [D b o hq] at f; cases f
  ·exact .inr f)
 have F:Hp.le m Y:=fun b o e=>by
  rcases J.cases e with ⟨e,_⟩|⟨e,_⟩
  ·exact B.left b o (D b o e)
  ·exact B.right b o e
 obtain ⟨G,M⟩:=Join.of_disj (h1:=I) (h2:=m) (fun b=>by
  rcases j.disj b with f | f
  ·exact .inl f
  ·refine .inr ?_
   cases hq:m b with
   | none=>rfl
   | some o=>rw [F b o hq] at f; cases f)
 refine ⟨a,I,m,G,M,fun b o e=>?_,cD.2 ⟨q,E,J,L,O⟩⟩
 rcases M.cases e with ⟨e,_⟩|⟨e,_⟩
 ·exact l b o (j.left b o e)
 ·exact l b o (j.right b o (F b o e))
section
variable {X:Cx}{V:List HP}{σ:cZ}{Q:Exit→cZ→World→Prop}{cd:Code}{α:Type}
theorem wt {K:Kind α}{a:Option Addr}{n c:Nat}{xs:List α}(i:Nat)(m:jC (lk V i) K (.slice a n c) xs)(b:a.isNone=true)(h:xs=[]→TC X V σ cd Q):TC X V σ cd Q:=by
 intro w s
 obtain ⟨J,lw,A,q,l,h2,r,e⟩:=s.reads m
 refine h ?_ w s
 cases xs with
 | nil=>rfl
 | cons x xs =>
  obtain ⟨g,o,j,_⟩:=e (by simp)
  injection l with e1 _ _
  rw [e1,j] at b
  cases b
end
end Go.Pg
namespace Go.Pg
theorem SetL.flat {α:Type}{K:Kind α}(S:SpO K)(M:MkO K)(A:M.A){fo:Nat}{v:Value}{f:α→α}(h1:Nat.blt fo K.sz=true)(h2:∀ a x,S.ents a x=[])(e:∀ x,M.ents A (f x)=[])(b:∀ a x,(S.cells a x).set fo v=M.cells A (f x)):SetL K fo v f:=by
 refine ⟨Nat.lt_of_lt_of_le (Nat.lt_succ_self _) (Nat.le_of_ble_eq_true h1),fun I h x cs o=>?_⟩
 obtain ⟨a,rfl,s⟩:=S.sp I h x cs o
 rw [h2] at s
 have s:h=Hp.none:=s
 subst s
 rw [b]
 exact M.put I Hp.none A (f x) (by rw [e]; rfl)
theorem SetL.deep {α:Type}{K:Kind α}(S:SpO K)(M:MkO K)(c:S.A→α→M.A){fo:Nat}{v:Value}{f:α→α}(h1:Nat.blt fo K.sz=true)(h2:∀ a x,S.ents a x=M.ents (c a x) (f x))(b:∀ a x,(S.cells a x).set fo v=M.cells (c a x) (f x)):SetL K fo v f:=by
 refine ⟨Nat.lt_of_lt_of_le (Nat.lt_succ_self _) (Nat.le_of_ble_eq_true h1),fun I h x cs o=>?_⟩
 obtain ⟨a,rfl,s⟩:=S.sp I h x cs o
 rw [b]
 exact M.put I h (c a x) (f x) (by rw [← h2]; exact s)
end Go.Pg
namespace Go.Pg
section
variable {α:Type}
def u9 (K:Kind α)(e:Nat)(v:Value)(xs:List α)(j:Nat)(cs:List Value):HP where
 p I h:=∃ g c pre i m a fr h1,v=.slice (some ⟨g,pre.length,none⟩) xs.length c∧xs.length≤c∧c≤maxLen∧a.length=(c - xs.length)*K.sz ∧
  (fr=(0,0)∨pre.length+(i++cs++m).length+a.length≤fr.1)∧i.length=j*K.sz∧Join (Hp.one g (.cells (pre++(i++cs++m)++a).toArray e fr)) h1 h ∧
  ∀ q r x' b s,Hp.le I q→Join r h1 s→K.own q r x' b→gF K q s (xs.set j x') (i++b++m)
 mono:=by
  rintro I J h l ⟨g,c,pre,i,m,a,fr,h1,p1,G,D,M,E,F,B,L⟩
  exact ⟨g,c,pre,i,m,a,fr,h1,p1,G,D,M,E,F,B,fun q r x' b s u=>L q r x' b s (Hp.le_trans l u)⟩
theorem St.focus [Inhabited α]{K:Kind α}{C w:World}{V:List HP}{e g o n c:Nat}{xs:List α}(S:SpO K)(s:St C w V)(i:Nat)(j:Int)(hV:lk V i=ow K e (.slice (some ⟨g,o,none⟩) n c) xs)(h0:0≤j)(h1:j<n) :
  ∃ a,St C w (u9 K e (.slice (some ⟨g,o,none⟩) n c) xs j.toNat (S.cells a (ix xs j))::(S.ents a (ix xs j)++Pg.rm V i)):=by
 obtain ⟨O,I,hh,gg,jg,l,B,h2,jS,p,st⟩:=s.mv i
 rw [hV] at p
 have p:o0 K e I B (.slice (some ⟨g,o,none⟩) n c) xs:=p
 rcases p with ⟨A,r,rfl,_⟩|⟨G,c',pre,F,b,fr,hb,r,q2,q3,q4,q5,L,ol⟩
 ·injection r with _ r _
  omega
 injection r with e1 e2 e3
 injection e1 with e1
 injection e1 with e1 e4
 subst e1; subst e3; subst e4; subst e2
 obtain ⟨a1,c1,M,g1,U,E,q,jn,ox,h⟩:=kw ol (ja h0 h1)
 obtain ⟨a,rfl,D⟩:=S.sp _ _ _ _ ox
 obtain ⟨m,m1,m2⟩:=Join.assoc' jn.symm L
 obtain ⟨k,k1,T⟩:=Join.assoc m2 jS
 exact ⟨a,O,I,hh,gg,jg,l,m,k,T,⟨g,_,pre,a1,M,b,fr,U,rfl,q2,q3,q4,by rw [← E]; exact q5,q,by rw [← E]; exact m1,fun I' Y x' u G J jj Z=>h I' Y x' u G J jj Z⟩,cD.2 ⟨g1,h2,k1,D,st⟩⟩
theorem St.unfocus {K:Kind α}{C w:World}{E V:List HP}{e j:Nat}{v:Value}{xs:List α}{cs:List Value}(x':α)(s:St C w (u9 K e v xs j cs::(E++V)))(f:∀ I h,eQ E I h→K.own I h x' cs):St C w (ow K e v (xs.set j x')::V):=by
 obtain ⟨u,I,J,T,jg,l,h1,h2,L,⟨g,c,pre,r,B,a,fr,hb,rfl,O,q3,Z,Y,q6,q,b⟩,st⟩:=s
 obtain ⟨i,M,D,G,sV⟩:=cD.1 st
 obtain ⟨k,k1,F⟩:=Join.assoc' D L
 obtain ⟨m,m1,U⟩:=Join.assoc q k1
 refine ⟨u,I,J,T,jg,l,k,M,F,.inr ⟨g,c,pre,r++cs++B,a,fr,m,by rw [List.length_set],by rw [List.length_set]; exact O,q3,by rw [List.length_set]; exact Z,Y,U,b I i x' cs m (Hp.le_refl I) m1.symm (f I i G)⟩,sV⟩
end
section
variable {X:Cx}{V:List HP}{σ:cZ}{Q:Exit→cZ→World→Prop}{ops:Array Oper}{rest:List Oper}{cd:Code}
variable {d:Option Nat}{ty:TypeId}{pos:String}{af:Array Edge}{gd:Option (Nat×Bool)}{α:Type}
theorem lU [Inhabited α]{K:Kind α}{e g o n c:Nat}{xs:List α}(S:SpO K)(i:Nat)(j:Int)(l:lk V i=ow K e (.slice (some ⟨g,o,none⟩) n c) xs)(b:0≤j)(h1:j<n)
  (h:∀ a,TL X ops (u9 K e (.slice (some ⟨g,o,none⟩) n c) xs j.toNat (S.cells a (ix xs j))::(S.ents a (ix xs j)++Pg.rm V i)) σ rest Q):TL X ops V σ rest Q:=by
 intro w s
 obtain ⟨a,s'⟩:=s.focus S i j l b h1
 exact h a w s'
theorem rY {K:Kind α}{C w:World}{e g o n c j:Nat}{xs:List α}{cs:List Value}(s:St C w V)(i:Nat)(D:lk V i=u9 K e (.slice (some ⟨g,o,none⟩) n c) xs j cs):∀ k u,cs[k]?=some u→w.cell? ⟨g,o+j*K.sz+k,none⟩=some u:=by
 obtain ⟨I,G,p,lI,B,_⟩:=s.look i
 rw [D] at p
 obtain ⟨M,F,pre,h,l,a,fr,O,E,J,Y,U,T,L,q,_⟩:=p
 injection E with e1 e2 e3
 injection e1 with e1
 injection e1 with e1 e4
 subst e1; subst e4
 have b:w.heap[g]?=some (.cells (pre++(h++cs++l)++a).toArray e fr):=B g _ (q.left g _ (by simp [Hp.one]))
 intro k u m
 have r:=(List.getElem?_eq_some_iff.1 m).1
 have:w.cell? ⟨g,pre.length+j*K.sz+k,none⟩=(pre++(h++cs++l)++a)[pre.length+j*K.sz+k]?:=by simp [World.cell?,b]
 rw [this,List.append_assoc,List.getElem?_append_right (by omega),show pre.length+j*K.sz+k - pre.length=j*K.sz+k by omega,List.append_assoc,List.append_assoc,List.getElem?_append_right (by omega),show j*K.sz+k - h.length=k by omega,List.getElem?_append_left r]
 exact m
theorem nr {K:Kind α}{T:TypeId}{x:Operand}{e g o n c fo j:Nat}{xs:List α}{v:Value}{cs:List Value}(i:Nat)(a:eX X.P T=some false)(h:lk V i=u9 K e (.slice (some ⟨g,o,none⟩) n c) xs j cs)(l:ev σ x=.pointer (some ⟨g,o+j*K.sz+fo,none⟩))(b:qO cs fo=some v):VO X V σ ⟨d,.load T x,ty,pos,af,gd⟩ v:=by
 intro w s
 have:=rY s i h fo v (by rw [← ki]; exact b)
 simp only [execOp,Instr.loadAt,l,Instr.sureAddr,Sem.run_bind,Sem.run_pure,Result.andThen_ok,eM a this]
end
end Go.Pg
namespace Go.Pg
def pf (φ:Prop):HP:=⟨fun _ h=>h=Hp.none∧φ,fun _ e=>e⟩
section
variable {C w:World}{V:List HP}
end
section
variable {X:Cx}{V:List HP}{σ:cZ}{Q:Exit→cZ→World→Prop}{ops:Array Oper}{rest:List Oper}{o:Oper}{cd:Code}{ex:Exit}
variable {d:Option Nat}{ty:TypeId}{pos:String}{af:Array Edge}{gd:Option (Nat×Bool)}
variable {α:Type}
end
end Go.Pg
