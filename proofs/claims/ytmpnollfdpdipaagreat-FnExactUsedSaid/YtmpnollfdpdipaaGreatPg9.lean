import Derived.Test.YtmpnollfdpdipaaGreatPg1
import Derived.Deep.Quiet
import Derived.KernelRfl
import Derived.OrdersHeld
set_option linter.unusedVariables false
set_option linter.unusedSimpArgs false
namespace Go.Pg
def tk:Nat→List HP→List HP
 | 0,_=>[]
 | _,[]=>[]
 | k+1,q::V=>q::tk k V
def dp:Nat→List HP→List HP
 | 0,V=>V
 | _,[]=>[]
 | k+1,_::V=>dp k V
theorem mm (k:Nat)(V:List HP):tk k V++dp k V=V:=by
 induction k generalizing V with
 | zero=>rfl
 | succ k ih =>
  cases V with
  | nil=>rfl
  | cons q V=>simp [tk,dp,ih]
section
variable {X:Cx}{V:List HP}{σ:dA}{Q:Exit→dA→World→Prop}{ops:Array Oper}{rest:List Oper}
variable {d:Option Nat}{ty:TypeId}{pos:String}{af:Array Edge}{gd:Option (Nat×Bool)}
variable {α β:Type}
theorem eD {K:Kind α}{t e:TypeId}{x y:Operand}{s u:Value}{xs ys:List α}{z:α}{q:HP}{b:Nat}(N:Nat)(J:iH X.n d=true)(hw:dS ops σ ⟨d,.call ⟨.builtin .append,#[x,y],#[t,t]⟩,ty,pos,af,gd⟩=true)
  (M:lv X.P t=some e) (T:hN X.P e=some K.sz) (hb:gH X.P e=some b) (hz:og X.P K e z) (i:Nat.blt 0 K.sz=true) (B:Nat.ble (N*b) 140737488355328=true) (g:Nat.ble N 140737488355328=true) (l:Nat.blt 0 b=true)
  (hx:ev σ x=s) (hy:ev σ y=u) (r:An q K u ys) (F:xs.length+ys.length≤N)
  (h:∀ a c,TL X ops (ow K e (.slice a (xs++ys).length c) (xs++ys)::V) (fW σ d (.slice a (xs++ys).length c)) rest Q) :
  TL X ops (ow K e s xs::q::V) σ (⟨d,.call ⟨.builtin .append,#[x,y],#[t,t]⟩,ty,pos,af,gd⟩::rest) Q:=by
 intro w st
 have B:=Nat.le_of_ble_eq_true B
 have g:=Nat.le_of_ble_eq_true g
 have i:0<K.sz:=Nat.le_of_ble_eq_true i
 have l:0<b:=Nat.le_of_ble_eq_true l
 have E:(xs.length+ys.length)*b≤140737488355328:=Nat.le_trans (Nat.mul_le_mul_right _ F) B
 obtain ⟨⟨a,c⟩,m,Z,s'⟩:=St.act st.sep 0 (q:=fun p:Option Addr×Nat=>ow K e (.slice p.1 (xs++ys).length p.2) (xs++ys))
  (Ψ:=fun p m=>(Builtin.append_ #[t,t] ty #[s,u]).run X.P w=.ok (.slice p.1 (xs++ys).length p.2) m) (by
   rintro I hh ⟨h1,h2,j,p1,G⟩ lI O dj
   obtain ⟨a,c,m,h',U,r2,Y,r4,r5,L⟩:=uc (ty:=ty) M T hb hz i j p1 G r lI O dj E (Nat.le_trans F g) l
   exact ⟨⟨a,c⟩,m,h',U,r2 _,Y,r4,r5,L⟩)
 refine eM J hw ?_
 have D:(execOp (ev σ) ⟨d,.call ⟨.builtin .append,#[x,y],#[t,t]⟩,ty,pos,af,gd⟩).run X.P w=.ok (.value (.slice a (xs++ys).length c)) m:=by
  simp [execOp,resolve,invoke,builtin,hx,hy,Z]
 rw [D]
 exact h a c m s'
theorem rY {size:Nat}:∀ (vs:List Value) (k:Nat) (cells:Array Value),(∀ v∈vs,v.cells.size=size)→(k+vs.length)*size≤cells.size →
  ∃ r,Instr.fill (fun i=>some (i*size,size)) cells ((List.range' k vs.length).zip vs)=some r∧r.toList=cells.toList.take (k*size)++(vs.map (·.cells.toList)).flatten++cells.toList.drop ((k+vs.length)*size):=by
 intro vs
 induction vs with
 | nil=>intro k cells _ _; exact ⟨cells,by simp [Instr.fill],by simp⟩
 | cons v vs ih =>
  intro k cells q s
  have h1:=q v (by simp)
  have g:(k+1+vs.length)*size≤cells.size:=by simpa [Nat.add_assoc,Nat.add_comm 1] using s
  have G:k*size+size≤cells.size:=by
   have:(k+1)*size≤(k+1+vs.length)*size:=Nat.mul_le_mul_right _ (by omega)
   rw [Nat.succ_mul] at this
   omega
  have b:∀ (l:List Value) (j:Nat) (cs:Array Value),k*size+j+l.length≤cs.size →
    ((l.zipIdx j).foldl (fun cs (c,j)=>cs.setIfInBounds (k*size+j) c) cs).toList=cs.toList.take (k*size+j)++l++cs.toList.drop (k*size+j+l.length):=by
   intro l
   induction l with
   | nil=>intro j cs _; simp
   | cons u l ihl =>
    intro j cs m
    simp only [List.zipIdx_cons,List.foldl_cons]
    rw [ihl (j+1) _ (by simp at *; omega)]
    simp only [List.length_cons] at m
    rw [Array.toList_setIfInBounds,show k*size+(j+1)=(k*size+j)+1 by omega,List.take_succ_eq_append_getElem (by simp; omega),List.take_set_of_le (Nat.le_refl _),List.drop_set_of_lt (by omega)]
    simp [Nat.add_assoc,Nat.add_comm,Nat.add_left_comm]
  have h:((v.cells.toList.zipIdx 0).foldl (fun cs (c,j)=>cs.setIfInBounds (k*size+j) c) cells).size=cells.size:=by
   generalize v.cells.toList.zipIdx 0=l
   clear h1 ih s g G b q
   induction l generalizing cells with
   | nil=>rfl
   | cons u l ihl=>simp only [List.foldl_cons]; rw [ihl]; simp
  obtain ⟨r,E,e⟩:=ih (k+1) ((v.cells.toList.zipIdx 0).foldl (fun cs (c,j)=>cs.setIfInBounds (k*size+j) c) cells) (fun u D=>q u (by simp [D])) (by rw [h]; exact g)
  refine ⟨r,?_,?_⟩
  ·simp only [List.length_cons,List.range'_succ,List.zip_cons_cons,Instr.fill]
   have L:¬ (v.cells.size≠size∨k*size+v.cells.size>cells.size):=by rw [h1]; omega
   rw [if_neg (by simpa using L)]
   have I:v.cells.zipIdx.foldl (fun cs (c,j)=>cs.setIfInBounds (k*size+j) c) cells=(v.cells.toList.zipIdx 0).foldl (fun cs (c,j)=>cs.setIfInBounds (k*size+j) c) cells:=by
    rw [← Array.foldl_toList]
    congr 1
    simp
   rw [I]
   exact E
  ·rw [e,b v.cells.toList 0 cells (by simp [h1]; omega)]
   have B:(k+1)*size=k*size+v.cells.toList.length:=by rw [Nat.succ_mul]; simp [h1]
   have J:(k+1+vs.length)*size=k*size+v.cells.toList.length+vs.length*size:=by rw [Nat.add_mul,B]
   have F:(k+(vs.length+1))*size=(k+1+vs.length)*size:=by congr 1; omega
   have a:(cells.toList.take (k*size)).length=k*size:=by simp; omega
   simp only [List.length_cons,Nat.add_zero,List.map_cons,List.flatten_cons]
   rw [F,J,B]
   rw [List.take_append_of_le_length (by simp [a]),List.take_of_length_le (by simp [a])]
   rw [List.drop_append,List.drop_of_length_le (by simp [a]),List.nil_append,List.drop_drop]
   simp only [List.append_assoc,List.length_append,a]
   congr 4
   omega
theorem rZ {K:Kind α}{t e:TypeId}{m:Nat}{parts:Array (Nat×Operand)}{xs:List α}{vs:List Value}{z:List Value}(k:Nat)(hd:iH X.n d=true)(hw:dS ops σ ⟨d,.buildSlice t m parts,ty,pos,af,gd⟩=true)
  (ht:lv X.P t=some e) (hs:hN X.P e=some K.sz) (hz:kp X.P e=some z) (Y:z.length=K.sz) (Z:Nat.blt 0 K.sz=true) (hp:parts.toList.map (fun p=>(p.1,ev σ p.2))=(List.range' 0 m).zip vs) (T:vs.length=m) (hv:vs.all (fun v=>Nat.beq v.cells.size K.sz)=true) (L:Nat.ble (m*K.sz) 16777216=true)
  (hx:∀ I h,eP (tk k V) I h→gG K I h xs (vs.map (·.cells.toList)).flatten) (B:xs.length=m)
  (h:∀ g c,TL X ops (ow K e (.slice (some ⟨g,0,none⟩) xs.length c) xs::dp k V) (fW σ d (.slice (some ⟨g,0,none⟩) xs.length c)) rest Q):TL X ops V σ (⟨d,.buildSlice t m parts,ty,pos,af,gd⟩::rest) Q:=by
 intro w s
 refine eM hd hw ?_
 have hu:=iS ht
 have a0:∀ v∈vs,v.cells.size=K.sz:=fun v a1=>Nat.eq_of_beq_eq_true (List.all_eq_true.1 hv v a1)
 have L:=Nat.le_of_ble_eq_true L
 obtain ⟨U,O,a2⟩:=kF (P:=X.P) (w:=w) hz
 have a3:U.cells.size=K.sz:=by rw [a2]; simpa using Y
 obtain ⟨r,J,e'⟩:=rY (size:=K.sz) vs 0 ((Array.range (m*K.sz)).map ((if m*K.sz=0 then #[] else U.cells)[· % (if m*K.sz=0 then #[] else U.cells).size]!)) a0 (by simp [T])
 have er:r=((vs.map (·.cells.toList)).flatten).toArray:=by
  apply Array.ext'
  rw [e',T]
  simp
 have G:(execOp (ev σ) ⟨d,.buildSlice t m parts,ty,pos,af,gd⟩).run X.P w=.ok (.value (.slice (some ⟨w.heap.size,0,none⟩) m m)) (w.alloc (.cells ((vs.map (·.cells.toList)).flatten).toArray e)):=by
  have E:(parts.map fun (i,x)=>(i,ev σ x)).toList=(List.range' 0 m).zip vs:=by
   rw [← hp]; simp
  rw [T] at J
  simp only [execOp,Instr.buildSlice,Sem.run_bind,run_underlying hu,Result.andThen_ok,eG hs]
  rw [if_neg (by omega)]
  by_cases h0:m*K.sz=0
  ·rw [if_pos h0] at J ⊢
   simp only [Sem.run_bind,Sem.run_pure,Result.andThen_ok,E,J,er]
   simp [newRow,Sem.run_bind]
  ·rw [if_neg h0] at J ⊢
   simp only [Sem.run_bind,Sem.run_pure,Result.andThen_ok,O,E,J,er]
   simp [newRow,Sem.run_bind]
 rw [G]
 have h':=h w.heap.size m
 rw [B] at h'
 refine h' _ ?_
 rw [← mm k V] at s
 obtain ⟨sm,I,hh,g,j,l,st⟩:=s
 obtain ⟨h1,h2,D,sa,sb⟩:=cD.1 st
 have lh:Le h1 w:=l.mono (Hp.le_trans D.left j.right)
 have q:∀ b o,g b=some o→b≠w.heap.size:=fun b o e=>by
  have:=l.lt (b:=b) (by rw [e]; exact fun h=>by cases h)
  omega
 obtain ⟨F,M⟩:=Join.of_disj (h1:=Hp.one w.heap.size (.cells ((vs.map (·.cells.toList)).flatten).toArray e (0,0))) (h2:=h1) (fun b=>by
  by_cases hb:b=w.heap.size
  ·refine .inr ?_
   cases hq:h1 b with
   | none=>rfl
   | some o=>exact absurd hb (q b o (j.right b o (D.left b o hq)))
  ·exact .inl (by simp [Hp.one,hb]))
 obtain ⟨k1,jk⟩:=Join.of_disj (h1:=F) (h2:=h2) (fun b=>by
  by_cases hb:b=w.heap.size
  ·refine .inr ?_
   cases hq:h2 b with
   | none=>rfl
   | some o=>exact absurd hb (q b o (j.right b o (D.right b o hq)))
  ·rcases D.disj b with f | f
   ·exact .inl ((M.is_none b).2 ⟨by simp [Hp.one,hb],f⟩)
   ·exact .inr f)
 obtain ⟨g',jg⟩:=Join.of_disj (h1:=I) (h2:=k1) (fun b=>by
  by_cases hb:b=w.heap.size
  ·refine .inl ?_
   cases hq:I b with
   | none=>rfl
   | some o=>exact absurd hb (q b o (j.left b o hq))
  ·rcases j.disj b with f | f
   ·exact .inl f
   ·have:=(D.is_none b).1 f
    exact .inr ((jk.is_none b).2 ⟨(M.is_none b).2 ⟨by simp [Hp.one,hb],this.1⟩,this.2⟩))
 have u:∀ b o,g b=some o→(w.alloc (.cells ((vs.map (·.cells.toList)).flatten).toArray e)).heap[b]?=some o:=fun b o e=>l.alloc _ b o e
 refine ⟨sm.alloc _,I,k1,g',jg,?_,F,h2,jk,?_,sb⟩
 ·intro b o a
  rcases jg.cases a with ⟨a,_⟩|⟨a,_⟩
  ·exact u b o (j.left b o a)
  ·rcases jk.cases a with ⟨a,_⟩|⟨a,_⟩
   ·rcases M.cases a with ⟨a,_⟩|⟨a,_⟩
    ·exact Le.one_new (w:=w) (by show (w.heap.push _)[w.heap.size]?=_; simp) b o a
    ·exact u b o (j.right b o (D.left b o a))
   ·exact u b o (j.right b o (D.right b o a))
 ·refine .inr ⟨w.heap.size,m,[],(vs.map (·.cells.toList)).flatten,[],(0,0),h1,by simp [B],by omega,?_,by simp [B],.inl rfl,by simpa using M,hx I h1 sa⟩
  have:m*1≤m*K.sz:=Nat.mul_le_mul_left _ (Nat.le_of_ble_eq_true Z)
  simp only [maxLen]
  omega
theorem bM {K:Kind α}{t e:TypeId}{m:Nat}{parts:Array (Nat×Operand)}{xs:List α}{vs:List Value}{z:List Value}(k:Nat)(q:iH X.n d=true)(hw:dS ops σ ⟨d,.buildSlice t m parts,ty,pos,af,gd⟩=true)
  (r:lv X.P t=some e) (B:hN X.P e=some K.sz) (s:kp X.P e=some z) (b:z.length=K.sz) (j:Nat.blt 0 K.sz=true) (u:parts.toList.map (fun p=>(p.1,ev σ p.2))=(List.range' 0 m).zip vs) (F:vs.length=m) (D:vs.all (fun v=>Nat.beq v.cells.size K.sz)=true) (l:Nat.ble (m*K.sz) 16777216=true)
  (E:∀ I h,eP (tk k V) I h→gG K I h xs (vs.map (·.cells.toList)).flatten) (i:xs.length=m)
  (h:∀ a c,TL X ops (ow K e (.slice a xs.length c) xs::dp k V) (fW σ d (.slice a xs.length c)) rest Q):TL X ops V σ (⟨d,.buildSlice t m parts,ty,pos,af,gd⟩::rest) Q :=
 rZ k q hw r B s b j u F D l E i (fun g c=>h (some ⟨g,0,none⟩) c)
end
end Go.Pg
namespace Go.Pg
section
variable {X:Cx}{V:List HP}{σ:dA}{Q:Exit→dA→World→Prop}{ops:Array Oper}{rest:List Oper}
variable {d:Option Nat}{ty:TypeId}{pos:String}{af:Array Edge}{gd:Option (Nat×Bool)}
variable {α β:Type}
def lx (σ:dA)(o:Option Operand)(a l:Int):Prop:=match o with
 | some x=>ev σ x=.int .i64 l
 | none=>l=a
theorem mn {P:Program}{w:World}{l:Int}{y:Nat}{a:BoundsCode}(b:0≤l)(h1:l≤y):(Instr.sliceBound (.int .i64 l) y a).run P w=.ok l.toNat w:=by
 simp [Instr.sliceBound,asIntOf,b,h1]
theorem ly {P:Program}{w:World}{is:Bool}{n c:Nat}{lo i:Option Operand}{l h:Int}(a:lx σ lo 0 l)(e:lx σ i n h)(r:0≤l)(h1:l≤h)(h2:h≤n)(s:n≤c) :
  (Instr.sliceBounds is n c (lo.map (ev σ)) (i.map (ev σ)) none).run P w=.ok (l.toNat,h.toNat,c) w:=by
 have m:∀ y:Nat,l≤y→(Instr.sliceBound (.int .i64 l) y .sliceB).run P w=.ok l.toNat w:=fun y g=>mn r g
 cases i with
 | none =>
  have:h=n:=e
  subst this
  cases lo with
  | none =>
   have:l=0:=a
   subst this
   simp [Instr.sliceBounds]
  | some x =>
   have j:ev σ x=.int .i64 l:=a
   simp [Instr.sliceBounds,j,m n h1]
 | some y =>
  have g:ev σ y=.int .i64 h:=e
  have q:∀ b,(Instr.sliceBound (.int .i64 h) c b).run P w=.ok h.toNat w:=fun b=>mn (by omega) (by omega)
  cases lo with
  | none =>
   have:l=0:=a
   subst this
   simp [Instr.sliceBounds,g,q]
  | some x =>
   have j:ev σ x=.int .i64 l:=a
   simp [Instr.sliceBounds,j,g,q,m h.toNat (by omega)]
theorem oh (s:aN):(⟨s.toArray⟩:ByteArray).size=s.length:=by show s.toArray.size=_; simp
def r' (a:Option Addr)(c l sz:Nat):Option Addr:=if c=l then a else a.map (·.add (l*sz))
theorem qX {P:Program}{w:World}{t e:TypeId}{x:Operand}{a:Option Addr}{n c sz:Nat}{lo i:Option Operand}{l h:Int}(m:lv P t=some e)(s:hN P e=some sz)(B:ev σ x=.slice a n c)
  (g:lx σ lo 0 l) (b:lx σ i n h) (q:0≤l) (h1:l≤h) (h2:h≤n) (u:n≤c) :
  (execOp (ev σ) ⟨d,.slice t x lo i none,ty,pos,af,gd⟩).run P w=.ok (.value (.slice (r' a c l.toNat sz) (h.toNat - l.toNat) (c - l.toNat))) w:=by
 have j:=iS m
 have r:=ly (P:=P) (w:=w) (is:=true) g b q h1 h2 u
 simp only [execOp,Instr.sliceAt,B,Sem.run_bind,run_underlying j,Result.andThen_ok,Instr.slice,Option.map_none,r,eG s,Sem.run_pure,r']
theorem qb {xs:List α}{l h:Int}(a:0≤l)(h1:l≤h)(h2:h≤xs.length):(sub xs l h).length=h.toNat - l.toNat:=by
 simp [sub]; omega
theorem ue {xs:List α}{l h:Int}(b:0≤l)(h1:l≤h)(h2:h≤xs.length){j:Nat}{x:α}(a:(sub xs l h)[j]?=some x):xs[l.toNat+j]?=some x:=by
 simp only [sub,List.getElem?_drop,List.getElem?_take] at a
 split at a
 ·exact a
 ·cases a
theorem uf {K:Kind α}{I:Hp}{a:Option Addr}{n c:Nat}{xs:List α}{l h:Int}(r:p' K I (.slice a n c) xs)(m:0≤l)(h1:l≤h)(h2:h≤n):p' K I (.slice (r' a c l.toNat K.sz) (h.toNat - l.toNat) (c - l.toNat)) (sub xs l h):=by
 obtain ⟨A,G,F,J,L,D⟩:=r
 injection F with e1 e2 e3
 subst e1; subst e3; subst e2
 have e:=qb m h1 h2
 refine ⟨_,_,by rw [e],by rw [e]; omega,by rw [e]; omega,fun B=>?_⟩
 rw [e] at B
 obtain ⟨g,o,rfl,b⟩:=D (by omega)
 refine ⟨g,o+l.toNat*K.sz,?_,fun j x E=>?_⟩
 ·unfold r'
  rw [if_neg (by omega)]
  simp [fR]
 ·obtain ⟨cs,p,q⟩:=b _ x (ue m h1 h2 E)
  refine ⟨cs,p,fun i u s=>?_⟩
  have:=q i u s
  rw [Nat.add_mul] at this
  rw [show o+l.toNat*K.sz+j*K.sz+i=o+(l.toNat*K.sz+j*K.sz)+i by omega]
  exact this
theorem gA {K:Kind α}{t e:TypeId}{x:Operand}{a:Option Addr}{n c:Nat}{lo D:Option Operand}{xs:List α}(l h:Int)(i:Nat)(J:iH X.n d=true)(hw:dS ops σ ⟨d,.slice t x lo D none,ty,pos,af,gd⟩=true)
  (M:lv X.P t=some e) (O:hN X.P e=some K.sz) (U:lk V i=aO K (.slice a n c) xs) (T:ev σ x=.slice a n c) (F:lx σ lo 0 l) (m:lx σ D n h) (B:0≤l) (h1:l≤h) (h2:h≤n)
  (k:∀ G b,TL X ops (aO K (.slice G (sub xs l h).length b) (sub xs l h)::V) (fW σ d (.slice G (sub xs l h).length b)) rest Q):TL X ops V σ (⟨d,.slice t x lo D none,ty,pos,af,gd⟩::rest) Q:=by
 rintro w ⟨L,I,q,g,j,lw,s⟩
 obtain ⟨g1,Z,j',p,s'⟩:=eR i s
 rw [U] at p
 have hn:n=xs.length:=by obtain ⟨_,A,b,E,_⟩:=p; injection E
 have u:n≤c:=by
  obtain ⟨_,A,b,E,Y,_⟩:=p
  injection E with _ _ e3
  omega
 refine eM J hw ?_
 rw [qX M O T F m B h1 h2 u]
 have r:=uf p.2 B h1 h2
 have:=k (r' a c l.toNat K.sz) (c - l.toNat)
 rw [qb B h1 (by omega)] at this
 exact this w ⟨L,I,q,g,j,lw,Hp.none,q,Join.none q,⟨rfl,r⟩,s⟩
theorem dM {t:TypeId}{x:Operand}{s:aN}(b:X.P.underlying t=some .string)
  (a:ev σ x=aD s):VO X V σ ⟨d,.call ⟨.builtin .len,#[x],#[t]⟩,ty,pos,af,gd⟩ (.int .i64 s.length):=by
 intro w _
 simp [execOp,resolve,invoke,builtin,a,aD,Builtin.len_,run_underlying b,goInt,oh]
theorem cI {t:TypeId}{x y:Operand}{s:aN}{k:IntKind}{j:Int}(i:X.P.underlying t=some .string)
  (g:ev σ x=aD s) (h:ev σ y=.int k j) (b:0≤j) (h1:j<s.length):VO X V σ ⟨d,.index t x y,ty,pos,af,gd⟩ (.int .u8 (bt s j)):=by
 intro w _
 have a:j.toNat<s.length:=by omega
 have e:(⟨s.toArray⟩:ByteArray)[j.toNat]?=some (ix s j):=by
  rw [ByteArray.getElem?_lt' _ _ (by rw [oh]; exact a)]
  congr 1
  show s.toArray[j.toNat]=_
  simp [ix,List.getD_eq_getElem?_getD,a]
 simp [execOp,g,h,aD,Instr.index,asIntOf,run_underlying i,b,e,bt]
theorem hO {t:TypeId}{x:Operand}{s:aN}{lo g:Option Operand}(l h:Int)
  (q:X.P.underlying t=some .string) (m:ev σ x=aD s) (a:lx σ lo 0 l) (b:lx σ g s.length h) (i:0≤l) (h1:l≤h) (h2:h≤s.length):VO X V σ ⟨d,.slice t x lo g none,ty,pos,af,gd⟩ (aD (sub s l h)):=by
 intro w _
 have j:=ly (P:=X.P) (w:=w) (is:=false) (n:=s.length) (c:=s.length) a b i h1 h2 (Nat.le_refl _)
 have e:=oh s
 simp only [execOp,Instr.sliceAt,m,Sem.run_bind,run_underlying q,Result.andThen_ok,Instr.slice,Option.map_none,aD,e,j,Sem.run_pure,Option.isSome_none,Bool.false_eq_true,if_false]
 rw [ByteArray.extract_mk]
 congr 3
 simp [sub,List.drop_take]
theorem nu {t:TypeId}{x y:Operand}{a:TypeId}{s u:aN}
  (b:ev σ x=aD s) (e:ev σ y=aD u) (g:s.length+u.length≤9223372036854775807):VO X V σ ⟨d,.binOp .add t x y a,ty,pos,af,gd⟩ (aD (s++u)):=by
 intro w _
 have h:=run_string_add_sum (P:=X.P) (w:=w) (⟨s.toArray⟩:ByteArray) ⟨u.toArray⟩ (by rw [oh,oh]; exact g)
 simp only [execOp,b,e,aD,eqGuard_add,binOp_string_add,Sem.run_bind,Sem.run_pure,Result.andThen_ok,h]
 rw [ByteArray.mk_append_mk]
def ye:BinOp→aN→aN→Option Bool
 | .eql,a,b=>some (a==b)
 | .neq,a,b=>some (!(a==b))
 | .lss,a,b=>some (Op.bytesLess a b)
 | .leq,a,b=>some (Op.bytesLess a b||a==b)
 | .gtr,a,b=>some (!(Op.bytesLess a b||a==b))
 | .geq,a,b=>some (!Op.bytesLess a b)
 | _,_,_=>none
theorem jr {op:BinOp}{t:TypeId}{x y:Operand}{e:TypeId}{s u:aN}{b:Bool}
  (g:ev σ x=aD s) (h:ev σ y=aD u) (a:ye op s u=some b):VO X V σ ⟨d,.binOp op t x y e,ty,pos,af,gd⟩ (.bool b):=by
 intro w _
 cases op<;>simp only [ye,reduceCtorEq,Option.some.injEq] at a<;>subst a <;>
  simp [execOp,g,h,aD,eqGuard_at_string,binOp,Op.stringOp]
theorem wo {s' t:TypeId}{x:Operand}{k a:IntKind}{n:Int}{ds:TypeDesc}(h1:X.P.underlying s'=some ds)(h2:X.P.underlying t=some (.int a))
  (b:ev σ x=.int k n):VO X V σ ⟨d,.convert s' t x,ty,pos,af,gd⟩ (.int a (a.wrap n)):=by
 intro w _
 simp [execOp,b,convert,run_underlying h1,run_underlying h2,Conv.intToInt]
theorem mo {t e:TypeId}{x y:Operand}{k:IntKind}{a b:Int}(h:ev σ x=.int k a)(i:ev σ y=.int k b)(g:b≠0):VO X V σ ⟨d,.binOp .quo t x y e,ty,pos,af,gd⟩ (.int k (k.wrap (a.tdiv b))):=by
 intro w _
 simp [execOp,h,i,eqGuard_at_int,binOp,Op.intDiv,g]
theorem qc {t e:TypeId}{x y:Operand}{k:IntKind}{a b:Int}(h:ev σ x=.int k a)(i:ev σ y=.int k b)(g:b≠0):VO X V σ ⟨d,.binOp .rem t x y e,ty,pos,af,gd⟩ (.int k (a.tmod b)):=by
 intro w _
 simp [execOp,h,i,eqGuard_at_int,binOp,Op.intDiv,g]
theorem yf {x y:Operand}{e:Array TypeId}{k g:IntKind}{a b:Int}(h:ev σ x=.int k a)(i:ev σ y=.int g b):VO X V σ ⟨d,.call ⟨.builtin .max,#[x,y],e⟩,ty,pos,af,gd⟩ (.int k (if b>a then b else a)):=by
 intro w _
 simp [execOp,resolve,invoke,builtin,h,i,run_max_int2]
theorem vy {x y:Operand}{e:Array TypeId}{k g:IntKind}{a b:Int}(h:ev σ x=.int k a)(i:ev σ y=.int g b):VO X V σ ⟨d,.call ⟨.builtin .min,#[x,y],e⟩,ty,pos,af,gd⟩ (.int k (if b<a then b else a)):=by
 intro w _
 simp [execOp,resolve,invoke,builtin,h,i,run_min_int2]
end
end Go.Pg
namespace Go.Pg
def FnOk {A:Type}(P:Program)(f:FuncId)(args:List Value)(b:List HP)(a:A→Value×List HP):Prop :=
 ∀ C w V,St C w (b++V)→Calls P f args.toArray w (fun e g=>∃ x,e=.returned (a x).1∧St C g ((a x).2++V))
def aX (P:Program)(f:FuncId):Bool:=match P.funcs[f]? with
 | some fn=>!(fn.name == "runtime.NumGoroutine")&&fn.body.isSome
 | none=>false
theorem js {P:Program}{f:FuncId}{w:World}{args:Array Value}(h:aX P f=true):(callFunc f args).run P w=.ok (.enter f args) w:=by
 unfold aX at h
 cases hf:P.funcs[f]? with
 | none=>rw [hf] at h; cases h
 | some fn =>
  rw [hf] at h
  simp only [Bool.and_eq_true,Bool.not_eq_true'] at h
  cases hb:fn.body with
  | none=>rw [hb] at h; cases h.2
  | some c =>
   have h1:=h.1
   simp at h1
   simp [callFunc,hf,h1,hb]
section
variable {X:Cx}{V:List HP}{σ:dA}{Q:Exit→dA→World→Prop}{ops:Array Oper}{rest:List Oper}{o:Oper}
variable {d:Option Nat}{ty:TypeId}{pos:String}{af:Array Edge}{gd:Option (Nat×Bool)}
variable {α β:Type}
theorem m0 (xs:Array Operand)(f:Operand→Value){as:List Value}(h:xs.toList.map f=as):xs.map f=as.toArray:=by
 apply Array.ext'
 simpa using h
theorem wq {A:Type}{f:FuncId}{xs:Array Operand}{b:Array TypeId}{as:List Value}{g V':List HP}{a:A→Value×List HP}(i:iH X.n d=true)(hw:dS ops σ ⟨d,.call ⟨.value (.func f),xs,b⟩,ty,pos,af,gd⟩=true)
  (r:aX X.P f=true) (h:xs.toList.map (ev σ)=as) (l:FnOk X.P f as g a) (q:V=g++V') (k:∀ x,TL X ops ((a x).2++V') (fW σ d (a x).1) rest Q):TL X ops V σ (⟨d,.call ⟨.value (.func f),xs,b⟩,ty,pos,af,gd⟩::rest) Q:=by
 intro w s
 refine eM i hw ?_
 have j:(execOp (ev σ) ⟨d,.call ⟨.value (.func f),xs,b⟩,ty,pos,af,gd⟩).run X.P w=.ok (.enter f as.toArray) w:=by
  show (callFunc f (#[]++xs.map (ev σ)++#[])).run X.P w=_
  rw [m0 xs _ h,js r]
  simp
 rw [j]
 subst q
 refine Calls.mono' (l X.C w V' s) ?_
 rintro e m ⟨x,rfl,s'⟩
 exact k x m s'
theorem ug {A:Type}{f:FuncId}{h:Operand}{fs cs:List Value}{xs:Array Operand}{b:Array TypeId}{as:List Value}{g V':List HP}{a:A→Value×List HP}(j:iH X.n d=true)(hw:dS ops σ ⟨d,.call ⟨.value h,xs,b⟩,ty,pos,af,gd⟩=true)
  (B:aX X.P f=true) (r:ev σ h=.func (.func f) fs.toArray cs.toArray) (i:fs++xs.toList.map (ev σ)++cs=as) (m:FnOk X.P f as g a) (u:V=g++V') (k:∀ x,TL X ops ((a x).2++V') (fW σ d (a x).1) rest Q):TL X ops V σ (⟨d,.call ⟨.value h,xs,b⟩,ty,pos,af,gd⟩::rest) Q:=by
 intro w s
 refine eM j hw ?_
 have l:(execOp (ev σ) ⟨d,.call ⟨.value h,xs,b⟩,ty,pos,af,gd⟩).run X.P w=.ok (.enter f as.toArray) w:=by
  have:(callFunc f (fs.toArray++xs.map (ev σ)++cs.toArray)).run X.P w=.ok (.enter f as.toArray) w:=by
   rw [js B,m0 xs _ rfl,← i]
   simp
  simp only [execOp,resolve,r,Deferred.ofValue,Sem.run_bind,Sem.run_pure,Result.andThen_ok,invoke,this]
 rw [l]
 subst u
 refine Calls.mono' (m X.C w V' s) ?_
 rintro e q ⟨x,rfl,s'⟩
 exact k x q s'
def HP.Closed (p:HP):Prop:=∀ I J h,p.p I h→p.p J h
theorem bI {K:Kind α}{e:Nat}{v:Value}{xs:List α}(h:K.Closed):(ow K e v xs).Closed:=fun _ _ _ o=>pa h o
theorem oi {A:List HP}(h:∀ p∈A,p.Closed){I J g:Hp}(s:eP A I g):eP A J g:=by
 induction A generalizing g with
 | nil=>exact s
 | cons p A ih =>
  obtain ⟨h1,h2,j,a,b⟩:=s
  exact ⟨h1,h2,j,h p (by simp) _ _ _ a,ih (fun q e=>h q (by simp [e])) b⟩
def AllC:List HP→Prop
 | []=>True
 | p::A=>p.Closed∧AllC A
theorem Ax {A:List HP}(h:AllC A):∀ p∈A,p.Closed:=by
 induction A with
 | nil=>intro p a; cases a
 | cons q A ih =>
  intro p a
  rcases List.mem_cons.1 a with rfl | a
  ·exact h.1
  ·exact ih h.2 p a
def Ay (a:Hp)(p:HP):HP:=⟨fun I h=>Hp.le a I∧p.p a h,fun l h=>⟨Hp.le_trans h.1 l,h.2⟩⟩
theorem uh {e I:Hp}(l:Hp.le e I){V:List HP}{h:Hp}(s:eP V e h):eP (V.map (Ay e)) I h:=by
 induction V generalizing h with
 | nil=>exact s
 | cons p V ih =>
  obtain ⟨h1,h2,j,a,b⟩:=s
  exact ⟨h1,h2,j,⟨l,a⟩,ih b⟩
theorem uk {e I:Hp}{V:List HP}{h:Hp}(s:eP (V.map (Ay e)) I h):eP V e h:=by
 induction V generalizing h with
 | nil=>exact s
 | cons p V ih =>
  obtain ⟨h1,h2,j,a,b⟩:=s
  exact ⟨h1,h2,j,a.2,ih b⟩
def BI (g:Hp):HP:=⟨fun I h=>h=Hp.none∧Hp.le g I,fun l h=>⟨h.1,Hp.le_trans h.2 l⟩⟩
theorem FnOk.perm {A:Type}{P:Program}{f:FuncId}{args:List Value}{b Pre':List HP}{a:A→Value×List HP}(e:FnOk P f args b a)(h:∀ C w V,St C w (Pre'++V)→St C w (b++V)):FnOk P f args Pre' a:=fun C w V s=>e C w V (h C w V s)
theorem FnOk.post {A B:Type}{P:Program}{f:FuncId}{args:List Value}{i:List HP}{b:A→Value×List HP}{a:B→Value×List HP}(j:FnOk P f args i b)(g:A→B)(h1:∀ x,(b x).1=(a (g x)).1)(h:∀ x C w V,St C w ((b x).2++V)→St C w ((a (g x)).2++V)):FnOk P f args i a:=by
 intro C w V s
 refine Calls.mono' (j C w V s) ?_
 rintro e l ⟨x,rfl,s'⟩
 exact ⟨g x,by rw [h1],h x C l V s'⟩
def pc:List Value→Value
 | [v]=>v
 | vs=>.tuple vs.toArray
def s6 (P:Program)(V:List HP)(σ:dA):List ResultVar→List Value→Prop
 | [],[]=>True
 | .tmp t::rs,v::vs=>σ t=v∧s6 P V σ rs vs
 | .cell a T::rs,v::vs=>(∃ i b cs e,lk V i=aJ b cs e∧σ a=.pointer (some ⟨b,0,none⟩)∧((eX P T=some true∧hN P T=some cs.length∧v=.agg cs.toArray)∨(eX P T=some false∧cs=[v])))∧s6 P V σ rs vs
 | _,_=>False
theorem mq {P:Program}{C w:World}{V:List HP}{σ:dA}(s:St C w V):∀ (rs:List ResultVar) (vs:List Value),s6 P V σ rs vs →
  (rs.mapM (fun | .tmp t=>pure (σ t) | .cell a t=>do loadVar t (← asAddr (σ a)):ResultVar→Sem Value)).run P w=.ok vs w
 | [],[],_=>rfl
 | .tmp t::rs,v::vs,⟨h1,h2⟩=>by
  have:=mq s rs vs h2
  simp [List.mapM_cons,this,h1]
 | .cell a T::rs,v::vs,⟨⟨i,b,cs,T0,hV,ha,hv⟩,h2⟩=>by
  have:=mq s rs vs h2
  have g:=kG s i hV
  have r:(loadVar T ⟨b,0,none⟩).run P w=.ok v w:=by
   rcases hv with ⟨e,q,rfl⟩|⟨e,rfl⟩
   ·exact eY e q (fun j u m=>by rw [fR,kH g,Nat.zero_add]; exact m)
   ·exact eL e (by rw [kH g]; rfl)
  have l:(asAddr (σ a)).run P w=.ok ⟨b,0,none⟩ w:=by rw [ha]; rfl
  simp [List.mapM_cons,this,l,r]
 | [],_::_,h=>h.elim
 | .tmp _::_,[],h=>h.elim
 | .cell _ _::_,[],h=>h.elim
theorem lz {P:Program}{C w:World}{V:List HP}{σ:dA}{fn:Func}{rs:List ResultVar}{vs:List Value}(s:St C w V)(a:fn.results=rs.toArray)(h:s6 P V σ rs vs):(hM fn σ).run P w=.ok (pc vs) w:=by
 have:=mq s rs vs h
 unfold hM
 rw [a,List.mapM_toArray]
 simp only [Sem.run_bind,Sem.run_map]
 refine (congrArg (fun r=>Result.andThen (Result.andThen r _) _) this).trans ?_
 match vs with
 | []=>rfl
 | [v]=>rfl
 | v::u::l=>simp [pc]
def qY (X:Cx){A:Type}(V:List HP)(a:A→Value×List HP):Value→World→Prop:=fun v w=>∃ x,v=(a x).1∧St X.C w ((a x).2++V)
theorem dI {A:Type}{V0:List HP}{a:A→Value×List HP}{fn:Func}{rs:List ResultVar}{vs:List Value}{e:Exit}(j:e=.ret∨e=.normal)(x:A)(g:fn.results=rs.toArray)(h:s6 X.P V σ rs vs)(i:(a x).1=pc vs)(b:∀ w,St X.C w V→St X.C w ((a x).2++V0)) :
  TQ X V σ e (mh X.P fn (qY X V0 a)):=by
 intro w s
 rcases j with rfl | rfl
 ·exact ⟨_,lz s g h,x,i.symm,b w s⟩
 ·exact ⟨_,lz s g h,x,i.symm,b w s⟩
theorem aQ {A:Type}{P:Program}{f:FuncId}{fn:Func}{c:Code}{args:List Value}{b:List HP}{a:A→Value×List HP}(l:P.funcs[f]?=some fn)(i:fn.body=some c)(n:Nat)(g:fn.ntmps=n)(j:Nat.ble args.length n=true)
  (h:∀ C V,TC ⟨P,.of n,C⟩ (b++V) (rQ args.toArray) c (mh P fn (qY ⟨P,.of n,C⟩ V a))):FnOk P f args b a:=by
 subst g
 intro C w V s
 refine Calls.mono' (p8 l i (by have:=Nat.le_of_ble_eq_true j; simpa using this) (h C V w s)) ?_
 rintro e m ⟨v,rfl,x,rfl,s'⟩
 exact ⟨x,rfl,s'⟩
theorem l8 {a:Act}{o:Oper}{n:Nn}{σ:dA}(b:iH n o.dst=true)(h1:a.tmps.size=n.n)(h2:a.defers=n.ds)(g:eU a=σ)(v:Value):(a.put o.dst v).tmps.size=n.n∧(a.put o.dst v).defers=n.ds∧eU (a.put o.dst v)=fW σ o.dst v:=by
 refine ⟨?_,?_,?_⟩
 ·cases hdd:o.dst with
  | none=>exact h1
  | some d=>show (a.tmps.setIfInBounds d v).size=n.n; rw [Array.size_setIfInBounds,h1]
 ·cases hdd:o.dst with
  | none=>exact h2
  | some d=>exact h2
 ·rw [kb,g]
  intro d e
  rw [e] at b
  rw [h1]
  exact Nat.lt_of_lt_of_le (Nat.lt_succ_self _) (Nat.le_of_ble_eq_true b)
theorem s7 {a:Nat}{op:Op}(v:Value)(e:VO X V σ ⟨some a,op,ty,pos,af,gd⟩ v)(hw:dS ops σ ⟨some a,op,ty,pos,af,gd⟩=true)(b:iH X.n (some a)=true)(h:TL X ops V (kB σ a v) rest Q):TL X ops V σ (⟨some a,op,ty,pos,af,gd⟩::rest) Q :=
 Aw b hw e h
theorem cG {b:Bool}{x y:Option α}{r:α}(h:(if b=true then x else y)=some r):(b=true∧x=some r)∨(b=false∧y=some r):=by
 cases b
 ·exact .inr ⟨rfl,by simpa using h⟩
 ·exact .inl ⟨rfl,by simpa using h⟩
def l9 (σ:dA):List (Nat×Value)→Prop
 | []=>True
 | (t,v)::l=>σ t=v∧l9 σ l
theorem la {σ:dA}{l:List (Nat×Value)}(h:l9 σ l):p7 σ l=σ:=by
 induction l with
 | nil=>rfl
 | cons p l ih =>
  obtain ⟨t,v⟩:=p
  show kB (p7 σ l) t v=σ
  rw [ih h.2]
  exact rN σ t h.1
def Jn (X:Cx){A:Type}(pf:A→Prop)(e:A→List (Nat×Value))(b:A→List HP):dA→World→Prop:=fun σ w=>∃ a,pf a∧l9 σ (e a)∧St X.C w (b a)
theorem bB {A:Type}{x y:Code}(pf:A→Prop)(g:A→List (Nat×Value))(b:A→List HP)(j:TC X V σ x (iz (Jn X pf g b) Q))(l:∀ a σ',pf a→TC X (b a) (p7 σ' (g a)) y Q):TC X V σ x (iz (Nx X y Q) Q):=by
 intro w s
 refine W.mono (j w s) ?_
 intro e σ' i q
 cases e with
 | normal =>
  obtain ⟨a,h,h1,h2⟩:=q
  have:=l a σ' h i h2
  rw [la h1] at this
  exact this
 | _=>exact q
theorem cR {A:Type}{pf:A→Prop}{e:A→List (Nat×Value)}{b:A→List HP}(a:A)(g:pf a)(h1:l9 σ (e a))(h2:∀ w,St X.C w V→St X.C w (b a)):TQ X V σ .normal (iz (Jn X pf e b) Q):=fun w s=>⟨a,g,h1,h2 w s⟩
def Az (X:Cx){S E A:Type}(b:S⊕E)(g:S→A→List (Nat×Value))(e:S→A→List HP):dA→World→Prop:=fun σ w=>∃ s a,b=.inl s∧l9 σ (g s a)∧St X.C w (e s a)
theorem bD {S E A:Type}{f:S→Option (S⊕E)}{j:S}{e:E}{c:Code}(u:aR f j=some e)(h:S→A→List (Nat×Value))(i:S→A→List HP)(a0:A)(h1:l9 σ (h j a0))(h2:∀ w,St X.C w V→St X.C w (i j a0))
  (b:∀ s a σ' out,f s=some out→(∀ l,out=.inr l→l=e)→TC X (i s a) (p7 σ' (h s a)) c (iz (Az X out h i) Q)):TC X V σ (.loop c) Q:=by
 intro w st
 obtain ⟨k,D⟩:=mg u
 refine wh (fun k σ w=>∃ s a,j0 f k s=some e∧l9 σ (h s a)∧St X.C w (i s a)) k ⟨j,a0,D,h1,h2 w st⟩ ?_
 rintro k σ' I ⟨s,a,g,g1,B⟩
 cases k with
 | zero=>cases g
 | succ k =>
  simp only [j0] at g
  cases hf:f s with
  | none=>rw [hf] at g; cases g
  | some out =>
   rw [hf] at g
   have:=b s a σ' out hf (fun l r=>by subst r; exact Option.some.inj g) I B
   rw [la g1] at this
   refine W.mono this ?_
   intro ex σ'' F q
   cases ex with
   | normal =>
    obtain ⟨s',m,rfl,J,G⟩:=q
    exact ⟨k,Nat.lt_succ_self k,s',m,g,J,G⟩
   | _=>exact q
theorem ul {S E A:Type}{e:S→A→List (Nat×Value)}{b:S→A→List HP}{s:S}(a:A)(h1:l9 σ (e s a))(h2:∀ w,St X.C w V→St X.C w (b s a)):TQ X V σ .normal (iz (Az X (E:=E) (.inl s) e b) Q):=fun w st=>⟨s,a,rfl,h1,h2 w st⟩
end
end Go.Pg
namespace Go.Pg
section
variable {P:Program}{ops:Array Oper}{Q:Exit→Act→World→Prop}{S:World→Prop}{k:Nat}
def Shut (ops:Array Oper)(listed:Array Bool):Prop:=∀ j o,ops[j]?=some o→listed.getD j false=true→∀ e∈o.after,Region.binds .any e=true→listed.getD e.on false=true
def na (ops:Array Oper):Nat→Nat→Nat→Bool
 | 0,_,_=>false
 | f+1,j,i=>match ops[j]? with
  | some o=>o.after.any (fun e=>Region.binds .any e&&e.on==i)||o.after.any (fun e=>Region.binds .any e&&na ops f e.on i)
  | none=>false
theorem kI {listed:Array Bool}(m:Shut ops listed):∀ (f j i:Nat) (o:Oper),ops[j]?=some o→(∀ e∈o.after,Region.binds .any e=true→listed.getD e.on false=true)→na ops f j i=true→listed.getD i false=true:=by
 intro f
 induction f with
 | zero=>intro j i o _ _ h; cases h
 | succ f ih =>
  intro j i o r l h
  simp only [na,r,Bool.or_eq_true,Array.any_eq_true',Bool.and_eq_true,beq_iff_eq] at h
  rcases h with ⟨e,b,a,q⟩|⟨e,b,a,g⟩
  ·rw [← q]; exact l e b a
  ·have s:=l e b a
   cases hoe:ops[e.on]? with
   | none =>
    cases f with
    | zero=>cases g
    | succ f=>simp [na,hoe] at g
   | some o'=>exact ih e.on i o' hoe (m e.on o' hoe s) g
def jH (ops:Array Oper)(k:Nat):Bool:=(List.range ops.size).all fun j=>Nat.blt j k||(List.range k).all fun i=>na ops ops.size j i
def mr (ops:Array Oper)(k i:Nat):Bool:=(List.range ops.size).all fun j=>Nat.blt j k||na ops ops.size j i
theorem qd {ops:Array Oper}{k i:Nat}(h:jH ops k=true)(a:Nat.blt i k=true):mr ops k i=true:=by
 simp only [jH,mr,List.all_eq_true,List.mem_range,Bool.or_eq_true] at h ⊢
 intro j b
 rcases h j b with h | h
 ·exact .inl h
 ·exact .inr (h i (Nat.lt_of_lt_of_le (Nat.lt_succ_self _) (Nat.le_of_ble_eq_true a)))
theorem Shut.step {listed:Array Bool}{j:Nat}(h:Shut ops listed)(m:j∈Region.ready .any ops listed):Shut ops (listed.setIfInBounds j true):=by
 obtain ⟨_,o,r,q⟩:=mem_ready.1 m
 intro i o' a l e g b
 by_cases hij:i=j
 ·subst hij
  rw [r] at a
  obtain rfl:=Option.some.inj a
  exact getD_set_true (q e g b)
 ·rw [getD_set_ne false (Ne.symm hij)] at l
  exact getD_set_true (h i o' a l e g b)
def nv (ops:Array Oper)(k:Nat)(listed:Array Bool):Bool:=(List.range ops.size).all fun j=>Nat.blt j k||!listed.getD j false
theorem oj {listed:Array Bool}{i:Nat}(a:Nat.blt i k=true)(h:nv ops k listed=true):nv ops k (listed.setIfInBounds i true)=true:=by
 simp only [nv,List.all_eq_true,List.mem_range,Bool.or_eq_true,Bool.not_eq_true'] at h ⊢
 intro j b
 by_cases hji:j=i
 ·subst hji; exact .inl a
 ·rw [getD_set_ne false (Ne.symm hji)]; exact h j b
def jT (P:Program)(ops:Array Oper)(Q:Exit→Act→World→Prop)(S:World→Prop)(k:Nat):Nat→Array Bool→Act→World→Prop
 | 0,listed,a,w=>Region.ready .any ops listed=[]∧Q .normal a w
 | fuel+1,listed,a,w =>
  (Region.ready .any ops listed=[]→Q .normal a w) ∧
  ∀ i∈Region.ready .any ops listed,wpOp P ops Q i (fun e b=>(Nat.blt i k=true→nv ops k listed=true→S b)∧jT P ops Q S k fuel (listed.setIfInBounds i true) e b) a w
theorem ms:∀ (fuel:Nat) (listed:Array Bool) (a:Act) (w:World),jT P ops Q S k fuel listed a w→wpAny P .any ops Q fuel listed a w
 | 0,_,_,_,h=>h
 | fuel+1,_,_,_,h=>⟨h.1,fun i g=>wpOp_mono (fun b e j=>ms fuel _ b e j.2) (h.2 i g)⟩
theorem kJ {i:Nat}{G:Oper}{v:Value}(hi:ops[i]?=some G)(Y:Nat.blt i k=true)(Z:mr ops k i=true)(E:∀ (j:Nat) (o:Oper) cs b,ops[j]?=some o→o.op≠.select cs b)
  (hQ:∀ c a w,Q (.panic c) (a.put G.dst v) w→Q (.panic c) a w) :
  ∀ (fuel:Nat) (listed:Array Bool) (a:Act) (w:World),Shut ops listed →
   (∀ j u,ops[j]?=some u→j≠i→listed.getD j true=false→(∀ e∈u.after,Region.binds .any e=true→e.on≠i)→G.apart ops u=true) →
   i∈Region.ready .any ops listed→YieldsIf P ops S G v a→S w →
   jT P ops Q S k fuel (listed.setIfInBounds i true) (a.put G.dst v) w→jT P ops Q S k (fuel+1) listed a w:=by
 intro fuel
 induction fuel with
 | zero =>
  intro listed a w _ _ I hy hS H
  refine ⟨fun h=>(by rw [h] at I; cases I),fun j O=>?_⟩
  by_cases hji:j=i
  ·subst hji; exact hy.wpOp hi hS ⟨fun _ _=>hS,H⟩
  ·have:=ready_mono O hji
   rw [H.1] at this
   cases this
 | succ fuel ih =>
  intro listed a w q l I hy hS H
  refine ⟨fun h=>(by rw [h] at I; cases I),fun j O=>?_⟩
  by_cases hji:j=i
  ·subst hji; exact hy.wpOp hi hS ⟨fun _ _=>hS,H⟩
  ·have h1:=H.2 j (ready_mono O hji)
   obtain ⟨D,u,g,B⟩:=mem_ready.1 O
   have h0:=(mem_ready.1 I).1
   have F:listed.getD i false=true→False:=fun h1=>by
    rcases Nat.lt_or_ge i listed.size with h' | h'
    ·simp [h'] at h0 h1; rw [h0] at h1; cases h1
    ·simp [Array.getElem?_eq_none h'] at h1
   have a0:Nat.blt j k=true:=by
    cases T:Nat.blt j k with
    | true=>rfl
    | false =>
     simp only [mr,List.all_eq_true,List.mem_range,Bool.or_eq_true] at Z
     have s:=(Z j (Array.getElem?_eq_some_iff.1 g).1).resolve_left (by rw [T]; exact fun h=>by cases h)
     exact (F (kI q _ j i u g B s)).elim
   have J:nv ops k listed=true:=by
    simp only [nv,List.all_eq_true,List.mem_range,Bool.or_eq_true,Bool.not_eq_true']
    intro m hm
    cases T:Nat.blt m k with
    | true=>exact .inl rfl
    | false =>
     refine .inr ?_
     cases hl:listed.getD m false with
     | false=>rfl
     | true =>
      simp only [mr,List.all_eq_true,List.mem_range,Bool.or_eq_true] at Z
      have s:=(Z m hm).resolve_left (by rw [T]; exact fun h=>by cases h)
      have ho:=Array.getElem?_eq_getElem hm
      exact (F (kI q _ m i _ ho (q m _ ho hl) s)).elim
   have M:∀ e∈u.after,Region.binds .any e=true→e.on≠i:=fun e he T a3=>F (a3▸B e he T)
   have h2:=wpOp_putIf g (l j u g hji D M) (fun cs b=>E i G cs b hi) (fun cs b=>E j u cs b g) hQ hy h1
   have r:∀ m U,ops[m]?=some U→m≠i→(listed.setIfInBounds j true).getD m true=false →
     (∀ e∈U.after,Region.binds .any e=true→e.on≠i)→G.apart ops U=true:=fun m U hk a2 L a1=>by
    refine l m U hk a2 ?_ a1
    by_cases hjm:j=m
    ·subst hjm; exact D
    ·rw [getD_set_ne true hjm] at L; exact L
   refine wpOp_mono (fun a' w' s=>⟨fun q1 q2=>s.2.1 q1 (oj Y q2),ih (listed.setIfInBounds j true) a' w' (q.step O) r (ready_mono I (Ne.symm hji)) s.1 (s.2.1 a0 (oj Y J)) ?_⟩) h2
   rw [Array.setIfInBounds_comm _ _ hji]
   exact s.2.2
end
def NP (Q:Exit→dA→World→Prop):Exit→dA→World→Prop
 | .panic _,_,_=>False
 | .outgrown,_,_=>False
 | e,σ,w=>Q e σ w
def TD (X:Cx)(ops:Array Oper)(k:Nat)(V0:List HP)(fuel:Nat)(listed:Array Bool)(V:List HP)(σ:dA)(Q:Exit→dA→World→Prop):Prop :=
 ∀ a w,a.tmps.size=X.n.n→a.defers=X.n.ds→eU a=σ→Shut ops listed→St X.C w V→jT X.P ops (gN X.n (NP Q)) (fun w=>St X.C w V0) k fuel listed a w
def DK (X:Cx)(ops:Array Oper)(k:Nat)(V0:List HP)(fuel:Nat)(listed:Array Bool)(i:Nat)(Q:Exit→dA→World→Prop):Exit→dA→World→Prop
 | .normal,σ,w=>∀ a,a.tmps.size=X.n.n→a.defers=X.n.ds→eU a=σ→Shut ops (listed.setIfInBounds i true)→(Nat.blt i k=true→nv ops k listed=true→St X.C w V0)∧jT X.P ops (gN X.n (NP Q)) (fun w=>St X.C w V0) k fuel (listed.setIfInBounds i true) a w
 | .panic _,_,_=>False
 | .outgrown,_,_=>False
 | e,σ,w=>Q e σ w
def yg (X:Cx)(ops:Array Oper)(k:Nat)(V0:List HP)(fuel:Nat)(listed:Array Bool)(V:List HP)(σ:dA)(Q:Exit→dA→World→Prop):List Nat→Prop
 | []=>True
 | i::is=>(match ops[i]? with
  | some o=>TL X ops V σ [o] (DK X ops k V0 fuel listed i Q)
  | none=>False)∧yg X ops k V0 fuel listed V σ Q is
section
variable {X:Cx}{V V0:List HP}{σ:dA}{Q:Exit→dA→World→Prop}{ops:Array Oper}{o:Oper}{k fuel:Nat}{listed:Array Bool}
variable {d:Nat}{op:Op}{ty:TypeId}{pos:String}{af:Array Edge}{gd:Option (Nat×Bool)}
theorem wr {r:Nat}{l:List Oper}(k:Nat)(V0:List HP)(u:X.P.follows .mixedOrders=true)(b:(jH l.toArray k&&Region.noSelect l.toArray)=true)
  (h:jH l.toArray k=true→Region.noSelect l.toArray=true→TD X l.toArray k V0 l.length (Array.replicate l.length false) V σ Q):TC X V σ (.region r l.toArray true) Q:=by
 intro w s a h1 h2 m
 rw [Bool.and_eq_true] at b
 refine wp_mono (P:=X.P) (Q:=gN X.n (NP Q)) (wp_region_any u (ms (S:=fun w=>St X.C w V0) (k:=k) _ _ _ _ ?_)) ?_
 ·have:=h b.1 b.2 a w.drew h1 h2 m (fun j o _ i=>by
   exfalso
   by_cases hj:j<l.length
   ·simp [Array.getElem?_replicate,hj] at i
   ·simp [Array.getElem?_replicate,hj] at i) s.drew
  simpa using this
 ·rintro e a w q
  refine n6 q fun g=>?_
  cases e<;>first | exact g | exact g.elim
theorem ws (b:Region.ready .any ops listed=[])(h:TQ X V σ .normal Q):TD X ops k V0 fuel listed V σ Q:=by
 intro a w h1 h2 g _ s
 have e:gN X.n (NP Q) .normal a w:=.inl ⟨h1,h2,by rw [g]; exact h w s⟩
 cases fuel with
 | zero=>exact ⟨b,e⟩
 | succ fuel=>exact ⟨fun _=>e,by rw [b]; intro i j; cases j⟩
theorem AA (i:Nat)(v:Value)(m:ops[i]?=some ⟨some d,op,ty,pos,af,gd⟩)(F:VO X V0 σ ⟨some d,op,ty,pos,af,gd⟩ v)(hw:dS ops σ ⟨some d,op,ty,pos,af,gd⟩=true)(u:iH X.n (some d)=true)
  (g:Nat.blt i k=true) (B:mr ops k i=true) (E:Region.noSelect ops=true) (j:(Region.free .any ops listed i&&(Region.ready .any ops listed).contains i)=true) (hS:∀ w,St X.C w V→St X.C w V0)
  (h:TD X ops k V0 fuel (listed.setIfInBounds i true) V (kB σ d v) Q):TD X ops k V0 (fuel+1) listed V σ Q:=by
 intro a w h1 h2 e b s
 rw [Bool.and_eq_true] at j
 obtain ⟨p1,r,D⟩:=l8 (o:=⟨some d,op,ty,pos,af,gd⟩) u h1 h2 e v
 have l:i∈Region.ready .any ops listed:=by simpa using j.2
 refine kJ (v:=v) m g B (Region.noSelect_spec E) ?_ fuel listed a w b (Region.free_spec m j.1) l ?_ (hS w s) (h _ w p1 r D (b.step l) s)
 ·rintro c a w q
  exact (fH q (by simp)).2.2.elim
 ·exact .inl ⟨by rw [ji,e]; exact hw,fun w s=>by rw [jQ,e]; exact F w s⟩
theorem AB (i:Nat)(v:Value)(e:ops[i]?=some ⟨some d,op,ty,pos,af,gd⟩)(j:VO X V0 σ ⟨some d,op,ty,pos,af,gd⟩ v)(hw:dS ops σ ⟨some d,op,ty,pos,af,gd⟩=true)(b:iH X.n (some d)=true)
  (a:Nat.blt i k=true) (l:jH ops k=true) (g:Region.noSelect ops=true) (m:(Region.free .any ops listed i&&(Region.ready .any ops listed).contains i)=true) (hS:∀ w,St X.C w V→St X.C w V0)
  (h:TD X ops k V0 fuel (listed.setIfInBounds i true) V (kB σ d v) Q):TD X ops k V0 (fuel+1) listed V σ Q :=
 AA i v e j hw b a (qd l a) g m hS h
theorem wt (i:Nat)(m:ops[i]?=some ⟨some d,op,ty,pos,af,gd⟩)(hw:dS ops σ ⟨some d,op,ty,pos,af,gd⟩=false)(u:iH X.n (some d)=true)
  (e:Nat.blt i k=true) (B:mr ops k i=true) (E:Region.noSelect ops=true) (g:(Region.free .any ops listed i&&(Region.ready .any ops listed).contains i)=true) (hS:∀ w,St X.C w V→St X.C w V0)
  (h:TD X ops k V0 fuel (listed.setIfInBounds i true) V (kB σ d undef) Q):TD X ops k V0 (fuel+1) listed V σ Q:=by
 intro a w h1 h2 j b s
 rw [Bool.and_eq_true] at g
 obtain ⟨p1,r,D⟩:=l8 (o:=⟨some d,op,ty,pos,af,gd⟩) u h1 h2 j undef
 have l:i∈Region.ready .any ops listed:=by simpa using g.2
 refine kJ (v:=undef) m e B (Region.noSelect_spec E) ?_ fuel listed a w b (Region.free_spec m g.1) l ?_ (hS w s) (h _ w p1 r D (b.step l) s)
 ·rintro c a w q
  exact (fH q (by simp)).2.2.elim
 ·exact .inr ⟨by rw [ji,j]; exact hw,rfl⟩
theorem yh (i:Nat)(e:ops[i]?=some ⟨some d,op,ty,pos,af,gd⟩)(hw:dS ops σ ⟨some d,op,ty,pos,af,gd⟩=false)(b:iH X.n (some d)=true)
  (a:Nat.blt i k=true) (j:jH ops k=true) (g:Region.noSelect ops=true) (l:(Region.free .any ops listed i&&(Region.ready .any ops listed).contains i)=true) (hS:∀ w,St X.C w V→St X.C w V0)
  (h:TD X ops k V0 fuel (listed.setIfInBounds i true) V (kB σ d undef) Q):TD X ops k V0 (fuel+1) listed V σ Q :=
 wt i e hw b a (qd j a) g l hS h
theorem hX (rs:List Nat)(g:Region.ready .any ops listed=rs)(D:Nat.blt 0 rs.length=true)(h:yg X ops k V0 fuel listed V σ Q rs):TD X ops k V0 (fuel+1) listed V σ Q:=by
 intro a w h1 h2 h3 I s
 refine ⟨fun h0=>(by rw [g] at h0; rw [h0] at D; cases D),fun i F=>?_⟩
 have B:=F
 rw [g] at F
 clear g D
 induction rs with
 | nil=>cases F
 | cons j rs ih =>
  rcases List.mem_cons.1 F with rfl | F
  ·have hj:=h.1
   obtain ⟨_,o,Z,_⟩:=mem_ready.1 B
   rw [Z] at hj
   have m:=hj w s a h1 h2 h3
   unfold wpOp
   simp only [Z]
   unfold wpList at m
   split
   ·rename_i hw
    rw [if_pos hw] at m
    have up:∀ r,o.upon X.P a (wpList X.P ops (gN X.n (DK X ops k V0 fuel listed i Q)) []) (gN X.n (DK X ops k V0 fuel listed i Q)) r →
      o.upon X.P a (fun E l=>(Nat.blt i k=true→nv ops k listed=true→St X.C l V0)∧jT X.P ops (gN X.n (NP Q)) (fun w=>St X.C w V0) k fuel (listed.setIfInBounds i true) E l) (gN X.n (NP Q)) r:=by
     have Y:∀ c a w,gN X.n (DK X ops k V0 fuel listed i Q) (.panic c) a w→gN X.n (NP Q) (.panic c) a w:=by
      rintro c a w q
      exact (fH q (by simp)).2.2.elim
     have G:∀ E l,wpList X.P ops (gN X.n (DK X ops k V0 fuel listed i Q)) [] E l→(Nat.blt i k=true→nv ops k listed=true→St X.C l V0)∧jT X.P ops (gN X.n (NP Q)) (fun w=>St X.C w V0) k fuel (listed.setIfInBounds i true) E l:=by
      rintro E l q
      obtain ⟨L,T,M⟩:=fH q (by simp)
      exact M E L T rfl (I.step B)
     intro r g
     match r,g with
     | .ok (.value v) l,g=>exact G _ _ g
     | .ok .skip l,g=>exact G _ _ g
     | .ok (.defer _) l,g=>exact G _ _ g
     | .ok (.enter f args) l,g =>
      refine Calls.mono' g ?_
      intro e O J
      cases e with
      | returned v=>exact G _ _ J
      | panicked c=>exact Y _ _ _ J
      | outgrown =>
       obtain ⟨b,u,U⟩:=J
       exact (fH U (by simp)).2.2.elim
     | .ok (.row row args) l,g=>exact Rows.mono g fun v O h=>G _ _ h
     | .halt (.panic v) l,g=>exact Y _ _ _ g
    rcases m with m | ⟨h1,b,u,U⟩
    ·exact .inl (up _ m)
    ·exact (fH U (by simp)).2.2.elim
   ·rename_i hw
    rw [if_neg hw] at m
    obtain ⟨L,T,M⟩:=fH m (by simp)
    exact M _ L T rfl (I.step B)
  ·exact ih h.2 F
theorem yi (i:Nat)(b:Region.ready .any ops listed=[i])(a:ops[i]?=some o)(h:TL X ops V σ [o] (DK X ops k V0 fuel listed i Q)):TD X ops k V0 (fuel+1) listed V σ Q :=
 hX [i] b rfl ⟨by rw [a]; exact h,trivial⟩
theorem aG {i:Nat}(hS:∀ w,St X.C w V→St X.C w V0)(h:TD X ops k V0 fuel (listed.setIfInBounds i true) V σ Q):TQ X V σ .normal (DK X ops k V0 fuel listed i Q) :=
 fun w s a h1 h2 b e=>⟨fun _ _=>hS w s,h a w h1 h2 b e s⟩
theorem wu {i:Nat}(e:Nat.blt i k=false)(h:TD X ops k V0 fuel (listed.setIfInBounds i true) V σ Q):TQ X V σ .normal (DK X ops k V0 fuel listed i Q) :=
 fun w s a h1 h2 b g=>⟨fun h=>(by rw [e] at h; cases h),h a w h1 h2 b g s⟩
end
end Go.Pg
namespace Go.Pg
section
variable {α:Type}{K:Kind α}{C w:World}{V:List HP}
theorem St.len {a:Option Addr}{n c:Nat}{xs:List α}(s:St C w V)(i:Nat)(h:jN (lk V i) K (.slice a n c) xs):n=xs.length:=by
 obtain ⟨J,lw,A,g,b,h2,e,j⟩:=s.reads h
 injection b
theorem St.cap {a:Option Addr}{n c:Nat}{xs:List α}(s:St C w V)(i:Nat)(h:jN (lk V i) K (.slice a n c) xs):n≤9223372036854775807:=by
 obtain ⟨J,lw,A,g,e,h2,b,j⟩:=s.reads h
 have:n=xs.length:=by injection e
 simp only [maxLen] at b
 omega
theorem St.dup {v:Value}{xs:List α}(s:St C w V)(i:Nat)(e:lk V i=aO K v xs):St C w (aO K v xs::V):=by
 obtain ⟨a,I,b,g,j,l,s⟩:=s
 obtain ⟨h1,h2,h,p,s'⟩:=eR i s
 rw [e] at p
 exact ⟨a,I,b,g,j,l,Hp.none,b,Join.none b,⟨rfl,p.2⟩,s⟩
theorem St.shr {e:Nat}{v:Value}{xs:List α}(s:St C w V)(i:Nat)(a:lk V i=ow K e v xs):St C w (aO K v xs::Pg.rm V i):=by
 have:=s.mv i
 unfold Pg.mv at this
 rw [a] at this
 exact St.share this (fun I J b l m p=>⟨rfl,kD l m p⟩)
theorem St.nilo (s:St C w V)(K:Kind α)(e:Nat):St C w (ow K e (.slice none 0 0) []::V) :=
 St.new s id (fun I _=>⟨Hp.none,.inl ⟨none,rfl,rfl,rfl⟩,fun _ _ e=>(by cases e),fun _ h=>absurd rfl h⟩) (fun _ _ h=>h)
theorem St.nilr (s:St C w V)(K:Kind α):St C w (aO K (.slice none 0 0) []::V) :=
 St.new s id (fun I _=>⟨Hp.none,⟨rfl,none,0,rfl,Nat.le_refl _,Nat.zero_le _,fun h=>absurd h (Nat.lt_irrefl _)⟩,fun _ _ e=>(by cases e),fun _ h=>absurd rfl h⟩) (fun _ _ h=>h)
end
section
variable {X:Cx}{V:List HP}{σ:dA}{Q:Exit→dA→World→Prop}{ops:Array Oper}{rest:List Oper}{o:Oper}{cd:Code}{ex:Exit}
variable {d:Option Nat}{ty:TypeId}{pos:String}{af:Array Edge}{gd:Option (Nat×Bool)}
variable {α β:Type}
theorem aL {K:Kind α}{a:Option Addr}{n c:Nat}{xs:List α}(i:Nat)(b:jN (lk V i) K (.slice a n c) xs)(h:n=xs.length→TL X ops V σ rest Q):TL X ops V σ rest Q:=fun w s=>h (s.len i b) w s
theorem bH {K:Kind α}{a:Option Addr}{n c:Nat}{xs:List α}(i:Nat)(b:jN (lk V i) K (.slice a n c) xs)(h:n=xs.length→TC X V σ cd Q):TC X V σ cd Q:=fun w s=>h (s.len i b) w s
theorem hY {K:Kind α}{a:Option Addr}{n c:Nat}{xs:List α}(i:Nat)(b:jN (lk V i) K (.slice a n c) xs)(h:n=xs.length→TQ X V σ ex Q):TQ X V σ ex Q:=fun w s=>h (s.len i b) w s
theorem iT {V':List HP}(f:∀ w,St X.C w V→St X.C w V')(h:TL X ops V' σ rest Q):TL X ops V σ rest Q:=fun w s=>h w (f w s)
theorem yj {V':List HP}(f:∀ w,St X.C w V→St X.C w V')(h:TC X V' σ cd Q):TC X V σ cd Q:=fun w s=>h w (f w s)
theorem AC {V':List HP}(f:∀ w,St X.C w V→St X.C w V')(h:TQ X V' σ ex Q):TQ X V σ ex Q:=fun w s=>h w (f w s)
theorem bY {A:Type}{f:FuncId}{xs:Array Operand}{b:Array TypeId}{as:List Value}{e:List HP}{a:A→Value×List HP}(m:Nat)(i:iH X.n d=true)(hw:dS ops σ ⟨d,.call ⟨.value (.func f),xs,b⟩,ty,pos,af,gd⟩=true)
  (l:aX X.P f=true) (g:xs.toList.map (ev σ)=as) (h:FnOk X.P f as e a) (j:tk m V=e) (k:∀ x,TL X ops ((a x).2++dp m V) (fW σ d (a x).1) rest Q):TL X ops V σ (⟨d,.call ⟨.value (.func f),xs,b⟩,ty,pos,af,gd⟩::rest) Q :=
 wq i hw l g h (by rw [← j,mm]) k
theorem cF {A:Type}{f:FuncId}{g:Operand}{fs cs:List Value}{xs:Array Operand}{b:Array TypeId}{as:List Value}{e:List HP}{a:A→Value×List HP}(m:Nat)(i:iH X.n d=true)(hw:dS ops σ ⟨d,.call ⟨.value g,xs,b⟩,ty,pos,af,gd⟩=true)
  (r:aX X.P f=true) (l:ev σ g=.func (.func f) fs.toArray cs.toArray) (h:fs++xs.toList.map (ev σ)++cs=as) (j:FnOk X.P f as e a) (q:tk m V=e) (k:∀ x,TL X ops ((a x).2++dp m V) (fW σ d (a x).1) rest Q):TL X ops V σ (⟨d,.call ⟨.value g,xs,b⟩,ty,pos,af,gd⟩::rest) Q :=
 ug i hw r l h j (by rw [← q,mm]) k
theorem AllC.append {A B:List HP}(a:AllC A)(b:AllC B):AllC (A++B):=by
 induction A with
 | nil=>exact b
 | cons p A ih=>exact ⟨a.1,ih a.2⟩
theorem m5 {c a b:Operand}{k:Bool}{v e:Value}(h:ev σ c=.bool k)(j:k=true)(g:ev σ a=e)(i:e=v):VO X V σ ⟨d,.pick c a b,ty,pos,af,gd⟩ v:=iA (by
 simp only [pv,h,j,g,i,cond_true])
theorem m6 {c a b:Operand}{k:Bool}{v e:Value}(h:ev σ c=.bool k)(j:k=false)(g:ev σ b=e)(i:e=v):VO X V σ ⟨d,.pick c a b,ty,pos,af,gd⟩ v:=iA (by
 simp only [pv,h,j,g,i,cond_false])
theorem wv {t b:TypeId}{x y:Operand}{a:Option Addr}{n c:Nat}{e:TypeId}(l:lv X.P t=some e)(i:ev σ x=.slice a n c)(j:ev σ y=.slice none 0 0):VO X V σ ⟨d,.binOp .eql t x y b,ty,pos,af,gd⟩ (.bool a.isNone):=by
 intro w _
 have g:=iS l
 have h:(Op.equal t (.slice a n c) (.slice none 0 0)).run X.P w=.ok a.isNone w:=by
  unfold Op.equal
  rw [show Op.maxDepth=9999+1 from rfl]
  unfold Op.equalIn
  rw [Sem.run_bind,run_underlying g]
  cases a<;>rfl
 cases a<;>simp [execOp,i,j,eqGuard,binOp,h]
end
end Go.Pg
namespace Go.Pg
def fY (P:Program)(T:TypeId):Option (List (Nat×Nat)):=match P.underlying T with
 | some (.struct fs)=>fs.toList.mapM fun f=>(P.info? f.type).map fun i=>(f.offset,i.size)
 | _=>none
def qe (ps:List (Nat×Nat)):List Value→List (Nat×Value)→Option (List Value)
 | z,[]=>some z
 | z,(i,v)::rest=>match qW ps i with
  | some (off,sz)=>cond (Nat.beq v.cells.toList.length sz&&Nat.ble (off+sz) z.length) (qe ps (z.take off++v.cells.toList++z.drop (off+sz)) rest) none
  | none=>none
theorem s8:∀ (l:List Value) (a j:Nat) (cs:Array Value),a+j+l.length≤cs.size →
  ((l.zipIdx j).foldl (fun cs (c,j)=>cs.setIfInBounds (a+j) c) cs).toList=cs.toList.take (a+j)++l++cs.toList.drop (a+j+l.length):=by
 intro l
 induction l with
 | nil=>intro a j cs _; simp
 | cons u l ihl =>
  intro a j cs b
  simp only [List.zipIdx_cons,List.foldl_cons]
  rw [ihl a (j+1) _ (by simp at *; omega)]
  simp only [List.length_cons] at b
  rw [Array.toList_setIfInBounds,show a+(j+1)=(a+j)+1 by omega,List.take_succ_eq_append_getElem (by simp; omega),List.take_set_of_le (Nat.le_refl _),List.drop_set_of_lt (by omega)]
  simp [Nat.add_assoc,Nat.add_comm,Nat.add_left_comm]
theorem ww {ps:List (Nat×Nat)}:∀ (parts:List (Nat×Value)) (z:Array Value) (cs:List Value),qe ps z.toList parts=some cs→∃ r,Instr.fill (ps.toArray[·]?) z parts=some r∧r.toList=cs:=by
 intro parts
 induction parts with
 | nil=>intro z cs h; exact ⟨z,rfl,Option.some.inj h⟩
 | cons p parts ih =>
  intro z cs h
  obtain ⟨i,v⟩:=p
  unfold qe at h
  rw [ko] at h
  unfold Instr.fill
  have b:ps.toArray[i]?=ps[i]?:=by simp
  simp only [b]
  cases hp:ps[i]? with
  | none=>rw [hp] at h; cases h
  | some q =>
   obtain ⟨a,sz⟩:=q
   rw [hp] at h
   simp only at h ⊢
   cases hb:(Nat.beq v.cells.toList.length sz&&Nat.ble (a+sz) z.toList.length) with
   | false=>rw [hb] at h; cases h
   | true =>
    rw [hb] at h
    simp only [cond_true,Bool.and_eq_true] at h hb
    have h1:v.cells.size=sz:=by simpa using Nat.eq_of_beq_eq_true hb.1
    have h2:a+sz≤z.size:=by simpa using Nat.le_of_ble_eq_true hb.2
    have e:¬ (v.cells.size≠sz∨a+v.cells.size>z.size):=by rw [h1]; omega
    rw [if_neg (by simpa using e)]
    have g:v.cells.zipIdx.foldl (fun cs (c,j)=>cs.setIfInBounds (a+j) c) z=(v.cells.toList.zipIdx 0).foldl (fun cs (c,j)=>cs.setIfInBounds (a+j) c) z:=by
     rw [← Array.foldl_toList]
     congr 1
     simp
    rw [g]
    refine ih _ cs ?_
    rw [s8 _ _ _ _ (by simp [h1]; omega)]
    simpa [h1] using h
section
variable {X:Cx}{V:List HP}{σ:dA}{Q:Exit→dA→World→Prop}{ops:Array Oper}{rest:List Oper}{o:Oper}
variable {d:Option Nat}{ty:TypeId}{pos:String}{af:Array Edge}{gd:Option (Nat×Bool)}
variable {α β:Type}
theorem om {P:Program}{w:World}:∀ (fs:List Field) (ps:List (Nat×Nat)),fs.mapM (fun f=>(P.info? f.type).map fun i=>(f.offset,i.size))=some ps →
  (fs.mapM (fun f=>(do pure (f.offset,← sizeOf f.type):Sem (Nat×Nat)))).run P w=.ok ps w:=by
 intro fs
 induction fs with
 | nil=>intro ps h; simp at h; subst h; rfl
 | cons f fs ih =>
  intro ps h
  rw [List.mapM_cons] at h ⊢
  cases hi:P.info? f.type with
  | none=>rw [hi] at h; cases h
  | some i =>
   rw [hi] at h
   cases hm:fs.mapM (fun f=>(P.info? f.type).map fun i=>(f.offset,i.size)) with
   | none=>rw [hm] at h; cases h
   | some qs =>
    rw [hm] at h
    obtain rfl:=Option.some.inj h
    have h1:=ih qs hm
    simp only [Sem.run_bind,Sem.run_pure,Result.andThen_ok,eG (show hN P f.type=some i.size by simp [hN,hi]),h1]
theorem aW {T:TypeId}{parts:Array (Nat×Operand)}{cs z:List Value}{ps:List (Nat×Nat)}{l:List (Nat×Value)}(a:fY X.P T=some ps)(B:kp X.P T=some z)(D:parts.toList.map (fun p=>(p.1,ev σ p.2))=l)(u:qe ps z l=some cs) :
  VO X V σ ⟨d,.build T parts,ty,pos,af,gd⟩ (.agg cs.toArray):=by
 intro w _
 unfold fY at a
 split at a
 ·rename_i fs s
  obtain ⟨F,b,q⟩:=kF (P:=X.P) (w:=w) B
  have E:=om (P:=X.P) (w:=w) _ _ a
  obtain ⟨r,h,e⟩:=ww (ps:=ps) l z.toArray cs (by simpa using u)
  have j:(parts.map fun (i,x)=>(i,ev σ x)).toList=l:=by
   rw [← D]; simp
  have g:(fs.mapM (fun f=>(do pure (f.offset,← sizeOf f.type):Sem (Nat×Nat)))).run X.P w=.ok ps.toArray w:=by
   rw [show fs=fs.toList.toArray by simp,List.mapM_toArray,Sem.run_map]
   exact congrArg (fun r=>Result.andThen r _) E
  have m:r=cs.toArray:=by apply Array.ext'; simpa using e
  simp only [execOp,Instr.build,Sem.run_bind,b,Result.andThen_ok,run_underlying s,g,j,q,h,m,Sem.run_pure]
 ·cases a
def nw (K:Kind α){A:Type}(cells:A→α→List Value)(b:A→α→List HP):Prop:=∀ I h x cs,K.own I h x cs→∃ a,cs=cells a x∧eP (b a x) I Hp.none
theorem oq {A:Type}{cells:A→α→List Value}{m:A→α→List HP}{K:Kind α}{C w:World}{e g o n c:Nat}{xs:List α}(s:St C w V)(i:Nat)(Y:nw K cells m)(hV:lk V i=ow K e (.slice (some ⟨g,o,none⟩) n c) xs){j:Nat}{x:α}(L:xs[j]?=some x) :
  ∃ a,(∀ k u,(cells a x)[k]?=some u→w.cell? ⟨g,o+j*K.sz+k,none⟩=some u)∧(cells a x).length=K.sz∧St C w (m a x++V):=by
 obtain ⟨T,I,h,U,J,l,st⟩:=s
 obtain ⟨h1,h2,j',p,s'⟩:=eR i st
 rw [hV] at p
 have p:oa K e I h1 (.slice (some ⟨g,o,none⟩) n c) xs:=p
 rcases p with ⟨A,M,rfl,_⟩|⟨g',c',pre,q,b,fr,hb,M,q2,q3,q4,q5,jo,ol⟩
 ·simp at L
 injection M with e1 e2 e3
 injection e1 with e1
 injection e1 with e1 e4
 subst e1; subst e4
 obtain ⟨O,c1,b1,g1,g2,hc,E,jn,D,F⟩:=kC ol L
 obtain ⟨a,rfl,B⟩:=Y _ _ _ _ D
 have r:w.heap[g]?=some (.cells (pre++q++b).toArray e fr):=l g _ (J.right g _ (j'.left g _ (jo.left g _ (by simp [Hp.one]))))
 refine ⟨a,fun k u G=>?_,K.own_len D,T,I,h,U,J,l,cD.2 ⟨Hp.none,h,Join.none h,B,st⟩⟩
 have Z:=(List.getElem?_eq_some_iff.1 G).1
 have:w.cell? ⟨g,pre.length+j*K.sz+k,none⟩=(pre++q++b)[pre.length+j*K.sz+k]?:=by simp [World.cell?,r]
 rw [this,List.append_assoc,List.getElem?_append_right (by omega),hc,show pre.length+j*K.sz+k - pre.length=j*K.sz+k by omega,List.append_assoc,List.append_assoc,List.getElem?_append_right (by omega),show j*K.sz+k - O.length=k by omega,List.getElem?_append_left Z]
 exact G
theorem yk [Inhabited α]{A:Type}{cells:A→α→List Value}{b:A→α→List HP}{K:Kind α}{T:TypeId}{x:Operand}{e g o n c:Nat}{xs:List α}(i:Nat)(j:Int)(B:iH X.n d=true)(hw:dS ops σ ⟨d,.load T x,ty,pos,af,gd⟩=true)(q:eX X.P T=some true)(G:hN X.P T=some K.sz)
  (E:nw K cells b) (m:lk V i=ow K e (.slice (some ⟨g,o,none⟩) n c) xs) (J:ev σ x=.pointer (some ⟨g,o+j.toNat*K.sz,none⟩)) (F:0≤j) (h1:j<n)
  (h:∀ a,TL X ops (b a (ix xs j)++V) (fW σ d (.agg (cells a (ix xs j)).toArray)) rest Q):TL X ops V σ (⟨d,.load T x,ty,pos,af,gd⟩::rest) Q:=by
 intro w s
 have L:n=xs.length:=s.len i (by rw [m]; exact aB)
 obtain ⟨a,I,l,s'⟩:=oq s i E m (jp F (by omega))
 refine eM B hw ?_
 have:=eY (P:=X.P) (w:=w) (a:=⟨g,o+j.toNat*K.sz,none⟩) (cs:=cells a (ix xs j)) q (by rw [l]; exact G) (fun k u r=>by rw [fR]; exact I k u r)
 have D:(execOp (ev σ) ⟨d,.load T x,ty,pos,af,gd⟩).run X.P w=.ok (.value (.agg (cells a (ix xs j)).toArray)) w:=by
  simp only [execOp,Instr.loadAt,J,Instr.sureAddr,Sem.run_bind,Sem.run_pure,Result.andThen_ok,this]
 rw [D]
 exact h a w s'
theorem wx [Inhabited α]{A:Type}{cells:A→α→List Value}{b:A→α→List HP}{K:Kind α}{T:TypeId}{x:Operand}{e g o n c fo:Nat}{xs:List α}{pr:A→α→Value}(i:Nat)(j:Int)(u:iH X.n d=true)(hw:dS ops σ ⟨d,.load T x,ty,pos,af,gd⟩=true)(q:eX X.P T=some false)
  (B:nw K cells b) (G:∀ a x,qW (cells a x) fo=some (pr a x)) (m:lk V i=ow K e (.slice (some ⟨g,o,none⟩) n c) xs) (F:ev σ x=.pointer (some ⟨g,o+j.toNat*K.sz+fo,none⟩)) (D:0≤j) (h1:j<n)
  (h:∀ a,TL X ops (b a (ix xs j)++V) (fW σ d (pr a (ix xs j))) rest Q):TL X ops V σ (⟨d,.load T x,ty,pos,af,gd⟩::rest) Q:=by
 intro w s
 have I:n=xs.length:=s.len i (by rw [m]; exact aB)
 obtain ⟨a,E,l,s'⟩:=oq s i B m (jp D (by omega))
 refine eM u hw ?_
 have:=eL (P:=X.P) (w:=w) (a:=⟨g,o+j.toNat*K.sz+fo,none⟩) q (E fo _ (by rw [← ko]; exact G a _))
 have r:(execOp (ev σ) ⟨d,.load T x,ty,pos,af,gd⟩).run X.P w=.ok (.value (pr a (ix xs j))) w:=by
  simp only [execOp,Instr.loadAt,F,Instr.sureAddr,Sem.run_bind,Sem.run_pure,Result.andThen_ok,this]
 rw [r]
 exact h a w s'
theorem St.seps {C w:World}{p:HP}{A V:List HP}(s:St C w (p::(A++V))):St C w (⟨fun I h=>∃ h1 h2,Join h1 h2 h∧p.p I h1∧eP A I h2,fun l ⟨h1,h2,j,a,b⟩=>⟨h1,h2,j,p.mono l a,iF l b⟩⟩::V):=by
 obtain ⟨a,I,h,g,j,l,h1,h2,m,c,s⟩:=s
 obtain ⟨i,q,u,d,e⟩:=cD.1 s
 obtain ⟨k,k1,r⟩:=Join.assoc' u m
 exact ⟨a,I,h,g,j,l,k,q,r,⟨h1,i,k1,c,d⟩,e⟩
theorem dV [Inhabited α]{K:Kind α}{T e:TypeId}{x y:Operand}{g o n c:Nat}{xs:List α}{vs:List Value}{x':α}(k:Nat)(j:Int)(hd:iH X.n d=true)(hw:dS ops σ ⟨d,.store T x y,ty,pos,af,gd⟩=true)(hs:hN X.P T=some K.sz)
  (hx:ev σ x=.pointer (some ⟨g,o+j.toNat*K.sz,none⟩)) (hy:(ev σ y).cells.toList=vs) (h0:0≤j) (h1:j<n) (ho:∀ I h,eP (tk k V) I h→K.own I h x' vs)
  (h:TL X ops (ow K e (.slice (some ⟨g,o,none⟩) n c) (xs.set j.toNat x')::dp k V) (fW σ d undef) rest Q):TL X ops (ow K e (.slice (some ⟨g,o,none⟩) n c) xs::V) σ (⟨d,.store T x y,ty,pos,af,gd⟩::rest) Q:=by
 intro w s
 have s2:St X.C w (_::dp k V):=St.seps (A:=tk k V) (V:=dp k V) (by rw [mm]; exact s)
 obtain ⟨_,w',hr,s'⟩:=St.act s2 0 (q:=fun _:Unit=>ow K e (.slice (some ⟨g,o,none⟩) n c) (xs.set j.toNat x')) (Ψ:=fun _ w'=>(execOp (ev σ) ⟨d,.store T x y,ty,pos,af,gd⟩).run X.P w=.ok .skip w') (by
  rintro I hh ⟨a4,hA,B,p,a2⟩ lI lw dj
  have F:=ho I hA a2
  have p:oa K e I a4 (.slice (some ⟨g,o,none⟩) n c) xs:=p
  rcases p with ⟨A,hv,rfl,_⟩|⟨g',c',pre,i,a,fr,hb,hv,h2,h3,h4,U,E,ol⟩
  ·injection hv with _ hv _
   omega
  injection hv with l M e3
  injection l with l
  injection l with l e4
  subst l; subst e3; subst e4; subst M
  obtain ⟨J,c1,L,g1,g2,hc,a6,jn,ox,Y⟩:=kC ol (jp h0 h1)
  have a3:=K.own_len ox
  have Z:=K.own_len F
  have O:w.heap[g]?=some (.cells (pre++i++a).toArray e fr):=lw g _ (B.left g _ (E.left g _ (by simp [Hp.one])))
  have a8:i.length=J.length+c1.length+L.length:=by rw [hc]; simp [Nat.add_assoc]
  obtain ⟨w',r,e',ot,sm⟩:=jR (P:=X.P) (N:=(pre++i++a).length) (T:=e) (fr:=fr) (b:=g) (by simpa [Nat.add_assoc] using U) vs (pre.length+j.toNat*K.sz) 0 (pre++i++a) w rfl O (by simp only [List.length_append]; omega) (K.own_one F)
  obtain ⟨m,jm⟩:=Join.of_disj (h1:=hA) (h2:=g2) (fun b=>by
   rcases B.disj b with f | f
   ·exact .inr ((jn.is_none b).1 ((E.is_none b).1 f).2).2
   ·exact .inl f)
  have a7:pre++i++a=(pre++i++a):=rfl
  have a0:(pre++i++a).take (pre.length+j.toNat*K.sz+0)++vs++(pre++i++a).drop (pre.length+j.toNat*K.sz+0+vs.length)=pre++(J++vs++L)++a:=by
   have l:pre++i++a=(pre++J)++(c1++(L++a)):=by rw [hc]; simp [List.append_assoc]
   have M:pre.length+j.toNat*K.sz+0=(pre++J).length:=by rw [List.length_append]; omega
   rw [l,M,List.take_left,List.drop_append,List.drop_of_length_le (by omega),List.nil_append,Nat.add_sub_cancel_left,Z,← a3,List.drop_left]
   simp [List.append_assoc]
  obtain ⟨h',D⟩:=Join.of_disj (h1:=Hp.one g (.cells (pre++(J++vs++L)++a).toArray e fr)) (h2:=m) (fun b=>by
   by_cases hbg:b=g
   ·subst hbg
    refine .inr ((jm.is_none b).2 ⟨?_,?_⟩)
    ·rcases B.disj b with f | f
     ·have:=((E.is_none b).1 f).1
      simp [Hp.one] at this
     ·exact f
    ·rcases E.disj b with f | f
     ·simp [Hp.one] at f
     ·exact ((jn.is_none b).1 f).2
   ·exact .inl (by simp [Hp.one,hbg]))
  refine ⟨(),w',h',?_,sm _,?_,?_,?_,?_⟩
  ·have a5:(ev σ y).cells.size=K.sz:=by rw [← Z,← hy]; simp
   simp only [execOp,Instr.storeAt,hx,Instr.sureAddr,Sem.run_bind,Sem.run_pure,Result.andThen_ok,storeVar,eG hs,hy,a5,ne_eq,not_true_eq_false,if_false,r]
  ·refine .inr ⟨g,_,pre,J++vs++L,a,fr,m,by rw [List.length_set],by rw [List.length_set]; exact h2,h3,by rw [List.length_set]; exact h4,?_,D,Y I hA x' vs m (Hp.le_refl I) jm F⟩
   rcases U with U | U
   ·exact .inl U
   ·refine .inr ?_
    simp only [List.length_append] at *
    omega
  ·intro b o' l
   rcases D.cases l with ⟨l,_⟩|⟨l,M⟩
   ·simp only [Hp.one] at l
    split at l
    ·rename_i G
     subst G
     rw [← Option.some.inj l,e',a0]
    ·cases l
   ·have u:b≠g:=by rintro rfl; simp [Hp.one] at M
    rw [ot b u]
    rcases jm.cases l with ⟨l,_⟩|⟨l,_⟩
    ·exact lw b _ (B.right b _ l)
    ·exact lw b _ (B.left b _ (E.right b _ (jn.right b _ l)))
  ·intro b G
   refine .inl fun hn=>G ?_
   have q1:=(B.is_none b).1 hn
   have q2:=(E.is_none b).1 q1.1
   refine (D.is_none b).2 ⟨?_,(jm.is_none b).2 ⟨q1.2,((jn.is_none b).1 q2.2).2⟩⟩
   have:=q2.1
   simp only [Hp.one] at *
   split at this
   ·cases this
   ·rename_i u; rw [if_neg u]
  ·intro b o' hn l
   have q1:=(B.is_none b).1 hn
   have q2:=((E.is_none b).1 q1.1).1
   have u:b≠g:=by rintro rfl; simp [Hp.one] at q2
   rw [ot b u]
   exact l)
 exact eM hd hw (by rw [hr]; exact h w' s')
end
end Go.Pg
namespace Go.Pg
structure DecK {α:Type}(K:Kind α) where
 A:Type
 cells:A→α→List Value
 ents:A→α→List HP
 dec:Am K cells ents
section
variable {α β:Type}
def DecK.scal (enc:α→Value)(h1:∀ x,(enc x).oneCell'=true):DecK (Kind.scal enc h1):=⟨Unit,fun _ x=>[enc x],fun _ _=>[],fun I x cs h=>⟨(),h,rfl⟩⟩
def DecK.sl (e:Nat)(K:Kind α):DecK (Kind.sl e K):=⟨Option Addr×Nat,fun a xs=>[.slice a.1 xs.length a.2],fun a xs=>[aO K (.slice a.1 xs.length a.2) xs],fun I x cs h=>by
 obtain ⟨v,rfl,r⟩:=h
 obtain ⟨a,c,rfl⟩:=oe r
 exact ⟨(a,c),rfl,Hp.none,Hp.none,Join.none _,⟨rfl,r⟩,rfl⟩⟩
def DecK.pair {A:Kind α}{B:Kind β}(a:DecK A)(b:DecK B):DecK (Kind.pair A B):=⟨a.A×b.A,fun p x=>a.cells p.1 x.1++b.cells p.2 x.2,fun p x=>a.ents p.1 x.1++b.ents p.2 x.2,fun I x cs h=>by
 obtain ⟨j,i,rfl,h1,h2⟩:=h
 obtain ⟨p,rfl,e⟩:=a.dec _ _ _ h1
 obtain ⟨q,rfl,g⟩:=b.dec _ _ _ h2
 exact ⟨(p,q),rfl,cD.2 ⟨Hp.none,Hp.none,Join.none _,e,g⟩⟩⟩
def DecK.iso {K:Kind α}(a:DecK K)(f:β→α):DecK (Kind.iso K f):=⟨a.A,fun p x=>a.cells p (f x),fun p x=>a.ents p (f x),fun I x cs h=>a.dec I (f x) cs h⟩
theorem DecK.own {K:Kind α}(a:DecK K):nw K.share a.cells a.ents:=fun I h x cs o=>a.dec I x cs o.2
theorem DecK.leaf {K:Kind α}(a:DecK K){fo:Nat}{pr:α→Value}(h:∀ p x,qW (a.cells p x) fo=some (pr x)):yc K fo pr:=fun I x cs b=>by
 obtain ⟨p,rfl,_⟩:=a.dec I x cs b
 exact h p x
structure MkS {α:Type}(K:Kind α) where
 A:Type
 cells:A→α→List Value
 ents:A→α→List HP
 put:∀ I h a x,eP (ents a x) I h→h=Hp.none∧K.rd I x (cells a x)
structure MkO {α:Type}(K:Kind α) where
 A:Type
 cells:A→α→List Value
 ents:A→α→List HP
 put:∀ I h a x,eP (ents a x) I h→K.own I h x (cells a x)
def MkS.scal (enc:α→Value)(h1:∀ x,(enc x).oneCell'=true):MkS (Kind.scal enc h1):=⟨Unit,fun _ x=>[enc x],fun _ _=>[],fun I h a x s=>⟨s,rfl⟩⟩
def MkS.sl (e:Nat)(K:Kind α):MkS (Kind.sl e K):=⟨Value,fun v _=>[v],fun v xs=>[aO K v xs],fun I h a x s=>by
 obtain ⟨h1,h2,j,⟨rfl,r⟩,e⟩:=s
 have e:h2=Hp.none:=e
 subst e
 exact ⟨j.eq_of_none,a,rfl,r⟩⟩
def MkS.pair {A:Kind α}{B:Kind β}(a:MkS A)(b:MkS B):MkS (Kind.pair A B):=⟨a.A×b.A,fun p x=>a.cells p.1 x.1++b.cells p.2 x.2,fun p x=>a.ents p.1 x.1++b.ents p.2 x.2,fun I h p x s=>by
 obtain ⟨h1,h2,j,l,g⟩:=cD.1 s
 obtain ⟨m,e⟩:=a.put _ _ _ _ l
 obtain ⟨q,i⟩:=b.put _ _ _ _ g
 subst m; subst q
 exact ⟨j.eq_of_none,_,_,rfl,e,i⟩⟩
def MkS.iso {K:Kind α}(a:MkS K)(f:β→α):MkS (Kind.iso K f):=⟨a.A,fun p x=>a.cells p (f x),fun p x=>a.ents p (f x),fun I h p x s=>a.put I h p (f x) s⟩
def MkO.scal (enc:α→Value)(h1:∀ x,(enc x).oneCell'=true):MkO (Kind.scal enc h1):=⟨Unit,fun _ x=>[enc x],fun _ _=>[],fun I h a x s=>⟨s,rfl⟩⟩
def MkO.sl (e:Nat)(K:Kind α):MkO (Kind.sl e K):=⟨Value,fun v _=>[v],fun v xs=>[ow K e v xs],fun I h a x s=>by
 obtain ⟨h1,h2,j,o,b⟩:=s
 have b:h2=Hp.none:=b
 subst b
 rw [j.symm.eq_of_none]
 exact ⟨a,rfl,o⟩⟩
def MkO.pair {A:Kind α}{B:Kind β}(a:MkO A)(b:MkO B):MkO (Kind.pair A B):=⟨a.A×b.A,fun p x=>a.cells p.1 x.1++b.cells p.2 x.2,fun p x=>a.ents p.1 x.1++b.ents p.2 x.2,fun I h p x s=>by
 obtain ⟨h1,h2,j,g,e⟩:=cD.1 s
 exact ⟨h1,h2,_,_,j,rfl,a.put _ _ _ _ g,b.put _ _ _ _ e⟩⟩
def MkO.iso {K:Kind α}(a:MkO K)(f:β→α):MkO (Kind.iso K f):=⟨a.A,fun p x=>a.cells p (f x),fun p x=>a.ents p (f x),fun I h p x s=>a.put I h p (f x) s⟩
structure SpO {α:Type}(K:Kind α) where
 A:Type
 cells:A→α→List Value
 ents:A→α→List HP
 sp:∀ I h x cs,K.own I h x cs→∃ a,cs=cells a x∧eP (ents a x) I h
theorem s9 {L:Kind β}{e:Nat}{I h:Hp}{v:Value}{ys:List β}(r:oa L e I h v ys):∃ a c,v=.slice a ys.length c:=by
 rcases r with ⟨A,rfl,rfl,_⟩|⟨g,c,pre,i,b,fr,h1,rfl,_⟩
 ·exact ⟨A,0,rfl⟩
 ·exact ⟨_,c,rfl⟩
def SpO.scal (enc:α→Value)(h1:∀ x,(enc x).oneCell'=true):SpO (Kind.scal enc h1):=⟨Unit,fun _ x=>[enc x],fun _ _=>[],fun I h x cs o=>⟨(),o.2,o.1⟩⟩
def SpO.sl (e:Nat)(K:Kind α):SpO (Kind.sl e K):=⟨Option Addr×Nat,fun a xs=>[.slice a.1 xs.length a.2],fun a xs=>[ow K e (.slice a.1 xs.length a.2) xs],fun I h x cs o=>by
 obtain ⟨v,rfl,r⟩:=o
 obtain ⟨a,c,rfl⟩:=s9 r
 exact ⟨(a,c),rfl,h,Hp.none,Join.none' _,r,rfl⟩⟩
def SpO.pair {A:Kind α}{B:Kind β}(a:SpO A)(b:SpO B):SpO (Kind.pair A B):=⟨a.A×b.A,fun p x=>a.cells p.1 x.1++b.cells p.2 x.2,fun p x=>a.ents p.1 x.1++b.ents p.2 x.2,fun I h x cs o=>by
 obtain ⟨h1,h2,l,i,j,rfl,o1,o2⟩:=o
 obtain ⟨p,rfl,g⟩:=a.sp _ _ _ _ o1
 obtain ⟨q,rfl,e⟩:=b.sp _ _ _ _ o2
 exact ⟨(p,q),rfl,cD.2 ⟨h1,h2,j,g,e⟩⟩⟩
def SpO.iso {K:Kind α}(a:SpO K)(f:β→α):SpO (Kind.iso K f):=⟨a.A,fun p x=>a.cells p (f x),fun p x=>a.ents p (f x),fun I h x cs o=>a.sp I h (f x) cs o⟩
structure Zr {α:Type}(K:Kind α) where
 z:α
 cs:List Value
 len:cs.length=K.sz
 own:∀ I,K.own I Hp.none z cs
def Zr.scal (enc:α→Value)(h1:∀ x,(enc x).oneCell'=true)(z:α):Zr (Kind.scal enc h1):=⟨z,[enc z],rfl,fun I=>⟨rfl,rfl⟩⟩
def Zr.sl (e:Nat)(K:Kind α):Zr (Kind.sl e K):=⟨[],[.slice none 0 0],rfl,fun I=>⟨_,rfl,.inl ⟨none,rfl,rfl,rfl⟩⟩⟩
def Zr.pair {A:Kind α}{B:Kind β}(a:Zr A)(b:Zr B):Zr (Kind.pair A B):=⟨(a.z,b.z),a.cs++b.cs,by rw [List.length_append,a.len,b.len]; rfl,fun I=>⟨Hp.none,Hp.none,_,_,Join.none _,rfl,a.own I,b.own I⟩⟩
def Zr.iso {K:Kind α}(a:Zr K)(f:β→α)(z:β)(h:f z=a.z):Zr (Kind.iso K f):=⟨z,a.cs,a.len,fun I=>by show K.own I Hp.none (f z) a.cs; rw [h]; exact a.own I⟩
def Zr.share {K:Kind α}(a:Zr K):Zr K.share:=⟨a.z,a.cs,a.len,fun I=>⟨rfl,K.own_rd (Hp.le_refl I) (Hp.none_le I) (a.own I)⟩⟩
theorem Zr.zk {P:Program}{K:Kind α}{e:TypeId}(a:Zr K)(h:kp P e=some a.cs):og P K e a.z:=⟨a.cs,h,a.len,a.own⟩
theorem pd {K:Kind α}{I J:Hp}(l:Hp.le I J):∀ (xs:List α) (h:Hp) (cs:List Value),Hp.le h J→gG K I h xs cs→gG K.share J Hp.none xs cs:=by
 intro xs
 induction xs with
 | nil=>intro h cs _ o; exact ⟨rfl,o.2⟩
 | cons x xs ih =>
  rintro h cs i ⟨h1,h2,m,g,j,e,a,b⟩
  exact ⟨Hp.none,Hp.none,m,g,Join.none _,e,⟨rfl,K.own_rd l (Hp.le_trans j.left i) a⟩,ih h2 g (Hp.le_trans j.right i) b⟩
theorem St.wk {C w:World}{V:List HP}{K:Kind α}{e:Nat}{v:Value}{xs:List α}(s:St C w V)(i:Nat)(hV:lk V i=ow K e v xs):St C w (ow K.share e v xs::Pg.rm V i):=by
 obtain ⟨a,I,h,g,j,l,s⟩:=s.mv i
 obtain ⟨h1,h2,u,p,s'⟩:=s
 rw [hV] at p
 have p:oa K e I h1 v xs:=p
 rcases p with ⟨A,rfl,rfl,rfl⟩|⟨b,c,pre,q,r,fr,L,rfl,q2,q3,T,U,B,Y⟩
 ·exact ⟨a,I,h,g,j,l,Hp.none,h2,u,.inl ⟨A,rfl,rfl,rfl⟩,s'⟩
 ·obtain ⟨k,k1,k2⟩:=Join.assoc' u j
  obtain ⟨J,E⟩:=Join.of_disj (h1:=I) (h2:=L) (fun x=>by
   rcases k1.disj x with f | f
   ·exact .inl f
   ·exact .inr ((B.is_none x).1 f).2)
  obtain ⟨O,F⟩:=Join.of_disj (h1:=Hp.one b (.cells (pre++q++r).toArray e fr)) (h2:=h2) (fun x=>by
   rcases u.disj x with f | f
   ·exact .inl ((B.is_none x).1 f).1
   ·exact .inr f)
  obtain ⟨G,M⟩:=Join.of_disj (h1:=J) (h2:=O) (fun x=>by
   by_cases hx:J x=Option.none
   ·exact .inl hx
   ·refine .inr ((F.is_none x).2 ?_)
    cases hI:I x with
    | some o =>
     have:h x=Option.none:=by
      rcases j.disj x with f | f
      ·rw [hI] at f; cases f
      ·exact f
     have:=(u.is_none x).1 this
     exact ⟨((B.is_none x).1 this.1).1,this.2⟩
    | none =>
     have D:L x≠Option.none:=fun Z=>hx ((E.is_none x).2 ⟨hI,Z⟩)
     refine ⟨?_,?_⟩
     ·rcases B.disj x with f | f
      ·exact f
      ·exact absurd f D
     ·rcases u.disj x with f | f
      ·exact absurd ((B.is_none x).1 f).2 D
      ·exact f)
  refine ⟨a,J,O,G,M,?_,_,h2,F,.inr ⟨b,c,pre,q,r,fr,Hp.none,rfl,q2,q3,T,U,Join.none' _,pd E.left xs L q E.right Y⟩,iF E.left s'⟩
  intro x o m
  rcases M.cases m with ⟨m,_⟩|⟨m,_⟩
  ·rcases E.cases m with ⟨m,_⟩|⟨m,_⟩
   ·exact l x o (j.left x o m)
   ·exact l x o (j.right x o (u.left x o (B.right x o m)))
  ·rcases F.cases m with ⟨m,_⟩|⟨m,_⟩
   ·exact l x o (j.right x o (u.left x o (B.left x o m)))
   ·exact l x o (j.right x o (u.right x o m))
end
section
variable {X:Cx}{V:List HP}{σ:dA}{Q:Exit→dA→World→Prop}{ops:Array Oper}{rest:List Oper}
variable {d:Option Nat}{ty:TypeId}{pos:String}{af:Array Edge}{gd:Option (Nat×Bool)}
theorem dJ {T:TypeId}{x:Operand}{b k n:Nat}{cs ds:List Value}{m:Nat}(i:Nat)(a:eX X.P T=some true)(e:hN X.P T=some n)
  (l:lk V i=aJ b cs m) (j:ev σ x=.pointer (some ⟨b,k,none⟩)) (g:(cs.drop k).take n=ds) (h:ds.length=n):VO X V σ ⟨d,.load T x,ty,pos,af,gd⟩ (.agg ds.toArray):=by
 subst g
 exact ua i a e l j h
end
section
variable {α:Type}
theorem MkO.list {K:Kind α}(M:MkO K):∀ (ps:List (M.A×α)) (I h:Hp),eP (ps.flatMap fun p=>M.ents p.1 p.2) I h→gG K I h (ps.map (·.2)) (ps.flatMap fun p=>M.cells p.1 p.2):=by
 intro ps
 induction ps with
 | nil=>intro I h s; exact ⟨s,rfl⟩
 | cons p ps ih =>
  intro I h s
  rw [List.flatMap_cons] at s
  obtain ⟨h1,h2,j,a,b⟩:=cD.1 s
  exact ⟨h1,h2,_,_,j,by rw [List.flatMap_cons],M.put _ _ _ _ a,ih I h2 b⟩
theorem MkS.list {K:Kind α}(M:MkS K):∀ (ps:List (M.A×α)) (I h:Hp),eP (ps.flatMap fun p=>M.ents p.1 p.2) I h→gG K.share I h (ps.map (·.2)) (ps.flatMap fun p=>M.cells p.1 p.2):=by
 intro ps
 induction ps with
 | nil=>intro I h s; exact ⟨s,rfl⟩
 | cons p ps ih =>
  intro I h s
  rw [List.flatMap_cons] at s
  obtain ⟨h1,h2,j,a,b⟩:=cD.1 s
  exact ⟨h1,h2,_,_,j,by rw [List.flatMap_cons],M.put _ _ _ _ a,ih I h2 b⟩
theorem DecK.flat {K:Kind α}(a:DecK K){b:α→List Value}(h:∀ p x,a.cells p x=b x):∀ I x cs,K.rd I x cs→cs=b x:=fun I x cs r=>by
 obtain ⟨p,rfl,_⟩:=a.dec I x cs r
 exact h p x
end
theorem wy {a b:Bool}(e:a=true)(g:b=true):(a&&b)=true:=by rw [e,g]; rfl
theorem cS {a:Bool}(b:a=false):(!a)=true:=by rw [b]; rfl
theorem vb {a b:Bool}(h:a=b):Value.bool a=Value.bool b:=by rw [h]
def bQ {α:Type}[Inhabited α](c:Bool)(x:Option α):Option α:=cond c x (some default)
theorem bN {α:Type}[Inhabited α]{c:Bool}{x:Option α}{r:α}(h:bQ c x=some r)(a:c=true):x=some r:=by
 rw [a] at h
 exact h
section
variable {X:Cx}{V:List HP}{σ:dA}{Q:Exit→dA→World→Prop}{ops:Array Oper}{rest:List Oper}
variable {d:Option Nat}{ty:TypeId}{pos:String}{af:Array Edge}{gd:Option (Nat×Bool)}
theorem j4 {S:TypeId}{x:Operand}{f fo b k a:Nat}(i:cV X.P S f=some fo)(g:ev σ x=.pointer (some ⟨b,k,none⟩))(e:k+fo=a):VO X V σ ⟨d,.fieldAddr S x f,ty,pos,af,gd⟩ (.pointer (some ⟨b,a,none⟩)):=by
 have h:=ub (X:=X) (V:=V) (d:=d) (ty:=ty) (pos:=pos) (af:=af) (gd:=gd) i g
 rw [fR,e] at h
 exact h
theorem iU {A:Type}{x:Code}(pf:A→Prop)(g:A→List (Nat×Value))(b:A→List HP)(j:TC X V σ x (iz (Jn X pf g b) Q))(l:∀ a σ',pf a→TQ X (b a) (p7 σ' (g a)) .normal Q):TC X V σ x Q:=by
 intro w s
 refine W.mono (j w s) ?_
 intro e σ' i q
 cases e with
 | normal =>
  obtain ⟨a,h,h1,h2⟩:=q
  have:=l a σ' h i h2
  rw [la h1] at this
  exact this
 | _=>exact q
theorem eH {T:TypeId}{x:Operand}{g k fo:Nat}{v:Value}{cs:List Value}(i:Nat)(a:eX X.P T=some false)(h:lk V i=cl g k cs)(e:ev σ x=.pointer (some ⟨g,k+fo,none⟩))(b:qW cs fo=some v):VO X V σ ⟨d,.load T x,ty,pos,af,gd⟩ v:=by
 intro w s
 have:=qa s i h fo v (by rw [← ko]; exact b)
 simp only [execOp,Instr.loadAt,e,Instr.sureAddr,Sem.run_bind,Sem.run_pure,Result.andThen_ok,eL a this]
theorem eK {T:TypeId}{x:Operand}{g k fo n:Nat}{cs ds:List Value}(i:Nat)(e:eX X.P T=some true)(l:hN X.P T=some n)(r:lk V i=cl g k cs)(q:ev σ x=.pointer (some ⟨g,k+fo,none⟩))(h:(cs.drop fo).take n=ds)(m:ds.length=n) :
  VO X V σ ⟨d,.load T x,ty,pos,af,gd⟩ (.agg ds.toArray):=by
 intro w s
 have:=qa s i r
 have h2:=eY (P:=X.P) (w:=w) (a:=⟨g,k+fo,none⟩) (cs:=ds) e (by rw [m]; exact l) (fun j u b=>by
  rw [fR,Nat.add_assoc]
  refine this _ _ ?_
  rw [← h,List.getElem?_take] at b
  split at b
  ·rwa [List.getElem?_drop] at b
  ·cases b)
 simp only [execOp,Instr.loadAt,q,Instr.sureAddr,Sem.run_bind,Sem.run_pure,Result.andThen_ok,h2]
end
section
variable {α:Type}{P:Program}{f:FuncId}{args:List Value}
def qf:List HP→List HP→Prop
 | [],[]=>True
 | p::A',q::A=>(∀ I J h,Hp.le I J→Hp.le h J→p.p I h→q.p J Hp.none)∧qf A' A
 | _,_=>False
theorem aU {K:Kind α}{e:Nat}{v:Value}{xs:List α}:∀ I J h,Hp.le I J→Hp.le h J→(ow K e v xs).p I h→(aO K v xs).p J Hp.none:=fun I J h l m p=>⟨rfl,kD l m p⟩
theorem qg {K:Kind α}{e:Nat}{v:Value}{xs:List α}:∀ I J h,Hp.le I J→Hp.le h J→(ow K.share e v xs).p I h→(aO K v xs).p J Hp.none:=fun I J h l m p=>⟨rfl,kD (K:=K.share) l m p⟩
theorem eW {K:Kind α}{e:Nat}{v:Value}{xs:List α}:jN (ow K.share e v xs) K v xs:=aB (K:=K.share)
theorem St.shs {C w:World}{V:List HP}{K:Kind α}{e:Nat}{v:Value}{xs:List α}(s:St C w V)(i:Nat)(a:lk V i=ow K.share e v xs):St C w (aO K v xs::Pg.rm V i):=St.shr (K:=K.share) s i a
theorem pg:∀ (A' A:List HP),qf A' A→∀ I J h,Hp.le I J→Hp.le h J→eP A' I h→eP A J Hp.none:=by
 intro A'
 induction A' with
 | nil =>
  intro A e I J h _ _ s
  cases A with
  | nil=>rfl
  | cons q A=>exact e.elim
 | cons p A' ih =>
  intro A e I J h lI g s
  cases A with
  | nil=>exact e.elim
  | cons q A =>
   obtain ⟨h1,h2,j,a,b⟩:=s
   exact ⟨Hp.none,Hp.none,Join.none _,e.1 I J h1 lI (Hp.le_trans j.left g) a,ih A e.2 I J h2 lI (Hp.le_trans j.right g) b⟩
theorem FnOk.lends {T:Type}{A' A B:List HP}{a:T→Value×List HP}(hc:FnOk P f args (A++B) a)(M:qf A' A)(hp:∀ x,AllC (a x).2):FnOk P f args (A'++B) (fun x=>((a x).1,A'++(a x).2)):=by
 rintro C w V ⟨L,I,hh,g,j,lw,J⟩
 rw [List.append_assoc] at J
 obtain ⟨h1,h2,j',p,s⟩:=cD.1 J
 obtain ⟨Y,i,j2,sP,sV⟩:=cD.1 s
 obtain ⟨k,k1,k2⟩:=Join.assoc' j' j
 have st:St C w (A++B++(BI I::BI h1::V.map (Ay I))):=by
  refine ⟨L,k,h2,g,k2,lw,?_⟩
  rw [List.append_assoc]
  exact cD.2 ⟨Hp.none,h2,Join.none h2,pg A' A M I k h1 k1.left k1.right p,cD.2 ⟨Y,i,j2,iF k1.left sP,Hp.none,i,Join.none i,⟨rfl,k1.left⟩,Hp.none,i,Join.none i,⟨rfl,k1.right⟩,uh k1.left sV⟩⟩
 refine Calls.mono' (hc C w _ st) ?_
 rintro e' w' ⟨x,rfl,u,I',q,g',r,h,F⟩
 refine ⟨x,rfl,u,?_⟩
 obtain ⟨Z,q2,jq,U,b1,b2,jb,⟨rfl,lI⟩,c1,c2,jc,⟨rfl,G⟩,E⟩:=cD.1 F
 have e1:=jb.eq_of_none
 have e2:=jc.eq_of_none
 subst e2; subst e1
 have dj:∀ b,h1 b=Option.none∨q b=Option.none:=fun b=>by
  cases hb:h1 b with
  | none=>exact .inl rfl
  | some o =>
   refine .inr ?_
   rcases r.disj b with f | f
   ·rw [G b o hb] at f; cases f
   ·exact f
 obtain ⟨m,D⟩:=Join.of_disj dj
 obtain ⟨O,l⟩:=Join.of_disj (h1:=I) (h2:=m) (fun b=>by
  cases hb:I b with
  | none=>exact .inl rfl
  | some o =>
   refine .inr ((D.is_none b).2 ⟨?_,?_⟩)
   ·rcases k1.disj b with f | f
    ·rw [hb] at f; cases f
    ·exact f
   ·rcases r.disj b with f | f
    ·rw [lI b o hb] at f; cases f
    ·exact f)
 refine ⟨I,m,O,l,?_,?_⟩
 ·intro b o e
  rcases l.cases e with ⟨e,_⟩|⟨e,_⟩
  ·exact h b o (r.left b o (lI b o e))
  ·rcases D.cases e with ⟨e,_⟩|⟨e,_⟩
   ·exact h b o (r.left b o (G b o e))
   ·exact h b o (r.right b o e)
 ·rw [List.append_assoc]
  exact cD.2 ⟨h1,q,D,p,cD.2 ⟨Z,q2,jq,oi (Ax (hp x)) U,uk E⟩⟩
end
end Go.Pg
namespace Go.Pg
def iV (i j:Nat):Nat:=cond (Nat.blt i j) (j - 1) j
def ph:Nat→List Nat→Bool
 | _,[]=>true
 | n,i::is=>Nat.blt i n&&is.all (fun j=>!Nat.beq i j)&&ph n is
theorem ym:∀ (A:List HP) (i j:Nat),i≠j→lk (rm A i) (iV i j)=lk A j:=by
 intro A
 induction A with
 | nil=>intro i j _; cases i<;>rfl
 | cons p A ih =>
  intro i j a
  cases i with
  | zero =>
   cases j with
   | zero=>exact absurd rfl a
   | succ j=>rfl
  | succ i =>
   cases j with
   | zero =>
    have:iV (i+1) 0=0:=by simp [iV,Nat.blt]
    rw [this]; rfl
   | succ j =>
    have l:iV (i+1) (j+1)=iV i j+1:=by
     have g:Nat.blt (i+1) (j+1)=Nat.blt i j:=by
      cases h:Nat.blt i j with
      | true=>have:=Nat.le_of_ble_eq_true h; exact Nat.ble_eq_true_of_le (by omega)
      | false =>
       cases h2:Nat.blt (i+1) (j+1) with
       | false=>rfl
       | true =>
        have:=Nat.le_of_ble_eq_true h2
        have b:Nat.blt i j=true:=Nat.ble_eq_true_of_le (by omega)
        rw [b] at h; cases h
     unfold iV
     rw [g]
     cases h:Nat.blt i j with
     | true=>have:=Nat.le_of_ble_eq_true h; show j+1 - 1=j - 1+1; omega
     | false=>rfl
    rw [l]
    exact ih i j (fun e=>a (by rw [e]))
theorem sd {I:Hp}:∀ (n:Nat) (is:List Nat) (A:List HP) (h:Hp),is.length≤n→(∀ i∈is,i<A.length)→is.Nodup→eP A I h→∃ B,Hp.le B h∧eP (is.map (lk A)) I B:=by
 intro n
 induction n with
 | zero =>
  intro is A h L _ _ _
  have:is=[]:=List.eq_nil_of_length_eq_zero (by omega)
  subst this
  exact ⟨Hp.none,Hp.none_le _,rfl⟩
 | succ n ih =>
  intro is A h L u F s
  cases is with
  | nil=>exact ⟨Hp.none,Hp.none_le _,rfl⟩
  | cons i is =>
   obtain ⟨h1,h2,j,a,b⟩:=eR i s
   have m:=List.nodup_cons.1 F
   have O:=u i (by simp)
   have M:(rm A i).length+1=A.length:=by
    clear ih L u F m s j a b h1 h2
    induction A generalizing i with
    | nil=>cases O
    | cons p A ihA =>
     cases i with
     | zero=>rfl
     | succ i=>exact congrArg (·+1) (ihA i (by simpa using O))
   have q:∀ x∈is,x≠i:=fun x r e=>m.1 (e▸r)
   obtain ⟨B,l,s'⟩:=ih (is.map (iV i)) (rm A i) h2 (by simp at L ⊢; omega) (by
    intro x r
    obtain ⟨y,G,rfl⟩:=List.mem_map.1 r
    have Y:=u y (by simp [G])
    have U:=q y G
    unfold iV
    cases hb:Nat.blt i y with
    | true=>have:=Nat.le_of_ble_eq_true hb; show y - 1<_; omega
    | false =>
     have:¬ i<y:=fun E=>by
      have D:Nat.blt i y=true:=Nat.ble_eq_true_of_le E
      rw [D] at hb; cases hb
     show y<_
     omega) (by
    unfold List.Nodup
    rw [List.pairwise_map]
    refine List.Pairwise.imp_of_mem (fun {x y} r G hne=>?_) m.2
    have Y:=q x r
    have U:=q y G
    intro e
    unfold iV at e
    cases hb:Nat.blt i x<;>cases hc:Nat.blt i y<;>rw [hb,hc] at e
    ·exact hne e
    ·have:=Nat.le_of_ble_eq_true hc
     have J:¬ i<x:=fun E=>by
      have D:Nat.blt i x=true:=Nat.ble_eq_true_of_le E
      rw [D] at hb; cases hb
     have e:x=y - 1:=e
     omega
    ·have:=Nat.le_of_ble_eq_true hb
     have J:¬ i<y:=fun E=>by
      have D:Nat.blt i y=true:=Nat.ble_eq_true_of_le E
      rw [D] at hc; cases hc
     have e:x - 1=y:=e
     omega
    ·have:=Nat.le_of_ble_eq_true hb
     have:=Nat.le_of_ble_eq_true hc
     have e:x - 1=y - 1:=e
     omega) b
   have Z:(is.map (iV i)).map (lk (rm A i))=is.map (lk A):=by
    rw [List.map_map]
    refine List.map_congr_left fun x r=>?_
    exact ym A i x (fun e=>q x r e.symm)
   rw [Z] at s'
   obtain ⟨g,T⟩:=Join.of_disj (h1:=h1) (h2:=B) (fun b=>by
    rcases j.disj b with f | f
    ·exact .inl f
    ·refine .inr ?_
     cases hq:B b with
     | none=>rfl
     | some o=>rw [l b o hq] at f; cases f)
   refine ⟨g,fun b o e=>?_,h1,B,T,a,s'⟩
   rcases T.cases e with ⟨e,_⟩|⟨e,_⟩
   ·exact j.left b o e
   ·exact j.right b o (l b o e)
theorem qZ:∀ (n:Nat) (is:List Nat),ph n is=true→(∀ i∈is,i<n)∧is.Nodup:=by
 intro n is
 induction is with
 | nil=>intro _; exact ⟨fun _ h=>(by cases h),List.nodup_nil⟩
 | cons i is ih =>
  intro h
  simp only [ph,Bool.and_eq_true,List.all_eq_true,Bool.not_eq_true'] at h
  obtain ⟨⟨h1,h2⟩,b⟩:=h
  obtain ⟨g1,g⟩:=ih b
  refine ⟨fun x a=>?_,List.nodup_cons.2 ⟨fun e=>?_,g⟩⟩
  ·rcases List.mem_cons.1 a with rfl | a
   ·exact Nat.lt_of_lt_of_le (Nat.lt_succ_self _) (Nat.le_of_ble_eq_true h1)
   ·exact g1 x a
  ·have:=h2 i e
   rw [show Nat.beq i i=true from Nat.beq_refl i] at this
   cases this
theorem wz:∀ (n:Nat) (V:List HP),n≤V.length→(tk n V).length=n:=by
 intro n
 induction n with
 | zero=>intro V _; rfl
 | succ n ih =>
  intro V h
  cases V with
  | nil=>simp at h
  | cons p V=>exact congrArg (·+1) (ih V (by simpa using h))
theorem yn:∀ (n:Nat) (V:List HP) (i:Nat),i<n→lk (tk n V) i=lk V i:=by
 intro n
 induction n with
 | zero=>intro V i h; cases h
 | succ n ih =>
  intro V i h
  cases V with
  | nil=>rfl
  | cons p V =>
   cases i with
   | zero=>rfl
   | succ i=>exact ih V i (by omega)
def xY:Nat→List HP→Bool
 | 0,_=>true
 | _+1,[]=>false
 | n+1,_::V=>xY n V
theorem se:∀ (n:Nat) (V:List HP),xY n V=true→n≤V.length:=by
 intro n
 induction n with
 | zero=>intro V _; exact Nat.zero_le _
 | succ n ih =>
  intro V h
  cases V with
  | nil=>cases h
  | cons p V=>exact Nat.succ_le_succ (ih V h)
theorem St.sel {C w:World}{V:List HP}(s:St C w V)(n:Nat)(is:List Nat)(h:ph n is=true)(r:xY n V=true):St C w (is.map (lk V)++dp n V):=by
 obtain ⟨h1,h2⟩:=qZ n is h
 have r:=se n V r
 rw [← mm n V] at s
 obtain ⟨a,I,T,g,j,l,s⟩:=s
 obtain ⟨g1,F,u,U,Y⟩:=cD.1 s
 obtain ⟨q,L,D⟩:=sd is.length is (tk n V) g1 (Nat.le_refl _) (fun i B=>by rw [wz n V r]; exact h1 i B) h2 U
 have O:is.map (lk (tk n V))=is.map (lk V):=List.map_congr_left fun i B=>yn n V i (h1 i B)
 rw [O] at D
 obtain ⟨m,J⟩:=Join.of_disj (h1:=q) (h2:=F) (fun b=>by
  rcases u.disj b with f | f
  ·refine .inl ?_
   cases hq:q b with
   | none=>rfl
   | some o=>rw [L b o hq] at f; cases f
  ·exact .inr f)
 have M:Hp.le m T:=fun b o e=>by
  rcases J.cases e with ⟨e,_⟩|⟨e,_⟩
  ·exact u.left b o (L b o e)
  ·exact u.right b o e
 obtain ⟨G,E⟩:=Join.of_disj (h1:=I) (h2:=m) (fun b=>by
  rcases j.disj b with f | f
  ·exact .inl f
  ·refine .inr ?_
   cases hq:m b with
   | none=>rfl
   | some o=>rw [M b o hq] at f; cases f)
 refine ⟨a,I,m,G,E,fun b o e=>?_,cD.2 ⟨q,F,J,D,Y⟩⟩
 rcases E.cases e with ⟨e,_⟩|⟨e,_⟩
 ·exact l b o (j.left b o e)
 ·exact l b o (j.right b o (M b o e))
section
variable {X:Cx}{V:List HP}{σ:dA}{Q:Exit→dA→World→Prop}{cd:Code}{α:Type}
theorem wA {K:Kind α}{a:Option Addr}{n c:Nat}{xs:List α}(i:Nat)(m:jN (lk V i) K (.slice a n c) xs)(b:a.isNone=true)(h:xs=[]→TC X V σ cd Q):TC X V σ cd Q:=by
 intro w s
 obtain ⟨J,lw,A,r,l,h2,q,e⟩:=s.reads m
 refine h ?_ w s
 cases xs with
 | nil=>rfl
 | cons x xs =>
  obtain ⟨g,o,j,_⟩:=e (by simp)
  injection l with e1 _ _
  rw [e1,j] at b
  cases b
end
end Go.Pg
namespace Go.Pg
theorem SetL.flat {α:Type}{K:Kind α}(S:SpO K)(M:MkO K)(A:M.A){fo:Nat}{v:Value}{f:α→α}(h1:Nat.blt fo K.sz=true)(h2:∀ a x,S.ents a x=[])(b:∀ x,M.ents A (f x)=[])(e:∀ a x,(S.cells a x).set fo v=M.cells A (f x)):SetL K fo v f:=by
 refine ⟨Nat.lt_of_lt_of_le (Nat.lt_succ_self _) (Nat.le_of_ble_eq_true h1),fun I h x cs o=>?_⟩
 obtain ⟨a,rfl,s⟩:=S.sp I h x cs o
 rw [h2] at s
 have s:h=Hp.none:=s
 subst s
 rw [e]
 exact M.put I Hp.none A (f x) (by rw [b]; rfl)
theorem SetL.deep {α:Type}{K:Kind α}(S:SpO K)(M:MkO K)(c:S.A→α→M.A){fo:Nat}{v:Value}{f:α→α}(h1:Nat.blt fo K.sz=true)(h2:∀ a x,S.ents a x=M.ents (c a x) (f x))(b:∀ a x,(S.cells a x).set fo v=M.cells (c a x) (f x)):SetL K fo v f:=by
 refine ⟨Nat.lt_of_lt_of_le (Nat.lt_succ_self _) (Nat.le_of_ble_eq_true h1),fun I h x cs o=>?_⟩
 obtain ⟨a,rfl,s⟩:=S.sp I h x cs o
 rw [b]
 exact M.put I h (c a x) (f x) (by rw [← h2]; exact s)
end Go.Pg
namespace Go.Pg
section
variable {α:Type}
def um (K:Kind α)(e:Nat)(v:Value)(xs:List α)(j:Nat)(cs:List Value):HP where
 p I h:=∃ g c pre i q a fr h1,v=.slice (some ⟨g,pre.length,none⟩) xs.length c∧xs.length≤c∧c≤maxLen∧a.length=(c - xs.length)*K.sz ∧
  (fr=(0,0)∨pre.length+(i++cs++q).length+a.length≤fr.1)∧i.length=j*K.sz∧Join (Hp.one g (.cells (pre++(i++cs++q)++a).toArray e fr)) h1 h ∧
  ∀ m r x' b s,Hp.le I m→Join r h1 s→K.own m r x' b→gG K m s (xs.set j x') (i++b++q)
 mono:=by
  rintro I J h l ⟨g,c,pre,i,q,a,fr,h1,p1,u,G,M,D,E,B,F⟩
  exact ⟨g,c,pre,i,q,a,fr,h1,p1,u,G,M,D,E,B,fun m r x' b s L=>F m r x' b s (Hp.le_trans l L)⟩
theorem St.focus [Inhabited α]{K:Kind α}{C w:World}{V:List HP}{e g o n c:Nat}{xs:List α}(S:SpO K)(s:St C w V)(i:Nat)(j:Int)(hV:lk V i=ow K e (.slice (some ⟨g,o,none⟩) n c) xs)(h0:0≤j)(h1:j<n) :
  ∃ a,St C w (um K e (.slice (some ⟨g,o,none⟩) n c) xs j.toNat (S.cells a (ix xs j))::(S.ents a (ix xs j)++Pg.rm V i)):=by
 obtain ⟨O,I,Y,U,jg,l,D,h2,jS,p,st⟩:=s.mv i
 rw [hV] at p
 have p:oa K e I D (.slice (some ⟨g,o,none⟩) n c) xs:=p
 rcases p with ⟨A,r,rfl,_⟩|⟨F,c',pre,E,b,fr,hb,r,q2,q3,T,q5,jo,ol⟩
 ·injection r with _ r _
  omega
 injection r with e1 e2 e3
 injection e1 with e1
 injection e1 with e1 e4
 subst e1; subst e3; subst e4; subst e2
 obtain ⟨J,c1,M,g1,Z,G,h,L,ox,q⟩:=kC ol (jp h0 h1)
 obtain ⟨a,rfl,u⟩:=S.sp _ _ _ _ ox
 obtain ⟨m,m1,m2⟩:=Join.assoc' L.symm jo
 obtain ⟨k,k1,k2⟩:=Join.assoc m2 jS
 exact ⟨a,O,I,Y,U,jg,l,m,k,k2,⟨g,_,pre,J,M,b,fr,Z,rfl,q2,q3,T,by rw [← G]; exact q5,h,by rw [← G]; exact m1,fun I' h' x' B F l' jj oo=>q I' h' x' B F l' jj oo⟩,cD.2 ⟨g1,h2,k1,u,st⟩⟩
theorem St.unfocus {K:Kind α}{C w:World}{E V:List HP}{e j:Nat}{v:Value}{xs:List α}{cs:List Value}(x':α)(s:St C w (um K e v xs j cs::(E++V)))(f:∀ I h,eP E I h→K.own I h x' cs):St C w (ow K e v (xs.set j x')::V):=by
 obtain ⟨q,I,B,u,Y,l,h1,h2,T,⟨g,c,pre,D,L,a,fr,hb,rfl,Z,M,r,F,q6,jo,b⟩,st⟩:=s
 obtain ⟨i,hV,jE,U,O⟩:=cD.1 st
 obtain ⟨k,k1,k2⟩:=Join.assoc' jE T
 obtain ⟨m,J,G⟩:=Join.assoc jo k1
 refine ⟨q,I,B,u,Y,l,k,hV,k2,.inr ⟨g,c,pre,D++cs++L,a,fr,m,by rw [List.length_set],by rw [List.length_set]; exact Z,M,by rw [List.length_set]; exact r,F,G,b I i x' cs m (Hp.le_refl I) J.symm (f I i U)⟩,O⟩
end
section
variable {X:Cx}{V:List HP}{σ:dA}{Q:Exit→dA→World→Prop}{ops:Array Oper}{rest:List Oper}{cd:Code}
variable {d:Option Nat}{ty:TypeId}{pos:String}{af:Array Edge}{gd:Option (Nat×Bool)}{α:Type}
theorem m7 [Inhabited α]{K:Kind α}{e g o n c:Nat}{xs:List α}(S:SpO K)(i:Nat)(j:Int)(l:lk V i=ow K e (.slice (some ⟨g,o,none⟩) n c) xs)(b:0≤j)(h1:j<n)
  (h:∀ a,TL X ops (um K e (.slice (some ⟨g,o,none⟩) n c) xs j.toNat (S.cells a (ix xs j))::(S.ents a (ix xs j)++Pg.rm V i)) σ rest Q):TL X ops V σ rest Q:=by
 intro w s
 obtain ⟨a,s'⟩:=s.focus S i j l b h1
 exact h a w s'
theorem sf {K:Kind α}{C w:World}{e g o n c j:Nat}{xs:List α}{cs:List Value}(s:St C w V)(i:Nat)(D:lk V i=um K e (.slice (some ⟨g,o,none⟩) n c) xs j cs):∀ k u,cs[k]?=some u→w.cell? ⟨g,o+j*K.sz+k,none⟩=some u:=by
 obtain ⟨I,J,p,lI,q,_⟩:=s.look i
 rw [D] at p
 obtain ⟨Y,F,pre,h,l,a,fr,T,B,U,O,G,L,M,E,_⟩:=p
 injection B with e1 e2 e3
 injection e1 with e1
 injection e1 with e1 e4
 subst e1; subst e4
 have b:w.heap[g]?=some (.cells (pre++(h++cs++l)++a).toArray e fr):=q g _ (E.left g _ (by simp [Hp.one]))
 intro k u m
 have r:=(List.getElem?_eq_some_iff.1 m).1
 have:w.cell? ⟨g,pre.length+j*K.sz+k,none⟩=(pre++(h++cs++l)++a)[pre.length+j*K.sz+k]?:=by simp [World.cell?,b]
 rw [this,List.append_assoc,List.getElem?_append_right (by omega),show pre.length+j*K.sz+k - pre.length=j*K.sz+k by omega,List.append_assoc,List.append_assoc,List.getElem?_append_right (by omega),show j*K.sz+k - h.length=k by omega,List.getElem?_append_left r]
 exact m
theorem nx {K:Kind α}{T:TypeId}{x:Operand}{e g o n c fo j:Nat}{xs:List α}{v:Value}{cs:List Value}(i:Nat)(a:eX X.P T=some false)(l:lk V i=um K e (.slice (some ⟨g,o,none⟩) n c) xs j cs)(h:ev σ x=.pointer (some ⟨g,o+j*K.sz+fo,none⟩))(b:qW cs fo=some v):VO X V σ ⟨d,.load T x,ty,pos,af,gd⟩ v:=by
 intro w s
 have:=sf s i l fo v (by rw [← ko]; exact b)
 simp only [execOp,Instr.loadAt,h,Instr.sureAddr,Sem.run_bind,Sem.run_pure,Result.andThen_ok,eL a this]
end
end Go.Pg
namespace Go.Pg
def pf (φ:Prop):HP:=⟨fun _ h=>h=Hp.none∧φ,fun _ e=>e⟩
section
variable {C w:World}{V:List HP}
end
section
variable {X:Cx}{V:List HP}{σ:dA}{Q:Exit→dA→World→Prop}{ops:Array Oper}{rest:List Oper}{o:Oper}{cd:Code}{ex:Exit}
variable {d:Option Nat}{ty:TypeId}{pos:String}{af:Array Edge}{gd:Option (Nat×Bool)}
variable {α:Type}
end
end Go.Pg
