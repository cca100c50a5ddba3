import Derived.Test.YtmpnollfdpdipaaGreatDoorPg1
import Derived.Deep.Quiet
import Derived.KernelRfl
import Derived.OrdersHeld
set_option linter.unusedVariables false
set_option linter.unusedSimpArgs false
namespace Go.Pg
def tk:Nat→List HP→List HP
 | 0,_=>[]
 | _,[]=>[]
 | k+1,q::V=>q::tk k V
def dp:Nat→List HP→List HP
 | 0,V=>V
 | _,[]=>[]
 | k+1,_::V=>dp k V
theorem iZ (k:Nat)(V:List HP):tk k V++dp k V=V:=by
 induction k generalizing V with
 | zero=>rfl
 | succ k ih =>
  cases V with
  | nil=>rfl
  | cons q V=>simp [tk,dp,ih]
section
variable {X:Cx}{V:List HP}{σ:bL}{Q:Exit→bL→World→Prop}{ops:Array Oper}{rest:List Oper}
variable {d:Option Nat}{ty:TypeId}{pos:String}{af:Array Edge}{gd:Option (Nat×Bool)}
variable {α β:Type}
theorem fp {K:Kind α}{t e:TypeId}{x y:Operand}{s u:Value}{xs ys:List α}{z:α}{q:HP}{g:Nat}(N:Nat)(U:fy X.n d=true)(hw:cE ops σ ⟨d,.call ⟨.builtin .append,#[x,y],#[t,t]⟩,ty,pos,af,gd⟩=true)
  (ht:iP X.P t=some e) (Z:fI X.P e=some K.sz) (T:eQ X.P e=some g) (hz:k8 X.P K e z) (r:Nat.blt 0 K.sz=true) (E:Nat.ble (N*g) 140737488355328=true) (i:Nat.ble N 140737488355328=true) (m:Nat.blt 0 g=true)
  (hx:ev σ x=s) (hy:ev σ y=u) (D:ua q K u ys) (J:xs.length+ys.length≤N)
  (h:∀ a c,TL X ops (ow K e (.slice a (xs++ys).length c) (xs++ys)::V) (dS σ d (.slice a (xs++ys).length c)) rest Q) :
  TL X ops (ow K e s xs::q::V) σ (⟨d,.call ⟨.builtin .append,#[x,y],#[t,t]⟩,ty,pos,af,gd⟩::rest) Q:=by
 intro w st
 have E:=Nat.le_of_ble_eq_true E
 have i:=Nat.le_of_ble_eq_true i
 have r:0<K.sz:=Nat.le_of_ble_eq_true r
 have m:0<g:=Nat.le_of_ble_eq_true m
 have F:(xs.length+ys.length)*g≤140737488355328:=Nat.le_trans (Nat.mul_le_mul_right _ J) E
 obtain ⟨⟨a,c⟩,B,Y,s'⟩:=St.act st.sep 0 (q:=fun p:Option Addr×Nat=>ow K e (.slice p.1 (xs++ys).length p.2) (xs++ys))
  (Ψ:=fun p B=>(Builtin.append_ #[t,t] ty #[s,u]).run X.P w=.ok (.slice p.1 (xs++ys).length p.2) B) (by
   rintro I hh ⟨h1,h2,j,p1,p2⟩ lI lh M
   obtain ⟨a,c,B,O,r1,r2,r3,r4,r5,r6⟩:=o9 (ty:=ty) ht Z T hz r j p1 p2 D lI lh M F (Nat.le_trans J i) m
   exact ⟨⟨a,c⟩,B,O,r1,r2 _,r3,r4,r5,r6⟩)
 refine dA U hw ?_
 have G:(execOp (ev σ) ⟨d,.call ⟨.builtin .append,#[x,y],#[t,t]⟩,ty,pos,af,gd⟩).run X.P w=.ok (.value (.slice a (xs++ys).length c)) B:=by
  simp [execOp,resolve,invoke,builtin,hx,hy,Y]
 rw [G]
 exact h a c B s'
theorem mL {size:Nat}:∀ (vs:List Value) (k:Nat) (a:Array Value),(∀ v∈vs,v.cells.size=size)→(k+vs.length)*size≤a.size →
  ∃ r,Instr.fill (fun i=>some (i*size,size)) a ((List.range' k vs.length).zip vs)=some r∧r.toList=a.toList.take (k*size)++(vs.map (·.cells.toList)).flatten++a.toList.drop ((k+vs.length)*size):=by
 intro vs
 induction vs with
 | nil=>intro k a _ _; exact ⟨a,by simp [Instr.fill],by simp⟩
 | cons v vs ih =>
  intro k a D F
  have h1:=D v (by simp)
  have m:(k+1+vs.length)*size≤a.size:=by simpa [Nat.add_assoc,Nat.add_comm 1] using F
  have M:k*size+size≤a.size:=by
   have:(k+1)*size≤(k+1+vs.length)*size:=Nat.mul_le_mul_right _ (by omega)
   rw [Nat.succ_mul] at this
   omega
  have h:∀ (l:List Value) (j:Nat) (cs:Array Value),k*size+j+l.length≤cs.size →
    ((l.zipIdx j).foldl (fun cs (c,j)=>cs.setIfInBounds (k*size+j) c) cs).toList=cs.toList.take (k*size+j)++l++cs.toList.drop (k*size+j+l.length):=by
   intro l
   induction l with
   | nil=>intro j cs _; simp
   | cons u l ihl =>
    intro j cs q
    simp only [List.zipIdx_cons,List.foldl_cons]
    rw [ihl (j+1) _ (by simp at *; omega)]
    simp only [List.length_cons] at q
    rw [Array.toList_setIfInBounds,show k*size+(j+1)=(k*size+j)+1 by omega,List.take_succ_eq_append_getElem (by simp; omega),List.take_set_of_le (Nat.le_refl _),List.drop_set_of_lt (by omega)]
    simp [Nat.add_assoc,Nat.add_comm,Nat.add_left_comm]
  have B:((v.cells.toList.zipIdx 0).foldl (fun cs (c,j)=>cs.setIfInBounds (k*size+j) c) a).size=a.size:=by
   generalize v.cells.toList.zipIdx 0=l
   clear h1 ih F m M h D
   induction l generalizing a with
   | nil=>rfl
   | cons u l ihl=>simp only [List.foldl_cons]; rw [ihl]; simp
  obtain ⟨r,O,e⟩:=ih (k+1) ((v.cells.toList.zipIdx 0).foldl (fun cs (c,j)=>cs.setIfInBounds (k*size+j) c) a) (fun u T=>D u (by simp [T])) (by rw [B]; exact m)
  refine ⟨r,?_,?_⟩
  ·simp only [List.length_cons,List.range'_succ,List.zip_cons_cons,Instr.fill]
   have J:¬ (v.cells.size≠size∨k*size+v.cells.size>a.size):=by rw [h1]; omega
   rw [if_neg (by simpa using J)]
   have U:v.cells.zipIdx.foldl (fun cs (c,j)=>cs.setIfInBounds (k*size+j) c) a=(v.cells.toList.zipIdx 0).foldl (fun cs (c,j)=>cs.setIfInBounds (k*size+j) c) a:=by
    rw [← Array.foldl_toList]
    congr 1
    simp
   rw [U]
   exact O
  ·rw [e,h v.cells.toList 0 a (by simp [h1]; omega)]
   have E:(k+1)*size=k*size+v.cells.toList.length:=by rw [Nat.succ_mul]; simp [h1]
   have G:(k+1+vs.length)*size=k*size+v.cells.toList.length+vs.length*size:=by rw [Nat.add_mul,E]
   have I:(k+(vs.length+1))*size=(k+1+vs.length)*size:=by congr 1; omega
   have g:(a.toList.take (k*size)).length=k*size:=by simp; omega
   simp only [List.length_cons,Nat.add_zero,List.map_cons,List.flatten_cons]
   rw [I,G,E]
   rw [List.take_append_of_le_length (by simp [g]),List.take_of_length_le (by simp [g])]
   rw [List.drop_append,List.drop_of_length_le (by simp [g]),List.nil_append,List.drop_drop]
   simp only [List.append_assoc,List.length_append,g]
   congr 4
   omega
theorem mM {K:Kind α}{t e:TypeId}{m:Nat}{parts:Array (Nat×Operand)}{xs:List α}{vs:List Value}{z:List Value}(k:Nat)(hd:fy X.n d=true)(hw:cE ops σ ⟨d,.buildSlice t m parts,ty,pos,af,gd⟩=true)
  (ht:iP X.P t=some e) (hs:fI X.P e=some K.sz) (hz:iX X.P e=some z) (a2:z.length=K.sz) (U:Nat.blt 0 K.sz=true) (hp:parts.toList.map (fun p=>(p.1,ev σ p.2))=(List.range' 0 m).zip vs) (T:vs.length=m) (hv:vs.all (fun v=>Nat.beq v.cells.size K.sz)=true) (F:Nat.ble (m*K.sz) 16777216=true)
  (hx:∀ I h,cU (tk k V) I h→dX K I h xs (vs.map (·.cells.toList)).flatten) (B:xs.length=m)
  (h:∀ g c,TL X ops (ow K e (.slice (some ⟨g,0,none⟩) xs.length c) xs::dp k V) (dS σ d (.slice (some ⟨g,0,none⟩) xs.length c)) rest Q):TL X ops V σ (⟨d,.buildSlice t m parts,ty,pos,af,gd⟩::rest) Q:=by
 intro w s
 refine dA hd hw ?_
 have hu:=fP ht
 have Y:∀ v∈vs,v.cells.size=K.sz:=fun v Z=>Nat.eq_of_beq_eq_true (List.all_eq_true.1 hv v Z)
 have F:=Nat.le_of_ble_eq_true F
 obtain ⟨zv,a0,a1⟩:=gF (P:=X.P) (w:=w) hz
 have a3:zv.cells.size=K.sz:=by rw [a1]; simpa using a2
 obtain ⟨r,J,e'⟩:=mL (size:=K.sz) vs 0 ((Array.range (m*K.sz)).map ((if m*K.sz=0 then #[] else zv.cells)[· % (if m*K.sz=0 then #[] else zv.cells).size]!)) Y (by simp [T])
 have er:r=((vs.map (·.cells.toList)).flatten).toArray:=by
  apply Array.ext'
  rw [e',T]
  simp
 have M:(execOp (ev σ) ⟨d,.buildSlice t m parts,ty,pos,af,gd⟩).run X.P w=.ok (.value (.slice (some ⟨w.heap.size,0,none⟩) m m)) (w.alloc (.cells ((vs.map (·.cells.toList)).flatten).toArray e)):=by
  have G:(parts.map fun (i,x)=>(i,ev σ x)).toList=(List.range' 0 m).zip vs:=by
   rw [← hp]; simp
  rw [T] at J
  simp only [execOp,Instr.buildSlice,Sem.run_bind,run_underlying hu,Result.andThen_ok,cJ hs]
  rw [if_neg (by omega)]
  by_cases h0:m*K.sz=0
  ·rw [if_pos h0] at J ⊢
   simp only [Sem.run_bind,Sem.run_pure,Result.andThen_ok,G,J,er]
   simp [newRow,Sem.run_bind]
  ·rw [if_neg h0] at J ⊢
   simp only [Sem.run_bind,Sem.run_pure,Result.andThen_ok,a0,G,J,er]
   simp [newRow,Sem.run_bind]
 rw [M]
 have h':=h w.heap.size m
 rw [B] at h'
 refine h' _ ?_
 rw [← iZ k V] at s
 obtain ⟨sm,I,hh,g,j,l,st⟩:=s
 obtain ⟨h1,h2,D,sa,sb⟩:=bG.1 st
 have lh:Le h1 w:=l.mono (Hp.le_trans D.left j.right)
 have q:∀ b o,g b=some o→b≠w.heap.size:=fun b o e=>by
  have:=l.lt (b:=b) (by rw [e]; exact fun h=>by cases h)
  omega
 obtain ⟨E,O⟩:=Join.of_disj (h1:=Hp.one w.heap.size (.cells ((vs.map (·.cells.toList)).flatten).toArray e (0,0))) (h2:=h1) (fun b=>by
  by_cases hb:b=w.heap.size
  ·refine .inr ?_
   cases hq:h1 b with
   | none=>rfl
   | some o=>exact absurd hb (q b o (j.right b o (D.left b o hq)))
  ·exact .inl (by simp [Hp.one,hb]))
 obtain ⟨k1,jk⟩:=Join.of_disj (h1:=E) (h2:=h2) (fun b=>by
  by_cases hb:b=w.heap.size
  ·refine .inr ?_
   cases hq:h2 b with
   | none=>rfl
   | some o=>exact absurd hb (q b o (j.right b o (D.right b o hq)))
  ·rcases D.disj b with f | f
   ·exact .inl ((O.is_none b).2 ⟨by simp [Hp.one,hb],f⟩)
   ·exact .inr f)
 obtain ⟨g',jg⟩:=Join.of_disj (h1:=I) (h2:=k1) (fun b=>by
  by_cases hb:b=w.heap.size
  ·refine .inl ?_
   cases hq:I b with
   | none=>rfl
   | some o=>exact absurd hb (q b o (j.left b o hq))
  ·rcases j.disj b with f | f
   ·exact .inl f
   ·have:=(D.is_none b).1 f
    exact .inr ((jk.is_none b).2 ⟨(O.is_none b).2 ⟨by simp [Hp.one,hb],this.1⟩,this.2⟩))
 have u:∀ b o,g b=some o→(w.alloc (.cells ((vs.map (·.cells.toList)).flatten).toArray e)).heap[b]?=some o:=fun b o e=>l.alloc _ b o e
 refine ⟨sm.alloc _,I,k1,g',jg,?_,E,h2,jk,?_,sb⟩
 ·intro b o a
  rcases jg.cases a with ⟨a,_⟩|⟨a,_⟩
  ·exact u b o (j.left b o a)
  ·rcases jk.cases a with ⟨a,_⟩|⟨a,_⟩
   ·rcases O.cases a with ⟨a,_⟩|⟨a,_⟩
    ·exact Le.one_new (w:=w) (by show (w.heap.push _)[w.heap.size]?=_; simp) b o a
    ·exact u b o (j.right b o (D.left b o a))
   ·exact u b o (j.right b o (D.right b o a))
 ·refine .inr ⟨w.heap.size,m,[],(vs.map (·.cells.toList)).flatten,[],(0,0),h1,by simp [B],by omega,?_,by simp [B],.inl rfl,by simpa using O,hx I h1 sa⟩
  have:m*1≤m*K.sz:=Nat.mul_le_mul_left _ (Nat.le_of_ble_eq_true U)
  simp only [maxLen]
  omega
theorem bV {K:Kind α}{t e:TypeId}{m:Nat}{parts:Array (Nat×Operand)}{xs:List α}{vs:List Value}{z:List Value}(k:Nat)(u:fy X.n d=true)(hw:cE ops σ ⟨d,.buildSlice t m parts,ty,pos,af,gd⟩=true)
  (F:iP X.P t=some e) (E:fI X.P e=some K.sz) (M:iX X.P e=some z) (r:z.length=K.sz) (j:Nat.blt 0 K.sz=true) (D:parts.toList.map (fun p=>(p.1,ev σ p.2))=(List.range' 0 m).zip vs) (B:vs.length=m) (G:vs.all (fun v=>Nat.beq v.cells.size K.sz)=true) (i:Nat.ble (m*K.sz) 16777216=true)
  (J:∀ I h,cU (tk k V) I h→dX K I h xs (vs.map (·.cells.toList)).flatten) (q:xs.length=m)
  (h:∀ a c,TL X ops (ow K e (.slice a xs.length c) xs::dp k V) (dS σ d (.slice a xs.length c)) rest Q):TL X ops V σ (⟨d,.buildSlice t m parts,ty,pos,af,gd⟩::rest) Q :=
 mM k u hw F E M r j D B G i J q (fun g c=>h (some ⟨g,0,none⟩) c)
end
end Go.Pg
namespace Go.Pg
section
variable {X:Cx}{V:List HP}{σ:bL}{Q:Exit→bL→World→Prop}{ops:Array Oper}{rest:List Oper}
variable {d:Option Nat}{ty:TypeId}{pos:String}{af:Array Edge}{gd:Option (Nat×Bool)}
variable {α β:Type}
def hJ (σ:bL)(o:Option Operand)(a l:Int):Prop:=match o with
 | some x=>ev σ x=.int .i64 l
 | none=>l=a
theorem ir {P:Program}{w:World}{l:Int}{y:Nat}{a:BoundsCode}(e:0≤l)(h1:l≤y):(Instr.sliceBound (.int .i64 l) y a).run P w=.ok l.toNat w:=by
 simp [Instr.sliceBound,asIntOf,e,h1]
theorem hK {P:Program}{w:World}{is:Bool}{n c:Nat}{lo j:Option Operand}{l h:Int}(a:hJ σ lo 0 l)(g:hJ σ j n h)(u:0≤l)(h1:l≤h)(h2:h≤n)(B:n≤c) :
  (Instr.sliceBounds is n c (lo.map (ev σ)) (j.map (ev σ)) none).run P w=.ok (l.toNat,h.toNat,c) w:=by
 have r:∀ y:Nat,l≤y→(Instr.sliceBound (.int .i64 l) y .sliceB).run P w=.ok l.toNat w:=fun y i=>ir u i
 cases j with
 | none =>
  have:h=n:=g
  subst this
  cases lo with
  | none =>
   have:l=0:=a
   subst this
   simp [Instr.sliceBounds]
  | some x =>
   have m:ev σ x=.int .i64 l:=a
   simp [Instr.sliceBounds,m,r n h1]
 | some y =>
  have i:ev σ y=.int .i64 h:=g
  have q:∀ e,(Instr.sliceBound (.int .i64 h) c e).run P w=.ok h.toNat w:=fun e=>ir (by omega) (by omega)
  cases lo with
  | none =>
   have:l=0:=a
   subst this
   simp [Instr.sliceBounds,i,q]
  | some x =>
   have m:ev σ x=.int .i64 l:=a
   simp [Instr.sliceBounds,m,i,q,r h.toNat (by omega)]
theorem ka (s:aD):(⟨s.toArray⟩:ByteArray).size=s.length:=by show s.toArray.size=_; simp
def mN (a:Option Addr)(c l sz:Nat):Option Addr:=if c=l then a else a.map (·.add (l*sz))
theorem ma {P:Program}{w:World}{t e:TypeId}{x:Operand}{a:Option Addr}{n c sz:Nat}{lo j:Option Operand}{l h:Int}(B:iP P t=some e)(u:fI P e=some sz)(E:ev σ x=.slice a n c)
  (i:hJ σ lo 0 l) (g:hJ σ j n h) (m:0≤l) (h1:l≤h) (h2:h≤n) (r:n≤c) :
  (execOp (ev σ) ⟨d,.slice t x lo j none,ty,pos,af,gd⟩).run P w=.ok (.value (.slice (mN a c l.toNat sz) (h.toNat - l.toNat) (c - l.toNat))) w:=by
 have D:=fP B
 have q:=hK (P:=P) (w:=w) (is:=true) i g m h1 h2 r
 simp only [execOp,Instr.sliceAt,E,Sem.run_bind,run_underlying D,Result.andThen_ok,Instr.slice,Option.map_none,q,cJ u,Sem.run_pure,mN]
theorem lm {xs:List α}{l h:Int}(a:0≤l)(h1:l≤h)(h2:h≤xs.length):(sub xs l h).length=h.toNat - l.toNat:=by
 simp [sub]; omega
theorem oa {xs:List α}{l h:Int}(e:0≤l)(h1:l≤h)(h2:h≤xs.length){j:Nat}{x:α}(a:(sub xs l h)[j]?=some x):xs[l.toNat+j]?=some x:=by
 simp only [sub,List.getElem?_drop,List.getElem?_take] at a
 split at a
 ·exact a
 ·cases a
theorem oc {K:Kind α}{I:Hp}{a:Option Addr}{n c:Nat}{xs:List α}{l h:Int}(r:m8 K I (.slice a n c) xs)(B:0≤l)(h1:l≤h)(h2:h≤n):m8 K I (.slice (mN a c l.toNat K.sz) (h.toNat - l.toNat) (c - l.toNat)) (sub xs l h):=by
 obtain ⟨A,M,G,T,O,D⟩:=r
 injection G with e1 e2 e3
 subst e1; subst e3; subst e2
 have m:=lm B h1 h2
 refine ⟨_,_,by rw [m],by rw [m]; omega,by rw [m]; omega,fun E=>?_⟩
 rw [m] at E
 obtain ⟨g,o,rfl,e⟩:=D (by omega)
 refine ⟨g,o+l.toNat*K.sz,?_,fun j x J=>?_⟩
 ·unfold mN
  rw [if_neg (by omega)]
  simp [dZ]
 ·obtain ⟨cs,p,q⟩:=e _ x (oa B h1 h2 J)
  refine ⟨cs,p,fun i u F=>?_⟩
  have:=q i u F
  rw [Nat.add_mul] at this
  rw [show o+l.toNat*K.sz+j*K.sz+i=o+(l.toNat*K.sz+j*K.sz)+i by omega]
  exact this
theorem kb {K:Kind α}{t e:TypeId}{x:Operand}{a:Option Addr}{n c:Nat}{lo D:Option Operand}{xs:List α}(l h:Int)(i:Nat)(O:fy X.n d=true)(hw:cE ops σ ⟨d,.slice t x lo D none,ty,pos,af,gd⟩=true)
  (U:iP X.P t=some e) (T:fI X.P e=some K.sz) (M:lk V i=bF K (.slice a n c) xs) (Y:ev σ x=.slice a n c) (E:hJ σ lo 0 l) (B:hJ σ D n h) (q:0≤l) (h1:l≤h) (h2:h≤n)
  (k:∀ J m,TL X ops (bF K (.slice J (sub xs l h).length m) (sub xs l h)::V) (dS σ d (.slice J (sub xs l h).length m)) rest Q):TL X ops V σ (⟨d,.slice t x lo D none,ty,pos,af,gd⟩::rest) Q:=by
 rintro w ⟨Z,I,u,g,j,lw,s⟩
 obtain ⟨g1,g2,j',p,s'⟩:=dE i s
 rw [M] at p
 have hn:n=xs.length:=by obtain ⟨_,A,m,G,_⟩:=p; injection G
 have F:n≤c:=by
  obtain ⟨_,A,m,G,hq,_⟩:=p
  injection G with _ _ e3
  omega
 refine dA O hw ?_
 rw [ma U T Y E B q h1 h2 F]
 have r:=oc p.2 q h1 h2
 have:=k (mN a c l.toNat K.sz) (c - l.toNat)
 rw [lm q h1 (by omega)] at this
 exact this w ⟨Z,I,u,g,j,lw,Hp.none,u,Join.none u,⟨rfl,r⟩,s⟩
theorem bM {t:TypeId}{x:Operand}{s:aD}(a:X.P.underlying t=some .string)
  (e:ev σ x=aA s):VO X V σ ⟨d,.call ⟨.builtin .len,#[x],#[t]⟩,ty,pos,af,gd⟩ (.int .i64 s.length):=by
 intro w _
 simp [execOp,resolve,invoke,builtin,e,aA,Builtin.len_,run_underlying a,goInt,ka]
theorem bA {t:TypeId}{x y:Operand}{s:aD}{k:IntKind}{j:Int}(h:X.P.underlying t=some .string)
  (i:ev σ x=aA s) (m:ev σ y=.int k j) (e:0≤j) (h1:j<s.length):VO X V σ ⟨d,.index t x y,ty,pos,af,gd⟩ (.int .u8 (bt s j)):=by
 intro w _
 have a:j.toNat<s.length:=by omega
 have g:(⟨s.toArray⟩:ByteArray)[j.toNat]?=some (ix s j):=by
  rw [ByteArray.getElem?_lt' _ _ (by rw [ka]; exact a)]
  congr 1
  show s.toArray[j.toNat]=_
  simp [ix,List.getD_eq_getElem?_getD,a]
 simp [execOp,i,m,aA,Instr.index,asIntOf,run_underlying h,e,g,bt]
theorem eB {t:TypeId}{x:Operand}{s:aD}{lo i:Option Operand}(l h:Int)
  (q:X.P.underlying t=some .string) (r:ev σ x=aA s) (e:hJ σ lo 0 l) (a:hJ σ i s.length h) (j:0≤l) (h1:l≤h) (h2:h≤s.length):VO X V σ ⟨d,.slice t x lo i none,ty,pos,af,gd⟩ (aA (sub s l h)):=by
 intro w _
 have m:=hK (P:=X.P) (w:=w) (is:=false) (n:=s.length) (c:=s.length) e a j h1 h2 (Nat.le_refl _)
 have g:=ka s
 simp only [execOp,Instr.sliceAt,r,Sem.run_bind,run_underlying q,Result.andThen_ok,Instr.slice,Option.map_none,aA,g,m,Sem.run_pure,Option.isSome_none,Bool.false_eq_true,if_false]
 rw [ByteArray.extract_mk]
 congr 3
 simp [sub,List.drop_take]
theorem mO {t:TypeId}{x y:Operand}{i:TypeId}{s u:aD}
  (e:ev σ x=aA s) (g:ev σ y=aA u) (a:s.length+u.length≤9223372036854775807):VO X V σ ⟨d,.binOp .add t x y i,ty,pos,af,gd⟩ (aA (s++u)):=by
 intro w _
 have h:=run_string_add_sum (P:=X.P) (w:=w) (⟨s.toArray⟩:ByteArray) ⟨u.toArray⟩ (by rw [ka,ka]; exact a)
 simp only [execOp,e,g,aA,eqGuard_add,binOp_string_add,Sem.run_bind,Sem.run_pure,Result.andThen_ok,h]
 rw [ByteArray.mk_append_mk]
def sg:BinOp→aD→aD→Option Bool
 | .eql,a,b=>some (a==b)
 | .neq,a,b=>some (!(a==b))
 | .lss,a,b=>some (Op.bytesLess a b)
 | .leq,a,b=>some (Op.bytesLess a b||a==b)
 | .gtr,a,b=>some (!(Op.bytesLess a b||a==b))
 | .geq,a,b=>some (!Op.bytesLess a b)
 | _,_,_=>none
theorem kI {op:BinOp}{t:TypeId}{x y:Operand}{h:TypeId}{s u:aD}{b:Bool}
  (e:ev σ x=aA s) (g:ev σ y=aA u) (a:sg op s u=some b):VO X V σ ⟨d,.binOp op t x y h,ty,pos,af,gd⟩ (.bool b):=by
 intro w _
 cases op<;>simp only [sg,reduceCtorEq,Option.some.injEq] at a<;>subst a <;>
  simp [execOp,e,g,aA,eqGuard_at_string,binOp,Op.stringOp]
theorem qe {s' t:TypeId}{x:Operand}{k a:IntKind}{n:Int}{ds:TypeDesc}(h1:X.P.underlying s'=some ds)(h2:X.P.underlying t=some (.int a))
  (e:ev σ x=.int k n):VO X V σ ⟨d,.convert s' t x,ty,pos,af,gd⟩ (.int a (a.wrap n)):=by
 intro w _
 simp [execOp,e,convert,run_underlying h1,run_underlying h2,Conv.intToInt]
theorem ln {t i:TypeId}{x y:Operand}{k:IntKind}{a b:Int}(g:ev σ x=.int k a)(h:ev σ y=.int k b)(e:b≠0):VO X V σ ⟨d,.binOp .quo t x y i,ty,pos,af,gd⟩ (.int k (k.wrap (a.tdiv b))):=by
 intro w _
 simp [execOp,g,h,eqGuard_at_int,binOp,Op.intDiv,e]
theorem pz {t i:TypeId}{x y:Operand}{k:IntKind}{a b:Int}(g:ev σ x=.int k a)(h:ev σ y=.int k b)(e:b≠0):VO X V σ ⟨d,.binOp .rem t x y i,ty,pos,af,gd⟩ (.int k (a.tmod b)):=by
 intro w _
 simp [execOp,g,h,eqGuard_at_int,binOp,Op.intDiv,e]
theorem sh {x y:Operand}{ts:Array TypeId}{k h:IntKind}{a b:Int}(e:ev σ x=.int k a)(g:ev σ y=.int h b):VO X V σ ⟨d,.call ⟨.builtin .max,#[x,y],ts⟩,ty,pos,af,gd⟩ (.int k (if b>a then b else a)):=by
 intro w _
 simp [execOp,resolve,invoke,builtin,e,g,run_max_int2]
theorem pA {x y:Operand}{ts:Array TypeId}{k h:IntKind}{a b:Int}(e:ev σ x=.int k a)(g:ev σ y=.int h b):VO X V σ ⟨d,.call ⟨.builtin .min,#[x,y],ts⟩,ty,pos,af,gd⟩ (.int k (if b<a then b else a)):=by
 intro w _
 simp [execOp,resolve,invoke,builtin,e,g,run_min_int2]
theorem mP {t i:TypeId}{x y:Operand}{a b:Bool}(e:X.P.underlying t=some .bool)(g:ev σ x=.bool a)(h:ev σ y=.bool b):VO X V σ ⟨d,.binOp .neq t x y i,ty,pos,af,gd⟩ (.bool (!(a==b))):=by
 intro w _
 simp [execOp,g,h,eqGuard_at_bool,run_neq_bool (P:=X.P) w t a b e]
end
end Go.Pg
namespace Go.Pg
def FnOk {A:Type}(P:Program)(f:FuncId)(args:List Value)(g:List HP)(a:A→Value×List HP):Prop :=
 ∀ C w V,St C w (g++V)→Calls P f args.toArray w (fun e h=>∃ x,e=.returned (a x).1∧St C h ((a x).2++V))
def aO (P:Program)(f:FuncId):Bool:=match P.funcs[f]? with
 | some fn=>!(fn.name == "runtime.NumGoroutine")&&fn.body.isSome
 | none=>false
theorem fR {P:Program}{f:FuncId}{w:World}{args:Array Value}(h:aO P f=true):(callFunc f args).run P w=.ok (.enter f args) w:=by
 unfold aO at h
 cases hf:P.funcs[f]? with
 | none=>rw [hf] at h; cases h
 | some fn =>
  rw [hf] at h
  simp only [Bool.and_eq_true,Bool.not_eq_true'] at h
  cases hb:fn.body with
  | none=>rw [hb] at h; cases h.2
  | some c =>
   have h1:=h.1
   simp at h1
   simp [callFunc,hf,h1,hb]
section
variable {X:Cx}{V:List HP}{σ:bL}{Q:Exit→bL→World→Prop}{ops:Array Oper}{rest:List Oper}{o:Oper}
variable {d:Option Nat}{ty:TypeId}{pos:String}{af:Array Edge}{gd:Option (Nat×Bool)}
variable {α β:Type}
theorem jf (xs:Array Operand)(f:Operand→Value){as:List Value}(h:xs.toList.map f=as):xs.map f=as.toArray:=by
 apply Array.ext'
 simpa using h
theorem qf {A:Type}{f:FuncId}{xs:Array Operand}{g:Array TypeId}{as:List Value}{h V':List HP}{a:A→Value×List HP}(q:fy X.n d=true)(hw:cE ops σ ⟨d,.call ⟨.value (.func f),xs,g⟩,ty,pos,af,gd⟩=true)
  (r:aO X.P f=true) (j:xs.toList.map (ev σ)=as) (m:FnOk X.P f as h a) (i:V=h++V') (k:∀ x,TL X ops ((a x).2++V') (dS σ d (a x).1) rest Q):TL X ops V σ (⟨d,.call ⟨.value (.func f),xs,g⟩,ty,pos,af,gd⟩::rest) Q:=by
 intro w s
 refine dA q hw ?_
 have u:(execOp (ev σ) ⟨d,.call ⟨.value (.func f),xs,g⟩,ty,pos,af,gd⟩).run X.P w=.ok (.enter f as.toArray) w:=by
  show (callFunc f (#[]++xs.map (ev σ)++#[])).run X.P w=_
  rw [jf xs _ j,fR r]
  simp
 rw [u]
 subst i
 refine Calls.mono' (m X.C w V' s) ?_
 rintro e B ⟨x,rfl,s'⟩
 exact k x B s'
theorem od {A:Type}{f:FuncId}{i:Operand}{fs cs:List Value}{xs:Array Operand}{g:Array TypeId}{as:List Value}{h V':List HP}{a:A→Value×List HP}(r:fy X.n d=true)(hw:cE ops σ ⟨d,.call ⟨.value i,xs,g⟩,ty,pos,af,gd⟩=true)
  (u:aO X.P f=true) (D:ev σ i=.func (.func f) fs.toArray cs.toArray) (m:fs++xs.toList.map (ev σ)++cs=as) (q:FnOk X.P f as h a) (j:V=h++V') (k:∀ x,TL X ops ((a x).2++V') (dS σ d (a x).1) rest Q):TL X ops V σ (⟨d,.call ⟨.value i,xs,g⟩,ty,pos,af,gd⟩::rest) Q:=by
 intro w s
 refine dA r hw ?_
 have B:(execOp (ev σ) ⟨d,.call ⟨.value i,xs,g⟩,ty,pos,af,gd⟩).run X.P w=.ok (.enter f as.toArray) w:=by
  have:(callFunc f (fs.toArray++xs.map (ev σ)++cs.toArray)).run X.P w=.ok (.enter f as.toArray) w:=by
   rw [fR u,jf xs _ rfl,← m]
   simp
  simp only [execOp,resolve,D,Deferred.ofValue,Sem.run_bind,Sem.run_pure,Result.andThen_ok,invoke,this]
 rw [B]
 subst j
 refine Calls.mono' (q X.C w V' s) ?_
 rintro e E ⟨x,rfl,s'⟩
 exact k x E s'
def HP.Closed (p:HP):Prop:=∀ I J h,p.p I h→p.p J h
theorem bP {K:Kind α}{e:Nat}{v:Value}{xs:List α}(h:K.Closed):(ow K e v xs).Closed:=fun _ _ _ o=>im h o
theorem kc {A:List HP}(h:∀ p∈A,p.Closed){I J g:Hp}(s:cU A I g):cU A J g:=by
 induction A generalizing g with
 | nil=>exact s
 | cons p A ih =>
  obtain ⟨h1,h2,j,a,b⟩:=s
  exact ⟨h1,h2,j,h p (by simp) _ _ _ a,ih (fun q e=>h q (by simp [e])) b⟩
def AllC:List HP→Prop
 | []=>True
 | p::A=>p.Closed∧AllC A
theorem uf {A:List HP}(h:AllC A):∀ p∈A,p.Closed:=by
 induction A with
 | nil=>intro p a; cases a
 | cons q A ih =>
  intro p a
  rcases List.mem_cons.1 a with rfl | a
  ·exact h.1
  ·exact ih h.2 p a
def ug (a:Hp)(p:HP):HP:=⟨fun I h=>Hp.le a I∧p.p a h,fun l h=>⟨Hp.le_trans h.1 l,h.2⟩⟩
theorem oe {e I:Hp}(l:Hp.le e I){V:List HP}{h:Hp}(s:cU V e h):cU (V.map (ug e)) I h:=by
 induction V generalizing h with
 | nil=>exact s
 | cons p V ih =>
  obtain ⟨h1,h2,j,a,b⟩:=s
  exact ⟨h1,h2,j,⟨l,a⟩,ih b⟩
theorem og {e I:Hp}{V:List HP}{h:Hp}(s:cU (V.map (ug e)) I h):cU V e h:=by
 induction V generalizing h with
 | nil=>exact s
 | cons p V ih =>
  obtain ⟨h1,h2,j,a,b⟩:=s
  exact ⟨h1,h2,j,a.2,ih b⟩
def vo (g:Hp):HP:=⟨fun I h=>h=Hp.none∧Hp.le g I,fun l h=>⟨h.1,Hp.le_trans h.2 l⟩⟩
theorem FnOk.perm {A:Type}{P:Program}{f:FuncId}{args:List Value}{e Pre':List HP}{a:A→Value×List HP}(g:FnOk P f args e a)(h:∀ C w V,St C w (Pre'++V)→St C w (e++V)):FnOk P f args Pre' a:=fun C w V s=>g C w V (h C w V s)
theorem FnOk.post {A B:Type}{P:Program}{f:FuncId}{args:List Value}{j:List HP}{i:A→Value×List HP}{a:B→Value×List HP}(m:FnOk P f args j i)(g:A→B)(h1:∀ x,(i x).1=(a (g x)).1)(h:∀ x C w V,St C w ((i x).2++V)→St C w ((a (g x)).2++V)):FnOk P f args j a:=by
 intro C w V s
 refine Calls.mono' (m C w V s) ?_
 rintro e q ⟨x,rfl,s'⟩
 exact ⟨g x,by rw [h1],h x C q V s'⟩
def kJ:List Value→Value
 | [v]=>v
 | vs=>.tuple vs.toArray
def mQ (P:Program)(V:List HP)(σ:bL):List ResultVar→List Value→Prop
 | [],[]=>True
 | .tmp t::rs,v::vs=>σ t=v∧mQ P V σ rs vs
 | .cell a T::rs,v::vs=>(∃ i b cs e,lk V i=aV b cs e∧σ a=.pointer (some ⟨b,0,none⟩)∧((eG P T=some true∧fI P T=some cs.length∧v=.agg cs.toArray)∨(eG P T=some false∧cs=[v])))∧mQ P V σ rs vs
 | _,_=>False
theorem it {P:Program}{C w:World}{V:List HP}{σ:bL}(s:St C w V):∀ (rs:List ResultVar) (vs:List Value),mQ P V σ rs vs →
  (rs.mapM (fun | .tmp t=>pure (σ t) | .cell a t=>do loadVar t (← asAddr (σ a)):ResultVar→Sem Value)).run P w=.ok vs w
 | [],[],_=>rfl
 | .tmp t::rs,v::vs,⟨h1,h2⟩=>by
  have:=it s rs vs h2
  simp [List.mapM_cons,this,h1]
 | .cell a T::rs,v::vs,⟨⟨i,b,cs,T0,hV,ha,hv⟩,h2⟩=>by
  have:=it s rs vs h2
  have g:=gH s i hV
  have r:(loadVar T ⟨b,0,none⟩).run P w=.ok v w:=by
   rcases hv with ⟨e,m,rfl⟩|⟨e,rfl⟩
   ·exact eR e m (fun j u B=>by rw [dZ,gI g,Nat.zero_add]; exact B)
   ·exact dB e (by rw [gI g]; rfl)
  have q:(asAddr (σ a)).run P w=.ok ⟨b,0,none⟩ w:=by rw [ha]; rfl
  simp [List.mapM_cons,this,q,r]
 | [],_::_,h=>h.elim
 | .tmp _::_,[],h=>h.elim
 | .cell _ _::_,[],h=>h.elim
theorem hM {P:Program}{C w:World}{V:List HP}{σ:bL}{fn:Func}{rs:List ResultVar}{vs:List Value}(s:St C w V)(a:fn.results=rs.toArray)(h:mQ P V σ rs vs):(g0 fn σ).run P w=.ok (kJ vs) w:=by
 have:=it s rs vs h
 unfold g0
 rw [a,List.mapM_toArray]
 simp only [Sem.run_bind,Sem.run_map]
 refine (congrArg (fun r=>Result.andThen (Result.andThen r _) _) this).trans ?_
 match vs with
 | []=>rfl
 | [v]=>rfl
 | v::u::l=>simp [kJ]
def mx (X:Cx){A:Type}(V:List HP)(a:A→Value×List HP):Value→World→Prop:=fun v w=>∃ x,v=(a x).1∧St X.C w ((a x).2++V)
theorem ft {A:Type}{V0:List HP}{a:A→Value×List HP}{fn:Func}{rs:List ResultVar}{vs:List Value}{e:Exit}(m:e=.ret∨e=.normal)(x:A)(g:fn.results=rs.toArray)(i:mQ X.P V σ rs vs)(j:(a x).1=kJ vs)(h:∀ w,St X.C w V→St X.C w ((a x).2++V0)) :
  TQ X V σ e (ie X.P fn (mx X V0 a)):=by
 intro w s
 rcases m with rfl | rfl
 ·exact ⟨_,hM s g i,x,j.symm,h w s⟩
 ·exact ⟨_,hM s g i,x,j.symm,h w s⟩
theorem aU {A:Type}{P:Program}{f:FuncId}{fn:Func}{c:Code}{args:List Value}{g:List HP}{a:A→Value×List HP}(m:P.funcs[f]?=some fn)(j:fn.body=some c)(n:Nat)(i:fn.ntmps=n)(q:Nat.ble args.length n=true)
  (h:∀ C V,TC ⟨P,.of n,C⟩ (g++V) (mC args.toArray) c (ie P fn (mx ⟨P,.of n,C⟩ V a))):FnOk P f args g a:=by
 subst i
 intro C w V s
 refine Calls.mono' (kE m j (by have:=Nat.le_of_ble_eq_true q; simpa using this) (h C V w s)) ?_
 rintro e r ⟨v,rfl,x,rfl,s'⟩
 exact ⟨x,rfl,s'⟩
theorem h8 {a:Act}{o:Oper}{n:Nn}{σ:bL}(g:fy n o.dst=true)(h1:a.tmps.size=n.n)(h2:a.defers=n.ds)(h:cT a=σ)(v:Value):(a.put o.dst v).tmps.size=n.n∧(a.put o.dst v).defers=n.ds∧cT (a.put o.dst v)=dS σ o.dst v:=by
 refine ⟨?_,?_,?_⟩
 ·cases hdd:o.dst with
  | none=>exact h1
  | some d=>show (a.tmps.setIfInBounds d v).size=n.n; rw [Array.size_setIfInBounds,h1]
 ·cases hdd:o.dst with
  | none=>exact h2
  | some d=>exact h2
 ·rw [gf,h]
  intro d e
  rw [e] at g
  rw [h1]
  exact Nat.lt_of_lt_of_le (Nat.lt_succ_self _) (Nat.le_of_ble_eq_true g)
theorem pB {a:Nat}{op:Op}(v:Value)(g:VO X V σ ⟨some a,op,ty,pos,af,gd⟩ v)(hw:cE ops σ ⟨some a,op,ty,pos,af,gd⟩=true)(e:fy X.n (some a)=true)(h:TL X ops V (gX σ a v) rest Q):TL X ops V σ (⟨some a,op,ty,pos,af,gd⟩::rest) Q :=
 ue e hw g h
theorem eJ {b:Bool}{x y:Option α}{r:α}(h:(if b=true then x else y)=some r):(b=true∧x=some r)∨(b=false∧y=some r):=by
 cases b
 ·exact .inr ⟨rfl,by simpa using h⟩
 ·exact .inl ⟨rfl,by simpa using h⟩
def h9 (σ:bL):List (Nat×Value)→Prop
 | []=>True
 | (t,v)::l=>σ t=v∧h9 σ l
theorem gh {σ:bL}{l:List (Nat×Value)}(h:h9 σ l):jU σ l=σ:=by
 induction l with
 | nil=>rfl
 | cons p l ih =>
  obtain ⟨t,v⟩:=p
  show gX (jU σ l) t v=σ
  rw [ih h.2]
  exact mz σ t h.1
def Jn (X:Cx){A:Type}(pf:A→Prop)(g:A→List (Nat×Value))(e:A→List HP):bL→World→Prop:=fun σ w=>∃ a,pf a∧h9 σ (g a)∧St X.C w (e a)
theorem aW {A:Type}{x y:Code}(pf:A→Prop)(h:A→List (Nat×Value))(g:A→List HP)(j:TC X V σ x (eP (Jn X pf h g) Q))(m:∀ a σ',pf a→TC X (g a) (jU σ' (h a)) y Q):TC X V σ x (eP (Nx X y Q) Q):=by
 intro w s
 refine W.mono (j w s) ?_
 intro e σ' r q
 cases e with
 | normal =>
  obtain ⟨a,i,h1,h2⟩:=q
  have:=m a σ' i r h2
  rw [gh h1] at this
  exact this
 | _=>exact q
theorem cG {A:Type}{pf:A→Prop}{g:A→List (Nat×Value)}{e:A→List HP}(a:A)(h:pf a)(h1:h9 σ (g a))(h2:∀ w,St X.C w V→St X.C w (e a)):TQ X V σ .normal (eP (Jn X pf g e) Q):=fun w s=>⟨a,h,h1,h2 w s⟩
def uh (X:Cx){S E A:Type}(e:S⊕E)(h:S→A→List (Nat×Value))(g:S→A→List HP):bL→World→Prop:=fun σ w=>∃ s a,e=.inl s∧h9 σ (h s a)∧St X.C w (g s a)
theorem aP {S E A:Type}{f:S→Option (S⊕E)}{j:S}{e:E}{c:Code}(G:aI f j=some e)(m:S→A→List (Nat×Value))(i:S→A→List HP)(a0:A)(h1:h9 σ (m j a0))(h2:∀ w,St X.C w V→St X.C w (i j a0))
  (h:∀ s a σ' out,f s=some out→(∀ r,out=.inr r→r=e)→TC X (i s a) (jU σ' (m s a)) c (eP (uh X out m i) Q)):TC X V σ (.loop c) Q:=by
 intro w M
 obtain ⟨k,F⟩:=ic G
 refine qb (fun k σ w=>∃ s a,fF f k s=some e∧h9 σ (m s a)∧St X.C w (i s a)) k ⟨j,a0,F,h1,h2 w M⟩ ?_
 rintro k σ' O ⟨s,a,g,g1,B⟩
 cases k with
 | zero=>cases g
 | succ k =>
  simp only [fF] at g
  cases hf:f s with
  | none=>rw [hf] at g; cases g
  | some out =>
   rw [hf] at g
   have:=h s a σ' out hf (fun r D=>by subst D; exact Option.some.inj g) O B
   rw [gh g1] at this
   refine W.mono this ?_
   intro ex σ'' T q
   cases ex with
   | normal =>
    obtain ⟨s',u,rfl,I,J⟩:=q
    exact ⟨k,Nat.lt_succ_self k,s',u,g,I,J⟩
   | _=>exact q
theorem oh {S E A:Type}{g:S→A→List (Nat×Value)}{e:S→A→List HP}{s:S}(a:A)(h1:h9 σ (g s a))(h2:∀ w,St X.C w V→St X.C w (e s a)):TQ X V σ .normal (eP (uh X (E:=E) (.inl s) g e) Q):=fun w h=>⟨s,a,rfl,h1,h2 w h⟩
end
end Go.Pg
namespace Go.Pg
section
variable {P:Program}{ops:Array Oper}{Q:Exit→Act→World→Prop}{S:World→Prop}{k:Nat}
def Shut (ops:Array Oper)(listed:Array Bool):Prop:=∀ j o,ops[j]?=some o→listed.getD j false=true→∀ e∈o.after,Region.binds .any e=true→listed.getD e.on false=true
def i' (ops:Array Oper):Nat→Nat→Nat→Bool
 | 0,_,_=>false
 | f+1,j,i=>match ops[j]? with
  | some o=>o.after.any (fun e=>Region.binds .any e&&e.on==i)||o.after.any (fun e=>Region.binds .any e&&i' ops f e.on i)
  | none=>false
theorem gJ {listed:Array Bool}(D:Shut ops listed):∀ (f j i:Nat) (o:Oper),ops[j]?=some o→(∀ e∈o.after,Region.binds .any e=true→listed.getD e.on false=true)→i' ops f j i=true→listed.getD i false=true:=by
 intro f
 induction f with
 | zero=>intro j i o _ _ h; cases h
 | succ f ih =>
  intro j i o B q h
  simp only [i',B,Bool.or_eq_true,Array.any_eq_true',Bool.and_eq_true,beq_iff_eq] at h
  rcases h with ⟨e,g,a,r⟩|⟨e,g,a,m⟩
  ·rw [← r]; exact q e g a
  ·have u:=q e g a
   cases hoe:ops[e.on]? with
   | none =>
    cases f with
    | zero=>cases m
    | succ f=>simp [i',hoe] at m
   | some o'=>exact ih e.on i o' hoe (D e.on o' hoe u) m
def fu (ops:Array Oper)(k:Nat):Bool:=(List.range ops.size).all fun j=>Nat.blt j k||(List.range k).all fun i=>i' ops ops.size j i
def iu (ops:Array Oper)(k i:Nat):Bool:=(List.range ops.size).all fun j=>Nat.blt j k||i' ops ops.size j i
theorem lp {ops:Array Oper}{k i:Nat}(h:fu ops k=true)(a:Nat.blt i k=true):iu ops k i=true:=by
 simp only [fu,iu,List.all_eq_true,List.mem_range,Bool.or_eq_true] at h ⊢
 intro j e
 rcases h j e with h | h
 ·exact .inl h
 ·exact .inr (h i (Nat.lt_of_lt_of_le (Nat.lt_succ_self _) (Nat.le_of_ble_eq_true a)))
theorem Shut.step {listed:Array Bool}{j:Nat}(h:Shut ops listed)(u:j∈Region.ready .any ops listed):Shut ops (listed.setIfInBounds j true):=by
 obtain ⟨_,o,B,r⟩:=mem_ready.1 u
 intro i o' a q e m g
 by_cases hij:i=j
 ·subst hij
  rw [B] at a
  obtain rfl:=Option.some.inj a
  exact getD_set_true (r e m g)
 ·rw [getD_set_ne false (Ne.symm hij)] at q
  exact getD_set_true (h i o' a q e m g)
def jh (ops:Array Oper)(k:Nat)(listed:Array Bool):Bool:=(List.range ops.size).all fun j=>Nat.blt j k||!listed.getD j false
theorem kd {listed:Array Bool}{i:Nat}(a:Nat.blt i k=true)(h:jh ops k listed=true):jh ops k (listed.setIfInBounds i true)=true:=by
 simp only [jh,List.all_eq_true,List.mem_range,Bool.or_eq_true,Bool.not_eq_true'] at h ⊢
 intro j e
 by_cases hji:j=i
 ·subst hji; exact .inl a
 ·rw [getD_set_ne false (Ne.symm hji)]; exact h j e
def g6 (P:Program)(ops:Array Oper)(Q:Exit→Act→World→Prop)(S:World→Prop)(k:Nat):Nat→Array Bool→Act→World→Prop
 | 0,listed,a,w=>Region.ready .any ops listed=[]∧Q .normal a w
 | fuel+1,listed,a,w =>
  (Region.ready .any ops listed=[]→Q .normal a w) ∧
  ∀ i∈Region.ready .any ops listed,wpOp P ops Q i (fun g e=>(Nat.blt i k=true→jh ops k listed=true→S e)∧g6 P ops Q S k fuel (listed.setIfInBounds i true) g e) a w
theorem gw:∀ (fuel:Nat) (listed:Array Bool) (a:Act) (w:World),g6 P ops Q S k fuel listed a w→wpAny P .any ops Q fuel listed a w
 | 0,_,_,_,h=>h
 | fuel+1,_,_,_,h=>⟨h.1,fun i j=>wpOp_mono (fun e m g=>gw fuel _ e m g.2) (h.2 i j)⟩
theorem gK {i:Nat}{O:Oper}{v:Value}(hi:ops[i]?=some O)(U:Nat.blt i k=true)(ht:iu ops k i=true)(F:∀ (j:Nat) (o:Oper) cs b,ops[j]?=some o→o.op≠.select cs b)
  (hQ:∀ c a w,Q (.panic c) (a.put O.dst v) w→Q (.panic c) a w) :
  ∀ (fuel:Nat) (listed:Array Bool) (a:Act) (w:World),Shut ops listed →
   (∀ j G,ops[j]?=some G→j≠i→listed.getD j true=false→(∀ e∈G.after,Region.binds .any e=true→e.on≠i)→O.apart ops G=true) →
   i∈Region.ready .any ops listed→YieldsIf P ops S O v a→S w →
   g6 P ops Q S k fuel (listed.setIfInBounds i true) (a.put O.dst v) w→g6 P ops Q S k (fuel+1) listed a w:=by
 intro fuel
 induction fuel with
 | zero =>
  intro listed a w _ _ M hy hS H
  refine ⟨fun h=>(by rw [h] at M; cases M),fun j Y=>?_⟩
  by_cases hji:j=i
  ·subst hji; exact hy.wpOp hi hS ⟨fun _ _=>hS,H⟩
  ·have:=ready_mono Y hji
   rw [H.1] at this
   cases this
 | succ fuel ih =>
  intro listed a w u g M hy hS H
  refine ⟨fun h=>(by rw [h] at M; cases M),fun j Y=>?_⟩
  by_cases hji:j=i
  ·subst hji; exact hy.wpOp hi hS ⟨fun _ _=>hS,H⟩
  ·have h1:=H.2 j (ready_mono Y hji)
   obtain ⟨E,G,q,D⟩:=mem_ready.1 Y
   have h0:=(mem_ready.1 M).1
   have J:listed.getD i false=true→False:=fun h1=>by
    rcases Nat.lt_or_ge i listed.size with h' | h'
    ·simp [h'] at h0 h1; rw [h0] at h1; cases h1
    ·simp [Array.getElem?_eq_none h'] at h1
   have a2:Nat.blt j k=true:=by
    cases T:Nat.blt j k with
    | true=>rfl
    | false =>
     simp only [iu,List.all_eq_true,List.mem_range,Bool.or_eq_true] at ht
     have B:=(ht j (Array.getElem?_eq_some_iff.1 q).1).resolve_left (by rw [T]; exact fun h=>by cases h)
     exact (J (gJ u _ j i G q D B)).elim
   have I:jh ops k listed=true:=by
    simp only [jh,List.all_eq_true,List.mem_range,Bool.or_eq_true,Bool.not_eq_true']
    intro m hm
    cases T:Nat.blt m k with
    | true=>exact .inl rfl
    | false =>
     refine .inr ?_
     cases hl:listed.getD m false with
     | false=>rfl
     | true =>
      simp only [iu,List.all_eq_true,List.mem_range,Bool.or_eq_true] at ht
      have B:=(ht m hm).resolve_left (by rw [T]; exact fun h=>by cases h)
      have ho:=Array.getElem?_eq_getElem hm
      exact (J (gJ u _ m i _ ho (u m _ ho hl) B)).elim
   have Z:∀ e∈G.after,Region.binds .any e=true→e.on≠i:=fun e he T a1=>J (a1▸D e he T)
   have h2:=wpOp_putIf q (g j G q hji E Z) (fun cs b=>F i O cs b hi) (fun cs b=>F j G cs b q) hQ hy h1
   have r:∀ m ok,ops[m]?=some ok→m≠i→(listed.setIfInBounds j true).getD m true=false →
     (∀ e∈ok.after,Region.binds .any e=true→e.on≠i)→O.apart ops ok=true:=fun m ok hk a3 a0 a4=>by
    refine g m ok hk a3 ?_ a4
    by_cases hjm:j=m
    ·subst hjm; exact E
    ·rw [getD_set_ne true hjm] at a0; exact a0
   refine wpOp_mono (fun a' w' B=>⟨fun q1 q2=>B.2.1 q1 (kd U q2),ih (listed.setIfInBounds j true) a' w' (u.step Y) r (ready_mono M (Ne.symm hji)) B.1 (B.2.1 a2 (kd U I)) ?_⟩) h2
   rw [Array.setIfInBounds_comm _ _ hji]
   exact B.2.2
end
def NP (Q:Exit→bL→World→Prop):Exit→bL→World→Prop
 | .panic _,_,_=>False
 | .outgrown,_,_=>False
 | e,σ,w=>Q e σ w
def TD (X:Cx)(ops:Array Oper)(k:Nat)(V0:List HP)(fuel:Nat)(listed:Array Bool)(V:List HP)(σ:bL)(Q:Exit→bL→World→Prop):Prop :=
 ∀ a w,a.tmps.size=X.n.n→a.defers=X.n.ds→cT a=σ→Shut ops listed→St X.C w V→g6 X.P ops (dT X.n (NP Q)) (fun w=>St X.C w V0) k fuel listed a w
def DK (X:Cx)(ops:Array Oper)(k:Nat)(V0:List HP)(fuel:Nat)(listed:Array Bool)(i:Nat)(Q:Exit→bL→World→Prop):Exit→bL→World→Prop
 | .normal,σ,w=>∀ a,a.tmps.size=X.n.n→a.defers=X.n.ds→cT a=σ→Shut ops (listed.setIfInBounds i true)→(Nat.blt i k=true→jh ops k listed=true→St X.C w V0)∧g6 X.P ops (dT X.n (NP Q)) (fun w=>St X.C w V0) k fuel (listed.setIfInBounds i true) a w
 | .panic _,_,_=>False
 | .outgrown,_,_=>False
 | e,σ,w=>Q e σ w
def si (X:Cx)(ops:Array Oper)(k:Nat)(V0:List HP)(fuel:Nat)(listed:Array Bool)(V:List HP)(σ:bL)(Q:Exit→bL→World→Prop):List Nat→Prop
 | []=>True
 | i::is=>(match ops[i]? with
  | some o=>TL X ops V σ [o] (DK X ops k V0 fuel listed i Q)
  | none=>False)∧si X ops k V0 fuel listed V σ Q is
section
variable {X:Cx}{V V0:List HP}{σ:bL}{Q:Exit→bL→World→Prop}{ops:Array Oper}{o:Oper}{k fuel:Nat}{listed:Array Bool}
variable {d:Nat}{op:Op}{ty:TypeId}{pos:String}{af:Array Edge}{gd:Option (Nat×Bool)}
theorem qg {B:Nat}{l:List Oper}(k:Nat)(V0:List HP)(u:X.P.follows .mixedOrders=true)(g:(fu l.toArray k&&Region.noSelect l.toArray)=true)
  (h:fu l.toArray k=true→Region.noSelect l.toArray=true→TD X l.toArray k V0 l.length (Array.replicate l.length false) V σ Q):TC X V σ (.region B l.toArray true) Q:=by
 intro w s a h1 h2 r
 rw [Bool.and_eq_true] at g
 refine wp_mono (P:=X.P) (Q:=dT X.n (NP Q)) (wp_region_any u (gw (S:=fun w=>St X.C w V0) (k:=k) _ _ _ _ ?_)) ?_
 ·have:=h g.1 g.2 a w.drew h1 h2 r (fun j o _ i=>by
   exfalso
   by_cases hj:j<l.length
   ·simp [Array.getElem?_replicate,hj] at i
   ·simp [Array.getElem?_replicate,hj] at i) s.drew
  simpa using this
 ·rintro e a w q
  refine gg q fun m=>?_
  cases e<;>first | exact m | exact m.elim
theorem qh (g:Region.ready .any ops listed=[])(h:TQ X V σ .normal Q):TD X ops k V0 fuel listed V σ Q:=by
 intro a w h1 h2 j _ s
 have e:dT X.n (NP Q) .normal a w:=.inl ⟨h1,h2,by rw [j]; exact h w s⟩
 cases fuel with
 | zero=>exact ⟨g,e⟩
 | succ fuel=>exact ⟨fun _=>e,by rw [g]; intro i m; cases m⟩
theorem ui (i:Nat)(v:Value)(r:ops[i]?=some ⟨some d,op,ty,pos,af,gd⟩)(F:VO X V0 σ ⟨some d,op,ty,pos,af,gd⟩ v)(hw:cE ops σ ⟨some d,op,ty,pos,af,gd⟩=true)(B:fy X.n (some d)=true)
  (m:Nat.blt i k=true) (E:iu ops k i=true) (D:Region.noSelect ops=true) (j:(Region.free .any ops listed i&&(Region.ready .any ops listed).contains i)=true) (hS:∀ w,St X.C w V→St X.C w V0)
  (h:TD X ops k V0 fuel (listed.setIfInBounds i true) V (gX σ d v) Q):TD X ops k V0 (fuel+1) listed V σ Q:=by
 intro a w h1 h2 g e s
 rw [Bool.and_eq_true] at j
 obtain ⟨p1,G,I⟩:=h8 (o:=⟨some d,op,ty,pos,af,gd⟩) B h1 h2 g v
 have u:i∈Region.ready .any ops listed:=by simpa using j.2
 refine gK (v:=v) r m E (Region.noSelect_spec D) ?_ fuel listed a w e (Region.free_spec r j.1) u ?_ (hS w s) (h _ w p1 G I (e.step u) s)
 ·rintro c a w q
  exact (dK q (by simp)).2.2.elim
 ·exact .inl ⟨by rw [fN,g]; exact hw,fun w s=>by rw [f',g]; exact F w s⟩
theorem uj (i:Nat)(v:Value)(j:ops[i]?=some ⟨some d,op,ty,pos,af,gd⟩)(r:VO X V0 σ ⟨some d,op,ty,pos,af,gd⟩ v)(hw:cE ops σ ⟨some d,op,ty,pos,af,gd⟩=true)(e:fy X.n (some d)=true)
  (a:Nat.blt i k=true) (q:fu ops k=true) (m:Region.noSelect ops=true) (g:(Region.free .any ops listed i&&(Region.ready .any ops listed).contains i)=true) (hS:∀ w,St X.C w V→St X.C w V0)
  (h:TD X ops k V0 fuel (listed.setIfInBounds i true) V (gX σ d v) Q):TD X ops k V0 (fuel+1) listed V σ Q :=
 ui i v j r hw e a (lp q a) m g hS h
theorem qi (i:Nat)(r:ops[i]?=some ⟨some d,op,ty,pos,af,gd⟩)(hw:cE ops σ ⟨some d,op,ty,pos,af,gd⟩=false)(B:fy X.n (some d)=true)
  (j:Nat.blt i k=true) (E:iu ops k i=true) (D:Region.noSelect ops=true) (g:(Region.free .any ops listed i&&(Region.ready .any ops listed).contains i)=true) (hS:∀ w,St X.C w V→St X.C w V0)
  (h:TD X ops k V0 fuel (listed.setIfInBounds i true) V (gX σ d undef) Q):TD X ops k V0 (fuel+1) listed V σ Q:=by
 intro a w h1 h2 m e s
 rw [Bool.and_eq_true] at g
 obtain ⟨p1,F,G⟩:=h8 (o:=⟨some d,op,ty,pos,af,gd⟩) B h1 h2 m undef
 have u:i∈Region.ready .any ops listed:=by simpa using g.2
 refine gK (v:=undef) r j E (Region.noSelect_spec D) ?_ fuel listed a w e (Region.free_spec r g.1) u ?_ (hS w s) (h _ w p1 F G (e.step u) s)
 ·rintro c a w q
  exact (dK q (by simp)).2.2.elim
 ·exact .inr ⟨by rw [fN,m]; exact hw,rfl⟩
theorem sj (i:Nat)(j:ops[i]?=some ⟨some d,op,ty,pos,af,gd⟩)(hw:cE ops σ ⟨some d,op,ty,pos,af,gd⟩=false)(e:fy X.n (some d)=true)
  (a:Nat.blt i k=true) (q:fu ops k=true) (m:Region.noSelect ops=true) (g:(Region.free .any ops listed i&&(Region.ready .any ops listed).contains i)=true) (hS:∀ w,St X.C w V→St X.C w V0)
  (h:TD X ops k V0 fuel (listed.setIfInBounds i true) V (gX σ d undef) Q):TD X ops k V0 (fuel+1) listed V σ Q :=
 qi i j hw e a (lp q a) m g hS h
theorem hN (rs:List Nat)(g:Region.ready .any ops listed=rs)(E:Nat.blt 0 rs.length=true)(h:si X ops k V0 fuel listed V σ Q rs):TD X ops k V0 (fuel+1) listed V σ Q:=by
 intro a w h1 h2 h3 J s
 refine ⟨fun h0=>(by rw [g] at h0; rw [h0] at E; cases E),fun i G=>?_⟩
 have B:=G
 rw [g] at G
 clear g E
 induction rs with
 | nil=>cases G
 | cons j rs ih =>
  rcases List.mem_cons.1 G with rfl | G
  ·have hj:=h.1
   obtain ⟨_,o,ho,_⟩:=mem_ready.1 B
   rw [ho] at hj
   have D:=hj w s a h1 h2 h3
   unfold wpOp
   simp only [ho]
   unfold wpList at D
   split
   ·rename_i hw
    rw [if_pos hw] at D
    have up:∀ r,o.upon X.P a (wpList X.P ops (dT X.n (DK X ops k V0 fuel listed i Q)) []) (dT X.n (DK X ops k V0 fuel listed i Q)) r →
      o.upon X.P a (fun F m=>(Nat.blt i k=true→jh ops k listed=true→St X.C m V0)∧g6 X.P ops (dT X.n (NP Q)) (fun w=>St X.C w V0) k fuel (listed.setIfInBounds i true) F m) (dT X.n (NP Q)) r:=by
     have hq:∀ c a w,dT X.n (DK X ops k V0 fuel listed i Q) (.panic c) a w→dT X.n (NP Q) (.panic c) a w:=by
      rintro c a w q
      exact (dK q (by simp)).2.2.elim
     have I:∀ F m,wpList X.P ops (dT X.n (DK X ops k V0 fuel listed i Q)) [] F m→(Nat.blt i k=true→jh ops k listed=true→St X.C m V0)∧g6 X.P ops (dT X.n (NP Q)) (fun w=>St X.C w V0) k fuel (listed.setIfInBounds i true) F m:=by
      rintro F m q
      obtain ⟨T,U,Y⟩:=dK q (by simp)
      exact Y F T U rfl (J.step B)
     intro r g
     match r,g with
     | .ok (.value v) m,g=>exact I _ _ g
     | .ok .skip m,g=>exact I _ _ g
     | .ok (.defer _) m,g=>exact I _ _ g
     | .ok (.enter f args) m,g =>
      refine Calls.mono' g ?_
      intro e Z O
      cases e with
      | returned v=>exact I _ _ O
      | panicked c=>exact hq _ _ _ O
      | outgrown =>
       obtain ⟨b,u,M⟩:=O
       exact (dK M (by simp)).2.2.elim
     | .ok (.row row args) m,g=>exact Rows.mono g fun v Z h=>I _ _ h
     | .halt (.panic v) m,g=>exact hq _ _ _ g
    rcases D with D | ⟨h1,b,u,M⟩
    ·exact .inl (up _ D)
    ·exact (dK M (by simp)).2.2.elim
   ·rename_i hw
    rw [if_neg hw] at D
    obtain ⟨T,U,Y⟩:=dK D (by simp)
    exact Y _ T U rfl (J.step B)
  ·exact ih h.2 G
theorem sk (i:Nat)(e:Region.ready .any ops listed=[i])(a:ops[i]?=some o)(h:TL X ops V σ [o] (DK X ops k V0 fuel listed i Q)):TD X ops k V0 (fuel+1) listed V σ Q :=
 hN [i] e rfl ⟨by rw [a]; exact h,trivial⟩
theorem aJ {i:Nat}(hS:∀ w,St X.C w V→St X.C w V0)(h:TD X ops k V0 fuel (listed.setIfInBounds i true) V σ Q):TQ X V σ .normal (DK X ops k V0 fuel listed i Q) :=
 fun w s a h1 h2 e g=>⟨fun _ _=>hS w s,h a w h1 h2 e g s⟩
theorem qk {i:Nat}(j:Nat.blt i k=false)(h:TD X ops k V0 fuel (listed.setIfInBounds i true) V σ Q):TQ X V σ .normal (DK X ops k V0 fuel listed i Q) :=
 fun w s a h1 h2 e g=>⟨fun h=>(by rw [j] at h; cases h),h a w h1 h2 e g s⟩
end
end Go.Pg
namespace Go.Pg
section
variable {α:Type}{K:Kind α}{C w:World}{V:List HP}
theorem St.len {a:Option Addr}{n c:Nat}{xs:List α}(s:St C w V)(i:Nat)(h:fV (lk V i) K (.slice a n c) xs):n=xs.length:=by
 obtain ⟨J,lw,A,g,e,h2,j,m⟩:=s.reads h
 injection e
theorem St.cap {a:Option Addr}{n c:Nat}{xs:List α}(s:St C w V)(i:Nat)(h:fV (lk V i) K (.slice a n c) xs):n≤9223372036854775807:=by
 obtain ⟨J,lw,A,j,g,h2,e,m⟩:=s.reads h
 have:n=xs.length:=by injection g
 simp only [maxLen] at e
 omega
theorem St.dup {v:Value}{xs:List α}(s:St C w V)(i:Nat)(h:lk V i=bF K v xs):St C w (bF K v xs::V):=by
 obtain ⟨a,I,e,g,j,l,s⟩:=s
 obtain ⟨h1,h2,m,p,s'⟩:=dE i s
 rw [h] at p
 exact ⟨a,I,e,g,j,l,Hp.none,e,Join.none e,⟨rfl,p.2⟩,s⟩
theorem St.shr {e:Nat}{v:Value}{xs:List α}(s:St C w V)(i:Nat)(a:lk V i=ow K e v xs):St C w (bF K v xs::Pg.rm V i):=by
 have:=s.mv i
 unfold Pg.mv at this
 rw [a] at this
 exact St.share this (fun I J g l m p=>⟨rfl,gC l m p⟩)
theorem St.nilo (s:St C w V)(K:Kind α)(e:Nat):St C w (ow K e (.slice none 0 0) []::V) :=
 St.new s id (fun I _=>⟨Hp.none,.inl ⟨none,rfl,rfl,rfl⟩,fun _ _ e=>(by cases e),fun _ h=>absurd rfl h⟩) (fun _ _ h=>h)
theorem St.nilr (s:St C w V)(K:Kind α):St C w (bF K (.slice none 0 0) []::V) :=
 St.new s id (fun I _=>⟨Hp.none,⟨rfl,none,0,rfl,Nat.le_refl _,Nat.zero_le _,fun h=>absurd h (Nat.lt_irrefl _)⟩,fun _ _ e=>(by cases e),fun _ h=>absurd rfl h⟩) (fun _ _ h=>h)
end
section
variable {X:Cx}{V:List HP}{σ:bL}{Q:Exit→bL→World→Prop}{ops:Array Oper}{rest:List Oper}{o:Oper}{cd:Code}{ex:Exit}
variable {d:Option Nat}{ty:TypeId}{pos:String}{af:Array Edge}{gd:Option (Nat×Bool)}
variable {α β:Type}
theorem aX {K:Kind α}{a:Option Addr}{n c:Nat}{xs:List α}(i:Nat)(e:fV (lk V i) K (.slice a n c) xs)(h:n=xs.length→TL X ops V σ rest Q):TL X ops V σ rest Q:=fun w s=>h (s.len i e) w s
theorem aY {K:Kind α}{a:Option Addr}{n c:Nat}{xs:List α}(i:Nat)(e:fV (lk V i) K (.slice a n c) xs)(h:n=xs.length→TC X V σ cd Q):TC X V σ cd Q:=fun w s=>h (s.len i e) w s
theorem gL {K:Kind α}{a:Option Addr}{n c:Nat}{xs:List α}(i:Nat)(e:fV (lk V i) K (.slice a n c) xs)(h:n=xs.length→TQ X V σ ex Q):TQ X V σ ex Q:=fun w s=>h (s.len i e) w s
theorem kK {V':List HP}(f:∀ w,St X.C w V→St X.C w V')(h:TL X ops V' σ rest Q):TL X ops V σ rest Q:=fun w s=>h w (f w s)
theorem sn {V':List HP}(f:∀ w,St X.C w V→St X.C w V')(h:TC X V' σ cd Q):TC X V σ cd Q:=fun w s=>h w (f w s)
theorem uk {V':List HP}(f:∀ w,St X.C w V→St X.C w V')(h:TQ X V' σ ex Q):TQ X V σ ex Q:=fun w s=>h w (f w s)
theorem bZ {A:Type}{f:FuncId}{xs:Array Operand}{g:Array TypeId}{as:List Value}{e:List HP}{a:A→Value×List HP}(m:Nat)(q:fy X.n d=true)(hw:cE ops σ ⟨d,.call ⟨.value (.func f),xs,g⟩,ty,pos,af,gd⟩=true)
  (r:aO X.P f=true) (i:xs.toList.map (ev σ)=as) (j:FnOk X.P f as e a) (h:tk m V=e) (k:∀ x,TL X ops ((a x).2++dp m V) (dS σ d (a x).1) rest Q):TL X ops V σ (⟨d,.call ⟨.value (.func f),xs,g⟩,ty,pos,af,gd⟩::rest) Q :=
 qf q hw r i j (by rw [← h,iZ]) k
theorem ke {A:Type}{f:FuncId}{h:Operand}{fs cs:List Value}{xs:Array Operand}{g:Array TypeId}{as:List Value}{e:List HP}{a:A→Value×List HP}(m:Nat)(r:fy X.n d=true)(hw:cE ops σ ⟨d,.call ⟨.value h,xs,g⟩,ty,pos,af,gd⟩=true)
  (u:aO X.P f=true) (B:ev σ h=.func (.func f) fs.toArray cs.toArray) (j:fs++xs.toList.map (ev σ)++cs=as) (q:FnOk X.P f as e a) (i:tk m V=e) (k:∀ x,TL X ops ((a x).2++dp m V) (dS σ d (a x).1) rest Q):TL X ops V σ (⟨d,.call ⟨.value h,xs,g⟩,ty,pos,af,gd⟩::rest) Q :=
 od r hw u B j q (by rw [← i,iZ]) k
theorem AllC.append {A B:List HP}(a:AllC A)(b:AllC B):AllC (A++B):=by
 induction A with
 | nil=>exact b
 | cons p A ih=>exact ⟨a.1,ih a.2⟩
theorem i0 {c a b:Operand}{k:Bool}{v e:Value}(h:ev σ c=.bool k)(j:k=true)(g:ev σ a=e)(i:e=v):VO X V σ ⟨d,.pick c a b,ty,pos,af,gd⟩ v:=eS (by
 simp only [pv,h,j,g,i,cond_true])
theorem ji {c a b:Operand}{k:Bool}{v e:Value}(h:ev σ c=.bool k)(j:k=false)(g:ev σ b=e)(i:e=v):VO X V σ ⟨d,.pick c a b,ty,pos,af,gd⟩ v:=eS (by
 simp only [pv,h,j,g,i,cond_false])
theorem ql {t q:TypeId}{x y:Operand}{a:Option Addr}{n c:Nat}{e:TypeId}(h:iP X.P t=some e)(j:ev σ x=.slice a n c)(m:ev σ y=.slice none 0 0):VO X V σ ⟨d,.binOp .eql t x y q,ty,pos,af,gd⟩ (.bool a.isNone):=by
 intro w _
 have i:=fP h
 have g:(Op.equal t (.slice a n c) (.slice none 0 0)).run X.P w=.ok a.isNone w:=by
  unfold Op.equal
  rw [show Op.maxDepth=9999+1 from rfl]
  unfold Op.equalIn
  rw [Sem.run_bind,run_underlying i]
  cases a<;>rfl
 cases a<;>simp [execOp,j,m,eqGuard,binOp,g]
end
end Go.Pg
namespace Go.Pg
def gM (P:Program)(T:TypeId):Option (List (Nat×Nat)):=match P.underlying T with
 | some (.struct fs)=>fs.toList.mapM fun f=>(P.info? f.type).map fun i=>(f.offset,i.size)
 | _=>none
def lq (ps:List (Nat×Nat)):List Value→List (Nat×Value)→Option (List Value)
 | z,[]=>some z
 | z,(i,v)::rest=>match m9 ps i with
  | some (off,sz)=>cond (Nat.beq v.cells.toList.length sz&&Nat.ble (off+sz) z.length) (lq ps (z.take off++v.cells.toList++z.drop (off+sz)) rest) none
  | none=>none
theorem mR:∀ (l:List Value) (a j:Nat) (cs:Array Value),a+j+l.length≤cs.size →
  ((l.zipIdx j).foldl (fun cs (c,j)=>cs.setIfInBounds (a+j) c) cs).toList=cs.toList.take (a+j)++l++cs.toList.drop (a+j+l.length):=by
 intro l
 induction l with
 | nil=>intro a j cs _; simp
 | cons u l ihl =>
  intro a j cs e
  simp only [List.zipIdx_cons,List.foldl_cons]
  rw [ihl a (j+1) _ (by simp at *; omega)]
  simp only [List.length_cons] at e
  rw [Array.toList_setIfInBounds,show a+(j+1)=(a+j)+1 by omega,List.take_succ_eq_append_getElem (by simp; omega),List.take_set_of_le (Nat.le_refl _),List.drop_set_of_lt (by omega)]
  simp [Nat.add_assoc,Nat.add_comm,Nat.add_left_comm]
theorem qm {ps:List (Nat×Nat)}:∀ (parts:List (Nat×Value)) (z:Array Value) (cs:List Value),lq ps z.toList parts=some cs→∃ r,Instr.fill (ps.toArray[·]?) z parts=some r∧r.toList=cs:=by
 intro parts
 induction parts with
 | nil=>intro z cs h; exact ⟨z,rfl,Option.some.inj h⟩
 | cons p parts ih =>
  intro z cs h
  obtain ⟨i,v⟩:=p
  unfold lq at h
  rw [gu] at h
  unfold Instr.fill
  have g:ps.toArray[i]?=ps[i]?:=by simp
  simp only [g]
  cases hp:ps[i]? with
  | none=>rw [hp] at h; cases h
  | some q =>
   obtain ⟨a,sz⟩:=q
   rw [hp] at h
   simp only at h ⊢
   cases hb:(Nat.beq v.cells.toList.length sz&&Nat.ble (a+sz) z.toList.length) with
   | false=>rw [hb] at h; cases h
   | true =>
    rw [hb] at h
    simp only [cond_true,Bool.and_eq_true] at h hb
    have h1:v.cells.size=sz:=by simpa using Nat.eq_of_beq_eq_true hb.1
    have h2:a+sz≤z.size:=by simpa using Nat.le_of_ble_eq_true hb.2
    have e:¬ (v.cells.size≠sz∨a+v.cells.size>z.size):=by rw [h1]; omega
    rw [if_neg (by simpa using e)]
    have m:v.cells.zipIdx.foldl (fun cs (c,j)=>cs.setIfInBounds (a+j) c) z=(v.cells.toList.zipIdx 0).foldl (fun cs (c,j)=>cs.setIfInBounds (a+j) c) z:=by
     rw [← Array.foldl_toList]
     congr 1
     simp
    rw [m]
    refine ih _ cs ?_
    rw [mR _ _ _ _ (by simp [h1]; omega)]
    simpa [h1] using h
section
variable {X:Cx}{V:List HP}{σ:bL}{Q:Exit→bL→World→Prop}{ops:Array Oper}{rest:List Oper}{o:Oper}
variable {d:Option Nat}{ty:TypeId}{pos:String}{af:Array Edge}{gd:Option (Nat×Bool)}
variable {α β:Type}
theorem kf {P:Program}{w:World}:∀ (fs:List Field) (ps:List (Nat×Nat)),fs.mapM (fun f=>(P.info? f.type).map fun i=>(f.offset,i.size))=some ps →
  (fs.mapM (fun f=>(do pure (f.offset,← sizeOf f.type):Sem (Nat×Nat)))).run P w=.ok ps w:=by
 intro fs
 induction fs with
 | nil=>intro ps h; simp at h; subst h; rfl
 | cons f fs ih =>
  intro ps h
  rw [List.mapM_cons] at h ⊢
  cases hi:P.info? f.type with
  | none=>rw [hi] at h; cases h
  | some i =>
   rw [hi] at h
   cases hm:fs.mapM (fun f=>(P.info? f.type).map fun i=>(f.offset,i.size)) with
   | none=>rw [hm] at h; cases h
   | some qs =>
    rw [hm] at h
    obtain rfl:=Option.some.inj h
    have h1:=ih qs hm
    simp only [Sem.run_bind,Sem.run_pure,Result.andThen_ok,cJ (show fI P f.type=some i.size by simp [fI,hi]),h1]
theorem bX {T:TypeId}{parts:Array (Nat×Operand)}{cs z:List Value}{ps:List (Nat×Nat)}{l:List (Nat×Value)}(a:gM X.P T=some ps)(G:iX X.P T=some z)(B:parts.toList.map (fun p=>(p.1,ev σ p.2))=l)(E:lq ps z l=some cs) :
  VO X V σ ⟨d,.build T parts,ty,pos,af,gd⟩ (.agg cs.toArray):=by
 intro w _
 unfold gM at a
 split at a
 ·rename_i fs F
  obtain ⟨I,q,u⟩:=gF (P:=X.P) (w:=w) G
  have D:=kf (P:=X.P) (w:=w) _ _ a
  obtain ⟨r,h,j⟩:=qm (ps:=ps) l z.toArray cs (by simpa using E)
  have g:(parts.map fun (i,x)=>(i,ev σ x)).toList=l:=by
   rw [← B]; simp
  have e:(fs.mapM (fun f=>(do pure (f.offset,← sizeOf f.type):Sem (Nat×Nat)))).run X.P w=.ok ps.toArray w:=by
   rw [show fs=fs.toList.toArray by simp,List.mapM_toArray,Sem.run_map]
   exact congrArg (fun r=>Result.andThen r _) D
  have m:r=cs.toArray:=by apply Array.ext'; simpa using j
  simp only [execOp,Instr.build,Sem.run_bind,q,Result.andThen_ok,run_underlying F,e,g,u,h,m,Sem.run_pure]
 ·cases a
def qn (K:Kind α){A:Type}(e:A→α→List Value)(g:A→α→List HP):Prop:=∀ I h x cs,K.own I h x cs→∃ a,cs=e a x∧cU (g a x) I Hp.none
theorem St.seps {C w:World}{p:HP}{A V:List HP}(s:St C w (p::(A++V))):St C w (⟨fun I h=>∃ h1 h2,Join h1 h2 h∧p.p I h1∧cU A I h2,fun l ⟨h1,h2,j,a,b⟩=>⟨h1,h2,j,p.mono l a,fG l b⟩⟩::V):=by
 obtain ⟨a,I,h,g,j,l,h1,h2,q,c,s⟩:=s
 obtain ⟨i,m,r,d,e⟩:=bG.1 s
 obtain ⟨k,u,B⟩:=Join.assoc' r q
 exact ⟨a,I,h,g,j,l,k,m,B,⟨h1,i,u,c,d⟩,e⟩
theorem dQ [Inhabited α]{K:Kind α}{T e:TypeId}{x y:Operand}{g o n c:Nat}{xs:List α}{vs:List Value}{x':α}(k:Nat)(j:Int)(hd:fy X.n d=true)(hw:cE ops σ ⟨d,.store T x y,ty,pos,af,gd⟩=true)(hs:fI X.P T=some K.sz)
  (hx:ev σ x=.pointer (some ⟨g,o+j.toNat*K.sz,none⟩)) (hy:(ev σ y).cells.toList=vs) (h0:0≤j) (h1:j<n) (ho:∀ I h,cU (tk k V) I h→K.own I h x' vs)
  (h:TL X ops (ow K e (.slice (some ⟨g,o,none⟩) n c) (xs.set j.toNat x')::dp k V) (dS σ d undef) rest Q):TL X ops (ow K e (.slice (some ⟨g,o,none⟩) n c) xs::V) σ (⟨d,.store T x y,ty,pos,af,gd⟩::rest) Q:=by
 intro w s
 have s2:St X.C w (_::dp k V):=St.seps (A:=tk k V) (V:=dp k V) (by rw [iZ]; exact s)
 obtain ⟨_,w',hr,s'⟩:=St.act s2 0 (q:=fun _:Unit=>ow K e (.slice (some ⟨g,o,none⟩) n c) (xs.set j.toNat x')) (Ψ:=fun _ w'=>(execOp (ev σ) ⟨d,.store T x y,ty,pos,af,gd⟩).run X.P w=.ok .skip w') (by
  rintro I hh ⟨a4,hA,E,p,a7⟩ lI lw dj
  have J:=ho I hA a7
  have p:kG K e I a4 (.slice (some ⟨g,o,none⟩) n c) xs:=p
  rcases p with ⟨A,hv,rfl,_⟩|⟨g',c',pre,i,a,fr,hb,hv,h2,h3,h4,Y,F,ol⟩
  ·injection hv with _ hv _
   omega
  injection hv with u U e3
  injection u with u
  injection u with u e4
  subst u; subst e3; subst e4; subst U
  obtain ⟨M,c1,O,g1,g2,hc,a8,jn,ox,a2⟩:=jd ol (iq h0 h1)
  have a5:=K.own_len ox
  have a0:=K.own_len J
  have Z:w.heap[g]?=some (.cells (pre++i++a).toArray e fr):=lw g _ (E.left g _ (F.left g _ (by simp [Hp.one])))
  have aa:i.length=M.length+c1.length+O.length:=by rw [hc]; simp [Nat.add_assoc]
  obtain ⟨w',r,e',ot,sm⟩:=g5 (P:=X.P) (N:=(pre++i++a).length) (T:=e) (fr:=fr) (b:=g) (by simpa [Nat.add_assoc] using Y) vs (pre.length+j.toNat*K.sz) 0 (pre++i++a) w rfl Z (by simp only [List.length_append]; omega) (K.own_one J)
  obtain ⟨m,jm⟩:=Join.of_disj (h1:=hA) (h2:=g2) (fun b=>by
   rcases E.disj b with f | f
   ·exact .inr ((jn.is_none b).1 ((F.is_none b).1 f).2).2
   ·exact .inl f)
  have a9:pre++i++a=(pre++i++a):=rfl
  have a3:(pre++i++a).take (pre.length+j.toNat*K.sz+0)++vs++(pre++i++a).drop (pre.length+j.toNat*K.sz+0+vs.length)=pre++(M++vs++O)++a:=by
   have u:pre++i++a=(pre++M)++(c1++(O++a)):=by rw [hc]; simp [List.append_assoc]
   have U:pre.length+j.toNat*K.sz+0=(pre++M).length:=by rw [List.length_append]; omega
   rw [u,U,List.take_left,List.drop_append,List.drop_of_length_le (by omega),List.nil_append,Nat.add_sub_cancel_left,a0,← a5,List.drop_left]
   simp [List.append_assoc]
  obtain ⟨h',G⟩:=Join.of_disj (h1:=Hp.one g (.cells (pre++(M++vs++O)++a).toArray e fr)) (h2:=m) (fun b=>by
   by_cases hbg:b=g
   ·subst hbg
    refine .inr ((jm.is_none b).2 ⟨?_,?_⟩)
    ·rcases E.disj b with f | f
     ·have:=((F.is_none b).1 f).1
      simp [Hp.one] at this
     ·exact f
    ·rcases F.disj b with f | f
     ·simp [Hp.one] at f
     ·exact ((jn.is_none b).1 f).2
   ·exact .inl (by simp [Hp.one,hbg]))
  refine ⟨(),w',h',?_,sm _,?_,?_,?_,?_⟩
  ·have a6:(ev σ y).cells.size=K.sz:=by rw [← a0,← hy]; simp
   simp only [execOp,Instr.storeAt,hx,Instr.sureAddr,Sem.run_bind,Sem.run_pure,Result.andThen_ok,storeVar,cJ hs,hy,a6,ne_eq,not_true_eq_false,if_false,r]
  ·refine .inr ⟨g,_,pre,M++vs++O,a,fr,m,by rw [List.length_set],by rw [List.length_set]; exact h2,h3,by rw [List.length_set]; exact h4,?_,G,a2 I hA x' vs m (Hp.le_refl I) jm J⟩
   rcases Y with Y | Y
   ·exact .inl Y
   ·refine .inr ?_
    simp only [List.length_append] at *
    omega
  ·intro b o' u
   rcases G.cases u with ⟨u,_⟩|⟨u,U⟩
   ·simp only [Hp.one] at u
    split at u
    ·rename_i D
     subst D
     rw [← Option.some.inj u,e',a3]
    ·cases u
   ·have B:b≠g:=by rintro rfl; simp [Hp.one] at U
    rw [ot b B]
    rcases jm.cases u with ⟨u,_⟩|⟨u,_⟩
    ·exact lw b _ (E.right b _ u)
    ·exact lw b _ (E.left b _ (F.right b _ (jn.right b _ u)))
  ·intro b D
   refine .inl fun hn=>D ?_
   have q1:=(E.is_none b).1 hn
   have q2:=(F.is_none b).1 q1.1
   refine (G.is_none b).2 ⟨?_,(jm.is_none b).2 ⟨q1.2,((jn.is_none b).1 q2.2).2⟩⟩
   have:=q2.1
   simp only [Hp.one] at *
   split at this
   ·cases this
   ·rename_i B; rw [if_neg B]
  ·intro b o' hn u
   have q1:=(E.is_none b).1 hn
   have q2:=((F.is_none b).1 q1.1).1
   have B:b≠g:=by rintro rfl; simp [Hp.one] at q2
   rw [ot b B]
   exact u)
 exact dA hd hw (by rw [hr]; exact h w' s')
end
end Go.Pg
namespace Go.Pg
structure DecK {α:Type}(K:Kind α) where
 A:Type
 cells:A→α→List Value
 ents:A→α→List HP
 dec:u9 K cells ents
section
variable {α β:Type}
def DecK.scal (enc:α→Value)(h1:∀ x,(enc x).oneCell'=true):DecK (Kind.scal enc h1):=⟨Unit,fun _ x=>[enc x],fun _ _=>[],fun I x cs h=>⟨(),h,rfl⟩⟩
def DecK.sl (e:Nat)(K:Kind α):DecK (Kind.sl e K):=⟨Option Addr×Nat,fun a xs=>[.slice a.1 xs.length a.2],fun a xs=>[bF K (.slice a.1 xs.length a.2) xs],fun I x cs h=>by
 obtain ⟨v,rfl,r⟩:=h
 obtain ⟨a,c,rfl⟩:=k7 r
 exact ⟨(a,c),rfl,Hp.none,Hp.none,Join.none _,⟨rfl,r⟩,rfl⟩⟩
def DecK.pair {A:Kind α}{B:Kind β}(a:DecK A)(b:DecK B):DecK (Kind.pair A B):=⟨a.A×b.A,fun p x=>a.cells p.1 x.1++b.cells p.2 x.2,fun p x=>a.ents p.1 x.1++b.ents p.2 x.2,fun I x cs h=>by
 obtain ⟨i,j,rfl,h1,h2⟩:=h
 obtain ⟨p,rfl,e⟩:=a.dec _ _ _ h1
 obtain ⟨q,rfl,g⟩:=b.dec _ _ _ h2
 exact ⟨(p,q),rfl,bG.2 ⟨Hp.none,Hp.none,Join.none _,e,g⟩⟩⟩
def DecK.iso {K:Kind α}(a:DecK K)(f:β→α):DecK (Kind.iso K f):=⟨a.A,fun p x=>a.cells p (f x),fun p x=>a.ents p (f x),fun I x cs h=>a.dec I (f x) cs h⟩
theorem DecK.own {K:Kind α}(a:DecK K):qn K.share a.cells a.ents:=fun I h x cs o=>a.dec I x cs o.2
theorem DecK.leaf {K:Kind α}(a:DecK K){fo:Nat}{pr:α→Value}(h:∀ p x,m9 (a.cells p x) fo=some (pr x)):se K fo pr:=fun I x cs e=>by
 obtain ⟨p,rfl,_⟩:=a.dec I x cs e
 exact h p x
structure MkS {α:Type}(K:Kind α) where
 A:Type
 cells:A→α→List Value
 ents:A→α→List HP
 put:∀ I h a x,cU (ents a x) I h→h=Hp.none∧K.rd I x (cells a x)
structure MkO {α:Type}(K:Kind α) where
 A:Type
 cells:A→α→List Value
 ents:A→α→List HP
 put:∀ I h a x,cU (ents a x) I h→K.own I h x (cells a x)
def MkS.scal (enc:α→Value)(h1:∀ x,(enc x).oneCell'=true):MkS (Kind.scal enc h1):=⟨Unit,fun _ x=>[enc x],fun _ _=>[],fun I h a x s=>⟨s,rfl⟩⟩
def MkS.sl (e:Nat)(K:Kind α):MkS (Kind.sl e K):=⟨Value,fun v _=>[v],fun v xs=>[bF K v xs],fun I h a x s=>by
 obtain ⟨h1,h2,j,⟨rfl,r⟩,e⟩:=s
 have e:h2=Hp.none:=e
 subst e
 exact ⟨j.eq_of_none,a,rfl,r⟩⟩
def MkS.pair {A:Kind α}{B:Kind β}(a:MkS A)(b:MkS B):MkS (Kind.pair A B):=⟨a.A×b.A,fun p x=>a.cells p.1 x.1++b.cells p.2 x.2,fun p x=>a.ents p.1 x.1++b.ents p.2 x.2,fun I h p x s=>by
 obtain ⟨h1,h2,j,q,r⟩:=bG.1 s
 obtain ⟨e,i⟩:=a.put _ _ _ _ q
 obtain ⟨g,m⟩:=b.put _ _ _ _ r
 subst e; subst g
 exact ⟨j.eq_of_none,_,_,rfl,i,m⟩⟩
def MkS.iso {K:Kind α}(a:MkS K)(f:β→α):MkS (Kind.iso K f):=⟨a.A,fun p x=>a.cells p (f x),fun p x=>a.ents p (f x),fun I h p x s=>a.put I h p (f x) s⟩
def MkO.scal (enc:α→Value)(h1:∀ x,(enc x).oneCell'=true):MkO (Kind.scal enc h1):=⟨Unit,fun _ x=>[enc x],fun _ _=>[],fun I h a x s=>⟨s,rfl⟩⟩
def MkO.sl (e:Nat)(K:Kind α):MkO (Kind.sl e K):=⟨Value,fun v _=>[v],fun v xs=>[ow K e v xs],fun I h a x s=>by
 obtain ⟨h1,h2,j,o,g⟩:=s
 have g:h2=Hp.none:=g
 subst g
 rw [j.symm.eq_of_none]
 exact ⟨a,rfl,o⟩⟩
def MkO.pair {A:Kind α}{B:Kind β}(a:MkO A)(b:MkO B):MkO (Kind.pair A B):=⟨a.A×b.A,fun p x=>a.cells p.1 x.1++b.cells p.2 x.2,fun p x=>a.ents p.1 x.1++b.ents p.2 x.2,fun I h p x s=>by
 obtain ⟨h1,h2,j,e,g⟩:=bG.1 s
 exact ⟨h1,h2,_,_,j,rfl,a.put _ _ _ _ e,b.put _ _ _ _ g⟩⟩
def MkO.iso {K:Kind α}(a:MkO K)(f:β→α):MkO (Kind.iso K f):=⟨a.A,fun p x=>a.cells p (f x),fun p x=>a.ents p (f x),fun I h p x s=>a.put I h p (f x) s⟩
structure SpO {α:Type}(K:Kind α) where
 A:Type
 cells:A→α→List Value
 ents:A→α→List HP
 sp:∀ I h x cs,K.own I h x cs→∃ a,cs=cells a x∧cU (ents a x) I h
theorem mS {L:Kind β}{e:Nat}{I h:Hp}{v:Value}{ys:List β}(r:kG L e I h v ys):∃ a c,v=.slice a ys.length c:=by
 rcases r with ⟨A,rfl,rfl,_⟩|⟨g,c,pre,j,i,fr,h1,rfl,_⟩
 ·exact ⟨A,0,rfl⟩
 ·exact ⟨_,c,rfl⟩
def SpO.scal (enc:α→Value)(h1:∀ x,(enc x).oneCell'=true):SpO (Kind.scal enc h1):=⟨Unit,fun _ x=>[enc x],fun _ _=>[],fun I h x cs o=>⟨(),o.2,o.1⟩⟩
def SpO.sl (e:Nat)(K:Kind α):SpO (Kind.sl e K):=⟨Option Addr×Nat,fun a xs=>[.slice a.1 xs.length a.2],fun a xs=>[ow K e (.slice a.1 xs.length a.2) xs],fun I h x cs o=>by
 obtain ⟨v,rfl,r⟩:=o
 obtain ⟨a,c,rfl⟩:=mS r
 exact ⟨(a,c),rfl,h,Hp.none,Join.none' _,r,rfl⟩⟩
def SpO.pair {A:Kind α}{B:Kind β}(a:SpO A)(b:SpO B):SpO (Kind.pair A B):=⟨a.A×b.A,fun p x=>a.cells p.1 x.1++b.cells p.2 x.2,fun p x=>a.ents p.1 x.1++b.ents p.2 x.2,fun I h x cs o=>by
 obtain ⟨h1,h2,i,m,j,rfl,o1,o2⟩:=o
 obtain ⟨p,rfl,e⟩:=a.sp _ _ _ _ o1
 obtain ⟨q,rfl,g⟩:=b.sp _ _ _ _ o2
 exact ⟨(p,q),rfl,bG.2 ⟨h1,h2,j,e,g⟩⟩⟩
def SpO.iso {K:Kind α}(a:SpO K)(f:β→α):SpO (Kind.iso K f):=⟨a.A,fun p x=>a.cells p (f x),fun p x=>a.ents p (f x),fun I h x cs o=>a.sp I h (f x) cs o⟩
structure Zr {α:Type}(K:Kind α) where
 z:α
 cs:List Value
 len:cs.length=K.sz
 own:∀ I,K.own I Hp.none z cs
def Zr.scal (enc:α→Value)(h1:∀ x,(enc x).oneCell'=true)(z:α):Zr (Kind.scal enc h1):=⟨z,[enc z],rfl,fun I=>⟨rfl,rfl⟩⟩
def Zr.sl (e:Nat)(K:Kind α):Zr (Kind.sl e K):=⟨[],[.slice none 0 0],rfl,fun I=>⟨_,rfl,.inl ⟨none,rfl,rfl,rfl⟩⟩⟩
def Zr.pair {A:Kind α}{B:Kind β}(a:Zr A)(b:Zr B):Zr (Kind.pair A B):=⟨(a.z,b.z),a.cs++b.cs,by rw [List.length_append,a.len,b.len]; rfl,fun I=>⟨Hp.none,Hp.none,_,_,Join.none _,rfl,a.own I,b.own I⟩⟩
def Zr.iso {K:Kind α}(a:Zr K)(f:β→α)(z:β)(h:f z=a.z):Zr (Kind.iso K f):=⟨z,a.cs,a.len,fun I=>by show K.own I Hp.none (f z) a.cs; rw [h]; exact a.own I⟩
def Zr.share {K:Kind α}(a:Zr K):Zr K.share:=⟨a.z,a.cs,a.len,fun I=>⟨rfl,K.own_rd (Hp.le_refl I) (Hp.none_le I) (a.own I)⟩⟩
theorem Zr.zk {P:Program}{K:Kind α}{e:TypeId}(a:Zr K)(h:iX P e=some a.cs):k8 P K e a.z:=⟨a.cs,h,a.len,a.own⟩
theorem kL {K:Kind α}{I J:Hp}(l:Hp.le I J):∀ (xs:List α) (h:Hp) (cs:List Value),Hp.le h J→dX K I h xs cs→dX K.share J Hp.none xs cs:=by
 intro xs
 induction xs with
 | nil=>intro h cs _ o; exact ⟨rfl,o.2⟩
 | cons x xs ih =>
  rintro h cs i ⟨h1,h2,m,g,j,e,a,b⟩
  exact ⟨Hp.none,Hp.none,m,g,Join.none _,e,⟨rfl,K.own_rd l (Hp.le_trans j.left i) a⟩,ih h2 g (Hp.le_trans j.right i) b⟩
theorem St.wk {C w:World}{V:List HP}{K:Kind α}{e:Nat}{v:Value}{xs:List α}(s:St C w V)(i:Nat)(U:lk V i=ow K e v xs):St C w (ow K.share e v xs::Pg.rm V i):=by
 obtain ⟨a,I,h,g,j,l,s⟩:=s.mv i
 obtain ⟨h1,h2,u,p,s'⟩:=s
 rw [U] at p
 have p:kG K e I h1 v xs:=p
 rcases p with ⟨A,rfl,rfl,rfl⟩|⟨b,c,pre,r,q,fr,F,rfl,q2,q3,q4,q5,B,ol⟩
 ·exact ⟨a,I,h,g,j,l,Hp.none,h2,u,.inl ⟨A,rfl,rfl,rfl⟩,s'⟩
 ·obtain ⟨k,Z,k2⟩:=Join.assoc' u j
  obtain ⟨J,E⟩:=Join.of_disj (h1:=I) (h2:=F) (fun x=>by
   rcases Z.disj x with f | f
   ·exact .inl f
   ·exact .inr ((B.is_none x).1 f).2)
  obtain ⟨O,M⟩:=Join.of_disj (h1:=Hp.one b (.cells (pre++r++q).toArray e fr)) (h2:=h2) (fun x=>by
   rcases u.disj x with f | f
   ·exact .inl ((B.is_none x).1 f).1
   ·exact .inr f)
  obtain ⟨G,T⟩:=Join.of_disj (h1:=J) (h2:=O) (fun x=>by
   by_cases hx:J x=Option.none
   ·exact .inl hx
   ·refine .inr ((M.is_none x).2 ?_)
    cases hI:I x with
    | some o =>
     have:h x=Option.none:=by
      rcases j.disj x with f | f
      ·rw [hI] at f; cases f
      ·exact f
     have:=(u.is_none x).1 this
     exact ⟨((B.is_none x).1 this.1).1,this.2⟩
    | none =>
     have D:F x≠Option.none:=fun Y=>hx ((E.is_none x).2 ⟨hI,Y⟩)
     refine ⟨?_,?_⟩
     ·rcases B.disj x with f | f
      ·exact f
      ·exact absurd f D
     ·rcases u.disj x with f | f
      ·exact absurd ((B.is_none x).1 f).2 D
      ·exact f)
  refine ⟨a,J,O,G,T,?_,_,h2,M,.inr ⟨b,c,pre,r,q,fr,Hp.none,rfl,q2,q3,q4,q5,Join.none' _,kL E.left xs F r E.right ol⟩,fG E.left s'⟩
  intro x o m
  rcases T.cases m with ⟨m,_⟩|⟨m,_⟩
  ·rcases E.cases m with ⟨m,_⟩|⟨m,_⟩
   ·exact l x o (j.left x o m)
   ·exact l x o (j.right x o (u.left x o (B.right x o m)))
  ·rcases M.cases m with ⟨m,_⟩|⟨m,_⟩
   ·exact l x o (j.right x o (u.left x o (B.left x o m)))
   ·exact l x o (j.right x o (u.right x o m))
end
section
variable {X:Cx}{V:List HP}{σ:bL}{Q:Exit→bL→World→Prop}{ops:Array Oper}{rest:List Oper}
variable {d:Option Nat}{ty:TypeId}{pos:String}{af:Array Edge}{gd:Option (Nat×Bool)}
theorem i3 {T:TypeId}{x:Operand}{b k n:Nat}{cs ds:List Value}{a:Nat}(i:Nat)(g:eG X.P T=some true)(m:fI X.P T=some n)
  (e:lk V i=aV b cs a) (q:ev σ x=.pointer (some ⟨b,k,none⟩)) (h:(cs.drop k).take n=ds) (j:ds.length=n):VO X V σ ⟨d,.load T x,ty,pos,af,gd⟩ (.agg ds.toArray):=by
 subst h
 exact o7 i g m e q j
end
section
variable {α:Type}
theorem MkO.list {K:Kind α}(M:MkO K):∀ (ps:List (M.A×α)) (I h:Hp),cU (ps.flatMap fun p=>M.ents p.1 p.2) I h→dX K I h (ps.map (·.2)) (ps.flatMap fun p=>M.cells p.1 p.2):=by
 intro ps
 induction ps with
 | nil=>intro I h s; exact ⟨s,rfl⟩
 | cons p ps ih =>
  intro I h s
  rw [List.flatMap_cons] at s
  obtain ⟨h1,h2,j,a,b⟩:=bG.1 s
  exact ⟨h1,h2,_,_,j,by rw [List.flatMap_cons],M.put _ _ _ _ a,ih I h2 b⟩
theorem MkS.list {K:Kind α}(M:MkS K):∀ (ps:List (M.A×α)) (I h:Hp),cU (ps.flatMap fun p=>M.ents p.1 p.2) I h→dX K.share I h (ps.map (·.2)) (ps.flatMap fun p=>M.cells p.1 p.2):=by
 intro ps
 induction ps with
 | nil=>intro I h s; exact ⟨s,rfl⟩
 | cons p ps ih =>
  intro I h s
  rw [List.flatMap_cons] at s
  obtain ⟨h1,h2,j,a,b⟩:=bG.1 s
  exact ⟨h1,h2,_,_,j,by rw [List.flatMap_cons],M.put _ _ _ _ a,ih I h2 b⟩
end
theorem dI {a:Bool}(e:a=false):(!a)=true:=by rw [e]; rfl
theorem vb {a b:Bool}(h:a=b):Value.bool a=Value.bool b:=by rw [h]
def bR {α:Type}[Inhabited α](c:Bool)(x:Option α):Option α:=cond c x (some default)
theorem cB {α:Type}[Inhabited α]{c:Bool}{x:Option α}{r:α}(h:bR c x=some r)(a:c=true):x=some r:=by
 rw [a] at h
 exact h
section
variable {X:Cx}{V:List HP}{σ:bL}{Q:Exit→bL→World→Prop}{ops:Array Oper}{rest:List Oper}
variable {d:Option Nat}{ty:TypeId}{pos:String}{af:Array Edge}{gd:Option (Nat×Bool)}
theorem kg {S:TypeId}{x:Operand}{f fo b k a:Nat}(g:dH X.P S f=some fo)(i:ev σ x=.pointer (some ⟨b,k,none⟩))(e:k+fo=a):VO X V σ ⟨d,.fieldAddr S x f,ty,pos,af,gd⟩ (.pointer (some ⟨b,a,none⟩)):=by
 have h:=o8 (X:=X) (V:=V) (d:=d) (ty:=ty) (pos:=pos) (af:=af) (gd:=gd) g i
 rw [dZ,e] at h
 exact h
theorem iw {A:Type}{x:Code}(pf:A→Prop)(h:A→List (Nat×Value))(g:A→List HP)(j:TC X V σ x (eP (Jn X pf h g) Q))(m:∀ a σ',pf a→TQ X (g a) (jU σ' (h a)) .normal Q):TC X V σ x Q:=by
 intro w s
 refine W.mono (j w s) ?_
 intro e σ' r q
 cases e with
 | normal =>
  obtain ⟨a,i,h1,h2⟩:=q
  have:=m a σ' i r h2
  rw [gh h1] at this
  exact this
 | _=>exact q
theorem fv {T:TypeId}{x:Operand}{g k fo:Nat}{v:Value}{cs:List Value}(i:Nat)(e:eG X.P T=some false)(a:lk V i=cl g k cs)(j:ev σ x=.pointer (some ⟨g,k+fo,none⟩))(h:m9 cs fo=some v):VO X V σ ⟨d,.load T x,ty,pos,af,gd⟩ v:=by
 intro w s
 have:=ll s i a fo v (by rw [← gu]; exact h)
 simp only [execOp,Instr.loadAt,j,Instr.sureAddr,Sem.run_bind,Sem.run_pure,Result.andThen_ok,dB e this]
theorem fB {T:TypeId}{x:Operand}{g k fo n:Nat}{cs ds:List Value}(i:Nat)(m:eG X.P T=some true)(B:fI X.P T=some n)(h:lk V i=cl g k cs)(D:ev σ x=.pointer (some ⟨g,k+fo,none⟩))(q:(cs.drop fo).take n=ds)(r:ds.length=n) :
  VO X V σ ⟨d,.load T x,ty,pos,af,gd⟩ (.agg ds.toArray):=by
 intro w s
 have:=ll s i h
 have h2:=eR (P:=X.P) (w:=w) (a:=⟨g,k+fo,none⟩) (cs:=ds) m (by rw [r]; exact B) (fun j u e=>by
  rw [dZ,Nat.add_assoc]
  refine this _ _ ?_
  rw [← q,List.getElem?_take] at e
  split at e
  ·rwa [List.getElem?_drop] at e
  ·cases e)
 simp only [execOp,Instr.loadAt,D,Instr.sureAddr,Sem.run_bind,Sem.run_pure,Result.andThen_ok,h2]
end
section
variable {α:Type}{P:Program}{f:FuncId}{args:List Value}
def lr:List HP→List HP→Prop
 | [],[]=>True
 | p::A',q::A=>(∀ I J h,Hp.le I J→Hp.le h J→p.p I h→q.p J Hp.none)∧lr A' A
 | _,_=>False
theorem bB {K:Kind α}{e:Nat}{v:Value}{xs:List α}:∀ I J h,Hp.le I J→Hp.le h J→(ow K e v xs).p I h→(bF K v xs).p J Hp.none:=fun I J h l m p=>⟨rfl,gC l m p⟩
theorem i4 {K:Kind α}{e:Nat}{v:Value}{xs:List α}:∀ I J h,Hp.le I J→Hp.le h J→(ow K.share e v xs).p I h→(bF K v xs).p J Hp.none:=fun I J h l m p=>⟨rfl,gC (K:=K.share) l m p⟩
theorem eM {K:Kind α}{e:Nat}{v:Value}{xs:List α}:fV (ow K.share e v xs) K v xs:=aC (K:=K.share)
theorem St.shs {C w:World}{V:List HP}{K:Kind α}{e:Nat}{v:Value}{xs:List α}(s:St C w V)(i:Nat)(a:lk V i=ow K.share e v xs):St C w (bF K v xs::Pg.rm V i):=St.shr (K:=K.share) s i a
theorem kM:∀ (A' A:List HP),lr A' A→∀ I J h,Hp.le I J→Hp.le h J→cU A' I h→cU A J Hp.none:=by
 intro A'
 induction A' with
 | nil =>
  intro A e I J h _ _ s
  cases A with
  | nil=>rfl
  | cons q A=>exact e.elim
 | cons p A' ih =>
  intro A e I J h lI g s
  cases A with
  | nil=>exact e.elim
  | cons q A =>
   obtain ⟨h1,h2,j,a,b⟩:=s
   exact ⟨Hp.none,Hp.none,Join.none _,e.1 I J h1 lI (Hp.le_trans j.left g) a,ih A e.2 I J h2 lI (Hp.le_trans j.right g) b⟩
theorem FnOk.lends {T:Type}{A' A B:List HP}{a:T→Value×List HP}(hc:FnOk P f args (A++B) a)(hl:lr A' A)(hp:∀ x,AllC (a x).2):FnOk P f args (A'++B) (fun x=>((a x).1,A'++(a x).2)):=by
 rintro C w V ⟨sm,I,hh,g,j,lw,O⟩
 rw [List.append_assoc] at O
 obtain ⟨h1,h2,j',p,s⟩:=bG.1 O
 obtain ⟨s1,D,j2,sP,sV⟩:=bG.1 s
 obtain ⟨k,h,k2⟩:=Join.assoc' j' j
 have st:St C w (A++B++(vo I::vo h1::V.map (ug I))):=by
  refine ⟨sm,k,h2,g,k2,lw,?_⟩
  rw [List.append_assoc]
  exact bG.2 ⟨Hp.none,h2,Join.none h2,kM A' A hl I k h1 h.left h.right p,bG.2 ⟨s1,D,j2,fG h.left sP,Hp.none,D,Join.none D,⟨rfl,h.left⟩,Hp.none,D,Join.none D,⟨rfl,h.right⟩,oe h.left sV⟩⟩
 refine Calls.mono' (hc C w _ st) ?_
 rintro e' w' ⟨x,rfl,G,I',q,g',r,i,J⟩
 refine ⟨x,rfl,G,?_⟩
 obtain ⟨q1,q2,jq,sR,b1,b2,jb,⟨rfl,lI⟩,c1,c2,jc,⟨rfl,M⟩,F⟩:=bG.1 J
 have Y:=jb.eq_of_none
 have Z:=jc.eq_of_none
 subst Z; subst Y
 have U:∀ b,h1 b=Option.none∨q b=Option.none:=fun b=>by
  cases hb:h1 b with
  | none=>exact .inl rfl
  | some o =>
   refine .inr ?_
   rcases r.disj b with f | f
   ·rw [M b o hb] at f; cases f
   ·exact f
 obtain ⟨m,E⟩:=Join.of_disj U
 obtain ⟨g2,u⟩:=Join.of_disj (h1:=I) (h2:=m) (fun b=>by
  cases hb:I b with
  | none=>exact .inl rfl
  | some o =>
   refine .inr ((E.is_none b).2 ⟨?_,?_⟩)
   ·rcases h.disj b with f | f
    ·rw [hb] at f; cases f
    ·exact f
   ·rcases r.disj b with f | f
    ·rw [lI b o hb] at f; cases f
    ·exact f)
 refine ⟨I,m,g2,u,?_,?_⟩
 ·intro b o e
  rcases u.cases e with ⟨e,_⟩|⟨e,_⟩
  ·exact i b o (r.left b o (lI b o e))
  ·rcases E.cases e with ⟨e,_⟩|⟨e,_⟩
   ·exact i b o (r.left b o (M b o e))
   ·exact i b o (r.right b o e)
 ·rw [List.append_assoc]
  exact bG.2 ⟨h1,q,E,p,bG.2 ⟨q1,q2,jq,kc (uf (hp x)) sR,og F⟩⟩
end
end Go.Pg
namespace Go.Pg
def fC (i j:Nat):Nat:=cond (Nat.blt i j) (j - 1) j
def kN:Nat→List Nat→Bool
 | _,[]=>true
 | n,i::is=>Nat.blt i n&&is.all (fun j=>!Nat.beq i j)&&kN n is
theorem sq:∀ (A:List HP) (i j:Nat),i≠j→lk (rm A i) (fC i j)=lk A j:=by
 intro A
 induction A with
 | nil=>intro i j _; cases i<;>rfl
 | cons p A ih =>
  intro i j a
  cases i with
  | zero =>
   cases j with
   | zero=>exact absurd rfl a
   | succ j=>rfl
  | succ i =>
   cases j with
   | zero =>
    have:fC (i+1) 0=0:=by simp [fC,Nat.blt]
    rw [this]; rfl
   | succ j =>
    have q:fC (i+1) (j+1)=fC i j+1:=by
     have m:Nat.blt (i+1) (j+1)=Nat.blt i j:=by
      cases h:Nat.blt i j with
      | true=>have:=Nat.le_of_ble_eq_true h; exact Nat.ble_eq_true_of_le (by omega)
      | false =>
       cases h2:Nat.blt (i+1) (j+1) with
       | false=>rfl
       | true =>
        have:=Nat.le_of_ble_eq_true h2
        have g:Nat.blt i j=true:=Nat.ble_eq_true_of_le (by omega)
        rw [g] at h; cases h
     unfold fC
     rw [m]
     cases h:Nat.blt i j with
     | true=>have:=Nat.le_of_ble_eq_true h; show j+1 - 1=j - 1+1; omega
     | false=>rfl
    rw [q]
    exact ih i j (fun e=>a (by rw [e]))
theorem mT {I:Hp}:∀ (n:Nat) (is:List Nat) (A:List HP) (h:Hp),is.length≤n→(∀ i∈is,i<A.length)→is.Nodup→cU A I h→∃ B,Hp.le B h∧cU (is.map (lk A)) I B:=by
 intro n
 induction n with
 | zero =>
  intro is A h J _ _ _
  have:is=[]:=List.eq_nil_of_length_eq_zero (by omega)
  subst this
  exact ⟨Hp.none,Hp.none_le _,rfl⟩
 | succ n ih =>
  intro is A h J r F s
  cases is with
  | nil=>exact ⟨Hp.none,Hp.none_le _,rfl⟩
  | cons i is =>
   obtain ⟨h1,h2,j,a,b⟩:=dE i s
   have m:=List.nodup_cons.1 F
   have O:=r i (by simp)
   have T:(rm A i).length+1=A.length:=by
    clear ih J r F m s j a b h1 h2
    induction A generalizing i with
    | nil=>cases O
    | cons p A ihA =>
     cases i with
     | zero=>rfl
     | succ i=>exact congrArg (·+1) (ihA i (by simpa using O))
   have q:∀ x∈is,x≠i:=fun x u e=>m.1 (e▸u)
   obtain ⟨B,l,s'⟩:=ih (is.map (fC i)) (rm A i) h2 (by simp at J ⊢; omega) (by
    intro x u
    obtain ⟨y,G,rfl⟩:=List.mem_map.1 u
    have Y:=r y (by simp [G])
    have Z:=q y G
    unfold fC
    cases hb:Nat.blt i y with
    | true=>have:=Nat.le_of_ble_eq_true hb; show y - 1<_; omega
    | false =>
     have:¬ i<y:=fun D=>by
      have E:Nat.blt i y=true:=Nat.ble_eq_true_of_le D
      rw [E] at hb; cases hb
     show y<_
     omega) (by
    unfold List.Nodup
    rw [List.pairwise_map]
    refine List.Pairwise.imp_of_mem (fun {x y} u G hne=>?_) m.2
    have Y:=q x u
    have Z:=q y G
    intro e
    unfold fC at e
    cases hb:Nat.blt i x<;>cases hc:Nat.blt i y<;>rw [hb,hc] at e
    ·exact hne e
    ·have:=Nat.le_of_ble_eq_true hc
     have M:¬ i<x:=fun D=>by
      have E:Nat.blt i x=true:=Nat.ble_eq_true_of_le D
      rw [E] at hb; cases hb
     have e:x=y - 1:=e
     omega
    ·have:=Nat.le_of_ble_eq_true hb
     have M:¬ i<y:=fun D=>by
      have E:Nat.blt i y=true:=Nat.ble_eq_true_of_le D
      rw [E] at hc; cases hc
     have e:x - 1=y:=e
     omega
    ·have:=Nat.le_of_ble_eq_true hb
     have:=Nat.le_of_ble_eq_true hc
     have e:x - 1=y - 1:=e
     omega) b
   have he:(is.map (fC i)).map (lk (rm A i))=is.map (lk A):=by
    rw [List.map_map]
    refine List.map_congr_left fun x u=>?_
    exact sq A i x (fun e=>q x u e.symm)
   rw [he] at s'
   obtain ⟨g,U⟩:=Join.of_disj (h1:=h1) (h2:=B) (fun b=>by
    rcases j.disj b with f | f
    ·exact .inl f
    ·refine .inr ?_
     cases hq:B b with
     | none=>rfl
     | some o=>rw [l b o hq] at f; cases f)
   refine ⟨g,fun b o e=>?_,h1,B,U,a,s'⟩
   rcases U.cases e with ⟨e,_⟩|⟨e,_⟩
   ·exact j.left b o e
   ·exact j.right b o (l b o e)
theorem mc:∀ (n:Nat) (is:List Nat),kN n is=true→(∀ i∈is,i<n)∧is.Nodup:=by
 intro n is
 induction is with
 | nil=>intro _; exact ⟨fun _ h=>(by cases h),List.nodup_nil⟩
 | cons i is ih =>
  intro h
  simp only [kN,Bool.and_eq_true,List.all_eq_true,Bool.not_eq_true'] at h
  obtain ⟨⟨h1,h2⟩,g⟩:=h
  obtain ⟨g1,e⟩:=ih g
  refine ⟨fun x a=>?_,List.nodup_cons.2 ⟨fun j=>?_,e⟩⟩
  ·rcases List.mem_cons.1 a with rfl | a
   ·exact Nat.lt_of_lt_of_le (Nat.lt_succ_self _) (Nat.le_of_ble_eq_true h1)
   ·exact g1 x a
  ·have:=h2 i j
   rw [show Nat.beq i i=true from Nat.beq_refl i] at this
   cases this
theorem qo:∀ (n:Nat) (V:List HP),n≤V.length→(tk n V).length=n:=by
 intro n
 induction n with
 | zero=>intro V _; rfl
 | succ n ih =>
  intro V h
  cases V with
  | nil=>simp at h
  | cons p V=>exact congrArg (·+1) (ih V (by simpa using h))
theorem sr:∀ (n:Nat) (V:List HP) (i:Nat),i<n→lk (tk n V) i=lk V i:=by
 intro n
 induction n with
 | zero=>intro V i h; cases h
 | succ n ih =>
  intro V i h
  cases V with
  | nil=>rfl
  | cons p V =>
   cases i with
   | zero=>rfl
   | succ i=>exact ih V i (by omega)
def rT:Nat→List HP→Bool
 | 0,_=>true
 | _+1,[]=>false
 | n+1,_::V=>rT n V
theorem mU:∀ (n:Nat) (V:List HP),rT n V=true→n≤V.length:=by
 intro n
 induction n with
 | zero=>intro V _; exact Nat.zero_le _
 | succ n ih =>
  intro V h
  cases V with
  | nil=>cases h
  | cons p V=>exact Nat.succ_le_succ (ih V h)
theorem St.sel {C w:World}{V:List HP}(s:St C w V)(n:Nat)(is:List Nat)(h:kN n is=true)(u:rT n V=true):St C w (is.map (lk V)++dp n V):=by
 obtain ⟨h1,h2⟩:=mc n is h
 have u:=mU n V u
 rw [← iZ n V] at s
 obtain ⟨a,I,U,g,j,l,s⟩:=s
 obtain ⟨g1,D,B,Y,Z⟩:=bG.1 s
 obtain ⟨q,J,O⟩:=mT is.length is (tk n V) g1 (Nat.le_refl _) (fun i r=>by rw [qo n V u]; exact h1 i r) h2 Y
 have T:is.map (lk (tk n V))=is.map (lk V):=List.map_congr_left fun i r=>sr n V i (h1 i r)
 rw [T] at O
 obtain ⟨m,F⟩:=Join.of_disj (h1:=q) (h2:=D) (fun b=>by
  rcases B.disj b with f | f
  ·refine .inl ?_
   cases hq:q b with
   | none=>rfl
   | some o=>rw [J b o hq] at f; cases f
  ·exact .inr f)
 have M:Hp.le m U:=fun b o e=>by
  rcases F.cases e with ⟨e,_⟩|⟨e,_⟩
  ·exact B.left b o (J b o e)
  ·exact B.right b o e
 obtain ⟨G,E⟩:=Join.of_disj (h1:=I) (h2:=m) (fun b=>by
  rcases j.disj b with f | f
  ·exact .inl f
  ·refine .inr ?_
   cases hq:m b with
   | none=>rfl
   | some o=>rw [M b o hq] at f; cases f)
 refine ⟨a,I,m,G,E,fun b o e=>?_,bG.2 ⟨q,D,F,O,Z⟩⟩
 rcases E.cases e with ⟨e,_⟩|⟨e,_⟩
 ·exact l b o (j.left b o e)
 ·exact l b o (j.right b o (M b o e))
section
variable {X:Cx}{V:List HP}{σ:bL}{Q:Exit→bL→World→Prop}{cd:Code}{α:Type}
theorem qp {K:Kind α}{a:Option Addr}{n c:Nat}{xs:List α}(i:Nat)(q:fV (lk V i) K (.slice a n c) xs)(e:a.isNone=true)(h:xs=[]→TC X V σ cd Q):TC X V σ cd Q:=by
 intro w s
 obtain ⟨J,lw,A,u,r,h2,B,j⟩:=s.reads q
 refine h ?_ w s
 cases xs with
 | nil=>rfl
 | cons x xs =>
  obtain ⟨g,o,m,_⟩:=j (by simp)
  injection r with e1 _ _
  rw [e1,m] at e
  cases e
end
end Go.Pg
namespace Go.Pg
end Go.Pg
namespace Go.Pg
section
variable {α:Type}
def oi (K:Kind α)(e:Nat)(v:Value)(xs:List α)(j:Nat)(cs:List Value):HP where
 p I h:=∃ g c pre m r a fr h1,v=.slice (some ⟨g,pre.length,none⟩) xs.length c∧xs.length≤c∧c≤maxLen∧a.length=(c - xs.length)*K.sz ∧
  (fr=(0,0)∨pre.length+(m++cs++r).length+a.length≤fr.1)∧m.length=j*K.sz∧Join (Hp.one g (.cells (pre++(m++cs++r)++a).toArray e fr)) h1 h ∧
  ∀ q B x' i u,Hp.le I q→Join B h1 u→K.own q B x' i→dX K q u (xs.set j x') (m++i++r)
 mono:=by
  rintro I J h l ⟨g,c,pre,m,r,a,fr,h1,p1,E,F,G,M,O,T,U⟩
  exact ⟨g,c,pre,m,r,a,fr,h1,p1,E,F,G,M,O,T,fun q B x' i u D=>U q B x' i u (Hp.le_trans l D)⟩
theorem St.focus [Inhabited α]{K:Kind α}{C w:World}{V:List HP}{e g o n c:Nat}{xs:List α}(S:SpO K)(s:St C w V)(i:Nat)(j:Int)(hV:lk V i=ow K e (.slice (some ⟨g,o,none⟩) n c) xs)(h0:0≤j)(h1:j<n) :
  ∃ a,St C w (oi K e (.slice (some ⟨g,o,none⟩) n c) xs j.toNat (S.cells a (ix xs j))::(S.ents a (ix xs j)++Pg.rm V i)):=by
 obtain ⟨sm,I,hh,Y,jg,l,D,h2,jS,p,st⟩:=s.mv i
 rw [hV] at p
 have p:kG K e I D (.slice (some ⟨g,o,none⟩) n c) xs:=p
 rcases p with ⟨A,u,rfl,_⟩|⟨F,c',pre,J,h,fr,hb,u,q2,q3,q4,q5,jo,ol⟩
 ·injection u with _ u _
  omega
 injection u with e1 e2 e3
 injection e1 with e1
 injection e1 with e1 e4
 subst e1; subst e3; subst e4; subst e2
 obtain ⟨O,c1,T,g1,U,G,q,jn,ox,r⟩:=jd ol (iq h0 h1)
 obtain ⟨a,rfl,E⟩:=S.sp _ _ _ _ ox
 obtain ⟨m,m1,m2⟩:=Join.assoc' jn.symm jo
 obtain ⟨k,k1,k2⟩:=Join.assoc m2 jS
 exact ⟨a,sm,I,hh,Y,jg,l,m,k,k2,⟨g,_,pre,O,T,h,fr,U,rfl,q2,q3,q4,by rw [← G]; exact q5,q,by rw [← G]; exact m1,fun M Z x' B F l' jj oo=>r M Z x' B F l' jj oo⟩,bG.2 ⟨g1,h2,k1,E,st⟩⟩
theorem St.unfocus {K:Kind α}{C w:World}{E V:List HP}{e j:Nat}{v:Value}{xs:List α}{cs:List Value}(x':α)(s:St C w (oi K e v xs j cs::(E++V)))(f:∀ I h,cU E I h→K.own I h x' cs):St C w (ow K e v (xs.set j x')::V):=by
 obtain ⟨sm,I,F,B,M,l,h1,h2,J,⟨g,c,pre,r,u,a,fr,hb,rfl,q2,q3,q4,q5,q6,O,i⟩,st⟩:=s
 obtain ⟨q,D,G,sE,sV⟩:=bG.1 st
 obtain ⟨k,T,U⟩:=Join.assoc' G J
 obtain ⟨m,Y,Z⟩:=Join.assoc O T
 refine ⟨sm,I,F,B,M,l,k,D,U,.inr ⟨g,c,pre,r++cs++u,a,fr,m,by rw [List.length_set],by rw [List.length_set]; exact q2,q3,by rw [List.length_set]; exact q4,q5,Z,i I q x' cs m (Hp.le_refl I) Y.symm (f I q sE)⟩,sV⟩
end
section
variable {X:Cx}{V:List HP}{σ:bL}{Q:Exit→bL→World→Prop}{ops:Array Oper}{rest:List Oper}{cd:Code}
variable {d:Option Nat}{ty:TypeId}{pos:String}{af:Array Edge}{gd:Option (Nat×Bool)}{α:Type}
theorem jl [Inhabited α]{K:Kind α}{e g o n c:Nat}{xs:List α}(S:SpO K)(i:Nat)(j:Int)(q:lk V i=ow K e (.slice (some ⟨g,o,none⟩) n c) xs)(m:0≤j)(h1:j<n)
  (h:∀ a,TL X ops (oi K e (.slice (some ⟨g,o,none⟩) n c) xs j.toNat (S.cells a (ix xs j))::(S.ents a (ix xs j)++Pg.rm V i)) σ rest Q):TL X ops V σ rest Q:=by
 intro w s
 obtain ⟨a,s'⟩:=s.focus S i j q m h1
 exact h a w s'
theorem mV {K:Kind α}{C w:World}{e g o n c j:Nat}{xs:List α}{cs:List Value}(s:St C w V)(i:Nat)(B:lk V i=oi K e (.slice (some ⟨g,o,none⟩) n c) xs j cs):∀ k u,cs[k]?=some u→w.cell? ⟨g,o+j*K.sz+k,none⟩=some u:=by
 obtain ⟨I,T,p,lI,G,_⟩:=s.look i
 rw [B] at p
 obtain ⟨M,J,pre,m,q,a,fr,O,E,U,Y,Z,q5,q6,F,_⟩:=p
 injection E with e1 e2 e3
 injection e1 with e1
 injection e1 with e1 e4
 subst e1; subst e4
 have h:w.heap[g]?=some (.cells (pre++(m++cs++q)++a).toArray e fr):=G g _ (F.left g _ (by simp [Hp.one]))
 intro k u r
 have D:=(List.getElem?_eq_some_iff.1 r).1
 have:w.cell? ⟨g,pre.length+j*K.sz+k,none⟩=(pre++(m++cs++q)++a)[pre.length+j*K.sz+k]?:=by simp [World.cell?,h]
 rw [this,List.append_assoc,List.getElem?_append_right (by omega),show pre.length+j*K.sz+k - pre.length=j*K.sz+k by omega,List.append_assoc,List.append_assoc,List.getElem?_append_right (by omega),show j*K.sz+k - m.length=k by omega,List.getElem?_append_left D]
 exact r
theorem kO {K:Kind α}{T:TypeId}{x:Operand}{e g o n c fo j:Nat}{xs:List α}{v:Value}{cs:List Value}(i:Nat)(h:eG X.P T=some false)(a:lk V i=oi K e (.slice (some ⟨g,o,none⟩) n c) xs j cs)(q:ev σ x=.pointer (some ⟨g,o+j*K.sz+fo,none⟩))(m:m9 cs fo=some v):VO X V σ ⟨d,.load T x,ty,pos,af,gd⟩ v:=by
 intro w s
 have:=mV s i a fo v (by rw [← gu]; exact m)
 simp only [execOp,Instr.loadAt,q,Instr.sureAddr,Sem.run_bind,Sem.run_pure,Result.andThen_ok,dB h this]
end
end Go.Pg
namespace Go.Pg
def pf (φ:Prop):HP:=⟨fun _ h=>h=Hp.none∧φ,fun _ e=>e⟩
section
variable {C w:World}{V:List HP}
end
section
variable {X:Cx}{V:List HP}{σ:bL}{Q:Exit→bL→World→Prop}{ops:Array Oper}{rest:List Oper}{o:Oper}{cd:Code}{ex:Exit}
variable {d:Option Nat}{ty:TypeId}{pos:String}{af:Array Edge}{gd:Option (Nat×Bool)}
variable {α:Type}
end
end Go.Pg
namespace Go.Pg
def nm {α:Type}(x:α):Option α:=some x
theorem gi {α β:Type}(x:α)(f:α→Option β):(nm x).bind f=f x:=rfl
section
variable {C w:World}{V:List HP}{α:Type}
end
section
variable {X:Cx}{V:List HP}{σ:bL}{Q:Exit→bL→World→Prop}{ops:Array Oper}{rest:List Oper}{o:Oper}{cd:Code}{ex:Exit}
variable {d:Option Nat}{ty:TypeId}{pos:String}{af:Array Edge}{gd:Option (Nat×Bool)}
variable {α:Type}
end
end Go.Pg
namespace Go.Pg
abbrev iv (n:Int):Value:=.int .i64 n
abbrev ad (g o:Nat):Option Addr:=some ⟨g,o,none⟩
abbrev pt (b k:Nat):Value:=.pointer (some ⟨b,k,none⟩)
abbrev RR {α:Type}(K:Kind α)(a:Option Addr)(c:Nat)(xs:List α):HP:=bF K (.slice a xs.length c) xs
abbrev OO {α:Type}(K:Kind α)(e:Nat)(a:Option Addr)(c:Nat)(xs:List α):HP:=ow K e (.slice a xs.length c) xs
def rmL (V:List HP):List Nat→List HP
 | []=>V
 | i::t=>rmL (rm V i) t
theorem St.rmL {C w:World}{V:List HP}(s:St C w V)(l:List Nat):St C w (rmL V l):=by
 induction l generalizing V with
 | nil=>exact s
 | cons i t ih=>exact ih (s.rm i)
section
variable {X:Cx}{V V0:List HP}{σ:bL}{Q:Exit→bL→World→Prop}{ops:Array Oper}{rest:List Oper}{o:Oper}{k fuel:Nat}{listed:Array Bool}{C:World}
variable {d:Nat}{op:Op}{ty:TypeId}{pos:String}{af:Array Edge}{gd:Option (Nat×Bool)}
theorem sL (l:List Nat):∀ w,St C w V→St C w (rmL V l):=fun _ s=>s.rmL l
theorem lo (v:Value)(e:VO X V σ ⟨some d,op,ty,pos,af,gd⟩ v)(h:TL X ops V (gX σ d v) rest Q)(hw:cE ops σ ⟨some d,op,ty,pos,af,gd⟩=true:=by exact rfl)(a:fy X.n (some d)=true:=by exact rfl):TL X ops V σ (⟨some d,op,ty,pos,af,gd⟩::rest) Q :=
 pB v e hw a h
theorem lf (hw:cE ops σ o=false)(h:TL X ops V (dS σ o.dst undef) rest Q)(a:fy X.n o.dst=true:=by exact rfl):TL X ops V σ (o::rest) Q:=px a hw h
theorem eF {g:Nat}{l:List Oper}(k:Nat)(rs:List Nat)(a:X.P.follows .mixedOrders=true)(h:fu l.toArray k=true→Region.noSelect l.toArray=true→TD X l.toArray k (rmL V rs) l.length (Array.replicate l.length false) V σ Q)(e:(fu l.toArray k&&Region.noSelect l.toArray)=true:=by kernel_rfl):TC X V σ (.region g l.toArray true) Q :=
 qg k (rmL V rs) a e h
end
end Go.Pg
