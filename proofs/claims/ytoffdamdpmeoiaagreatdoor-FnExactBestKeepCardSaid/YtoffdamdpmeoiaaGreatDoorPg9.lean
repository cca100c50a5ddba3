import Derived.Test.YtoffdamdpmeoiaaGreatDoorPg1
import Derived.Deep.Quiet
import Derived.KernelRfl
import Derived.OrdersHeld
set_option linter.unusedVariables false
set_option linter.unusedSimpArgs false
namespace Go.Pg
def tk:Nat→List HP→List HP
 | 0,_=>[]
 | _,[]=>[]
 | k+1,q::V=>q::tk k V
def dp:Nat→List HP→List HP
 | 0,V=>V
 | _,[]=>[]
 | k+1,_::V=>dp k V
theorem n8 (k:Nat)(V:List HP):tk k V++dp k V=V:=by
 induction k generalizing V with
 | zero=>rfl
 | succ k ih =>
  cases V with
  | nil=>rfl
  | cons q V=>simp [tk,dp,ih]
section
variable {X:Cx}{V:List HP}{σ:dQ}{Q:Exit→dQ→World→Prop}{ops:Array Oper}{rest:List Oper}
variable {d:Option Nat}{ty:TypeId}{pos:String}{af:Array Edge}{gd:Option (Nat×Bool)}
variable {α β:Type}
theorem eU {K:Kind α}{t e:TypeId}{x y:Operand}{s u:Value}{xs ys:List α}{z:α}{q:HP}{b:Nat}(N:Nat)(T:j3 X.n d=true)(hw:eF ops σ ⟨d,.call ⟨.builtin .append,#[x,y],#[t,t]⟩,ty,pos,af,gd⟩=true)
  (Z:mz X.P t=some e) (Y:iK X.P e=some K.sz) (O:hR X.P e=some b) (hz:po X.P K e z) (r:Nat.blt 0 K.sz=true) (E:Nat.ble (N*b) 140737488355328=true) (i:Nat.ble N 140737488355328=true) (l:Nat.blt 0 b=true)
  (hx:ev σ x=s) (hy:ev σ y=u) (D:Cc q K u ys) (J:xs.length+ys.length≤N)
  (h:∀ a c,TL X ops (ow K e (.slice a (xs++ys).length c) (xs++ys)::V) (gJ σ d (.slice a (xs++ys).length c)) rest Q) :
  TL X ops (ow K e s xs::q::V) σ (⟨d,.call ⟨.builtin .append,#[x,y],#[t,t]⟩,ty,pos,af,gd⟩::rest) Q:=by
 intro w st
 have E:=Nat.le_of_ble_eq_true E
 have i:=Nat.le_of_ble_eq_true i
 have r:0<K.sz:=Nat.le_of_ble_eq_true r
 have l:0<b:=Nat.le_of_ble_eq_true l
 have F:(xs.length+ys.length)*b≤140737488355328:=Nat.le_trans (Nat.mul_le_mul_right _ J) E
 obtain ⟨⟨a,c⟩,B,U,s'⟩:=St.act st.sep 0 (q:=fun p:Option Addr×Nat=>ow K e (.slice p.1 (xs++ys).length p.2) (xs++ys))
  (Ψ:=fun p B=>(Builtin.append_ #[t,t] ty #[s,u]).run X.P w=.ok (.slice p.1 (xs++ys).length p.2) B) (by
   rintro I hh ⟨h1,h2,j,p1,p2⟩ lI lh L
   obtain ⟨a,c,B,M,r1,r2,r3,r4,r5,r6⟩:=vE (ty:=ty) Z Y O hz r j p1 p2 D lI lh L F (Nat.le_trans J i) l
   exact ⟨⟨a,c⟩,B,M,r1,r2 _,r3,r4,r5,r6⟩)
 refine fE T hw ?_
 have G:(execOp (ev σ) ⟨d,.call ⟨.builtin .append,#[x,y],#[t,t]⟩,ty,pos,af,gd⟩).run X.P w=.ok (.value (.slice a (xs++ys).length c)) B:=by
  simp [execOp,resolve,invoke,builtin,hx,hy,U]
 rw [G]
 exact h a c B s'
theorem tC {size:Nat}:∀ (vs:List Value) (k:Nat) (cells:Array Value),(∀ v∈vs,v.cells.size=size)→(k+vs.length)*size≤cells.size →
  ∃ r,Instr.fill (fun i=>some (i*size,size)) cells ((List.range' k vs.length).zip vs)=some r∧r.toList=cells.toList.take (k*size)++(vs.map (·.cells.toList)).flatten++cells.toList.drop ((k+vs.length)*size):=by
 intro vs
 induction vs with
 | nil=>intro k cells _ _; exact ⟨cells,by simp [Instr.fill],by simp⟩
 | cons v vs ih =>
  intro k cells B E
  have h1:=B v (by simp)
  have h:(k+1+vs.length)*size≤cells.size:=by simpa [Nat.add_assoc,Nat.add_comm 1] using E
  have hk:k*size+size≤cells.size:=by
   have:(k+1)*size≤(k+1+vs.length)*size:=Nat.mul_le_mul_right _ (by omega)
   rw [Nat.succ_mul] at this
   omega
  have b:∀ (l:List Value) (j:Nat) (cs:Array Value),k*size+j+l.length≤cs.size →
    ((l.zipIdx j).foldl (fun cs (c,j)=>cs.setIfInBounds (k*size+j) c) cs).toList=cs.toList.take (k*size+j)++l++cs.toList.drop (k*size+j+l.length):=by
   intro l
   induction l with
   | nil=>intro j cs _; simp
   | cons u l ihl =>
    intro j cs q
    simp only [List.zipIdx_cons,List.foldl_cons]
    rw [ihl (j+1) _ (by simp at *; omega)]
    simp only [List.length_cons] at q
    rw [Array.toList_setIfInBounds,show k*size+(j+1)=(k*size+j)+1 by omega,List.take_succ_eq_append_getElem (by simp; omega),List.take_set_of_le (Nat.le_refl _),List.drop_set_of_lt (by omega)]
    simp [Nat.add_assoc,Nat.add_comm,Nat.add_left_comm]
  have s:((v.cells.toList.zipIdx 0).foldl (fun cs (c,j)=>cs.setIfInBounds (k*size+j) c) cells).size=cells.size:=by
   generalize v.cells.toList.zipIdx 0=l
   clear h1 ih E h hk b B
   induction l generalizing cells with
   | nil=>rfl
   | cons u l ihl=>simp only [List.foldl_cons]; rw [ihl]; simp
  obtain ⟨r,J,e⟩:=ih (k+1) ((v.cells.toList.zipIdx 0).foldl (fun cs (c,j)=>cs.setIfInBounds (k*size+j) c) cells) (fun u L=>B u (by simp [L])) (by rw [s]; exact h)
  refine ⟨r,?_,?_⟩
  ·simp only [List.length_cons,List.range'_succ,List.zip_cons_cons,Instr.fill]
   have I:¬ (v.cells.size≠size∨k*size+v.cells.size>cells.size):=by rw [h1]; omega
   rw [if_neg (by simpa using I)]
   have M:v.cells.zipIdx.foldl (fun cs (c,j)=>cs.setIfInBounds (k*size+j) c) cells=(v.cells.toList.zipIdx 0).foldl (fun cs (c,j)=>cs.setIfInBounds (k*size+j) c) cells:=by
    rw [← Array.foldl_toList]
    congr 1
    simp
   rw [M]
   exact J
  ·rw [e,b v.cells.toList 0 cells (by simp [h1]; omega)]
   have D:(k+1)*size=k*size+v.cells.toList.length:=by rw [Nat.succ_mul]; simp [h1]
   have F:(k+1+vs.length)*size=k*size+v.cells.toList.length+vs.length*size:=by rw [Nat.add_mul,D]
   have G:(k+(vs.length+1))*size=(k+1+vs.length)*size:=by congr 1; omega
   have a:(cells.toList.take (k*size)).length=k*size:=by simp; omega
   simp only [List.length_cons,Nat.add_zero,List.map_cons,List.flatten_cons]
   rw [G,F,D]
   rw [List.take_append_of_le_length (by simp [a]),List.take_of_length_le (by simp [a])]
   rw [List.drop_append,List.drop_of_length_le (by simp [a]),List.nil_append,List.drop_drop]
   simp only [List.append_assoc,List.length_append,a]
   congr 4
   omega
theorem tD {K:Kind α}{t e:TypeId}{m:Nat}{parts:Array (Nat×Operand)}{xs:List α}{vs:List Value}{z:List Value}(k:Nat)(hd:j3 X.n d=true)(hw:eF ops σ ⟨d,.buildSlice t m parts,ty,pos,af,gd⟩=true)
  (ht:mz X.P t=some e) (hs:iK X.P e=some K.sz) (hz:kW X.P e=some z) (a1:z.length=K.sz) (T:Nat.blt 0 K.sz=true) (hp:parts.toList.map (fun p=>(p.1,ev σ p.2))=(List.range' 0 m).zip vs) (O:vs.length=m) (hv:vs.all (fun v=>Nat.beq v.cells.size K.sz)=true) (F:Nat.ble (m*K.sz) 16777216=true)
  (hx:∀ I h,fH (tk k V) I h→gU K I h xs (vs.map (·.cells.toList)).flatten) (B:xs.length=m)
  (h:∀ g c,TL X ops (ow K e (.slice (some ⟨g,0,none⟩) xs.length c) xs::dp k V) (gJ σ d (.slice (some ⟨g,0,none⟩) xs.length c)) rest Q):TL X ops V σ (⟨d,.buildSlice t m parts,ty,pos,af,gd⟩::rest) Q:=by
 intro w s
 refine fE hd hw ?_
 have hu:=js ht
 have U:∀ v∈vs,v.cells.size=K.sz:=fun v Y=>Nat.eq_of_beq_eq_true (List.all_eq_true.1 hv v Y)
 have F:=Nat.le_of_ble_eq_true F
 obtain ⟨zv,Z,a0⟩:=lg (P:=X.P) (w:=w) hz
 have a2:zv.cells.size=K.sz:=by rw [a0]; simpa using a1
 obtain ⟨r,J,e'⟩:=tC (size:=K.sz) vs 0 ((Array.range (m*K.sz)).map ((if m*K.sz=0 then #[] else zv.cells)[· % (if m*K.sz=0 then #[] else zv.cells).size]!)) U (by simp [O])
 have er:r=((vs.map (·.cells.toList)).flatten).toArray:=by
  apply Array.ext'
  rw [e',O]
  simp
 have L:(execOp (ev σ) ⟨d,.buildSlice t m parts,ty,pos,af,gd⟩).run X.P w=.ok (.value (.slice (some ⟨w.heap.size,0,none⟩) m m)) (w.alloc (.cells ((vs.map (·.cells.toList)).flatten).toArray e)):=by
  have G:(parts.map fun (i,x)=>(i,ev σ x)).toList=(List.range' 0 m).zip vs:=by
   rw [← hp]; simp
  rw [O] at J
  simp only [execOp,Instr.buildSlice,Sem.run_bind,run_underlying hu,Result.andThen_ok,fA hs]
  rw [if_neg (by omega)]
  by_cases h0:m*K.sz=0
  ·rw [if_pos h0] at J ⊢
   simp only [Sem.run_bind,Sem.run_pure,Result.andThen_ok,G,J,er]
   simp [newRow,Sem.run_bind]
  ·rw [if_neg h0] at J ⊢
   simp only [Sem.run_bind,Sem.run_pure,Result.andThen_ok,Z,G,J,er]
   simp [newRow,Sem.run_bind]
 rw [L]
 have h':=h w.heap.size m
 rw [B] at h'
 refine h' _ ?_
 rw [← n8 k V] at s
 obtain ⟨sm,I,hh,g,j,l,st⟩:=s
 obtain ⟨h1,h2,D,sa,sb⟩:=cY.1 st
 have lh:Le h1 w:=l.mono (Hp.le_trans D.left j.right)
 have q:∀ b o,g b=some o→b≠w.heap.size:=fun b o e=>by
  have:=l.lt (b:=b) (by rw [e]; exact fun h=>by cases h)
  omega
 obtain ⟨E,M⟩:=Join.of_disj (h1:=Hp.one w.heap.size (.cells ((vs.map (·.cells.toList)).flatten).toArray e (0,0))) (h2:=h1) (fun b=>by
  by_cases hb:b=w.heap.size
  ·refine .inr ?_
   cases hq:h1 b with
   | none=>rfl
   | some o=>exact absurd hb (q b o (j.right b o (D.left b o hq)))
  ·exact .inl (by simp [Hp.one,hb]))
 obtain ⟨k1,jk⟩:=Join.of_disj (h1:=E) (h2:=h2) (fun b=>by
  by_cases hb:b=w.heap.size
  ·refine .inr ?_
   cases hq:h2 b with
   | none=>rfl
   | some o=>exact absurd hb (q b o (j.right b o (D.right b o hq)))
  ·rcases D.disj b with f | f
   ·exact .inl ((M.is_none b).2 ⟨by simp [Hp.one,hb],f⟩)
   ·exact .inr f)
 obtain ⟨g',jg⟩:=Join.of_disj (h1:=I) (h2:=k1) (fun b=>by
  by_cases hb:b=w.heap.size
  ·refine .inl ?_
   cases hq:I b with
   | none=>rfl
   | some o=>exact absurd hb (q b o (j.left b o hq))
  ·rcases j.disj b with f | f
   ·exact .inl f
   ·have:=(D.is_none b).1 f
    exact .inr ((jk.is_none b).2 ⟨(M.is_none b).2 ⟨by simp [Hp.one,hb],this.1⟩,this.2⟩))
 have u:∀ b o,g b=some o→(w.alloc (.cells ((vs.map (·.cells.toList)).flatten).toArray e)).heap[b]?=some o:=fun b o e=>l.alloc _ b o e
 refine ⟨sm.alloc _,I,k1,g',jg,?_,E,h2,jk,?_,sb⟩
 ·intro b o a
  rcases jg.cases a with ⟨a,_⟩|⟨a,_⟩
  ·exact u b o (j.left b o a)
  ·rcases jk.cases a with ⟨a,_⟩|⟨a,_⟩
   ·rcases M.cases a with ⟨a,_⟩|⟨a,_⟩
    ·exact Le.one_new (w:=w) (by show (w.heap.push _)[w.heap.size]?=_; simp) b o a
    ·exact u b o (j.right b o (D.left b o a))
   ·exact u b o (j.right b o (D.right b o a))
 ·refine .inr ⟨w.heap.size,m,[],(vs.map (·.cells.toList)).flatten,[],(0,0),h1,by simp [B],by omega,?_,by simp [B],.inl rfl,by simpa using M,hx I h1 sa⟩
  have:m*1≤m*K.sz:=Nat.mul_le_mul_left _ (Nat.le_of_ble_eq_true T)
  simp only [maxLen]
  omega
theorem bO {K:Kind α}{t e:TypeId}{m:Nat}{parts:Array (Nat×Operand)}{xs:List α}{vs:List Value}{z:List Value}(k:Nat)(q:j3 X.n d=true)(hw:eF ops σ ⟨d,.buildSlice t m parts,ty,pos,af,gd⟩=true)
  (B:mz X.P t=some e) (u:iK X.P e=some K.sz) (F:kW X.P e=some z) (l:z.length=K.sz) (i:Nat.blt 0 K.sz=true) (s:parts.toList.map (fun p=>(p.1,ev σ p.2))=(List.range' 0 m).zip vs) (r:vs.length=m) (D:vs.all (fun v=>Nat.beq v.cells.size K.sz)=true) (b:Nat.ble (m*K.sz) 16777216=true)
  (E:∀ I h,fH (tk k V) I h→gU K I h xs (vs.map (·.cells.toList)).flatten) (j:xs.length=m)
  (h:∀ a c,TL X ops (ow K e (.slice a xs.length c) xs::dp k V) (gJ σ d (.slice a xs.length c)) rest Q):TL X ops V σ (⟨d,.buildSlice t m parts,ty,pos,af,gd⟩::rest) Q :=
 tD k q hw B u F l i s r D b E j (fun g c=>h (some ⟨g,0,none⟩) c)
end
end Go.Pg
namespace Go.Pg
section
variable {X:Cx}{V:List HP}{σ:dQ}{Q:Exit→dQ→World→Prop}{ops:Array Oper}{rest:List Oper}
variable {d:Option Nat}{ty:TypeId}{pos:String}{af:Array Edge}{gd:Option (Nat×Bool)}
variable {α β:Type}
def mo (σ:dQ)(o:Option Operand)(a l:Int):Prop:=match o with
 | some x=>ev σ x=.int .i64 l
 | none=>l=a
theorem n9 {P:Program}{w:World}{l:Int}{y:Nat}{a:BoundsCode}(b:0≤l)(h1:l≤y):(Instr.sliceBound (.int .i64 l) y a).run P w=.ok l.toNat w:=by
 simp [Instr.sliceBound,asIntOf,b,h1]
theorem mq {P:Program}{w:World}{is:Bool}{n c:Nat}{lo j:Option Operand}{l h:Int}(a:mo σ lo 0 l)(e:mo σ j n h)(u:0≤l)(h1:l≤h)(h2:h≤n)(B:n≤c) :
  (Instr.sliceBounds is n c (lo.map (ev σ)) (j.map (ev σ)) none).run P w=.ok (l.toNat,h.toNat,c) w:=by
 have s:∀ y:Nat,l≤y→(Instr.sliceBound (.int .i64 l) y .sliceB).run P w=.ok l.toNat w:=fun y i=>n9 u i
 cases j with
 | none =>
  have:h=n:=e
  subst this
  cases lo with
  | none =>
   have:l=0:=a
   subst this
   simp [Instr.sliceBounds]
  | some x =>
   have q:ev σ x=.int .i64 l:=a
   simp [Instr.sliceBounds,q,s n h1]
 | some y =>
  have i:ev σ y=.int .i64 h:=e
  have r:∀ b,(Instr.sliceBound (.int .i64 h) c b).run P w=.ok h.toNat w:=fun b=>n9 (by omega) (by omega)
  cases lo with
  | none =>
   have:l=0:=a
   subst this
   simp [Instr.sliceBounds,i,r]
  | some x =>
   have q:ev σ x=.int .i64 l:=a
   simp [Instr.sliceBounds,q,i,r,s h.toNat (by omega)]
theorem pq (s:aN):(⟨s.toArray⟩:ByteArray).size=s.length:=by show s.toArray.size=_; simp
def tF (a:Option Addr)(c l sz:Nat):Option Addr:=if c=l then a else a.map (·.add (l*sz))
theorem sA {P:Program}{w:World}{t e:TypeId}{x:Operand}{a:Option Addr}{n c sz:Nat}{lo j:Option Operand}{l h:Int}(B:mz P t=some e)(u:iK P e=some sz)(E:ev σ x=.slice a n c)
  (i:mo σ lo 0 l) (b:mo σ j n h) (q:0≤l) (h1:l≤h) (h2:h≤n) (s:n≤c) :
  (execOp (ev σ) ⟨d,.slice t x lo j none,ty,pos,af,gd⟩).run P w=.ok (.value (.slice (tF a c l.toNat sz) (h.toNat - l.toNat) (c - l.toNat))) w:=by
 have D:=js B
 have r:=mq (P:=P) (w:=w) (is:=true) i b q h1 h2 s
 simp only [execOp,Instr.sliceAt,E,Sem.run_bind,run_underlying D,Result.andThen_ok,Instr.slice,Option.map_none,r,fA u,Sem.run_pure,tF]
theorem rE {xs:List α}{l h:Int}(a:0≤l)(h1:l≤h)(h2:h≤xs.length):(sub xs l h).length=h.toNat - l.toNat:=by
 simp [sub]; omega
theorem vF {xs:List α}{l h:Int}(b:0≤l)(h1:l≤h)(h2:h≤xs.length){j:Nat}{x:α}(a:(sub xs l h)[j]?=some x):xs[l.toNat+j]?=some x:=by
 simp only [sub,List.getElem?_drop,List.getElem?_take] at a
 split at a
 ·exact a
 ·cases a
theorem vG {K:Kind α}{I:Hp}{a:Option Addr}{n c:Nat}{xs:List α}{l h:Int}(r:rB K I (.slice a n c) xs)(s:0≤l)(h1:l≤h)(h2:h≤n):rB K I (.slice (tF a c l.toNat K.sz) (h.toNat - l.toNat) (c - l.toNat)) (sub xs l h):=by
 obtain ⟨A,J,F,M,L,B⟩:=r
 injection F with e1 e2 e3
 subst e1; subst e3; subst e2
 have e:=rE s h1 h2
 refine ⟨_,_,by rw [e],by rw [e]; omega,by rw [e]; omega,fun D=>?_⟩
 rw [e] at D
 obtain ⟨g,o,rfl,b⟩:=B (by omega)
 refine ⟨g,o+l.toNat*K.sz,?_,fun j x G=>?_⟩
 ·unfold tF
  rw [if_neg (by omega)]
  simp [gH]
 ·obtain ⟨cs,p,q⟩:=b _ x (vF s h1 h2 G)
  refine ⟨cs,p,fun i u E=>?_⟩
  have:=q i u E
  rw [Nat.add_mul] at this
  rw [show o+l.toNat*K.sz+j*K.sz+i=o+(l.toNat*K.sz+j*K.sz)+i by omega]
  exact this
theorem gP {K:Kind α}{t e:TypeId}{x:Operand}{a:Option Addr}{n c:Nat}{lo D:Option Operand}{xs:List α}(l h:Int)(i:Nat)(M:j3 X.n d=true)(hw:eF ops σ ⟨d,.slice t x lo D none,ty,pos,af,gd⟩=true)
  (T:mz X.P t=some e) (O:iK X.P e=some K.sz) (L:lk V i=aO K (.slice a n c) xs) (U:ev σ x=.slice a n c) (E:mo σ lo 0 l) (B:mo σ D n h) (q:0≤l) (h1:l≤h) (h2:h≤n)
  (k:∀ J b,TL X ops (aO K (.slice J (sub xs l h).length b) (sub xs l h)::V) (gJ σ d (.slice J (sub xs l h).length b)) rest Q):TL X ops V σ (⟨d,.slice t x lo D none,ty,pos,af,gd⟩::rest) Q:=by
 rintro w ⟨Y,I,u,g,j,lw,s⟩
 obtain ⟨g1,Z,j',p,s'⟩:=fJ i s
 rw [L] at p
 have hn:n=xs.length:=by obtain ⟨_,A,b,G,_⟩:=p; injection G
 have F:n≤c:=by
  obtain ⟨_,A,b,G,hq,_⟩:=p
  injection G with _ _ e3
  omega
 refine fE M hw ?_
 rw [sA T O U E B q h1 h2 F]
 have r:=vG p.2 q h1 h2
 have:=k (tF a c l.toNat K.sz) (c - l.toNat)
 rw [rE q h1 (by omega)] at this
 exact this w ⟨Y,I,u,g,j,lw,Hp.none,u,Join.none u,⟨rfl,r⟩,s⟩
theorem eC {t:TypeId}{x:Operand}{s:aN}(a:X.P.underlying t=some .string)
  (b:ev σ x=aG s):VO X V σ ⟨d,.call ⟨.builtin .len,#[x],#[t]⟩,ty,pos,af,gd⟩ (.int .i64 s.length):=by
 intro w _
 simp [execOp,resolve,invoke,builtin,b,aG,Builtin.len_,run_underlying a,goInt,pq]
theorem dB {t:TypeId}{x y:Operand}{s:aN}{k:IntKind}{j:Int}(h:X.P.underlying t=some .string)
  (i:ev σ x=aG s) (l:ev σ y=.int k j) (b:0≤j) (h1:j<s.length):VO X V σ ⟨d,.index t x y,ty,pos,af,gd⟩ (.int .u8 (bt s j)):=by
 intro w _
 have a:j.toNat<s.length:=by omega
 have e:(⟨s.toArray⟩:ByteArray)[j.toNat]?=some (ix s j):=by
  rw [ByteArray.getElem?_lt' _ _ (by rw [pq]; exact a)]
  congr 1
  show s.toArray[j.toNat]=_
  simp [ix,List.getD_eq_getElem?_getD,a]
 simp [execOp,i,l,aG,Instr.index,asIntOf,run_underlying h,b,e,bt]
theorem iL {t:TypeId}{x:Operand}{s:aN}{lo i:Option Operand}(l h:Int)
  (r:X.P.underlying t=some .string) (u:ev σ x=aG s) (b:mo σ lo 0 l) (a:mo σ i s.length h) (j:0≤l) (h1:l≤h) (h2:h≤s.length):VO X V σ ⟨d,.slice t x lo i none,ty,pos,af,gd⟩ (aG (sub s l h)):=by
 intro w _
 have q:=mq (P:=X.P) (w:=w) (is:=false) (n:=s.length) (c:=s.length) b a j h1 h2 (Nat.le_refl _)
 have e:=pq s
 simp only [execOp,Instr.sliceAt,u,Sem.run_bind,run_underlying r,Result.andThen_ok,Instr.slice,Option.map_none,aG,e,q,Sem.run_pure,Option.isSome_none,Bool.false_eq_true,if_false]
 rw [ByteArray.extract_mk]
 congr 3
 simp [sub,List.drop_take]
theorem om {t:TypeId}{x y:Operand}{i:TypeId}{s u:aN}
  (b:ev σ x=aG s) (e:ev σ y=aG u) (a:s.length+u.length≤9223372036854775807):VO X V σ ⟨d,.binOp .add t x y i,ty,pos,af,gd⟩ (aG (s++u)):=by
 intro w _
 have h:=run_string_add_sum (P:=X.P) (w:=w) (⟨s.toArray⟩:ByteArray) ⟨u.toArray⟩ (by rw [pq,pq]; exact a)
 simp only [execOp,b,e,aG,eqGuard_add,binOp_string_add,Sem.run_bind,Sem.run_pure,Result.andThen_ok,h]
 rw [ByteArray.mk_append_mk]
def A1:BinOp→aN→aN→Option Bool
 | .eql,a,b=>some (a==b)
 | .neq,a,b=>some (!(a==b))
 | .lss,a,b=>some (Op.bytesLess a b)
 | .leq,a,b=>some (Op.bytesLess a b||a==b)
 | .gtr,a,b=>some (!(Op.bytesLess a b||a==b))
 | .geq,a,b=>some (!Op.bytesLess a b)
 | _,_,_=>none
theorem jU {op:BinOp}{t:TypeId}{x y:Operand}{i:TypeId}{s u:aN}{b:Bool}
  (e:ev σ x=aG s) (h:ev σ y=aG u) (a:A1 op s u=some b):VO X V σ ⟨d,.binOp op t x y i,ty,pos,af,gd⟩ (.bool b):=by
 intro w _
 cases op<;>simp only [A1,reduceCtorEq,Option.some.injEq] at a<;>subst a <;>
  simp [execOp,e,h,aG,eqGuard_at_string,binOp,Op.stringOp]
theorem qo {s' t:TypeId}{x:Operand}{k a:IntKind}{n:Int}{ds:TypeDesc}(h1:X.P.underlying s'=some ds)(h2:X.P.underlying t=some (.int a))
  (b:ev σ x=.int k n):VO X V σ ⟨d,.convert s' t x,ty,pos,af,gd⟩ (.int a (a.wrap n)):=by
 intro w _
 simp [execOp,b,convert,run_underlying h1,run_underlying h2,Conv.intToInt]
theorem na {t j:TypeId}{x y:Operand}{k:IntKind}{a b:Int}(h:ev σ x=.int k a)(i:ev σ y=.int k b)(e:b≠0):VO X V σ ⟨d,.binOp .quo t x y j,ty,pos,af,gd⟩ (.int k (k.wrap (a.tdiv b))):=by
 intro w _
 simp [execOp,h,i,eqGuard_at_int,binOp,Op.intDiv,e]
theorem rF {t j:TypeId}{x y:Operand}{k:IntKind}{a b:Int}(h:ev σ x=.int k a)(i:ev σ y=.int k b)(e:b≠0):VO X V σ ⟨d,.binOp .rem t x y j,ty,pos,af,gd⟩ (.int k (a.tmod b)):=by
 intro w _
 simp [execOp,h,i,eqGuard_at_int,binOp,Op.intDiv,e]
theorem xa {t q:TypeId}{x y:Operand}{k h:IntKind}{a b:Int}(j:ev σ x=.int k a)(l:ev σ y=.int h b)(i:0≤b)(e:b≤k.bits):VO X V σ ⟨d,.binOp .shl t x y q,ty,pos,af,gd⟩ (.int k (k.wrap (a*2 ^ b.toNat))):=by
 intro w _
 simp [execOp,j,l,eqGuard_at_int,binOp_shl,shift_shl k h a b i e]
theorem xb {t q:TypeId}{x y:Operand}{k h:IntKind}{a b:Int}(j:ev σ x=.int k a)(l:ev σ y=.int h b)(i:0≤b)(e:b≤k.bits):VO X V σ ⟨d,.binOp .shr t x y q,ty,pos,af,gd⟩ (.int k (a / 2 ^ b.toNat)):=by
 intro w _
 simp [execOp,j,l,eqGuard_at_int,binOp_shr,shift_shr k h a b i e]
theorem xc {x y:Operand}{j:Array TypeId}{k i:IntKind}{a b:Int}(e:ev σ x=.int k a)(h:ev σ y=.int i b):VO X V σ ⟨d,.call ⟨.builtin .max,#[x,y],j⟩,ty,pos,af,gd⟩ (.int k (if b>a then b else a)):=by
 intro w _
 simp [execOp,resolve,invoke,builtin,e,h,run_max_int2]
theorem xd {x y:Operand}{j:Array TypeId}{k i:IntKind}{a b:Int}(e:ev σ x=.int k a)(h:ev σ y=.int i b):VO X V σ ⟨d,.call ⟨.builtin .min,#[x,y],j⟩,ty,pos,af,gd⟩ (.int k (if b<a then b else a)):=by
 intro w _
 simp [execOp,resolve,invoke,builtin,e,h,run_min_int2]
end
end Go.Pg
namespace Go.Pg
def FnOk {A:Type}(P:Program)(f:FuncId)(args:List Value)(b:List HP)(a:A→Value×List HP):Prop :=
 ∀ C w V,St C w (b++V)→Calls P f args.toArray w (fun e h=>∃ x,e=.returned (a x).1∧St C h ((a x).2++V))
def aW (P:Program)(f:FuncId):Bool:=match P.funcs[f]? with
 | some fn=>!(fn.name == "runtime.NumGoroutine")&&fn.body.isSome
 | none=>false
theorem jV {P:Program}{f:FuncId}{w:World}{args:Array Value}(h:aW P f=true):(callFunc f args).run P w=.ok (.enter f args) w:=by
 unfold aW at h
 cases hf:P.funcs[f]? with
 | none=>rw [hf] at h; cases h
 | some fn =>
  rw [hf] at h
  simp only [Bool.and_eq_true,Bool.not_eq_true'] at h
  cases hb:fn.body with
  | none=>rw [hb] at h; cases h.2
  | some c =>
   have h1:=h.1
   simp at h1
   simp [callFunc,hf,h1,hb]
section
variable {X:Cx}{V:List HP}{σ:dQ}{Q:Exit→dQ→World→Prop}{ops:Array Oper}{rest:List Oper}{o:Oper}
variable {d:Option Nat}{ty:TypeId}{pos:String}{af:Array Edge}{gd:Option (Nat×Bool)}
variable {α β:Type}
theorem mI (xs:Array Operand)(f:Operand→Value){as:List Value}(h:xs.toList.map f=as):xs.map f=as.toArray:=by
 apply Array.ext'
 simpa using h
theorem xW {A:Type}{f:FuncId}{xs:Array Operand}{b:Array TypeId}{as:List Value}{h V':List HP}{a:A→Value×List HP}(q:j3 X.n d=true)(hw:eF ops σ ⟨d,.call ⟨.value (.func f),xs,b⟩,ty,pos,af,gd⟩=true)
  (r:aW X.P f=true) (j:xs.toList.map (ev σ)=as) (l:FnOk X.P f as h a) (i:V=h++V') (k:∀ x,TL X ops ((a x).2++V') (gJ σ d (a x).1) rest Q):TL X ops V σ (⟨d,.call ⟨.value (.func f),xs,b⟩,ty,pos,af,gd⟩::rest) Q:=by
 intro w s
 refine fE q hw ?_
 have u:(execOp (ev σ) ⟨d,.call ⟨.value (.func f),xs,b⟩,ty,pos,af,gd⟩).run X.P w=.ok (.enter f as.toArray) w:=by
  show (callFunc f (#[]++xs.map (ev σ)++#[])).run X.P w=_
  rw [mI xs _ j,jV r]
  simp
 rw [u]
 subst i
 refine Calls.mono' (l X.C w V' s) ?_
 rintro e B ⟨x,rfl,s'⟩
 exact k x B s'
theorem vH {A:Type}{f:FuncId}{i:Operand}{fs cs:List Value}{xs:Array Operand}{b:Array TypeId}{as:List Value}{h V':List HP}{a:A→Value×List HP}(r:j3 X.n d=true)(hw:eF ops σ ⟨d,.call ⟨.value i,xs,b⟩,ty,pos,af,gd⟩=true)
  (u:aW X.P f=true) (D:ev σ i=.func (.func f) fs.toArray cs.toArray) (l:fs++xs.toList.map (ev σ)++cs=as) (q:FnOk X.P f as h a) (j:V=h++V') (k:∀ x,TL X ops ((a x).2++V') (gJ σ d (a x).1) rest Q):TL X ops V σ (⟨d,.call ⟨.value i,xs,b⟩,ty,pos,af,gd⟩::rest) Q:=by
 intro w s
 refine fE r hw ?_
 have B:(execOp (ev σ) ⟨d,.call ⟨.value i,xs,b⟩,ty,pos,af,gd⟩).run X.P w=.ok (.enter f as.toArray) w:=by
  have:(callFunc f (fs.toArray++xs.map (ev σ)++cs.toArray)).run X.P w=.ok (.enter f as.toArray) w:=by
   rw [jV u,mI xs _ rfl,← l]
   simp
  simp only [execOp,resolve,D,Deferred.ofValue,Sem.run_bind,Sem.run_pure,Result.andThen_ok,invoke,this]
 rw [B]
 subst j
 refine Calls.mono' (q X.C w V' s) ?_
 rintro e E ⟨x,rfl,s'⟩
 exact k x E s'
def HP.Closed (p:HP):Prop:=∀ I J h,p.p I h→p.p J h
theorem sB {b:Nat}{cs:List Value}{T:Nat}:(aK b cs T).Closed:=fun _ _ _ h=>h
theorem bN {K:Kind α}{e:Nat}{v:Value}{xs:List α}(h:K.Closed):(ow K e v xs).Closed:=fun _ _ _ o=>qm h o
theorem pu {A:List HP}(h:∀ p∈A,p.Closed){I J g:Hp}(s:fH A I g):fH A J g:=by
 induction A generalizing g with
 | nil=>exact s
 | cons p A ih =>
  obtain ⟨h1,h2,j,a,b⟩:=s
  exact ⟨h1,h2,j,h p (by simp) _ _ _ a,ih (fun q e=>h q (by simp [e])) b⟩
def AllC:List HP→Prop
 | []=>True
 | p::A=>p.Closed∧AllC A
theorem Cm {A:List HP}(h:AllC A):∀ p∈A,p.Closed:=by
 induction A with
 | nil=>intro p a; cases a
 | cons q A ih =>
  intro p a
  rcases List.mem_cons.1 a with rfl | a
  ·exact h.1
  ·exact ih h.2 p a
def Cn (a:Hp)(p:HP):HP:=⟨fun I h=>Hp.le a I∧p.p a h,fun l h=>⟨Hp.le_trans h.1 l,h.2⟩⟩
theorem vJ {e I:Hp}(l:Hp.le e I){V:List HP}{h:Hp}(s:fH V e h):fH (V.map (Cn e)) I h:=by
 induction V generalizing h with
 | nil=>exact s
 | cons p V ih =>
  obtain ⟨h1,h2,j,a,b⟩:=s
  exact ⟨h1,h2,j,⟨l,a⟩,ih b⟩
theorem vK {e I:Hp}{V:List HP}{h:Hp}(s:fH (V.map (Cn e)) I h):fH V e h:=by
 induction V generalizing h with
 | nil=>exact s
 | cons p V ih =>
  obtain ⟨h1,h2,j,a,b⟩:=s
  exact ⟨h1,h2,j,a.2,ih b⟩
def DU (g:Hp):HP:=⟨fun I h=>h=Hp.none∧Hp.le g I,fun l h=>⟨h.1,Hp.le_trans h.2 l⟩⟩
theorem FnOk.perm {A:Type}{P:Program}{f:FuncId}{args:List Value}{b Pre':List HP}{a:A→Value×List HP}(e:FnOk P f args b a)(h:∀ C w V,St C w (Pre'++V)→St C w (b++V)):FnOk P f args Pre' a:=fun C w V s=>e C w V (h C w V s)
theorem FnOk.post {A B:Type}{P:Program}{f:FuncId}{args:List Value}{i:List HP}{b:A→Value×List HP}{a:B→Value×List HP}(j:FnOk P f args i b)(g:A→B)(h1:∀ x,(b x).1=(a (g x)).1)(h:∀ x C w V,St C w ((b x).2++V)→St C w ((a (g x)).2++V)):FnOk P f args i a:=by
 intro C w V s
 refine Calls.mono' (j C w V s) ?_
 rintro e l ⟨x,rfl,s'⟩
 exact ⟨g x,by rw [h1],h x C l V s'⟩
def qp:List Value→Value
 | [v]=>v
 | vs=>.tuple vs.toArray
def tG (P:Program)(V:List HP)(σ:dQ):List ResultVar→List Value→Prop
 | [],[]=>True
 | .tmp t::rs,v::vs=>σ t=v∧tG P V σ rs vs
 | .cell a T::rs,v::vs=>(∃ i b cs e,lk V i=aK b cs e∧σ a=.pointer (some ⟨b,0,none⟩)∧((fO P T=some true∧iK P T=some cs.length∧v=.agg cs.toArray)∨(fO P T=some false∧cs=[v])))∧tG P V σ rs vs
 | _,_=>False
theorem nb {P:Program}{C w:World}{V:List HP}{σ:dQ}(s:St C w V):∀ (rs:List ResultVar) (vs:List Value),tG P V σ rs vs →
  (rs.mapM (fun | .tmp t=>pure (σ t) | .cell a t=>do loadVar t (← asAddr (σ a)):ResultVar→Sem Value)).run P w=.ok vs w
 | [],[],_=>rfl
 | .tmp t::rs,v::vs,⟨h1,h2⟩=>by
  have:=nb s rs vs h2
  simp [List.mapM_cons,this,h1]
 | .cell a T::rs,v::vs,⟨⟨i,b,cs,T0,hV,ha,hv⟩,h2⟩=>by
  have:=nb s rs vs h2
  have l:=li s i hV
  have B:(loadVar T ⟨b,0,none⟩).run P w=.ok v w:=by
   rcases hv with ⟨e,q,rfl⟩|⟨e,rfl⟩
   ·exact fR e q (fun j u D=>by rw [gH,lj l,Nat.zero_add]; exact D)
   ·exact fD e (by rw [lj l]; rfl)
  have r:(asAddr (σ a)).run P w=.ok ⟨b,0,none⟩ w:=by rw [ha]; rfl
  simp [List.mapM_cons,this,r,B]
 | [],_::_,h=>h.elim
 | .tmp _::_,[],h=>h.elim
 | .cell _ _::_,[],h=>h.elim
theorem mr {P:Program}{C w:World}{V:List HP}{σ:dQ}{fn:Func}{rs:List ResultVar}{vs:List Value}(s:St C w V)(a:fn.results=rs.toArray)(h:tG P V σ rs vs):(iI fn σ).run P w=.ok (qp vs) w:=by
 have:=nb s rs vs h
 unfold iI
 rw [a,List.mapM_toArray]
 simp only [Sem.run_bind,Sem.run_map]
 refine (congrArg (fun r=>Result.andThen (Result.andThen r _) _) this).trans ?_
 match vs with
 | []=>rfl
 | [v]=>rfl
 | v::u::l=>simp [qp]
def sC (X:Cx){A:Type}(V:List HP)(a:A→Value×List HP):Value→World→Prop:=fun v w=>∃ x,v=(a x).1∧St X.C w ((a x).2++V)
theorem dL {A:Type}{V0:List HP}{a:A→Value×List HP}{fn:Func}{rs:List ResultVar}{vs:List Value}{e:Exit}(l:e=.ret∨e=.normal)(x:A)(b:fn.results=rs.toArray)(i:tG X.P V σ rs vs)(j:(a x).1=qp vs)(h:∀ w,St X.C w V→St X.C w ((a x).2++V0)) :
  TQ X V σ e (m' X.P fn (sC X V0 a)):=by
 intro w s
 rcases l with rfl | rfl
 ·exact ⟨_,mr s b i,x,j.symm,h w s⟩
 ·exact ⟨_,mr s b i,x,j.symm,h w s⟩
theorem aR {A:Type}{P:Program}{f:FuncId}{fn:Func}{c:Code}{args:List Value}{b:List HP}{a:A→Value×List HP}(l:P.funcs[f]?=some fn)(j:fn.body=some c)(n:Nat)(i:fn.ntmps=n)(q:Nat.ble args.length n=true)
  (h:∀ C V,TC ⟨P,.of n,C⟩ (b++V) (tt args.toArray) c (m' P fn (sC ⟨P,.of n,C⟩ V a))):FnOk P f args b a:=by
 subst i
 intro C w V s
 refine Calls.mono' (qk l j (by have:=Nat.le_of_ble_eq_true q; simpa using this) (h C V w s)) ?_
 rintro e r ⟨v,rfl,x,rfl,s'⟩
 exact ⟨x,rfl,s'⟩
theorem m6 {a:Act}{o:Oper}{n:Nn}{σ:dQ}(b:j3 n o.dst=true)(h1:a.tmps.size=n.n)(h2:a.defers=n.ds)(h:fM a=σ)(v:Value):(a.put o.dst v).tmps.size=n.n∧(a.put o.dst v).defers=n.ds∧fM (a.put o.dst v)=gJ σ o.dst v:=by
 refine ⟨?_,?_,?_⟩
 ·cases hdd:o.dst with
  | none=>exact h1
  | some d=>show (a.tmps.setIfInBounds d v).size=n.n; rw [Array.size_setIfInBounds,h1]
 ·cases hdd:o.dst with
  | none=>exact h2
  | some d=>exact h2
 ·rw [kA,h]
  intro d e
  rw [e] at b
  rw [h1]
  exact Nat.lt_of_lt_of_le (Nat.lt_succ_self _) (Nat.le_of_ble_eq_true b)
theorem tH {a:Nat}{op:Op}(v:Value)(e:VO X V σ ⟨some a,op,ty,pos,af,gd⟩ v)(hw:eF ops σ ⟨some a,op,ty,pos,af,gd⟩=true)(b:j3 X.n (some a)=true)(h:TL X ops V (kT σ a v) rest Q):TL X ops V σ (⟨some a,op,ty,pos,af,gd⟩::rest) Q :=
 Cl b hw e h
theorem cF {b:Bool}{x y:Option α}{r:α}(h:(if b=true then x else y)=some r):(b=true∧x=some r)∨(b=false∧y=some r):=by
 cases b
 ·exact .inr ⟨rfl,by simpa using h⟩
 ·exact .inl ⟨rfl,by simpa using h⟩
def m7 (σ:dQ):List (Nat×Value)→Prop
 | []=>True
 | (t,v)::l=>σ t=v∧m7 σ l
theorem m8 {σ:dQ}{l:List (Nat×Value)}(h:m7 σ l):qi σ l=σ:=by
 induction l with
 | nil=>rfl
 | cons p l ih =>
  obtain ⟨t,v⟩:=p
  show kT (qi σ l) t v=σ
  rw [ih h.2]
  exact tp σ t h.1
def Jn (X:Cx){A:Type}(pf:A→Prop)(e:A→List (Nat×Value))(b:A→List HP):dQ→World→Prop:=fun σ w=>∃ a,pf a∧m7 σ (e a)∧St X.C w (b a)
theorem bB {A:Type}{x y:Code}(pf:A→Prop)(h:A→List (Nat×Value))(b:A→List HP)(j:TC X V σ x (iU (Jn X pf h b) Q))(l:∀ a σ',pf a→TC X (b a) (qi σ' (h a)) y Q):TC X V σ x (iU (Nx X y Q) Q):=by
 intro w s
 refine W.mono (j w s) ?_
 intro e σ' r q
 cases e with
 | normal =>
  obtain ⟨a,i,h1,h2⟩:=q
  have:=l a σ' i r h2
  rw [m8 h1] at this
  exact this
 | _=>exact q
theorem dC {A:Type}{pf:A→Prop}{e:A→List (Nat×Value)}{b:A→List HP}(a:A)(h:pf a)(h1:m7 σ (e a))(h2:∀ w,St X.C w V→St X.C w (b a)):TQ X V σ .normal (iU (Jn X pf e b) Q):=fun w s=>⟨a,h,h1,h2 w s⟩
def Co (X:Cx){S E A:Type}(out:S⊕E)(e:S→A→List (Nat×Value))(b:S→A→List HP):dQ→World→Prop:=fun σ w=>∃ s a,out=.inl s∧m7 σ (e s a)∧St X.C w (b s a)
theorem bD {S E A:Type}{f:S→Option (S⊕E)}{j:S}{e:E}{c:Code}(F:aQ f j=some e)(l:S→A→List (Nat×Value))(i:S→A→List HP)(a0:A)(h1:m7 σ (l j a0))(h2:∀ w,St X.C w V→St X.C w (i j a0))
  (h:∀ s a σ' out,f s=some out→(∀ r,out=.inr r→r=e)→TC X (i s a) (qi σ' (l s a)) c (iU (Co X out l i) Q)):TC X V σ (.loop c) Q:=by
 intro w st
 obtain ⟨k,hk⟩:=mZ F
 refine xS (fun k σ w=>∃ s a,jC f k s=some e∧m7 σ (l s a)∧St X.C w (i s a)) k ⟨j,a0,hk,h1,h2 w st⟩ ?_
 rintro k σ' J ⟨s,a,b,g1,B⟩
 cases k with
 | zero=>cases b
 | succ k =>
  simp only [jC] at b
  cases hf:f s with
  | none=>rw [hf] at b; cases b
  | some out =>
   rw [hf] at b
   have:=h s a σ' out hf (fun r D=>by subst D; exact Option.some.inj b) J B
   rw [m8 g1] at this
   refine W.mono this ?_
   intro ex σ'' L q
   cases ex with
   | normal =>
    obtain ⟨s',u,rfl,G,I⟩:=q
    exact ⟨k,Nat.lt_succ_self k,s',u,b,G,I⟩
   | _=>exact q
theorem vL {S E A:Type}{e:S→A→List (Nat×Value)}{b:S→A→List HP}{s:S}(a:A)(h1:m7 σ (e s a))(h2:∀ w,St X.C w V→St X.C w (b s a)):TQ X V σ .normal (iU (Co X (E:=E) (.inl s) e b) Q):=fun w st=>⟨s,a,rfl,h1,h2 w st⟩
end
end Go.Pg
namespace Go.Pg
section
variable {P:Program}{ops:Array Oper}{Q:Exit→Act→World→Prop}{S:World→Prop}{k:Nat}
def Shut (ops:Array Oper)(listed:Array Bool):Prop:=∀ j o,ops[j]?=some o→listed.getD j false=true→∀ e∈o.after,Region.binds .any e=true→listed.getD e.on false=true
def n' (ops:Array Oper):Nat→Nat→Nat→Bool
 | 0,_,_=>false
 | f+1,j,i=>match ops[j]? with
  | some o=>o.after.any (fun e=>Region.binds .any e&&e.on==i)||o.after.any (fun e=>Region.binds .any e&&n' ops f e.on i)
  | none=>false
theorem ll {listed:Array Bool}(B:Shut ops listed):∀ (f j i:Nat) (o:Oper),ops[j]?=some o→(∀ e∈o.after,Region.binds .any e=true→listed.getD e.on false=true)→n' ops f j i=true→listed.getD i false=true:=by
 intro f
 induction f with
 | zero=>intro j i o _ _ h; cases h
 | succ f ih =>
  intro j i o u q h
  simp only [n',u,Bool.or_eq_true,Array.any_eq_true',Bool.and_eq_true,beq_iff_eq] at h
  rcases h with ⟨e,b,a,r⟩|⟨e,b,a,l⟩
  ·rw [← r]; exact q e b a
  ·have s:=q e b a
   cases hoe:ops[e.on]? with
   | none =>
    cases f with
    | zero=>cases l
    | succ f=>simp [n',hoe] at l
   | some o'=>exact ih e.on i o' hoe (B e.on o' hoe s) l
def jE (ops:Array Oper)(k:Nat):Bool:=(List.range ops.size).all fun j=>Nat.blt j k||(List.range k).all fun i=>n' ops ops.size j i
def nc (ops:Array Oper)(k i:Nat):Bool:=(List.range ops.size).all fun j=>Nat.blt j k||n' ops ops.size j i
theorem rG {ops:Array Oper}{k i:Nat}(h:jE ops k=true)(a:Nat.blt i k=true):nc ops k i=true:=by
 simp only [jE,nc,List.all_eq_true,List.mem_range,Bool.or_eq_true] at h ⊢
 intro j b
 rcases h j b with h | h
 ·exact .inl h
 ·exact .inr (h i (Nat.lt_of_lt_of_le (Nat.lt_succ_self _) (Nat.le_of_ble_eq_true a)))
theorem Shut.step {listed:Array Bool}{j:Nat}(h:Shut ops listed)(s:j∈Region.ready .any ops listed):Shut ops (listed.setIfInBounds j true):=by
 obtain ⟨_,o,u,r⟩:=mem_ready.1 s
 intro i o' a q e l b
 by_cases hij:i=j
 ·subst hij
  rw [u] at a
  obtain rfl:=Option.some.inj a
  exact getD_set_true (r e l b)
 ·rw [getD_set_ne false (Ne.symm hij)] at q
  exact getD_set_true (h i o' a q e l b)
def oq (ops:Array Oper)(k:Nat)(listed:Array Bool):Bool:=(List.range ops.size).all fun j=>Nat.blt j k||!listed.getD j false
theorem px {listed:Array Bool}{i:Nat}(a:Nat.blt i k=true)(h:oq ops k listed=true):oq ops k (listed.setIfInBounds i true)=true:=by
 simp only [oq,List.all_eq_true,List.mem_range,Bool.or_eq_true,Bool.not_eq_true'] at h ⊢
 intro j b
 by_cases hji:j=i
 ·subst hji; exact .inl a
 ·rw [getD_set_ne false (Ne.symm hji)]; exact h j b
def kq (P:Program)(ops:Array Oper)(Q:Exit→Act→World→Prop)(S:World→Prop)(k:Nat):Nat→Array Bool→Act→World→Prop
 | 0,listed,a,w=>Region.ready .any ops listed=[]∧Q .normal a w
 | fuel+1,listed,a,w =>
  (Region.ready .any ops listed=[]→Q .normal a w) ∧
  ∀ i∈Region.ready .any ops listed,wpOp P ops Q i (fun e b=>(Nat.blt i k=true→oq ops k listed=true→S b)∧kq P ops Q S k fuel (listed.setIfInBounds i true) e b) a w
theorem nd:∀ (fuel:Nat) (listed:Array Bool) (a:Act) (w:World),kq P ops Q S k fuel listed a w→wpAny P .any ops Q fuel listed a w
 | 0,_,_,_,h=>h
 | fuel+1,_,_,_,h=>⟨h.1,fun i j=>wpOp_mono (fun b l e=>nd fuel _ b l e.2) (h.2 i j)⟩
theorem lm {i:Nat}{L:Oper}{v:Value}(hi:ops[i]?=some L)(O:Nat.blt i k=true)(ht:nc ops k i=true)(E:∀ (j:Nat) (o:Oper) cs b,ops[j]?=some o→o.op≠.select cs b)
  (hQ:∀ c a w,Q (.panic c) (a.put L.dst v) w→Q (.panic c) a w) :
  ∀ (fuel:Nat) (listed:Array Bool) (a:Act) (w:World),Shut ops listed →
   (∀ j F,ops[j]?=some F→j≠i→listed.getD j true=false→(∀ e∈F.after,Region.binds .any e=true→e.on≠i)→L.apart ops F=true) →
   i∈Region.ready .any ops listed→YieldsIf P ops S L v a→S w →
   kq P ops Q S k fuel (listed.setIfInBounds i true) (a.put L.dst v) w→kq P ops Q S k (fuel+1) listed a w:=by
 intro fuel
 induction fuel with
 | zero =>
  intro listed a w _ _ J hy hS H
  refine ⟨fun h=>(by rw [h] at J; cases J),fun j T=>?_⟩
  by_cases hji:j=i
  ·subst hji; exact hy.wpOp hi hS ⟨fun _ _=>hS,H⟩
  ·have:=ready_mono T hji
   rw [H.1] at this
   cases this
 | succ fuel ih =>
  intro listed a w s l J hy hS H
  refine ⟨fun h=>(by rw [h] at J; cases J),fun j T=>?_⟩
  by_cases hji:j=i
  ·subst hji; exact hy.wpOp hi hS ⟨fun _ _=>hS,H⟩
  ·have h1:=H.2 j (ready_mono T hji)
   obtain ⟨D,F,q,B⟩:=mem_ready.1 T
   have h0:=(mem_ready.1 J).1
   have I:listed.getD i false=true→False:=fun h1=>by
    rcases Nat.lt_or_ge i listed.size with h' | h'
    ·simp [h'] at h0 h1; rw [h0] at h1; cases h1
    ·simp [Array.getElem?_eq_none h'] at h1
   have a1:Nat.blt j k=true:=by
    cases M:Nat.blt j k with
    | true=>rfl
    | false =>
     simp only [nc,List.all_eq_true,List.mem_range,Bool.or_eq_true] at ht
     have u:=(ht j (Array.getElem?_eq_some_iff.1 q).1).resolve_left (by rw [M]; exact fun h=>by cases h)
     exact (I (ll s _ j i F q B u)).elim
   have G:oq ops k listed=true:=by
    simp only [oq,List.all_eq_true,List.mem_range,Bool.or_eq_true,Bool.not_eq_true']
    intro m hm
    cases M:Nat.blt m k with
    | true=>exact .inl rfl
    | false =>
     refine .inr ?_
     cases hl:listed.getD m false with
     | false=>rfl
     | true =>
      simp only [nc,List.all_eq_true,List.mem_range,Bool.or_eq_true] at ht
      have u:=(ht m hm).resolve_left (by rw [M]; exact fun h=>by cases h)
      have ho:=Array.getElem?_eq_getElem hm
      exact (I (ll s _ m i _ ho (s m _ ho hl) u)).elim
   have U:∀ e∈F.after,Region.binds .any e=true→e.on≠i:=fun e he M a0=>I (a0▸B e he M)
   have h2:=wpOp_putIf q (l j F q hji D U) (fun cs b=>E i L cs b hi) (fun cs b=>E j F cs b q) hQ hy h1
   have r:∀ m Z,ops[m]?=some Z→m≠i→(listed.setIfInBounds j true).getD m true=false →
     (∀ e∈Z.after,Region.binds .any e=true→e.on≠i)→L.apart ops Z=true:=fun m Z hk a2 Y a3=>by
    refine l m Z hk a2 ?_ a3
    by_cases hjm:j=m
    ·subst hjm; exact D
    ·rw [getD_set_ne true hjm] at Y; exact Y
   refine wpOp_mono (fun a' w' u=>⟨fun q1 q2=>u.2.1 q1 (px O q2),ih (listed.setIfInBounds j true) a' w' (s.step T) r (ready_mono J (Ne.symm hji)) u.1 (u.2.1 a1 (px O G)) ?_⟩) h2
   rw [Array.setIfInBounds_comm _ _ hji]
   exact u.2.2
end
def NP (Q:Exit→dQ→World→Prop):Exit→dQ→World→Prop
 | .panic _,_,_=>False
 | .outgrown,_,_=>False
 | e,σ,w=>Q e σ w
def TD (X:Cx)(ops:Array Oper)(k:Nat)(V0:List HP)(fuel:Nat)(listed:Array Bool)(V:List HP)(σ:dQ)(Q:Exit→dQ→World→Prop):Prop :=
 ∀ a w,a.tmps.size=X.n.n→a.defers=X.n.ds→fM a=σ→Shut ops listed→St X.C w V→kq X.P ops (hD X.n (NP Q)) (fun w=>St X.C w V0) k fuel listed a w
def DK (X:Cx)(ops:Array Oper)(k:Nat)(V0:List HP)(fuel:Nat)(listed:Array Bool)(i:Nat)(Q:Exit→dQ→World→Prop):Exit→dQ→World→Prop
 | .normal,σ,w=>∀ a,a.tmps.size=X.n.n→a.defers=X.n.ds→fM a=σ→Shut ops (listed.setIfInBounds i true)→(Nat.blt i k=true→oq ops k listed=true→St X.C w V0)∧kq X.P ops (hD X.n (NP Q)) (fun w=>St X.C w V0) k fuel (listed.setIfInBounds i true) a w
 | .panic _,_,_=>False
 | .outgrown,_,_=>False
 | e,σ,w=>Q e σ w
def Aa (X:Cx)(ops:Array Oper)(k:Nat)(V0:List HP)(fuel:Nat)(listed:Array Bool)(V:List HP)(σ:dQ)(Q:Exit→dQ→World→Prop):List Nat→Prop
 | []=>True
 | i::is=>(match ops[i]? with
  | some o=>TL X ops V σ [o] (DK X ops k V0 fuel listed i Q)
  | none=>False)∧Aa X ops k V0 fuel listed V σ Q is
section
variable {X:Cx}{V V0:List HP}{σ:dQ}{Q:Exit→dQ→World→Prop}{ops:Array Oper}{o:Oper}{k fuel:Nat}{listed:Array Bool}
variable {d:Nat}{op:Op}{ty:TypeId}{pos:String}{af:Array Edge}{gd:Option (Nat×Bool)}
theorem xX {D:Nat}{l:List Oper}(k:Nat)(V0:List HP)(B:X.P.follows .mixedOrders=true)(b:(jE l.toArray k&&Region.noSelect l.toArray)=true)
  (h:jE l.toArray k=true→Region.noSelect l.toArray=true→TD X l.toArray k V0 l.length (Array.replicate l.length false) V σ Q):TC X V σ (.region D l.toArray true) Q:=by
 intro w s a h1 h2 u
 rw [Bool.and_eq_true] at b
 refine wp_mono (P:=X.P) (Q:=hD X.n (NP Q)) (wp_region_any B (nd (S:=fun w=>St X.C w V0) (k:=k) _ _ _ _ ?_)) ?_
 ·have:=h b.1 b.2 a w.drew h1 h2 u (fun j o _ i=>by
   exfalso
   by_cases hj:j<l.length
   ·simp [Array.getElem?_replicate,hj] at i
   ·simp [Array.getElem?_replicate,hj] at i) s.drew
  simpa using this
 ·rintro e a w q
  refine nX q fun r=>?_
  cases e<;>first | exact r | exact r.elim
theorem xY (e:Region.ready .any ops listed=[])(h:TQ X V σ .normal Q):TD X ops k V0 fuel listed V σ Q:=by
 intro a w h1 h2 j _ s
 have b:hD X.n (NP Q) .normal a w:=.inl ⟨h1,h2,by rw [j]; exact h w s⟩
 cases fuel with
 | zero=>exact ⟨e,b⟩
 | succ fuel=>exact ⟨fun _=>b,by rw [e]; intro i l; cases l⟩
theorem Cp (i:Nat)(v:Value)(r:ops[i]?=some ⟨some d,op,ty,pos,af,gd⟩)(F:VO X V0 σ ⟨some d,op,ty,pos,af,gd⟩ v)(hw:eF ops σ ⟨some d,op,ty,pos,af,gd⟩=true)(B:j3 X.n (some d)=true)
  (l:Nat.blt i k=true) (E:nc ops k i=true) (D:Region.noSelect ops=true) (j:(Region.free .any ops listed i&&(Region.ready .any ops listed).contains i)=true) (hS:∀ w,St X.C w V→St X.C w V0)
  (h:TD X ops k V0 fuel (listed.setIfInBounds i true) V (kT σ d v) Q):TD X ops k V0 (fuel+1) listed V σ Q:=by
 intro a w h1 h2 e b s
 rw [Bool.and_eq_true] at j
 obtain ⟨p1,G,I⟩:=m6 (o:=⟨some d,op,ty,pos,af,gd⟩) B h1 h2 e v
 have u:i∈Region.ready .any ops listed:=by simpa using j.2
 refine lm (v:=v) r l E (Region.noSelect_spec D) ?_ fuel listed a w b (Region.free_spec r j.1) u ?_ (hS w s) (h _ w p1 G I (b.step u) s)
 ·rintro c a w q
  exact (fY q (by simp)).2.2.elim
 ·exact .inl ⟨by rw [jQ,e]; exact hw,fun w s=>by rw [km,e]; exact F w s⟩
theorem Cq (i:Nat)(v:Value)(j:ops[i]?=some ⟨some d,op,ty,pos,af,gd⟩)(r:VO X V0 σ ⟨some d,op,ty,pos,af,gd⟩ v)(hw:eF ops σ ⟨some d,op,ty,pos,af,gd⟩=true)(b:j3 X.n (some d)=true)
  (a:Nat.blt i k=true) (q:jE ops k=true) (l:Region.noSelect ops=true) (e:(Region.free .any ops listed i&&(Region.ready .any ops listed).contains i)=true) (hS:∀ w,St X.C w V→St X.C w V0)
  (h:TD X ops k V0 fuel (listed.setIfInBounds i true) V (kT σ d v) Q):TD X ops k V0 (fuel+1) listed V σ Q :=
 Cp i v j r hw b a (rG q a) l e hS h
theorem xZ (i:Nat)(r:ops[i]?=some ⟨some d,op,ty,pos,af,gd⟩)(hw:eF ops σ ⟨some d,op,ty,pos,af,gd⟩=false)(B:j3 X.n (some d)=true)
  (j:Nat.blt i k=true) (E:nc ops k i=true) (D:Region.noSelect ops=true) (e:(Region.free .any ops listed i&&(Region.ready .any ops listed).contains i)=true) (hS:∀ w,St X.C w V→St X.C w V0)
  (h:TD X ops k V0 fuel (listed.setIfInBounds i true) V (kT σ d undef) Q):TD X ops k V0 (fuel+1) listed V σ Q:=by
 intro a w h1 h2 l b s
 rw [Bool.and_eq_true] at e
 obtain ⟨p1,F,G⟩:=m6 (o:=⟨some d,op,ty,pos,af,gd⟩) B h1 h2 l undef
 have u:i∈Region.ready .any ops listed:=by simpa using e.2
 refine lm (v:=undef) r j E (Region.noSelect_spec D) ?_ fuel listed a w b (Region.free_spec r e.1) u ?_ (hS w s) (h _ w p1 F G (b.step u) s)
 ·rintro c a w q
  exact (fY q (by simp)).2.2.elim
 ·exact .inr ⟨by rw [jQ,l]; exact hw,rfl⟩
theorem xe (i:Nat)(j:ops[i]?=some ⟨some d,op,ty,pos,af,gd⟩)(hw:eF ops σ ⟨some d,op,ty,pos,af,gd⟩=false)(b:j3 X.n (some d)=true)
  (a:Nat.blt i k=true) (q:jE ops k=true) (l:Region.noSelect ops=true) (e:(Region.free .any ops listed i&&(Region.ready .any ops listed).contains i)=true) (hS:∀ w,St X.C w V→St X.C w V0)
  (h:TD X ops k V0 fuel (listed.setIfInBounds i true) V (kT σ d undef) Q):TD X ops k V0 (fuel+1) listed V σ Q :=
 xZ i j hw b a (rG q a) l e hS h
theorem iQ (rs:List Nat)(l:Region.ready .any ops listed=rs)(F:Nat.blt 0 rs.length=true)(h:Aa X ops k V0 fuel listed V σ Q rs):TD X ops k V0 (fuel+1) listed V σ Q:=by
 intro a w h1 h2 h3 J s
 refine ⟨fun Z=>(by rw [l] at Z; rw [Z] at F; cases F),fun i I=>?_⟩
 have D:=I
 rw [l] at I
 clear l F
 induction rs with
 | nil=>cases I
 | cons j rs ih =>
  rcases List.mem_cons.1 I with rfl | I
  ·have hj:=h.1
   obtain ⟨_,o,ho,_⟩:=mem_ready.1 D
   rw [ho] at hj
   have E:=hj w s a h1 h2 h3
   unfold wpOp
   simp only [ho]
   unfold wpList at E
   split
   ·rename_i hw
    rw [if_pos hw] at E
    have up:∀ r,o.upon X.P a (wpList X.P ops (hD X.n (DK X ops k V0 fuel listed i Q)) []) (hD X.n (DK X ops k V0 fuel listed i Q)) r →
      o.upon X.P a (fun G B=>(Nat.blt i k=true→oq ops k listed=true→St X.C B V0)∧kq X.P ops (hD X.n (NP Q)) (fun w=>St X.C w V0) k fuel (listed.setIfInBounds i true) G B) (hD X.n (NP Q)) r:=by
     have hq:∀ c a w,hD X.n (DK X ops k V0 fuel listed i Q) (.panic c) a w→hD X.n (NP Q) (.panic c) a w:=by
      rintro c a w q
      exact (fY q (by simp)).2.2.elim
     have hk:∀ G B,wpList X.P ops (hD X.n (DK X ops k V0 fuel listed i Q)) [] G B→(Nat.blt i k=true→oq ops k listed=true→St X.C B V0)∧kq X.P ops (hD X.n (NP Q)) (fun w=>St X.C w V0) k fuel (listed.setIfInBounds i true) G B:=by
      rintro G B q
      obtain ⟨O,T,U⟩:=fY q (by simp)
      exact U G O T rfl (J.step D)
     intro r l
     match r,l with
     | .ok (.value v) B,l=>exact hk _ _ l
     | .ok .skip B,l=>exact hk _ _ l
     | .ok (.defer _) B,l=>exact hk _ _ l
     | .ok (.enter f args) B,l =>
      refine Calls.mono' l ?_
      intro e Y M
      cases e with
      | returned v=>exact hk _ _ M
      | panicked c=>exact hq _ _ _ M
      | outgrown =>
       obtain ⟨b,u,L⟩:=M
       exact (fY L (by simp)).2.2.elim
     | .ok (.row row args) B,l=>exact Rows.mono l fun v Y h=>hk _ _ h
     | .halt (.panic v) B,l=>exact hq _ _ _ l
    rcases E with E | ⟨h1,b,u,L⟩
    ·exact .inl (up _ E)
    ·exact (fY L (by simp)).2.2.elim
   ·rename_i hw
    rw [if_neg hw] at E
    obtain ⟨O,T,U⟩:=fY E (by simp)
    exact U _ O T rfl (J.step D)
  ·exact ih h.2 I
theorem Ab (i:Nat)(b:Region.ready .any ops listed=[i])(a:ops[i]?=some o)(h:TL X ops V σ [o] (DK X ops k V0 fuel listed i Q)):TD X ops k V0 (fuel+1) listed V σ Q :=
 iQ [i] b rfl ⟨by rw [a]; exact h,trivial⟩
theorem aJ {i:Nat}(hS:∀ w,St X.C w V→St X.C w V0)(h:TD X ops k V0 fuel (listed.setIfInBounds i true) V σ Q):TQ X V σ .normal (DK X ops k V0 fuel listed i Q) :=
 fun w s a h1 h2 b e=>⟨fun _ _=>hS w s,h a w h1 h2 b e s⟩
theorem y6 {i:Nat}(j:Nat.blt i k=false)(h:TD X ops k V0 fuel (listed.setIfInBounds i true) V σ Q):TQ X V σ .normal (DK X ops k V0 fuel listed i Q) :=
 fun w s a h1 h2 b e=>⟨fun h=>(by rw [j] at h; cases h),h a w h1 h2 b e s⟩
end
end Go.Pg
namespace Go.Pg
section
variable {α:Type}{K:Kind α}{C w:World}{V:List HP}
theorem St.len {a:Option Addr}{n c:Nat}{xs:List α}(s:St C w V)(i:Nat)(h:kh (lk V i) K (.slice a n c) xs):n=xs.length:=by
 obtain ⟨J,lw,A,e,b,h2,j,l⟩:=s.reads h
 injection b
theorem St.cap {a:Option Addr}{n c:Nat}{xs:List α}(s:St C w V)(i:Nat)(h:kh (lk V i) K (.slice a n c) xs):n≤9223372036854775807:=by
 obtain ⟨J,lw,A,j,e,h2,b,l⟩:=s.reads h
 have:n=xs.length:=by injection e
 simp only [maxLen] at b
 omega
theorem St.dup {v:Value}{xs:List α}(s:St C w V)(i:Nat)(e:lk V i=aO K v xs):St C w (aO K v xs::V):=by
 obtain ⟨a,I,b,g,j,l,s⟩:=s
 obtain ⟨h1,h2,h,p,s'⟩:=fJ i s
 rw [e] at p
 exact ⟨a,I,b,g,j,l,Hp.none,b,Join.none b,⟨rfl,p.2⟩,s⟩
theorem St.shr {e:Nat}{v:Value}{xs:List α}(s:St C w V)(i:Nat)(a:lk V i=ow K e v xs):St C w (aO K v xs::Pg.rm V i):=by
 have:=s.mv i
 unfold Pg.mv at this
 rw [a] at this
 exact St.share this (fun I J b l m p=>⟨rfl,lc l m p⟩)
theorem St.nilo (s:St C w V)(K:Kind α)(e:Nat):St C w (ow K e (.slice none 0 0) []::V) :=
 St.new s id (fun I _=>⟨Hp.none,.inl ⟨none,rfl,rfl,rfl⟩,fun _ _ e=>(by cases e),fun _ h=>absurd rfl h⟩) (fun _ _ h=>h)
theorem St.nilr (s:St C w V)(K:Kind α):St C w (aO K (.slice none 0 0) []::V) :=
 St.new s id (fun I _=>⟨Hp.none,⟨rfl,none,0,rfl,Nat.le_refl _,Nat.zero_le _,fun h=>absurd h (Nat.lt_irrefl _)⟩,fun _ _ e=>(by cases e),fun _ h=>absurd rfl h⟩) (fun _ _ h=>h)
end
section
variable {X:Cx}{V:List HP}{σ:dQ}{Q:Exit→dQ→World→Prop}{ops:Array Oper}{rest:List Oper}{o:Oper}{cd:Code}{ex:Exit}
variable {d:Option Nat}{ty:TypeId}{pos:String}{af:Array Edge}{gd:Option (Nat×Bool)}
variable {α β:Type}
theorem aM {K:Kind α}{a:Option Addr}{n c:Nat}{xs:List α}(i:Nat)(b:kh (lk V i) K (.slice a n c) xs)(h:n=xs.length→TL X ops V σ rest Q):TL X ops V σ rest Q:=fun w s=>h (s.len i b) w s
theorem bK {K:Kind α}{a:Option Addr}{n c:Nat}{xs:List α}(i:Nat)(b:kh (lk V i) K (.slice a n c) xs)(h:n=xs.length→TC X V σ cd Q):TC X V σ cd Q:=fun w s=>h (s.len i b) w s
theorem iR {K:Kind α}{a:Option Addr}{n c:Nat}{xs:List α}(i:Nat)(b:kh (lk V i) K (.slice a n c) xs)(h:n=xs.length→TQ X V σ ex Q):TQ X V σ ex Q:=fun w s=>h (s.len i b) w s
theorem ji {V':List HP}(f:∀ w,St X.C w V→St X.C w V')(h:TL X ops V' σ rest Q):TL X ops V σ rest Q:=fun w s=>h w (f w s)
theorem Ac {V':List HP}(f:∀ w,St X.C w V→St X.C w V')(h:TC X V' σ cd Q):TC X V σ cd Q:=fun w s=>h w (f w s)
theorem Cr {V':List HP}(f:∀ w,St X.C w V→St X.C w V')(h:TQ X V' σ ex Q):TQ X V σ ex Q:=fun w s=>h w (f w s)
theorem b' {A:Type}{f:FuncId}{xs:Array Operand}{e:Array TypeId}{as:List Value}{b:List HP}{a:A→Value×List HP}(m:Nat)(l:j3 X.n d=true)(hw:eF ops σ ⟨d,.call ⟨.value (.func f),xs,e⟩,ty,pos,af,gd⟩=true)
  (q:aW X.P f=true) (i:xs.toList.map (ev σ)=as) (j:FnOk X.P f as b a) (h:tk m V=b) (k:∀ x,TL X ops ((a x).2++dp m V) (gJ σ d (a x).1) rest Q):TL X ops V σ (⟨d,.call ⟨.value (.func f),xs,e⟩,ty,pos,af,gd⟩::rest) Q :=
 xW l hw q i j (by rw [← h,n8]) k
theorem cU {A:Type}{f:FuncId}{h:Operand}{fs cs:List Value}{xs:Array Operand}{e:Array TypeId}{as:List Value}{b:List HP}{a:A→Value×List HP}(m:Nat)(q:j3 X.n d=true)(hw:eF ops σ ⟨d,.call ⟨.value h,xs,e⟩,ty,pos,af,gd⟩=true)
  (r:aW X.P f=true) (s:ev σ h=.func (.func f) fs.toArray cs.toArray) (j:fs++xs.toList.map (ev σ)++cs=as) (l:FnOk X.P f as b a) (i:tk m V=b) (k:∀ x,TL X ops ((a x).2++dp m V) (gJ σ d (a x).1) rest Q):TL X ops V σ (⟨d,.call ⟨.value h,xs,e⟩,ty,pos,af,gd⟩::rest) Q :=
 vH q hw r s j l (by rw [← i,n8]) k
theorem AllC.append {A B:List HP}(a:AllC A)(b:AllC B):AllC (A++B):=by
 induction A with
 | nil=>exact b
 | cons p A ih=>exact ⟨a.1,ih a.2⟩
theorem mJ {c a b:Operand}{k:Bool}{v e:Value}(i:ev σ c=.bool k)(hk:k=true)(h:ev σ a=e)(j:e=v):VO X V σ ⟨d,.pick c a b,ty,pos,af,gd⟩ v:=iV (by
 simp only [pv,i,hk,h,j,cond_true])
theorem mK {c a b:Operand}{k:Bool}{v e:Value}(i:ev σ c=.bool k)(hk:k=false)(h:ev σ b=e)(j:e=v):VO X V σ ⟨d,.pick c a b,ty,pos,af,gd⟩ v:=iV (by
 simp only [pv,i,hk,h,j,cond_false])
theorem y7 {t q:TypeId}{x y:Operand}{a:Option Addr}{n c:Nat}{e:TypeId}(h:mz X.P t=some e)(j:ev σ x=.slice a n c)(l:ev σ y=.slice none 0 0):VO X V σ ⟨d,.binOp .eql t x y q,ty,pos,af,gd⟩ (.bool a.isNone):=by
 intro w _
 have i:=js h
 have b:(Op.equal t (.slice a n c) (.slice none 0 0)).run X.P w=.ok a.isNone w:=by
  unfold Op.equal
  rw [show Op.maxDepth=9999+1 from rfl]
  unfold Op.equalIn
  rw [Sem.run_bind,run_underlying i]
  cases a<;>rfl
 cases a<;>simp [execOp,j,l,eqGuard,binOp,b]
end
end Go.Pg
namespace Go.Pg
def gL (P:Program)(T:TypeId):Option (List (Nat×Nat)):=match P.underlying T with
 | some (.struct fs)=>fs.toList.mapM fun f=>(P.info? f.type).map fun i=>(f.offset,i.size)
 | _=>none
def rH (ps:List (Nat×Nat)):List Value→List (Nat×Value)→Option (List Value)
 | z,[]=>some z
 | z,(i,v)::rest=>match sy ps i with
  | some (off,sz)=>cond (Nat.beq v.cells.toList.length sz&&Nat.ble (off+sz) z.length) (rH ps (z.take off++v.cells.toList++z.drop (off+sz)) rest) none
  | none=>none
theorem tJ:∀ (l:List Value) (a j:Nat) (cs:Array Value),a+j+l.length≤cs.size →
  ((l.zipIdx j).foldl (fun cs (c,j)=>cs.setIfInBounds (a+j) c) cs).toList=cs.toList.take (a+j)++l++cs.toList.drop (a+j+l.length):=by
 intro l
 induction l with
 | nil=>intro a j cs _; simp
 | cons u l ihl =>
  intro a j cs b
  simp only [List.zipIdx_cons,List.foldl_cons]
  rw [ihl a (j+1) _ (by simp at *; omega)]
  simp only [List.length_cons] at b
  rw [Array.toList_setIfInBounds,show a+(j+1)=(a+j)+1 by omega,List.take_succ_eq_append_getElem (by simp; omega),List.take_set_of_le (Nat.le_refl _),List.drop_set_of_lt (by omega)]
  simp [Nat.add_assoc,Nat.add_comm,Nat.add_left_comm]
theorem y8 {ps:List (Nat×Nat)}:∀ (parts:List (Nat×Value)) (z:Array Value) (cs:List Value),rH ps z.toList parts=some cs→∃ r,Instr.fill (ps.toArray[·]?) z parts=some r∧r.toList=cs:=by
 intro parts
 induction parts with
 | nil=>intro z cs h; exact ⟨z,rfl,Option.some.inj h⟩
 | cons p parts ih =>
  intro z cs h
  obtain ⟨i,v⟩:=p
  unfold rH at h
  rw [kV] at h
  unfold Instr.fill
  have e:ps.toArray[i]?=ps[i]?:=by simp
  simp only [e]
  cases hp:ps[i]? with
  | none=>rw [hp] at h; cases h
  | some q =>
   obtain ⟨a,sz⟩:=q
   rw [hp] at h
   simp only at h ⊢
   cases hb:(Nat.beq v.cells.toList.length sz&&Nat.ble (a+sz) z.toList.length) with
   | false=>rw [hb] at h; cases h
   | true =>
    rw [hb] at h
    simp only [cond_true,Bool.and_eq_true] at h hb
    have h1:v.cells.size=sz:=by simpa using Nat.eq_of_beq_eq_true hb.1
    have h2:a+sz≤z.size:=by simpa using Nat.le_of_ble_eq_true hb.2
    have b:¬ (v.cells.size≠sz∨a+v.cells.size>z.size):=by rw [h1]; omega
    rw [if_neg (by simpa using b)]
    have l:v.cells.zipIdx.foldl (fun cs (c,j)=>cs.setIfInBounds (a+j) c) z=(v.cells.toList.zipIdx 0).foldl (fun cs (c,j)=>cs.setIfInBounds (a+j) c) z:=by
     rw [← Array.foldl_toList]
     congr 1
     simp
    rw [l]
    refine ih _ cs ?_
    rw [tJ _ _ _ _ (by simp [h1]; omega)]
    simpa [h1] using h
section
variable {X:Cx}{V:List HP}{σ:dQ}{Q:Exit→dQ→World→Prop}{ops:Array Oper}{rest:List Oper}{o:Oper}
variable {d:Option Nat}{ty:TypeId}{pos:String}{af:Array Edge}{gd:Option (Nat×Bool)}
variable {α β:Type}
theorem py {P:Program}{w:World}:∀ (fs:List Field) (ps:List (Nat×Nat)),fs.mapM (fun f=>(P.info? f.type).map fun i=>(f.offset,i.size))=some ps →
  (fs.mapM (fun f=>(do pure (f.offset,← sizeOf f.type):Sem (Nat×Nat)))).run P w=.ok ps w:=by
 intro fs
 induction fs with
 | nil=>intro ps h; simp at h; subst h; rfl
 | cons f fs ih =>
  intro ps h
  rw [List.mapM_cons] at h ⊢
  cases hi:P.info? f.type with
  | none=>rw [hi] at h; cases h
  | some i =>
   rw [hi] at h
   cases hm:fs.mapM (fun f=>(P.info? f.type).map fun i=>(f.offset,i.size)) with
   | none=>rw [hm] at h; cases h
   | some qs =>
    rw [hm] at h
    obtain rfl:=Option.some.inj h
    have h1:=ih qs hm
    simp only [Sem.run_bind,Sem.run_pure,Result.andThen_ok,fA (show iK P f.type=some i.size by simp [iK,hi]),h1]
theorem bA {T:TypeId}{parts:Array (Nat×Operand)}{cs z:List Value}{ps:List (Nat×Nat)}{l:List (Nat×Value)}(a:gL X.P T=some ps)(G:kW X.P T=some z)(B:parts.toList.map (fun p=>(p.1,ev σ p.2))=l)(E:rH ps z l=some cs) :
  VO X V σ ⟨d,.build T parts,ty,pos,af,gd⟩ (.agg cs.toArray):=by
 intro w _
 unfold gL at a
 split at a
 ·rename_i fs F
  obtain ⟨I,s,u⟩:=lg (P:=X.P) (w:=w) G
  have D:=py (P:=X.P) (w:=w) _ _ a
  obtain ⟨r,h,j⟩:=y8 (ps:=ps) l z.toArray cs (by simpa using E)
  have e:(parts.map fun (i,x)=>(i,ev σ x)).toList=l:=by
   rw [← B]; simp
  have b:(fs.mapM (fun f=>(do pure (f.offset,← sizeOf f.type):Sem (Nat×Nat)))).run X.P w=.ok ps.toArray w:=by
   rw [show fs=fs.toList.toArray by simp,List.mapM_toArray,Sem.run_map]
   exact congrArg (fun r=>Result.andThen r _) D
  have q:r=cs.toArray:=by apply Array.ext'; simpa using j
  simp only [execOp,Instr.build,Sem.run_bind,s,Result.andThen_ok,run_underlying F,b,e,u,h,q,Sem.run_pure]
 ·cases a
def ou (K:Kind α){A:Type}(cells:A→α→List Value)(b:A→α→List HP):Prop:=∀ I h x cs,K.own I h x cs→∃ a,cs=cells a x∧fH (b a x) I Hp.none
theorem pz {A:Type}{cells:A→α→List Value}{q:A→α→List HP}{K:Kind α}{C w:World}{e g o n c:Nat}{xs:List α}(s:St C w V)(i:Nat)(Z:ou K cells q)(U:lk V i=ow K e (.slice (some ⟨g,o,none⟩) n c) xs){j:Nat}{x:α}(L:xs[j]?=some x) :
  ∃ a,(∀ k u,(cells a x)[k]?=some u→w.cell? ⟨g,o+j*K.sz+k,none⟩=some u)∧(cells a x).length=K.sz∧St C w (q a x++V):=by
 obtain ⟨sm,I,h,g0,M,l,st⟩:=s
 obtain ⟨h1,h2,j',p,s'⟩:=fJ i st
 rw [U] at p
 have p:pj K e I h1 (.slice (some ⟨g,o,none⟩) n c) xs:=p
 rcases p with ⟨A,J,rfl,_⟩|⟨g',c',pre,r,b,fr,hb,J,q2,q3,q4,q5,jo,ol⟩
 ·simp at L
 injection J with e1 e2 e3
 injection e1 with e1
 injection e1 with e1 e4
 subst e1; subst e4
 obtain ⟨T,c1,b1,g1,g2,Y,E,jn,O,F⟩:=lb ol L
 obtain ⟨a,rfl,D⟩:=Z _ _ _ _ O
 have B:w.heap[g]?=some (.cells (pre++r++b).toArray e fr):=l g _ (M.right g _ (j'.left g _ (jo.left g _ (by simp [Hp.one]))))
 refine ⟨a,fun k u G=>?_,K.own_len O,sm,I,h,g0,M,l,cY.2 ⟨Hp.none,h,Join.none h,D,st⟩⟩
 have hk:=(List.getElem?_eq_some_iff.1 G).1
 have:w.cell? ⟨g,pre.length+j*K.sz+k,none⟩=(pre++r++b)[pre.length+j*K.sz+k]?:=by simp [World.cell?,B]
 rw [this,List.append_assoc,List.getElem?_append_right (by omega),Y,show pre.length+j*K.sz+k - pre.length=j*K.sz+k by omega,List.append_assoc,List.append_assoc,List.getElem?_append_right (by omega),show j*K.sz+k - T.length=k by omega,List.getElem?_append_left hk]
 exact G
theorem Ad [Inhabited α]{A:Type}{cells:A→α→List Value}{b:A→α→List HP}{K:Kind α}{T:TypeId}{x:Operand}{e g o n c:Nat}{xs:List α}(i:Nat)(j:Int)(E:j3 X.n d=true)(hw:eF ops σ ⟨d,.load T x,ty,pos,af,gd⟩=true)(B:fO X.P T=some true)(I:iK X.P T=some K.sz)
  (F:ou K cells b) (q:lk V i=ow K e (.slice (some ⟨g,o,none⟩) n c) xs) (L:ev σ x=.pointer (some ⟨g,o+j.toNat*K.sz,none⟩)) (r:0≤j) (h1:j<n)
  (h:∀ a,TL X ops (b a (ix xs j)++V) (gJ σ d (.agg (cells a (ix xs j)).toArray)) rest Q):TL X ops V σ (⟨d,.load T x,ty,pos,af,gd⟩::rest) Q:=by
 intro w s
 have M:n=xs.length:=s.len i (by rw [q]; exact aD)
 obtain ⟨a,D,l,s'⟩:=pz s i F q (jT r (by omega))
 refine fE E hw ?_
 have:=fR (P:=X.P) (w:=w) (a:=⟨g,o+j.toNat*K.sz,none⟩) (cs:=cells a (ix xs j)) B (by rw [l]; exact I) (fun k u J=>by rw [gH]; exact D k u J)
 have G:(execOp (ev σ) ⟨d,.load T x,ty,pos,af,gd⟩).run X.P w=.ok (.value (.agg (cells a (ix xs j)).toArray)) w:=by
  simp only [execOp,Instr.loadAt,L,Instr.sureAddr,Sem.run_bind,Sem.run_pure,Result.andThen_ok,this]
 rw [G]
 exact h a w s'
theorem tK [Inhabited α]{A:Type}{cells:A→α→List Value}{b:A→α→List HP}{K:Kind α}{T:TypeId}{x:Operand}{e g o n c fo:Nat}{xs:List α}{pr:A→α→Value}(i:Nat)(j:Int)(D:j3 X.n d=true)(hw:eF ops σ ⟨d,.load T x,ty,pos,af,gd⟩=true)(u:fO X.P T=some false)
  (E:ou K cells b) (F:∀ a x,sy (cells a x) fo=some (pr a x)) (l:lk V i=ow K e (.slice (some ⟨g,o,none⟩) n c) xs) (I:ev σ x=.pointer (some ⟨g,o+j.toNat*K.sz+fo,none⟩)) (r:0≤j) (h1:j<n)
  (h:∀ a,TL X ops (b a (ix xs j)++V) (gJ σ d (pr a (ix xs j))) rest Q):TL X ops V σ (⟨d,.load T x,ty,pos,af,gd⟩::rest) Q:=by
 intro w s
 have J:n=xs.length:=s.len i (by rw [l]; exact aD)
 obtain ⟨a,B,q,s'⟩:=pz s i E l (jT r (by omega))
 refine fE D hw ?_
 have:=fD (P:=X.P) (w:=w) (a:=⟨g,o+j.toNat*K.sz+fo,none⟩) u (B fo _ (by rw [← kV]; exact F a _))
 have G:(execOp (ev σ) ⟨d,.load T x,ty,pos,af,gd⟩).run X.P w=.ok (.value (pr a (ix xs j))) w:=by
  simp only [execOp,Instr.loadAt,I,Instr.sureAddr,Sem.run_bind,Sem.run_pure,Result.andThen_ok,this]
 rw [G]
 exact h a w s'
theorem St.seps {C w:World}{p:HP}{A V:List HP}(s:St C w (p::(A++V))):St C w (⟨fun I h=>∃ h1 h2,Join h1 h2 h∧p.p I h1∧fH A I h2,fun l ⟨h1,h2,j,a,b⟩=>⟨h1,h2,j,p.mono l a,j4 l b⟩⟩::V):=by
 obtain ⟨a,I,h,g,j,l,h1,h2,r,c,s⟩:=s
 obtain ⟨i,q,u,d,e⟩:=cY.1 s
 obtain ⟨k,k1,B⟩:=Join.assoc' u r
 exact ⟨a,I,h,g,j,l,k,q,B,⟨h1,i,k1,c,d⟩,e⟩
theorem eO [Inhabited α]{K:Kind α}{T e:TypeId}{x y:Operand}{g o n c:Nat}{xs:List α}{vs:List Value}{x':α}(k:Nat)(j:Int)(hd:j3 X.n d=true)(hw:eF ops σ ⟨d,.store T x y,ty,pos,af,gd⟩=true)(hs:iK X.P T=some K.sz)
  (hx:ev σ x=.pointer (some ⟨g,o+j.toNat*K.sz,none⟩)) (hy:(ev σ y).cells.toList=vs) (h0:0≤j) (h1:j<n) (ho:∀ I h,fH (tk k V) I h→K.own I h x' vs)
  (h:TL X ops (ow K e (.slice (some ⟨g,o,none⟩) n c) (xs.set j.toNat x')::dp k V) (gJ σ d undef) rest Q):TL X ops (ow K e (.slice (some ⟨g,o,none⟩) n c) xs::V) σ (⟨d,.store T x y,ty,pos,af,gd⟩::rest) Q:=by
 intro w s
 have s2:St X.C w (_::dp k V):=St.seps (A:=tk k V) (V:=dp k V) (by rw [n8]; exact s)
 obtain ⟨_,w',hr,s'⟩:=St.act s2 0 (q:=fun _:Unit=>ow K e (.slice (some ⟨g,o,none⟩) n c) (xs.set j.toNat x')) (Ψ:=fun _ w'=>(execOp (ev σ) ⟨d,.store T x y,ty,pos,af,gd⟩).run X.P w=.ok .skip w') (by
  rintro I hh ⟨a2,hA,D,p,a5⟩ lI lw dj
  have G:=ho I hA a5
  have p:pj K e I a2 (.slice (some ⟨g,o,none⟩) n c) xs:=p
  rcases p with ⟨A,hv,rfl,_⟩|⟨g',c',pre,i,a,fr,hb,hv,h2,h3,h4,O,E,ol⟩
  ·injection hv with _ hv _
   omega
  injection hv with l M e3
  injection l with l
  injection l with l e4
  subst l; subst e3; subst e4; subst M
  obtain ⟨J,c1,L,g1,g2,hc,a6,jn,ox,Z⟩:=lb ol (jT h0 h1)
  have a3:=K.own_len ox
  have Y:=K.own_len G
  have U:w.heap[g]?=some (.cells (pre++i++a).toArray e fr):=lw g _ (D.left g _ (E.left g _ (by simp [Hp.one])))
  have a8:i.length=J.length+c1.length+L.length:=by rw [hc]; simp [Nat.add_assoc]
  obtain ⟨w',r,e',ot,sm⟩:=ko (P:=X.P) (N:=(pre++i++a).length) (T:=e) (fr:=fr) (b:=g) (by simpa [Nat.add_assoc] using O) vs (pre.length+j.toNat*K.sz) 0 (pre++i++a) w rfl U (by simp only [List.length_append]; omega) (K.own_one G)
  obtain ⟨m,jm⟩:=Join.of_disj (h1:=hA) (h2:=g2) (fun b=>by
   rcases D.disj b with f | f
   ·exact .inr ((jn.is_none b).1 ((E.is_none b).1 f).2).2
   ·exact .inl f)
  have a7:pre++i++a=(pre++i++a):=rfl
  have a0:(pre++i++a).take (pre.length+j.toNat*K.sz+0)++vs++(pre++i++a).drop (pre.length+j.toNat*K.sz+0+vs.length)=pre++(J++vs++L)++a:=by
   have l:pre++i++a=(pre++J)++(c1++(L++a)):=by rw [hc]; simp [List.append_assoc]
   have M:pre.length+j.toNat*K.sz+0=(pre++J).length:=by rw [List.length_append]; omega
   rw [l,M,List.take_left,List.drop_append,List.drop_of_length_le (by omega),List.nil_append,Nat.add_sub_cancel_left,Y,← a3,List.drop_left]
   simp [List.append_assoc]
  obtain ⟨h',F⟩:=Join.of_disj (h1:=Hp.one g (.cells (pre++(J++vs++L)++a).toArray e fr)) (h2:=m) (fun b=>by
   by_cases hbg:b=g
   ·subst hbg
    refine .inr ((jm.is_none b).2 ⟨?_,?_⟩)
    ·rcases D.disj b with f | f
     ·have:=((E.is_none b).1 f).1
      simp [Hp.one] at this
     ·exact f
    ·rcases E.disj b with f | f
     ·simp [Hp.one] at f
     ·exact ((jn.is_none b).1 f).2
   ·exact .inl (by simp [Hp.one,hbg]))
  refine ⟨(),w',h',?_,sm _,?_,?_,?_,?_⟩
  ·have a4:(ev σ y).cells.size=K.sz:=by rw [← Y,← hy]; simp
   simp only [execOp,Instr.storeAt,hx,Instr.sureAddr,Sem.run_bind,Sem.run_pure,Result.andThen_ok,storeVar,fA hs,hy,a4,ne_eq,not_true_eq_false,if_false,r]
  ·refine .inr ⟨g,_,pre,J++vs++L,a,fr,m,by rw [List.length_set],by rw [List.length_set]; exact h2,h3,by rw [List.length_set]; exact h4,?_,F,Z I hA x' vs m (Hp.le_refl I) jm G⟩
   rcases O with O | O
   ·exact .inl O
   ·refine .inr ?_
    simp only [List.length_append] at *
    omega
  ·intro b o' l
   rcases F.cases l with ⟨l,_⟩|⟨l,M⟩
   ·simp only [Hp.one] at l
    split at l
    ·rename_i B
     subst B
     rw [← Option.some.inj l,e',a0]
    ·cases l
   ·have u:b≠g:=by rintro rfl; simp [Hp.one] at M
    rw [ot b u]
    rcases jm.cases l with ⟨l,_⟩|⟨l,_⟩
    ·exact lw b _ (D.right b _ l)
    ·exact lw b _ (D.left b _ (E.right b _ (jn.right b _ l)))
  ·intro b B
   refine .inl fun hn=>B ?_
   have q1:=(D.is_none b).1 hn
   have q2:=(E.is_none b).1 q1.1
   refine (F.is_none b).2 ⟨?_,(jm.is_none b).2 ⟨q1.2,((jn.is_none b).1 q2.2).2⟩⟩
   have:=q2.1
   simp only [Hp.one] at *
   split at this
   ·cases this
   ·rename_i u; rw [if_neg u]
  ·intro b o' hn l
   have q1:=(D.is_none b).1 hn
   have q2:=((E.is_none b).1 q1.1).1
   have u:b≠g:=by rintro rfl; simp [Hp.one] at q2
   rw [ot b u]
   exact l)
 exact fE hd hw (by rw [hr]; exact h w' s')
end
end Go.Pg
namespace Go.Pg
structure DecK {α:Type}(K:Kind α) where
 A:Type
 cells:A→α→List Value
 ents:A→α→List HP
 dec:Cb K cells ents
section
variable {α β:Type}
def DecK.scal (enc:α→Value)(h1:∀ x,(enc x).oneCell'=true):DecK (Kind.scal enc h1):=⟨Unit,fun _ x=>[enc x],fun _ _=>[],fun I x cs h=>⟨(),h,rfl⟩⟩
def DecK.sl (e:Nat)(K:Kind α):DecK (Kind.sl e K):=⟨Option Addr×Nat,fun a xs=>[.slice a.1 xs.length a.2],fun a xs=>[aO K (.slice a.1 xs.length a.2) xs],fun I x cs h=>by
 obtain ⟨v,rfl,r⟩:=h
 obtain ⟨a,c,rfl⟩:=pn r
 exact ⟨(a,c),rfl,Hp.none,Hp.none,Join.none _,⟨rfl,r⟩,rfl⟩⟩
def DecK.pair {A:Kind α}{B:Kind β}(a:DecK A)(b:DecK B):DecK (Kind.pair A B):=⟨a.A×b.A,fun p x=>a.cells p.1 x.1++b.cells p.2 x.2,fun p x=>a.ents p.1 x.1++b.ents p.2 x.2,fun I x cs h=>by
 obtain ⟨j,l,rfl,h1,h2⟩:=h
 obtain ⟨p,rfl,e⟩:=a.dec _ _ _ h1
 obtain ⟨q,rfl,i⟩:=b.dec _ _ _ h2
 exact ⟨(p,q),rfl,cY.2 ⟨Hp.none,Hp.none,Join.none _,e,i⟩⟩⟩
def DecK.iso {K:Kind α}(a:DecK K)(f:β→α):DecK (Kind.iso K f):=⟨a.A,fun p x=>a.cells p (f x),fun p x=>a.ents p (f x),fun I x cs h=>a.dec I (f x) cs h⟩
theorem DecK.own {K:Kind α}(a:DecK K):ou K.share a.cells a.ents:=fun I h x cs o=>a.dec I x cs o.2
theorem DecK.leaf {K:Kind α}(a:DecK K){fo:Nat}{pr:α→Value}(h:∀ p x,sy (a.cells p x) fo=some (pr x)):z' K fo pr:=fun I x cs b=>by
 obtain ⟨p,rfl,_⟩:=a.dec I x cs b
 exact h p x
structure MkS {α:Type}(K:Kind α) where
 A:Type
 cells:A→α→List Value
 ents:A→α→List HP
 put:∀ I h a x,fH (ents a x) I h→h=Hp.none∧K.rd I x (cells a x)
structure MkO {α:Type}(K:Kind α) where
 A:Type
 cells:A→α→List Value
 ents:A→α→List HP
 put:∀ I h a x,fH (ents a x) I h→K.own I h x (cells a x)
def MkS.scal (enc:α→Value)(h1:∀ x,(enc x).oneCell'=true):MkS (Kind.scal enc h1):=⟨Unit,fun _ x=>[enc x],fun _ _=>[],fun I h a x s=>⟨s,rfl⟩⟩
def MkS.sl (e:Nat)(K:Kind α):MkS (Kind.sl e K):=⟨Value,fun v _=>[v],fun v xs=>[aO K v xs],fun I h a x s=>by
 obtain ⟨h1,h2,j,⟨rfl,r⟩,e⟩:=s
 have e:h2=Hp.none:=e
 subst e
 exact ⟨j.eq_of_none,a,rfl,r⟩⟩
def MkS.pair {A:Kind α}{B:Kind β}(a:MkS A)(b:MkS B):MkS (Kind.pair A B):=⟨a.A×b.A,fun p x=>a.cells p.1 x.1++b.cells p.2 x.2,fun p x=>a.ents p.1 x.1++b.ents p.2 x.2,fun I h p x s=>by
 obtain ⟨h1,h2,j,r,u⟩:=cY.1 s
 obtain ⟨e,l⟩:=a.put _ _ _ _ r
 obtain ⟨i,q⟩:=b.put _ _ _ _ u
 subst e; subst i
 exact ⟨j.eq_of_none,_,_,rfl,l,q⟩⟩
def MkS.iso {K:Kind α}(a:MkS K)(f:β→α):MkS (Kind.iso K f):=⟨a.A,fun p x=>a.cells p (f x),fun p x=>a.ents p (f x),fun I h p x s=>a.put I h p (f x) s⟩
def MkO.scal (enc:α→Value)(h1:∀ x,(enc x).oneCell'=true):MkO (Kind.scal enc h1):=⟨Unit,fun _ x=>[enc x],fun _ _=>[],fun I h a x s=>⟨s,rfl⟩⟩
def MkO.sl (e:Nat)(K:Kind α):MkO (Kind.sl e K):=⟨Value,fun v _=>[v],fun v xs=>[ow K e v xs],fun I h a x s=>by
 obtain ⟨h1,h2,j,o,b⟩:=s
 have b:h2=Hp.none:=b
 subst b
 rw [j.symm.eq_of_none]
 exact ⟨a,rfl,o⟩⟩
def MkO.pair {A:Kind α}{B:Kind β}(a:MkO A)(b:MkO B):MkO (Kind.pair A B):=⟨a.A×b.A,fun p x=>a.cells p.1 x.1++b.cells p.2 x.2,fun p x=>a.ents p.1 x.1++b.ents p.2 x.2,fun I h p x s=>by
 obtain ⟨h1,h2,j,e,i⟩:=cY.1 s
 exact ⟨h1,h2,_,_,j,rfl,a.put _ _ _ _ e,b.put _ _ _ _ i⟩⟩
def MkO.iso {K:Kind α}(a:MkO K)(f:β→α):MkO (Kind.iso K f):=⟨a.A,fun p x=>a.cells p (f x),fun p x=>a.ents p (f x),fun I h p x s=>a.put I h p (f x) s⟩
structure SpO {α:Type}(K:Kind α) where
 A:Type
 cells:A→α→List Value
 ents:A→α→List HP
 sp:∀ I h x cs,K.own I h x cs→∃ a,cs=cells a x∧fH (ents a x) I h
theorem tL {L:Kind β}{e:Nat}{I h:Hp}{v:Value}{ys:List β}(r:pj L e I h v ys):∃ a c,v=.slice a ys.length c:=by
 rcases r with ⟨A,rfl,rfl,_⟩|⟨g,c,pre,i,b,fr,h1,rfl,_⟩
 ·exact ⟨A,0,rfl⟩
 ·exact ⟨_,c,rfl⟩
def SpO.scal (enc:α→Value)(h1:∀ x,(enc x).oneCell'=true):SpO (Kind.scal enc h1):=⟨Unit,fun _ x=>[enc x],fun _ _=>[],fun I h x cs o=>⟨(),o.2,o.1⟩⟩
def SpO.sl (e:Nat)(K:Kind α):SpO (Kind.sl e K):=⟨Option Addr×Nat,fun a xs=>[.slice a.1 xs.length a.2],fun a xs=>[ow K e (.slice a.1 xs.length a.2) xs],fun I h x cs o=>by
 obtain ⟨v,rfl,r⟩:=o
 obtain ⟨a,c,rfl⟩:=tL r
 exact ⟨(a,c),rfl,h,Hp.none,Join.none' _,r,rfl⟩⟩
def SpO.pair {A:Kind α}{B:Kind β}(a:SpO A)(b:SpO B):SpO (Kind.pair A B):=⟨a.A×b.A,fun p x=>a.cells p.1 x.1++b.cells p.2 x.2,fun p x=>a.ents p.1 x.1++b.ents p.2 x.2,fun I h x cs o=>by
 obtain ⟨h1,h2,l,r,j,rfl,o1,o2⟩:=o
 obtain ⟨p,rfl,e⟩:=a.sp _ _ _ _ o1
 obtain ⟨q,rfl,i⟩:=b.sp _ _ _ _ o2
 exact ⟨(p,q),rfl,cY.2 ⟨h1,h2,j,e,i⟩⟩⟩
def SpO.iso {K:Kind α}(a:SpO K)(f:β→α):SpO (Kind.iso K f):=⟨a.A,fun p x=>a.cells p (f x),fun p x=>a.ents p (f x),fun I h x cs o=>a.sp I h (f x) cs o⟩
structure Zr {α:Type}(K:Kind α) where
 z:α
 cs:List Value
 len:cs.length=K.sz
 own:∀ I,K.own I Hp.none z cs
def Zr.scal (enc:α→Value)(h1:∀ x,(enc x).oneCell'=true)(z:α):Zr (Kind.scal enc h1):=⟨z,[enc z],rfl,fun I=>⟨rfl,rfl⟩⟩
def Zr.sl (e:Nat)(K:Kind α):Zr (Kind.sl e K):=⟨[],[.slice none 0 0],rfl,fun I=>⟨_,rfl,.inl ⟨none,rfl,rfl,rfl⟩⟩⟩
def Zr.pair {A:Kind α}{B:Kind β}(a:Zr A)(b:Zr B):Zr (Kind.pair A B):=⟨(a.z,b.z),a.cs++b.cs,by rw [List.length_append,a.len,b.len]; rfl,fun I=>⟨Hp.none,Hp.none,_,_,Join.none _,rfl,a.own I,b.own I⟩⟩
def Zr.iso {K:Kind α}(a:Zr K)(f:β→α)(z:β)(h:f z=a.z):Zr (Kind.iso K f):=⟨z,a.cs,a.len,fun I=>by show K.own I Hp.none (f z) a.cs; rw [h]; exact a.own I⟩
def Zr.share {K:Kind α}(a:Zr K):Zr K.share:=⟨a.z,a.cs,a.len,fun I=>⟨rfl,K.own_rd (Hp.le_refl I) (Hp.none_le I) (a.own I)⟩⟩
theorem Zr.zk {P:Program}{K:Kind α}{e:TypeId}(a:Zr K)(h:kW P e=some a.cs):po P K e a.z:=⟨a.cs,h,a.len,a.own⟩
theorem qq {K:Kind α}{I J:Hp}(l:Hp.le I J):∀ (xs:List α) (h:Hp) (cs:List Value),Hp.le h J→gU K I h xs cs→gU K.share J Hp.none xs cs:=by
 intro xs
 induction xs with
 | nil=>intro h cs _ o; exact ⟨rfl,o.2⟩
 | cons x xs ih =>
  rintro h cs q ⟨h1,h2,r,i,j,e,a,b⟩
  exact ⟨Hp.none,Hp.none,r,i,Join.none _,e,⟨rfl,K.own_rd l (Hp.le_trans j.left q) a⟩,ih h2 i (Hp.le_trans j.right q) b⟩
theorem St.wk {C w:World}{V:List HP}{K:Kind α}{e:Nat}{v:Value}{xs:List α}(s:St C w V)(i:Nat)(U:lk V i=ow K e v xs):St C w (ow K.share e v xs::Pg.rm V i):=by
 obtain ⟨a,I,h,g,j,l,s⟩:=s.mv i
 obtain ⟨h1,h2,B,p,s'⟩:=s
 rw [U] at p
 have p:pj K e I h1 v xs:=p
 rcases p with ⟨A,rfl,rfl,rfl⟩|⟨b,c,pre,u,r,fr,L,rfl,q2,q3,q4,q5,D,Z⟩
 ·exact ⟨a,I,h,g,j,l,Hp.none,h2,B,.inl ⟨A,rfl,rfl,rfl⟩,s'⟩
 ·obtain ⟨k,k1,k2⟩:=Join.assoc' B j
  obtain ⟨J,F⟩:=Join.of_disj (h1:=I) (h2:=L) (fun x=>by
   rcases k1.disj x with f | f
   ·exact .inl f
   ·exact .inr ((D.is_none x).1 f).2)
  obtain ⟨O,M⟩:=Join.of_disj (h1:=Hp.one b (.cells (pre++u++r).toArray e fr)) (h2:=h2) (fun x=>by
   rcases B.disj x with f | f
   ·exact .inl ((D.is_none x).1 f).1
   ·exact .inr f)
  obtain ⟨G,T⟩:=Join.of_disj (h1:=J) (h2:=O) (fun x=>by
   by_cases hx:J x=Option.none
   ·exact .inl hx
   ·refine .inr ((M.is_none x).2 ?_)
    cases hI:I x with
    | some o =>
     have:h x=Option.none:=by
      rcases j.disj x with f | f
      ·rw [hI] at f; cases f
      ·exact f
     have:=(B.is_none x).1 this
     exact ⟨((D.is_none x).1 this.1).1,this.2⟩
    | none =>
     have E:L x≠Option.none:=fun Y=>hx ((F.is_none x).2 ⟨hI,Y⟩)
     refine ⟨?_,?_⟩
     ·rcases D.disj x with f | f
      ·exact f
      ·exact absurd f E
     ·rcases B.disj x with f | f
      ·exact absurd ((D.is_none x).1 f).2 E
      ·exact f)
  refine ⟨a,J,O,G,T,?_,_,h2,M,.inr ⟨b,c,pre,u,r,fr,Hp.none,rfl,q2,q3,q4,q5,Join.none' _,qq F.left xs L u F.right Z⟩,j4 F.left s'⟩
  intro x o q
  rcases T.cases q with ⟨q,_⟩|⟨q,_⟩
  ·rcases F.cases q with ⟨q,_⟩|⟨q,_⟩
   ·exact l x o (j.left x o q)
   ·exact l x o (j.right x o (B.left x o (D.right x o q)))
  ·rcases M.cases q with ⟨q,_⟩|⟨q,_⟩
   ·exact l x o (j.right x o (B.left x o (D.left x o q)))
   ·exact l x o (j.right x o (B.right x o q))
end
section
variable {X:Cx}{V:List HP}{σ:dQ}{Q:Exit→dQ→World→Prop}{ops:Array Oper}{rest:List Oper}
variable {d:Option Nat}{ty:TypeId}{pos:String}{af:Array Edge}{gd:Option (Nat×Bool)}
theorem dA {T:TypeId}{x:Operand}{b k n:Nat}{cs ds:List Value}{a:Nat}(i:Nat)(h:fO X.P T=some true)(q:iK X.P T=some n)
  (e:lk V i=aK b cs a) (r:ev σ x=.pointer (some ⟨b,k,none⟩)) (j:(cs.drop k).take n=ds) (l:ds.length=n):VO X V σ ⟨d,.load T x,ty,pos,af,gd⟩ (.agg ds.toArray):=by
 subst j
 exact vC i h q e r l
end
section
variable {α:Type}
theorem MkO.list {K:Kind α}(M:MkO K):∀ (ps:List (M.A×α)) (I h:Hp),fH (ps.flatMap fun p=>M.ents p.1 p.2) I h→gU K I h (ps.map (·.2)) (ps.flatMap fun p=>M.cells p.1 p.2):=by
 intro ps
 induction ps with
 | nil=>intro I h s; exact ⟨s,rfl⟩
 | cons p ps ih =>
  intro I h s
  rw [List.flatMap_cons] at s
  obtain ⟨h1,h2,j,a,b⟩:=cY.1 s
  exact ⟨h1,h2,_,_,j,by rw [List.flatMap_cons],M.put _ _ _ _ a,ih I h2 b⟩
theorem MkS.list {K:Kind α}(M:MkS K):∀ (ps:List (M.A×α)) (I h:Hp),fH (ps.flatMap fun p=>M.ents p.1 p.2) I h→gU K.share I h (ps.map (·.2)) (ps.flatMap fun p=>M.cells p.1 p.2):=by
 intro ps
 induction ps with
 | nil=>intro I h s; exact ⟨s,rfl⟩
 | cons p ps ih =>
  intro I h s
  rw [List.flatMap_cons] at s
  obtain ⟨h1,h2,j,a,b⟩:=cY.1 s
  exact ⟨h1,h2,_,_,j,by rw [List.flatMap_cons],M.put _ _ _ _ a,ih I h2 b⟩
theorem DecK.flat {K:Kind α}(a:DecK K){b:α→List Value}(h:∀ p x,a.cells p x=b x):∀ I x cs,K.rd I x cs→cs=b x:=fun I x cs r=>by
 obtain ⟨p,rfl,_⟩:=a.dec I x cs r
 exact h p x
end
theorem ov {a b:Bool}(e:a=true)(h:b=true):(a&&b)=true:=by rw [e,h]; rfl
theorem cZ {a:Bool}(b:a=false):(!a)=true:=by rw [b]; rfl
theorem vb {a b:Bool}(h:a=b):Value.bool a=Value.bool b:=by rw [h]
def bP {α:Type}[Inhabited α](c:Bool)(x:Option α):Option α:=cond c x (some default)
theorem bM {α:Type}[Inhabited α]{c:Bool}{x:Option α}{r:α}(h:bP c x=some r)(a:c=true):x=some r:=by
 rw [a] at h
 exact h
section
variable {X:Cx}{V:List HP}{σ:dQ}{Q:Exit→dQ→World→Prop}{ops:Array Oper}{rest:List Oper}
variable {d:Option Nat}{ty:TypeId}{pos:String}{af:Array Edge}{gd:Option (Nat×Bool)}
theorem jF {S:TypeId}{x:Operand}{f fo b k a:Nat}(i:dK X.P S f=some fo)(j:ev σ x=.pointer (some ⟨b,k,none⟩))(e:k+fo=a):VO X V σ ⟨d,.fieldAddr S x f,ty,pos,af,gd⟩ (.pointer (some ⟨b,a,none⟩)):=by
 have h:=vD (X:=X) (V:=V) (d:=d) (ty:=ty) (pos:=pos) (af:=af) (gd:=gd) i j
 rw [gH,e] at h
 exact h
theorem jt {A:Type}{x:Code}(pf:A→Prop)(h:A→List (Nat×Value))(b:A→List HP)(j:TC X V σ x (iU (Jn X pf h b) Q))(l:∀ a σ',pf a→TQ X (b a) (qi σ' (h a)) .normal Q):TC X V σ x Q:=by
 intro w s
 refine W.mono (j w s) ?_
 intro e σ' r q
 cases e with
 | normal =>
  obtain ⟨a,i,h1,h2⟩:=q
  have:=l a σ' i r h2
  rw [m8 h1] at this
  exact this
 | _=>exact q
theorem eZ {T:TypeId}{x:Operand}{g k fo:Nat}{v:Value}{cs:List Value}(i:Nat)(b:fO X.P T=some false)(a:lk V i=cl g k cs)(h:ev σ x=.pointer (some ⟨g,k+fo,none⟩))(e:sy cs fo=some v):VO X V σ ⟨d,.load T x,ty,pos,af,gd⟩ v:=by
 intro w s
 have:=rD s i a fo v (by rw [← kV]; exact e)
 simp only [execOp,Instr.loadAt,h,Instr.sureAddr,Sem.run_bind,Sem.run_pure,Result.andThen_ok,fD b this]
theorem eK {T:TypeId}{x:Operand}{g k fo n:Nat}{cs ds:List Value}(i:Nat)(h:fO X.P T=some true)(r:iK X.P T=some n)(e:lk V i=cl g k cs)(B:ev σ x=.pointer (some ⟨g,k+fo,none⟩))(l:(cs.drop fo).take n=ds)(q:ds.length=n) :
  VO X V σ ⟨d,.load T x,ty,pos,af,gd⟩ (.agg ds.toArray):=by
 intro w s
 have:=rD s i e
 have h2:=fR (P:=X.P) (w:=w) (a:=⟨g,k+fo,none⟩) (cs:=ds) h (by rw [q]; exact r) (fun j u b=>by
  rw [gH,Nat.add_assoc]
  refine this _ _ ?_
  rw [← l,List.getElem?_take] at b
  split at b
  ·rwa [List.getElem?_drop] at b
  ·cases b)
 simp only [execOp,Instr.loadAt,B,Instr.sureAddr,Sem.run_bind,Sem.run_pure,Result.andThen_ok,h2]
end
section
variable {α:Type}{P:Program}{f:FuncId}{args:List Value}
def rI:List HP→List HP→Prop
 | [],[]=>True
 | p::A',q::A=>(∀ I J h,Hp.le I J→Hp.le h J→p.p I h→q.p J Hp.none)∧rI A' A
 | _,_=>False
theorem aU {K:Kind α}{e:Nat}{v:Value}{xs:List α}:∀ I J h,Hp.le I J→Hp.le h J→(ow K e v xs).p I h→(aO K v xs).p J Hp.none:=fun I J h l m p=>⟨rfl,lc l m p⟩
theorem mL {K:Kind α}{e:Nat}{v:Value}{xs:List α}:∀ I J h,Hp.le I J→Hp.le h J→(ow K.share e v xs).p I h→(aO K v xs).p J Hp.none:=fun I J h l m p=>⟨rfl,lc (K:=K.share) l m p⟩
theorem eQ {K:Kind α}{e:Nat}{v:Value}{xs:List α}:kh (ow K.share e v xs) K v xs:=aD (K:=K.share)
theorem St.shs {C w:World}{V:List HP}{K:Kind α}{e:Nat}{v:Value}{xs:List α}(s:St C w V)(i:Nat)(a:lk V i=ow K.share e v xs):St C w (aO K v xs::Pg.rm V i):=St.shr (K:=K.share) s i a
theorem qr:∀ (A' A:List HP),rI A' A→∀ I J h,Hp.le I J→Hp.le h J→fH A' I h→fH A J Hp.none:=by
 intro A'
 induction A' with
 | nil =>
  intro A e I J h _ _ s
  cases A with
  | nil=>rfl
  | cons q A=>exact e.elim
 | cons p A' ih =>
  intro A e I J h lI i s
  cases A with
  | nil=>exact e.elim
  | cons q A =>
   obtain ⟨h1,h2,j,a,b⟩:=s
   exact ⟨Hp.none,Hp.none,Join.none _,e.1 I J h1 lI (Hp.le_trans j.left i) a,ih A e.2 I J h2 lI (Hp.le_trans j.right i) b⟩
theorem FnOk.lends {T:Type}{A' A B:List HP}{a:T→Value×List HP}(Y:FnOk P f args (A++B) a)(Z:rI A' A)(hp:∀ x,AllC (a x).2):FnOk P f args (A'++B) (fun x=>((a x).1,A'++(a x).2)):=by
 rintro C w V ⟨sm,I,hh,g,j,lw,J⟩
 rw [List.append_assoc] at J
 obtain ⟨h1,h2,j',p,s⟩:=cY.1 J
 obtain ⟨s1,r,j2,sP,sV⟩:=cY.1 s
 obtain ⟨k,k1,k2⟩:=Join.assoc' j' j
 have st:St C w (A++B++(DU I::DU h1::V.map (Cn I))):=by
  refine ⟨sm,k,h2,g,k2,lw,?_⟩
  rw [List.append_assoc]
  exact cY.2 ⟨Hp.none,h2,Join.none h2,qr A' A Z I k h1 k1.left k1.right p,cY.2 ⟨s1,r,j2,j4 k1.left sP,Hp.none,r,Join.none r,⟨rfl,k1.left⟩,Hp.none,r,Join.none r,⟨rfl,k1.right⟩,vJ k1.left sV⟩⟩
 refine Calls.mono' (Y C w _ st) ?_
 rintro e' w' ⟨x,rfl,E,I',i,g',l,h,F⟩
 refine ⟨x,rfl,E,?_⟩
 obtain ⟨q1,q2,jq,sR,b1,b2,jb,⟨rfl,lI⟩,c1,c2,jc,⟨rfl,G⟩,D⟩:=cY.1 F
 have M:=jb.eq_of_none
 have O:=jc.eq_of_none
 subst O; subst M
 have L:∀ b,h1 b=Option.none∨i b=Option.none:=fun b=>by
  cases hb:h1 b with
  | none=>exact .inl rfl
  | some o =>
   refine .inr ?_
   rcases l.disj b with f | f
   ·rw [G b o hb] at f; cases f
   ·exact f
 obtain ⟨m,u⟩:=Join.of_disj L
 obtain ⟨U,q⟩:=Join.of_disj (h1:=I) (h2:=m) (fun b=>by
  cases hb:I b with
  | none=>exact .inl rfl
  | some o =>
   refine .inr ((u.is_none b).2 ⟨?_,?_⟩)
   ·rcases k1.disj b with f | f
    ·rw [hb] at f; cases f
    ·exact f
   ·rcases l.disj b with f | f
    ·rw [lI b o hb] at f; cases f
    ·exact f)
 refine ⟨I,m,U,q,?_,?_⟩
 ·intro b o e
  rcases q.cases e with ⟨e,_⟩|⟨e,_⟩
  ·exact h b o (l.left b o (lI b o e))
  ·rcases u.cases e with ⟨e,_⟩|⟨e,_⟩
   ·exact h b o (l.left b o (G b o e))
   ·exact h b o (l.right b o e)
 ·rw [List.append_assoc]
  exact cY.2 ⟨h1,i,u,p,cY.2 ⟨q1,q2,jq,pu (Cm (hp x)) sR,vK D⟩⟩
end
end Go.Pg
namespace Go.Pg
def jv (i j:Nat):Nat:=cond (Nat.blt i j) (j - 1) j
def qt:Nat→List Nat→Bool
 | _,[]=>true
 | n,i::is=>Nat.blt i n&&is.all (fun j=>!Nat.beq i j)&&qt n is
theorem Ae:∀ (A:List HP) (i j:Nat),i≠j→lk (rm A i) (jv i j)=lk A j:=by
 intro A
 induction A with
 | nil=>intro i j _; cases i<;>rfl
 | cons p A ih =>
  intro i j a
  cases i with
  | zero =>
   cases j with
   | zero=>exact absurd rfl a
   | succ j=>rfl
  | succ i =>
   cases j with
   | zero =>
    have:jv (i+1) 0=0:=by simp [jv,Nat.blt]
    rw [this]; rfl
   | succ j =>
    have q:jv (i+1) (j+1)=jv i j+1:=by
     have l:Nat.blt (i+1) (j+1)=Nat.blt i j:=by
      cases h:Nat.blt i j with
      | true=>have:=Nat.le_of_ble_eq_true h; exact Nat.ble_eq_true_of_le (by omega)
      | false =>
       cases h2:Nat.blt (i+1) (j+1) with
       | false=>rfl
       | true =>
        have:=Nat.le_of_ble_eq_true h2
        have b:Nat.blt i j=true:=Nat.ble_eq_true_of_le (by omega)
        rw [b] at h; cases h
     unfold jv
     rw [l]
     cases h:Nat.blt i j with
     | true=>have:=Nat.le_of_ble_eq_true h; show j+1 - 1=j - 1+1; omega
     | false=>rfl
    rw [q]
    exact ih i j (fun e=>a (by rw [e]))
theorem tM {I:Hp}:∀ (n:Nat) (is:List Nat) (A:List HP) (h:Hp),is.length≤n→(∀ i∈is,i<A.length)→is.Nodup→fH A I h→∃ D,Hp.le D h∧fH (is.map (lk A)) I D:=by
 intro n
 induction n with
 | zero =>
  intro is A h L _ _ _
  have:is=[]:=List.eq_nil_of_length_eq_zero (by omega)
  subst this
  exact ⟨Hp.none,Hp.none_le _,rfl⟩
 | succ n ih =>
  intro is A h L u G s
  cases is with
  | nil=>exact ⟨Hp.none,Hp.none_le _,rfl⟩
  | cons i is =>
   obtain ⟨h1,h2,j,a,b⟩:=fJ i s
   have q:=List.nodup_cons.1 G
   have O:=u i (by simp)
   have T:(rm A i).length+1=A.length:=by
    clear ih L u G q s j a b h1 h2
    induction A generalizing i with
    | nil=>cases O
    | cons p A ihA =>
     cases i with
     | zero=>rfl
     | succ i=>exact congrArg (·+1) (ihA i (by simpa using O))
   have r:∀ x∈is,x≠i:=fun x B e=>q.1 (e▸B)
   obtain ⟨D,l,s'⟩:=ih (is.map (jv i)) (rm A i) h2 (by simp at L ⊢; omega) (by
    intro x B
    obtain ⟨y,J,rfl⟩:=List.mem_map.1 B
    have Y:=u y (by simp [J])
    have Z:=r y J
    unfold jv
    cases hb:Nat.blt i y with
    | true=>have:=Nat.le_of_ble_eq_true hb; show y - 1<_; omega
    | false =>
     have:¬ i<y:=fun E=>by
      have F:Nat.blt i y=true:=Nat.ble_eq_true_of_le E
      rw [F] at hb; cases hb
     show y<_
     omega) (by
    unfold List.Nodup
    rw [List.pairwise_map]
    refine List.Pairwise.imp_of_mem (fun {x y} B J hne=>?_) q.2
    have Y:=r x B
    have Z:=r y J
    intro e
    unfold jv at e
    cases hb:Nat.blt i x<;>cases hc:Nat.blt i y<;>rw [hb,hc] at e
    ·exact hne e
    ·have:=Nat.le_of_ble_eq_true hc
     have M:¬ i<x:=fun E=>by
      have F:Nat.blt i x=true:=Nat.ble_eq_true_of_le E
      rw [F] at hb; cases hb
     have e:x=y - 1:=e
     omega
    ·have:=Nat.le_of_ble_eq_true hb
     have M:¬ i<y:=fun E=>by
      have F:Nat.blt i y=true:=Nat.ble_eq_true_of_le E
      rw [F] at hc; cases hc
     have e:x - 1=y:=e
     omega
    ·have:=Nat.le_of_ble_eq_true hb
     have:=Nat.le_of_ble_eq_true hc
     have e:x - 1=y - 1:=e
     omega) b
   have he:(is.map (jv i)).map (lk (rm A i))=is.map (lk A):=by
    rw [List.map_map]
    refine List.map_congr_left fun x B=>?_
    exact Ae A i x (fun e=>r x B e.symm)
   rw [he] at s'
   obtain ⟨g,U⟩:=Join.of_disj (h1:=h1) (h2:=D) (fun b=>by
    rcases j.disj b with f | f
    ·exact .inl f
    ·refine .inr ?_
     cases hq:D b with
     | none=>rfl
     | some o=>rw [l b o hq] at f; cases f)
   refine ⟨g,fun b o e=>?_,h1,D,U,a,s'⟩
   rcases U.cases e with ⟨e,_⟩|⟨e,_⟩
   ·exact j.left b o e
   ·exact j.right b o (l b o e)
theorem sD:∀ (n:Nat) (is:List Nat),qt n is=true→(∀ i∈is,i<n)∧is.Nodup:=by
 intro n is
 induction is with
 | nil=>intro _; exact ⟨fun _ h=>(by cases h),List.nodup_nil⟩
 | cons i is ih =>
  intro h
  simp only [qt,Bool.and_eq_true,List.all_eq_true,Bool.not_eq_true'] at h
  obtain ⟨⟨h1,h2⟩,e⟩:=h
  obtain ⟨g1,b⟩:=ih e
  refine ⟨fun x a=>?_,List.nodup_cons.2 ⟨fun j=>?_,b⟩⟩
  ·rcases List.mem_cons.1 a with rfl | a
   ·exact Nat.lt_of_lt_of_le (Nat.lt_succ_self _) (Nat.le_of_ble_eq_true h1)
   ·exact g1 x a
  ·have:=h2 i j
   rw [show Nat.beq i i=true from Nat.beq_refl i] at this
   cases this
theorem y9:∀ (n:Nat) (V:List HP),n≤V.length→(tk n V).length=n:=by
 intro n
 induction n with
 | zero=>intro V _; rfl
 | succ n ih =>
  intro V h
  cases V with
  | nil=>simp at h
  | cons p V=>exact congrArg (·+1) (ih V (by simpa using h))
theorem Af:∀ (n:Nat) (V:List HP) (i:Nat),i<n→lk (tk n V) i=lk V i:=by
 intro n
 induction n with
 | zero=>intro V i h; cases h
 | succ n ih =>
  intro V i h
  cases V with
  | nil=>rfl
  | cons p V =>
   cases i with
   | zero=>rfl
   | succ i=>exact ih V i (by omega)
def zO:Nat→List HP→Bool
 | 0,_=>true
 | _+1,[]=>false
 | n+1,_::V=>zO n V
theorem tN:∀ (n:Nat) (V:List HP),zO n V=true→n≤V.length:=by
 intro n
 induction n with
 | zero=>intro V _; exact Nat.zero_le _
 | succ n ih =>
  intro V h
  cases V with
  | nil=>cases h
  | cons p V=>exact Nat.succ_le_succ (ih V h)
theorem St.sel {C w:World}{V:List HP}(s:St C w V)(n:Nat)(is:List Nat)(h:qt n is=true)(u:zO n V=true):St C w (is.map (lk V)++dp n V):=by
 obtain ⟨h1,h2⟩:=sD n is h
 have u:=tN n V u
 rw [← n8 n V] at s
 obtain ⟨a,I,T,g,j,l,s⟩:=s
 obtain ⟨g1,D,B,U,Y⟩:=cY.1 s
 obtain ⟨q,J,M⟩:=tM is.length is (tk n V) g1 (Nat.le_refl _) (fun i r=>by rw [y9 n V u]; exact h1 i r) h2 U
 have O:is.map (lk (tk n V))=is.map (lk V):=List.map_congr_left fun i r=>Af n V i (h1 i r)
 rw [O] at M
 obtain ⟨m,F⟩:=Join.of_disj (h1:=q) (h2:=D) (fun b=>by
  rcases B.disj b with f | f
  ·refine .inl ?_
   cases hq:q b with
   | none=>rfl
   | some o=>rw [J b o hq] at f; cases f
  ·exact .inr f)
 have L:Hp.le m T:=fun b o e=>by
  rcases F.cases e with ⟨e,_⟩|⟨e,_⟩
  ·exact B.left b o (J b o e)
  ·exact B.right b o e
 obtain ⟨G,E⟩:=Join.of_disj (h1:=I) (h2:=m) (fun b=>by
  rcases j.disj b with f | f
  ·exact .inl f
  ·refine .inr ?_
   cases hq:m b with
   | none=>rfl
   | some o=>rw [L b o hq] at f; cases f)
 refine ⟨a,I,m,G,E,fun b o e=>?_,cY.2 ⟨q,D,F,M,Y⟩⟩
 rcases E.cases e with ⟨e,_⟩|⟨e,_⟩
 ·exact l b o (j.left b o e)
 ·exact l b o (j.right b o (L b o e))
section
variable {X:Cx}{V:List HP}{σ:dQ}{Q:Exit→dQ→World→Prop}{cd:Code}{α:Type}
theorem ya {K:Kind α}{a:Option Addr}{n c:Nat}{xs:List α}(i:Nat)(l:kh (lk V i) K (.slice a n c) xs)(b:a.isNone=true)(h:xs=[]→TC X V σ cd Q):TC X V σ cd Q:=by
 intro w s
 obtain ⟨J,lw,A,r,q,h2,u,e⟩:=s.reads l
 refine h ?_ w s
 cases xs with
 | nil=>rfl
 | cons x xs =>
  obtain ⟨g,o,j,_⟩:=e (by simp)
  injection q with e1 _ _
  rw [e1,j] at b
  cases b
end
end Go.Pg
namespace Go.Pg
theorem SetL.flat {α:Type}{K:Kind α}(S:SpO K)(M:MkO K)(A:M.A){fo:Nat}{v:Value}{f:α→α}(h1:Nat.blt fo K.sz=true)(h2:∀ a x,S.ents a x=[])(b:∀ x,M.ents A (f x)=[])(e:∀ a x,(S.cells a x).set fo v=M.cells A (f x)):SetL K fo v f:=by
 refine ⟨Nat.lt_of_lt_of_le (Nat.lt_succ_self _) (Nat.le_of_ble_eq_true h1),fun I h x cs o=>?_⟩
 obtain ⟨a,rfl,s⟩:=S.sp I h x cs o
 rw [h2] at s
 have s:h=Hp.none:=s
 subst s
 rw [e]
 exact M.put I Hp.none A (f x) (by rw [b]; rfl)
theorem SetL.deep {α:Type}{K:Kind α}(S:SpO K)(M:MkO K)(c:S.A→α→M.A){fo:Nat}{v:Value}{f:α→α}(h1:Nat.blt fo K.sz=true)(h2:∀ a x,S.ents a x=M.ents (c a x) (f x))(b:∀ a x,(S.cells a x).set fo v=M.cells (c a x) (f x)):SetL K fo v f:=by
 refine ⟨Nat.lt_of_lt_of_le (Nat.lt_succ_self _) (Nat.le_of_ble_eq_true h1),fun I h x cs o=>?_⟩
 obtain ⟨a,rfl,s⟩:=S.sp I h x cs o
 rw [b]
 exact M.put I h (c a x) (f x) (by rw [← h2]; exact s)
end Go.Pg
namespace Go.Pg
section
variable {α:Type}
def sF (K:Kind α)(e:Nat)(v:Value)(xs:List α)(j:Nat)(cs:List Value):HP where
 p I h:=∃ g c pre i r a fr h1,v=.slice (some ⟨g,pre.length,none⟩) xs.length c∧xs.length≤c∧c≤maxLen∧a.length=(c - xs.length)*K.sz ∧
  (fr=(0,0)∨pre.length+(i++cs++r).length+a.length≤fr.1)∧i.length=j*K.sz∧Join (Hp.one g (.cells (pre++(i++cs++r)++a).toArray e fr)) h1 h ∧
  ∀ q s x' b g',Hp.le I q→Join s h1 g'→K.own q s x' b→gU K q g' (xs.set j x') (i++b++r)
 mono:=by
  rintro I J h l ⟨g,c,pre,i,r,a,fr,h1,p1,B,D,E,F,G,L,M⟩
  exact ⟨g,c,pre,i,r,a,fr,h1,p1,B,D,E,F,G,L,fun q s x' b g' u=>M q s x' b g' (Hp.le_trans l u)⟩
theorem St.focus [Inhabited α]{K:Kind α}{C w:World}{V:List HP}{e g o n c:Nat}{xs:List α}(S:SpO K)(s:St C w V)(i:Nat)(j:Int)(Y:lk V i=ow K e (.slice (some ⟨g,o,none⟩) n c) xs)(U:0≤j)(h1:j<n) :
  ∃ a,St C w (sF K e (.slice (some ⟨g,o,none⟩) n c) xs j.toNat (S.cells a (ix xs j))::(S.ents a (ix xs j)++Pg.rm V i)):=by
 obtain ⟨sm,I,Z,O,jg,l,B,h2,jS,p,st⟩:=s.mv i
 rw [Y] at p
 have p:pj K e I B (.slice (some ⟨g,o,none⟩) n c) xs:=p
 rcases p with ⟨A,r,rfl,_⟩|⟨g',c',pre,F,b,fr,hb,r,q2,q3,q4,q5,jo,ol⟩
 ·injection r with _ r _
  omega
 injection r with e1 e2 e3
 injection e1 with e1
 injection e1 with e1 e4
 subst e1; subst e3; subst e4; subst e2
 obtain ⟨J,c1,L,g1,M,E,h,jn,ox,q⟩:=lb ol (jT U h1)
 obtain ⟨a,rfl,D⟩:=S.sp _ _ _ _ ox
 obtain ⟨m,m1,m2⟩:=Join.assoc' jn.symm jo
 obtain ⟨k,k1,k2⟩:=Join.assoc m2 jS
 exact ⟨a,sm,I,Z,O,jg,l,m,k,k2,⟨g,_,pre,J,L,b,fr,M,rfl,q2,q3,q4,by rw [← E]; exact q5,h,by rw [← E]; exact m1,fun G T x' u g' l' jj oo=>q G T x' u g' l' jj oo⟩,cY.2 ⟨g1,h2,k1,D,st⟩⟩
theorem St.unfocus {K:Kind α}{C w:World}{E V:List HP}{e j:Nat}{v:Value}{xs:List α}{cs:List Value}(x':α)(s:St C w (sF K e v xs j cs::(E++V)))(f:∀ I h,fH E I h→K.own I h x' cs):St C w (ow K e v (xs.set j x')::V):=by
 obtain ⟨sm,I,D,u,J,l,h1,h2,G,⟨g,c,pre,q,r,a,fr,hb,rfl,U,Y,Z,q5,q6,L,b⟩,st⟩:=s
 obtain ⟨i,B,F,sE,sV⟩:=cY.1 st
 obtain ⟨k,k1,M⟩:=Join.assoc' F G
 obtain ⟨m,O,T⟩:=Join.assoc L k1
 refine ⟨sm,I,D,u,J,l,k,B,M,.inr ⟨g,c,pre,q++cs++r,a,fr,m,by rw [List.length_set],by rw [List.length_set]; exact U,Y,by rw [List.length_set]; exact Z,q5,T,b I i x' cs m (Hp.le_refl I) O.symm (f I i sE)⟩,sV⟩
end
section
variable {X:Cx}{V:List HP}{σ:dQ}{Q:Exit→dQ→World→Prop}{ops:Array Oper}{rest:List Oper}{cd:Code}
variable {d:Option Nat}{ty:TypeId}{pos:String}{af:Array Edge}{gd:Option (Nat×Bool)}{α:Type}
theorem mM [Inhabited α]{K:Kind α}{e g o n c:Nat}{xs:List α}(S:SpO K)(i:Nat)(j:Int)(l:lk V i=ow K e (.slice (some ⟨g,o,none⟩) n c) xs)(b:0≤j)(h1:j<n)
  (h:∀ a,TL X ops (sF K e (.slice (some ⟨g,o,none⟩) n c) xs j.toNat (S.cells a (ix xs j))::(S.ents a (ix xs j)++Pg.rm V i)) σ rest Q):TL X ops V σ rest Q:=by
 intro w s
 obtain ⟨a,s'⟩:=s.focus S i j l b h1
 exact h a w s'
theorem tO {K:Kind α}{C w:World}{e g o n c j:Nat}{xs:List α}{cs:List Value}(s:St C w V)(i:Nat)(r:lk V i=sF K e (.slice (some ⟨g,o,none⟩) n c) xs j cs):∀ k u,cs[k]?=some u→w.cell? ⟨g,o+j*K.sz+k,none⟩=some u:=by
 obtain ⟨I,J,p,lI,E,_⟩:=s.look i
 rw [r] at p
 obtain ⟨g',F,pre,h,l,a,fr,G,B,L,M,O,T,U,D,_⟩:=p
 injection B with e1 e2 e3
 injection e1 with e1
 injection e1 with e1 e4
 subst e1; subst e4
 have b:w.heap[g]?=some (.cells (pre++(h++cs++l)++a).toArray e fr):=E g _ (D.left g _ (by simp [Hp.one]))
 intro k u q
 have hk:=(List.getElem?_eq_some_iff.1 q).1
 have:w.cell? ⟨g,pre.length+j*K.sz+k,none⟩=(pre++(h++cs++l)++a)[pre.length+j*K.sz+k]?:=by simp [World.cell?,b]
 rw [this,List.append_assoc,List.getElem?_append_right (by omega),show pre.length+j*K.sz+k - pre.length=j*K.sz+k by omega,List.append_assoc,List.append_assoc,List.getElem?_append_right (by omega),show j*K.sz+k - h.length=k by omega,List.getElem?_append_left hk]
 exact q
theorem oy {K:Kind α}{T:TypeId}{x:Operand}{e g o n c fo j:Nat}{xs:List α}{v:Value}{cs:List Value}(i:Nat)(b:fO X.P T=some false)(a:lk V i=sF K e (.slice (some ⟨g,o,none⟩) n c) xs j cs)(l:ev σ x=.pointer (some ⟨g,o+j*K.sz+fo,none⟩))(h:sy cs fo=some v):VO X V σ ⟨d,.load T x,ty,pos,af,gd⟩ v:=by
 intro w s
 have:=tO s i a fo v (by rw [← kV]; exact h)
 simp only [execOp,Instr.loadAt,l,Instr.sureAddr,Sem.run_bind,Sem.run_pure,Result.andThen_ok,fD b this]
end
end Go.Pg
