import Derived.Test.YtmpnollfdpdipaaGreatPg1
import Derived.Deep.Quiet
import Derived.KernelRfl
import Derived.OrdersHeld
set_option linter.unusedVariables false
set_option linter.unusedSimpArgs false
namespace Go.Pg
def tk:Nat→List HP→List HP
 | 0,_=>[]
 | _,[]=>[]
 | k+1,q::V=>q::tk k V
def dp:Nat→List HP→List HP
 | 0,V=>V
 | _,[]=>[]
 | k+1,_::V=>dp k V
theorem mg (k:Nat)(V:List HP):tk k V++dp k V=V:=by
 induction k generalizing V with
 | zero=>rfl
 | succ k ih =>
  cases V with
  | nil=>rfl
  | cons q V=>simp [tk,dp,ih]
section
variable {X:Cx}{V:List HP}{σ:cY}{Q:Exit→cY→World→Prop}{ops:Array Oper}{rest:List Oper}
variable {d:Option Nat}{ty:TypeId}{pos:String}{af:Array Edge}{gd:Option (Nat×Bool)}
variable {α β:Type}
theorem eF {K:Kind α}{t e:TypeId}{x y:Operand}{s u:Value}{xs ys:List α}{z:α}{q:HP}{b:Nat}(N:Nat)(G:iC X.n d=true)(hw:dN ops σ ⟨d,.call ⟨.builtin .append,#[x,y],#[t,t]⟩,ty,pos,af,gd⟩=true)
  (T:li X.P t=some e) (M:hK X.P e=some K.sz) (L:gM X.P e=some b) (O:o4 X.P K e z) (l:Nat.blt 0 K.sz=true) (E:Nat.ble (N*b) 140737488355328=true) (i:Nat.ble N 140737488355328=true) (g:Nat.blt 0 b=true)
  (hx:ev σ x=s) (U:ev σ y=u) (r:zX q K u ys) (F:xs.length+ys.length≤N)
  (h:∀ a c,TL X ops (ow K e (.slice a (xs++ys).length c) (xs++ys)::V) (fT σ d (.slice a (xs++ys).length c)) rest Q) :
  TL X ops (ow K e s xs::q::V) σ (⟨d,.call ⟨.builtin .append,#[x,y],#[t,t]⟩,ty,pos,af,gd⟩::rest) Q:=by
 intro w st
 have E:=Nat.le_of_ble_eq_true E
 have i:=Nat.le_of_ble_eq_true i
 have l:0<K.sz:=Nat.le_of_ble_eq_true l
 have g:0<b:=Nat.le_of_ble_eq_true g
 have D:(xs.length+ys.length)*b≤140737488355328:=Nat.le_trans (Nat.mul_le_mul_right _ F) E
 obtain ⟨⟨a,c⟩,m,Y,s'⟩:=St.act st.sep 0 (q:=fun p:Option Addr×Nat=>ow K e (.slice p.1 (xs++ys).length p.2) (xs++ys))
  (Ψ:=fun p m=>(Builtin.append_ #[t,t] ty #[s,u]).run X.P w=.ok (.slice p.1 (xs++ys).length p.2) m) (by
   rintro I hh ⟨h1,h2,j,p1,p2⟩ lI lh J
   obtain ⟨a,c,m,h',r1,r2,Z,r4,r5,r6⟩:=tV (ty:=ty) T M L O l j p1 p2 r lI lh J D (Nat.le_trans F i) g
   exact ⟨⟨a,c⟩,m,h',r1,r2 _,Z,r4,r5,r6⟩)
 refine eK G hw ?_
 have B:(execOp (ev σ) ⟨d,.call ⟨.builtin .append,#[x,y],#[t,t]⟩,ty,pos,af,gd⟩).run X.P w=.ok (.value (.slice a (xs++ys).length c)) m:=by
  simp [execOp,resolve,invoke,builtin,hx,U,Y]
 rw [B]
 exact h a c m s'
theorem rI {size:Nat}:∀ (vs:List Value) (k:Nat) (cells:Array Value),(∀ v∈vs,v.cells.size=size)→(k+vs.length)*size≤cells.size →
  ∃ r,Instr.fill (fun i=>some (i*size,size)) cells ((List.range' k vs.length).zip vs)=some r∧r.toList=cells.toList.take (k*size)++(vs.map (·.cells.toList)).flatten++cells.toList.drop ((k+vs.length)*size):=by
 intro vs
 induction vs with
 | nil=>intro k cells _ _; exact ⟨cells,by simp [Instr.fill],by simp⟩
 | cons v vs ih =>
  intro k cells q B
  have h1:=q v (by simp)
  have g:(k+1+vs.length)*size≤cells.size:=by simpa [Nat.add_assoc,Nat.add_comm 1] using B
  have L:k*size+size≤cells.size:=by
   have:(k+1)*size≤(k+1+vs.length)*size:=Nat.mul_le_mul_right _ (by omega)
   rw [Nat.succ_mul] at this
   omega
  have b:∀ (l:List Value) (j:Nat) (cs:Array Value),k*size+j+l.length≤cs.size →
    ((l.zipIdx j).foldl (fun cs (c,j)=>cs.setIfInBounds (k*size+j) c) cs).toList=cs.toList.take (k*size+j)++l++cs.toList.drop (k*size+j+l.length):=by
   intro l
   induction l with
   | nil=>intro j cs _; simp
   | cons u l ihl =>
    intro j cs h
    simp only [List.zipIdx_cons,List.foldl_cons]
    rw [ihl (j+1) _ (by simp at *; omega)]
    simp only [List.length_cons] at h
    rw [Array.toList_setIfInBounds,show k*size+(j+1)=(k*size+j)+1 by omega,List.take_succ_eq_append_getElem (by simp; omega),List.take_set_of_le (Nat.le_refl _),List.drop_set_of_lt (by omega)]
    simp [Nat.add_assoc,Nat.add_comm,Nat.add_left_comm]
  have m:((v.cells.toList.zipIdx 0).foldl (fun cs (c,j)=>cs.setIfInBounds (k*size+j) c) cells).size=cells.size:=by
   generalize v.cells.toList.zipIdx 0=l
   clear h1 ih B g L b q
   induction l generalizing cells with
   | nil=>rfl
   | cons u l ihl=>simp only [List.foldl_cons]; rw [ihl]; simp
  obtain ⟨r,J,e⟩:=ih (k+1) ((v.cells.toList.zipIdx 0).foldl (fun cs (c,j)=>cs.setIfInBounds (k*size+j) c) cells) (fun u E=>q u (by simp [E])) (by rw [m]; exact g)
  refine ⟨r,?_,?_⟩
  ·simp only [List.length_cons,List.range'_succ,List.zip_cons_cons,Instr.fill]
   have G:¬ (v.cells.size≠size∨k*size+v.cells.size>cells.size):=by rw [h1]; omega
   rw [if_neg (by simpa using G)]
   have I:v.cells.zipIdx.foldl (fun cs (c,j)=>cs.setIfInBounds (k*size+j) c) cells=(v.cells.toList.zipIdx 0).foldl (fun cs (c,j)=>cs.setIfInBounds (k*size+j) c) cells:=by
    rw [← Array.foldl_toList]
    congr 1
    simp
   rw [I]
   exact J
  ·rw [e,b v.cells.toList 0 cells (by simp [h1]; omega)]
   have s:(k+1)*size=k*size+v.cells.toList.length:=by rw [Nat.succ_mul]; simp [h1]
   have D:(k+1+vs.length)*size=k*size+v.cells.toList.length+vs.length*size:=by rw [Nat.add_mul,s]
   have F:(k+(vs.length+1))*size=(k+1+vs.length)*size:=by congr 1; omega
   have a:(cells.toList.take (k*size)).length=k*size:=by simp; omega
   simp only [List.length_cons,Nat.add_zero,List.map_cons,List.flatten_cons]
   rw [F,D,s]
   rw [List.take_append_of_le_length (by simp [a]),List.take_of_length_le (by simp [a])]
   rw [List.drop_append,List.drop_of_length_le (by simp [a]),List.nil_append,List.drop_drop]
   simp only [List.append_assoc,List.length_append,a]
   congr 4
   omega
theorem rJ {K:Kind α}{t e:TypeId}{m:Nat}{parts:Array (Nat×Operand)}{xs:List α}{vs:List Value}{z:List Value}(k:Nat)(hd:iC X.n d=true)(hw:dN ops σ ⟨d,.buildSlice t m parts,ty,pos,af,gd⟩=true)
  (ht:li X.P t=some e) (hs:hK X.P e=some K.sz) (hz:ku X.P e=some z) (Z:z.length=K.sz) (a1:Nat.blt 0 K.sz=true) (hp:parts.toList.map (fun p=>(p.1,ev σ p.2))=(List.range' 0 m).zip vs) (hm:vs.length=m) (hv:vs.all (fun v=>Nat.beq v.cells.size K.sz)=true) (G:Nat.ble (m*K.sz) 16777216=true)
  (hx:∀ I h,eO (tk k V) I h→gB K I h xs (vs.map (·.cells.toList)).flatten) (B:xs.length=m)
  (h:∀ g c,TL X ops (ow K e (.slice (some ⟨g,0,none⟩) xs.length c) xs::dp k V) (fT σ d (.slice (some ⟨g,0,none⟩) xs.length c)) rest Q):TL X ops V σ (⟨d,.buildSlice t m parts,ty,pos,af,gd⟩::rest) Q:=by
 intro w s
 refine eK hd hw ?_
 have hu:=iR ht
 have T:∀ v∈vs,v.cells.size=K.sz:=fun v O=>Nat.eq_of_beq_eq_true (List.all_eq_true.1 hv v O)
 have G:=Nat.le_of_ble_eq_true G
 obtain ⟨Y,a0,U⟩:=kz (P:=X.P) (w:=w) hz
 have a2:Y.cells.size=K.sz:=by rw [U]; simpa using Z
 obtain ⟨r,F,e'⟩:=rI (size:=K.sz) vs 0 ((Array.range (m*K.sz)).map ((if m*K.sz=0 then #[] else Y.cells)[· % (if m*K.sz=0 then #[] else Y.cells).size]!)) T (by simp [hm])
 have er:r=((vs.map (·.cells.toList)).flatten).toArray:=by
  apply Array.ext'
  rw [e',hm]
  simp
 have E:(execOp (ev σ) ⟨d,.buildSlice t m parts,ty,pos,af,gd⟩).run X.P w=.ok (.value (.slice (some ⟨w.heap.size,0,none⟩) m m)) (w.alloc (.cells ((vs.map (·.cells.toList)).flatten).toArray e)):=by
  have J:(parts.map fun (i,x)=>(i,ev σ x)).toList=(List.range' 0 m).zip vs:=by
   rw [← hp]; simp
  rw [hm] at F
  simp only [execOp,Instr.buildSlice,Sem.run_bind,run_underlying hu,Result.andThen_ok,eE hs]
  rw [if_neg (by omega)]
  by_cases h0:m*K.sz=0
  ·rw [if_pos h0] at F ⊢
   simp only [Sem.run_bind,Sem.run_pure,Result.andThen_ok,J,F,er]
   simp [newRow,Sem.run_bind]
  ·rw [if_neg h0] at F ⊢
   simp only [Sem.run_bind,Sem.run_pure,Result.andThen_ok,a0,J,F,er]
   simp [newRow,Sem.run_bind]
 rw [E]
 have h':=h w.heap.size m
 rw [B] at h'
 refine h' _ ?_
 rw [← mg k V] at s
 obtain ⟨sm,I,hh,g,j,l,st⟩:=s
 obtain ⟨h1,h2,D,sa,sb⟩:=cA.1 st
 have lh:Le h1 w:=l.mono (Hp.le_trans D.left j.right)
 have q:∀ b o,g b=some o→b≠w.heap.size:=fun b o e=>by
  have:=l.lt (b:=b) (by rw [e]; exact fun h=>by cases h)
  omega
 obtain ⟨L,M⟩:=Join.of_disj (h1:=Hp.one w.heap.size (.cells ((vs.map (·.cells.toList)).flatten).toArray e (0,0))) (h2:=h1) (fun b=>by
  by_cases hb:b=w.heap.size
  ·refine .inr ?_
   cases hq:h1 b with
   | none=>rfl
   | some o=>exact absurd hb (q b o (j.right b o (D.left b o hq)))
  ·exact .inl (by simp [Hp.one,hb]))
 obtain ⟨k1,jk⟩:=Join.of_disj (h1:=L) (h2:=h2) (fun b=>by
  by_cases hb:b=w.heap.size
  ·refine .inr ?_
   cases hq:h2 b with
   | none=>rfl
   | some o=>exact absurd hb (q b o (j.right b o (D.right b o hq)))
  ·rcases D.disj b with f | f
   ·exact .inl ((M.is_none b).2 ⟨by simp [Hp.one,hb],f⟩)
   ·exact .inr f)
 obtain ⟨g',jg⟩:=Join.of_disj (h1:=I) (h2:=k1) (fun b=>by
  by_cases hb:b=w.heap.size
  ·refine .inl ?_
   cases hq:I b with
   | none=>rfl
   | some o=>exact absurd hb (q b o (j.left b o hq))
  ·rcases j.disj b with f | f
   ·exact .inl f
   ·have:=(D.is_none b).1 f
    exact .inr ((jk.is_none b).2 ⟨(M.is_none b).2 ⟨by simp [Hp.one,hb],this.1⟩,this.2⟩))
 have u:∀ b o,g b=some o→(w.alloc (.cells ((vs.map (·.cells.toList)).flatten).toArray e)).heap[b]?=some o:=fun b o e=>l.alloc _ b o e
 refine ⟨sm.alloc _,I,k1,g',jg,?_,L,h2,jk,?_,sb⟩
 ·intro b o a
  rcases jg.cases a with ⟨a,_⟩|⟨a,_⟩
  ·exact u b o (j.left b o a)
  ·rcases jk.cases a with ⟨a,_⟩|⟨a,_⟩
   ·rcases M.cases a with ⟨a,_⟩|⟨a,_⟩
    ·exact Le.one_new (w:=w) (by show (w.heap.push _)[w.heap.size]?=_; simp) b o a
    ·exact u b o (j.right b o (D.left b o a))
   ·exact u b o (j.right b o (D.right b o a))
 ·refine .inr ⟨w.heap.size,m,[],(vs.map (·.cells.toList)).flatten,[],(0,0),h1,by simp [B],by omega,?_,by simp [B],.inl rfl,by simpa using M,hx I h1 sa⟩
  have:m*1≤m*K.sz:=Nat.mul_le_mul_left _ (Nat.le_of_ble_eq_true a1)
  simp only [maxLen]
  omega
theorem bK {K:Kind α}{t e:TypeId}{m:Nat}{parts:Array (Nat×Operand)}{xs:List α}{vs:List Value}{z:List Value}(k:Nat)(q:iC X.n d=true)(hw:dN ops σ ⟨d,.buildSlice t m parts,ty,pos,af,gd⟩=true)
  (B:li X.P t=some e) (s:hK X.P e=some K.sz) (u:ku X.P e=some z) (b:z.length=K.sz) (l:Nat.blt 0 K.sz=true) (F:parts.toList.map (fun p=>(p.1,ev σ p.2))=(List.range' 0 m).zip vs) (D:vs.length=m) (E:vs.all (fun v=>Nat.beq v.cells.size K.sz)=true) (j:Nat.ble (m*K.sz) 16777216=true)
  (r:∀ I h,eO (tk k V) I h→gB K I h xs (vs.map (·.cells.toList)).flatten) (i:xs.length=m)
  (h:∀ a c,TL X ops (ow K e (.slice a xs.length c) xs::dp k V) (fT σ d (.slice a xs.length c)) rest Q):TL X ops V σ (⟨d,.buildSlice t m parts,ty,pos,af,gd⟩::rest) Q :=
 rJ k q hw B s u b l F D E j r i (fun g c=>h (some ⟨g,0,none⟩) c)
end
end Go.Pg
namespace Go.Pg
section
variable {X:Cx}{V:List HP}{σ:cY}{Q:Exit→cY→World→Prop}{ops:Array Oper}{rest:List Oper}
variable {d:Option Nat}{ty:TypeId}{pos:String}{af:Array Edge}{gd:Option (Nat×Bool)}
variable {α β:Type}
def ll (σ:cY)(o:Option Operand)(a l:Int):Prop:=match o with
 | some x=>ev σ x=.int .i64 l
 | none=>l=a
theorem mh {P:Program}{w:World}{l:Int}{y:Nat}{a:BoundsCode}(b:0≤l)(h1:l≤y):(Instr.sliceBound (.int .i64 l) y a).run P w=.ok l.toNat w:=by
 simp [Instr.sliceBound,asIntOf,b,h1]
theorem lm {P:Program}{w:World}{is:Bool}{n c:Nat}{lo j:Option Operand}{l h:Int}(a:ll σ lo 0 l)(e:ll σ j n h)(r:0≤l)(h1:l≤h)(h2:h≤n)(s:n≤c) :
  (Instr.sliceBounds is n c (lo.map (ev σ)) (j.map (ev σ)) none).run P w=.ok (l.toNat,h.toNat,c) w:=by
 have m:∀ y:Nat,l≤y→(Instr.sliceBound (.int .i64 l) y .sliceB).run P w=.ok l.toNat w:=fun y g=>mh r g
 cases j with
 | none =>
  have:h=n:=e
  subst this
  cases lo with
  | none =>
   have:l=0:=a
   subst this
   simp [Instr.sliceBounds]
  | some x =>
   have i:ev σ x=.int .i64 l:=a
   simp [Instr.sliceBounds,i,m n h1]
 | some y =>
  have g:ev σ y=.int .i64 h:=e
  have q:∀ b,(Instr.sliceBound (.int .i64 h) c b).run P w=.ok h.toNat w:=fun b=>mh (by omega) (by omega)
  cases lo with
  | none =>
   have:l=0:=a
   subst this
   simp [Instr.sliceBounds,g,q]
  | some x =>
   have i:ev σ x=.int .i64 l:=a
   simp [Instr.sliceBounds,i,g,q,m h.toNat (by omega)]
theorem o5 (s:aM):(⟨s.toArray⟩:ByteArray).size=s.length:=by show s.toArray.size=_; simp
def rK (a:Option Addr)(c l sz:Nat):Option Addr:=if c=l then a else a.map (·.add (l*sz))
theorem qz {P:Program}{w:World}{t e:TypeId}{x:Operand}{a:Option Addr}{n c sz:Nat}{lo i:Option Operand}{l h:Int}(B:li P t=some e)(u:hK P e=some sz)(j:ev σ x=.slice a n c)
  (b:ll σ lo 0 l) (g:ll σ i n h) (s:0≤l) (h1:l≤h) (h2:h≤n) (q:n≤c) :
  (execOp (ev σ) ⟨d,.slice t x lo i none,ty,pos,af,gd⟩).run P w=.ok (.value (.slice (rK a c l.toNat sz) (h.toNat - l.toNat) (c - l.toNat))) w:=by
 have m:=iR B
 have r:=lm (P:=P) (w:=w) (is:=true) b g s h1 h2 q
 simp only [execOp,Instr.sliceAt,j,Sem.run_bind,run_underlying m,Result.andThen_ok,Instr.slice,Option.map_none,r,eE u,Sem.run_pure,rK]
theorem pN {xs:List α}{l h:Int}(a:0≤l)(h1:l≤h)(h2:h≤xs.length):(sub xs l h).length=h.toNat - l.toNat:=by
 simp [sub]; omega
theorem tW {xs:List α}{l h:Int}(b:0≤l)(h1:l≤h)(h2:h≤xs.length){j:Nat}{x:α}(a:(sub xs l h)[j]?=some x):xs[l.toNat+j]?=some x:=by
 simp only [sub,List.getElem?_drop,List.getElem?_take] at a
 split at a
 ·exact a
 ·cases a
theorem tX {K:Kind α}{I:Hp}{a:Option Addr}{n c:Nat}{xs:List α}{l h:Int}(r:pK K I (.slice a n c) xs)(m:0≤l)(h1:l≤h)(h2:h≤n):pK K I (.slice (rK a c l.toNat K.sz) (h.toNat - l.toNat) (c - l.toNat)) (sub xs l h):=by
 obtain ⟨A,G,E,J,L,D⟩:=r
 injection E with e1 e2 e3
 subst e1; subst e3; subst e2
 have e:=pN m h1 h2
 refine ⟨_,_,by rw [e],by rw [e]; omega,by rw [e]; omega,fun F=>?_⟩
 rw [e] at F
 obtain ⟨g,o,rfl,b⟩:=D (by omega)
 refine ⟨g,o+l.toNat*K.sz,?_,fun j x s=>?_⟩
 ·unfold rK
  rw [if_neg (by omega)]
  simp [fP]
 ·obtain ⟨cs,p,q⟩:=b _ x (tW m h1 h2 s)
  refine ⟨cs,p,fun i u B=>?_⟩
  have:=q i u B
  rw [Nat.add_mul] at this
  rw [show o+l.toNat*K.sz+j*K.sz+i=o+(l.toNat*K.sz+j*K.sz)+i by omega]
  exact this
theorem fY {K:Kind α}{t e:TypeId}{x:Operand}{a:Option Addr}{n c:Nat}{lo q:Option Operand}{xs:List α}(l h:Int)(i:Nat)(J:iC X.n d=true)(hw:dN ops σ ⟨d,.slice t x lo q none,ty,pos,af,gd⟩=true)
  (M:li X.P t=some e) (L:hK X.P e=some K.sz) (O:lk V i=aO K (.slice a n c) xs) (T:ev σ x=.slice a n c) (m:ll σ lo 0 l) (F:ll σ q n h) (D:0≤l) (h1:l≤h) (h2:h≤n)
  (k:∀ G b,TL X ops (aO K (.slice G (sub xs l h).length b) (sub xs l h)::V) (fT σ d (.slice G (sub xs l h).length b)) rest Q):TL X ops V σ (⟨d,.slice t x lo q none,ty,pos,af,gd⟩::rest) Q:=by
 rintro w ⟨U,I,E,g,j,lw,s⟩
 obtain ⟨g1,Y,Z,p,s'⟩:=eQ i s
 rw [O] at p
 have hn:n=xs.length:=by obtain ⟨_,A,b,u,_⟩:=p; injection u
 have B:n≤c:=by
  obtain ⟨_,A,b,u,hq,_⟩:=p
  injection u with _ _ e3
  omega
 refine eK J hw ?_
 rw [qz M L T m F D h1 h2 B]
 have r:=tX p.2 D h1 h2
 have:=k (rK a c l.toNat K.sz) (c - l.toNat)
 rw [pN D h1 (by omega)] at this
 exact this w ⟨U,I,E,g,j,lw,Hp.none,E,Join.none E,⟨rfl,r⟩,s⟩
theorem dJ {t:TypeId}{x:Operand}{s:aM}(a:X.P.underlying t=some .string)
  (b:ev σ x=aD s):VO X V σ ⟨d,.call ⟨.builtin .len,#[x],#[t]⟩,ty,pos,af,gd⟩ (.int .i64 s.length):=by
 intro w _
 simp [execOp,resolve,invoke,builtin,b,aD,Builtin.len_,run_underlying a,goInt,o5]
theorem cG {t:TypeId}{x y:Operand}{s:aM}{k:IntKind}{j:Int}(b:X.P.underlying t=some .string)
  (g:ev σ x=aD s) (e:ev σ y=.int k j) (i:0≤j) (h1:j<s.length):VO X V σ ⟨d,.index t x y,ty,pos,af,gd⟩ (.int .u8 (bt s j)):=by
 intro w _
 have a:j.toNat<s.length:=by omega
 have h:(⟨s.toArray⟩:ByteArray)[j.toNat]?=some (ix s j):=by
  rw [ByteArray.getElem?_lt' _ _ (by rw [o5]; exact a)]
  congr 1
  show s.toArray[j.toNat]=_
  simp [ix,List.getD_eq_getElem?_getD,a]
 simp [execOp,g,e,aD,Instr.index,asIntOf,run_underlying b,i,h,bt]
theorem hM {t:TypeId}{x:Operand}{s:aM}{lo g:Option Operand}(l h:Int)
  (i:X.P.underlying t=some .string) (j:ev σ x=aD s) (a:ll σ lo 0 l) (b:ll σ g s.length h) (q:0≤l) (h1:l≤h) (h2:h≤s.length):VO X V σ ⟨d,.slice t x lo g none,ty,pos,af,gd⟩ (aD (sub s l h)):=by
 intro w _
 have m:=lm (P:=X.P) (w:=w) (is:=false) (n:=s.length) (c:=s.length) a b q h1 h2 (Nat.le_refl _)
 have e:=o5 s
 simp only [execOp,Instr.sliceAt,j,Sem.run_bind,run_underlying i,Result.andThen_ok,Instr.slice,Option.map_none,aD,e,m,Sem.run_pure,Option.isSome_none,Bool.false_eq_true,if_false]
 rw [ByteArray.extract_mk]
 congr 3
 simp [sub,List.drop_take]
theorem nk {t:TypeId}{x y:Operand}{a:TypeId}{s u:aM}
  (e:ev σ x=aD s) (b:ev σ y=aD u) (g:s.length+u.length≤9223372036854775807):VO X V σ ⟨d,.binOp .add t x y a,ty,pos,af,gd⟩ (aD (s++u)):=by
 intro w _
 have h:=run_string_add_sum (P:=X.P) (w:=w) (⟨s.toArray⟩:ByteArray) ⟨u.toArray⟩ (by rw [o5,o5]; exact g)
 simp only [execOp,e,b,aD,eqGuard_add,binOp_string_add,Sem.run_bind,Sem.run_pure,Result.andThen_ok,h]
 rw [ByteArray.mk_append_mk]
def xV:BinOp→aM→aM→Option Bool
 | .eql,a,b=>some (a==b)
 | .neq,a,b=>some (!(a==b))
 | .lss,a,b=>some (Op.bytesLess a b)
 | .leq,a,b=>some (Op.bytesLess a b||a==b)
 | .gtr,a,b=>some (!(Op.bytesLess a b||a==b))
 | .geq,a,b=>some (!Op.bytesLess a b)
 | _,_,_=>none
theorem jd {op:BinOp}{t:TypeId}{x y:Operand}{e:TypeId}{s u:aM}{b:Bool}
  (h:ev σ x=aD s) (g:ev σ y=aD u) (a:xV op s u=some b):VO X V σ ⟨d,.binOp op t x y e,ty,pos,af,gd⟩ (.bool b):=by
 intro w _
 cases op<;>simp only [xV,reduceCtorEq,Option.some.injEq] at a<;>subst a <;>
  simp [execOp,h,g,aD,eqGuard_at_string,binOp,Op.stringOp]
theorem v' {s' t:TypeId}{x:Operand}{k a:IntKind}{n:Int}{ds:TypeDesc}(h1:X.P.underlying s'=some ds)(h2:X.P.underlying t=some (.int a))
  (b:ev σ x=.int k n):VO X V σ ⟨d,.convert s' t x,ty,pos,af,gd⟩ (.int a (a.wrap n)):=by
 intro w _
 simp [execOp,b,convert,run_underlying h1,run_underlying h2,Conv.intToInt]
theorem mi {t e:TypeId}{x y:Operand}{k:IntKind}{a b:Int}(h:ev σ x=.int k a)(g:ev σ y=.int k b)(i:b≠0):VO X V σ ⟨d,.binOp .quo t x y e,ty,pos,af,gd⟩ (.int k (k.wrap (a.tdiv b))):=by
 intro w _
 simp [execOp,h,g,eqGuard_at_int,binOp,Op.intDiv,i]
theorem pO {t e:TypeId}{x y:Operand}{k:IntKind}{a b:Int}(h:ev σ x=.int k a)(g:ev σ y=.int k b)(i:b≠0):VO X V σ ⟨d,.binOp .rem t x y e,ty,pos,af,gd⟩ (.int k (a.tmod b)):=by
 intro w _
 simp [execOp,h,g,eqGuard_at_int,binOp,Op.intDiv,i]
theorem xW {x y:Operand}{h:Array TypeId}{k i:IntKind}{a b:Int}(g:ev σ x=.int k a)(e:ev σ y=.int i b):VO X V σ ⟨d,.call ⟨.builtin .max,#[x,y],h⟩,ty,pos,af,gd⟩ (.int k (if b>a then b else a)):=by
 intro w _
 simp [execOp,resolve,invoke,builtin,g,e,run_max_int2]
theorem vg {x y:Operand}{h:Array TypeId}{k i:IntKind}{a b:Int}(g:ev σ x=.int k a)(e:ev σ y=.int i b):VO X V σ ⟨d,.call ⟨.builtin .min,#[x,y],h⟩,ty,pos,af,gd⟩ (.int k (if b<a then b else a)):=by
 intro w _
 simp [execOp,resolve,invoke,builtin,g,e,run_min_int2]
end
end Go.Pg
namespace Go.Pg
def FnOk {A:Type}(P:Program)(f:FuncId)(args:List Value)(b:List HP)(a:A→Value×List HP):Prop :=
 ∀ C w V,St C w (b++V)→Calls P f args.toArray w (fun e g=>∃ x,e=.returned (a x).1∧St C g ((a x).2++V))
def aX (P:Program)(f:FuncId):Bool:=match P.funcs[f]? with
 | some fn=>!(fn.name == "runtime.NumGoroutine")&&fn.body.isSome
 | none=>false
theorem je {P:Program}{f:FuncId}{w:World}{args:Array Value}(h:aX P f=true):(callFunc f args).run P w=.ok (.enter f args) w:=by
 unfold aX at h
 cases hf:P.funcs[f]? with
 | none=>rw [hf] at h; cases h
 | some fn =>
  rw [hf] at h
  simp only [Bool.and_eq_true,Bool.not_eq_true'] at h
  cases hb:fn.body with
  | none=>rw [hb] at h; cases h.2
  | some c =>
   have h1:=h.1
   simp at h1
   simp [callFunc,hf,h1,hb]
section
variable {X:Cx}{V:List HP}{σ:cY}{Q:Exit→cY→World→Prop}{ops:Array Oper}{rest:List Oper}{o:Oper}
variable {d:Option Nat}{ty:TypeId}{pos:String}{af:Array Edge}{gd:Option (Nat×Bool)}
variable {α β:Type}
theorem lR (xs:Array Operand)(f:Operand→Value){as:List Value}(h:xs.toList.map f=as):xs.map f=as.toArray:=by
 apply Array.ext'
 simpa using h
theorem w0 {A:Type}{f:FuncId}{xs:Array Operand}{b:Array TypeId}{as:List Value}{g V':List HP}{a:A→Value×List HP}(h:iC X.n d=true)(hw:dN ops σ ⟨d,.call ⟨.value (.func f),xs,b⟩,ty,pos,af,gd⟩=true)
  (q:aX X.P f=true) (j:xs.toList.map (ev σ)=as) (l:FnOk X.P f as g a) (r:V=g++V') (k:∀ x,TL X ops ((a x).2++V') (fT σ d (a x).1) rest Q):TL X ops V σ (⟨d,.call ⟨.value (.func f),xs,b⟩,ty,pos,af,gd⟩::rest) Q:=by
 intro w s
 refine eK h hw ?_
 have m:(execOp (ev σ) ⟨d,.call ⟨.value (.func f),xs,b⟩,ty,pos,af,gd⟩).run X.P w=.ok (.enter f as.toArray) w:=by
  show (callFunc f (#[]++xs.map (ev σ)++#[])).run X.P w=_
  rw [lR xs _ j,je q]
  simp
 rw [m]
 subst r
 refine Calls.mono' (l X.C w V' s) ?_
 rintro e i ⟨x,rfl,s'⟩
 exact k x i s'
theorem tY {A:Type}{f:FuncId}{h:Operand}{fs cs:List Value}{xs:Array Operand}{b:Array TypeId}{as:List Value}{g V':List HP}{a:A→Value×List HP}(i:iC X.n d=true)(hw:dN ops σ ⟨d,.call ⟨.value h,xs,b⟩,ty,pos,af,gd⟩=true)
  (u:aX X.P f=true) (r:ev σ h=.func (.func f) fs.toArray cs.toArray) (l:fs++xs.toList.map (ev σ)++cs=as) (m:FnOk X.P f as g a) (B:V=g++V') (k:∀ x,TL X ops ((a x).2++V') (fT σ d (a x).1) rest Q):TL X ops V σ (⟨d,.call ⟨.value h,xs,b⟩,ty,pos,af,gd⟩::rest) Q:=by
 intro w s
 refine eK i hw ?_
 have q:(execOp (ev σ) ⟨d,.call ⟨.value h,xs,b⟩,ty,pos,af,gd⟩).run X.P w=.ok (.enter f as.toArray) w:=by
  have:(callFunc f (fs.toArray++xs.map (ev σ)++cs.toArray)).run X.P w=.ok (.enter f as.toArray) w:=by
   rw [je u,lR xs _ rfl,← l]
   simp
  simp only [execOp,resolve,r,Deferred.ofValue,Sem.run_bind,Sem.run_pure,Result.andThen_ok,invoke,this]
 rw [q]
 subst B
 refine Calls.mono' (m X.C w V' s) ?_
 rintro e j ⟨x,rfl,s'⟩
 exact k x j s'
def HP.Closed (p:HP):Prop:=∀ I J h,p.p I h→p.p J h
theorem bH {K:Kind α}{e:Nat}{v:Value}{xs:List α}(h:K.Closed):(ow K e v xs).Closed:=fun _ _ _ o=>mf h o
theorem o6 {A:List HP}(h:∀ p∈A,p.Closed){I J g:Hp}(s:eO A I g):eO A J g:=by
 induction A generalizing g with
 | nil=>exact s
 | cons p A ih =>
  obtain ⟨h1,h2,j,a,b⟩:=s
  exact ⟨h1,h2,j,h p (by simp) _ _ _ a,ih (fun q e=>h q (by simp [e])) b⟩
def AllC:List HP→Prop
 | []=>True
 | p::A=>p.Closed∧AllC A
theorem Ac {A:List HP}(h:AllC A):∀ p∈A,p.Closed:=by
 induction A with
 | nil=>intro p a; cases a
 | cons q A ih =>
  intro p a
  rcases List.mem_cons.1 a with rfl | a
  ·exact h.1
  ·exact ih h.2 p a
def Ad (a:Hp)(p:HP):HP:=⟨fun I h=>Hp.le a I∧p.p a h,fun l h=>⟨Hp.le_trans h.1 l,h.2⟩⟩
theorem tZ {e I:Hp}(l:Hp.le e I){V:List HP}{h:Hp}(s:eO V e h):eO (V.map (Ad e)) I h:=by
 induction V generalizing h with
 | nil=>exact s
 | cons p V ih =>
  obtain ⟨h1,h2,j,a,b⟩:=s
  exact ⟨h1,h2,j,⟨l,a⟩,ih b⟩
theorem t' {e I:Hp}{V:List HP}{h:Hp}(s:eO (V.map (Ad e)) I h):eO V e h:=by
 induction V generalizing h with
 | nil=>exact s
 | cons p V ih =>
  obtain ⟨h1,h2,j,a,b⟩:=s
  exact ⟨h1,h2,j,a.2,ih b⟩
def Bq (g:Hp):HP:=⟨fun I h=>h=Hp.none∧Hp.le g I,fun l h=>⟨h.1,Hp.le_trans h.2 l⟩⟩
theorem FnOk.perm {A:Type}{P:Program}{f:FuncId}{args:List Value}{b Pre':List HP}{a:A→Value×List HP}(e:FnOk P f args b a)(h:∀ C w V,St C w (Pre'++V)→St C w (b++V)):FnOk P f args Pre' a:=fun C w V s=>e C w V (h C w V s)
theorem FnOk.post {A B:Type}{P:Program}{f:FuncId}{args:List Value}{i:List HP}{b:A→Value×List HP}{a:B→Value×List HP}(l:FnOk P f args i b)(g:A→B)(h1:∀ x,(b x).1=(a (g x)).1)(h:∀ x C w V,St C w ((b x).2++V)→St C w ((a (g x)).2++V)):FnOk P f args i a:=by
 intro C w V s
 refine Calls.mono' (l C w V s) ?_
 rintro e j ⟨x,rfl,s'⟩
 exact ⟨g x,by rw [h1],h x C j V s'⟩
def oR:List Value→Value
 | [v]=>v
 | vs=>.tuple vs.toArray
def rL (P:Program)(V:List HP)(σ:cY):List ResultVar→List Value→Prop
 | [],[]=>True
 | .tmp t::rs,v::vs=>σ t=v∧rL P V σ rs vs
 | .cell a T::rs,v::vs=>(∃ i b cs e,lk V i=aJ b cs e∧σ a=.pointer (some ⟨b,0,none⟩)∧((eW P T=some true∧hK P T=some cs.length∧v=.agg cs.toArray)∨(eW P T=some false∧cs=[v])))∧rL P V σ rs vs
 | _,_=>False
theorem mj {P:Program}{C w:World}{V:List HP}{σ:cY}(s:St C w V):∀ (rs:List ResultVar) (vs:List Value),rL P V σ rs vs →
  (rs.mapM (fun | .tmp t=>pure (σ t) | .cell a t=>do loadVar t (← asAddr (σ a)):ResultVar→Sem Value)).run P w=.ok vs w
 | [],[],_=>rfl
 | .tmp t::rs,v::vs,⟨h1,h2⟩=>by
  have:=mj s rs vs h2
  simp [List.mapM_cons,this,h1]
 | .cell a T::rs,v::vs,⟨⟨i,b,cs,T0,hV,ha,hv⟩,h2⟩=>by
  have:=mj s rs vs h2
  have g:=kA s i hV
  have q:(loadVar T ⟨b,0,none⟩).run P w=.ok v w:=by
   rcases hv with ⟨e,l,rfl⟩|⟨e,rfl⟩
   ·exact eX e l (fun j u m=>by rw [fP,kB g,Nat.zero_add]; exact m)
   ·exact eJ e (by rw [kB g]; rfl)
  have r:(asAddr (σ a)).run P w=.ok ⟨b,0,none⟩ w:=by rw [ha]; rfl
  simp [List.mapM_cons,this,r,q]
 | [],_::_,h=>h.elim
 | .tmp _::_,[],h=>h.elim
 | .cell _ _::_,[],h=>h.elim
theorem ln {P:Program}{C w:World}{V:List HP}{σ:cY}{fn:Func}{rs:List ResultVar}{vs:List Value}(s:St C w V)(a:fn.results=rs.toArray)(h:rL P V σ rs vs):(hH fn σ).run P w=.ok (oR vs) w:=by
 have:=mj s rs vs h
 unfold hH
 rw [a,List.mapM_toArray]
 simp only [Sem.run_bind,Sem.run_map]
 refine (congrArg (fun r=>Result.andThen (Result.andThen r _) _) this).trans ?_
 match vs with
 | []=>rfl
 | [v]=>rfl
 | v::u::l=>simp [oR]
def qB (X:Cx){A:Type}(V:List HP)(a:A→Value×List HP):Value→World→Prop:=fun v w=>∃ x,v=(a x).1∧St X.C w ((a x).2++V)
theorem dF {A:Type}{V0:List HP}{a:A→Value×List HP}{fn:Func}{rs:List ResultVar}{vs:List Value}{e:Exit}(j:e=.ret∨e=.normal)(x:A)(b:fn.results=rs.toArray)(h:rL X.P V σ rs vs)(g:(a x).1=oR vs)(i:∀ w,St X.C w V→St X.C w ((a x).2++V0)) :
  TQ X V σ e (ma X.P fn (qB X V0 a)):=by
 intro w s
 rcases j with rfl | rfl
 ·exact ⟨_,ln s b h,x,g.symm,i w s⟩
 ·exact ⟨_,ln s b h,x,g.symm,i w s⟩
theorem aQ {A:Type}{P:Program}{f:FuncId}{fn:Func}{c:Code}{args:List Value}{b:List HP}{a:A→Value×List HP}(l:P.funcs[f]?=some fn)(i:fn.body=some c)(n:Nat)(g:fn.ntmps=n)(j:Nat.ble args.length n=true)
  (h:∀ C V,TC ⟨P,.of n,C⟩ (b++V) (rA args.toArray) c (ma P fn (qB ⟨P,.of n,C⟩ V a))):FnOk P f args b a:=by
 subst g
 intro C w V s
 refine Calls.mono' (oO l i (by have:=Nat.le_of_ble_eq_true j; simpa using this) (h C V w s)) ?_
 rintro e m ⟨v,rfl,x,rfl,s'⟩
 exact ⟨x,rfl,s'⟩
theorem kY {a:Act}{o:Oper}{n:Nn}{σ:cY}(b:iC n o.dst=true)(h1:a.tmps.size=n.n)(h2:a.defers=n.ds)(g:eU a=σ)(v:Value):(a.put o.dst v).tmps.size=n.n∧(a.put o.dst v).defers=n.ds∧eU (a.put o.dst v)=fT σ o.dst v:=by
 refine ⟨?_,?_,?_⟩
 ·cases hdd:o.dst with
  | none=>exact h1
  | some d=>show (a.tmps.setIfInBounds d v).size=n.n; rw [Array.size_setIfInBounds,h1]
 ·cases hdd:o.dst with
  | none=>exact h2
  | some d=>exact h2
 ·rw [jS,g]
  intro d e
  rw [e] at b
  rw [h1]
  exact Nat.lt_of_lt_of_le (Nat.lt_succ_self _) (Nat.le_of_ble_eq_true b)
theorem rM {a:Nat}{op:Op}(v:Value)(b:VO X V σ ⟨some a,op,ty,pos,af,gd⟩ v)(hw:dN ops σ ⟨some a,op,ty,pos,af,gd⟩=true)(e:iC X.n (some a)=true)(h:TL X ops V (kt σ a v) rest Q):TL X ops V σ (⟨some a,op,ty,pos,af,gd⟩::rest) Q :=
 Ab e hw b h
theorem cK {b:Bool}{x y:Option α}{r:α}(h:(if b=true then x else y)=some r):(b=true∧x=some r)∨(b=false∧y=some r):=by
 cases b
 ·exact .inr ⟨rfl,by simpa using h⟩
 ·exact .inl ⟨rfl,by simpa using h⟩
def kZ (σ:cY):List (Nat×Value)→Prop
 | []=>True
 | (t,v)::l=>σ t=v∧kZ σ l
theorem l2 {σ:cY}{l:List (Nat×Value)}(h:kZ σ l):oN σ l=σ:=by
 induction l with
 | nil=>rfl
 | cons p l ih =>
  obtain ⟨t,v⟩:=p
  show kt (oN σ l) t v=σ
  rw [ih h.2]
  exact rx σ t h.1
def Jn (X:Cx){A:Type}(pf:A→Prop)(b:A→List (Nat×Value))(e:A→List HP):cY→World→Prop:=fun σ w=>∃ a,pf a∧kZ σ (b a)∧St X.C w (e a)
theorem bB {A:Type}{x y:Code}(pf:A→Prop)(g:A→List (Nat×Value))(b:A→List HP)(i:TC X V σ x (hX (Jn X pf g b) Q))(h:∀ a σ',pf a→TC X (b a) (oN σ' (g a)) y Q):TC X V σ x (hX (Nx X y Q) Q):=by
 intro w s
 refine W.mono (i w s) ?_
 intro e σ' j q
 cases e with
 | normal =>
  obtain ⟨a,l,h1,h2⟩:=q
  have:=h a σ' l j h2
  rw [l2 h1] at this
  exact this
 | _=>exact q
theorem cJ {A:Type}{pf:A→Prop}{e:A→List (Nat×Value)}{b:A→List HP}(a:A)(g:pf a)(h1:kZ σ (e a))(h2:∀ w,St X.C w V→St X.C w (b a)):TQ X V σ .normal (hX (Jn X pf e b) Q):=fun w s=>⟨a,g,h1,h2 w s⟩
def Ae (X:Cx){S E A:Type}(b:S⊕E)(g:S→A→List (Nat×Value))(e:S→A→List HP):cY→World→Prop:=fun σ w=>∃ s a,b=.inl s∧kZ σ (g s a)∧St X.C w (e s a)
theorem bC {S E A:Type}{f:S→Option (S⊕E)}{j:S}{e:E}{c:Code}(J:aR f j=some e)(i:S→A→List (Nat×Value))(h:S→A→List HP)(a0:A)(h1:kZ σ (i j a0))(h2:∀ w,St X.C w V→St X.C w (h j a0))
  (g:∀ s a σ' out,f s=some out→(∀ l,out=.inr l→l=e)→TC X (h s a) (oN σ' (i s a)) c (hX (Ae X out i h) Q)):TC X V σ (.loop c) Q:=by
 intro w st
 obtain ⟨k,G⟩:=m9 J
 refine vW (fun k σ w=>∃ s a,iY f k s=some e∧kZ σ (i s a)∧St X.C w (h s a)) k ⟨j,a0,G,h1,h2 w st⟩ ?_
 rintro k σ' u ⟨s,a,b,g1,r⟩
 cases k with
 | zero=>cases b
 | succ k =>
  simp only [iY] at b
  cases hf:f s with
  | none=>rw [hf] at b; cases b
  | some out =>
   rw [hf] at b
   have:=g s a σ' out hf (fun l D=>by subst D; exact Option.some.inj b) u r
   rw [l2 g1] at this
   refine W.mono this ?_
   intro ex σ'' F q
   cases ex with
   | normal =>
    obtain ⟨s',m,rfl,B,I⟩:=q
    exact ⟨k,Nat.lt_succ_self k,s',m,b,B,I⟩
   | _=>exact q
theorem u0 {S E A:Type}{e:S→A→List (Nat×Value)}{b:S→A→List HP}{s:S}(a:A)(h1:kZ σ (e s a))(h2:∀ w,St X.C w V→St X.C w (b s a)):TQ X V σ .normal (hX (Ae X (E:=E) (.inl s) e b) Q):=fun w st=>⟨s,a,rfl,h1,h2 w st⟩
end
end Go.Pg
namespace Go.Pg
section
variable {P:Program}{ops:Array Oper}{Q:Exit→Act→World→Prop}{S:World→Prop}{k:Nat}
def Shut (ops:Array Oper)(listed:Array Bool):Prop:=∀ j o,ops[j]?=some o→listed.getD j false=true→∀ e∈o.after,Region.binds .any e=true→listed.getD e.on false=true
def m' (ops:Array Oper):Nat→Nat→Nat→Bool
 | 0,_,_=>false
 | f+1,j,i=>match ops[j]? with
  | some o=>o.after.any (fun e=>Region.binds .any e&&e.on==i)||o.after.any (fun e=>Region.binds .any e&&m' ops f e.on i)
  | none=>false
theorem kC {listed:Array Bool}(r:Shut ops listed):∀ (f j i:Nat) (o:Oper),ops[j]?=some o→(∀ e∈o.after,Region.binds .any e=true→listed.getD e.on false=true)→m' ops f j i=true→listed.getD i false=true:=by
 intro f
 induction f with
 | zero=>intro j i o _ _ h; cases h
 | succ f ih =>
  intro j i o m l h
  simp only [m',m,Bool.or_eq_true,Array.any_eq_true',Bool.and_eq_true,beq_iff_eq] at h
  rcases h with ⟨e,g,b,q⟩|⟨e,g,b,a⟩
  ·rw [← q]; exact l e g b
  ·have s:=l e g b
   cases hoe:ops[e.on]? with
   | none =>
    cases f with
    | zero=>cases a
    | succ f=>simp [m',hoe] at a
   | some o'=>exact ih e.on i o' hoe (r e.on o' hoe s) a
def jv (ops:Array Oper)(k:Nat):Bool:=(List.range ops.size).all fun j=>Nat.blt j k||(List.range k).all fun i=>m' ops ops.size j i
def ml (ops:Array Oper)(k i:Nat):Bool:=(List.range ops.size).all fun j=>Nat.blt j k||m' ops ops.size j i
theorem pP {ops:Array Oper}{k i:Nat}(h:jv ops k=true)(a:Nat.blt i k=true):ml ops k i=true:=by
 simp only [jv,ml,List.all_eq_true,List.mem_range,Bool.or_eq_true] at h ⊢
 intro j b
 rcases h j b with h | h
 ·exact .inl h
 ·exact .inr (h i (Nat.lt_of_lt_of_le (Nat.lt_succ_self _) (Nat.le_of_ble_eq_true a)))
theorem Shut.step {listed:Array Bool}{j:Nat}(h:Shut ops listed)(r:j∈Region.ready .any ops listed):Shut ops (listed.setIfInBounds j true):=by
 obtain ⟨_,o,m,q⟩:=mem_ready.1 r
 intro i o' a g e l b
 by_cases hij:i=j
 ·subst hij
  rw [m] at a
  obtain rfl:=Option.some.inj a
  exact getD_set_true (q e l b)
 ·rw [getD_set_ne false (Ne.symm hij)] at g
  exact getD_set_true (h i o' a g e l b)
def nl (ops:Array Oper)(k:Nat)(listed:Array Bool):Bool:=(List.range ops.size).all fun j=>Nat.blt j k||!listed.getD j false
theorem o8 {listed:Array Bool}{i:Nat}(a:Nat.blt i k=true)(h:nl ops k listed=true):nl ops k (listed.setIfInBounds i true)=true:=by
 simp only [nl,List.all_eq_true,List.mem_range,Bool.or_eq_true,Bool.not_eq_true'] at h ⊢
 intro j b
 by_cases hji:j=i
 ·subst hji; exact .inl a
 ·rw [getD_set_ne false (Ne.symm hji)]; exact h j b
def jI (P:Program)(ops:Array Oper)(Q:Exit→Act→World→Prop)(S:World→Prop)(k:Nat):Nat→Array Bool→Act→World→Prop
 | 0,listed,a,w=>Region.ready .any ops listed=[]∧Q .normal a w
 | fuel+1,listed,a,w =>
  (Region.ready .any ops listed=[]→Q .normal a w) ∧
  ∀ i∈Region.ready .any ops listed,wpOp P ops Q i (fun e b=>(Nat.blt i k=true→nl ops k listed=true→S b)∧jI P ops Q S k fuel (listed.setIfInBounds i true) e b) a w
theorem mm:∀ (fuel:Nat) (listed:Array Bool) (a:Act) (w:World),jI P ops Q S k fuel listed a w→wpAny P .any ops Q fuel listed a w
 | 0,_,_,_,h=>h
 | fuel+1,_,_,_,h=>⟨h.1,fun i j=>wpOp_mono (fun b e g=>mm fuel _ b e g.2) (h.2 i j)⟩
theorem kD {i:Nat}{J:Oper}{v:Value}(hi:ops[i]?=some J)(L:Nat.blt i k=true)(Z:ml ops k i=true)(D:∀ (j:Nat) (o:Oper) cs b,ops[j]?=some o→o.op≠.select cs b)
  (hQ:∀ c a w,Q (.panic c) (a.put J.dst v) w→Q (.panic c) a w) :
  ∀ (fuel:Nat) (listed:Array Bool) (a:Act) (w:World),Shut ops listed →
   (∀ j E,ops[j]?=some E→j≠i→listed.getD j true=false→(∀ e∈E.after,Region.binds .any e=true→e.on≠i)→J.apart ops E=true) →
   i∈Region.ready .any ops listed→YieldsIf P ops S J v a→S w →
   jI P ops Q S k fuel (listed.setIfInBounds i true) (a.put J.dst v) w→jI P ops Q S k (fuel+1) listed a w:=by
 intro fuel
 induction fuel with
 | zero =>
  intro listed a w _ _ F hy hS H
  refine ⟨fun h=>(by rw [h] at F; cases F),fun j M=>?_⟩
  by_cases hji:j=i
  ·subst hji; exact hy.wpOp hi hS ⟨fun _ _=>hS,H⟩
  ·have:=ready_mono M hji
   rw [H.1] at this
   cases this
 | succ fuel ih =>
  intro listed a w r g F hy hS H
  refine ⟨fun h=>(by rw [h] at F; cases F),fun j M=>?_⟩
  by_cases hji:j=i
  ·subst hji; exact hy.wpOp hi hS ⟨fun _ _=>hS,H⟩
  ·have h1:=H.2 j (ready_mono M hji)
   obtain ⟨B,E,l,u⟩:=mem_ready.1 M
   have h0:=(mem_ready.1 F).1
   have I:listed.getD i false=true→False:=fun h1=>by
    rcases Nat.lt_or_ge i listed.size with h' | h'
    ·simp [h'] at h0 h1; rw [h0] at h1; cases h1
    ·simp [Array.getElem?_eq_none h'] at h1
   have a0:Nat.blt j k=true:=by
    cases O:Nat.blt j k with
    | true=>rfl
    | false =>
     simp only [ml,List.all_eq_true,List.mem_range,Bool.or_eq_true] at Z
     have s:=(Z j (Array.getElem?_eq_some_iff.1 l).1).resolve_left (by rw [O]; exact fun h=>by cases h)
     exact (I (kC r _ j i E l u s)).elim
   have G:nl ops k listed=true:=by
    simp only [nl,List.all_eq_true,List.mem_range,Bool.or_eq_true,Bool.not_eq_true']
    intro m hm
    cases O:Nat.blt m k with
    | true=>exact .inl rfl
    | false =>
     refine .inr ?_
     cases hl:listed.getD m false with
     | false=>rfl
     | true =>
      simp only [ml,List.all_eq_true,List.mem_range,Bool.or_eq_true] at Z
      have s:=(Z m hm).resolve_left (by rw [O]; exact fun h=>by cases h)
      have ho:=Array.getElem?_eq_getElem hm
      exact (I (kC r _ m i _ ho (r m _ ho hl) s)).elim
   have Y:∀ e∈E.after,Region.binds .any e=true→e.on≠i:=fun e he O a3=>I (a3▸u e he O)
   have h2:=wpOp_putIf l (g j E l hji B Y) (fun cs b=>D i J cs b hi) (fun cs b=>D j E cs b l) hQ hy h1
   have q:∀ m T,ops[m]?=some T→m≠i→(listed.setIfInBounds j true).getD m true=false →
     (∀ e∈T.after,Region.binds .any e=true→e.on≠i)→J.apart ops T=true:=fun m T hk a2 U a1=>by
    refine g m T hk a2 ?_ a1
    by_cases hjm:j=m
    ·subst hjm; exact B
    ·rw [getD_set_ne true hjm] at U; exact U
   refine wpOp_mono (fun a' w' s=>⟨fun q1 q2=>s.2.1 q1 (o8 L q2),ih (listed.setIfInBounds j true) a' w' (r.step M) q (ready_mono F (Ne.symm hji)) s.1 (s.2.1 a0 (o8 L G)) ?_⟩) h2
   rw [Array.setIfInBounds_comm _ _ hji]
   exact s.2.2
end
def NP (Q:Exit→cY→World→Prop):Exit→cY→World→Prop
 | .panic _,_,_=>False
 | .outgrown,_,_=>False
 | e,σ,w=>Q e σ w
def TD (X:Cx)(ops:Array Oper)(k:Nat)(V0:List HP)(fuel:Nat)(listed:Array Bool)(V:List HP)(σ:cY)(Q:Exit→cY→World→Prop):Prop :=
 ∀ a w,a.tmps.size=X.n.n→a.defers=X.n.ds→eU a=σ→Shut ops listed→St X.C w V→jI X.P ops (gH X.n (NP Q)) (fun w=>St X.C w V0) k fuel listed a w
def DK (X:Cx)(ops:Array Oper)(k:Nat)(V0:List HP)(fuel:Nat)(listed:Array Bool)(i:Nat)(Q:Exit→cY→World→Prop):Exit→cY→World→Prop
 | .normal,σ,w=>∀ a,a.tmps.size=X.n.n→a.defers=X.n.ds→eU a=σ→Shut ops (listed.setIfInBounds i true)→(Nat.blt i k=true→nl ops k listed=true→St X.C w V0)∧jI X.P ops (gH X.n (NP Q)) (fun w=>St X.C w V0) k fuel (listed.setIfInBounds i true) a w
 | .panic _,_,_=>False
 | .outgrown,_,_=>False
 | e,σ,w=>Q e σ w
def xX (X:Cx)(ops:Array Oper)(k:Nat)(V0:List HP)(fuel:Nat)(listed:Array Bool)(V:List HP)(σ:cY)(Q:Exit→cY→World→Prop):List Nat→Prop
 | []=>True
 | i::is=>(match ops[i]? with
  | some o=>TL X ops V σ [o] (DK X ops k V0 fuel listed i Q)
  | none=>False)∧xX X ops k V0 fuel listed V σ Q is
section
variable {X:Cx}{V V0:List HP}{σ:cY}{Q:Exit→cY→World→Prop}{ops:Array Oper}{o:Oper}{k fuel:Nat}{listed:Array Bool}
variable {d:Nat}{op:Op}{ty:TypeId}{pos:String}{af:Array Edge}{gd:Option (Nat×Bool)}
theorem w4 {m:Nat}{l:List Oper}(k:Nat)(V0:List HP)(u:X.P.follows .mixedOrders=true)(b:(jv l.toArray k&&Region.noSelect l.toArray)=true)
  (h:jv l.toArray k=true→Region.noSelect l.toArray=true→TD X l.toArray k V0 l.length (Array.replicate l.length false) V σ Q):TC X V σ (.region m l.toArray true) Q:=by
 intro w s a h1 h2 r
 rw [Bool.and_eq_true] at b
 refine wp_mono (P:=X.P) (Q:=gH X.n (NP Q)) (wp_region_any u (mm (S:=fun w=>St X.C w V0) (k:=k) _ _ _ _ ?_)) ?_
 ·have:=h b.1 b.2 a w.drew h1 h2 r (fun j o _ i=>by
   exfalso
   by_cases hj:j<l.length
   ·simp [Array.getElem?_replicate,hj] at i
   ·simp [Array.getElem?_replicate,hj] at i) s.drew
  simpa using this
 ·rintro e a w q
  refine mX q fun g=>?_
  cases e<;>first | exact g | exact g.elim
theorem w6 (b:Region.ready .any ops listed=[])(h:TQ X V σ .normal Q):TD X ops k V0 fuel listed V σ Q:=by
 intro a w h1 h2 g _ s
 have e:gH X.n (NP Q) .normal a w:=.inl ⟨h1,h2,by rw [g]; exact h w s⟩
 cases fuel with
 | zero=>exact ⟨b,e⟩
 | succ fuel=>exact ⟨fun _=>e,by rw [b]; intro i j; cases j⟩
theorem Af (i:Nat)(v:Value)(l:ops[i]?=some ⟨some d,op,ty,pos,af,gd⟩)(F:VO X V0 σ ⟨some d,op,ty,pos,af,gd⟩ v)(hw:dN ops σ ⟨some d,op,ty,pos,af,gd⟩=true)(r:iC X.n (some d)=true)
  (e:Nat.blt i k=true) (B:ml ops k i=true) (D:Region.noSelect ops=true) (j:(Region.free .any ops listed i&&(Region.ready .any ops listed).contains i)=true) (hS:∀ w,St X.C w V→St X.C w V0)
  (h:TD X ops k V0 fuel (listed.setIfInBounds i true) V (kt σ d v) Q):TD X ops k V0 (fuel+1) listed V σ Q:=by
 intro a w h1 h2 g b s
 rw [Bool.and_eq_true] at j
 obtain ⟨p1,u,E⟩:=kY (o:=⟨some d,op,ty,pos,af,gd⟩) r h1 h2 g v
 have m:i∈Region.ready .any ops listed:=by simpa using j.2
 refine kD (v:=v) l e B (Region.noSelect_spec D) ?_ fuel listed a w b (Region.free_spec l j.1) m ?_ (hS w s) (h _ w p1 u E (b.step m) s)
 ·rintro c a w q
  exact (fG q (by simp)).2.2.elim
 ·exact .inl ⟨by rw [j9,g]; exact hw,fun w s=>by rw [jF,g]; exact F w s⟩
theorem Ag (i:Nat)(v:Value)(m:ops[i]?=some ⟨some d,op,ty,pos,af,gd⟩)(j:VO X V0 σ ⟨some d,op,ty,pos,af,gd⟩ v)(hw:dN ops σ ⟨some d,op,ty,pos,af,gd⟩=true)(g:iC X.n (some d)=true)
  (a:Nat.blt i k=true) (b:jv ops k=true) (e:Region.noSelect ops=true) (l:(Region.free .any ops listed i&&(Region.ready .any ops listed).contains i)=true) (hS:∀ w,St X.C w V→St X.C w V0)
  (h:TD X ops k V0 fuel (listed.setIfInBounds i true) V (kt σ d v) Q):TD X ops k V0 (fuel+1) listed V σ Q :=
 Af i v m j hw g a (pP b a) e l hS h
theorem w7 (i:Nat)(l:ops[i]?=some ⟨some d,op,ty,pos,af,gd⟩)(hw:dN ops σ ⟨some d,op,ty,pos,af,gd⟩=false)(r:iC X.n (some d)=true)
  (e:Nat.blt i k=true) (B:ml ops k i=true) (D:Region.noSelect ops=true) (g:(Region.free .any ops listed i&&(Region.ready .any ops listed).contains i)=true) (hS:∀ w,St X.C w V→St X.C w V0)
  (h:TD X ops k V0 fuel (listed.setIfInBounds i true) V (kt σ d undef) Q):TD X ops k V0 (fuel+1) listed V σ Q:=by
 intro a w h1 h2 j b s
 rw [Bool.and_eq_true] at g
 obtain ⟨p1,u,E⟩:=kY (o:=⟨some d,op,ty,pos,af,gd⟩) r h1 h2 j undef
 have m:i∈Region.ready .any ops listed:=by simpa using g.2
 refine kD (v:=undef) l e B (Region.noSelect_spec D) ?_ fuel listed a w b (Region.free_spec l g.1) m ?_ (hS w s) (h _ w p1 u E (b.step m) s)
 ·rintro c a w q
  exact (fG q (by simp)).2.2.elim
 ·exact .inr ⟨by rw [j9,j]; exact hw,rfl⟩
theorem xY (i:Nat)(l:ops[i]?=some ⟨some d,op,ty,pos,af,gd⟩)(hw:dN ops σ ⟨some d,op,ty,pos,af,gd⟩=false)(g:iC X.n (some d)=true)
  (a:Nat.blt i k=true) (b:jv ops k=true) (e:Region.noSelect ops=true) (j:(Region.free .any ops listed i&&(Region.ready .any ops listed).contains i)=true) (hS:∀ w,St X.C w V→St X.C w V0)
  (h:TD X ops k V0 fuel (listed.setIfInBounds i true) V (kt σ d undef) Q):TD X ops k V0 (fuel+1) listed V σ Q :=
 w7 i l hw g a (pP b a) e j hS h
theorem hR (rs:List Nat)(g:Region.ready .any ops listed=rs)(B:Nat.blt 0 rs.length=true)(h:xX X ops k V0 fuel listed V σ Q rs):TD X ops k V0 (fuel+1) listed V σ Q:=by
 intro a w h1 h2 h3 G s
 refine ⟨fun h0=>(by rw [g] at h0; rw [h0] at B; cases B),fun i E=>?_⟩
 have m:=E
 rw [g] at E
 clear g B
 induction rs with
 | nil=>cases E
 | cons j rs ih =>
  rcases List.mem_cons.1 E with rfl | E
  ·have Y:=h.1
   obtain ⟨_,o,ho,_⟩:=mem_ready.1 m
   rw [ho] at Y
   have D:=Y w s a h1 h2 h3
   unfold wpOp
   simp only [ho]
   unfold wpList at D
   split
   ·rename_i hw
    rw [if_pos hw] at D
    have up:∀ r,o.upon X.P a (wpList X.P ops (gH X.n (DK X ops k V0 fuel listed i Q)) []) (gH X.n (DK X ops k V0 fuel listed i Q)) r →
      o.upon X.P a (fun F l=>(Nat.blt i k=true→nl ops k listed=true→St X.C l V0)∧jI X.P ops (gH X.n (NP Q)) (fun w=>St X.C w V0) k fuel (listed.setIfInBounds i true) F l) (gH X.n (NP Q)) r:=by
     have Z:∀ c a w,gH X.n (DK X ops k V0 fuel listed i Q) (.panic c) a w→gH X.n (NP Q) (.panic c) a w:=by
      rintro c a w q
      exact (fG q (by simp)).2.2.elim
     have I:∀ F l,wpList X.P ops (gH X.n (DK X ops k V0 fuel listed i Q)) [] F l→(Nat.blt i k=true→nl ops k listed=true→St X.C l V0)∧jI X.P ops (gH X.n (NP Q)) (fun w=>St X.C w V0) k fuel (listed.setIfInBounds i true) F l:=by
      rintro F l q
      obtain ⟨T,O,L⟩:=fG q (by simp)
      exact L F T O rfl (G.step m)
     intro r g
     match r,g with
     | .ok (.value v) l,g=>exact I _ _ g
     | .ok .skip l,g=>exact I _ _ g
     | .ok (.defer _) l,g=>exact I _ _ g
     | .ok (.enter f args) l,g =>
      refine Calls.mono' g ?_
      intro e M U
      cases e with
      | returned v=>exact I _ _ U
      | panicked c=>exact Z _ _ _ U
      | outgrown =>
       obtain ⟨b,u,J⟩:=U
       exact (fG J (by simp)).2.2.elim
     | .ok (.row row args) l,g=>exact Rows.mono g fun v M h=>I _ _ h
     | .halt (.panic v) l,g=>exact Z _ _ _ g
    rcases D with D | ⟨h1,b,u,J⟩
    ·exact .inl (up _ D)
    ·exact (fG J (by simp)).2.2.elim
   ·rename_i hw
    rw [if_neg hw] at D
    obtain ⟨T,O,L⟩:=fG D (by simp)
    exact L _ T O rfl (G.step m)
  ·exact ih h.2 E
theorem xZ (i:Nat)(a:Region.ready .any ops listed=[i])(b:ops[i]?=some o)(h:TL X ops V σ [o] (DK X ops k V0 fuel listed i Q)):TD X ops k V0 (fuel+1) listed V σ Q :=
 hR [i] a rfl ⟨by rw [b]; exact h,trivial⟩
theorem aG {i:Nat}(hS:∀ w,St X.C w V→St X.C w V0)(h:TD X ops k V0 fuel (listed.setIfInBounds i true) V σ Q):TQ X V σ .normal (DK X ops k V0 fuel listed i Q) :=
 fun w s a h1 h2 b e=>⟨fun _ _=>hS w s,h a w h1 h2 b e s⟩
theorem w8 {i:Nat}(g:Nat.blt i k=false)(h:TD X ops k V0 fuel (listed.setIfInBounds i true) V σ Q):TQ X V σ .normal (DK X ops k V0 fuel listed i Q) :=
 fun w s a h1 h2 b e=>⟨fun h=>(by rw [g] at h; cases h),h a w h1 h2 b e s⟩
end
end Go.Pg
namespace Go.Pg
section
variable {α:Type}{K:Kind α}{C w:World}{V:List HP}
theorem St.len {a:Option Addr}{n c:Nat}{xs:List α}(s:St C w V)(i:Nat)(h:jA (lk V i) K (.slice a n c) xs):n=xs.length:=by
 obtain ⟨J,lw,A,e,b,h2,g,j⟩:=s.reads h
 injection b
theorem St.cap {a:Option Addr}{n c:Nat}{xs:List α}(s:St C w V)(i:Nat)(h:jA (lk V i) K (.slice a n c) xs):n≤9223372036854775807:=by
 obtain ⟨J,lw,A,g,b,h2,e,j⟩:=s.reads h
 have:n=xs.length:=by injection b
 simp only [maxLen] at e
 omega
theorem St.dup {v:Value}{xs:List α}(s:St C w V)(i:Nat)(e:lk V i=aO K v xs):St C w (aO K v xs::V):=by
 obtain ⟨a,I,b,g,j,l,s⟩:=s
 obtain ⟨h1,h2,h,p,s'⟩:=eQ i s
 rw [e] at p
 exact ⟨a,I,b,g,j,l,Hp.none,b,Join.none b,⟨rfl,p.2⟩,s⟩
theorem St.shr {e:Nat}{v:Value}{xs:List α}(s:St C w V)(i:Nat)(a:lk V i=ow K e v xs):St C w (aO K v xs::Pg.rm V i):=by
 have:=s.mv i
 unfold Pg.mv at this
 rw [a] at this
 exact St.share this (fun I J b l m p=>⟨rfl,kx l m p⟩)
theorem St.nilo (s:St C w V)(K:Kind α)(e:Nat):St C w (ow K e (.slice none 0 0) []::V) :=
 St.new s id (fun I _=>⟨Hp.none,.inl ⟨none,rfl,rfl,rfl⟩,fun _ _ e=>(by cases e),fun _ h=>absurd rfl h⟩) (fun _ _ h=>h)
theorem St.nilr (s:St C w V)(K:Kind α):St C w (aO K (.slice none 0 0) []::V) :=
 St.new s id (fun I _=>⟨Hp.none,⟨rfl,none,0,rfl,Nat.le_refl _,Nat.zero_le _,fun h=>absurd h (Nat.lt_irrefl _)⟩,fun _ _ e=>(by cases e),fun _ h=>absurd rfl h⟩) (fun _ _ h=>h)
end
section
variable {X:Cx}{V:List HP}{σ:cY}{Q:Exit→cY→World→Prop}{ops:Array Oper}{rest:List Oper}{o:Oper}{cd:Code}{ex:Exit}
variable {d:Option Nat}{ty:TypeId}{pos:String}{af:Array Edge}{gd:Option (Nat×Bool)}
variable {α β:Type}
theorem aL {K:Kind α}{a:Option Addr}{n c:Nat}{xs:List α}(i:Nat)(b:jA (lk V i) K (.slice a n c) xs)(h:n=xs.length→TL X ops V σ rest Q):TL X ops V σ rest Q:=fun w s=>h (s.len i b) w s
theorem bI {K:Kind α}{a:Option Addr}{n c:Nat}{xs:List α}(i:Nat)(b:jA (lk V i) K (.slice a n c) xs)(h:n=xs.length→TC X V σ cd Q):TC X V σ cd Q:=fun w s=>h (s.len i b) w s
theorem hT {K:Kind α}{a:Option Addr}{n c:Nat}{xs:List α}(i:Nat)(b:jA (lk V i) K (.slice a n c) xs)(h:n=xs.length→TQ X V σ ex Q):TQ X V σ ex Q:=fun w s=>h (s.len i b) w s
theorem iE {V':List HP}(f:∀ w,St X.C w V→St X.C w V')(h:TL X ops V' σ rest Q):TL X ops V σ rest Q:=fun w s=>h w (f w s)
theorem y0 {V':List HP}(f:∀ w,St X.C w V→St X.C w V')(h:TC X V' σ cd Q):TC X V σ cd Q:=fun w s=>h w (f w s)
theorem Ah {V':List HP}(f:∀ w,St X.C w V→St X.C w V')(h:TQ X V' σ ex Q):TQ X V σ ex Q:=fun w s=>h w (f w s)
theorem bW {A:Type}{f:FuncId}{xs:Array Operand}{b:Array TypeId}{as:List Value}{e:List HP}{a:A→Value×List HP}(m:Nat)(g:iC X.n d=true)(hw:dN ops σ ⟨d,.call ⟨.value (.func f),xs,b⟩,ty,pos,af,gd⟩=true)
  (i:aX X.P f=true) (h:xs.toList.map (ev σ)=as) (j:FnOk X.P f as e a) (l:tk m V=e) (k:∀ x,TL X ops ((a x).2++dp m V) (fT σ d (a x).1) rest Q):TL X ops V σ (⟨d,.call ⟨.value (.func f),xs,b⟩,ty,pos,af,gd⟩::rest) Q :=
 w0 g hw i h j (by rw [← l,mg]) k
theorem cB {A:Type}{f:FuncId}{g:Operand}{fs cs:List Value}{xs:Array Operand}{b:Array TypeId}{as:List Value}{e:List HP}{a:A→Value×List HP}(m:Nat)(h:iC X.n d=true)(hw:dN ops σ ⟨d,.call ⟨.value g,xs,b⟩,ty,pos,af,gd⟩=true)
  (q:aX X.P f=true) (l:ev σ g=.func (.func f) fs.toArray cs.toArray) (i:fs++xs.toList.map (ev σ)++cs=as) (j:FnOk X.P f as e a) (r:tk m V=e) (k:∀ x,TL X ops ((a x).2++dp m V) (fT σ d (a x).1) rest Q):TL X ops V σ (⟨d,.call ⟨.value g,xs,b⟩,ty,pos,af,gd⟩::rest) Q :=
 tY h hw q l i j (by rw [← r,mg]) k
theorem AllC.append {A B:List HP}(a:AllC A)(b:AllC B):AllC (A++B):=by
 induction A with
 | nil=>exact b
 | cons p A ih=>exact ⟨a.1,ih a.2⟩
theorem lT {c a b:Operand}{k:Bool}{v e:Value}(i:ev σ c=.bool k)(g:k=true)(h:ev σ a=e)(j:e=v):VO X V σ ⟨d,.pick c a b,ty,pos,af,gd⟩ v:=hY (by
 simp only [pv,i,g,h,j,cond_true])
theorem lU {c a b:Operand}{k:Bool}{v e:Value}(i:ev σ c=.bool k)(g:k=false)(h:ev σ b=e)(j:e=v):VO X V σ ⟨d,.pick c a b,ty,pos,af,gd⟩ v:=hY (by
 simp only [pv,i,g,h,j,cond_false])
theorem w9 {t b:TypeId}{x y:Operand}{a:Option Addr}{n c:Nat}{e:TypeId}(g:li X.P t=some e)(i:ev σ x=.slice a n c)(h:ev σ y=.slice none 0 0):VO X V σ ⟨d,.binOp .eql t x y b,ty,pos,af,gd⟩ (.bool a.isNone):=by
 intro w _
 have j:=iR g
 have l:(Op.equal t (.slice a n c) (.slice none 0 0)).run X.P w=.ok a.isNone w:=by
  unfold Op.equal
  rw [show Op.maxDepth=9999+1 from rfl]
  unfold Op.equalIn
  rw [Sem.run_bind,run_underlying j]
  cases a<;>rfl
 cases a<;>simp [execOp,i,h,eqGuard,binOp,l]
end
end Go.Pg
namespace Go.Pg
def fU (P:Program)(T:TypeId):Option (List (Nat×Nat)):=match P.underlying T with
 | some (.struct fs)=>fs.toList.mapM fun f=>(P.info? f.type).map fun i=>(f.offset,i.size)
 | _=>none
def pQ (ps:List (Nat×Nat)):List Value→List (Nat×Value)→Option (List Value)
 | z,[]=>some z
 | z,(i,v)::rest=>match qy ps i with
  | some (off,sz)=>cond (Nat.beq v.cells.toList.length sz&&Nat.ble (off+sz) z.length) (pQ ps (z.take off++v.cells.toList++z.drop (off+sz)) rest) none
  | none=>none
theorem rN:∀ (l:List Value) (a j:Nat) (cs:Array Value),a+j+l.length≤cs.size →
  ((l.zipIdx j).foldl (fun cs (c,j)=>cs.setIfInBounds (a+j) c) cs).toList=cs.toList.take (a+j)++l++cs.toList.drop (a+j+l.length):=by
 intro l
 induction l with
 | nil=>intro a j cs _; simp
 | cons u l ihl =>
  intro a j cs b
  simp only [List.zipIdx_cons,List.foldl_cons]
  rw [ihl a (j+1) _ (by simp at *; omega)]
  simp only [List.length_cons] at b
  rw [Array.toList_setIfInBounds,show a+(j+1)=(a+j)+1 by omega,List.take_succ_eq_append_getElem (by simp; omega),List.take_set_of_le (Nat.le_refl _),List.drop_set_of_lt (by omega)]
  simp [Nat.add_assoc,Nat.add_comm,Nat.add_left_comm]
theorem wa {ps:List (Nat×Nat)}:∀ (parts:List (Nat×Value)) (z:Array Value) (cs:List Value),pQ ps z.toList parts=some cs→∃ r,Instr.fill (ps.toArray[·]?) z parts=some r∧r.toList=cs:=by
 intro parts
 induction parts with
 | nil=>intro z cs h; exact ⟨z,rfl,Option.some.inj h⟩
 | cons p parts ih =>
  intro z cs h
  obtain ⟨i,v⟩:=p
  unfold pQ at h
  rw [kg] at h
  unfold Instr.fill
  have g:ps.toArray[i]?=ps[i]?:=by simp
  simp only [g]
  cases hp:ps[i]? with
  | none=>rw [hp] at h; cases h
  | some q =>
   obtain ⟨a,sz⟩:=q
   rw [hp] at h
   simp only at h ⊢
   cases hb:(Nat.beq v.cells.toList.length sz&&Nat.ble (a+sz) z.toList.length) with
   | false=>rw [hb] at h; cases h
   | true =>
    rw [hb] at h
    simp only [cond_true,Bool.and_eq_true] at h hb
    have h1:v.cells.size=sz:=by simpa using Nat.eq_of_beq_eq_true hb.1
    have h2:a+sz≤z.size:=by simpa using Nat.le_of_ble_eq_true hb.2
    have b:¬ (v.cells.size≠sz∨a+v.cells.size>z.size):=by rw [h1]; omega
    rw [if_neg (by simpa using b)]
    have e:v.cells.zipIdx.foldl (fun cs (c,j)=>cs.setIfInBounds (a+j) c) z=(v.cells.toList.zipIdx 0).foldl (fun cs (c,j)=>cs.setIfInBounds (a+j) c) z:=by
     rw [← Array.foldl_toList]
     congr 1
     simp
    rw [e]
    refine ih _ cs ?_
    rw [rN _ _ _ _ (by simp [h1]; omega)]
    simpa [h1] using h
section
variable {X:Cx}{V:List HP}{σ:cY}{Q:Exit→cY→World→Prop}{ops:Array Oper}{rest:List Oper}{o:Oper}
variable {d:Option Nat}{ty:TypeId}{pos:String}{af:Array Edge}{gd:Option (Nat×Bool)}
variable {α β:Type}
theorem o9 {P:Program}{w:World}:∀ (fs:List Field) (ps:List (Nat×Nat)),fs.mapM (fun f=>(P.info? f.type).map fun i=>(f.offset,i.size))=some ps →
  (fs.mapM (fun f=>(do pure (f.offset,← sizeOf f.type):Sem (Nat×Nat)))).run P w=.ok ps w:=by
 intro fs
 induction fs with
 | nil=>intro ps h; simp at h; subst h; rfl
 | cons f fs ih =>
  intro ps h
  rw [List.mapM_cons] at h ⊢
  cases hi:P.info? f.type with
  | none=>rw [hi] at h; cases h
  | some i =>
   rw [hi] at h
   cases hm:fs.mapM (fun f=>(P.info? f.type).map fun i=>(f.offset,i.size)) with
   | none=>rw [hm] at h; cases h
   | some qs =>
    rw [hm] at h
    obtain rfl:=Option.some.inj h
    have h1:=ih qs hm
    simp only [Sem.run_bind,Sem.run_pure,Result.andThen_ok,eE (show hK P f.type=some i.size by simp [hK,hi]),h1]
theorem aV {T:TypeId}{parts:Array (Nat×Operand)}{cs z:List Value}{ps:List (Nat×Nat)}{l:List (Nat×Value)}(a:fU X.P T=some ps)(u:ku X.P T=some z)(E:parts.toList.map (fun p=>(p.1,ev σ p.2))=l)(B:pQ ps z l=some cs) :
  VO X V σ ⟨d,.build T parts,ty,pos,af,gd⟩ (.agg cs.toArray):=by
 intro w _
 unfold fU at a
 split at a
 ·rename_i fs s
  obtain ⟨F,g,h⟩:=kz (P:=X.P) (w:=w) u
  have D:=o9 (P:=X.P) (w:=w) _ _ a
  obtain ⟨r,q,b⟩:=wa (ps:=ps) l z.toArray cs (by simpa using B)
  have j:(parts.map fun (i,x)=>(i,ev σ x)).toList=l:=by
   rw [← E]; simp
  have e:(fs.mapM (fun f=>(do pure (f.offset,← sizeOf f.type):Sem (Nat×Nat)))).run X.P w=.ok ps.toArray w:=by
   rw [show fs=fs.toList.toArray by simp,List.mapM_toArray,Sem.run_map]
   exact congrArg (fun r=>Result.andThen r _) D
  have m:r=cs.toArray:=by apply Array.ext'; simpa using b
  simp only [execOp,Instr.build,Sem.run_bind,g,Result.andThen_ok,run_underlying s,e,j,h,q,m,Sem.run_pure]
 ·cases a
def np (K:Kind α){A:Type}(cells:A→α→List Value)(b:A→α→List HP):Prop:=∀ I h x cs,K.own I h x cs→∃ a,cs=cells a x∧eO (b a x) I Hp.none
theorem oa {A:Type}{cells:A→α→List Value}{m:A→α→List HP}{K:Kind α}{C w:World}{e g o n c:Nat}{xs:List α}(s:St C w V)(i:Nat)(hl:np K cells m)(Y:lk V i=ow K e (.slice (some ⟨g,o,none⟩) n c) xs){j:Nat}{x:α}(J:xs[j]?=some x) :
  ∃ a,(∀ k u,(cells a x)[k]?=some u→w.cell? ⟨g,o+j*K.sz+k,none⟩=some u)∧(cells a x).length=K.sz∧St C w (m a x++V):=by
 obtain ⟨sm,I,h,Z,E,l,st⟩:=s
 obtain ⟨h1,h2,T,p,s'⟩:=eQ i st
 rw [Y] at p
 have p:nZ K e I h1 (.slice (some ⟨g,o,none⟩) n c) xs:=p
 rcases p with ⟨A,F,rfl,_⟩|⟨g',c',pre,q,b,fr,hb,F,q2,q3,q4,q5,jo,O⟩
 ·simp at J
 injection F with e1 e2 e3
 injection e1 with e1
 injection e1 with e1 e4
 subst e1; subst e4
 obtain ⟨U,c1,b1,g1,g2,hc,G,jn,D,M⟩:=kw O J
 obtain ⟨a,rfl,B⟩:=hl _ _ _ _ D
 have r:w.heap[g]?=some (.cells (pre++q++b).toArray e fr):=l g _ (E.right g _ (T.left g _ (jo.left g _ (by simp [Hp.one]))))
 refine ⟨a,fun k u L=>?_,K.own_len D,sm,I,h,Z,E,l,cA.2 ⟨Hp.none,h,Join.none h,B,st⟩⟩
 have hk:=(List.getElem?_eq_some_iff.1 L).1
 have:w.cell? ⟨g,pre.length+j*K.sz+k,none⟩=(pre++q++b)[pre.length+j*K.sz+k]?:=by simp [World.cell?,r]
 rw [this,List.append_assoc,List.getElem?_append_right (by omega),hc,show pre.length+j*K.sz+k - pre.length=j*K.sz+k by omega,List.append_assoc,List.append_assoc,List.getElem?_append_right (by omega),show j*K.sz+k - U.length=k by omega,List.getElem?_append_left hk]
 exact L
theorem y1 [Inhabited α]{A:Type}{cells:A→α→List Value}{b:A→α→List HP}{K:Kind α}{T:TypeId}{x:Operand}{e g o n c:Nat}{xs:List α}(i:Nat)(j:Int)(q:iC X.n d=true)(hw:dN ops σ ⟨d,.load T x,ty,pos,af,gd⟩=true)(B:eW X.P T=some true)(G:hK X.P T=some K.sz)
  (J:np K cells b) (m:lk V i=ow K e (.slice (some ⟨g,o,none⟩) n c) xs) (r:ev σ x=.pointer (some ⟨g,o+j.toNat*K.sz,none⟩)) (F:0≤j) (h1:j<n)
  (h:∀ a,TL X ops (b a (ix xs j)++V) (fT σ d (.agg (cells a (ix xs j)).toArray)) rest Q):TL X ops V σ (⟨d,.load T x,ty,pos,af,gd⟩::rest) Q:=by
 intro w s
 have L:n=xs.length:=s.len i (by rw [m]; exact aB)
 obtain ⟨a,E,l,s'⟩:=oa s i J m (jb F (by omega))
 refine eK q hw ?_
 have:=eX (P:=X.P) (w:=w) (a:=⟨g,o+j.toNat*K.sz,none⟩) (cs:=cells a (ix xs j)) B (by rw [l]; exact G) (fun k u D=>by rw [fP]; exact E k u D)
 have I:(execOp (ev σ) ⟨d,.load T x,ty,pos,af,gd⟩).run X.P w=.ok (.value (.agg (cells a (ix xs j)).toArray)) w:=by
  simp only [execOp,Instr.loadAt,r,Instr.sureAddr,Sem.run_bind,Sem.run_pure,Result.andThen_ok,this]
 rw [I]
 exact h a w s'
theorem rO [Inhabited α]{A:Type}{cells:A→α→List Value}{b:A→α→List HP}{K:Kind α}{T:TypeId}{x:Operand}{e g o n c fo:Nat}{xs:List α}{pr:A→α→Value}(i:Nat)(j:Int)(q:iC X.n d=true)(hw:dN ops σ ⟨d,.load T x,ty,pos,af,gd⟩=true)(u:eW X.P T=some false)
  (G:np K cells b) (F:∀ a x,qy (cells a x) fo=some (pr a x)) (m:lk V i=ow K e (.slice (some ⟨g,o,none⟩) n c) xs) (r:ev σ x=.pointer (some ⟨g,o+j.toNat*K.sz+fo,none⟩)) (D:0≤j) (h1:j<n)
  (h:∀ a,TL X ops (b a (ix xs j)++V) (fT σ d (pr a (ix xs j))) rest Q):TL X ops V σ (⟨d,.load T x,ty,pos,af,gd⟩::rest) Q:=by
 intro w s
 have I:n=xs.length:=s.len i (by rw [m]; exact aB)
 obtain ⟨a,B,l,s'⟩:=oa s i G m (jb D (by omega))
 refine eK q hw ?_
 have:=eJ (P:=X.P) (w:=w) (a:=⟨g,o+j.toNat*K.sz+fo,none⟩) u (B fo _ (by rw [← kg]; exact F a _))
 have E:(execOp (ev σ) ⟨d,.load T x,ty,pos,af,gd⟩).run X.P w=.ok (.value (pr a (ix xs j))) w:=by
  simp only [execOp,Instr.loadAt,r,Instr.sureAddr,Sem.run_bind,Sem.run_pure,Result.andThen_ok,this]
 rw [E]
 exact h a w s'
theorem St.seps {C w:World}{p:HP}{A V:List HP}(s:St C w (p::(A++V))):St C w (⟨fun I h=>∃ h1 h2,Join h1 h2 h∧p.p I h1∧eO A I h2,fun l ⟨h1,h2,j,a,b⟩=>⟨h1,h2,j,p.mono l a,iA l b⟩⟩::V):=by
 obtain ⟨a,I,h,g,j,l,h1,h2,i,c,s⟩:=s
 obtain ⟨m,r,q,d,e⟩:=cA.1 s
 obtain ⟨k,k1,u⟩:=Join.assoc' q i
 exact ⟨a,I,h,g,j,l,k,r,u,⟨h1,m,k1,c,d⟩,e⟩
theorem dX [Inhabited α]{K:Kind α}{T e:TypeId}{x y:Operand}{g o n c:Nat}{xs:List α}{vs:List Value}{x':α}(k:Nat)(j:Int)(hd:iC X.n d=true)(hw:dN ops σ ⟨d,.store T x y,ty,pos,af,gd⟩=true)(hs:hK X.P T=some K.sz)
  (hx:ev σ x=.pointer (some ⟨g,o+j.toNat*K.sz,none⟩)) (hy:(ev σ y).cells.toList=vs) (h0:0≤j) (h1:j<n) (ho:∀ I h,eO (tk k V) I h→K.own I h x' vs)
  (h:TL X ops (ow K e (.slice (some ⟨g,o,none⟩) n c) (xs.set j.toNat x')::dp k V) (fT σ d undef) rest Q):TL X ops (ow K e (.slice (some ⟨g,o,none⟩) n c) xs::V) σ (⟨d,.store T x y,ty,pos,af,gd⟩::rest) Q:=by
 intro w s
 have s2:St X.C w (_::dp k V):=St.seps (A:=tk k V) (V:=dp k V) (by rw [mg]; exact s)
 obtain ⟨_,w',hr,s'⟩:=St.act s2 0 (q:=fun _:Unit=>ow K e (.slice (some ⟨g,o,none⟩) n c) (xs.set j.toNat x')) (Ψ:=fun _ w'=>(execOp (ev σ) ⟨d,.store T x y,ty,pos,af,gd⟩).run X.P w=.ok .skip w') (by
  rintro I hh ⟨a5,hA,F,p,a4⟩ lI lw dj
  have G:=ho I hA a4
  have p:nZ K e I a5 (.slice (some ⟨g,o,none⟩) n c) xs:=p
  rcases p with ⟨A,hv,rfl,_⟩|⟨g',c',pre,i,a,fr,hb,hv,h2,h3,h4,O,E,ol⟩
  ·injection hv with _ hv _
   omega
  injection hv with l Z e3
  injection l with l
  injection l with l e4
  subst l; subst e3; subst e4; subst Z
  obtain ⟨J,c1,Y,g1,g2,hc,a7,jn,ox,L⟩:=kw ol (jb h0 h1)
  have a2:=K.own_len ox
  have U:=K.own_len G
  have a0:w.heap[g]?=some (.cells (pre++i++a).toArray e fr):=lw g _ (F.left g _ (E.left g _ (by simp [Hp.one])))
  have a8:i.length=J.length+c1.length+Y.length:=by rw [hc]; simp [Nat.add_assoc]
  obtain ⟨w',r,e',ot,sm⟩:=jH (P:=X.P) (N:=(pre++i++a).length) (T:=e) (fr:=fr) (b:=g) (by simpa [Nat.add_assoc] using O) vs (pre.length+j.toNat*K.sz) 0 (pre++i++a) w rfl a0 (by simp only [List.length_append]; omega) (K.own_one G)
  obtain ⟨m,jm⟩:=Join.of_disj (h1:=hA) (h2:=g2) (fun b=>by
   rcases F.disj b with f | f
   ·exact .inr ((jn.is_none b).1 ((E.is_none b).1 f).2).2
   ·exact .inl f)
  have a6:pre++i++a=(pre++i++a):=rfl
  have M:(pre++i++a).take (pre.length+j.toNat*K.sz+0)++vs++(pre++i++a).drop (pre.length+j.toNat*K.sz+0+vs.length)=pre++(J++vs++Y)++a:=by
   have l:pre++i++a=(pre++J)++(c1++(Y++a)):=by rw [hc]; simp [List.append_assoc]
   have Z:pre.length+j.toNat*K.sz+0=(pre++J).length:=by rw [List.length_append]; omega
   rw [l,Z,List.take_left,List.drop_append,List.drop_of_length_le (by omega),List.nil_append,Nat.add_sub_cancel_left,U,← a2,List.drop_left]
   simp [List.append_assoc]
  obtain ⟨h',D⟩:=Join.of_disj (h1:=Hp.one g (.cells (pre++(J++vs++Y)++a).toArray e fr)) (h2:=m) (fun b=>by
   by_cases hbg:b=g
   ·subst hbg
    refine .inr ((jm.is_none b).2 ⟨?_,?_⟩)
    ·rcases F.disj b with f | f
     ·have:=((E.is_none b).1 f).1
      simp [Hp.one] at this
     ·exact f
    ·rcases E.disj b with f | f
     ·simp [Hp.one] at f
     ·exact ((jn.is_none b).1 f).2
   ·exact .inl (by simp [Hp.one,hbg]))
  refine ⟨(),w',h',?_,sm _,?_,?_,?_,?_⟩
  ·have a3:(ev σ y).cells.size=K.sz:=by rw [← U,← hy]; simp
   simp only [execOp,Instr.storeAt,hx,Instr.sureAddr,Sem.run_bind,Sem.run_pure,Result.andThen_ok,storeVar,eE hs,hy,a3,ne_eq,not_true_eq_false,if_false,r]
  ·refine .inr ⟨g,_,pre,J++vs++Y,a,fr,m,by rw [List.length_set],by rw [List.length_set]; exact h2,h3,by rw [List.length_set]; exact h4,?_,D,L I hA x' vs m (Hp.le_refl I) jm G⟩
   rcases O with O | O
   ·exact .inl O
   ·refine .inr ?_
    simp only [List.length_append] at *
    omega
  ·intro b o' l
   rcases D.cases l with ⟨l,_⟩|⟨l,Z⟩
   ·simp only [Hp.one] at l
    split at l
    ·rename_i B
     subst B
     rw [← Option.some.inj l,e',M]
    ·cases l
   ·have u:b≠g:=by rintro rfl; simp [Hp.one] at Z
    rw [ot b u]
    rcases jm.cases l with ⟨l,_⟩|⟨l,_⟩
    ·exact lw b _ (F.right b _ l)
    ·exact lw b _ (F.left b _ (E.right b _ (jn.right b _ l)))
  ·intro b B
   refine .inl fun hn=>B ?_
   have q1:=(F.is_none b).1 hn
   have q2:=(E.is_none b).1 q1.1
   refine (D.is_none b).2 ⟨?_,(jm.is_none b).2 ⟨q1.2,((jn.is_none b).1 q2.2).2⟩⟩
   have:=q2.1
   simp only [Hp.one] at *
   split at this
   ·cases this
   ·rename_i u; rw [if_neg u]
  ·intro b o' hn l
   have q1:=(F.is_none b).1 hn
   have q2:=((E.is_none b).1 q1.1).1
   have u:b≠g:=by rintro rfl; simp [Hp.one] at q2
   rw [ot b u]
   exact l)
 exact eK hd hw (by rw [hr]; exact h w' s')
end
end Go.Pg
namespace Go.Pg
structure DecK {α:Type}(K:Kind α) where
 A:Type
 cells:A→α→List Value
 ents:A→α→List HP
 dec:zW K cells ents
section
variable {α β:Type}
def DecK.scal (enc:α→Value)(h1:∀ x,(enc x).oneCell'=true):DecK (Kind.scal enc h1):=⟨Unit,fun _ x=>[enc x],fun _ _=>[],fun I x cs h=>⟨(),h,rfl⟩⟩
def DecK.sl (e:Nat)(K:Kind α):DecK (Kind.sl e K):=⟨Option Addr×Nat,fun a xs=>[.slice a.1 xs.length a.2],fun a xs=>[aO K (.slice a.1 xs.length a.2) xs],fun I x cs h=>by
 obtain ⟨v,rfl,r⟩:=h
 obtain ⟨a,c,rfl⟩:=o3 r
 exact ⟨(a,c),rfl,Hp.none,Hp.none,Join.none _,⟨rfl,r⟩,rfl⟩⟩
def DecK.pair {A:Kind α}{B:Kind β}(a:DecK A)(b:DecK B):DecK (Kind.pair A B):=⟨a.A×b.A,fun p x=>a.cells p.1 x.1++b.cells p.2 x.2,fun p x=>a.ents p.1 x.1++b.ents p.2 x.2,fun I x cs h=>by
 obtain ⟨j,i,rfl,h1,h2⟩:=h
 obtain ⟨p,rfl,g⟩:=a.dec _ _ _ h1
 obtain ⟨q,rfl,e⟩:=b.dec _ _ _ h2
 exact ⟨(p,q),rfl,cA.2 ⟨Hp.none,Hp.none,Join.none _,g,e⟩⟩⟩
def DecK.iso {K:Kind α}(a:DecK K)(f:β→α):DecK (Kind.iso K f):=⟨a.A,fun p x=>a.cells p (f x),fun p x=>a.ents p (f x),fun I x cs h=>a.dec I (f x) cs h⟩
theorem DecK.own {K:Kind α}(a:DecK K):np K.share a.cells a.ents:=fun I h x cs o=>a.dec I x cs o.2
theorem DecK.leaf {K:Kind α}(a:DecK K){fo:Nat}{pr:α→Value}(h:∀ p x,qy (a.cells p x) fo=some (pr x)):xT K fo pr:=fun I x cs b=>by
 obtain ⟨p,rfl,_⟩:=a.dec I x cs b
 exact h p x
structure MkS {α:Type}(K:Kind α) where
 A:Type
 cells:A→α→List Value
 ents:A→α→List HP
 put:∀ I h a x,eO (ents a x) I h→h=Hp.none∧K.rd I x (cells a x)
structure MkO {α:Type}(K:Kind α) where
 A:Type
 cells:A→α→List Value
 ents:A→α→List HP
 put:∀ I h a x,eO (ents a x) I h→K.own I h x (cells a x)
def MkS.scal (enc:α→Value)(h1:∀ x,(enc x).oneCell'=true):MkS (Kind.scal enc h1):=⟨Unit,fun _ x=>[enc x],fun _ _=>[],fun I h a x s=>⟨s,rfl⟩⟩
def MkS.sl (e:Nat)(K:Kind α):MkS (Kind.sl e K):=⟨Value,fun v _=>[v],fun v xs=>[aO K v xs],fun I h a x s=>by
 obtain ⟨h1,h2,j,⟨rfl,r⟩,e⟩:=s
 have e:h2=Hp.none:=e
 subst e
 exact ⟨j.eq_of_none,a,rfl,r⟩⟩
def MkS.pair {A:Kind α}{B:Kind β}(a:MkS A)(b:MkS B):MkS (Kind.pair A B):=⟨a.A×b.A,fun p x=>a.cells p.1 x.1++b.cells p.2 x.2,fun p x=>a.ents p.1 x.1++b.ents p.2 x.2,fun I h p x s=>by
 obtain ⟨h1,h2,j,q,i⟩:=cA.1 s
 obtain ⟨l,e⟩:=a.put _ _ _ _ q
 obtain ⟨m,g⟩:=b.put _ _ _ _ i
 subst l; subst m
 exact ⟨j.eq_of_none,_,_,rfl,e,g⟩⟩
def MkS.iso {K:Kind α}(a:MkS K)(f:β→α):MkS (Kind.iso K f):=⟨a.A,fun p x=>a.cells p (f x),fun p x=>a.ents p (f x),fun I h p x s=>a.put I h p (f x) s⟩
def MkO.scal (enc:α→Value)(h1:∀ x,(enc x).oneCell'=true):MkO (Kind.scal enc h1):=⟨Unit,fun _ x=>[enc x],fun _ _=>[],fun I h a x s=>⟨s,rfl⟩⟩
def MkO.sl (e:Nat)(K:Kind α):MkO (Kind.sl e K):=⟨Value,fun v _=>[v],fun v xs=>[ow K e v xs],fun I h a x s=>by
 obtain ⟨h1,h2,j,o,b⟩:=s
 have b:h2=Hp.none:=b
 subst b
 rw [j.symm.eq_of_none]
 exact ⟨a,rfl,o⟩⟩
def MkO.pair {A:Kind α}{B:Kind β}(a:MkO A)(b:MkO B):MkO (Kind.pair A B):=⟨a.A×b.A,fun p x=>a.cells p.1 x.1++b.cells p.2 x.2,fun p x=>a.ents p.1 x.1++b.ents p.2 x.2,fun I h p x s=>by
 obtain ⟨h1,h2,j,g,e⟩:=cA.1 s
 exact ⟨h1,h2,_,_,j,rfl,a.put _ _ _ _ g,b.put _ _ _ _ e⟩⟩
def MkO.iso {K:Kind α}(a:MkO K)(f:β→α):MkO (Kind.iso K f):=⟨a.A,fun p x=>a.cells p (f x),fun p x=>a.ents p (f x),fun I h p x s=>a.put I h p (f x) s⟩
structure SpO {α:Type}(K:Kind α) where
 A:Type
 cells:A→α→List Value
 ents:A→α→List HP
 sp:∀ I h x cs,K.own I h x cs→∃ a,cs=cells a x∧eO (ents a x) I h
theorem rP {L:Kind β}{e:Nat}{I h:Hp}{v:Value}{ys:List β}(r:nZ L e I h v ys):∃ a c,v=.slice a ys.length c:=by
 rcases r with ⟨A,rfl,rfl,_⟩|⟨g,c,pre,i,b,fr,h1,rfl,_⟩
 ·exact ⟨A,0,rfl⟩
 ·exact ⟨_,c,rfl⟩
def SpO.scal (enc:α→Value)(h1:∀ x,(enc x).oneCell'=true):SpO (Kind.scal enc h1):=⟨Unit,fun _ x=>[enc x],fun _ _=>[],fun I h x cs o=>⟨(),o.2,o.1⟩⟩
def SpO.sl (e:Nat)(K:Kind α):SpO (Kind.sl e K):=⟨Option Addr×Nat,fun a xs=>[.slice a.1 xs.length a.2],fun a xs=>[ow K e (.slice a.1 xs.length a.2) xs],fun I h x cs o=>by
 obtain ⟨v,rfl,r⟩:=o
 obtain ⟨a,c,rfl⟩:=rP r
 exact ⟨(a,c),rfl,h,Hp.none,Join.none' _,r,rfl⟩⟩
def SpO.pair {A:Kind α}{B:Kind β}(a:SpO A)(b:SpO B):SpO (Kind.pair A B):=⟨a.A×b.A,fun p x=>a.cells p.1 x.1++b.cells p.2 x.2,fun p x=>a.ents p.1 x.1++b.ents p.2 x.2,fun I h x cs o=>by
 obtain ⟨h1,h2,l,i,j,rfl,o1,o2⟩:=o
 obtain ⟨p,rfl,g⟩:=a.sp _ _ _ _ o1
 obtain ⟨q,rfl,e⟩:=b.sp _ _ _ _ o2
 exact ⟨(p,q),rfl,cA.2 ⟨h1,h2,j,g,e⟩⟩⟩
def SpO.iso {K:Kind α}(a:SpO K)(f:β→α):SpO (Kind.iso K f):=⟨a.A,fun p x=>a.cells p (f x),fun p x=>a.ents p (f x),fun I h x cs o=>a.sp I h (f x) cs o⟩
structure Zr {α:Type}(K:Kind α) where
 z:α
 cs:List Value
 len:cs.length=K.sz
 own:∀ I,K.own I Hp.none z cs
def Zr.scal (enc:α→Value)(h1:∀ x,(enc x).oneCell'=true)(z:α):Zr (Kind.scal enc h1):=⟨z,[enc z],rfl,fun I=>⟨rfl,rfl⟩⟩
def Zr.sl (e:Nat)(K:Kind α):Zr (Kind.sl e K):=⟨[],[.slice none 0 0],rfl,fun I=>⟨_,rfl,.inl ⟨none,rfl,rfl,rfl⟩⟩⟩
def Zr.pair {A:Kind α}{B:Kind β}(a:Zr A)(b:Zr B):Zr (Kind.pair A B):=⟨(a.z,b.z),a.cs++b.cs,by rw [List.length_append,a.len,b.len]; rfl,fun I=>⟨Hp.none,Hp.none,_,_,Join.none _,rfl,a.own I,b.own I⟩⟩
def Zr.iso {K:Kind α}(a:Zr K)(f:β→α)(z:β)(h:f z=a.z):Zr (Kind.iso K f):=⟨z,a.cs,a.len,fun I=>by show K.own I Hp.none (f z) a.cs; rw [h]; exact a.own I⟩
def Zr.share {K:Kind α}(a:Zr K):Zr K.share:=⟨a.z,a.cs,a.len,fun I=>⟨rfl,K.own_rd (Hp.le_refl I) (Hp.none_le I) (a.own I)⟩⟩
theorem Zr.zk {P:Program}{K:Kind α}{e:TypeId}(a:Zr K)(h:ku P e=some a.cs):o4 P K e a.z:=⟨a.cs,h,a.len,a.own⟩
theorem oS {K:Kind α}{I J:Hp}(l:Hp.le I J):∀ (xs:List α) (h:Hp) (cs:List Value),Hp.le h J→gB K I h xs cs→gB K.share J Hp.none xs cs:=by
 intro xs
 induction xs with
 | nil=>intro h cs _ o; exact ⟨rfl,o.2⟩
 | cons x xs ih =>
  rintro h cs i ⟨h1,h2,m,g,j,e,a,b⟩
  exact ⟨Hp.none,Hp.none,m,g,Join.none _,e,⟨rfl,K.own_rd l (Hp.le_trans j.left i) a⟩,ih h2 g (Hp.le_trans j.right i) b⟩
theorem St.wk {C w:World}{V:List HP}{K:Kind α}{e:Nat}{v:Value}{xs:List α}(s:St C w V)(i:Nat)(hV:lk V i=ow K e v xs):St C w (ow K.share e v xs::Pg.rm V i):=by
 obtain ⟨a,I,h,g,j,l,s⟩:=s.mv i
 obtain ⟨h1,h2,u,p,s'⟩:=s
 rw [hV] at p
 have p:nZ K e I h1 v xs:=p
 rcases p with ⟨A,rfl,rfl,rfl⟩|⟨b,c,pre,r,q,fr,L,rfl,Y,U,Z,q5,B,T⟩
 ·exact ⟨a,I,h,g,j,l,Hp.none,h2,u,.inl ⟨A,rfl,rfl,rfl⟩,s'⟩
 ·obtain ⟨k,k1,k2⟩:=Join.assoc' u j
  obtain ⟨J,D⟩:=Join.of_disj (h1:=I) (h2:=L) (fun x=>by
   rcases k1.disj x with f | f
   ·exact .inl f
   ·exact .inr ((B.is_none x).1 f).2)
  obtain ⟨O,F⟩:=Join.of_disj (h1:=Hp.one b (.cells (pre++r++q).toArray e fr)) (h2:=h2) (fun x=>by
   rcases u.disj x with f | f
   ·exact .inl ((B.is_none x).1 f).1
   ·exact .inr f)
  obtain ⟨G,M⟩:=Join.of_disj (h1:=J) (h2:=O) (fun x=>by
   by_cases hx:J x=Option.none
   ·exact .inl hx
   ·refine .inr ((F.is_none x).2 ?_)
    cases hI:I x with
    | some o =>
     have:h x=Option.none:=by
      rcases j.disj x with f | f
      ·rw [hI] at f; cases f
      ·exact f
     have:=(u.is_none x).1 this
     exact ⟨((B.is_none x).1 this.1).1,this.2⟩
    | none =>
     have E:L x≠Option.none:=fun hn=>hx ((D.is_none x).2 ⟨hI,hn⟩)
     refine ⟨?_,?_⟩
     ·rcases B.disj x with f | f
      ·exact f
      ·exact absurd f E
     ·rcases u.disj x with f | f
      ·exact absurd ((B.is_none x).1 f).2 E
      ·exact f)
  refine ⟨a,J,O,G,M,?_,_,h2,F,.inr ⟨b,c,pre,r,q,fr,Hp.none,rfl,Y,U,Z,q5,Join.none' _,oS D.left xs L r D.right T⟩,iA D.left s'⟩
  intro x o m
  rcases M.cases m with ⟨m,_⟩|⟨m,_⟩
  ·rcases D.cases m with ⟨m,_⟩|⟨m,_⟩
   ·exact l x o (j.left x o m)
   ·exact l x o (j.right x o (u.left x o (B.right x o m)))
  ·rcases F.cases m with ⟨m,_⟩|⟨m,_⟩
   ·exact l x o (j.right x o (u.left x o (B.left x o m)))
   ·exact l x o (j.right x o (u.right x o m))
end
section
variable {X:Cx}{V:List HP}{σ:cY}{Q:Exit→cY→World→Prop}{ops:Array Oper}{rest:List Oper}
variable {d:Option Nat}{ty:TypeId}{pos:String}{af:Array Edge}{gd:Option (Nat×Bool)}
theorem dT {T:TypeId}{x:Operand}{b k n:Nat}{cs ds:List Value}{h:Nat}(i:Nat)(j:eW X.P T=some true)(m:hK X.P T=some n)
  (l:lk V i=aJ b cs h) (g:ev σ x=.pointer (some ⟨b,k,none⟩)) (e:(cs.drop k).take n=ds) (a:ds.length=n):VO X V σ ⟨d,.load T x,ty,pos,af,gd⟩ (.agg ds.toArray):=by
 subst e
 exact tT i j m l g a
end
section
variable {α:Type}
theorem MkO.list {K:Kind α}(M:MkO K):∀ (ps:List (M.A×α)) (I h:Hp),eO (ps.flatMap fun p=>M.ents p.1 p.2) I h→gB K I h (ps.map (·.2)) (ps.flatMap fun p=>M.cells p.1 p.2):=by
 intro ps
 induction ps with
 | nil=>intro I h s; exact ⟨s,rfl⟩
 | cons p ps ih =>
  intro I h s
  rw [List.flatMap_cons] at s
  obtain ⟨h1,h2,j,a,b⟩:=cA.1 s
  exact ⟨h1,h2,_,_,j,by rw [List.flatMap_cons],M.put _ _ _ _ a,ih I h2 b⟩
theorem MkS.list {K:Kind α}(M:MkS K):∀ (ps:List (M.A×α)) (I h:Hp),eO (ps.flatMap fun p=>M.ents p.1 p.2) I h→gB K.share I h (ps.map (·.2)) (ps.flatMap fun p=>M.cells p.1 p.2):=by
 intro ps
 induction ps with
 | nil=>intro I h s; exact ⟨s,rfl⟩
 | cons p ps ih =>
  intro I h s
  rw [List.flatMap_cons] at s
  obtain ⟨h1,h2,j,a,b⟩:=cA.1 s
  exact ⟨h1,h2,_,_,j,by rw [List.flatMap_cons],M.put _ _ _ _ a,ih I h2 b⟩
theorem DecK.flat {K:Kind α}(a:DecK K){b:α→List Value}(h:∀ p x,a.cells p x=b x):∀ I x cs,K.rd I x cs→cs=b x:=fun I x cs r=>by
 obtain ⟨p,rfl,_⟩:=a.dec I x cs r
 exact h p x
end
theorem wc {a b:Bool}(e:a=true)(g:b=true):(a&&b)=true:=by rw [e,g]; rfl
theorem cO {a:Bool}(b:a=false):(!a)=true:=by rw [b]; rfl
theorem vb {a b:Bool}(h:a=b):Value.bool a=Value.bool b:=by rw [h]
def bP {α:Type}[Inhabited α](c:Bool)(x:Option α):Option α:=cond c x (some default)
theorem bJ {α:Type}[Inhabited α]{c:Bool}{x:Option α}{r:α}(h:bP c x=some r)(a:c=true):x=some r:=by
 rw [a] at h
 exact h
section
variable {X:Cx}{V:List HP}{σ:cY}{Q:Exit→cY→World→Prop}{ops:Array Oper}{rest:List Oper}
variable {d:Option Nat}{ty:TypeId}{pos:String}{af:Array Edge}{gd:Option (Nat×Bool)}
theorem jB {S:TypeId}{x:Operand}{f fo b k a:Nat}(g:cS X.P S f=some fo)(e:ev σ x=.pointer (some ⟨b,k,none⟩))(i:k+fo=a):VO X V σ ⟨d,.fieldAddr S x f,ty,pos,af,gd⟩ (.pointer (some ⟨b,a,none⟩)):=by
 have h:=tU (X:=X) (V:=V) (d:=d) (ty:=ty) (pos:=pos) (af:=af) (gd:=gd) g e
 rw [fP,i] at h
 exact h
theorem iS {A:Type}{x:Code}(pf:A→Prop)(g:A→List (Nat×Value))(b:A→List HP)(i:TC X V σ x (hX (Jn X pf g b) Q))(h:∀ a σ',pf a→TQ X (b a) (oN σ' (g a)) .normal Q):TC X V σ x Q:=by
 intro w s
 refine W.mono (i w s) ?_
 intro e σ' j q
 cases e with
 | normal =>
  obtain ⟨a,l,h1,h2⟩:=q
  have:=h a σ' l j h2
  rw [l2 h1] at this
  exact this
 | _=>exact q
theorem eA {T:TypeId}{x:Operand}{g k fo:Nat}{v:Value}{cs:List Value}(i:Nat)(e:eW X.P T=some false)(a:lk V i=cl g k cs)(b:ev σ x=.pointer (some ⟨g,k+fo,none⟩))(h:qy cs fo=some v):VO X V σ ⟨d,.load T x,ty,pos,af,gd⟩ v:=by
 intro w s
 have:=pM s i a fo v (by rw [← kg]; exact h)
 simp only [execOp,Instr.loadAt,b,Instr.sureAddr,Sem.run_bind,Sem.run_pure,Result.andThen_ok,eJ e this]
theorem eI {T:TypeId}{x:Operand}{g k fo n:Nat}{cs ds:List Value}(i:Nat)(l:eW X.P T=some true)(m:hK X.P T=some n)(r:lk V i=cl g k cs)(h:ev σ x=.pointer (some ⟨g,k+fo,none⟩))(e:(cs.drop fo).take n=ds)(q:ds.length=n) :
  VO X V σ ⟨d,.load T x,ty,pos,af,gd⟩ (.agg ds.toArray):=by
 intro w s
 have:=pM s i r
 have h2:=eX (P:=X.P) (w:=w) (a:=⟨g,k+fo,none⟩) (cs:=ds) l (by rw [q]; exact m) (fun j u b=>by
  rw [fP,Nat.add_assoc]
  refine this _ _ ?_
  rw [← e,List.getElem?_take] at b
  split at b
  ·rwa [List.getElem?_drop] at b
  ·cases b)
 simp only [execOp,Instr.loadAt,h,Instr.sureAddr,Sem.run_bind,Sem.run_pure,Result.andThen_ok,h2]
end
section
variable {α:Type}{P:Program}{f:FuncId}{args:List Value}
def pR:List HP→List HP→Prop
 | [],[]=>True
 | p::A',q::A=>(∀ I J h,Hp.le I J→Hp.le h J→p.p I h→q.p J Hp.none)∧pR A' A
 | _,_=>False
theorem aY {K:Kind α}{e:Nat}{v:Value}{xs:List α}:∀ I J h,Hp.le I J→Hp.le h J→(ow K e v xs).p I h→(aO K v xs).p J Hp.none:=fun I J h l m p=>⟨rfl,kx l m p⟩
theorem jU {K:Kind α}{e:Nat}{v:Value}{xs:List α}:∀ I J h,Hp.le I J→Hp.le h J→(ow K.share e v xs).p I h→(aO K v xs).p J Hp.none:=fun I J h l m p=>⟨rfl,kx (K:=K.share) l m p⟩
theorem dY {K:Kind α}{e:Nat}{v:Value}{xs:List α}:jA (ow K.share e v xs) K v xs:=aB (K:=K.share)
theorem St.shs {C w:World}{V:List HP}{K:Kind α}{e:Nat}{v:Value}{xs:List α}(s:St C w V)(i:Nat)(a:lk V i=ow K.share e v xs):St C w (aO K v xs::Pg.rm V i):=St.shr (K:=K.share) s i a
theorem oU:∀ (A' A:List HP),pR A' A→∀ I J h,Hp.le I J→Hp.le h J→eO A' I h→eO A J Hp.none:=by
 intro A'
 induction A' with
 | nil =>
  intro A e I J h _ _ s
  cases A with
  | nil=>rfl
  | cons q A=>exact e.elim
 | cons p A' ih =>
  intro A e I J h lI g s
  cases A with
  | nil=>exact e.elim
  | cons q A =>
   obtain ⟨h1,h2,j,a,b⟩:=s
   exact ⟨Hp.none,Hp.none,Join.none _,e.1 I J h1 lI (Hp.le_trans j.left g) a,ih A e.2 I J h2 lI (Hp.le_trans j.right g) b⟩
theorem FnOk.lends {T:Type}{A' A B:List HP}{a:T→Value×List HP}(hc:FnOk P f args (A++B) a)(hl:pR A' A)(hp:∀ x,AllC (a x).2):FnOk P f args (A'++B) (fun x=>((a x).1,A'++(a x).2)):=by
 rintro C w V ⟨sm,I,hh,g,j,lw,G⟩
 rw [List.append_assoc] at G
 obtain ⟨h1,h2,j',p,s⟩:=cA.1 G
 obtain ⟨s1,q,Z,O,sV⟩:=cA.1 s
 obtain ⟨k,k1,k2⟩:=Join.assoc' j' j
 have st:St C w (A++B++(Bq I::Bq h1::V.map (Ad I))):=by
  refine ⟨sm,k,h2,g,k2,lw,?_⟩
  rw [List.append_assoc]
  exact cA.2 ⟨Hp.none,h2,Join.none h2,oU A' A hl I k h1 k1.left k1.right p,cA.2 ⟨s1,q,Z,iA k1.left O,Hp.none,q,Join.none q,⟨rfl,k1.left⟩,Hp.none,q,Join.none q,⟨rfl,k1.right⟩,tZ k1.left sV⟩⟩
 refine Calls.mono' (hc C w _ st) ?_
 rintro e' w' ⟨x,rfl,u,I',r,g',l,h,F⟩
 refine ⟨x,rfl,u,?_⟩
 obtain ⟨q1,q2,Y,sR,b1,b2,U,⟨rfl,lI⟩,c1,c2,jc,⟨rfl,J⟩,E⟩:=cA.1 F
 have e1:=U.eq_of_none
 have e2:=jc.eq_of_none
 subst e2; subst e1
 have M:∀ b,h1 b=Option.none∨r b=Option.none:=fun b=>by
  cases hb:h1 b with
  | none=>exact .inl rfl
  | some o =>
   refine .inr ?_
   rcases l.disj b with f | f
   ·rw [J b o hb] at f; cases f
   ·exact f
 obtain ⟨m,D⟩:=Join.of_disj M
 obtain ⟨L,i⟩:=Join.of_disj (h1:=I) (h2:=m) (fun b=>by
  cases hb:I b with
  | none=>exact .inl rfl
  | some o =>
   refine .inr ((D.is_none b).2 ⟨?_,?_⟩)
   ·rcases k1.disj b with f | f
    ·rw [hb] at f; cases f
    ·exact f
   ·rcases l.disj b with f | f
    ·rw [lI b o hb] at f; cases f
    ·exact f)
 refine ⟨I,m,L,i,?_,?_⟩
 ·intro b o e
  rcases i.cases e with ⟨e,_⟩|⟨e,_⟩
  ·exact h b o (l.left b o (lI b o e))
  ·rcases D.cases e with ⟨e,_⟩|⟨e,_⟩
   ·exact h b o (l.left b o (J b o e))
   ·exact h b o (l.right b o e)
 ·rw [List.append_assoc]
  exact cA.2 ⟨h1,r,D,p,cA.2 ⟨q1,q2,Y,o6 (Ac (hp x)) sR,t' E⟩⟩
end
end Go.Pg
namespace Go.Pg
def iT (i j:Nat):Nat:=cond (Nat.blt i j) (j - 1) j
def oV:Nat→List Nat→Bool
 | _,[]=>true
 | n,i::is=>Nat.blt i n&&is.all (fun j=>!Nat.beq i j)&&oV n is
theorem y3:∀ (A:List HP) (i j:Nat),i≠j→lk (rm A i) (iT i j)=lk A j:=by
 intro A
 induction A with
 | nil=>intro i j _; cases i<;>rfl
 | cons p A ih =>
  intro i j a
  cases i with
  | zero =>
   cases j with
   | zero=>exact absurd rfl a
   | succ j=>rfl
  | succ i =>
   cases j with
   | zero =>
    have:iT (i+1) 0=0:=by simp [iT,Nat.blt]
    rw [this]; rfl
   | succ j =>
    have l:iT (i+1) (j+1)=iT i j+1:=by
     have g:Nat.blt (i+1) (j+1)=Nat.blt i j:=by
      cases h:Nat.blt i j with
      | true=>have:=Nat.le_of_ble_eq_true h; exact Nat.ble_eq_true_of_le (by omega)
      | false =>
       cases h2:Nat.blt (i+1) (j+1) with
       | false=>rfl
       | true =>
        have:=Nat.le_of_ble_eq_true h2
        have b:Nat.blt i j=true:=Nat.ble_eq_true_of_le (by omega)
        rw [b] at h; cases h
     unfold iT
     rw [g]
     cases h:Nat.blt i j with
     | true=>have:=Nat.le_of_ble_eq_true h; show j+1 - 1=j - 1+1; omega
     | false=>rfl
    rw [l]
    exact ih i j (fun e=>a (by rw [e]))
theorem rQ {I:Hp}:∀ (n:Nat) (is:List Nat) (A:List HP) (h:Hp),is.length≤n→(∀ i∈is,i<A.length)→is.Nodup→eO A I h→∃ B,Hp.le B h∧eO (is.map (lk A)) I B:=by
 intro n
 induction n with
 | zero =>
  intro is A h L _ _ _
  have:is=[]:=List.eq_nil_of_length_eq_zero (by omega)
  subst this
  exact ⟨Hp.none,Hp.none_le _,rfl⟩
 | succ n ih =>
  intro is A h L u F s
  cases is with
  | nil=>exact ⟨Hp.none,Hp.none_le _,rfl⟩
  | cons i is =>
   obtain ⟨h1,h2,j,a,b⟩:=eQ i s
   have m:=List.nodup_cons.1 F
   have M:=u i (by simp)
   have T:(rm A i).length+1=A.length:=by
    clear ih L u F m s j a b h1 h2
    induction A generalizing i with
    | nil=>cases M
    | cons p A ihA =>
     cases i with
     | zero=>rfl
     | succ i=>exact congrArg (·+1) (ihA i (by simpa using M))
   have q:∀ x∈is,x≠i:=fun x r e=>m.1 (e▸r)
   obtain ⟨B,l,s'⟩:=ih (is.map (iT i)) (rm A i) h2 (by simp at L ⊢; omega) (by
    intro x r
    obtain ⟨y,G,rfl⟩:=List.mem_map.1 r
    have U:=u y (by simp [G])
    have Y:=q y G
    unfold iT
    cases hb:Nat.blt i y with
    | true=>have:=Nat.le_of_ble_eq_true hb; show y - 1<_; omega
    | false =>
     have:¬ i<y:=fun D=>by
      have E:Nat.blt i y=true:=Nat.ble_eq_true_of_le D
      rw [E] at hb; cases hb
     show y<_
     omega) (by
    unfold List.Nodup
    rw [List.pairwise_map]
    refine List.Pairwise.imp_of_mem (fun {x y} r G hne=>?_) m.2
    have U:=q x r
    have Y:=q y G
    intro e
    unfold iT at e
    cases hb:Nat.blt i x<;>cases hc:Nat.blt i y<;>rw [hb,hc] at e
    ·exact hne e
    ·have:=Nat.le_of_ble_eq_true hc
     have J:¬ i<x:=fun D=>by
      have E:Nat.blt i x=true:=Nat.ble_eq_true_of_le D
      rw [E] at hb; cases hb
     have e:x=y - 1:=e
     omega
    ·have:=Nat.le_of_ble_eq_true hb
     have J:¬ i<y:=fun D=>by
      have E:Nat.blt i y=true:=Nat.ble_eq_true_of_le D
      rw [E] at hc; cases hc
     have e:x - 1=y:=e
     omega
    ·have:=Nat.le_of_ble_eq_true hb
     have:=Nat.le_of_ble_eq_true hc
     have e:x - 1=y - 1:=e
     omega) b
   have Z:(is.map (iT i)).map (lk (rm A i))=is.map (lk A):=by
    rw [List.map_map]
    refine List.map_congr_left fun x r=>?_
    exact y3 A i x (fun e=>q x r e.symm)
   rw [Z] at s'
   obtain ⟨g,O⟩:=Join.of_disj (h1:=h1) (h2:=B) (fun b=>by
    rcases j.disj b with f | f
    ·exact .inl f
    ·refine .inr ?_
     cases hq:B b with
     | none=>rfl
     | some o=>rw [l b o hq] at f; cases f)
   refine ⟨g,fun b o e=>?_,h1,B,O,a,s'⟩
   rcases O.cases e with ⟨e,_⟩|⟨e,_⟩
   ·exact j.left b o e
   ·exact j.right b o (l b o e)
theorem qC:∀ (n:Nat) (is:List Nat),oV n is=true→(∀ i∈is,i<n)∧is.Nodup:=by
 intro n is
 induction is with
 | nil=>intro _; exact ⟨fun _ h=>(by cases h),List.nodup_nil⟩
 | cons i is ih =>
  intro h
  simp only [oV,Bool.and_eq_true,List.all_eq_true,Bool.not_eq_true'] at h
  obtain ⟨⟨h1,h2⟩,g⟩:=h
  obtain ⟨g1,b⟩:=ih g
  refine ⟨fun x a=>?_,List.nodup_cons.2 ⟨fun e=>?_,b⟩⟩
  ·rcases List.mem_cons.1 a with rfl | a
   ·exact Nat.lt_of_lt_of_le (Nat.lt_succ_self _) (Nat.le_of_ble_eq_true h1)
   ·exact g1 x a
  ·have:=h2 i e
   rw [show Nat.beq i i=true from Nat.beq_refl i] at this
   cases this
theorem wd:∀ (n:Nat) (V:List HP),n≤V.length→(tk n V).length=n:=by
 intro n
 induction n with
 | zero=>intro V _; rfl
 | succ n ih =>
  intro V h
  cases V with
  | nil=>simp at h
  | cons p V=>exact congrArg (·+1) (ih V (by simpa using h))
theorem y4:∀ (n:Nat) (V:List HP) (i:Nat),i<n→lk (tk n V) i=lk V i:=by
 intro n
 induction n with
 | zero=>intro V i h; cases h
 | succ n ih =>
  intro V i h
  cases V with
  | nil=>rfl
  | cons p V =>
   cases i with
   | zero=>rfl
   | succ i=>exact ih V i (by omega)
def xJ:Nat→List HP→Bool
 | 0,_=>true
 | _+1,[]=>false
 | n+1,_::V=>xJ n V
theorem rR:∀ (n:Nat) (V:List HP),xJ n V=true→n≤V.length:=by
 intro n
 induction n with
 | zero=>intro V _; exact Nat.zero_le _
 | succ n ih =>
  intro V h
  cases V with
  | nil=>cases h
  | cons p V=>exact Nat.succ_le_succ (ih V h)
theorem St.sel {C w:World}{V:List HP}(s:St C w V)(n:Nat)(is:List Nat)(h:oV n is=true)(B:xJ n V=true):St C w (is.map (lk V)++dp n V):=by
 obtain ⟨h1,h2⟩:=qC n is h
 have B:=rR n V B
 rw [← mg n V] at s
 obtain ⟨a,I,U,g,j,l,s⟩:=s
 obtain ⟨g1,D,u,Y,O⟩:=cA.1 s
 obtain ⟨q,J,L⟩:=rQ is.length is (tk n V) g1 (Nat.le_refl _) (fun i r=>by rw [wd n V B]; exact h1 i r) h2 Y
 have T:is.map (lk (tk n V))=is.map (lk V):=List.map_congr_left fun i r=>y4 n V i (h1 i r)
 rw [T] at L
 obtain ⟨m,M⟩:=Join.of_disj (h1:=q) (h2:=D) (fun b=>by
  rcases u.disj b with f | f
  ·refine .inl ?_
   cases hq:q b with
   | none=>rfl
   | some o=>rw [J b o hq] at f; cases f
  ·exact .inr f)
 have F:Hp.le m U:=fun b o e=>by
  rcases M.cases e with ⟨e,_⟩|⟨e,_⟩
  ·exact u.left b o (J b o e)
  ·exact u.right b o e
 obtain ⟨G,E⟩:=Join.of_disj (h1:=I) (h2:=m) (fun b=>by
  rcases j.disj b with f | f
  ·exact .inl f
  ·refine .inr ?_
   cases hq:m b with
   | none=>rfl
   | some o=>rw [F b o hq] at f; cases f)
 refine ⟨a,I,m,G,E,fun b o e=>?_,cA.2 ⟨q,D,M,L,O⟩⟩
 rcases E.cases e with ⟨e,_⟩|⟨e,_⟩
 ·exact l b o (j.left b o e)
 ·exact l b o (j.right b o (F b o e))
section
variable {X:Cx}{V:List HP}{σ:cY}{Q:Exit→cY→World→Prop}{cd:Code}{α:Type}
theorem wf {K:Kind α}{a:Option Addr}{n c:Nat}{xs:List α}(i:Nat)(m:jA (lk V i) K (.slice a n c) xs)(b:a.isNone=true)(h:xs=[]→TC X V σ cd Q):TC X V σ cd Q:=by
 intro w s
 obtain ⟨J,lw,A,q,j,h2,r,l⟩:=s.reads m
 refine h ?_ w s
 cases xs with
 | nil=>rfl
 | cons x xs =>
  obtain ⟨g,o,e,_⟩:=l (by simp)
  injection j with e1 _ _
  rw [e1,e] at b
  cases b
end
end Go.Pg
namespace Go.Pg
theorem SetL.flat {α:Type}{K:Kind α}(S:SpO K)(M:MkO K)(A:M.A){fo:Nat}{v:Value}{f:α→α}(h1:Nat.blt fo K.sz=true)(h2:∀ a x,S.ents a x=[])(b:∀ x,M.ents A (f x)=[])(e:∀ a x,(S.cells a x).set fo v=M.cells A (f x)):SetL K fo v f:=by
 refine ⟨Nat.lt_of_lt_of_le (Nat.lt_succ_self _) (Nat.le_of_ble_eq_true h1),fun I h x cs o=>?_⟩
 obtain ⟨a,rfl,s⟩:=S.sp I h x cs o
 rw [h2] at s
 have s:h=Hp.none:=s
 subst s
 rw [e]
 exact M.put I Hp.none A (f x) (by rw [b]; rfl)
theorem SetL.deep {α:Type}{K:Kind α}(S:SpO K)(M:MkO K)(c:S.A→α→M.A){fo:Nat}{v:Value}{f:α→α}(h1:Nat.blt fo K.sz=true)(h2:∀ a x,S.ents a x=M.ents (c a x) (f x))(b:∀ a x,(S.cells a x).set fo v=M.cells (c a x) (f x)):SetL K fo v f:=by
 refine ⟨Nat.lt_of_lt_of_le (Nat.lt_succ_self _) (Nat.le_of_ble_eq_true h1),fun I h x cs o=>?_⟩
 obtain ⟨a,rfl,s⟩:=S.sp I h x cs o
 rw [b]
 exact M.put I h (c a x) (f x) (by rw [← h2]; exact s)
end Go.Pg
namespace Go.Pg
section
variable {α:Type}
def u3 (K:Kind α)(e:Nat)(v:Value)(xs:List α)(j:Nat)(cs:List Value):HP where
 p I h:=∃ g c pre i m a fr h1,v=.slice (some ⟨g,pre.length,none⟩) xs.length c∧xs.length≤c∧c≤maxLen∧a.length=(c - xs.length)*K.sz ∧
  (fr=(0,0)∨pre.length+(i++cs++m).length+a.length≤fr.1)∧i.length=j*K.sz∧Join (Hp.one g (.cells (pre++(i++cs++m)++a).toArray e fr)) h1 h ∧
  ∀ q s x' b r,Hp.le I q→Join s h1 r→K.own q s x' b→gB K q r (xs.set j x') (i++b++m)
 mono:=by
  rintro I J h l ⟨g,c,pre,i,m,a,fr,h1,p1,G,L,B,F,D,M,u⟩
  exact ⟨g,c,pre,i,m,a,fr,h1,p1,G,L,B,F,D,M,fun q s x' b r E=>u q s x' b r (Hp.le_trans l E)⟩
theorem St.focus [Inhabited α]{K:Kind α}{C w:World}{V:List HP}{e g o n c:Nat}{xs:List α}(S:SpO K)(s:St C w V)(i:Nat)(j:Int)(hV:lk V i=ow K e (.slice (some ⟨g,o,none⟩) n c) xs)(h0:0≤j)(h1:j<n) :
  ∃ a,St C w (u3 K e (.slice (some ⟨g,o,none⟩) n c) xs j.toNat (S.cells a (ix xs j))::(S.ents a (ix xs j)++Pg.rm V i)):=by
 obtain ⟨sm,I,hh,gg,Y,l,D,h2,M,p,st⟩:=s.mv i
 rw [hV] at p
 have p:nZ K e I D (.slice (some ⟨g,o,none⟩) n c) xs:=p
 rcases p with ⟨A,r,rfl,_⟩|⟨E,c',pre,G,b,fr,hb,r,q2,U,q4,q5,jo,O⟩
 ·injection r with _ r _
  omega
 injection r with e1 e2 e3
 injection e1 with e1
 injection e1 with e1 e4
 subst e1; subst e3; subst e4; subst e2
 obtain ⟨a1,c1,Z,g1,J,F,h,jn,T,q⟩:=kw O (jb h0 h1)
 obtain ⟨a,rfl,B⟩:=S.sp _ _ _ _ T
 obtain ⟨m,L,m2⟩:=Join.assoc' jn.symm jo
 obtain ⟨k,k1,k2⟩:=Join.assoc m2 M
 exact ⟨a,sm,I,hh,gg,Y,l,m,k,k2,⟨g,_,pre,a1,Z,b,fr,J,rfl,q2,U,q4,by rw [← F]; exact q5,h,by rw [← F]; exact L,fun I' h' x' u E l' jj oo=>q I' h' x' u E l' jj oo⟩,cA.2 ⟨g1,h2,k1,B,st⟩⟩
theorem St.unfocus {K:Kind α}{C w:World}{E V:List HP}{e j:Nat}{v:Value}{xs:List α}{cs:List Value}(x':α)(s:St C w (u3 K e v xs j cs::(E++V)))(f:∀ I h,eO E I h→K.own I h x' cs):St C w (ow K e v (xs.set j x')::V):=by
 obtain ⟨Y,I,hh,J,F,l,h1,h2,r,⟨g,c,pre,u,Z,a,fr,hb,rfl,G,D,L,U,q6,jo,b⟩,st⟩:=s
 obtain ⟨i,O,jE,B,T⟩:=cA.1 st
 obtain ⟨k,k1,M⟩:=Join.assoc' jE r
 obtain ⟨m,q,m2⟩:=Join.assoc jo k1
 refine ⟨Y,I,hh,J,F,l,k,O,M,.inr ⟨g,c,pre,u++cs++Z,a,fr,m,by rw [List.length_set],by rw [List.length_set]; exact G,D,by rw [List.length_set]; exact L,U,m2,b I i x' cs m (Hp.le_refl I) q.symm (f I i B)⟩,T⟩
end
section
variable {X:Cx}{V:List HP}{σ:cY}{Q:Exit→cY→World→Prop}{ops:Array Oper}{rest:List Oper}{cd:Code}
variable {d:Option Nat}{ty:TypeId}{pos:String}{af:Array Edge}{gd:Option (Nat×Bool)}{α:Type}
theorem kE [Inhabited α]{K:Kind α}{e g o n c:Nat}{xs:List α}(S:SpO K)(i:Nat)(j:Int)(l:lk V i=ow K e (.slice (some ⟨g,o,none⟩) n c) xs)(b:0≤j)(h1:j<n)
  (h:∀ a,TL X ops (u3 K e (.slice (some ⟨g,o,none⟩) n c) xs j.toNat (S.cells a (ix xs j))::(S.ents a (ix xs j)++Pg.rm V i)) σ rest Q):TL X ops V σ rest Q:=by
 intro w s
 obtain ⟨a,s'⟩:=s.focus S i j l b h1
 exact h a w s'
theorem rS {K:Kind α}{C w:World}{e g o n c j:Nat}{xs:List α}{cs:List Value}(s:St C w V)(i:Nat)(B:lk V i=u3 K e (.slice (some ⟨g,o,none⟩) n c) xs j cs):∀ k u,cs[k]?=some u→w.cell? ⟨g,o+j*K.sz+k,none⟩=some u:=by
 obtain ⟨I,Y,p,lI,r,_⟩:=s.look i
 rw [B] at p
 obtain ⟨J,U,pre,h,l,a,fr,F,q,L,G,O,T,M,E,_⟩:=p
 injection q with e1 e2 e3
 injection e1 with e1
 injection e1 with e1 e4
 subst e1; subst e4
 have b:w.heap[g]?=some (.cells (pre++(h++cs++l)++a).toArray e fr):=r g _ (E.left g _ (by simp [Hp.one]))
 intro k u m
 have D:=(List.getElem?_eq_some_iff.1 m).1
 have:w.cell? ⟨g,pre.length+j*K.sz+k,none⟩=(pre++(h++cs++l)++a)[pre.length+j*K.sz+k]?:=by simp [World.cell?,b]
 rw [this,List.append_assoc,List.getElem?_append_right (by omega),show pre.length+j*K.sz+k - pre.length=j*K.sz+k by omega,List.append_assoc,List.append_assoc,List.getElem?_append_right (by omega),show j*K.sz+k - h.length=k by omega,List.getElem?_append_left D]
 exact m
theorem mn {K:Kind α}{T:TypeId}{x:Operand}{e g o n c fo j:Nat}{xs:List α}{v:Value}{cs:List Value}(i:Nat)(b:eW X.P T=some false)(l:lk V i=u3 K e (.slice (some ⟨g,o,none⟩) n c) xs j cs)(a:ev σ x=.pointer (some ⟨g,o+j*K.sz+fo,none⟩))(h:qy cs fo=some v):VO X V σ ⟨d,.load T x,ty,pos,af,gd⟩ v:=by
 intro w s
 have:=rS s i l fo v (by rw [← kg]; exact h)
 simp only [execOp,Instr.loadAt,a,Instr.sureAddr,Sem.run_bind,Sem.run_pure,Result.andThen_ok,eJ b this]
end
end Go.Pg
namespace Go.Pg
def pf (φ:Prop):HP:=⟨fun _ h=>h=Hp.none∧φ,fun _ e=>e⟩
section
variable {C w:World}{V:List HP}
end
section
variable {X:Cx}{V:List HP}{σ:cY}{Q:Exit→cY→World→Prop}{ops:Array Oper}{rest:List Oper}{o:Oper}{cd:Code}{ex:Exit}
variable {d:Option Nat}{ty:TypeId}{pos:String}{af:Array Edge}{gd:Option (Nat×Bool)}
variable {α:Type}
end
end Go.Pg
