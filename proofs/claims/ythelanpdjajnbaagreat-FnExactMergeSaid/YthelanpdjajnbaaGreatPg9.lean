import Derived.Test.YthelanpdjajnbaaGreatPg1
import Derived.Deep.Quiet
import Derived.KernelRfl
import Derived.OrdersHeld
set_option linter.unusedVariables false
set_option linter.unusedSimpArgs false
namespace Go.Pg
def tk:Nat→List HP→List HP
 | 0,_=>[]
 | _,[]=>[]
 | k+1,q::V=>q::tk k V
def dp:Nat→List HP→List HP
 | 0,V=>V
 | _,[]=>[]
 | k+1,_::V=>dp k V
theorem mR (k:Nat)(V:List HP):tk k V++dp k V=V:=by
 induction k generalizing V with
 | zero=>rfl
 | succ k ih =>
  cases V with
  | nil=>rfl
  | cons q V=>simp [tk,dp,ih]
section
variable {X:Cx}{V:List HP}{σ:dI}{Q:Exit→dI→World→Prop}{ops:Array Oper}{rest:List Oper}
variable {d:Option Nat}{ty:TypeId}{pos:String}{af:Array Edge}{gd:Option (Nat×Bool)}
variable {α β:Type}
theorem dV {K:Kind α}{t e:TypeId}{x y:Operand}{s u:Value}{xs ys:List α}{z:α}{q:HP}{b:Nat}(N:Nat)(M:iU X.n d=true)(hw:dY ops σ ⟨d,.call ⟨.builtin .append,#[x,y],#[t,t]⟩,ty,pos,af,gd⟩=true)
  (U:mo X.P t=some e) (T:iK X.P e=some K.sz) (L:hT X.P e=some b) (hz:oX X.P K e z) (l:Nat.blt 0 K.sz=true) (B:Nat.ble (N*b) 140737488355328=true) (g:Nat.ble N 140737488355328=true) (i:Nat.blt 0 b=true)
  (Y:ev σ x=s) (Z:ev σ y=u) (r:B4 q K u ys) (F:xs.length+ys.length≤N)
  (h:∀ a c,TL X ops (ow K e (.slice a (xs++ys).length c) (xs++ys)::V) (gV σ d (.slice a (xs++ys).length c)) rest Q) :
  TL X ops (ow K e s xs::q::V) σ (⟨d,.call ⟨.builtin .append,#[x,y],#[t,t]⟩,ty,pos,af,gd⟩::rest) Q:=by
 intro w st
 have B:=Nat.le_of_ble_eq_true B
 have g:=Nat.le_of_ble_eq_true g
 have l:0<K.sz:=Nat.le_of_ble_eq_true l
 have i:0<b:=Nat.le_of_ble_eq_true i
 have D:(xs.length+ys.length)*b≤140737488355328:=Nat.le_trans (Nat.mul_le_mul_right _ F) B
 obtain ⟨⟨a,c⟩,m,O,s'⟩:=St.act st.sep 0 (q:=fun p:Option Addr×Nat=>ow K e (.slice p.1 (xs++ys).length p.2) (xs++ys))
  (Ψ:=fun p m=>(Builtin.append_ #[t,t] ty #[s,u]).run X.P w=.ok (.slice p.1 (xs++ys).length p.2) m) (by
   rintro I hh ⟨h1,h2,j,p1,p2⟩ lI lh G
   obtain ⟨a,c,m,J,r1,r2,r3,r4,r5,r6⟩:=uO (ty:=ty) U T L hz l j p1 p2 r lI lh G D (Nat.le_trans F g) i
   exact ⟨⟨a,c⟩,m,J,r1,r2 _,r3,r4,r5,r6⟩)
 refine eW M hw ?_
 have E:(execOp (ev σ) ⟨d,.call ⟨.builtin .append,#[x,y],#[t,t]⟩,ty,pos,af,gd⟩).run X.P w=.ok (.value (.slice a (xs++ys).length c)) m:=by
  simp [execOp,resolve,invoke,builtin,Y,Z,O]
 rw [E]
 exact h a c m s'
theorem sD {size:Nat}:∀ (vs:List Value) (k:Nat) (cells:Array Value),(∀ v∈vs,v.cells.size=size)→(k+vs.length)*size≤cells.size →
  ∃ r,Instr.fill (fun i=>some (i*size,size)) cells ((List.range' k vs.length).zip vs)=some r∧r.toList=cells.toList.take (k*size)++(vs.map (·.cells.toList)).flatten++cells.toList.drop ((k+vs.length)*size):=by
 intro vs
 induction vs with
 | nil=>intro k cells _ _; exact ⟨cells,by simp [Instr.fill],by simp⟩
 | cons v vs ih =>
  intro k cells q B
  have h1:=q v (by simp)
  have g:(k+1+vs.length)*size≤cells.size:=by simpa [Nat.add_assoc,Nat.add_comm 1] using B
  have G:k*size+size≤cells.size:=by
   have:(k+1)*size≤(k+1+vs.length)*size:=Nat.mul_le_mul_right _ (by omega)
   rw [Nat.succ_mul] at this
   omega
  have b:∀ (l:List Value) (j:Nat) (cs:Array Value),k*size+j+l.length≤cs.size →
    ((l.zipIdx j).foldl (fun cs (c,j)=>cs.setIfInBounds (k*size+j) c) cs).toList=cs.toList.take (k*size+j)++l++cs.toList.drop (k*size+j+l.length):=by
   intro l
   induction l with
   | nil=>intro j cs _; simp
   | cons u l ihl =>
    intro j cs h
    simp only [List.zipIdx_cons,List.foldl_cons]
    rw [ihl (j+1) _ (by simp at *; omega)]
    simp only [List.length_cons] at h
    rw [Array.toList_setIfInBounds,show k*size+(j+1)=(k*size+j)+1 by omega,List.take_succ_eq_append_getElem (by simp; omega),List.take_set_of_le (Nat.le_refl _),List.drop_set_of_lt (by omega)]
    simp [Nat.add_assoc,Nat.add_comm,Nat.add_left_comm]
  have m:((v.cells.toList.zipIdx 0).foldl (fun cs (c,j)=>cs.setIfInBounds (k*size+j) c) cells).size=cells.size:=by
   generalize v.cells.toList.zipIdx 0=l
   clear h1 ih B g G b q
   induction l generalizing cells with
   | nil=>rfl
   | cons u l ihl=>simp only [List.foldl_cons]; rw [ihl]; simp
  obtain ⟨r,I,e⟩:=ih (k+1) ((v.cells.toList.zipIdx 0).foldl (fun cs (c,j)=>cs.setIfInBounds (k*size+j) c) cells) (fun u J=>q u (by simp [J])) (by rw [m]; exact g)
  refine ⟨r,?_,?_⟩
  ·simp only [List.length_cons,List.range'_succ,List.zip_cons_cons,Instr.fill]
   have F:¬ (v.cells.size≠size∨k*size+v.cells.size>cells.size):=by rw [h1]; omega
   rw [if_neg (by simpa using F)]
   have L:v.cells.zipIdx.foldl (fun cs (c,j)=>cs.setIfInBounds (k*size+j) c) cells=(v.cells.toList.zipIdx 0).foldl (fun cs (c,j)=>cs.setIfInBounds (k*size+j) c) cells:=by
    rw [← Array.foldl_toList]
    congr 1
    simp
   rw [L]
   exact I
  ·rw [e,b v.cells.toList 0 cells (by simp [h1]; omega)]
   have s:(k+1)*size=k*size+v.cells.toList.length:=by rw [Nat.succ_mul]; simp [h1]
   have D:(k+1+vs.length)*size=k*size+v.cells.toList.length+vs.length*size:=by rw [Nat.add_mul,s]
   have E:(k+(vs.length+1))*size=(k+1+vs.length)*size:=by congr 1; omega
   have a:(cells.toList.take (k*size)).length=k*size:=by simp; omega
   simp only [List.length_cons,Nat.add_zero,List.map_cons,List.flatten_cons]
   rw [E,D,s]
   rw [List.take_append_of_le_length (by simp [a]),List.take_of_length_le (by simp [a])]
   rw [List.drop_append,List.drop_of_length_le (by simp [a]),List.nil_append,List.drop_drop]
   simp only [List.append_assoc,List.length_append,a]
   congr 4
   omega
theorem sF {K:Kind α}{t e:TypeId}{m:Nat}{parts:Array (Nat×Operand)}{xs:List α}{vs:List Value}{z:List Value}(k:Nat)(hd:iU X.n d=true)(hw:dY ops σ ⟨d,.buildSlice t m parts,ty,pos,af,gd⟩=true)
  (ht:mo X.P t=some e) (hs:iK X.P e=some K.sz) (hz:kX X.P e=some z) (a1:z.length=K.sz) (T:Nat.blt 0 K.sz=true) (hp:parts.toList.map (fun p=>(p.1,ev σ p.2))=(List.range' 0 m).zip vs) (O:vs.length=m) (hv:vs.all (fun v=>Nat.beq v.cells.size K.sz)=true) (F:Nat.ble (m*K.sz) 16777216=true)
  (hx:∀ I h,fD (tk k V) I h→hH K I h xs (vs.map (·.cells.toList)).flatten) (B:xs.length=m)
  (h:∀ g c,TL X ops (ow K e (.slice (some ⟨g,0,none⟩) xs.length c) xs::dp k V) (gV σ d (.slice (some ⟨g,0,none⟩) xs.length c)) rest Q):TL X ops V σ (⟨d,.buildSlice t m parts,ty,pos,af,gd⟩::rest) Q:=by
 intro w s
 refine eW hd hw ?_
 have hu:=je ht
 have U:∀ v∈vs,v.cells.size=K.sz:=fun v Y=>Nat.eq_of_beq_eq_true (List.all_eq_true.1 hv v Y)
 have F:=Nat.le_of_ble_eq_true F
 obtain ⟨zv,Z,a0⟩:=l3 (P:=X.P) (w:=w) hz
 have a2:zv.cells.size=K.sz:=by rw [a0]; simpa using a1
 obtain ⟨r,J,e'⟩:=sD (size:=K.sz) vs 0 ((Array.range (m*K.sz)).map ((if m*K.sz=0 then #[] else zv.cells)[· % (if m*K.sz=0 then #[] else zv.cells).size]!)) U (by simp [O])
 have er:r=((vs.map (·.cells.toList)).flatten).toArray:=by
  apply Array.ext'
  rw [e',O]
  simp
 have L:(execOp (ev σ) ⟨d,.buildSlice t m parts,ty,pos,af,gd⟩).run X.P w=.ok (.value (.slice (some ⟨w.heap.size,0,none⟩) m m)) (w.alloc (.cells ((vs.map (·.cells.toList)).flatten).toArray e)):=by
  have G:(parts.map fun (i,x)=>(i,ev σ x)).toList=(List.range' 0 m).zip vs:=by
   rw [← hp]; simp
  rw [O] at J
  simp only [execOp,Instr.buildSlice,Sem.run_bind,run_underlying hu,Result.andThen_ok,eQ hs]
  rw [if_neg (by omega)]
  by_cases h0:m*K.sz=0
  ·rw [if_pos h0] at J ⊢
   simp only [Sem.run_bind,Sem.run_pure,Result.andThen_ok,G,J,er]
   simp [newRow,Sem.run_bind]
  ·rw [if_neg h0] at J ⊢
   simp only [Sem.run_bind,Sem.run_pure,Result.andThen_ok,Z,G,J,er]
   simp [newRow,Sem.run_bind]
 rw [L]
 have h':=h w.heap.size m
 rw [B] at h'
 refine h' _ ?_
 rw [← mR k V] at s
 obtain ⟨sm,I,hh,g,j,l,st⟩:=s
 obtain ⟨h1,h2,D,sa,sb⟩:=cS.1 st
 have lh:Le h1 w:=l.mono (Hp.le_trans D.left j.right)
 have q:∀ b o,g b=some o→b≠w.heap.size:=fun b o e=>by
  have:=l.lt (b:=b) (by rw [e]; exact fun h=>by cases h)
  omega
 obtain ⟨E,M⟩:=Join.of_disj (h1:=Hp.one w.heap.size (.cells ((vs.map (·.cells.toList)).flatten).toArray e (0,0))) (h2:=h1) (fun b=>by
  by_cases hb:b=w.heap.size
  ·refine .inr ?_
   cases hq:h1 b with
   | none=>rfl
   | some o=>exact absurd hb (q b o (j.right b o (D.left b o hq)))
  ·exact .inl (by simp [Hp.one,hb]))
 obtain ⟨k1,jk⟩:=Join.of_disj (h1:=E) (h2:=h2) (fun b=>by
  by_cases hb:b=w.heap.size
  ·refine .inr ?_
   cases hq:h2 b with
   | none=>rfl
   | some o=>exact absurd hb (q b o (j.right b o (D.right b o hq)))
  ·rcases D.disj b with f | f
   ·exact .inl ((M.is_none b).2 ⟨by simp [Hp.one,hb],f⟩)
   ·exact .inr f)
 obtain ⟨g',jg⟩:=Join.of_disj (h1:=I) (h2:=k1) (fun b=>by
  by_cases hb:b=w.heap.size
  ·refine .inl ?_
   cases hq:I b with
   | none=>rfl
   | some o=>exact absurd hb (q b o (j.left b o hq))
  ·rcases j.disj b with f | f
   ·exact .inl f
   ·have:=(D.is_none b).1 f
    exact .inr ((jk.is_none b).2 ⟨(M.is_none b).2 ⟨by simp [Hp.one,hb],this.1⟩,this.2⟩))
 have u:∀ b o,g b=some o→(w.alloc (.cells ((vs.map (·.cells.toList)).flatten).toArray e)).heap[b]?=some o:=fun b o e=>l.alloc _ b o e
 refine ⟨sm.alloc _,I,k1,g',jg,?_,E,h2,jk,?_,sb⟩
 ·intro b o a
  rcases jg.cases a with ⟨a,_⟩|⟨a,_⟩
  ·exact u b o (j.left b o a)
  ·rcases jk.cases a with ⟨a,_⟩|⟨a,_⟩
   ·rcases M.cases a with ⟨a,_⟩|⟨a,_⟩
    ·exact Le.one_new (w:=w) (by show (w.heap.push _)[w.heap.size]?=_; simp) b o a
    ·exact u b o (j.right b o (D.left b o a))
   ·exact u b o (j.right b o (D.right b o a))
 ·refine .inr ⟨w.heap.size,m,[],(vs.map (·.cells.toList)).flatten,[],(0,0),h1,by simp [B],by omega,?_,by simp [B],.inl rfl,by simpa using M,hx I h1 sa⟩
  have:m*1≤m*K.sz:=Nat.mul_le_mul_left _ (Nat.le_of_ble_eq_true T)
  simp only [maxLen]
  omega
theorem bK {K:Kind α}{t e:TypeId}{m:Nat}{parts:Array (Nat×Operand)}{xs:List α}{vs:List Value}{z:List Value}(k:Nat)(q:iU X.n d=true)(hw:dY ops σ ⟨d,.buildSlice t m parts,ty,pos,af,gd⟩=true)
  (B:mo X.P t=some e) (u:iK X.P e=some K.sz) (F:kX X.P e=some z) (l:z.length=K.sz) (i:Nat.blt 0 K.sz=true) (s:parts.toList.map (fun p=>(p.1,ev σ p.2))=(List.range' 0 m).zip vs) (r:vs.length=m) (D:vs.all (fun v=>Nat.beq v.cells.size K.sz)=true) (b:Nat.ble (m*K.sz) 16777216=true)
  (E:∀ I h,fD (tk k V) I h→hH K I h xs (vs.map (·.cells.toList)).flatten) (j:xs.length=m)
  (h:∀ a c,TL X ops (ow K e (.slice a xs.length c) xs::dp k V) (gV σ d (.slice a xs.length c)) rest Q):TL X ops V σ (⟨d,.buildSlice t m parts,ty,pos,af,gd⟩::rest) Q :=
 sF k q hw B u F l i s r D b E j (fun g c=>h (some ⟨g,0,none⟩) c)
end
end Go.Pg
namespace Go.Pg
section
variable {X:Cx}{V:List HP}{σ:dI}{Q:Exit→dI→World→Prop}{ops:Array Oper}{rest:List Oper}
variable {d:Option Nat}{ty:TypeId}{pos:String}{af:Array Edge}{gd:Option (Nat×Bool)}
variable {α β:Type}
def mc (σ:dI)(o:Option Operand)(a l:Int):Prop:=match o with
 | some x=>ev σ x=.int .i64 l
 | none=>l=a
theorem mS {P:Program}{w:World}{l:Int}{y:Nat}{a:BoundsCode}(b:0≤l)(h1:l≤y):(Instr.sliceBound (.int .i64 l) y a).run P w=.ok l.toNat w:=by
 simp [Instr.sliceBound,asIntOf,b,h1]
theorem md {P:Program}{w:World}{is:Bool}{n c:Nat}{lo i:Option Operand}{l h:Int}(a:mc σ lo 0 l)(e:mc σ i n h)(r:0≤l)(h1:l≤h)(h2:h≤n)(s:n≤c) :
  (Instr.sliceBounds is n c (lo.map (ev σ)) (i.map (ev σ)) none).run P w=.ok (l.toNat,h.toNat,c) w:=by
 have q:∀ y:Nat,l≤y→(Instr.sliceBound (.int .i64 l) y .sliceB).run P w=.ok l.toNat w:=fun y g=>mS r g
 cases i with
 | none =>
  have:h=n:=e
  subst this
  cases lo with
  | none =>
   have:l=0:=a
   subst this
   simp [Instr.sliceBounds]
  | some x =>
   have j:ev σ x=.int .i64 l:=a
   simp [Instr.sliceBounds,j,q n h1]
 | some y =>
  have g:ev σ y=.int .i64 h:=e
  have m:∀ b,(Instr.sliceBound (.int .i64 h) c b).run P w=.ok h.toNat w:=fun b=>mS (by omega) (by omega)
  cases lo with
  | none =>
   have:l=0:=a
   subst this
   simp [Instr.sliceBounds,g,m]
  | some x =>
   have j:ev σ x=.int .i64 l:=a
   simp [Instr.sliceBounds,j,g,m,q h.toNat (by omega)]
theorem oY (s:aP):(⟨s.toArray⟩:ByteArray).size=s.length:=by show s.toArray.size=_; simp
def sG (a:Option Addr)(c l sz:Nat):Option Addr:=if c=l then a else a.map (·.add (l*sz))
theorem rH {P:Program}{w:World}{t e:TypeId}{x:Operand}{a:Option Addr}{n c sz:Nat}{lo i:Option Operand}{l h:Int}(s:mo P t=some e)(r:iK P e=some sz)(B:ev σ x=.slice a n c)
  (g:mc σ lo 0 l) (b:mc σ i n h) (j:0≤l) (h1:l≤h) (h2:h≤n) (q:n≤c) :
  (execOp (ev σ) ⟨d,.slice t x lo i none,ty,pos,af,gd⟩).run P w=.ok (.value (.slice (sG a c l.toNat sz) (h.toNat - l.toNat) (c - l.toNat))) w:=by
 have u:=je s
 have m:=md (P:=P) (w:=w) (is:=true) g b j h1 h2 q
 simp only [execOp,Instr.sliceAt,B,Sem.run_bind,run_underlying u,Result.andThen_ok,Instr.slice,Option.map_none,m,eQ r,Sem.run_pure,sG]
theorem qH {xs:List α}{l h:Int}(a:0≤l)(h1:l≤h)(h2:h≤xs.length):(sub xs l h).length=h.toNat - l.toNat:=by
 simp [sub]; omega
theorem uP {xs:List α}{l h:Int}(b:0≤l)(h1:l≤h)(h2:h≤xs.length){j:Nat}{x:α}(a:(sub xs l h)[j]?=some x):xs[l.toNat+j]?=some x:=by
 simp only [sub,List.getElem?_drop,List.getElem?_take] at a
 split at a
 ·exact a
 ·cases a
theorem uQ {K:Kind α}{I:Hp}{a:Option Addr}{n c:Nat}{xs:List α}{l h:Int}(r:qC K I (.slice a n c) xs)(m:0≤l)(h1:l≤h)(h2:h≤n):qC K I (.slice (sG a c l.toNat K.sz) (h.toNat - l.toNat) (c - l.toNat)) (sub xs l h):=by
 obtain ⟨A,G,E,L,J,s⟩:=r
 injection E with e1 e2 e3
 subst e1; subst e3; subst e2
 have e:=qH m h1 h2
 refine ⟨_,_,by rw [e],by rw [e]; omega,by rw [e]; omega,fun B=>?_⟩
 rw [e] at B
 obtain ⟨g,o,rfl,b⟩:=s (by omega)
 refine ⟨g,o+l.toNat*K.sz,?_,fun j x F=>?_⟩
 ·unfold sG
  rw [if_neg (by omega)]
  simp [gN]
 ·obtain ⟨cs,p,q⟩:=b _ x (uP m h1 h2 F)
  refine ⟨cs,p,fun i u D=>?_⟩
  have:=q i u D
  rw [Nat.add_mul] at this
  rw [show o+l.toNat*K.sz+j*K.sz+i=o+(l.toNat*K.sz+j*K.sz)+i by omega]
  exact this
theorem gZ {K:Kind α}{t e:TypeId}{x:Operand}{a:Option Addr}{n c:Nat}{lo B:Option Operand}{xs:List α}(l h:Int)(i:Nat)(L:iU X.n d=true)(hw:dY ops σ ⟨d,.slice t x lo B none,ty,pos,af,gd⟩=true)
  (O:mo X.P t=some e) (M:iK X.P e=some K.sz) (J:lk V i=aO K (.slice a n c) xs) (T:ev σ x=.slice a n c) (D:mc σ lo 0 l) (u:mc σ B n h) (m:0≤l) (h1:l≤h) (h2:h≤n)
  (k:∀ G b,TL X ops (aO K (.slice G (sub xs l h).length b) (sub xs l h)::V) (gV σ d (.slice G (sub xs l h).length b)) rest Q):TL X ops V σ (⟨d,.slice t x lo B none,ty,pos,af,gd⟩::rest) Q:=by
 rintro w ⟨U,I,q,g,j,lw,s⟩
 obtain ⟨g1,Y,j',p,s'⟩:=fG i s
 rw [J] at p
 have Z:n=xs.length:=by obtain ⟨_,A,b,F,_⟩:=p; injection F
 have E:n≤c:=by
  obtain ⟨_,A,b,F,hq,_⟩:=p
  injection F with _ _ e3
  omega
 refine eW L hw ?_
 rw [rH O M T D u m h1 h2 E]
 have r:=uQ p.2 m h1 h2
 have:=k (sG a c l.toNat K.sz) (c - l.toNat)
 rw [qH m h1 (by omega)] at this
 exact this w ⟨U,I,q,g,j,lw,Hp.none,q,Join.none q,⟨rfl,r⟩,s⟩
theorem dT {t:TypeId}{x:Operand}{s:aP}(a:X.P.underlying t=some .string)
  (b:ev σ x=aH s):VO X V σ ⟨d,.call ⟨.builtin .len,#[x],#[t]⟩,ty,pos,af,gd⟩ (.int .i64 s.length):=by
 intro w _
 simp [execOp,resolve,invoke,builtin,b,aH,Builtin.len_,run_underlying a,goInt,oY]
theorem cW {t:TypeId}{x y:Operand}{s:aP}{k:IntKind}{j:Int}(g:X.P.underlying t=some .string)
  (h:ev σ x=aH s) (i:ev σ y=.int k j) (b:0≤j) (h1:j<s.length):VO X V σ ⟨d,.index t x y,ty,pos,af,gd⟩ (.int .u8 (bt s j)):=by
 intro w _
 have a:j.toNat<s.length:=by omega
 have e:(⟨s.toArray⟩:ByteArray)[j.toNat]?=some (ix s j):=by
  rw [ByteArray.getElem?_lt' _ _ (by rw [oY]; exact a)]
  congr 1
  show s.toArray[j.toNat]=_
  simp [ix,List.getD_eq_getElem?_getD,a]
 simp [execOp,h,i,aH,Instr.index,asIntOf,run_underlying g,b,e,bt]
theorem iH {t:TypeId}{x:Operand}{s:aP}{lo g:Option Operand}(l h:Int)
  (m:X.P.underlying t=some .string) (q:ev σ x=aH s) (b:mc σ lo 0 l) (a:mc σ g s.length h) (i:0≤l) (h1:l≤h) (h2:h≤s.length):VO X V σ ⟨d,.slice t x lo g none,ty,pos,af,gd⟩ (aH (sub s l h)):=by
 intro w _
 have j:=md (P:=X.P) (w:=w) (is:=false) (n:=s.length) (c:=s.length) b a i h1 h2 (Nat.le_refl _)
 have e:=oY s
 simp only [execOp,Instr.sliceAt,q,Sem.run_bind,run_underlying m,Result.andThen_ok,Instr.slice,Option.map_none,aH,e,j,Sem.run_pure,Option.isSome_none,Bool.false_eq_true,if_false]
 rw [ByteArray.extract_mk]
 congr 3
 simp [sub,List.drop_take]
theorem o4 {t:TypeId}{x y:Operand}{g:TypeId}{s u:aP}
  (b:ev σ x=aH s) (e:ev σ y=aH u) (a:s.length+u.length≤9223372036854775807):VO X V σ ⟨d,.binOp .add t x y g,ty,pos,af,gd⟩ (aH (s++u)):=by
 intro w _
 have h:=run_string_add_sum (P:=X.P) (w:=w) (⟨s.toArray⟩:ByteArray) ⟨u.toArray⟩ (by rw [oY,oY]; exact a)
 simp only [execOp,b,e,aH,eqGuard_add,binOp_string_add,Sem.run_bind,Sem.run_pure,Result.andThen_ok,h]
 rw [ByteArray.mk_append_mk]
def yV:BinOp→aP→aP→Option Bool
 | .eql,a,b=>some (a==b)
 | .neq,a,b=>some (!(a==b))
 | .lss,a,b=>some (Op.bytesLess a b)
 | .leq,a,b=>some (Op.bytesLess a b||a==b)
 | .gtr,a,b=>some (!(Op.bytesLess a b||a==b))
 | .geq,a,b=>some (!Op.bytesLess a b)
 | _,_,_=>none
theorem jf {op:BinOp}{t:TypeId}{x y:Operand}{h:TypeId}{s u:aP}{b:Bool}
  (e:ev σ x=aH s) (g:ev σ y=aH u) (a:yV op s u=some b):VO X V σ ⟨d,.binOp op t x y h,ty,pos,af,gd⟩ (.bool b):=by
 intro w _
 cases op<;>simp only [yV,reduceCtorEq,Option.some.injEq] at a<;>subst a <;>
  simp [execOp,e,g,aH,eqGuard_at_string,binOp,Op.stringOp]
theorem xa {s' t:TypeId}{x:Operand}{k a:IntKind}{n:Int}{ds:TypeDesc}(h1:X.P.underlying s'=some ds)(h2:X.P.underlying t=some (.int a))
  (b:ev σ x=.int k n):VO X V σ ⟨d,.convert s' t x,ty,pos,af,gd⟩ (.int a (a.wrap n)):=by
 intro w _
 simp [execOp,b,convert,run_underlying h1,run_underlying h2,Conv.intToInt]
theorem mT {t i:TypeId}{x y:Operand}{k:IntKind}{a b:Int}(g:ev σ x=.int k a)(h:ev σ y=.int k b)(e:b≠0):VO X V σ ⟨d,.binOp .quo t x y i,ty,pos,af,gd⟩ (.int k (k.wrap (a.tdiv b))):=by
 intro w _
 simp [execOp,g,h,eqGuard_at_int,binOp,Op.intDiv,e]
theorem qK {t i:TypeId}{x y:Operand}{k:IntKind}{a b:Int}(g:ev σ x=.int k a)(h:ev σ y=.int k b)(e:b≠0):VO X V σ ⟨d,.binOp .rem t x y i,ty,pos,af,gd⟩ (.int k (a.tmod b)):=by
 intro w _
 simp [execOp,g,h,eqGuard_at_int,binOp,Op.intDiv,e]
theorem yW {x y:Operand}{i:Array TypeId}{k h:IntKind}{a b:Int}(e:ev σ x=.int k a)(g:ev σ y=.int h b):VO X V σ ⟨d,.call ⟨.builtin .max,#[x,y],i⟩,ty,pos,af,gd⟩ (.int k (if b>a then b else a)):=by
 intro w _
 simp [execOp,resolve,invoke,builtin,e,g,run_max_int2]
theorem wr {x y:Operand}{i:Array TypeId}{k h:IntKind}{a b:Int}(e:ev σ x=.int k a)(g:ev σ y=.int h b):VO X V σ ⟨d,.call ⟨.builtin .min,#[x,y],i⟩,ty,pos,af,gd⟩ (.int k (if b<a then b else a)):=by
 intro w _
 simp [execOp,resolve,invoke,builtin,e,g,run_min_int2]
theorem sH {t i:TypeId}{x y:Operand}{a b:Bool}(e:X.P.underlying t=some .bool)(g:ev σ x=.bool a)(h:ev σ y=.bool b):VO X V σ ⟨d,.binOp .neq t x y i,ty,pos,af,gd⟩ (.bool (!(a==b))):=by
 intro w _
 simp [execOp,g,h,eqGuard_at_bool,run_neq_bool (P:=X.P) w t a b e]
end
end Go.Pg
namespace Go.Pg
def FnOk {A:Type}(P:Program)(f:FuncId)(args:List Value)(b:List HP)(a:A→Value×List HP):Prop :=
 ∀ C w V,St C w (b++V)→Calls P f args.toArray w (fun e g=>∃ x,e=.returned (a x).1∧St C g ((a x).2++V))
def aZ (P:Program)(f:FuncId):Bool:=match P.funcs[f]? with
 | some fn=>!(fn.name == "runtime.NumGoroutine")&&fn.body.isSome
 | none=>false
theorem jM {P:Program}{f:FuncId}{w:World}{args:Array Value}(h:aZ P f=true):(callFunc f args).run P w=.ok (.enter f args) w:=by
 unfold aZ at h
 cases hf:P.funcs[f]? with
 | none=>rw [hf] at h; cases h
 | some fn =>
  rw [hf] at h
  simp only [Bool.and_eq_true,Bool.not_eq_true'] at h
  cases hb:fn.body with
  | none=>rw [hb] at h; cases h.2
  | some c =>
   have h1:=h.1
   simp at h1
   simp [callFunc,hf,h1,hb]
section
variable {X:Cx}{V:List HP}{σ:dI}{Q:Exit→dI→World→Prop}{ops:Array Oper}{rest:List Oper}{o:Oper}
variable {d:Option Nat}{ty:TypeId}{pos:String}{af:Array Edge}{gd:Option (Nat×Bool)}
variable {α β:Type}
theorem my (xs:Array Operand)(f:Operand→Value){as:List Value}(h:xs.toList.map f=as):xs.map f=as.toArray:=by
 apply Array.ext'
 simpa using h
theorem xb {A:Type}{f:FuncId}{xs:Array Operand}{b:Array TypeId}{as:List Value}{g V':List HP}{a:A→Value×List HP}(l:iU X.n d=true)(hw:dY ops σ ⟨d,.call ⟨.value (.func f),xs,b⟩,ty,pos,af,gd⟩=true)
  (m:aZ X.P f=true) (i:xs.toList.map (ev σ)=as) (j:FnOk X.P f as g a) (h:V=g++V') (k:∀ x,TL X ops ((a x).2++V') (gV σ d (a x).1) rest Q):TL X ops V σ (⟨d,.call ⟨.value (.func f),xs,b⟩,ty,pos,af,gd⟩::rest) Q:=by
 intro w s
 refine eW l hw ?_
 have q:(execOp (ev σ) ⟨d,.call ⟨.value (.func f),xs,b⟩,ty,pos,af,gd⟩).run X.P w=.ok (.enter f as.toArray) w:=by
  show (callFunc f (#[]++xs.map (ev σ)++#[])).run X.P w=_
  rw [my xs _ i,jM m]
  simp
 rw [q]
 subst h
 refine Calls.mono' (j X.C w V' s) ?_
 rintro e r ⟨x,rfl,s'⟩
 exact k x r s'
theorem uR {A:Type}{f:FuncId}{h:Operand}{fs cs:List Value}{xs:Array Operand}{b:Array TypeId}{as:List Value}{g V':List HP}{a:A→Value×List HP}(m:iU X.n d=true)(hw:dY ops σ ⟨d,.call ⟨.value h,xs,b⟩,ty,pos,af,gd⟩=true)
  (q:aZ X.P f=true) (u:ev σ h=.func (.func f) fs.toArray cs.toArray) (j:fs++xs.toList.map (ev σ)++cs=as) (l:FnOk X.P f as g a) (i:V=g++V') (k:∀ x,TL X ops ((a x).2++V') (gV σ d (a x).1) rest Q):TL X ops V σ (⟨d,.call ⟨.value h,xs,b⟩,ty,pos,af,gd⟩::rest) Q:=by
 intro w s
 refine eW m hw ?_
 have r:(execOp (ev σ) ⟨d,.call ⟨.value h,xs,b⟩,ty,pos,af,gd⟩).run X.P w=.ok (.enter f as.toArray) w:=by
  have:(callFunc f (fs.toArray++xs.map (ev σ)++cs.toArray)).run X.P w=.ok (.enter f as.toArray) w:=by
   rw [jM q,my xs _ rfl,← j]
   simp
  simp only [execOp,resolve,u,Deferred.ofValue,Sem.run_bind,Sem.run_pure,Result.andThen_ok,invoke,this]
 rw [r]
 subst i
 refine Calls.mono' (l X.C w V' s) ?_
 rintro e B ⟨x,rfl,s'⟩
 exact k x B s'
def HP.Closed (p:HP):Prop:=∀ I J h,p.p I h→p.p J h
theorem nL {b:Nat}{cs:List Value}{T:Nat}:(aJ b cs T).Closed:=fun _ _ _ h=>h
theorem bH {K:Kind α}{e:Nat}{v:Value}{xs:List α}(h:K.Closed):(ow K e v xs).Closed:=fun _ _ _ o=>mQ h o
theorem oZ {A:List HP}(h:∀ p∈A,p.Closed){I J g:Hp}(s:fD A I g):fD A J g:=by
 induction A generalizing g with
 | nil=>exact s
 | cons p A ih =>
  obtain ⟨h1,h2,j,a,b⟩:=s
  exact ⟨h1,h2,j,h p (by simp) _ _ _ a,ih (fun q e=>h q (by simp [e])) b⟩
def AllC:List HP→Prop
 | []=>True
 | p::A=>p.Closed∧AllC A
theorem Bd {A:List HP}(h:AllC A):∀ p∈A,p.Closed:=by
 induction A with
 | nil=>intro p a; cases a
 | cons q A ih =>
  intro p a
  rcases List.mem_cons.1 a with rfl | a
  ·exact h.1
  ·exact ih h.2 p a
def Be (a:Hp)(p:HP):HP:=⟨fun I h=>Hp.le a I∧p.p a h,fun l h=>⟨Hp.le_trans h.1 l,h.2⟩⟩
theorem uS {e I:Hp}(l:Hp.le e I){V:List HP}{h:Hp}(s:fD V e h):fD (V.map (Be e)) I h:=by
 induction V generalizing h with
 | nil=>exact s
 | cons p V ih =>
  obtain ⟨h1,h2,j,a,b⟩:=s
  exact ⟨h1,h2,j,⟨l,a⟩,ih b⟩
theorem uT {e I:Hp}{V:List HP}{h:Hp}(s:fD (V.map (Be e)) I h):fD V e h:=by
 induction V generalizing h with
 | nil=>exact s
 | cons p V ih =>
  obtain ⟨h1,h2,j,a,b⟩:=s
  exact ⟨h1,h2,j,a.2,ih b⟩
def Co (g:Hp):HP:=⟨fun I h=>h=Hp.none∧Hp.le g I,fun l h=>⟨h.1,Hp.le_trans h.2 l⟩⟩
theorem FnOk.perm {A:Type}{P:Program}{f:FuncId}{args:List Value}{b Pre':List HP}{a:A→Value×List HP}(e:FnOk P f args b a)(h:∀ C w V,St C w (Pre'++V)→St C w (b++V)):FnOk P f args Pre' a:=fun C w V s=>e C w V (h C w V s)
theorem FnOk.post {A B:Type}{P:Program}{f:FuncId}{args:List Value}{i:List HP}{b:A→Value×List HP}{a:B→Value×List HP}(j:FnOk P f args i b)(g:A→B)(h1:∀ x,(b x).1=(a (g x)).1)(h:∀ x C w V,St C w ((b x).2++V)→St C w ((a (g x)).2++V)):FnOk P f args i a:=by
 intro C w V s
 refine Calls.mono' (j C w V s) ?_
 rintro e l ⟨x,rfl,s'⟩
 exact ⟨g x,by rw [h1],h x C l V s'⟩
def pN:List Value→Value
 | [v]=>v
 | vs=>.tuple vs.toArray
def sI (P:Program)(V:List HP)(σ:dI):List ResultVar→List Value→Prop
 | [],[]=>True
 | .tmp t::rs,v::vs=>σ t=v∧sI P V σ rs vs
 | .cell a T::rs,v::vs=>(∃ i b cs e,lk V i=aJ b cs e∧σ a=.pointer (some ⟨b,0,none⟩)∧((fP P T=some true∧iK P T=some cs.length∧v=.agg cs.toArray)∨(fP P T=some false∧cs=[v])))∧sI P V σ rs vs
 | _,_=>False
theorem mU {P:Program}{C w:World}{V:List HP}{σ:dI}(s:St C w V):∀ (rs:List ResultVar) (vs:List Value),sI P V σ rs vs →
  (rs.mapM (fun | .tmp t=>pure (σ t) | .cell a t=>do loadVar t (← asAddr (σ a)):ResultVar→Sem Value)).run P w=.ok vs w
 | [],[],_=>rfl
 | .tmp t::rs,v::vs,⟨h1,h2⟩=>by
  have:=mU s rs vs h2
  simp [List.mapM_cons,this,h1]
 | .cell a T::rs,v::vs,⟨⟨i,b,cs,T0,hV,ha,hv⟩,h2⟩=>by
  have:=mU s rs vs h2
  have g:=l4 s i hV
  have q:(loadVar T ⟨b,0,none⟩).run P w=.ok v w:=by
   rcases hv with ⟨e,l,rfl⟩|⟨e,rfl⟩
   ·exact fQ e l (fun j u r=>by rw [gN,l5 g,Nat.zero_add]; exact r)
   ·exact eV e (by rw [l5 g]; rfl)
  have m:(asAddr (σ a)).run P w=.ok ⟨b,0,none⟩ w:=by rw [ha]; rfl
  simp [List.mapM_cons,this,m,q]
 | [],_::_,h=>h.elim
 | .tmp _::_,[],h=>h.elim
 | .cell _ _::_,[],h=>h.elim
theorem me {P:Program}{C w:World}{V:List HP}{σ:dI}{fn:Func}{rs:List ResultVar}{vs:List Value}(s:St C w V)(a:fn.results=rs.toArray)(h:sI P V σ rs vs):(iF fn σ).run P w=.ok (pN vs) w:=by
 have:=mU s rs vs h
 unfold iF
 rw [a,List.mapM_toArray]
 simp only [Sem.run_bind,Sem.run_map]
 refine (congrArg (fun r=>Result.andThen (Result.andThen r _) _) this).trans ?_
 match vs with
 | []=>rfl
 | [v]=>rfl
 | v::u::l=>simp [pN]
def rI (X:Cx){A:Type}(V:List HP)(a:A→Value×List HP):Value→World→Prop:=fun v w=>∃ x,v=(a x).1∧St X.C w ((a x).2++V)
theorem cX {A:Type}{V0:List HP}{a:A→Value×List HP}{fn:Func}{rs:List ResultVar}{vs:List Value}{e:Exit}(j:e=.ret∨e=.normal)(x:A)(b:fn.results=rs.toArray)(h:sI X.P V σ rs vs)(i:(a x).1=pN vs)(g:∀ w,St X.C w V→St X.C w ((a x).2++V0)) :
  TQ X V σ e (mM X.P fn (rI X V0 a)):=by
 intro w s
 rcases j with rfl | rfl
 ·exact ⟨_,me s b h,x,i.symm,g w s⟩
 ·exact ⟨_,me s b h,x,i.symm,g w s⟩
theorem aR {A:Type}{P:Program}{f:FuncId}{fn:Func}{c:Code}{args:List Value}{b:List HP}{a:A→Value×List HP}(j:P.funcs[f]?=some fn)(i:fn.body=some c)(n:Nat)(g:fn.ntmps=n)(l:Nat.ble args.length n=true)
  (h:∀ C V,TC ⟨P,.of n,C⟩ (b++V) (su args.toArray) c (mM P fn (rI ⟨P,.of n,C⟩ V a))):FnOk P f args b a:=by
 subst g
 intro C w V s
 refine Calls.mono' (pK j i (by have:=Nat.le_of_ble_eq_true l; simpa using this) (h C V w s)) ?_
 rintro e m ⟨v,rfl,x,rfl,s'⟩
 exact ⟨x,rfl,s'⟩
theorem lG {a:Act}{o:Oper}{n:Nn}{σ:dI}(b:iU n o.dst=true)(h1:a.tmps.size=n.n)(h2:a.defers=n.ds)(g:fL a=σ)(v:Value):(a.put o.dst v).tmps.size=n.n∧(a.put o.dst v).defers=n.ds∧fL (a.put o.dst v)=gV σ o.dst v:=by
 refine ⟨?_,?_,?_⟩
 ·cases hdd:o.dst with
  | none=>exact h1
  | some d=>show (a.tmps.setIfInBounds d v).size=n.n; rw [Array.size_setIfInBounds,h1]
 ·cases hdd:o.dst with
  | none=>exact h2
  | some d=>exact h2
 ·rw [kr,g]
  intro d e
  rw [e] at b
  rw [h1]
  exact Nat.lt_of_lt_of_le (Nat.lt_succ_self _) (Nat.le_of_ble_eq_true b)
theorem sJ {a:Nat}{op:Op}(v:Value)(e:VO X V σ ⟨some a,op,ty,pos,af,gd⟩ v)(hw:dY ops σ ⟨some a,op,ty,pos,af,gd⟩=true)(b:iU X.n (some a)=true)(h:TL X ops V (kI σ a v) rest Q):TL X ops V σ (⟨some a,op,ty,pos,af,gd⟩::rest) Q :=
 Bc b hw e h
theorem bY {b:Bool}{x y:Option α}{r:α}(h:(if b=true then x else y)=some r):(b=true∧x=some r)∨(b=false∧y=some r):=by
 cases b
 ·exact .inr ⟨rfl,by simpa using h⟩
 ·exact .inl ⟨rfl,by simpa using h⟩
def lH (σ:dI):List (Nat×Value)→Prop
 | []=>True
 | (t,v)::l=>σ t=v∧lH σ l
theorem lK {σ:dI}{l:List (Nat×Value)}(h:lH σ l):pJ σ l=σ:=by
 induction l with
 | nil=>rfl
 | cons p l ih =>
  obtain ⟨t,v⟩:=p
  show kI (pJ σ l) t v=σ
  rw [ih h.2]
  exact sn σ t h.1
def Jn (X:Cx){A:Type}(pf:A→Prop)(e:A→List (Nat×Value))(b:A→List HP):dI→World→Prop:=fun σ w=>∃ a,pf a∧lH σ (e a)∧St X.C w (b a)
theorem bD {A:Type}{x y:Code}(pf:A→Prop)(g:A→List (Nat×Value))(b:A→List HP)(i:TC X V σ x (iN (Jn X pf g b) Q))(j:∀ a σ',pf a→TC X (b a) (pJ σ' (g a)) y Q):TC X V σ x (iN (Nx X y Q) Q):=by
 intro w s
 refine W.mono (i w s) ?_
 intro e σ' l q
 cases e with
 | normal =>
  obtain ⟨a,h,h1,h2⟩:=q
  have:=j a σ' h l h2
  rw [lK h1] at this
  exact this
 | _=>exact q
theorem cK {A:Type}{pf:A→Prop}{e:A→List (Nat×Value)}{b:A→List HP}(a:A)(g:pf a)(h1:lH σ (e a))(h2:∀ w,St X.C w V→St X.C w (b a)):TQ X V σ .normal (iN (Jn X pf e b) Q):=fun w s=>⟨a,g,h1,h2 w s⟩
def Bf (X:Cx){S E A:Type}(out:S⊕E)(e:S→A→List (Nat×Value))(b:S→A→List HP):dI→World→Prop:=fun σ w=>∃ s a,out=.inl s∧lH σ (e s a)∧St X.C w (b s a)
theorem bE {S E A:Type}{f:S→Option (S⊕E)}{i:S}{e:E}{c:Code}(D:aU f i=some e)(j:S→A→List (Nat×Value))(h:S→A→List HP)(a0:A)(h1:lH σ (j i a0))(h2:∀ w,St X.C w V→St X.C w (h i a0))
  (g:∀ s a σ' out,f s=some out→(∀ l,out=.inr l→l=e)→TC X (h s a) (pJ σ' (j s a)) c (iN (Bf X out j h) Q)):TC X V σ (.loop c) Q:=by
 intro w st
 obtain ⟨k,B⟩:=mL D
 refine x5 (fun k σ w=>∃ s a,jv f k s=some e∧lH σ (j s a)∧St X.C w (h s a)) k ⟨i,a0,B,h1,h2 w st⟩ ?_
 rintro k σ' I ⟨s,a,b,g1,r⟩
 cases k with
 | zero=>cases b
 | succ k =>
  simp only [jv] at b
  cases hf:f s with
  | none=>rw [hf] at b; cases b
  | some out =>
   rw [hf] at b
   have:=g s a σ' out hf (fun l u=>by subst u; exact Option.some.inj b) I r
   rw [lK g1] at this
   refine W.mono this ?_
   intro ex σ'' J q
   cases ex with
   | normal =>
    obtain ⟨s',m,rfl,F,G⟩:=q
    exact ⟨k,Nat.lt_succ_self k,s',m,b,F,G⟩
   | _=>exact q
theorem uU {S E A:Type}{e:S→A→List (Nat×Value)}{b:S→A→List HP}{s:S}(a:A)(h1:lH σ (e s a))(h2:∀ w,St X.C w V→St X.C w (b s a)):TQ X V σ .normal (iN (Bf X (E:=E) (.inl s) e b) Q):=fun w st=>⟨s,a,rfl,h1,h2 w st⟩
end
end Go.Pg
namespace Go.Pg
section
variable {P:Program}{ops:Array Oper}{Q:Exit→Act→World→Prop}{S:World→Prop}{k:Nat}
def Shut (ops:Array Oper)(listed:Array Bool):Prop:=∀ j o,ops[j]?=some o→listed.getD j false=true→∀ e∈o.after,Region.binds .any e=true→listed.getD e.on false=true
def nM (ops:Array Oper):Nat→Nat→Nat→Bool
 | 0,_,_=>false
 | f+1,j,i=>match ops[j]? with
  | some o=>o.after.any (fun e=>Region.binds .any e&&e.on==i)||o.after.any (fun e=>Region.binds .any e&&nM ops f e.on i)
  | none=>false
theorem l6 {listed:Array Bool}(s:Shut ops listed):∀ (f j i:Nat) (o:Oper),ops[j]?=some o→(∀ e∈o.after,Region.binds .any e=true→listed.getD e.on false=true)→nM ops f j i=true→listed.getD i false=true:=by
 intro f
 induction f with
 | zero=>intro j i o _ _ h; cases h
 | succ f ih =>
  intro j i o r l h
  simp only [nM,r,Bool.or_eq_true,Array.any_eq_true',Bool.and_eq_true,beq_iff_eq] at h
  rcases h with ⟨e,b,a,m⟩|⟨e,b,a,g⟩
  ·rw [← m]; exact l e b a
  ·have q:=l e b a
   cases hoe:ops[e.on]? with
   | none =>
    cases f with
    | zero=>cases g
    | succ f=>simp [nM,hoe] at g
   | some o'=>exact ih e.on i o' hoe (s e.on o' hoe q) g
def jx (ops:Array Oper)(k:Nat):Bool:=(List.range ops.size).all fun j=>Nat.blt j k||(List.range k).all fun i=>nM ops ops.size j i
def mV (ops:Array Oper)(k i:Nat):Bool:=(List.range ops.size).all fun j=>Nat.blt j k||nM ops ops.size j i
theorem qL {ops:Array Oper}{k i:Nat}(h:jx ops k=true)(a:Nat.blt i k=true):mV ops k i=true:=by
 simp only [jx,mV,List.all_eq_true,List.mem_range,Bool.or_eq_true] at h ⊢
 intro j b
 rcases h j b with h | h
 ·exact .inl h
 ·exact .inr (h i (Nat.lt_of_lt_of_le (Nat.lt_succ_self _) (Nat.le_of_ble_eq_true a)))
theorem Shut.step {listed:Array Bool}{j:Nat}(h:Shut ops listed)(q:j∈Region.ready .any ops listed):Shut ops (listed.setIfInBounds j true):=by
 obtain ⟨_,o,r,m⟩:=mem_ready.1 q
 intro i o' a l e g b
 by_cases hij:i=j
 ·subst hij
  rw [r] at a
  obtain rfl:=Option.some.inj a
  exact getD_set_true (m e g b)
 ·rw [getD_set_ne false (Ne.symm hij)] at l
  exact getD_set_true (h i o' a l e g b)
def o5 (ops:Array Oper)(k:Nat)(listed:Array Bool):Bool:=(List.range ops.size).all fun j=>Nat.blt j k||!listed.getD j false
theorem p6 {listed:Array Bool}{i:Nat}(a:Nat.blt i k=true)(h:o5 ops k listed=true):o5 ops k (listed.setIfInBounds i true)=true:=by
 simp only [o5,List.all_eq_true,List.mem_range,Bool.or_eq_true,Bool.not_eq_true'] at h ⊢
 intro j b
 by_cases hji:j=i
 ·subst hji; exact .inl a
 ·rw [getD_set_ne false (Ne.symm hji)]; exact h j b
def kf (P:Program)(ops:Array Oper)(Q:Exit→Act→World→Prop)(S:World→Prop)(k:Nat):Nat→Array Bool→Act→World→Prop
 | 0,listed,a,w=>Region.ready .any ops listed=[]∧Q .normal a w
 | fuel+1,listed,a,w =>
  (Region.ready .any ops listed=[]→Q .normal a w) ∧
  ∀ i∈Region.ready .any ops listed,wpOp P ops Q i (fun e b=>(Nat.blt i k=true→o5 ops k listed=true→S b)∧kf P ops Q S k fuel (listed.setIfInBounds i true) e b) a w
theorem mW:∀ (fuel:Nat) (listed:Array Bool) (a:Act) (w:World),kf P ops Q S k fuel listed a w→wpAny P .any ops Q fuel listed a w
 | 0,_,_,_,h=>h
 | fuel+1,_,_,_,h=>⟨h.1,fun i g=>wpOp_mono (fun b j e=>mW fuel _ b j e.2) (h.2 i g)⟩
theorem l7 {i:Nat}{J:Oper}{v:Value}(hi:ops[i]?=some J)(M:Nat.blt i k=true)(Z:mV ops k i=true)(D:∀ (j:Nat) (o:Oper) cs b,ops[j]?=some o→o.op≠.select cs b)
  (hQ:∀ c a w,Q (.panic c) (a.put J.dst v) w→Q (.panic c) a w) :
  ∀ (fuel:Nat) (listed:Array Bool) (a:Act) (w:World),Shut ops listed →
   (∀ j E,ops[j]?=some E→j≠i→listed.getD j true=false→(∀ e∈E.after,Region.binds .any e=true→e.on≠i)→J.apart ops E=true) →
   i∈Region.ready .any ops listed→YieldsIf P ops S J v a→S w →
   kf P ops Q S k fuel (listed.setIfInBounds i true) (a.put J.dst v) w→kf P ops Q S k (fuel+1) listed a w:=by
 intro fuel
 induction fuel with
 | zero =>
  intro listed a w _ _ I hy hS H
  refine ⟨fun h=>(by rw [h] at I; cases I),fun j O=>?_⟩
  by_cases hji:j=i
  ·subst hji; exact hy.wpOp hi hS ⟨fun _ _=>hS,H⟩
  ·have:=ready_mono O hji
   rw [H.1] at this
   cases this
 | succ fuel ih =>
  intro listed a w r g I hy hS H
  refine ⟨fun h=>(by rw [h] at I; cases I),fun j O=>?_⟩
  by_cases hji:j=i
  ·subst hji; exact hy.wpOp hi hS ⟨fun _ _=>hS,H⟩
  ·have h1:=H.2 j (ready_mono O hji)
   obtain ⟨B,E,l,u⟩:=mem_ready.1 O
   have h0:=(mem_ready.1 I).1
   have G:listed.getD i false=true→False:=fun h1=>by
    rcases Nat.lt_or_ge i listed.size with h' | h'
    ·simp [h'] at h0 h1; rw [h0] at h1; cases h1
    ·simp [Array.getElem?_eq_none h'] at h1
   have a1:Nat.blt j k=true:=by
    cases L:Nat.blt j k with
    | true=>rfl
    | false =>
     simp only [mV,List.all_eq_true,List.mem_range,Bool.or_eq_true] at Z
     have s:=(Z j (Array.getElem?_eq_some_iff.1 l).1).resolve_left (by rw [L]; exact fun h=>by cases h)
     exact (G (l6 r _ j i E l u s)).elim
   have F:o5 ops k listed=true:=by
    simp only [o5,List.all_eq_true,List.mem_range,Bool.or_eq_true,Bool.not_eq_true']
    intro m hm
    cases L:Nat.blt m k with
    | true=>exact .inl rfl
    | false =>
     refine .inr ?_
     cases hl:listed.getD m false with
     | false=>rfl
     | true =>
      simp only [mV,List.all_eq_true,List.mem_range,Bool.or_eq_true] at Z
      have s:=(Z m hm).resolve_left (by rw [L]; exact fun h=>by cases h)
      have ho:=Array.getElem?_eq_getElem hm
      exact (G (l6 r _ m i _ ho (r m _ ho hl) s)).elim
   have T:∀ e∈E.after,Region.binds .any e=true→e.on≠i:=fun e he L a0=>G (a0▸u e he L)
   have h2:=wpOp_putIf l (g j E l hji B T) (fun cs b=>D i J cs b hi) (fun cs b=>D j E cs b l) hQ hy h1
   have q:∀ m Y,ops[m]?=some Y→m≠i→(listed.setIfInBounds j true).getD m true=false →
     (∀ e∈Y.after,Region.binds .any e=true→e.on≠i)→J.apart ops Y=true:=fun m Y hk a2 U a3=>by
    refine g m Y hk a2 ?_ a3
    by_cases hjm:j=m
    ·subst hjm; exact B
    ·rw [getD_set_ne true hjm] at U; exact U
   refine wpOp_mono (fun a' w' s=>⟨fun q1 q2=>s.2.1 q1 (p6 M q2),ih (listed.setIfInBounds j true) a' w' (r.step O) q (ready_mono I (Ne.symm hji)) s.1 (s.2.1 a1 (p6 M F)) ?_⟩) h2
   rw [Array.setIfInBounds_comm _ _ hji]
   exact s.2.2
end
def NP (Q:Exit→dI→World→Prop):Exit→dI→World→Prop
 | .panic _,_,_=>False
 | .outgrown,_,_=>False
 | e,σ,w=>Q e σ w
def TD (X:Cx)(ops:Array Oper)(k:Nat)(V0:List HP)(fuel:Nat)(listed:Array Bool)(V:List HP)(σ:dI)(Q:Exit→dI→World→Prop):Prop :=
 ∀ a w,a.tmps.size=X.n.n→a.defers=X.n.ds→fL a=σ→Shut ops listed→St X.C w V→kf X.P ops (hL X.n (NP Q)) (fun w=>St X.C w V0) k fuel listed a w
def DK (X:Cx)(ops:Array Oper)(k:Nat)(V0:List HP)(fuel:Nat)(listed:Array Bool)(i:Nat)(Q:Exit→dI→World→Prop):Exit→dI→World→Prop
 | .normal,σ,w=>∀ a,a.tmps.size=X.n.n→a.defers=X.n.ds→fL a=σ→Shut ops (listed.setIfInBounds i true)→(Nat.blt i k=true→o5 ops k listed=true→St X.C w V0)∧kf X.P ops (hL X.n (NP Q)) (fun w=>St X.C w V0) k fuel (listed.setIfInBounds i true) a w
 | .panic _,_,_=>False
 | .outgrown,_,_=>False
 | e,σ,w=>Q e σ w
def yX (X:Cx)(ops:Array Oper)(k:Nat)(V0:List HP)(fuel:Nat)(listed:Array Bool)(V:List HP)(σ:dI)(Q:Exit→dI→World→Prop):List Nat→Prop
 | []=>True
 | i::is=>(match ops[i]? with
  | some o=>TL X ops V σ [o] (DK X ops k V0 fuel listed i Q)
  | none=>False)∧yX X ops k V0 fuel listed V σ Q is
section
variable {X:Cx}{V V0:List HP}{σ:dI}{Q:Exit→dI→World→Prop}{ops:Array Oper}{o:Oper}{k fuel:Nat}{listed:Array Bool}
variable {d:Nat}{op:Op}{ty:TypeId}{pos:String}{af:Array Edge}{gd:Option (Nat×Bool)}
theorem xc {u:Nat}{l:List Oper}(k:Nat)(V0:List HP)(r:X.P.follows .mixedOrders=true)(b:(jx l.toArray k&&Region.noSelect l.toArray)=true)
  (h:jx l.toArray k=true→Region.noSelect l.toArray=true→TD X l.toArray k V0 l.length (Array.replicate l.length false) V σ Q):TC X V σ (.region u l.toArray true) Q:=by
 intro w s a h1 h2 m
 rw [Bool.and_eq_true] at b
 refine wp_mono (P:=X.P) (Q:=hL X.n (NP Q)) (wp_region_any r (mW (S:=fun w=>St X.C w V0) (k:=k) _ _ _ _ ?_)) ?_
 ·have:=h b.1 b.2 a w.drew h1 h2 m (fun j o _ g=>by
   exfalso
   by_cases hj:j<l.length
   ·simp [Array.getElem?_replicate,hj] at g
   ·simp [Array.getElem?_replicate,hj] at g) s.drew
  simpa using this
 ·rintro e a w q
  refine nI q fun i=>?_
  cases e<;>first | exact i | exact i.elim
theorem xd (e:Region.ready .any ops listed=[])(h:TQ X V σ .normal Q):TD X ops k V0 fuel listed V σ Q:=by
 intro a w h1 h2 g _ s
 have b:hL X.n (NP Q) .normal a w:=.inl ⟨h1,h2,by rw [g]; exact h w s⟩
 cases fuel with
 | zero=>exact ⟨e,b⟩
 | succ fuel=>exact ⟨fun _=>b,by rw [e]; intro i j; cases j⟩
theorem Bg (i:Nat)(v:Value)(l:ops[i]?=some ⟨some d,op,ty,pos,af,gd⟩)(D:VO X V0 σ ⟨some d,op,ty,pos,af,gd⟩ v)(hw:dY ops σ ⟨some d,op,ty,pos,af,gd⟩=true)(r:iU X.n (some d)=true)
  (j:Nat.blt i k=true) (B:mV ops k i=true) (u:Region.noSelect ops=true) (g:(Region.free .any ops listed i&&(Region.ready .any ops listed).contains i)=true) (hS:∀ w,St X.C w V→St X.C w V0)
  (h:TD X ops k V0 fuel (listed.setIfInBounds i true) V (kI σ d v) Q):TD X ops k V0 (fuel+1) listed V σ Q:=by
 intro a w h1 h2 e b s
 rw [Bool.and_eq_true] at g
 obtain ⟨p1,E,F⟩:=lG (o:=⟨some d,op,ty,pos,af,gd⟩) r h1 h2 e v
 have m:i∈Region.ready .any ops listed:=by simpa using g.2
 refine l7 (v:=v) l j B (Region.noSelect_spec u) ?_ fuel listed a w b (Region.free_spec l g.1) m ?_ (hS w s) (h _ w p1 E F (b.step m) s)
 ·rintro c a w q
  exact (gD q (by simp)).2.2.elim
 ·exact .inl ⟨by rw [jI,e]; exact hw,fun w s=>by rw [kc,e]; exact D w s⟩
theorem Bh (i:Nat)(v:Value)(g:ops[i]?=some ⟨some d,op,ty,pos,af,gd⟩)(m:VO X V0 σ ⟨some d,op,ty,pos,af,gd⟩ v)(hw:dY ops σ ⟨some d,op,ty,pos,af,gd⟩=true)(b:iU X.n (some d)=true)
  (a:Nat.blt i k=true) (l:jx ops k=true) (j:Region.noSelect ops=true) (e:(Region.free .any ops listed i&&(Region.ready .any ops listed).contains i)=true) (hS:∀ w,St X.C w V→St X.C w V0)
  (h:TD X ops k V0 fuel (listed.setIfInBounds i true) V (kI σ d v) Q):TD X ops k V0 (fuel+1) listed V σ Q :=
 Bg i v g m hw b a (qL l a) j e hS h
theorem xe (i:Nat)(l:ops[i]?=some ⟨some d,op,ty,pos,af,gd⟩)(hw:dY ops σ ⟨some d,op,ty,pos,af,gd⟩=false)(r:iU X.n (some d)=true)
  (g:Nat.blt i k=true) (B:mV ops k i=true) (u:Region.noSelect ops=true) (e:(Region.free .any ops listed i&&(Region.ready .any ops listed).contains i)=true) (hS:∀ w,St X.C w V→St X.C w V0)
  (h:TD X ops k V0 fuel (listed.setIfInBounds i true) V (kI σ d undef) Q):TD X ops k V0 (fuel+1) listed V σ Q:=by
 intro a w h1 h2 j b s
 rw [Bool.and_eq_true] at e
 obtain ⟨p1,D,E⟩:=lG (o:=⟨some d,op,ty,pos,af,gd⟩) r h1 h2 j undef
 have m:i∈Region.ready .any ops listed:=by simpa using e.2
 refine l7 (v:=undef) l g B (Region.noSelect_spec u) ?_ fuel listed a w b (Region.free_spec l e.1) m ?_ (hS w s) (h _ w p1 D E (b.step m) s)
 ·rintro c a w q
  exact (gD q (by simp)).2.2.elim
 ·exact .inr ⟨by rw [jI,j]; exact hw,rfl⟩
theorem ws (i:Nat)(g:ops[i]?=some ⟨some d,op,ty,pos,af,gd⟩)(hw:dY ops σ ⟨some d,op,ty,pos,af,gd⟩=false)(b:iU X.n (some d)=true)
  (a:Nat.blt i k=true) (l:jx ops k=true) (j:Region.noSelect ops=true) (e:(Region.free .any ops listed i&&(Region.ready .any ops listed).contains i)=true) (hS:∀ w,St X.C w V→St X.C w V0)
  (h:TD X ops k V0 fuel (listed.setIfInBounds i true) V (kI σ d undef) Q):TD X ops k V0 (fuel+1) listed V σ Q :=
 xe i g hw b a (qL l a) j e hS h
theorem fW (rs:List Nat)(g:Region.ready .any ops listed=rs)(D:Nat.blt 0 rs.length=true)(h:yX X ops k V0 fuel listed V σ Q rs):TD X ops k V0 (fuel+1) listed V σ Q:=by
 intro a w h1 h2 h3 I s
 refine ⟨fun Y=>(by rw [g] at Y; rw [Y] at D; cases D),fun i F=>?_⟩
 have m:=F
 rw [g] at F
 clear g D
 induction rs with
 | nil=>cases F
 | cons j rs ih =>
  rcases List.mem_cons.1 F with rfl | F
  ·have Z:=h.1
   obtain ⟨_,o,ho,_⟩:=mem_ready.1 m
   rw [ho] at Z
   have B:=Z w s a h1 h2 h3
   unfold wpOp
   simp only [ho]
   unfold wpList at B
   split
   ·rename_i hw
    rw [if_pos hw] at B
    have up:∀ r,o.upon X.P a (wpList X.P ops (hL X.n (DK X ops k V0 fuel listed i Q)) []) (hL X.n (DK X ops k V0 fuel listed i Q)) r →
      o.upon X.P a (fun E l=>(Nat.blt i k=true→o5 ops k listed=true→St X.C l V0)∧kf X.P ops (hL X.n (NP Q)) (fun w=>St X.C w V0) k fuel (listed.setIfInBounds i true) E l) (hL X.n (NP Q)) r:=by
     have hq:∀ c a w,hL X.n (DK X ops k V0 fuel listed i Q) (.panic c) a w→hL X.n (NP Q) (.panic c) a w:=by
      rintro c a w q
      exact (gD q (by simp)).2.2.elim
     have G:∀ E l,wpList X.P ops (hL X.n (DK X ops k V0 fuel listed i Q)) [] E l→(Nat.blt i k=true→o5 ops k listed=true→St X.C l V0)∧kf X.P ops (hL X.n (NP Q)) (fun w=>St X.C w V0) k fuel (listed.setIfInBounds i true) E l:=by
      rintro E l q
      obtain ⟨M,O,T⟩:=gD q (by simp)
      exact T E M O rfl (I.step m)
     intro r g
     match r,g with
     | .ok (.value v) l,g=>exact G _ _ g
     | .ok .skip l,g=>exact G _ _ g
     | .ok (.defer _) l,g=>exact G _ _ g
     | .ok (.enter f args) l,g =>
      refine Calls.mono' g ?_
      intro e U L
      cases e with
      | returned v=>exact G _ _ L
      | panicked c=>exact hq _ _ _ L
      | outgrown =>
       obtain ⟨b,u,J⟩:=L
       exact (gD J (by simp)).2.2.elim
     | .ok (.row row args) l,g=>exact Rows.mono g fun v U h=>G _ _ h
     | .halt (.panic v) l,g=>exact hq _ _ _ g
    rcases B with B | ⟨h1,b,u,J⟩
    ·exact .inl (up _ B)
    ·exact (gD J (by simp)).2.2.elim
   ·rename_i hw
    rw [if_neg hw] at B
    obtain ⟨M,O,T⟩:=gD B (by simp)
    exact T _ M O rfl (I.step m)
  ·exact ih h.2 F
theorem yY (i:Nat)(b:Region.ready .any ops listed=[i])(a:ops[i]?=some o)(h:TL X ops V σ [o] (DK X ops k V0 fuel listed i Q)):TD X ops k V0 (fuel+1) listed V σ Q :=
 fW [i] b rfl ⟨by rw [a]; exact h,trivial⟩
theorem aG {i:Nat}(hS:∀ w,St X.C w V→St X.C w V0)(h:TD X ops k V0 fuel (listed.setIfInBounds i true) V σ Q):TQ X V σ .normal (DK X ops k V0 fuel listed i Q) :=
 fun w s a h1 h2 b e=>⟨fun _ _=>hS w s,h a w h1 h2 b e s⟩
theorem xf {i:Nat}(g:Nat.blt i k=false)(h:TD X ops k V0 fuel (listed.setIfInBounds i true) V σ Q):TQ X V σ .normal (DK X ops k V0 fuel listed i Q) :=
 fun w s a h1 h2 b e=>⟨fun h=>(by rw [g] at h; cases h),h a w h1 h2 b e s⟩
end
end Go.Pg
namespace Go.Pg
section
variable {α:Type}{K:Kind α}{C w:World}{V:List HP}
theorem St.len {a:Option Addr}{n c:Nat}{xs:List α}(s:St C w V)(i:Nat)(h:k9 (lk V i) K (.slice a n c) xs):n=xs.length:=by
 obtain ⟨J,lw,A,e,b,h2,g,j⟩:=s.reads h
 injection b
theorem St.cap {a:Option Addr}{n c:Nat}{xs:List α}(s:St C w V)(i:Nat)(h:k9 (lk V i) K (.slice a n c) xs):n≤9223372036854775807:=by
 obtain ⟨J,lw,A,g,e,h2,b,j⟩:=s.reads h
 have:n=xs.length:=by injection e
 simp only [maxLen] at b
 omega
theorem St.dup {v:Value}{xs:List α}(s:St C w V)(i:Nat)(e:lk V i=aO K v xs):St C w (aO K v xs::V):=by
 obtain ⟨a,I,b,g,j,l,s⟩:=s
 obtain ⟨h1,h2,h,p,s'⟩:=fG i s
 rw [e] at p
 exact ⟨a,I,b,g,j,l,Hp.none,b,Join.none b,⟨rfl,p.2⟩,s⟩
theorem St.shr {e:Nat}{v:Value}{xs:List α}(s:St C w V)(i:Nat)(a:lk V i=ow K e v xs):St C w (aO K v xs::Pg.rm V i):=by
 have:=s.mv i
 unfold Pg.mv at this
 rw [a] at this
 exact St.share this (fun I J b l m p=>⟨rfl,kZ l m p⟩)
theorem St.nilo (s:St C w V)(K:Kind α)(e:Nat):St C w (ow K e (.slice none 0 0) []::V) :=
 St.new s id (fun I _=>⟨Hp.none,.inl ⟨none,rfl,rfl,rfl⟩,fun _ _ e=>(by cases e),fun _ h=>absurd rfl h⟩) (fun _ _ h=>h)
theorem St.nilr (s:St C w V)(K:Kind α):St C w (aO K (.slice none 0 0) []::V) :=
 St.new s id (fun I _=>⟨Hp.none,⟨rfl,none,0,rfl,Nat.le_refl _,Nat.zero_le _,fun h=>absurd h (Nat.lt_irrefl _)⟩,fun _ _ e=>(by cases e),fun _ h=>absurd rfl h⟩) (fun _ _ h=>h)
end
section
variable {X:Cx}{V:List HP}{σ:dI}{Q:Exit→dI→World→Prop}{ops:Array Oper}{rest:List Oper}{o:Oper}{cd:Code}{ex:Exit}
variable {d:Option Nat}{ty:TypeId}{pos:String}{af:Array Edge}{gd:Option (Nat×Bool)}
variable {α β:Type}
theorem aM {K:Kind α}{a:Option Addr}{n c:Nat}{xs:List α}(i:Nat)(b:k9 (lk V i) K (.slice a n c) xs)(h:n=xs.length→TL X ops V σ rest Q):TL X ops V σ rest Q:=fun w s=>h (s.len i b) w s
theorem bJ {K:Kind α}{a:Option Addr}{n c:Nat}{xs:List α}(i:Nat)(b:k9 (lk V i) K (.slice a n c) xs)(h:n=xs.length→TC X V σ cd Q):TC X V σ cd Q:=fun w s=>h (s.len i b) w s
theorem gW {K:Kind α}{a:Option Addr}{n c:Nat}{xs:List α}(i:Nat)(b:k9 (lk V i) K (.slice a n c) xs)(h:n=xs.length→TQ X V σ ex Q):TQ X V σ ex Q:=fun w s=>h (s.len i b) w s
theorem fS {V':List HP}(f:∀ w,St X.C w V→St X.C w V')(h:TL X ops V' σ rest Q):TL X ops V σ rest Q:=fun w s=>h w (f w s)
theorem yZ {V':List HP}(f:∀ w,St X.C w V→St X.C w V')(h:TC X V' σ cd Q):TC X V σ cd Q:=fun w s=>h w (f w s)
theorem Bi {V':List HP}(f:∀ w,St X.C w V→St X.C w V')(h:TQ X V' σ ex Q):TQ X V σ ex Q:=fun w s=>h w (f w s)
theorem cD {A:Type}{f:FuncId}{xs:Array Operand}{e:Array TypeId}{as:List Value}{b:List HP}{a:A→Value×List HP}(m:Nat)(j:iU X.n d=true)(hw:dY ops σ ⟨d,.call ⟨.value (.func f),xs,e⟩,ty,pos,af,gd⟩=true)
  (l:aZ X.P f=true) (h:xs.toList.map (ev σ)=as) (i:FnOk X.P f as b a) (g:tk m V=b) (k:∀ x,TL X ops ((a x).2++dp m V) (gV σ d (a x).1) rest Q):TL X ops V σ (⟨d,.call ⟨.value (.func f),xs,e⟩,ty,pos,af,gd⟩::rest) Q :=
 xb j hw l h i (by rw [← g,mR]) k
theorem cP {A:Type}{f:FuncId}{g:Operand}{fs cs:List Value}{xs:Array Operand}{e:Array TypeId}{as:List Value}{b:List HP}{a:A→Value×List HP}(m:Nat)(l:iU X.n d=true)(hw:dY ops σ ⟨d,.call ⟨.value g,xs,e⟩,ty,pos,af,gd⟩=true)
  (q:aZ X.P f=true) (r:ev σ g=.func (.func f) fs.toArray cs.toArray) (i:fs++xs.toList.map (ev σ)++cs=as) (j:FnOk X.P f as b a) (h:tk m V=b) (k:∀ x,TL X ops ((a x).2++dp m V) (gV σ d (a x).1) rest Q):TL X ops V σ (⟨d,.call ⟨.value g,xs,e⟩,ty,pos,af,gd⟩::rest) Q :=
 uR l hw q r i j (by rw [← h,mR]) k
theorem AllC.append {A B:List HP}(a:AllC A)(b:AllC B):AllC (A++B):=by
 induction A with
 | nil=>exact b
 | cons p A ih=>exact ⟨a.1,ih a.2⟩
theorem mz {c a b:Operand}{k:Bool}{v e:Value}(h:ev σ c=.bool k)(j:k=true)(g:ev σ a=e)(i:e=v):VO X V σ ⟨d,.pick c a b,ty,pos,af,gd⟩ v:=iO (by
 simp only [pv,h,j,g,i,cond_true])
theorem mA {c a b:Operand}{k:Bool}{v e:Value}(h:ev σ c=.bool k)(j:k=false)(g:ev σ b=e)(i:e=v):VO X V σ ⟨d,.pick c a b,ty,pos,af,gd⟩ v:=iO (by
 simp only [pv,h,j,g,i,cond_false])
theorem xg {t l:TypeId}{x y:Operand}{a:Option Addr}{n c:Nat}{e:TypeId}(g:mo X.P t=some e)(i:ev σ x=.slice a n c)(j:ev σ y=.slice none 0 0):VO X V σ ⟨d,.binOp .eql t x y l,ty,pos,af,gd⟩ (.bool a.isNone):=by
 intro w _
 have h:=je g
 have b:(Op.equal t (.slice a n c) (.slice none 0 0)).run X.P w=.ok a.isNone w:=by
  unfold Op.equal
  rw [show Op.maxDepth=9999+1 from rfl]
  unfold Op.equalIn
  rw [Sem.run_bind,run_underlying h]
  cases a<;>rfl
 cases a<;>simp [execOp,i,j,eqGuard,binOp,b]
end
end Go.Pg
namespace Go.Pg
def fX (P:Program)(T:TypeId):Option (List (Nat×Nat)):=match P.underlying T with
 | some (.struct fs)=>fs.toList.mapM fun f=>(P.info? f.type).map fun i=>(f.offset,i.size)
 | _=>none
def qO (ps:List (Nat×Nat)):List Value→List (Nat×Value)→Option (List Value)
 | z,[]=>some z
 | z,(i,v)::rest=>match rG ps i with
  | some (off,sz)=>cond (Nat.beq v.cells.toList.length sz&&Nat.ble (off+sz) z.length) (qO ps (z.take off++v.cells.toList++z.drop (off+sz)) rest) none
  | none=>none
theorem sK:∀ (l:List Value) (a j:Nat) (cs:Array Value),a+j+l.length≤cs.size →
  ((l.zipIdx j).foldl (fun cs (c,j)=>cs.setIfInBounds (a+j) c) cs).toList=cs.toList.take (a+j)++l++cs.toList.drop (a+j+l.length):=by
 intro l
 induction l with
 | nil=>intro a j cs _; simp
 | cons u l ihl =>
  intro a j cs b
  simp only [List.zipIdx_cons,List.foldl_cons]
  rw [ihl a (j+1) _ (by simp at *; omega)]
  simp only [List.length_cons] at b
  rw [Array.toList_setIfInBounds,show a+(j+1)=(a+j)+1 by omega,List.take_succ_eq_append_getElem (by simp; omega),List.take_set_of_le (Nat.le_refl _),List.drop_set_of_lt (by omega)]
  simp [Nat.add_assoc,Nat.add_comm,Nat.add_left_comm]
theorem xh {ps:List (Nat×Nat)}:∀ (parts:List (Nat×Value)) (z:Array Value) (cs:List Value),qO ps z.toList parts=some cs→∃ r,Instr.fill (ps.toArray[·]?) z parts=some r∧r.toList=cs:=by
 intro parts
 induction parts with
 | nil=>intro z cs h; exact ⟨z,rfl,Option.some.inj h⟩
 | cons p parts ih =>
  intro z cs h
  obtain ⟨i,v⟩:=p
  unfold qO at h
  rw [kK] at h
  unfold Instr.fill
  have e:ps.toArray[i]?=ps[i]?:=by simp
  simp only [e]
  cases hp:ps[i]? with
  | none=>rw [hp] at h; cases h
  | some q =>
   obtain ⟨a,sz⟩:=q
   rw [hp] at h
   simp only at h ⊢
   cases hb:(Nat.beq v.cells.toList.length sz&&Nat.ble (a+sz) z.toList.length) with
   | false=>rw [hb] at h; cases h
   | true =>
    rw [hb] at h
    simp only [cond_true,Bool.and_eq_true] at h hb
    have h1:v.cells.size=sz:=by simpa using Nat.eq_of_beq_eq_true hb.1
    have h2:a+sz≤z.size:=by simpa using Nat.le_of_ble_eq_true hb.2
    have b:¬ (v.cells.size≠sz∨a+v.cells.size>z.size):=by rw [h1]; omega
    rw [if_neg (by simpa using b)]
    have g:v.cells.zipIdx.foldl (fun cs (c,j)=>cs.setIfInBounds (a+j) c) z=(v.cells.toList.zipIdx 0).foldl (fun cs (c,j)=>cs.setIfInBounds (a+j) c) z:=by
     rw [← Array.foldl_toList]
     congr 1
     simp
    rw [g]
    refine ih _ cs ?_
    rw [sK _ _ _ _ (by simp [h1]; omega)]
    simpa [h1] using h
section
variable {X:Cx}{V:List HP}{σ:dI}{Q:Exit→dI→World→Prop}{ops:Array Oper}{rest:List Oper}{o:Oper}
variable {d:Option Nat}{ty:TypeId}{pos:String}{af:Array Edge}{gd:Option (Nat×Bool)}
variable {α β:Type}
theorem p7 {P:Program}{w:World}:∀ (fs:List Field) (ps:List (Nat×Nat)),fs.mapM (fun f=>(P.info? f.type).map fun i=>(f.offset,i.size))=some ps →
  (fs.mapM (fun f=>(do pure (f.offset,← sizeOf f.type):Sem (Nat×Nat)))).run P w=.ok ps w:=by
 intro fs
 induction fs with
 | nil=>intro ps h; simp at h; subst h; rfl
 | cons f fs ih =>
  intro ps h
  rw [List.mapM_cons] at h ⊢
  cases hi:P.info? f.type with
  | none=>rw [hi] at h; cases h
  | some i =>
   rw [hi] at h
   cases hm:fs.mapM (fun f=>(P.info? f.type).map fun i=>(f.offset,i.size)) with
   | none=>rw [hm] at h; cases h
   | some qs =>
    rw [hm] at h
    obtain rfl:=Option.some.inj h
    have h1:=ih qs hm
    simp only [Sem.run_bind,Sem.run_pure,Result.andThen_ok,eQ (show iK P f.type=some i.size by simp [iK,hi]),h1]
theorem aV {T:TypeId}{parts:Array (Nat×Operand)}{cs z:List Value}{ps:List (Nat×Nat)}{l:List (Nat×Value)}(a:fX X.P T=some ps)(E:kX X.P T=some z)(s:parts.toList.map (fun p=>(p.1,ev σ p.2))=l)(B:qO ps z l=some cs) :
  VO X V σ ⟨d,.build T parts,ty,pos,af,gd⟩ (.agg cs.toArray):=by
 intro w _
 unfold fX at a
 split at a
 ·rename_i fs D
  obtain ⟨F,m,q⟩:=l3 (P:=X.P) (w:=w) E
  have u:=p7 (P:=X.P) (w:=w) _ _ a
  obtain ⟨r,g,h⟩:=xh (ps:=ps) l z.toArray cs (by simpa using B)
  have e:(parts.map fun (i,x)=>(i,ev σ x)).toList=l:=by
   rw [← s]; simp
  have b:(fs.mapM (fun f=>(do pure (f.offset,← sizeOf f.type):Sem (Nat×Nat)))).run X.P w=.ok ps.toArray w:=by
   rw [show fs=fs.toList.toArray by simp,List.mapM_toArray,Sem.run_map]
   exact congrArg (fun r=>Result.andThen r _) u
  have j:r=cs.toArray:=by apply Array.ext'; simpa using h
  simp only [execOp,Instr.build,Sem.run_bind,m,Result.andThen_ok,run_underlying D,b,e,q,g,j,Sem.run_pure]
 ·cases a
def o6 (K:Kind α){A:Type}(cells:A→α→List Value)(b:A→α→List HP):Prop:=∀ I h x cs,K.own I h x cs→∃ a,cs=cells a x∧fD (b a x) I Hp.none
theorem p8 {A:Type}{cells:A→α→List Value}{m:A→α→List HP}{K:Kind α}{C w:World}{e g o n c:Nat}{xs:List α}(s:St C w V)(i:Nat)(Z:o6 K cells m)(T:lk V i=ow K e (.slice (some ⟨g,o,none⟩) n c) xs){j:Nat}{x:α}(J:xs[j]?=some x) :
  ∃ a,(∀ k u,(cells a x)[k]?=some u→w.cell? ⟨g,o+j*K.sz+k,none⟩=some u)∧(cells a x).length=K.sz∧St C w (m a x++V):=by
 obtain ⟨sm,I,h,O,L,l,st⟩:=s
 obtain ⟨h1,h2,j',p,s'⟩:=fG i st
 rw [T] at p
 have p:oS K e I h1 (.slice (some ⟨g,o,none⟩) n c) xs:=p
 rcases p with ⟨A,G,rfl,_⟩|⟨g',c',pre,q,b,fr,hb,G,q2,q3,q4,q5,jo,ol⟩
 ·simp at J
 injection G with e1 e2 e3
 injection e1 with e1
 injection e1 with e1 e4
 subst e1; subst e4
 obtain ⟨a1,c1,b1,g1,g2,U,D,jn,M,E⟩:=kY ol J
 obtain ⟨a,rfl,B⟩:=Z _ _ _ _ M
 have r:w.heap[g]?=some (.cells (pre++q++b).toArray e fr):=l g _ (L.right g _ (j'.left g _ (jo.left g _ (by simp [Hp.one]))))
 refine ⟨a,fun k u F=>?_,K.own_len M,sm,I,h,O,L,l,cS.2 ⟨Hp.none,h,Join.none h,B,st⟩⟩
 have Y:=(List.getElem?_eq_some_iff.1 F).1
 have:w.cell? ⟨g,pre.length+j*K.sz+k,none⟩=(pre++q++b)[pre.length+j*K.sz+k]?:=by simp [World.cell?,r]
 rw [this,List.append_assoc,List.getElem?_append_right (by omega),U,show pre.length+j*K.sz+k - pre.length=j*K.sz+k by omega,List.append_assoc,List.append_assoc,List.getElem?_append_right (by omega),show j*K.sz+k - a1.length=k by omega,List.getElem?_append_left Y]
 exact F
theorem y' [Inhabited α]{A:Type}{cells:A→α→List Value}{b:A→α→List HP}{K:Kind α}{T:TypeId}{x:Operand}{e g o n c:Nat}{xs:List α}(i:Nat)(j:Int)(D:iU X.n d=true)(hw:dY ops σ ⟨d,.load T x,ty,pos,af,gd⟩=true)(r:fP X.P T=some true)(G:iK X.P T=some K.sz)
  (E:o6 K cells b) (m:lk V i=ow K e (.slice (some ⟨g,o,none⟩) n c) xs) (J:ev σ x=.pointer (some ⟨g,o+j.toNat*K.sz,none⟩)) (q:0≤j) (h1:j<n)
  (h:∀ a,TL X ops (b a (ix xs j)++V) (gV σ d (.agg (cells a (ix xs j)).toArray)) rest Q):TL X ops V σ (⟨d,.load T x,ty,pos,af,gd⟩::rest) Q:=by
 intro w s
 have L:n=xs.length:=s.len i (by rw [m]; exact aC)
 obtain ⟨a,B,l,s'⟩:=p8 s i E m (jL q (by omega))
 refine eW D hw ?_
 have:=fQ (P:=X.P) (w:=w) (a:=⟨g,o+j.toNat*K.sz,none⟩) (cs:=cells a (ix xs j)) r (by rw [l]; exact G) (fun k u I=>by rw [gN]; exact B k u I)
 have F:(execOp (ev σ) ⟨d,.load T x,ty,pos,af,gd⟩).run X.P w=.ok (.value (.agg (cells a (ix xs j)).toArray)) w:=by
  simp only [execOp,Instr.loadAt,J,Instr.sureAddr,Sem.run_bind,Sem.run_pure,Result.andThen_ok,this]
 rw [F]
 exact h a w s'
theorem kL [Inhabited α]{A:Type}{cells:A→α→List Value}{b:A→α→List HP}{K:Kind α}{T:TypeId}{x:Operand}{e g o n c fo:Nat}{xs:List α}{pr:A→α→Value}(i:Nat)(j:Int)(B:iU X.n d=true)(hw:dY ops σ ⟨d,.load T x,ty,pos,af,gd⟩=true)(r:fP X.P T=some false)
  (D:o6 K cells b) (E:∀ a x,rG (cells a x) fo=some (pr a x)) (l:lk V i=ow K e (.slice (some ⟨g,o,none⟩) n c) xs) (G:ev σ x=.pointer (some ⟨g,o+j.toNat*K.sz+fo,none⟩)) (q:0≤j) (h1:j<n)
  (h:∀ a,TL X ops (b a (ix xs j)++V) (gV σ d (pr a (ix xs j))) rest Q):TL X ops V σ (⟨d,.load T x,ty,pos,af,gd⟩::rest) Q:=by
 intro w s
 have I:n=xs.length:=s.len i (by rw [l]; exact aC)
 obtain ⟨a,u,m,s'⟩:=p8 s i D l (jL q (by omega))
 refine eW B hw ?_
 have:=eV (P:=X.P) (w:=w) (a:=⟨g,o+j.toNat*K.sz+fo,none⟩) r (u fo _ (by rw [← kK]; exact E a _))
 have F:(execOp (ev σ) ⟨d,.load T x,ty,pos,af,gd⟩).run X.P w=.ok (.value (pr a (ix xs j))) w:=by
  simp only [execOp,Instr.loadAt,G,Instr.sureAddr,Sem.run_bind,Sem.run_pure,Result.andThen_ok,this]
 rw [F]
 exact h a w s'
theorem St.seps {C w:World}{p:HP}{A V:List HP}(s:St C w (p::(A++V))):St C w (⟨fun I h=>∃ h1 h2,Join h1 h2 h∧p.p I h1∧fD A I h2,fun l ⟨h1,h2,j,a,b⟩=>⟨h1,h2,j,p.mono l a,iV l b⟩⟩::V):=by
 obtain ⟨a,I,h,g,j,l,h1,h2,q,c,s⟩:=s
 obtain ⟨i,m,r,d,e⟩:=cS.1 s
 obtain ⟨k,k1,u⟩:=Join.assoc' r q
 exact ⟨a,I,h,g,j,l,k,m,u,⟨h1,i,k1,c,d⟩,e⟩
theorem eB [Inhabited α]{K:Kind α}{T e:TypeId}{x y:Operand}{g o n c:Nat}{xs:List α}{vs:List Value}{x':α}(k:Nat)(j:Int)(hd:iU X.n d=true)(hw:dY ops σ ⟨d,.store T x y,ty,pos,af,gd⟩=true)(hs:iK X.P T=some K.sz)
  (hx:ev σ x=.pointer (some ⟨g,o+j.toNat*K.sz,none⟩)) (hy:(ev σ y).cells.toList=vs) (h0:0≤j) (h1:j<n) (ho:∀ I h,fD (tk k V) I h→K.own I h x' vs)
  (h:TL X ops (ow K e (.slice (some ⟨g,o,none⟩) n c) (xs.set j.toNat x')::dp k V) (gV σ d undef) rest Q):TL X ops (ow K e (.slice (some ⟨g,o,none⟩) n c) xs::V) σ (⟨d,.store T x y,ty,pos,af,gd⟩::rest) Q:=by
 intro w s
 have s2:St X.C w (_::dp k V):=St.seps (A:=tk k V) (V:=dp k V) (by rw [mR]; exact s)
 obtain ⟨_,w',hr,s'⟩:=St.act s2 0 (q:=fun _:Unit=>ow K e (.slice (some ⟨g,o,none⟩) n c) (xs.set j.toNat x')) (Ψ:=fun _ w'=>(execOp (ev σ) ⟨d,.store T x y,ty,pos,af,gd⟩).run X.P w=.ok .skip w') (by
  rintro I hh ⟨a0,hA,D,p,a4⟩ lI lw dj
  have G:=ho I hA a4
  have p:oS K e I a0 (.slice (some ⟨g,o,none⟩) n c) xs:=p
  rcases p with ⟨A,hv,rfl,_⟩|⟨g',c',pre,i,a,fr,hb,hv,h2,h3,h4,M,E,ol⟩
  ·injection hv with _ hv _
   omega
  injection hv with l L e3
  injection l with l
  injection l with l e4
  subst l; subst e3; subst e4; subst L
  obtain ⟨a1,c1,J,g1,g2,hc,a5,jn,ox,Y⟩:=kY ol (jL h0 h1)
  have a2:=K.own_len ox
  have U:=K.own_len G
  have O:w.heap[g]?=some (.cells (pre++i++a).toArray e fr):=lw g _ (D.left g _ (E.left g _ (by simp [Hp.one])))
  have a7:i.length=a1.length+c1.length+J.length:=by rw [hc]; simp [Nat.add_assoc]
  obtain ⟨w',r,e',ot,sm⟩:=ke (P:=X.P) (N:=(pre++i++a).length) (T:=e) (fr:=fr) (b:=g) (by simpa [Nat.add_assoc] using M) vs (pre.length+j.toNat*K.sz) 0 (pre++i++a) w rfl O (by simp only [List.length_append]; omega) (K.own_one G)
  obtain ⟨m,jm⟩:=Join.of_disj (h1:=hA) (h2:=g2) (fun b=>by
   rcases D.disj b with f | f
   ·exact .inr ((jn.is_none b).1 ((E.is_none b).1 f).2).2
   ·exact .inl f)
  have a6:pre++i++a=(pre++i++a):=rfl
  have Z:(pre++i++a).take (pre.length+j.toNat*K.sz+0)++vs++(pre++i++a).drop (pre.length+j.toNat*K.sz+0+vs.length)=pre++(a1++vs++J)++a:=by
   have l:pre++i++a=(pre++a1)++(c1++(J++a)):=by rw [hc]; simp [List.append_assoc]
   have L:pre.length+j.toNat*K.sz+0=(pre++a1).length:=by rw [List.length_append]; omega
   rw [l,L,List.take_left,List.drop_append,List.drop_of_length_le (by omega),List.nil_append,Nat.add_sub_cancel_left,U,← a2,List.drop_left]
   simp [List.append_assoc]
  obtain ⟨h',F⟩:=Join.of_disj (h1:=Hp.one g (.cells (pre++(a1++vs++J)++a).toArray e fr)) (h2:=m) (fun b=>by
   by_cases hbg:b=g
   ·subst hbg
    refine .inr ((jm.is_none b).2 ⟨?_,?_⟩)
    ·rcases D.disj b with f | f
     ·have:=((E.is_none b).1 f).1
      simp [Hp.one] at this
     ·exact f
    ·rcases E.disj b with f | f
     ·simp [Hp.one] at f
     ·exact ((jn.is_none b).1 f).2
   ·exact .inl (by simp [Hp.one,hbg]))
  refine ⟨(),w',h',?_,sm _,?_,?_,?_,?_⟩
  ·have a3:(ev σ y).cells.size=K.sz:=by rw [← U,← hy]; simp
   simp only [execOp,Instr.storeAt,hx,Instr.sureAddr,Sem.run_bind,Sem.run_pure,Result.andThen_ok,storeVar,eQ hs,hy,a3,ne_eq,not_true_eq_false,if_false,r]
  ·refine .inr ⟨g,_,pre,a1++vs++J,a,fr,m,by rw [List.length_set],by rw [List.length_set]; exact h2,h3,by rw [List.length_set]; exact h4,?_,F,Y I hA x' vs m (Hp.le_refl I) jm G⟩
   rcases M with M | M
   ·exact .inl M
   ·refine .inr ?_
    simp only [List.length_append] at *
    omega
  ·intro b o' l
   rcases F.cases l with ⟨l,_⟩|⟨l,L⟩
   ·simp only [Hp.one] at l
    split at l
    ·rename_i B
     subst B
     rw [← Option.some.inj l,e',Z]
    ·cases l
   ·have u:b≠g:=by rintro rfl; simp [Hp.one] at L
    rw [ot b u]
    rcases jm.cases l with ⟨l,_⟩|⟨l,_⟩
    ·exact lw b _ (D.right b _ l)
    ·exact lw b _ (D.left b _ (E.right b _ (jn.right b _ l)))
  ·intro b B
   refine .inl fun hn=>B ?_
   have q1:=(D.is_none b).1 hn
   have q2:=(E.is_none b).1 q1.1
   refine (F.is_none b).2 ⟨?_,(jm.is_none b).2 ⟨q1.2,((jn.is_none b).1 q2.2).2⟩⟩
   have:=q2.1
   simp only [Hp.one] at *
   split at this
   ·cases this
   ·rename_i u; rw [if_neg u]
  ·intro b o' hn l
   have q1:=(D.is_none b).1 hn
   have q2:=((E.is_none b).1 q1.1).1
   have u:b≠g:=by rintro rfl; simp [Hp.one] at q2
   rw [ot b u]
   exact l)
 exact eW hd hw (by rw [hr]; exact h w' s')
end
end Go.Pg
namespace Go.Pg
structure DecK {α:Type}(K:Kind α) where
 A:Type
 cells:A→α→List Value
 ents:A→α→List HP
 dec:B3 K cells ents
section
variable {α β:Type}
def DecK.scal (enc:α→Value)(h1:∀ x,(enc x).oneCell'=true):DecK (Kind.scal enc h1):=⟨Unit,fun _ x=>[enc x],fun _ _=>[],fun I x cs h=>⟨(),h,rfl⟩⟩
def DecK.sl (e:Nat)(K:Kind α):DecK (Kind.sl e K):=⟨Option Addr×Nat,fun a xs=>[.slice a.1 xs.length a.2],fun a xs=>[aO K (.slice a.1 xs.length a.2) xs],fun I x cs h=>by
 obtain ⟨v,rfl,r⟩:=h
 obtain ⟨a,c,rfl⟩:=oW r
 exact ⟨(a,c),rfl,Hp.none,Hp.none,Join.none _,⟨rfl,r⟩,rfl⟩⟩
def DecK.pair {A:Kind α}{B:Kind β}(a:DecK A)(b:DecK B):DecK (Kind.pair A B):=⟨a.A×b.A,fun p x=>a.cells p.1 x.1++b.cells p.2 x.2,fun p x=>a.ents p.1 x.1++b.ents p.2 x.2,fun I x cs h=>by
 obtain ⟨i,j,rfl,h1,h2⟩:=h
 obtain ⟨p,rfl,e⟩:=a.dec _ _ _ h1
 obtain ⟨q,rfl,g⟩:=b.dec _ _ _ h2
 exact ⟨(p,q),rfl,cS.2 ⟨Hp.none,Hp.none,Join.none _,e,g⟩⟩⟩
def DecK.iso {K:Kind α}(a:DecK K)(f:β→α):DecK (Kind.iso K f):=⟨a.A,fun p x=>a.cells p (f x),fun p x=>a.ents p (f x),fun I x cs h=>a.dec I (f x) cs h⟩
theorem DecK.own {K:Kind α}(a:DecK K):o6 K.share a.cells a.ents:=fun I h x cs o=>a.dec I x cs o.2
theorem DecK.leaf {K:Kind α}(a:DecK K){fo:Nat}{pr:α→Value}(h:∀ p x,rG (a.cells p x) fo=some (pr x)):yT K fo pr:=fun I x cs b=>by
 obtain ⟨p,rfl,_⟩:=a.dec I x cs b
 exact h p x
structure MkS {α:Type}(K:Kind α) where
 A:Type
 cells:A→α→List Value
 ents:A→α→List HP
 put:∀ I h a x,fD (ents a x) I h→h=Hp.none∧K.rd I x (cells a x)
structure MkO {α:Type}(K:Kind α) where
 A:Type
 cells:A→α→List Value
 ents:A→α→List HP
 put:∀ I h a x,fD (ents a x) I h→K.own I h x (cells a x)
def MkS.scal (enc:α→Value)(h1:∀ x,(enc x).oneCell'=true):MkS (Kind.scal enc h1):=⟨Unit,fun _ x=>[enc x],fun _ _=>[],fun I h a x s=>⟨s,rfl⟩⟩
def MkS.sl (e:Nat)(K:Kind α):MkS (Kind.sl e K):=⟨Value,fun v _=>[v],fun v xs=>[aO K v xs],fun I h a x s=>by
 obtain ⟨h1,h2,j,⟨rfl,r⟩,e⟩:=s
 have e:h2=Hp.none:=e
 subst e
 exact ⟨j.eq_of_none,a,rfl,r⟩⟩
def MkS.pair {A:Kind α}{B:Kind β}(a:MkS A)(b:MkS B):MkS (Kind.pair A B):=⟨a.A×b.A,fun p x=>a.cells p.1 x.1++b.cells p.2 x.2,fun p x=>a.ents p.1 x.1++b.ents p.2 x.2,fun I h p x s=>by
 obtain ⟨h1,h2,j,m,q⟩:=cS.1 s
 obtain ⟨e,i⟩:=a.put _ _ _ _ m
 obtain ⟨g,l⟩:=b.put _ _ _ _ q
 subst e; subst g
 exact ⟨j.eq_of_none,_,_,rfl,i,l⟩⟩
def MkS.iso {K:Kind α}(a:MkS K)(f:β→α):MkS (Kind.iso K f):=⟨a.A,fun p x=>a.cells p (f x),fun p x=>a.ents p (f x),fun I h p x s=>a.put I h p (f x) s⟩
def MkO.scal (enc:α→Value)(h1:∀ x,(enc x).oneCell'=true):MkO (Kind.scal enc h1):=⟨Unit,fun _ x=>[enc x],fun _ _=>[],fun I h a x s=>⟨s,rfl⟩⟩
def MkO.sl (e:Nat)(K:Kind α):MkO (Kind.sl e K):=⟨Value,fun v _=>[v],fun v xs=>[ow K e v xs],fun I h a x s=>by
 obtain ⟨h1,h2,j,o,b⟩:=s
 have b:h2=Hp.none:=b
 subst b
 rw [j.symm.eq_of_none]
 exact ⟨a,rfl,o⟩⟩
def MkO.pair {A:Kind α}{B:Kind β}(a:MkO A)(b:MkO B):MkO (Kind.pair A B):=⟨a.A×b.A,fun p x=>a.cells p.1 x.1++b.cells p.2 x.2,fun p x=>a.ents p.1 x.1++b.ents p.2 x.2,fun I h p x s=>by
 obtain ⟨h1,h2,j,e,g⟩:=cS.1 s
 exact ⟨h1,h2,_,_,j,rfl,a.put _ _ _ _ e,b.put _ _ _ _ g⟩⟩
def MkO.iso {K:Kind α}(a:MkO K)(f:β→α):MkO (Kind.iso K f):=⟨a.A,fun p x=>a.cells p (f x),fun p x=>a.ents p (f x),fun I h p x s=>a.put I h p (f x) s⟩
structure SpO {α:Type}(K:Kind α) where
 A:Type
 cells:A→α→List Value
 ents:A→α→List HP
 sp:∀ I h x cs,K.own I h x cs→∃ a,cs=cells a x∧fD (ents a x) I h
theorem sM {L:Kind β}{e:Nat}{I h:Hp}{v:Value}{ys:List β}(r:oS L e I h v ys):∃ a c,v=.slice a ys.length c:=by
 rcases r with ⟨A,rfl,rfl,_⟩|⟨g,c,pre,i,b,fr,h1,rfl,_⟩
 ·exact ⟨A,0,rfl⟩
 ·exact ⟨_,c,rfl⟩
def SpO.scal (enc:α→Value)(h1:∀ x,(enc x).oneCell'=true):SpO (Kind.scal enc h1):=⟨Unit,fun _ x=>[enc x],fun _ _=>[],fun I h x cs o=>⟨(),o.2,o.1⟩⟩
def SpO.sl (e:Nat)(K:Kind α):SpO (Kind.sl e K):=⟨Option Addr×Nat,fun a xs=>[.slice a.1 xs.length a.2],fun a xs=>[ow K e (.slice a.1 xs.length a.2) xs],fun I h x cs o=>by
 obtain ⟨v,rfl,r⟩:=o
 obtain ⟨a,c,rfl⟩:=sM r
 exact ⟨(a,c),rfl,h,Hp.none,Join.none' _,r,rfl⟩⟩
def SpO.pair {A:Kind α}{B:Kind β}(a:SpO A)(b:SpO B):SpO (Kind.pair A B):=⟨a.A×b.A,fun p x=>a.cells p.1 x.1++b.cells p.2 x.2,fun p x=>a.ents p.1 x.1++b.ents p.2 x.2,fun I h x cs o=>by
 obtain ⟨h1,h2,i,l,j,rfl,o1,o2⟩:=o
 obtain ⟨p,rfl,e⟩:=a.sp _ _ _ _ o1
 obtain ⟨q,rfl,g⟩:=b.sp _ _ _ _ o2
 exact ⟨(p,q),rfl,cS.2 ⟨h1,h2,j,e,g⟩⟩⟩
def SpO.iso {K:Kind α}(a:SpO K)(f:β→α):SpO (Kind.iso K f):=⟨a.A,fun p x=>a.cells p (f x),fun p x=>a.ents p (f x),fun I h x cs o=>a.sp I h (f x) cs o⟩
structure Zr {α:Type}(K:Kind α) where
 z:α
 cs:List Value
 len:cs.length=K.sz
 own:∀ I,K.own I Hp.none z cs
def Zr.scal (enc:α→Value)(h1:∀ x,(enc x).oneCell'=true)(z:α):Zr (Kind.scal enc h1):=⟨z,[enc z],rfl,fun I=>⟨rfl,rfl⟩⟩
def Zr.sl (e:Nat)(K:Kind α):Zr (Kind.sl e K):=⟨[],[.slice none 0 0],rfl,fun I=>⟨_,rfl,.inl ⟨none,rfl,rfl,rfl⟩⟩⟩
def Zr.pair {A:Kind α}{B:Kind β}(a:Zr A)(b:Zr B):Zr (Kind.pair A B):=⟨(a.z,b.z),a.cs++b.cs,by rw [List.length_append,a.len,b.len]; rfl,fun I=>⟨Hp.none,Hp.none,_,_,Join.none _,rfl,a.own I,b.own I⟩⟩
def Zr.iso {K:Kind α}(a:Zr K)(f:β→α)(z:β)(h:f z=a.z):Zr (Kind.iso K f):=⟨z,a.cs,a.len,fun I=>by show K.own I Hp.none (f z) a.cs; rw [h]; exact a.own I⟩
def Zr.share {K:Kind α}(a:Zr K):Zr K.share:=⟨a.z,a.cs,a.len,fun I=>⟨rfl,K.own_rd (Hp.le_refl I) (Hp.none_le I) (a.own I)⟩⟩
theorem Zr.zk {P:Program}{K:Kind α}{e:TypeId}(a:Zr K)(h:kX P e=some a.cs):oX P K e a.z:=⟨a.cs,h,a.len,a.own⟩
theorem pO {K:Kind α}{I J:Hp}(l:Hp.le I J):∀ (xs:List α) (h:Hp) (cs:List Value),Hp.le h J→hH K I h xs cs→hH K.share J Hp.none xs cs:=by
 intro xs
 induction xs with
 | nil=>intro h cs _ o; exact ⟨rfl,o.2⟩
 | cons x xs ih =>
  rintro h cs i ⟨h1,h2,m,g,j,e,a,b⟩
  exact ⟨Hp.none,Hp.none,m,g,Join.none _,e,⟨rfl,K.own_rd l (Hp.le_trans j.left i) a⟩,ih h2 g (Hp.le_trans j.right i) b⟩
theorem St.wk {C w:World}{V:List HP}{K:Kind α}{e:Nat}{v:Value}{xs:List α}(s:St C w V)(i:Nat)(T:lk V i=ow K e v xs):St C w (ow K.share e v xs::Pg.rm V i):=by
 obtain ⟨a,I,h,g,j,l,s⟩:=s.mv i
 obtain ⟨h1,h2,u,p,s'⟩:=s
 rw [T] at p
 have p:oS K e I h1 v xs:=p
 rcases p with ⟨A,rfl,rfl,rfl⟩|⟨b,c,pre,r,q,fr,F,rfl,Z,q3,q4,q5,B,Y⟩
 ·exact ⟨a,I,h,g,j,l,Hp.none,h2,u,.inl ⟨A,rfl,rfl,rfl⟩,s'⟩
 ·obtain ⟨k,k1,k2⟩:=Join.assoc' u j
  obtain ⟨J,E⟩:=Join.of_disj (h1:=I) (h2:=F) (fun x=>by
   rcases k1.disj x with f | f
   ·exact .inl f
   ·exact .inr ((B.is_none x).1 f).2)
  obtain ⟨M,L⟩:=Join.of_disj (h1:=Hp.one b (.cells (pre++r++q).toArray e fr)) (h2:=h2) (fun x=>by
   rcases u.disj x with f | f
   ·exact .inl ((B.is_none x).1 f).1
   ·exact .inr f)
  obtain ⟨G,O⟩:=Join.of_disj (h1:=J) (h2:=M) (fun x=>by
   by_cases hx:J x=Option.none
   ·exact .inl hx
   ·refine .inr ((L.is_none x).2 ?_)
    cases hI:I x with
    | some o =>
     have:h x=Option.none:=by
      rcases j.disj x with f | f
      ·rw [hI] at f; cases f
      ·exact f
     have:=(u.is_none x).1 this
     exact ⟨((B.is_none x).1 this.1).1,this.2⟩
    | none =>
     have D:F x≠Option.none:=fun U=>hx ((E.is_none x).2 ⟨hI,U⟩)
     refine ⟨?_,?_⟩
     ·rcases B.disj x with f | f
      ·exact f
      ·exact absurd f D
     ·rcases u.disj x with f | f
      ·exact absurd ((B.is_none x).1 f).2 D
      ·exact f)
  refine ⟨a,J,M,G,O,?_,_,h2,L,.inr ⟨b,c,pre,r,q,fr,Hp.none,rfl,Z,q3,q4,q5,Join.none' _,pO E.left xs F r E.right Y⟩,iV E.left s'⟩
  intro x o m
  rcases O.cases m with ⟨m,_⟩|⟨m,_⟩
  ·rcases E.cases m with ⟨m,_⟩|⟨m,_⟩
   ·exact l x o (j.left x o m)
   ·exact l x o (j.right x o (u.left x o (B.right x o m)))
  ·rcases L.cases m with ⟨m,_⟩|⟨m,_⟩
   ·exact l x o (j.right x o (u.left x o (B.left x o m)))
   ·exact l x o (j.right x o (u.right x o m))
end
section
variable {X:Cx}{V:List HP}{σ:dI}{Q:Exit→dI→World→Prop}{ops:Array Oper}{rest:List Oper}
variable {d:Option Nat}{ty:TypeId}{pos:String}{af:Array Edge}{gd:Option (Nat×Bool)}
theorem bN {T:TypeId}{x:Operand}{b k n:Nat}{cs ds:List Value}{a:Nat}(i:Nat)(g:fP X.P T=some true)(l:iK X.P T=some n)
  (e:lk V i=aJ b cs a) (m:ev σ x=.pointer (some ⟨b,k,none⟩)) (h:(cs.drop k).take n=ds) (j:ds.length=n):VO X V σ ⟨d,.load T x,ty,pos,af,gd⟩ (.agg ds.toArray):=by
 subst h
 exact uM i g l e m j
end
section
variable {α:Type}
theorem MkO.list {K:Kind α}(M:MkO K):∀ (ps:List (M.A×α)) (I h:Hp),fD (ps.flatMap fun p=>M.ents p.1 p.2) I h→hH K I h (ps.map (·.2)) (ps.flatMap fun p=>M.cells p.1 p.2):=by
 intro ps
 induction ps with
 | nil=>intro I h s; exact ⟨s,rfl⟩
 | cons p ps ih =>
  intro I h s
  rw [List.flatMap_cons] at s
  obtain ⟨h1,h2,j,a,b⟩:=cS.1 s
  exact ⟨h1,h2,_,_,j,by rw [List.flatMap_cons],M.put _ _ _ _ a,ih I h2 b⟩
theorem MkS.list {K:Kind α}(M:MkS K):∀ (ps:List (M.A×α)) (I h:Hp),fD (ps.flatMap fun p=>M.ents p.1 p.2) I h→hH K.share I h (ps.map (·.2)) (ps.flatMap fun p=>M.cells p.1 p.2):=by
 intro ps
 induction ps with
 | nil=>intro I h s; exact ⟨s,rfl⟩
 | cons p ps ih =>
  intro I h s
  rw [List.flatMap_cons] at s
  obtain ⟨h1,h2,j,a,b⟩:=cS.1 s
  exact ⟨h1,h2,_,_,j,by rw [List.flatMap_cons],M.put _ _ _ _ a,ih I h2 b⟩
theorem DecK.flat {K:Kind α}(a:DecK K){b:α→List Value}(h:∀ p x,a.cells p x=b x):∀ I x cs,K.rd I x cs→cs=b x:=fun I x cs r=>by
 obtain ⟨p,rfl,_⟩:=a.dec I x cs r
 exact h p x
end
theorem xi {a b:Bool}(e:a=true)(g:b=true):(a&&b)=true:=by rw [e,g]; rfl
theorem cY {a:Bool}(b:a=false):(!a)=true:=by rw [b]; rfl
theorem vb {a b:Bool}(h:a=b):Value.bool a=Value.bool b:=by rw [h]
def bT {α:Type}[Inhabited α](c:Bool)(x:Option α):Option α:=cond c x (some default)
theorem bR {α:Type}[Inhabited α]{c:Bool}{x:Option α}{r:α}(h:bT c x=some r)(a:c=true):x=some r:=by
 rw [a] at h
 exact h
section
variable {X:Cx}{V:List HP}{σ:dI}{Q:Exit→dI→World→Prop}{ops:Array Oper}{rest:List Oper}
variable {d:Option Nat}{ty:TypeId}{pos:String}{af:Array Edge}{gd:Option (Nat×Bool)}
theorem iI {S:TypeId}{x:Operand}{f fo b k a:Nat}(g:dC X.P S f=some fo)(i:ev σ x=.pointer (some ⟨b,k,none⟩))(e:k+fo=a):VO X V σ ⟨d,.fieldAddr S x f,ty,pos,af,gd⟩ (.pointer (some ⟨b,a,none⟩)):=by
 have h:=uN (X:=X) (V:=V) (d:=d) (ty:=ty) (pos:=pos) (af:=af) (gd:=gd) g i
 rw [gN,e] at h
 exact h
theorem hU {A:Type}{x:Code}(pf:A→Prop)(g:A→List (Nat×Value))(b:A→List HP)(i:TC X V σ x (iN (Jn X pf g b) Q))(j:∀ a σ',pf a→TQ X (b a) (pJ σ' (g a)) .normal Q):TC X V σ x Q:=by
 intro w s
 refine W.mono (i w s) ?_
 intro e σ' l q
 cases e with
 | normal =>
  obtain ⟨a,h,h1,h2⟩:=q
  have:=j a σ' h l h2
  rw [lK h1] at this
  exact this
 | _=>exact q
theorem eO {T:TypeId}{x:Operand}{g k fo:Nat}{v:Value}{cs:List Value}(i:Nat)(b:fP X.P T=some false)(a:lk V i=cl g k cs)(h:ev σ x=.pointer (some ⟨g,k+fo,none⟩))(e:rG cs fo=some v):VO X V σ ⟨d,.load T x,ty,pos,af,gd⟩ v:=by
 intro w s
 have:=qG s i a fo v (by rw [← kK]; exact e)
 simp only [execOp,Instr.loadAt,h,Instr.sureAddr,Sem.run_bind,Sem.run_pure,Result.andThen_ok,eV b this]
theorem eF {T:TypeId}{x:Operand}{g k fo n:Nat}{cs ds:List Value}(i:Nat)(h:fP X.P T=some true)(q:iK X.P T=some n)(e:lk V i=cl g k cs)(r:ev σ x=.pointer (some ⟨g,k+fo,none⟩))(l:(cs.drop fo).take n=ds)(m:ds.length=n) :
  VO X V σ ⟨d,.load T x,ty,pos,af,gd⟩ (.agg ds.toArray):=by
 intro w s
 have:=qG s i e
 have h2:=fQ (P:=X.P) (w:=w) (a:=⟨g,k+fo,none⟩) (cs:=ds) h (by rw [m]; exact q) (fun j u b=>by
  rw [gN,Nat.add_assoc]
  refine this _ _ ?_
  rw [← l,List.getElem?_take] at b
  split at b
  ·rwa [List.getElem?_drop] at b
  ·cases b)
 simp only [execOp,Instr.loadAt,r,Instr.sureAddr,Sem.run_bind,Sem.run_pure,Result.andThen_ok,h2]
end
section
variable {α:Type}{P:Program}{f:FuncId}{args:List Value}
def qP:List HP→List HP→Prop
 | [],[]=>True
 | p::A',q::A=>(∀ I J h,Hp.le I J→Hp.le h J→p.p I h→q.p J Hp.none)∧qP A' A
 | _,_=>False
theorem aQ {K:Kind α}{e:Nat}{v:Value}{xs:List α}:∀ I J h,Hp.le I J→Hp.le h J→(ow K e v xs).p I h→(aO K v xs).p J Hp.none:=fun I J h l m p=>⟨rfl,kZ l m p⟩
theorem kt {K:Kind α}{e:Nat}{v:Value}{xs:List α}:∀ I J h,Hp.le I J→Hp.le h J→(ow K.share e v xs).p I h→(aO K v xs).p J Hp.none:=fun I J h l m p=>⟨rfl,kZ (K:=K.share) l m p⟩
theorem cV {K:Kind α}{e:Nat}{v:Value}{xs:List α}:k9 (ow K.share e v xs) K v xs:=aC (K:=K.share)
theorem St.shs {C w:World}{V:List HP}{K:Kind α}{e:Nat}{v:Value}{xs:List α}(s:St C w V)(i:Nat)(a:lk V i=ow K.share e v xs):St C w (aO K v xs::Pg.rm V i):=St.shr (K:=K.share) s i a
theorem pP:∀ (A' A:List HP),qP A' A→∀ I J h,Hp.le I J→Hp.le h J→fD A' I h→fD A J Hp.none:=by
 intro A'
 induction A' with
 | nil =>
  intro A e I J h _ _ s
  cases A with
  | nil=>rfl
  | cons q A=>exact e.elim
 | cons p A' ih =>
  intro A e I J h lI g s
  cases A with
  | nil=>exact e.elim
  | cons q A =>
   obtain ⟨h1,h2,j,a,b⟩:=s
   exact ⟨Hp.none,Hp.none,Join.none _,e.1 I J h1 lI (Hp.le_trans j.left g) a,ih A e.2 I J h2 lI (Hp.le_trans j.right g) b⟩
theorem FnOk.lends {T:Type}{A' A B:List HP}{a:T→Value×List HP}(Y:FnOk P f args (A++B) a)(Z:qP A' A)(hp:∀ x,AllC (a x).2):FnOk P f args (A'++B) (fun x=>((a x).1,A'++(a x).2)):=by
 rintro C w V ⟨sm,I,hh,g,j,lw,J⟩
 rw [List.append_assoc] at J
 obtain ⟨h1,h2,j',p,s⟩:=cS.1 J
 obtain ⟨s1,r,j2,sP,sV⟩:=cS.1 s
 obtain ⟨k,k1,k2⟩:=Join.assoc' j' j
 have st:St C w (A++B++(Co I::Co h1::V.map (Be I))):=by
  refine ⟨sm,k,h2,g,k2,lw,?_⟩
  rw [List.append_assoc]
  exact cS.2 ⟨Hp.none,h2,Join.none h2,pP A' A Z I k h1 k1.left k1.right p,cS.2 ⟨s1,r,j2,iV k1.left sP,Hp.none,r,Join.none r,⟨rfl,k1.left⟩,Hp.none,r,Join.none r,⟨rfl,k1.right⟩,uS k1.left sV⟩⟩
 refine Calls.mono' (Y C w _ st) ?_
 rintro e' w' ⟨x,rfl,E,I',i,g',l,h,F⟩
 refine ⟨x,rfl,E,?_⟩
 obtain ⟨q1,q2,jq,sR,b1,b2,jb,⟨rfl,lI⟩,c1,c2,jc,⟨rfl,G⟩,D⟩:=cS.1 F
 have M:=jb.eq_of_none
 have O:=jc.eq_of_none
 subst O; subst M
 have L:∀ b,h1 b=Option.none∨i b=Option.none:=fun b=>by
  cases hb:h1 b with
  | none=>exact .inl rfl
  | some o =>
   refine .inr ?_
   rcases l.disj b with f | f
   ·rw [G b o hb] at f; cases f
   ·exact f
 obtain ⟨m,u⟩:=Join.of_disj L
 obtain ⟨U,q⟩:=Join.of_disj (h1:=I) (h2:=m) (fun b=>by
  cases hb:I b with
  | none=>exact .inl rfl
  | some o =>
   refine .inr ((u.is_none b).2 ⟨?_,?_⟩)
   ·rcases k1.disj b with f | f
    ·rw [hb] at f; cases f
    ·exact f
   ·rcases l.disj b with f | f
    ·rw [lI b o hb] at f; cases f
    ·exact f)
 refine ⟨I,m,U,q,?_,?_⟩
 ·intro b o e
  rcases q.cases e with ⟨e,_⟩|⟨e,_⟩
  ·exact h b o (l.left b o (lI b o e))
  ·rcases u.cases e with ⟨e,_⟩|⟨e,_⟩
   ·exact h b o (l.left b o (G b o e))
   ·exact h b o (l.right b o e)
 ·rw [List.append_assoc]
  exact cS.2 ⟨h1,i,u,p,cS.2 ⟨q1,q2,jq,oZ (Bd (hp x)) sR,uT D⟩⟩
end
end Go.Pg
namespace Go.Pg
def jh (i j:Nat):Nat:=cond (Nat.blt i j) (j - 1) j
def pQ:Nat→List Nat→Bool
 | _,[]=>true
 | n,i::is=>Nat.blt i n&&is.all (fun j=>!Nat.beq i j)&&pQ n is
theorem z6:∀ (A:List HP) (i j:Nat),i≠j→lk (rm A i) (jh i j)=lk A j:=by
 intro A
 induction A with
 | nil=>intro i j _; cases i<;>rfl
 | cons p A ih =>
  intro i j a
  cases i with
  | zero =>
   cases j with
   | zero=>exact absurd rfl a
   | succ j=>rfl
  | succ i =>
   cases j with
   | zero =>
    have:jh (i+1) 0=0:=by simp [jh,Nat.blt]
    rw [this]; rfl
   | succ j =>
    have l:jh (i+1) (j+1)=jh i j+1:=by
     have g:Nat.blt (i+1) (j+1)=Nat.blt i j:=by
      cases h:Nat.blt i j with
      | true=>have:=Nat.le_of_ble_eq_true h; exact Nat.ble_eq_true_of_le (by omega)
      | false =>
       cases h2:Nat.blt (i+1) (j+1) with
       | false=>rfl
       | true =>
        have:=Nat.le_of_ble_eq_true h2
        have b:Nat.blt i j=true:=Nat.ble_eq_true_of_le (by omega)
        rw [b] at h; cases h
     unfold jh
     rw [g]
     cases h:Nat.blt i j with
     | true=>have:=Nat.le_of_ble_eq_true h; show j+1 - 1=j - 1+1; omega
     | false=>rfl
    rw [l]
    exact ih i j (fun e=>a (by rw [e]))
theorem sN {I:Hp}:∀ (n:Nat) (is:List Nat) (A:List HP) (h:Hp),is.length≤n→(∀ i∈is,i<A.length)→is.Nodup→fD A I h→∃ B,Hp.le B h∧fD (is.map (lk A)) I B:=by
 intro n
 induction n with
 | zero =>
  intro is A h J _ _ _
  have:is=[]:=List.eq_nil_of_length_eq_zero (by omega)
  subst this
  exact ⟨Hp.none,Hp.none_le _,rfl⟩
 | succ n ih =>
  intro is A h J r F s
  cases is with
  | nil=>exact ⟨Hp.none,Hp.none_le _,rfl⟩
  | cons i is =>
   obtain ⟨h1,h2,j,a,b⟩:=fG i s
   have m:=List.nodup_cons.1 F
   have M:=r i (by simp)
   have O:(rm A i).length+1=A.length:=by
    clear ih J r F m s j a b h1 h2
    induction A generalizing i with
    | nil=>cases M
    | cons p A ihA =>
     cases i with
     | zero=>rfl
     | succ i=>exact congrArg (·+1) (ihA i (by simpa using M))
   have q:∀ x∈is,x≠i:=fun x u e=>m.1 (e▸u)
   obtain ⟨B,l,s'⟩:=ih (is.map (jh i)) (rm A i) h2 (by simp at J ⊢; omega) (by
    intro x u
    obtain ⟨y,G,rfl⟩:=List.mem_map.1 u
    have U:=r y (by simp [G])
    have Y:=q y G
    unfold jh
    cases hb:Nat.blt i y with
    | true=>have:=Nat.le_of_ble_eq_true hb; show y - 1<_; omega
    | false =>
     have:¬ i<y:=fun D=>by
      have E:Nat.blt i y=true:=Nat.ble_eq_true_of_le D
      rw [E] at hb; cases hb
     show y<_
     omega) (by
    unfold List.Nodup
    rw [List.pairwise_map]
    refine List.Pairwise.imp_of_mem (fun {x y} u G hne=>?_) m.2
    have U:=q x u
    have Y:=q y G
    intro e
    unfold jh at e
    cases hb:Nat.blt i x<;>cases hc:Nat.blt i y<;>rw [hb,hc] at e
    ·exact hne e
    ·have:=Nat.le_of_ble_eq_true hc
     have L:¬ i<x:=fun D=>by
      have E:Nat.blt i x=true:=Nat.ble_eq_true_of_le D
      rw [E] at hb; cases hb
     have e:x=y - 1:=e
     omega
    ·have:=Nat.le_of_ble_eq_true hb
     have L:¬ i<y:=fun D=>by
      have E:Nat.blt i y=true:=Nat.ble_eq_true_of_le D
      rw [E] at hc; cases hc
     have e:x - 1=y:=e
     omega
    ·have:=Nat.le_of_ble_eq_true hb
     have:=Nat.le_of_ble_eq_true hc
     have e:x - 1=y - 1:=e
     omega) b
   have Z:(is.map (jh i)).map (lk (rm A i))=is.map (lk A):=by
    rw [List.map_map]
    refine List.map_congr_left fun x u=>?_
    exact z6 A i x (fun e=>q x u e.symm)
   rw [Z] at s'
   obtain ⟨g,T⟩:=Join.of_disj (h1:=h1) (h2:=B) (fun b=>by
    rcases j.disj b with f | f
    ·exact .inl f
    ·refine .inr ?_
     cases hq:B b with
     | none=>rfl
     | some o=>rw [l b o hq] at f; cases f)
   refine ⟨g,fun b o e=>?_,h1,B,T,a,s'⟩
   rcases T.cases e with ⟨e,_⟩|⟨e,_⟩
   ·exact j.left b o e
   ·exact j.right b o (l b o e)
theorem rJ:∀ (n:Nat) (is:List Nat),pQ n is=true→(∀ i∈is,i<n)∧is.Nodup:=by
 intro n is
 induction is with
 | nil=>intro _; exact ⟨fun _ h=>(by cases h),List.nodup_nil⟩
 | cons i is ih =>
  intro h
  simp only [pQ,Bool.and_eq_true,List.all_eq_true,Bool.not_eq_true'] at h
  obtain ⟨⟨h1,h2⟩,e⟩:=h
  obtain ⟨g1,b⟩:=ih e
  refine ⟨fun x a=>?_,List.nodup_cons.2 ⟨fun g=>?_,b⟩⟩
  ·rcases List.mem_cons.1 a with rfl | a
   ·exact Nat.lt_of_lt_of_le (Nat.lt_succ_self _) (Nat.le_of_ble_eq_true h1)
   ·exact g1 x a
  ·have:=h2 i g
   rw [show Nat.beq i i=true from Nat.beq_refl i] at this
   cases this
theorem xj:∀ (n:Nat) (V:List HP),n≤V.length→(tk n V).length=n:=by
 intro n
 induction n with
 | zero=>intro V _; rfl
 | succ n ih =>
  intro V h
  cases V with
  | nil=>simp at h
  | cons p V=>exact congrArg (·+1) (ih V (by simpa using h))
theorem z7:∀ (n:Nat) (V:List HP) (i:Nat),i<n→lk (tk n V) i=lk V i:=by
 intro n
 induction n with
 | zero=>intro V i h; cases h
 | succ n ih =>
  intro V i h
  cases V with
  | nil=>rfl
  | cons p V =>
   cases i with
   | zero=>rfl
   | succ i=>exact ih V i (by omega)
def yJ:Nat→List HP→Bool
 | 0,_=>true
 | _+1,[]=>false
 | n+1,_::V=>yJ n V
theorem sO:∀ (n:Nat) (V:List HP),yJ n V=true→n≤V.length:=by
 intro n
 induction n with
 | zero=>intro V _; exact Nat.zero_le _
 | succ n ih =>
  intro V h
  cases V with
  | nil=>cases h
  | cons p V=>exact Nat.succ_le_succ (ih V h)
theorem St.sel {C w:World}{V:List HP}(s:St C w V)(n:Nat)(is:List Nat)(h:pQ n is=true)(u:yJ n V=true):St C w (is.map (lk V)++dp n V):=by
 obtain ⟨h1,h2⟩:=rJ n is h
 have u:=sO n V u
 rw [← mR n V] at s
 obtain ⟨a,I,T,g,j,l,s⟩:=s
 obtain ⟨g1,D,B,U,Y⟩:=cS.1 s
 obtain ⟨q,J,M⟩:=sN is.length is (tk n V) g1 (Nat.le_refl _) (fun i r=>by rw [xj n V u]; exact h1 i r) h2 U
 have O:is.map (lk (tk n V))=is.map (lk V):=List.map_congr_left fun i r=>z7 n V i (h1 i r)
 rw [O] at M
 obtain ⟨m,F⟩:=Join.of_disj (h1:=q) (h2:=D) (fun b=>by
  rcases B.disj b with f | f
  ·refine .inl ?_
   cases hq:q b with
   | none=>rfl
   | some o=>rw [J b o hq] at f; cases f
  ·exact .inr f)
 have L:Hp.le m T:=fun b o e=>by
  rcases F.cases e with ⟨e,_⟩|⟨e,_⟩
  ·exact B.left b o (J b o e)
  ·exact B.right b o e
 obtain ⟨G,E⟩:=Join.of_disj (h1:=I) (h2:=m) (fun b=>by
  rcases j.disj b with f | f
  ·exact .inl f
  ·refine .inr ?_
   cases hq:m b with
   | none=>rfl
   | some o=>rw [L b o hq] at f; cases f)
 refine ⟨a,I,m,G,E,fun b o e=>?_,cS.2 ⟨q,D,F,M,Y⟩⟩
 rcases E.cases e with ⟨e,_⟩|⟨e,_⟩
 ·exact l b o (j.left b o e)
 ·exact l b o (j.right b o (L b o e))
section
variable {X:Cx}{V:List HP}{σ:dI}{Q:Exit→dI→World→Prop}{cd:Code}{α:Type}
theorem xk {K:Kind α}{a:Option Addr}{n c:Nat}{xs:List α}(i:Nat)(l:k9 (lk V i) K (.slice a n c) xs)(b:a.isNone=true)(h:xs=[]→TC X V σ cd Q):TC X V σ cd Q:=by
 intro w s
 obtain ⟨J,lw,A,q,m,h2,r,e⟩:=s.reads l
 refine h ?_ w s
 cases xs with
 | nil=>rfl
 | cons x xs =>
  obtain ⟨g,o,j,_⟩:=e (by simp)
  injection m with e1 _ _
  rw [e1,j] at b
  cases b
end
end Go.Pg
namespace Go.Pg
theorem SetL.flat {α:Type}{K:Kind α}(S:SpO K)(M:MkO K)(A:M.A){fo:Nat}{v:Value}{f:α→α}(h1:Nat.blt fo K.sz=true)(h2:∀ a x,S.ents a x=[])(b:∀ x,M.ents A (f x)=[])(e:∀ a x,(S.cells a x).set fo v=M.cells A (f x)):SetL K fo v f:=by
 refine ⟨Nat.lt_of_lt_of_le (Nat.lt_succ_self _) (Nat.le_of_ble_eq_true h1),fun I h x cs o=>?_⟩
 obtain ⟨a,rfl,s⟩:=S.sp I h x cs o
 rw [h2] at s
 have s:h=Hp.none:=s
 subst s
 rw [e]
 exact M.put I Hp.none A (f x) (by rw [b]; rfl)
theorem SetL.deep {α:Type}{K:Kind α}(S:SpO K)(M:MkO K)(c:S.A→α→M.A){fo:Nat}{v:Value}{f:α→α}(h1:Nat.blt fo K.sz=true)(h2:∀ a x,S.ents a x=M.ents (c a x) (f x))(b:∀ a x,(S.cells a x).set fo v=M.cells (c a x) (f x)):SetL K fo v f:=by
 refine ⟨Nat.lt_of_lt_of_le (Nat.lt_succ_self _) (Nat.le_of_ble_eq_true h1),fun I h x cs o=>?_⟩
 obtain ⟨a,rfl,s⟩:=S.sp I h x cs o
 rw [b]
 exact M.put I h (c a x) (f x) (by rw [← h2]; exact s)
end Go.Pg
namespace Go.Pg
section
variable {α:Type}
def uV (K:Kind α)(e:Nat)(v:Value)(xs:List α)(j:Nat)(cs:List Value):HP where
 p I h:=∃ g c pre i q a fr h1,v=.slice (some ⟨g,pre.length,none⟩) xs.length c∧xs.length≤c∧c≤maxLen∧a.length=(c - xs.length)*K.sz ∧
  (fr=(0,0)∨pre.length+(i++cs++q).length+a.length≤fr.1)∧i.length=j*K.sz∧Join (Hp.one g (.cells (pre++(i++cs++q)++a).toArray e fr)) h1 h ∧
  ∀ m s x' b r,Hp.le I m→Join s h1 r→K.own m s x' b→hH K m r (xs.set j x') (i++b++q)
 mono:=by
  rintro I J h l ⟨g,c,pre,i,q,a,fr,h1,p1,B,D,E,F,G,L,M⟩
  exact ⟨g,c,pre,i,q,a,fr,h1,p1,B,D,E,F,G,L,fun m s x' b r u=>M m s x' b r (Hp.le_trans l u)⟩
theorem St.focus [Inhabited α]{K:Kind α}{C w:World}{V:List HP}{e g o n c:Nat}{xs:List α}(S:SpO K)(s:St C w V)(i:Nat)(j:Int)(Y:lk V i=ow K e (.slice (some ⟨g,o,none⟩) n c) xs)(U:0≤j)(h1:j<n) :
  ∃ a,St C w (uV K e (.slice (some ⟨g,o,none⟩) n c) xs j.toNat (S.cells a (ix xs j))::(S.ents a (ix xs j)++Pg.rm V i)):=by
 obtain ⟨sm,I,Z,O,jg,l,B,h2,jS,p,st⟩:=s.mv i
 rw [Y] at p
 have p:oS K e I B (.slice (some ⟨g,o,none⟩) n c) xs:=p
 rcases p with ⟨A,r,rfl,_⟩|⟨E,c',pre,G,b,fr,hb,r,q2,q3,q4,q5,jo,ol⟩
 ·injection r with _ r _
  omega
 injection r with e1 e2 e3
 injection e1 with e1
 injection e1 with e1 e4
 subst e1; subst e3; subst e4; subst e2
 obtain ⟨a1,c1,L,g1,M,F,h,jn,ox,q⟩:=kY ol (jL U h1)
 obtain ⟨a,rfl,D⟩:=S.sp _ _ _ _ ox
 obtain ⟨m,m1,m2⟩:=Join.assoc' jn.symm jo
 obtain ⟨k,k1,k2⟩:=Join.assoc m2 jS
 exact ⟨a,sm,I,Z,O,jg,l,m,k,k2,⟨g,_,pre,a1,L,b,fr,M,rfl,q2,q3,q4,by rw [← F]; exact q5,h,by rw [← F]; exact m1,fun J T x' u E l' jj oo=>q J T x' u E l' jj oo⟩,cS.2 ⟨g1,h2,k1,D,st⟩⟩
theorem St.unfocus {K:Kind α}{C w:World}{E V:List HP}{e j:Nat}{v:Value}{xs:List α}{cs:List Value}(x':α)(s:St C w (uV K e v xs j cs::(E++V)))(f:∀ I h,fD E I h→K.own I h x' cs):St C w (ow K e v (xs.set j x')::V):=by
 obtain ⟨sm,I,D,u,J,l,h1,h2,G,⟨g,c,pre,q,r,a,fr,hb,rfl,U,Y,Z,q5,q6,L,b⟩,st⟩:=s
 obtain ⟨i,B,F,sE,sV⟩:=cS.1 st
 obtain ⟨k,k1,M⟩:=Join.assoc' F G
 obtain ⟨m,O,T⟩:=Join.assoc L k1
 refine ⟨sm,I,D,u,J,l,k,B,M,.inr ⟨g,c,pre,q++cs++r,a,fr,m,by rw [List.length_set],by rw [List.length_set]; exact U,Y,by rw [List.length_set]; exact Z,q5,T,b I i x' cs m (Hp.le_refl I) O.symm (f I i sE)⟩,sV⟩
end
section
variable {X:Cx}{V:List HP}{σ:dI}{Q:Exit→dI→World→Prop}{ops:Array Oper}{rest:List Oper}{cd:Code}
variable {d:Option Nat}{ty:TypeId}{pos:String}{af:Array Edge}{gd:Option (Nat×Bool)}{α:Type}
theorem mB [Inhabited α]{K:Kind α}{e g o n c:Nat}{xs:List α}(S:SpO K)(i:Nat)(j:Int)(l:lk V i=ow K e (.slice (some ⟨g,o,none⟩) n c) xs)(b:0≤j)(h1:j<n)
  (h:∀ a,TL X ops (uV K e (.slice (some ⟨g,o,none⟩) n c) xs j.toNat (S.cells a (ix xs j))::(S.ents a (ix xs j)++Pg.rm V i)) σ rest Q):TL X ops V σ rest Q:=by
 intro w s
 obtain ⟨a,s'⟩:=s.focus S i j l b h1
 exact h a w s'
theorem sQ {K:Kind α}{C w:World}{e g o n c j:Nat}{xs:List α}{cs:List Value}(s:St C w V)(i:Nat)(q:lk V i=uV K e (.slice (some ⟨g,o,none⟩) n c) xs j cs):∀ k u,cs[k]?=some u→w.cell? ⟨g,o+j*K.sz+k,none⟩=some u:=by
 obtain ⟨I,L,p,lI,E,_⟩:=s.look i
 rw [q] at p
 obtain ⟨G,F,pre,h,l,a,fr,J,B,M,O,T,U,Y,D,_⟩:=p
 injection B with e1 e2 e3
 injection e1 with e1
 injection e1 with e1 e4
 subst e1; subst e4
 have b:w.heap[g]?=some (.cells (pre++(h++cs++l)++a).toArray e fr):=E g _ (D.left g _ (by simp [Hp.one]))
 intro k u m
 have r:=(List.getElem?_eq_some_iff.1 m).1
 have:w.cell? ⟨g,pre.length+j*K.sz+k,none⟩=(pre++(h++cs++l)++a)[pre.length+j*K.sz+k]?:=by simp [World.cell?,b]
 rw [this,List.append_assoc,List.getElem?_append_right (by omega),show pre.length+j*K.sz+k - pre.length=j*K.sz+k by omega,List.append_assoc,List.append_assoc,List.getElem?_append_right (by omega),show j*K.sz+k - h.length=k by omega,List.getElem?_append_left r]
 exact m
theorem o8 {K:Kind α}{T:TypeId}{x:Operand}{e g o n c fo j:Nat}{xs:List α}{v:Value}{cs:List Value}(i:Nat)(b:fP X.P T=some false)(a:lk V i=uV K e (.slice (some ⟨g,o,none⟩) n c) xs j cs)(l:ev σ x=.pointer (some ⟨g,o+j*K.sz+fo,none⟩))(h:rG cs fo=some v):VO X V σ ⟨d,.load T x,ty,pos,af,gd⟩ v:=by
 intro w s
 have:=sQ s i a fo v (by rw [← kK]; exact h)
 simp only [execOp,Instr.loadAt,l,Instr.sureAddr,Sem.run_bind,Sem.run_pure,Result.andThen_ok,eV b this]
end
end Go.Pg
