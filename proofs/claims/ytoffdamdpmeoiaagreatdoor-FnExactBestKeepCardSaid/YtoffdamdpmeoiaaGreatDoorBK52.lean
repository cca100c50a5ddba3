import Derived.Test.YtoffdamdpmeoiaaGreatDoorBG29
import Derived.Test.YtoffdamdpmeoiaaGreatDoorKC0
import Derived.Laws.Bits64b
import Derived.Lib.TrailingZeros
set_option linter.unusedVariables false
set_option linter.unusedSimpArgs false
namespace Go.Proofs.YtoffdamdpmeoiaaGreatDoor
open Go Go.Pg
theorem C2 {g:Graph}(h:SmGraph g):GC g:=by
 have b:(1048576:Nat)<cS:=by decide
 have a:=h.Nodes
 exact ⟨Nat.lt_of_le_of_lt a.1 b,Nat.lt_of_le_of_lt h.Outs b,fun n m=>Nat.lt_of_le_of_lt (a.2 n m).Args b,fun n m=>Nat.lt_of_le_of_lt (a.2 n m).Dims b,fun n m=>Nat.lt_of_le_of_lt (a.2 n m).Ints b,fun n m=>Nat.lt_of_le_of_lt (a.2 n m).Data b,fun n m=>(a.2 n m).Form⟩
theorem C3 {g:Graph}(h:¬ gI (ml g) 1048576<0):SmGraph g:=rk (by unfold gI at h; split at h<;>omega)
def GA (g:Graph):Prop:=g.Nodes.length≤200∧∀ k:Nat,k<g.Nodes.length→(ix g.Nodes (k:Int)).Args.length≤6∧∀ a∈(ix g.Nodes (k:Int)).Args,0≤a∧a<(k:Int)
theorem C4 {g:Graph}{i:List Tensor}(e:g.Nodes.length≤200)(h:Cf g g.Nodes.length i):GA g:=by
 refine ⟨e,fun k hk=>?_⟩
 obtain ⟨a,b,_⟩:=h k hk
 exact ⟨mj a,b⟩
def Inc (p:List Int):Prop:=∀ i j:Nat,i<j→j<p.length→ix p (i:Int)<ix p (j:Int)
theorem Inc.tail {x:Int}{p:List Int}(h:Inc (x::p)):Inc p:=by
 intro i j a b
 have:=h (i+1) (j+1) (by omega) (by simpa using b)
 simpa [ix] using this
theorem Inc.head {x:Int}{p:List Int}(h:Inc (x::p)):∀ y∈p,x<y:=by
 intro y a
 obtain ⟨k,hk,rfl⟩:=List.getElem_of_mem a
 have:=h 0 (k+1) (by omega) (by simpa using hk)
 simpa [ix,hk] using this
def i' (p:List Int)(k:Int):Int:=((p.filter fun x=>decide (x<k)).length:Int)
theorem kJ {p:List Int}(h:p.length≤1048576)(k:Int):Z0a p k=some (i' p k):=by
 unfold Z0a
 rw [eV (f:=fun s:Int×Int=>Z0a_L1 p k s.1 s.2) (r:=i' p k) (fun i=>(i' (p.take i) k,(i:Int))) p.length (fun i a=>by
  have e:0≤i' (p.take i) k∧i' (p.take i) k≤1048576:=by
   unfold i'
   have:=List.length_filter_le (fun x=>decide (x<k)) (p.take i)
   rw [List.length_take] at this
   omega
  have b:i' (p.take (i+1)) k=if ix p (i:Int)<k then i' (p.take i) k+1 else i' (p.take i) k:=by
   unfold i'
   rw [List.take_succ_eq_append_getElem a,List.filter_append,List.length_append,← cC a]
   by_cases q:ix p (i:Int)<k<;>simp [q]
  simp only [Z0a_L1,Z0a_J2]
  rw [if_pos (by simp; omega),if_pos (by omega),cA (by unfold cS; omega),b]
  by_cases q:ix p (i:Int)<k
  ·rw [if_pos (decide_eq_true q),if_pos q,aX (by omega) (by omega)]
  ·rw [if_neg (by simpa using q),if_neg q]) (by
  simp only [Z0a_L1]
  rw [if_neg (by simp),List.take_length]) (s:=(0,0)) rfl]
 rfl
theorem xI {p:List Int}(b:p.length≤1048576)(x:Int):Z0v p x=some (decide (x∈p)):=by
 unfold Z0v
 have:=eP p (fun s:Int=>Z0v_L1 p x s) (fun i=>i) (fun y=>!(y==x)) (.inl true) (.inr ())
  (fun k hk=>by
   simp only [Z0v_L1]
   rw [if_pos (by simp; omega),if_pos (by omega),cA (by unfold cS; omega)]
   cases (ix p (k:Int)==x)<;>rfl)
  (by simp only [Z0v_L1]; rw [if_neg (by simp)])
 rw [this]
 by_cases c:x∈p
 ·have:(p.all fun y=>!(y==x))=false:=by
   rw [List.all_eq_false]
   exact ⟨x,c,by simp⟩
  rw [this]; simp [c]
 ·have:(p.all fun y=>!(y==x))=true:=by
   rw [List.all_eq_true]
   intro y a
   have:y≠x:=fun z=>c (z▸a)
   simpa using this
  rw [this]; simp [c,Z0v_J1]
theorem nJ:∀ {p:List Int},Inc p→∀ k:Int,i' p (k+1)=i' p k+if k∈p then 1 else 0
 | [],_,k=>by simp [i']
 | x::p,h,k=>by
  have a:=nJ h.tail k
  unfold i' at a ⊢
  by_cases e:x=k
  ·subst e
   have i:x ∉ p:=fun z=>by have:=h.head x z; omega
   rw [if_neg i] at a
   simp only [List.filter_cons,List.mem_cons,true_or,if_true]
   rw [if_pos (by simp; omega),if_neg (by simp)]
   simp only [List.length_cons]
   omega
  ·have b:k∈x::p↔k∈p:=by
    rw [List.mem_cons]; exact ⟨fun z=>z.resolve_left (fun w=>e w.symm),.inr⟩
   simp only [List.filter_cons,b]
   by_cases q:x<k
   ·rw [if_pos (by simp; omega),if_pos (by simpa using q)]
    simp only [List.length_cons]
    omega
   ·rw [if_neg (by simp; omega),if_neg (by simpa using q)]
    exact a
theorem my {p:List Int}(L:p.length≤1048576)(D:Inc p)(B:∀ x∈p,0≤x){n:Nat}(M:n≤200){q:Int}(E:∀ k:Nat,k<n→Z1g (k:Int) q=some (decide ((k:Int)∈p))):∃ s,Z0h (n:Int) q=some s∧s.length=n∧∀ k:Nat,k<n→ix s (k:Int)=i' p (k:Int):=by
 unfold Z0h
 rw [if_pos (by omega)]
 obtain ⟨s,F,G⟩:=gX (f:=fun s:List Int×Int×Int=>Z0h_L1 (n:Int) q s.1 s.2.1 s.2.2)
  (fun i z=>z.2.2=(i:Int)∧z.2.1=i' p (i:Int)∧z.1.length=n∧∀ k:Nat,k<i→ix z.1 (k:Int)=i' p (k:Int)) n (Post:=fun s=>s.length=n∧∀ k:Nat,k<n→ix s (k:Int)=i' p (k:Int))
  (fun i z J r=>by
   obtain ⟨x,a,j⟩:=z
   obtain ⟨rfl,h1,h2,b⟩:=r
   dsimp only at h1 h2 b
   subst h1
   have I:0≤i' p (i:Int)∧i' p (i:Int)≤1048576:=by
    unfold i'
    have:=List.length_filter_le (fun x=>decide (x<(i:Int))) p
    omega
   have h:=nJ D (i:Int)
   have l:∀ k:Nat,k<i+1→ix (x.set i (i' p (i:Int))) (k:Int)=i' p (k:Int):=by
    intro k hk
    by_cases e:k=i
    ·subst e; rw [kQ (by omega)]
    ·rw [kI (fun z=>e z.symm)]; exact b k (by omega)
   simp only [Z0h_L1,Z0h_J2]
   rw [if_pos (by simp; omega),if_pos (by simp; omega),E i (by omega)]
   simp only [Option.bind_some,Int.toNat_natCast]
   rw [cA (by unfold cS; omega),aX (n:=i' p (i:Int)+1) (by omega) (by omega)]
   by_cases q:(i:Int)∈p
   ·rw [if_pos (decide_eq_true q)]
    rw [if_pos q] at h
    exact ⟨_,rfl,rfl,by rw [← h]; rfl,by simpa using h2,l⟩
   ·rw [if_neg (by simpa using q)]
    rw [if_neg q] at h
    have u:i' p ((i+1:Nat):Int)=i' p (i:Int):=by rw [← Int.add_zero (i' p (i:Int)),← h]; rfl
    exact ⟨_,rfl,rfl,u.symm,by simpa using h2,l⟩)
  (fun z r=>by
   obtain ⟨x,a,j⟩:=z
   obtain ⟨rfl,h1,h2,b⟩:=r
   simp only [Z0h_L1]
   rw [if_neg (by simp)]
   exact ⟨x,rfl,h2,b⟩)
  (s:=(List.replicate (n:Int).toNat 0,0,0)) ⟨rfl,by
   have:(p.filter fun x=>decide (x<(0:Int)))=[]:=by
    rw [List.filter_eq_nil_iff]
    intro x l
    have:=B x l
    simp; omega
   show (0:Int)=i' p 0
   unfold i'; rw [this]; rfl,by simp,fun k hk=>absurd hk (Nat.not_lt_zero _)⟩
 rw [F]
 exact ⟨s,rfl,G⟩
def xJ (g:Graph)(p:List Int)(k:Nat):Bool:=!(((decide (ix p (k:Int)<0))||(decide (ix p (k:Int)≥(g.Nodes.length:Int))))||((decide ((k:Int)>0))&&(decide (ix p (aI ((k:Int) - 1))≥ix p (k:Int)))))
theorem DH {g:Graph}{p:List Int}(a:p.length≤1048576):aQ (fun s:Int=>Ze_L1 g p s) 0=some (if (List.range p.length).all (xJ g p) then .inr () else .inl false):=by
 refine gR p.length (fun s:Int=>Ze_L1 g p s) (fun i=>i) (xJ g p) (.inl false) (.inr ()) (fun k hk=>?_) ?_
 ·simp only [Ze_L1]
  rw [if_pos (by simp; omega),if_pos (by omega),if_pos (fun _ h=>by simp at h; rw [aX (by omega) (by omega)]; omega),cA (by unfold cS; omega)]
  unfold xJ
  cases (((decide (ix p (k:Int)<0))||(decide (ix p (k:Int)≥(g.Nodes.length:Int))))||((decide ((k:Int)>0))&&(decide (ix p (aI ((k:Int) - 1))≥ix p (k:Int)))))<;>rfl
 ·simp only [Ze_L1]
  rw [if_neg (by simp)]
def lY (g:Graph)(p:List Int)(k a:Int):Bool:=((i' p a != i' p k)&&!(decide (a∈p)))&&!(((ix g.Nodes a).Op==1)||((ix g.Nodes a).Op==2))
theorem zW {α:Type}[Inhabited α](b:Bool)(x:α):bP b (some x)=some (cond b x default):=by cases b<;>rfl
theorem DI {g:Graph}(l:GA g){p:List Int}(b:p.length≤1048576){k:Nat}(hk:k<g.Nodes.length):aQ (fun s:Int=>Ze_L3 g p (k:Int) s) 0=some (if (ix g.Nodes (k:Int)).Args.all (fun a=>!lY g p (k:Int) a) then .inr () else .inl false):=by
 obtain ⟨h,e⟩:=l.2 k hk
 refine eP (ix g.Nodes (k:Int)).Args (fun s:Int=>Ze_L3 g p (k:Int) s) (fun i=>i) (fun a=>!lY g p (k:Int) a) (.inl false) (.inr ()) (fun j q=>?_) ?_
 ·have r:=e _ (bI q)
  simp only [Ze_L3]
  rw [if_pos (by omega),if_pos (by simp; omega),if_pos (by omega),kJ b,kJ b,xI b]
  simp only [Option.bind_some,zW]
  rw [if_pos (fun _=>by omega)]
  unfold Z26 lY
  simp only [zW,Option.bind_some]
  rw [cA (by unfold cS; omega)]
  cases (i' p (ix (ix g.Nodes (k:Int)).Args (j:Int)) != i' p (k:Int))<;>cases (decide (ix (ix g.Nodes (k:Int)).Args (j:Int)∈p))<;>cases (((ix g.Nodes (ix (ix g.Nodes (k:Int)).Args (j:Int))).Op==1)||((ix g.Nodes (ix (ix g.Nodes (k:Int)).Args (j:Int))).Op==2))<;>rfl
 ·simp only [Ze_L3]
  rw [if_pos (by omega),if_neg (by simp)]
theorem DJ {g:Graph}(e:GA g){p s:List Int}(D:p.length≤1048576)(F:Inc p)(h1:s.length=g.Nodes.length)(h2:∀ k:Nat,k<g.Nodes.length→ix s (k:Int)=i' p (k:Int)){k:Nat}(hk:k<g.Nodes.length){q:Int}(B:∀ k:Nat,k<g.Nodes.length→Z1g (k:Int) q=some (decide ((k:Int)∈p))):aQ (fun z:Int=>Z07_L2 g q s (k:Int) z) 0=some (if (ix g.Nodes (k:Int)).Args.all (fun a=>!lY g p (k:Int) a) then .inr () else .inl false):=by
 obtain ⟨l,h⟩:=e.2 k hk
 have E:=e.1
 refine eP (ix g.Nodes (k:Int)).Args (fun z:Int=>Z07_L2 g q s (k:Int) z) (fun i=>i) (fun a=>!lY g p (k:Int) a) (.inl false) (.inr ()) (fun j r=>?_) ?_
 ·have u:=h _ (bI r)
  obtain ⟨c,b⟩:∃ c:Nat,ix (ix g.Nodes (k:Int)).Args (j:Int)=(c:Int):=⟨_,(Int.toNat_of_nonneg u.1).symm⟩
  simp only [Z07_L2]
  rw [if_pos (by simp; omega),if_pos (by omega),b,if_pos (by omega),if_pos (by omega),h2 c (by omega),h2 k hk,B c (by omega)]
  simp only [Option.bind_some,zW]
  rw [if_pos (fun _=>by omega)]
  unfold Z27 lY
  simp only [zW,Option.bind_some]
  rw [cA (by unfold cS; omega)]
  cases (i' p (c:Int) != i' p (k:Int))<;>cases (decide ((c:Int)∈p))<;>cases (((ix g.Nodes (c:Int)).Op==1)||((ix g.Nodes (c:Int)).Op==2))<;>rfl
 ·simp only [Z07_L2]
  rw [if_neg (by simp)]
theorem zB {g:Graph}(b:GA g){p:List Int}(e:p.length≤1048576):Ze g p=some ((List.range p.length).all (xJ g p)&&(List.range g.Nodes.length).all fun k=>(ix g.Nodes (k:Int)).Args.all (fun a=>!lY g p (k:Int) a)):=by
 have h:=b.1
 unfold Ze
 rw [DH e]
 by_cases c:(List.range p.length).all (xJ g p)=true
 ·rw [if_pos c,c]
  simp only [Option.bind_some,Ze_J1,Bool.true_and]
  rw [gR g.Nodes.length (fun s:Int=>Ze_L2 g p s) (fun i=>i) (fun k=>(ix g.Nodes (k:Int)).Args.all (fun a=>!lY g p (k:Int) a)) (.inl false) (.inr ()) (fun k hk=>by
   simp only [Ze_L2]
   rw [if_pos (by simp; omega),DI b e hk]
   by_cases q:(ix g.Nodes (k:Int)).Args.all (fun a=>!lY g p (k:Int) a)=true
   ·rw [if_pos q,if_pos q]
    simp only [Option.bind_some,Ze_J3]
    rw [cA (by unfold cS; omega)]
   ·rw [if_neg q,if_neg q]
    rfl) (by
   simp only [Ze_L2]
   rw [if_neg (by simp)])]
  by_cases q:((List.range g.Nodes.length).all fun k=>(ix g.Nodes (k:Int)).Args.all (fun a=>!lY g p (k:Int) a))=true
  ·rw [if_pos q,q]; rfl
  ·rw [if_neg q]
   have:((List.range g.Nodes.length).all fun k=>(ix g.Nodes (k:Int)).Args.all (fun a=>!lY g p (k:Int) a))=false:=by simpa using q
   rw [this]; rfl
 ·rw [if_neg c]
  have:(List.range p.length).all (xJ g p)=false:=by simpa using c
  rw [this]; rfl
theorem rr (p:List Int)(k:Int):0≤i' p k∧i' p k≤(p.length:Int):=by
 unfold i'
 have:=List.length_filter_le (fun x=>decide (x<k)) p
 omega
theorem rt {p:List Int}(b:Inc p)(a:∀ x∈p,0≤x):∀ k:Nat,i' p (k:Int)≤(k:Int)
 | 0=>by
  unfold i'
  rw [List.filter_eq_nil_iff.2 (fun x h=>by have:=a x h; simp; omega)]
  simp
 | k+1=>by
  have h1:=rt b a k
  have h2:=nJ b (k:Int)
  have e:((k+1:Nat):Int)=(k:Int)+1:=by omega
  rw [e,h2]
  split<;>omega
theorem wS {p:List Int}{n:Nat}(h:∀ x∈p,x<(n:Int)):i' p (n:Int)=(p.length:Int):=by
 unfold i'
 rw [List.filter_eq_self.2 (fun x a=>by have:=h x a; simpa using this)]
def gE (p:List Int)(k:Nat):Nat:=(i' p (k:Int)).toNat
theorem nK (p:List Int)(k:Nat):((gE p k:Nat):Int)=i' p (k:Int):=Int.toNat_of_nonneg (rr p _).1
noncomputable def zz (g:Graph)(a:List (List Int))(k:Nat):Int:=if ((ix g.Nodes (k:Int)).Op==1||(ix g.Nodes (k:Int)).Op==2)=true then 0 else pr (ix a (k:Int))
def cK (z:Nat→Int)(kp:Nat→Bool)(k:Nat):Int:=if kp k=true then z k else 0
def cW (z:Nat→Int)(kp:Nat→Bool)(st:Nat→Nat)(last:Nat)(k:Nat):Int:=z k+if kp k=true then 0 else if st k=last then 0 else z k
def cR (z:Nat→Int)(kp:Nat→Bool)(st:Nat→Nat)(s k:Nat):Int:=if st k=s then (if kp k=true then 0 else z k) else 0
theorem Ch {z:Nat→Int}{kp:Nat→Bool}{st:Nat→Nat}{last:Nat}{k:Nat}(h:0≤z k∧z k≤4096)(s:Nat):(0≤cK z kp k∧cK z kp k≤4096)∧(0≤cW z kp st last k∧cW z kp st last k≤8192)∧(0≤cR z kp st s k∧cR z kp st s k≤4096):=by
 unfold cK cW cR
 refine ⟨?_,?_,?_⟩
 ·split<;>omega
 ·split<;>(try split)<;>omega
 ·split<;>(try split)<;>omega
theorem wT {z:Nat→Int}{kp:Nat→Bool}{st:Nat→Nat}{n q s:Nat}(h:∀ k,k<n→st k≤q)(a:q<s):su (cR z kp st s) n=0 :=
 mU fun k hk=>by unfold cR; rw [if_neg (by have:=h k hk; omega)]
theorem wU {z:Nat→Int}{kp:Nat→Bool}{st:Nat→Nat}{n q m:Nat}(h:∀ k,k<n→st k≤q)(a:q≤m):mx (fun s=>su (cR z kp st s) n) (m+1)=mx (fun s=>su (cR z kp st s) n) (q+1):=by
 have:=sx (f:=fun s=>su (cR z kp st s) n) (q:=q+1) (m - q) fun s b=>wT h (by omega)
 rw [← this]; congr 1; omega
theorem Ci {z:Nat→Int}{kp:Nat→Bool}{st:Nat→Nat}{last n m:Nat}(a:∀ k,k<n→0≤z k∧z k≤4096)(e:m≤n)(h:n≤200)(s:Nat):(0≤su (cK z kp) m∧su (cK z kp) m≤819200)∧(0≤su (cW z kp st last) m∧su (cW z kp st last) m≤1638400)∧(0≤su (cR z kp st s) m∧su (cR z kp st s) m≤819200):=by
 have h1:=qa (f:=cK z kp) (n:=m) (B:=4096) fun k hk=>(Ch (kp:=kp) (st:=st) (last:=last) (a k (by omega)) s).1
 have h2:=qa (f:=cW z kp st last) (n:=m) (B:=8192) fun k hk=>(Ch (kp:=kp) (st:=st) (last:=last) (a k (by omega)) s).2.1
 have b:=qa (f:=cR z kp st s) (n:=m) (B:=4096) fun k hk=>(Ch (kp:=kp) (st:=st) (last:=last) (a k (by omega)) s).2.2
 omega
def pt (st:Nat→Nat)(f:Nat→Int)(s k:Nat):Int:=if st k=s then f k else 0
theorem xK {st:Nat→Nat}{f:Nat→Int}{n:Nat}{B:Int}(a:∀ k,k<n→0≤f k∧f k≤B){m:Nat}(h:m≤n)(q:Nat):0≤su (fun s=>su (pt st f s) m) q∧su (fun s=>su (pt st f s) m) q≤B*(m:Int):=by
 have b:∀ q:Nat,∀ m:Nat,su (fun s=>su (pt st f s) m) q=su (fun k=>if st k<q then f k else 0) m:=by
  intro q m
  induction m with
  | zero=>exact mU fun _ _=>rfl
  | succ m ih =>
   have e:su (fun s=>su (pt st f s) (m+1)) q=su (fun s=>su (pt st f s) m+pt st f s m) q:=q8 fun _ _=>rfl
   rw [e,rp,ih]
   simp only [su]
   congr 1
   exact rq (f m) (st m) q
 rw [b]
 exact qa fun k hk=>by
  have:=a k (by omega)
  by_cases c:st k<q
  ·rw [if_pos c]; omega
  ·rw [if_neg c]; omega
theorem p9 {f:Nat→Int}:∀ {n m:Nat},(∀ k,k<n→0≤f k)→m≤n→0≤su f m∧su f m≤su f n
 | 0,m,h,hm=>by
  have:m=0:=by omega
  subst this; exact ⟨Int.le_refl _,Int.le_refl _⟩
 | n+1,m,h,hm=>by
  by_cases e:m=n+1
  ·subst e
   have:=p9 (n:=n) (m:=n) (fun k hk=>h k (by omega)) (Nat.le_refl _)
   have:=h n (by omega)
   simp only [su]; omega
  ·have:=p9 (n:=n) (m:=m) (fun k hk=>h k (by omega)) (by omega)
   have:=h n (by omega)
   simp only [su]; omega
def gZ (st:Nat→Nat)(f:Nat→Int)(n s k:Nat):Int:=su (fun x=>su (pt st f x) n) s+su (pt st f s) k
theorem qd {st:Nat→Nat}{f:Nat→Int}{n:Nat}{B:Int}(a:∀ k,k<n→0≤f k∧f k≤B){k:Nat}(hk:k≤n)(s:Nat):0≤gZ st f n s k∧gZ st f n s k≤B*(n:Int):=by
 have h1:=xK (st:=st) a (Nat.le_refl n) s
 have h2:=xK (st:=st) a (Nat.le_refl n) (s+1)
 have e:=p9 (f:=pt st f s) (n:=n) (m:=k) (fun j b=>by unfold pt; have:=a j b; split<;>omega) hk
 unfold gZ
 simp only [su] at h2
 omega
theorem nL (st:Nat→Nat)(f:Nat→Int)(n s:Nat):gZ st f n s n=gZ st f n (s+1) 0:=by
 unfold gZ
 simp only [su]; omega
theorem oi {st:Nat→Nat}{f:Nat→Int}{n q:Nat}(h:∀ k,k<n→st k<q):gZ st f n q 0=su f n:=by
 unfold gZ
 simp only [su]
 rw [Int.add_zero]
 exact sw st f q h
def gT (p:List Int)(k:Nat):Bool:=decide ((k:Int)∈p)
theorem qe {g:Graph}{a:List (List Int)}{k:Nat}(h:eL (ix a (k:Int))):0≤zz g a k∧zz g a k≤4096:=by
 have h1:=fP h.2.1
 have h2:=h.2.2
 unfold zz
 split<;>omega
theorem ru (a b:Nat):(((a:Nat):Int) != ((b:Nat):Int))=!(decide (a=b)):=by
 by_cases h:a=b
 ·subst h; simp
 ·have:((a:Nat):Int)≠((b:Nat):Int):=by omega
  simp [h]; omega
theorem wV {g:Graph}{b:List (List Int)}{p:List Int}(q:p.length≤1048576)(r:b.length=g.Nodes.length){k:Nat}(hk:k<g.Nodes.length)(F:g.Nodes.length≤200)(i:eL (ix b (k:Int)))(last s:Nat){K W S:Int}(u:0≤K∧K≤1000000)(D:0≤W∧W≤2000000)(B:0≤S∧S≤1000000) :
  Zc_L2 g b p (last:Int) (s:Int) K W S (k:Int)=some (.inl (K+pt (gE p) (cK (zz g b) (gT p)) s k,W+pt (gE p) (cW (zz g b) (gT p) (gE p) last) s k,S+cR (zz g b) (gT p) (gE p) s k,((k+1:Nat):Int))):=by
 have E:=qe (g:=g) i
 simp only [Zc_L2,Zc_J6]
 rw [if_pos (by simp; omega),kJ q,aP,← nK,if_pos (fun _=>by omega),cA (by unfold cS; omega),ru]
 by_cases a:gE p k=s
 ·rw [decide_eq_true a]
  unfold Z26 pt cK cW cR
  rw [if_pos a,if_pos a,if_pos a]
  simp only [Bool.not_true,Bool.not_false,BZ,aP,Bool.false_or]
  by_cases lf:((ix g.Nodes (k:Int)).Op==1||(ix g.Nodes (k:Int)).Op==2)=true
  ·have j:zz g b k=0:=by unfold zz; rw [if_pos lf]
   rw [if_pos lf,j]
   simp
  ·have j:pr (ix b (k:Int))=zz g b k:=by unfold zz; rw [if_neg lf]
   rw [if_neg lf,if_pos (by omega),jz (by have:=i.1; unfold cS; omega),if_pos i.2,aP,xI q,aP,j]
   show (if gT p k=true then _ else _)=_
   by_cases h:gT p k=true
   ·rw [if_pos h,if_pos h,if_pos h,if_pos h,aX (by omega) (by omega),aX (by omega) (by omega)]
    simp
   ·rw [if_neg h,if_neg h,if_neg h,if_neg h,ru]
    by_cases l:gE p k=last
    ·rw [if_pos l,decide_eq_true (by omega:s=last),if_neg (by simp),aX (by omega) (by omega),aX (by omega) (by omega)]
     simp
    ·rw [if_neg l,decide_eq_false (by omega:¬ s=last),if_pos (by simp),aX (n:=W+zz g b k) (by omega) (by omega),aX (by omega) (by omega),aX (by omega) (by omega)]
     simp [Int.add_assoc]
 ·rw [decide_eq_false a]
  unfold pt cR
  rw [if_neg a,if_neg a,if_neg a]
  have e:bP (!!false) (Z26 (ix g.Nodes (k:Int)))=some false:=rfl
  rw [e,aP,if_pos (by simp)]
  simp
theorem vj {g:Graph}{a:List (List Int)}{p:List Int}(D:p.length≤1048576)(j:a.length=g.Nodes.length)(i:g.Nodes.length≤200)(e:∀ k:Nat,k<g.Nodes.length→eL (ix a (k:Int))){last:Nat}(b:i' p (aI ((g.Nodes.length:Int) - 1))=(last:Int)) :
  Zc g a p=some (su (cK (zz g a) (gT p)) g.Nodes.length+mx (fun s=>su (cR (zz g a) (gT p) (gE p) s) g.Nodes.length) (p.length+1),su (cW (zz g a) (gT p) (gE p) last) g.Nodes.length):=by
 have l:∀ k,k<g.Nodes.length→0≤zz g a k∧zz g a k≤4096:=fun k hk=>qe (e k hk)
 have h:∀ k,k<g.Nodes.length→gE p k<p.length+1:=fun k _=>by have:=(rr p (k:Int)).2; have:=nK p k; omega
 have u:=fun k (hk:k<g.Nodes.length) s=>Ch (kp:=gT p) (st:=gE p) (last:=last) (l k hk) s
 have I:=fun k (hk:k≤g.Nodes.length) s=>qd (st:=gE p) (f:=cK (zz g a) (gT p)) (B:=4096) (fun k hk=>(u k hk 0).1) hk s
 have J:=fun k (hk:k≤g.Nodes.length) s=>qd (st:=gE p) (f:=cW (zz g a) (gT p) (gE p) last) (B:=8192) (fun k hk=>(u k hk 0).2.1) hk s
 have q:=fun k (hk:k≤g.Nodes.length) s=>(Ci (kp:=gT p) (st:=gE p) (last:=last) l hk i s).2.2
 unfold Zc
 rw [kJ D,aP,b]
 rw [eV (f:=fun s:Int×Int×Int×Int=>Zc_L1 g a p (last:Int) s.1 s.2.1 s.2.2.1 s.2.2.2) (s:=(0,0,0,0))
  (r:=(gZ (gE p) (cK (zz g a) (gT p)) g.Nodes.length (p.length+1) 0,gZ (gE p) (cW (zz g a) (gT p) (gE p) last) g.Nodes.length (p.length+1) 0,mx (fun s=>su (cR (zz g a) (gT p) (gE p) s) g.Nodes.length) (p.length+1)))
  (fun s=>(gZ (gE p) (cK (zz g a) (gT p)) g.Nodes.length s 0,gZ (gE p) (cW (zz g a) (gT p) (gE p) last) g.Nodes.length s 0,mx (fun s=>su (cR (zz g a) (gT p) (gE p) s) g.Nodes.length) s,(s:Int))) (p.length+1)
  (fun s L=>by
   simp only [Zc_L1]
   rw [if_pos (by simp; omega),eV (f:=fun z:Int×Int×Int×Int=>Zc_L2 g a p (last:Int) (s:Int) z.1 z.2.1 z.2.2.1 z.2.2.2) (s:=(gZ (gE p) (cK (zz g a) (gT p)) g.Nodes.length s 0,gZ (gE p) (cW (zz g a) (gT p) (gE p) last) g.Nodes.length s 0,0,0))
    (r:=(gZ (gE p) (cK (zz g a) (gT p)) g.Nodes.length s g.Nodes.length,gZ (gE p) (cW (zz g a) (gT p) (gE p) last) g.Nodes.length s g.Nodes.length,su (cR (zz g a) (gT p) (gE p) s) g.Nodes.length))
    (fun k=>(gZ (gE p) (cK (zz g a) (gT p)) g.Nodes.length s k,gZ (gE p) (cW (zz g a) (gT p) (gE p) last) g.Nodes.length s k,su (cR (zz g a) (gT p) (gE p) s) k,(k:Int))) g.Nodes.length
    (fun k hk=>by
     have E:=I k (by omega) s
     have F:=J k (by omega) s
     have G:=q k (by omega) s
     dsimp only
     rw [wV D j hk i (e k hk) last s (by omega) (by omega) (by omega)]
     unfold gZ
     simp only [su,Int.add_assoc])
    (by simp only [Zc_L2]; rw [if_neg (by simp)]) rfl,aP]
   simp only [Zc_J7,Zc_J8]
   rw [cA (by unfold cS; omega),nL,nL]
   simp only [mx]
   by_cases c:su (cR (zz g a) (gT p) (gE p) s) g.Nodes.length>mx (fun s=>su (cR (zz g a) (gT p) (gE p) s) g.Nodes.length) s
   ·rw [if_pos (by simpa using c),if_pos c]
   ·rw [if_neg (by simpa using c),if_neg c])
  (by simp only [Zc_L1]; rw [if_neg (by simp; omega)]) rfl,aP]
 simp only [Zc_J9]
 rw [oi h,oi h]
 have E:=(Ci (kp:=gT p) (st:=gE p) (last:=last) l (Nat.le_refl _) i 0).1
 have F:=qb (fun s=>su (cR (zz g a) (gT p) (gE p) s) g.Nodes.length) (p.length+1)
 have G:=vi (f:=fun s=>su (cR (zz g a) (gT p) (gE p) s) g.Nodes.length) (B:=819200) (by omega) (n:=p.length+1) fun s _=>(q _ (Nat.le_refl _) s).2
 rw [aX (by omega) (by omega)]
theorem C5 {xs:List Int}{n:Nat}(l:xs.length=n+1)(h:n≤200)(b:0≤ix xs 0):Z1c xs=some (mx (fun j=>ix xs (j:Int)) (n+1)):=by
 unfold Z1c
 rw [if_neg (by simp; omega),if_pos (by omega),eV (f:=fun s:Int×Int=>Z1c_L1 xs s.1 s.2) (s:=(ix xs 0,1)) (r:=mx (fun j=>ix xs (j:Int)) (n+1)) (fun j=>(mx (fun j=>ix xs (j:Int)) (j+1),((j+1:Nat):Int))) n
  (fun j i=>by
   simp only [Z1c_L1]
   rw [if_pos (by simp; omega),if_pos (by omega),cA (by unfold cS; omega)]
   rfl)
  (by simp only [Z1c_L1]; rw [if_neg (by simp; omega)])
  (by
   have e:mx (fun j=>ix xs (j:Int)) (0+1)=ix xs 0:=by
    show (if ix xs ((0:Nat):Int)>0 then ix xs ((0:Nat):Int) else 0)=ix xs 0
    have a:((0:Nat):Int)=0:=rfl
    rw [a]; split<;>omega
   rw [e]; rfl),aP]
 rfl
theorem wW {g:Graph}{b:List (List Int)}{p s:List Int}(hl:p.length≤1048576)(M:Inc p)(J:∀ x∈p,0≤x)(T:b.length=g.Nodes.length)(h1:s.length=g.Nodes.length)(h2:∀ k:Nat,k<g.Nodes.length→ix s (k:Int)=i' p (k:Int)){k:Nat}(hk:k<g.Nodes.length)(hn:g.Nodes.length≤200)(r:eL (ix b (k:Int))){last:Nat}(i:i' p (((g.Nodes.length - 1:Nat):Nat):Int)=(last:Int)){room:List Int}(I:room.length=g.Nodes.length+1)(F:∀ j:Nat,j<g.Nodes.length+1→0≤ix room (j:Int)∧ix room (j:Int)≤1000000){q:Int}(O:∀ k:Nat,k<g.Nodes.length→Z1g (k:Int) q=some (decide ((k:Int)∈p))){K W:Int}(U:0≤K∧K≤1000000)(Y:0≤W∧W≤2000000) :
  ∃ a,Zj_L1 g b q s room K W (k:Int)=some (.inl (a,K+cK (zz g b) (gT p) k,W+cW (zz g b) (gT p) (gE p) last k,((k+1:Nat):Int)))∧a.length=g.Nodes.length+1∧∀ j:Nat,j<g.Nodes.length+1→ix a (j:Int)=ix room (j:Int)+cR (zz g b) (gT p) (gE p) j k:=by
 have Z:=qe (g:=g) r
 have G:gE p k<g.Nodes.length+1:=by have:=rt M J k; have:=nK p k; omega
 have u:∀ z:Int,z=zz g b k→∃ a,Zj_J3 g q s room K W (k:Int) z=some (.inl (a,K+cK (zz g b) (gT p) k,W+cW (zz g b) (gT p) (gE p) last k,((k+1:Nat):Int)))∧a.length=g.Nodes.length+1∧∀ j:Nat,j<g.Nodes.length+1→ix a (j:Int)=ix room (j:Int)+cR (zz g b) (gT p) (gE p) j k:=by
  rintro _ rfl
  have D:((List.replicate (aI ((g.Nodes.length:Int)+1)).toNat (0:Int)).length:Int)=((g.Nodes.length+1:Nat):Int):=by
   rw [cA (by unfold cS; omega)]; simp
  have B:aI ((s.length:Int) - 1)=((g.Nodes.length - 1:Nat):Int):=by rw [aX (by omega) (by omega)]; omega
  unfold Zj_J3 Zj_J4 cK cW
  rw [O k hk,aP,cA (by unfold cS; omega)]
  by_cases h:gT p k=true
  ·have E:decide ((k:Int)∈p)=true:=h
   rw [if_pos E,if_pos h,if_pos h,aX (by omega) (by omega),aX (by omega) (by omega)]
   refine ⟨room,by simp,I,fun j L=>?_⟩
   unfold cR
   rw [if_pos h]
   split<;>omega
  ·have E:¬ decide ((k:Int)∈p)=true:=h
   have hx:=F (gE p k) G
   rw [if_neg E,if_neg h,if_neg h,if_pos (by omega),h2 k hk,← nK,D,if_pos (by omega),jp,B,if_pos (by omega),h2 _ (by omega),i,ru,Int.toNat_natCast,aX (n:=ix room (gE p k:Int)+zz g b k) (by omega) (by omega),aX (n:=W+zz g b k) (by omega) (by omega),aX (n:=W+zz g b k+zz g b k) (by omega) (by omega)]
   refine ⟨room.set (gE p k) (ix room (gE p k:Int)+zz g b k),?_,by simpa using I,fun j L=>?_⟩
   ·by_cases l:gE p k=last
    ·rw [if_pos l,decide_eq_true l,if_neg (by simp)]; simp
    ·rw [if_neg l,decide_eq_false l,if_pos (by simp)]; simp [Int.add_assoc]
   ·unfold cR
    rw [if_neg h]
    by_cases e:gE p k=j
    ·subst e
     rw [kQ (by omega),if_pos rfl]
    ·rw [kI e,if_neg e,Int.add_zero]
 simp only [Zj_L1]
 rw [if_pos (by simp; omega),if_pos (by omega),if_pos (by omega),kZ (by have:=r.1; unfold cS; omega) r.2,aP]
 unfold Z27
 rw [aP]
 by_cases lf:((ix g.Nodes (k:Int)).Op==1||(ix g.Nodes (k:Int)).Op==2)=true
 ·rw [if_pos lf]
  exact u 0 (by unfold zz; rw [if_pos lf])
 ·rw [if_neg lf]
  exact u _ (by unfold zz; rw [if_neg lf])
theorem rv {g:Graph}{a:List (List Int)}{p:List Int}(hl:p.length≤1048576)(L:Inc p)(h0:∀ x∈p,0≤x∧x<(g.Nodes.length:Int))(O:a.length=g.Nodes.length)(E:g.Nodes.length≤200)(l:∀ k:Nat,k<g.Nodes.length→eL (ix a (k:Int))){last:Nat}(i:i' p (((g.Nodes.length - 1:Nat):Nat):Int)=(last:Int)){q:Int}(hq:∀ k:Nat,k<g.Nodes.length→Z1g (k:Int) q=some (decide ((k:Int)∈p))) :
  Zj g a q=some (su (cK (zz g a) (gT p)) g.Nodes.length+mx (fun s=>su (cR (zz g a) (gT p) (gE p) s) g.Nodes.length) (p.length+1),su (cW (zz g a) (gT p) (gE p) last) g.Nodes.length):=by
 have hz:∀ k,k<g.Nodes.length→0≤zz g a k∧zz g a k≤4096:=fun k hk=>qe (l k hk)
 have h:∀ x∈p,0≤x:=fun x U=>(h0 x U).1
 have bR:=fun k (hk:k≤g.Nodes.length) s=>Ci (kp:=gT p) (st:=gE p) (last:=last) hz hk E s
 obtain ⟨s,s1,s2,s3⟩:=my hl L h E hq
 have I:aI ((g.Nodes.length:Int)+1)=((g.Nodes.length+1:Nat):Int):=cA (by unfold cS; omega)
 unfold Zj
 rw [s1,aP,if_pos (by rw [I]; omega)]
 obtain ⟨r,r1,r2⟩:=gX (f:=fun z:(List Int)×Int×Int×Int=>Zj_L1 g a q s z.1 z.2.1 z.2.2.1 z.2.2.2) (s:=(List.replicate (aI ((g.Nodes.length:Int)+1)).toNat (0:Int),0,0,0))
  (fun k z=>z.2.2.2=(k:Int)∧z.2.1=su (cK (zz g a) (gT p)) k∧z.2.2.1=su (cW (zz g a) (gT p) (gE p) last) k∧z.1.length=g.Nodes.length+1∧∀ j:Nat,j<g.Nodes.length+1→ix z.1 (j:Int)=su (cR (zz g a) (gT p) (gE p) j) k) g.Nodes.length
  (Post:=fun r=>r.2.1=su (cK (zz g a) (gT p)) g.Nodes.length∧r.2.2=su (cW (zz g a) (gT p) (gE p) last) g.Nodes.length∧r.1.length=g.Nodes.length+1∧∀ j:Nat,j<g.Nodes.length+1→ix r.1 (j:Int)=su (cR (zz g a) (gT p) (gE p) j) g.Nodes.length)
  (fun k z hk J=>by
   obtain ⟨room,K,W,j⟩:=z
   obtain ⟨u,D,i3,i4,i5⟩:=J
   dsimp only at u D i3 i4 i5
   subst u D i3
   have b:=fun j=>bR k (by omega) j
   obtain ⟨Z,q1,F,G⟩:=wW (room:=room) (K:=su (cK (zz g a) (gT p)) k) (W:=su (cW (zz g a) (gT p) (gE p) last) k) hl L h O s2 s3 hk E (l k hk) i i4 (fun j e=>by rw [i5 j e]; have:=(b j).2.2; omega) hq (by have:=(b 0).1; omega) (by have:=(b 0).2.1; omega)
   refine ⟨_,q1,rfl,rfl,rfl,F,fun j e=>?_⟩
   dsimp only
   rw [G j e,i5 j e]; rfl)
  (fun z J=>by
   obtain ⟨room,K,W,j⟩:=z
   obtain ⟨u,D,i3,i4,i5⟩:=J
   dsimp only at u D i3 i4 i5
   subst u
   refine ⟨(room,K,W),?_,D,i3,i4,i5⟩
   simp only [Zj_L1]
   rw [if_neg (by simp)])
  (by
   refine ⟨rfl,rfl,rfl,by rw [I]; simp,fun j e=>?_⟩
   dsimp only
   rw [I,cC (by simpa using e)]; simp [su])
 obtain ⟨room,K,W⟩:=r
 obtain ⟨F,G,q4,Y⟩:=r2
 dsimp only at F G q4 Y
 subst F G
 rw [r1,aP]
 simp only [Zj_J5]
 have z0:ix room 0=su (cR (zz g a) (gT p) (gE p) 0) g.Nodes.length:=Y 0 (by omega)
 have b:=fun j=>bR g.Nodes.length (Nat.le_refl _) j
 have M:p.length≤g.Nodes.length:=by
  have h3:=wS (p:=p) (n:=g.Nodes.length) fun x U=>(h0 x U).2
  have h4:=rt L h g.Nodes.length
  omega
 have T:∀ k,k<g.Nodes.length→gE p k≤p.length:=fun k _=>by have:=(rr p (k:Int)).2; have:=nK p k; omega
 have hm:mx (fun j=>ix room (j:Int)) (g.Nodes.length+1)=mx (fun s=>su (cR (zz g a) (gT p) (gE p) s) g.Nodes.length) (p.length+1):=by
  rw [qc (g:=fun s=>su (cR (zz g a) (gT p) (gE p) s) g.Nodes.length) fun j e=>Y j e]
  exact wU T M
 rw [C5 q4 E (by rw [z0]; exact (b 0).2.2.1),aP,hm]
 have b2:=qb (fun s=>su (cR (zz g a) (gT p) (gE p) s) g.Nodes.length) (p.length+1)
 have b3:=vi (f:=fun s=>su (cR (zz g a) (gT p) (gE p) s) g.Nodes.length) (B:=819200) (by omega) (n:=p.length+1) fun s _=>(b s).2.2.2
 have b1:=(b 0).1
 rw [aX (by omega) (by omega)]
def mm (p:Nat→Bool)(n:Nat):List Int:=((List.range n).filter p).map fun k:Nat=>(k:Int)
theorem te (p:Nat→Bool)(n:Nat):mm p (n+1)=if p n=true then mm p n++[(n:Int)] else mm p n:=by
 unfold mm
 rw [List.range_succ,List.filter_append,List.map_append]
 by_cases h:p n=true<;>simp [h]
theorem qf (p:Nat→Bool)(n:Nat):(mm p n).length≤n:=by
 unfold mm
 rw [List.length_map]
 have:=List.length_filter_le p (List.range n)
 simpa using this
theorem C6 {a:Graph}(b:SmGraph a):∃ (n:Nat) (r:(List Node)×(List Int)),Z2f a 1=some ((n:Int),r):=by
 have e:=b.Nodes
 have s:a.Outs.length≤1048576:=b.Outs
 have q:mF iO a.Nodes≤1048576*4194306:=zy iO 4194306 a.Nodes (fun x i=>by
  have:=e.2 x i
  have j:x.Args.length≤1048576:=this.Args
  have l:x.Dims.length≤1048576:=this.Dims
  have a3:x.Ints.length≤1048576:=this.Ints
  have a4:x.Data.length≤1048576:=this.Data
  unfold iO; omega) e.1
 obtain ⟨r,h⟩:=rn a 1 b (by unfold BB; omega)
 exact ⟨_,r,h⟩
theorem nn (n:Nat):decide ((n:Int)<0)=false:=by simp
theorem nM (x:Int):(x != x)=false:=by simp
theorem tf {a:Graph}{x:List Int}{f:Graph→Option (List Int)}(s:SmGraph a)(u:x.length≤1048576)(L:f a=some x){g:Graph→Option (List Int)}(U:g a=some x) :
  ((g a).bind fun e=>(Z1i a).bind fun h=>(f h).bind fun i=>(Zz i e).bind fun B=>if (!B)=true then some false else ((Z1i a).bind fun D=>(Z2s h D).bind fun E=>if (!E)=true then some false else (
   (Z2f h (1:Int)).bind fun j=>(bP (!(decide (j.1<(0:Int)))) (Zz i e)).bind fun F=>if ((decide (j.1<(0:Int)))||(!F))=true then some false else (
   (Zy i (1:Int)).bind fun b=>(Z0k b.2 (1:Int)).bind fun l=>if (decide (l<(0:Int)))=true then some false else (if (l != b.1)=true then some false else (
   (Z1i a).bind fun G=>(f G).bind fun I=>(Zz I e).bind fun J=>if (!J)=true then some false else (
   (Z0k b.2 (1:Int)).bind fun q=>if (decide (q<(0:Int)))=true then some false else (if (q != b.1)=true then some false else some true))))))):Option Bool)=some true:=by
 obtain ⟨n,r,Y⟩:=C6 s
 obtain ⟨M,O⟩:=jO x 1 u (by unfold BB; omega)
 have T:((1:Nat):Int)=1:=rfl
 rw [T] at M O
 rw [U,aP,nI a s,aP,L,aP,p6 x u,aP,if_neg (by simp),aP,vh a s,aP,if_neg (by simp),Y,aP,nn,Bool.not_false,BZ,aP,if_neg (by simp),M,aP,O,aP,nn,if_neg (by simp),nM,if_neg (by simp),aP,L,aP,p6 x u,aP,if_neg (by simp),aP,nn,if_neg (by simp),if_neg (by simp)]
theorem Z44 (a b:Nat)(e:a<9223372036854775808)(h:b<9223372036854775808):bits .and .i64 (a:Int) (b:Int)=((a &&& b:Nat):Int):=by
 have i:a &&& b<2 ^ 63:=Nat.and_lt_two_pow _ (by omega)
 have h1:(BitVec.ofInt 64 (a:Int)).toNat=a:=by
  rw [BitVec.ofInt_natCast,BitVec.toNat_ofNat]; exact Nat.mod_eq_of_lt (by omega)
 have h2:(BitVec.ofInt 64 (b:Int)).toNat=b:=by
  rw [BitVec.ofInt_natCast,BitVec.toNat_ofNat]; exact Nat.mod_eq_of_lt (by omega)
 show aI ((BitVec.ofInt 64 (a:Int) &&& BitVec.ofInt 64 (b:Int)).toNat:Int)=_
 rw [BitVec.toNat_and,h1,h2,aX (by omega) (by omega)]
theorem rx (x k:Nat):(((x / 2 ^ k) &&& 1:Nat):Int)=1↔x.testBit k=true:=by
 rw [Nat.and_one_is_mod,Nat.testBit_eq_decide_div_mod_eq,decide_eq_true_iff]
 omega
def kl (x n:Nat):List Int:=mm (fun k=>x.testBit k) n
theorem vk {p:Nat→Bool}{n k:Nat}:(k:Int)∈mm p n↔k<n∧p k=true:=by
 unfold mm
 rw [List.mem_map]
 constructor
 ·rintro ⟨a,h,e⟩
  obtain rfl:a=k:=by omega
  simpa using h
 ·intro h
  exact ⟨k,by simpa using h,rfl⟩
theorem dv (x k:Nat):(x:Int) / 2 ^ k=((x / 2 ^ k:Nat):Int):=by
 rw [Int.natCast_ediv,Int.natCast_pow]; rfl
theorem vl (x k:Nat):x / 2 ^ k≤x:=Nat.div_le_self _ _
theorem C7 {x n:Nat}(a:n≤12)(b:x<4096)(k:Nat)(hk:k<n):Z1g (k:Int) (x:Int)=some (decide ((k:Int)∈kl x n)):=by
 unfold Z1g
 have e:(k:Int).toNat=k:=Int.toNat_natCast k
 have h1:=vl x k
 rw [if_pos (by omega),e,dv,show (1:Int)=((1:Nat):Int) from rfl,bits_and_u64_nat _ _ (by omega) (by omega)]
 congr 1
 rw [Bool.eq_iff_iff,beq_iff_eq,decide_eq_true_iff,kl,vk]
 rw [show ((1:Nat):Int)=1 from rfl,rx]
 exact ⟨fun h=>⟨hk,h⟩,fun h=>h.2⟩
theorem tg (n:Nat)(h:n<18446744073709551616):IntKind.wrap .u64 (n:Int)=(n:Int):=by
 rw [IntKind.wrap_u64]; omega
theorem wX {g:Graph}{x:Nat}(j:g.Nodes.length≤12)(l:x<4096):aQ (fun s:List Int×Int=>Z6_L2 g (x:Int) s.1 s.2) ([],0)=some (kl x g.Nodes.length):=by
 refine eV (f:=fun s:List Int×Int=>Z6_L2 g (x:Int) s.1 s.2) (fun k=>(kl x k,(k:Int))) g.Nodes.length (fun k hk=>?_) ?_ rfl
 ·have b:=qf (fun k=>x.testBit k) k
  have h1:=vl x k
  have e:(k:Int).toNat=k:=Int.toNat_natCast k
  have i:kl x (k+1)=if x.testBit k=true then kl x k++[(k:Int)] else kl x k:=te _ _
  have a:bits .and .i64 ((x / 2 ^ k:Nat):Int) 1=(((x / 2 ^ k) &&& 1:Nat):Int):=Z44 _ 1 (by omega) (by omega)
  have h:(kl x k).length≤k:=b
  simp only [Z6_L2,Z6_J6]
  rw [if_pos (by simp; omega),tg k (by omega),if_pos (by omega),e,dv,a,i,cA (by unfold cS; omega)]
  by_cases c:x.testBit k=true
  ·rw [if_pos (by rw [beq_iff_eq]; exact (rx x k).2 c),if_pos (by simp; omega),if_pos c]
  ·rw [if_neg (by rw [beq_iff_eq]; exact fun z=>c ((rx x k).1 z)),if_neg c]
 ·simp only [Z6_L2]
  rw [if_neg (by simp)]
theorem wY:∀ a,a<64→∀ b,b<64→64*a+b≠0→(List.range 12).filter (fun k=>(64*a+b).testBit k)=Lib.ctz 64 (64*a+b)::(List.range 12).filter (fun k=>((64*a+b) &&& (64*a+b - 1)).testBit k)∧((64*a+b) &&& (64*a+b - 1))<64*a+b:=by decide +kernel
theorem zC {x:Nat}(b:x<4096)(a:x≠0):kl x 12=((Lib.ctz 64 x:Nat):Int)::kl (x &&& (x - 1)) 12∧(x &&& (x - 1))<x:=by
 have e:64*(x / 64)+x % 64=x:=by omega
 obtain ⟨h1,h2⟩:=wY (x / 64) (by omega) (x % 64) (by omega) (by omega)
 rw [e] at h1 h2
 refine ⟨?_,h2⟩
 unfold kl mm
 rw [h1,List.map_cons]
theorem vm {x n:Nat}(h:n≤12)(b:x<2 ^ n):kl x 12=kl x n:=by
 obtain ⟨d,a⟩:∃ d,12=n+d:=⟨12 - n,by omega⟩
 rw [a]
 unfold kl mm
 rw [List.range_add,List.filter_append]
 have:((List.range d).map (n+·)).filter (fun k=>x.testBit k)=[]:=by
  rw [List.filter_eq_nil_iff]
  intro y e
  obtain ⟨j,_,rfl⟩:=List.mem_map.1 e
  have:x<2 ^ (n+j):=Nat.lt_of_lt_of_le b (Nat.pow_le_pow_right (by omega) (by omega))
  rw [Nat.testBit_lt_two_pow this]; simp
 rw [this,List.append_nil]
theorem zD:∀ (m x:Nat) (l:List Int),x≤m→x<4096→l.length+(kl x 12).length≤12→aQ (fun s:List Int×Int=>Z9_L2 s.1 s.2) (l,(x:Int))=some (l++kl x 12):=by
 intro m
 induction m with
 | zero =>
  intro x l h _ _
  obtain rfl:x=0:=by omega
  have e:kl 0 12=[]:=by decide
  refine cT ?_
  simp only [Z9_L2]
  rw [if_neg (by simp),e,List.append_nil]
 | succ m ih =>
  intro x l h i b
  by_cases h0:x=0
  ·exact ih x l (by omega) i b
  ·obtain ⟨h1,h2⟩:=zC i h0
   have j:IntKind.wrap .u64 ((x:Int) - 1)=((x - 1:Nat):Int):=by rw [show ((x:Int) - 1)=((x - 1:Nat):Int) by omega,tg (x - 1) (by omega)]
   have q:bits .and .u64 (x:Int) ((x - 1:Nat):Int)=((x &&& (x - 1):Nat):Int):=bits_and_u64_nat _ _ (by omega) (by omega)
   have a:=b
   rw [h1,List.length_cons] at a
   have r:(fun s:List Int×Int=>Z9_L2 s.1 s.2) (l,(x:Int))=some (.inl (l++[((Lib.ctz 64 x:Nat):Int)],((x &&& (x - 1):Nat):Int))):=by
    simp only [Z9_L2,Z3j]
    rw [if_pos (by simp; omega),if_pos (by omega),aP,Int.toNat_natCast,if_pos (by simp; omega),j,q]
   rw [eH r,ih (x &&& (x - 1)) _ (by omega) (by omega) (by simp; omega),h1]
   simp
def ah:List Int→List Int→Bool
 | [],[]=>false
 | [],_::_=>true
 | _::_,[]=>false
 | x::a,y::b=>if x=y then ah a b else decide (x<y)
theorem kS {xs:List Int}{i:Nat}(h:i<xs.length):xs.drop i=ix xs (i:Int)::xs.drop (i+1):=by
 rw [cC h,List.drop_eq_getElem_cons h]
theorem DL {a b:List Int}(l:a.length≤1048576):∀ (d i:Nat),a.length - i≤d→i≤a.length→i≤b.length→(aQ (fun s:Int=>Z0b_L1 a b s) (i:Int)).bind (fun e=>match e with
  | .inl e=>some e
  | .inr e=>Z0b_J1 a b)=some (ah (a.drop i) (b.drop i)):=by
 intro d
 induction d with
 | zero =>
  intro i h1 h2 j
  have e:i=a.length:=by omega
  have h:(fun s:Int=>Z0b_L1 a b s) (i:Int)=some (.inr (.inr ())):=by
   simp only [Z0b_L1]
   rw [if_neg (by simp; omega)]
  rw [cT h,Option.bind_some]
  simp only [Z0b_J1]
  rw [List.drop_eq_nil_of_le (by omega:a.length≤i)]
  by_cases c:i<b.length
  ·rw [kS c,decide_eq_true (by omega)]; rfl
  ·rw [List.drop_eq_nil_of_le (by omega:b.length≤i),decide_eq_false (by omega)]; rfl
 | succ d ih =>
  intro i h1 h2 j
  by_cases c:i<a.length
  ·by_cases c':i<b.length
   ·rw [kS c,kS c']
    simp only [ah]
    by_cases q:ix a (i:Int)=ix b (i:Int)
    ·have h:(fun s:Int=>Z0b_L1 a b s) (i:Int)=some (.inl ((i+1:Nat):Int)):=by
      simp only [Z0b_L1]
      rw [if_pos (by simp; omega),if_pos (by omega),if_pos (by omega),if_neg (by simpa using q),cA (by unfold cS; omega)]
     rw [eH h,if_pos q]
     exact ih (i+1) (by omega) (by omega) (by omega)
    ·have h:(fun s:Int=>Z0b_L1 a b s) (i:Int)=some (.inr (.inl (decide (ix a (i:Int)<ix b (i:Int))))):=by
      simp only [Z0b_L1]
      rw [if_pos (by simp; omega),if_pos (by omega),if_pos (by omega),if_pos (by simpa using q)]
     rw [cT h,if_neg q]; rfl
   ·have h:(fun s:Int=>Z0b_L1 a b s) (i:Int)=some (.inr (.inr ())):=by
     simp only [Z0b_L1]
     rw [if_neg (by simp; omega)]
    rw [cT h,Option.bind_some]
    simp only [Z0b_J1]
    rw [kS c,List.drop_eq_nil_of_le (by omega:b.length≤i),decide_eq_false (by omega)]; rfl
  ·exact (by
    have e:i=a.length:=by omega
    have h:(fun s:Int=>Z0b_L1 a b s) (i:Int)=some (.inr (.inr ())):=by
     simp only [Z0b_L1]
     rw [if_neg (by simp; omega)]
    rw [cT h,Option.bind_some]
    simp only [Z0b_J1]
    rw [List.drop_eq_nil_of_le (by omega:a.length≤i)]
    by_cases c:i<b.length
    ·rw [kS c,decide_eq_true (by omega)]; rfl
    ·rw [List.drop_eq_nil_of_le (by omega:b.length≤i),decide_eq_false (by omega)]; rfl)
theorem wZ {a b:List Int}(e:a.length≤1048576):Z0b a b=some (ah a b):=by
 have:=DL (a:=a) (b:=b) e a.length 0 (by omega) (by omega) (by omega)
 rw [List.drop_zero,List.drop_zero] at this
 exact this
theorem xL (x y:Int):Z2v x y=some (if x<y then -1 else if x>y then 1 else 0):=by
 unfold Z2v Z2n
 simp only [nM,Option.bind_some,Bool.false_eq_true,if_false,decide_eq_true_eq]
 split
 ·rfl
 ·split<;>rfl
theorem DM {a b:List Int}(l:a.length≤1048576):∀ (d i:Nat),a.length - i≤d→i≤a.length→i≤b.length→∃ c:Int,(aQ (fun s:Int=>Z0e_L1 a b s) (i:Int)).bind (fun e=>match e with
  | .inl e=>some e
  | .inr e=>Z0e_J1 a b)=some c∧decide (c<0)=ah (a.drop i) (b.drop i):=by
 intro d
 induction d with
 | zero =>
  intro i h1 h2 j
  have e:i=a.length:=by omega
  have h:(fun s:Int=>Z0e_L1 a b s) (i:Int)=some (.inr (.inr ())):=by
   simp only [Z0e_L1]
   rw [if_neg (by simp; omega)]
  rw [cT h,Option.bind_some]
  simp only [Z0e_J1]
  rw [List.drop_eq_nil_of_le (by omega:a.length≤i)]
  by_cases c:i<b.length
  ·rw [kS c,if_pos (by simp; omega)]; exact ⟨_,rfl,rfl⟩
  ·rw [List.drop_eq_nil_of_le (by omega:b.length≤i),if_neg (by simp; omega)]; exact ⟨_,rfl,rfl⟩
 | succ d ih =>
  intro i h1 h2 j
  by_cases c:i<a.length
  ·by_cases c':i<b.length
   ·rw [kS c,kS c']
    simp only [ah]
    by_cases q:ix a (i:Int)=ix b (i:Int)
    ·have h:(fun s:Int=>Z0e_L1 a b s) (i:Int)=some (.inl ((i+1:Nat):Int)):=by
      simp only [Z0e_L1]
      rw [if_pos (by simp; omega),if_pos (by omega),if_neg (by simp; omega),if_pos (by omega),xL,aP,if_neg (by rw [if_neg (by omega),if_neg (by omega)]; simp),cA (by unfold cS; omega)]
     rw [eH h,if_pos q]
     exact ih (i+1) (by omega) (by omega) (by omega)
    ·have h:(fun s:Int=>Z0e_L1 a b s) (i:Int)=some (.inr (.inl (if ix a (i:Int)<ix b (i:Int) then -1 else if ix a (i:Int)>ix b (i:Int) then 1 else 0))):=by
      simp only [Z0e_L1]
      rw [if_pos (by simp; omega),if_pos (by omega),if_neg (by simp; omega),if_pos (by omega),xL,aP,if_pos (by
       by_cases r:ix a (i:Int)<ix b (i:Int)
       ·rw [if_pos r]; simp
       ·rw [if_neg r,if_pos (by omega)]; simp)]
     rw [cT h,if_neg q]
     refine ⟨_,rfl,?_⟩
     by_cases r:ix a (i:Int)<ix b (i:Int)
     ·rw [if_pos r]; simp [r]
     ·rw [if_neg r,if_pos (by omega)]; simp; omega
   ·have h:(fun s:Int=>Z0e_L1 a b s) (i:Int)=some (.inr (.inl 1)):=by
     simp only [Z0e_L1]
     rw [if_pos (by simp; omega),if_pos (by omega),if_pos (by simp; omega)]
    rw [cT h]
    rw [kS c,List.drop_eq_nil_of_le (by omega:b.length≤i)]
    exact ⟨_,rfl,rfl⟩
  ·have h:(fun s:Int=>Z0e_L1 a b s) (i:Int)=some (.inr (.inr ())):=by
    simp only [Z0e_L1]
    rw [if_neg (by simp; omega)]
   rw [cT h,Option.bind_some]
   simp only [Z0e_J1]
   rw [List.drop_eq_nil_of_le (by omega:a.length≤i)]
   by_cases c:i<b.length
   ·rw [kS c,if_pos (by simp; omega)]; exact ⟨_,rfl,rfl⟩
   ·rw [List.drop_eq_nil_of_le (by omega:b.length≤i),if_neg (by simp; omega)]; exact ⟨_,rfl,rfl⟩
theorem x0 {a b:List Int}(e:a.length≤1048576):∃ c:Int,Z0e a b=some c∧decide (c<0)=ah a b:=by
 have:=DM (a:=a) (b:=b) e a.length 0 (by omega) (by omega) (by omega)
 rw [List.drop_zero,List.drop_zero] at this
 exact this
theorem ry (x n:Nat):Inc (kl x n):=by
 have h:(kl x n).Pairwise (·<·):=by
  unfold kl mm
  rw [List.pairwise_map]
  exact (List.Pairwise.filter _ (List.pairwise_lt_range)).imp fun h=>by omega
 intro i j a b
 rw [cC b,cC (by omega)]
 exact List.pairwise_iff_getElem.1 h i j (by omega) b a
theorem vn {x n:Nat}{y:Int}(h:y∈kl x n):0≤y∧y<(n:Int):=by
 unfold kl mm at h
 obtain ⟨k,hk,rfl⟩:=List.mem_map.1 h
 have:=List.mem_range.1 (List.mem_filter.1 hk).1
 omega
theorem ky (x n:Nat):(kl x n).length≤n:=qf _ _
theorem zE {g:Graph}{x:Nat}(h:g.Nodes.length≤12):(List.range (kl x g.Nodes.length).length).all (xJ g (kl x g.Nodes.length))=true:=by
 rw [List.all_eq_true]
 intro k hk
 have hk:=List.mem_range.1 hk
 have e:=ky x g.Nodes.length
 have a:=vn (bI hk)
 unfold xJ
 rw [decide_eq_false (by omega),decide_eq_false (by omega)]
 by_cases c:k=0
 ·subst c; rfl
 ·have b:=ry x g.Nodes.length (k - 1) k (by omega) hk
  rw [decide_eq_true (by omega),aX (by omega) (by omega),show ((k:Int) - 1)=((k - 1:Nat):Int) by omega,decide_eq_false (by omega)]
  rfl
noncomputable def KK (g:Graph)(x:Nat):Bool:=(List.range g.Nodes.length).all fun k=>(ix g.Nodes (k:Int)).Args.all (fun a=>!lY g (kl x g.Nodes.length) (k:Int) a)
theorem DN {g:Graph}(a:GA g)(b:g.Nodes.length≤12)(x:Nat):Ze g (kl x g.Nodes.length)=some (KK g x):=by
 have e:=ky x g.Nodes.length
 rw [zB a (by omega),zE b,Bool.true_and]; rfl
theorem DO {g:Graph}(h:GA g)(j:g.Nodes.length≤12){x:Nat}(l:x<4096):Z07 g (x:Int)=some (KK g x):=by
 have D:=ky x g.Nodes.length
 have b:=ry x g.Nodes.length
 have e:=fun k hk=>C7 j l (k:=k) (hk:=hk)
 unfold Z07
 obtain ⟨s,u,B,s3⟩:=my (p:=kl x g.Nodes.length) (by omega) b (fun y r=>(vn r).1) (n:=g.Nodes.length) (by omega) e
 rw [u]
 simp only [Option.bind_some]
 rw [gR g.Nodes.length (fun z:Int=>Z07_L1 g (x:Int) s z) (fun i=>i) (fun k=>(ix g.Nodes (k:Int)).Args.all (fun a=>!lY g (kl x g.Nodes.length) (k:Int) a)) (.inl false) (.inr ()) (fun k hk=>by
  simp only [Z07_L1]
  rw [if_pos (by simp; omega),if_pos (by omega),DJ h (by omega) b B s3 hk e]
  by_cases q:(ix g.Nodes (k:Int)).Args.all (fun a=>!lY g (kl x g.Nodes.length) (k:Int) a)=true
  ·rw [if_pos q,if_pos q]
   simp only [Option.bind_some,Z07_J2]
   rw [cA (by unfold cS; omega)]
  ·rw [if_neg q,if_neg q]
   rfl) (by
  simp only [Z07_L1]
  rw [if_neg (by simp)])]
 change (some (if KK g x=true then Sum.inr () else Sum.inl false)).bind _=_
 by_cases q:KK g x=true
 ·rw [if_pos q,q]; rfl
 ·rw [if_neg q]
  have:KK g x=false:=by simpa using q
  rw [this]; rfl
noncomputable def AA (g:Graph)(a:List (List Int))(x:Nat):Int:=su (cK (zz g a) (gT (kl x g.Nodes.length))) g.Nodes.length+mx (fun s=>su (cR (zz g a) (gT (kl x g.Nodes.length)) (gE (kl x g.Nodes.length)) s) g.Nodes.length) ((kl x g.Nodes.length).length+1)
noncomputable def WW (g:Graph)(a:List (List Int))(x:Nat):Int:=su (cW (zz g a) (gT (kl x g.Nodes.length)) (gE (kl x g.Nodes.length)) (gE (kl x g.Nodes.length) (g.Nodes.length - 1))) g.Nodes.length
theorem zF {g:Graph}{a:List (List Int)}(e:a.length=g.Nodes.length)(i:g.Nodes.length≤12)(b:∀ k:Nat,k<g.Nodes.length→eL (ix a (k:Int)))(x:Nat):Zc g a (kl x g.Nodes.length)=some (AA g a x,WW g a x):=by
 have h:=ky x g.Nodes.length
 refine vj (by omega) e (by omega) b ?_
 rw [nK]
 by_cases c:g.Nodes.length=0
 ·have:kl x g.Nodes.length=[]:=List.length_eq_zero_iff.1 (by omega)
  rw [this]; rfl
 ·rw [aX (by omega) (by omega)]; congr 1; omega
theorem zG {g:Graph}{a:List (List Int)}(e:a.length=g.Nodes.length)(h:g.Nodes.length≤12)(b:∀ k:Nat,k<g.Nodes.length→eL (ix a (k:Int))){x:Nat}(i:x<4096):Zj g a (x:Int)=some (AA g a x,WW g a x):=by
 have l:=ky x g.Nodes.length
 exact rv (by omega) (ry _ _) (fun y j=>vn j) e (by omega) b (nK _ _).symm fun k hk=>C7 h i k hk
theorem xM {g:Graph}{a:List (List Int)}(j:g.Nodes.length≤12)(b:∀ k:Nat,k<g.Nodes.length→eL (ix a (k:Int)))(x:Nat):0≤AA g a x:=by
 have e:∀ k,k<g.Nodes.length→0≤zz g a k∧zz g a k≤4096:=fun k hk=>qe (b k hk)
 have h:=(Ci (kp:=gT (kl x g.Nodes.length)) (st:=gE (kl x g.Nodes.length)) (last:=0) e (Nat.le_refl _) (by omega) 0).1
 have i:=qb (fun s=>su (cR (zz g a) (gT (kl x g.Nodes.length)) (gE (kl x g.Nodes.length)) s) g.Nodes.length) ((kl x g.Nodes.length).length+1)
 unfold AA
 omega
abbrev BS:=List Int×Int×Int
noncomputable def Ec (g:Graph)(a:List (List Int))(b:Int)(st:BS)(x:Nat):BS :=
 if KK g x=true∧AA g a x≤b∧(st.2.1<0∨WW g a x<st.2.2∨(WW g a x=st.2.2∧(AA g a x<st.2.1∨(AA g a x=st.2.1∧ah (kl x g.Nodes.length) st.1=true)))) then (kl x g.Nodes.length,AA g a x,WW g a x) else st
def tk (g:Graph)(b:List (List Int))(a:Int)(st:BS)(x:Nat):Prop:=KK g x=true∧AA g b x≤a∧(st.2.1<0∨WW g b x<st.2.2∨(WW g b x=st.2.2∧(AA g b x<st.2.1∨(AA g b x=st.2.1∧ah (kl x g.Nodes.length) st.1=true))))
theorem Eb {g:Graph}{b:List (List Int)}{a:Int}{st:BS}{x:Nat}(h:tk g b a st x):Ec g b a st x=(kl x g.Nodes.length,AA g b x,WW g b x):=if_pos h
theorem Ea {g:Graph}{b:List (List Int)}{a:Int}{st:BS}{x:Nat}(h:¬ tk g b a st x):Ec g b a st x=st:=if_neg h
noncomputable def pa (g:Graph)(b:List (List Int))(a:Int):Nat→BS
 | 0=>([],-1,0)
 | x+1=>Ec g b a (pa g b a x) x
theorem mW (g:Graph)(b:List (List Int))(a:Int):∀ x,(pa g b a x).1.length≤g.Nodes.length
 | 0=>Nat.zero_le _
 | x+1=>by
  simp only [pa,Ec]
  split
  ·exact ky _ _
  ·exact mW g b a x
theorem pw {n:Nat}(a:n≤12):2 ^ n≤4096:=Nat.pow_le_pow_right (by omega) a
theorem zH {r:Int}(h:0≤r)(a w b:Int)(q:Bool):((((!decide (0≤r))||decide (w<b))||((w==b)&&(decide (a<r)||((a==r)&&cond ((!((!decide (0≤r))||decide (w<b)))&&((w==b)&&((!decide (a<r))&&(a==r)))) q default))))=true)↔(w<b∨(w=b∧(a<r∨(a=r∧q=true)))):=by
 rw [decide_eq_true h]
 by_cases w1:w<b
 ·simp [w1]
 by_cases w2:w=b
 ·by_cases a1:a<r
  ·simp [w2,a1]
  by_cases a2:a=r
  ·subst w2 a2; simp
  ·simp [w1,w2,a1,a2]
 ·simp [w1,w2]
theorem zI {g:Graph}{b:List (List Int)}(Y:GA g)(L:b.length=g.Nodes.length)(u:g.Nodes.length≤12)(B:∀ k:Nat,k<g.Nodes.length→eL (ix b (k:Int)))(a:Int) :
  aQ (fun s:(List Int)×Bool×Int×Int×Int=>Z6_L1 g a b s.1 s.2.1 s.2.2.1 s.2.2.2.1 s.2.2.2.2) ([],false,0,0,0)=some (pa g b a (2 ^ g.Nodes.length)).1:=by
 have Z:=pw u
 have M:IntKind.wrap .u64 (g.Nodes.length:Int)=(g.Nodes.length:Int):=tg _ (by omega)
 have O:aI (1*2 ^ (g.Nodes.length:Int).toNat)=((2 ^ g.Nodes.length:Nat):Int):=by
  rw [Int.toNat_natCast,Int.one_mul,show ((2:Int) ^ g.Nodes.length)=((2 ^ g.Nodes.length:Nat):Int) by rw [Int.natCast_pow]; rfl]
  generalize 2 ^ g.Nodes.length=P at Z
  exact aX (by omega) (by omega)
 obtain ⟨r,r1,r2⟩:=gX (f:=fun s:(List Int)×Bool×Int×Int×Int=>Z6_L1 g a b s.1 s.2.1 s.2.2.1 s.2.2.2.1 s.2.2.2.2) (s:=([],false,0,0,0))
  (fun k s=>s.2.2.2.2=(k:Int)∧s.1=(pa g b a k).1∧s.2.1=decide (0≤(pa g b a k).2.1)∧(0≤(pa g b a k).2.1→s.2.2.1=(pa g b a k).2.1∧s.2.2.2.1=(pa g b a k).2.2)) (2 ^ g.Nodes.length)
  (Post:=fun r=>r=(pa g b a (2 ^ g.Nodes.length)).1)
  (fun x s hx G=>by
   obtain ⟨q,j,l,F,k⟩:=s
   obtain ⟨E,e,i3,i4⟩:=G
   dsimp only at E e i3 i4
   subst E
   have hl:=ky x g.Nodes.length
   have J:=mW g b a x
   have U:=xM u B x
   obtain ⟨st,D⟩:∃ st,st=pa g b a x:=⟨_,rfl⟩
   have i:pa g b a (x+1)=Ec g b a st x:=by rw [D]; rfl
   rw [← D] at e i3 i4 J
   rw [i]
   simp only [Z6_L1]
   rw [M,if_pos (by omega),O,if_pos (decide_eq_true (Int.ofNat_lt.2 hx)),wX u (by omega),aP]
   simp only [Z6_J7,Z6_J8]
   rw [DN Y u,aP,cA (by unfold cS; omega)]
   by_cases hK:KK g x=true
   ·rw [hK,if_neg (by simp),zF L u B,aP]
    dsimp only
    by_cases hA:AA g b x>a
    ·rw [if_pos (by simpa using hA)]
     refine ⟨_,rfl,rfl,?_⟩
     rw [Ea (fun z=>by have:=z.2.1; omega)]
     exact ⟨e,i3,i4⟩
    ·rw [if_neg (by simpa using hA),wZ (by omega),zW,aP,e,i3]
     by_cases c:st.2.1<0
     ·rw [if_pos (by rw [decide_eq_false (show ¬ 0≤st.2.1 by omega)]; rfl),Eb ⟨hK,by omega,.inl c⟩]
      exact ⟨_,rfl,rfl,rfl,by simp [U],fun _=>⟨rfl,rfl⟩⟩
     ·obtain ⟨j1,j2⟩:=i4 (by omega)
      have T:=zH (by omega:0≤st.2.1) (AA g b x) (WW g b x) st.2.2 (ah (kl x g.Nodes.length) st.1)
      rw [j1,j2]
      by_cases d:WW g b x<st.2.2∨(WW g b x=st.2.2∧(AA g b x<st.2.1∨(AA g b x=st.2.1∧ah (kl x g.Nodes.length) st.1=true)))
      ·rw [Eb ⟨hK,by omega,.inr d⟩,if_pos (T.2 d)]
       exact ⟨_,rfl,rfl,rfl,by simp [U],fun _=>⟨rfl,rfl⟩⟩
      ·rw [Ea (fun z=>z.2.2.elim c d),if_neg (fun z=>d (T.1 z))]
       exact ⟨_,rfl,rfl,rfl,rfl,fun _=>⟨rfl,rfl⟩⟩
   ·have I:KK g x=false:=by simpa using hK
    rw [I,if_pos (by simp)]
    refine ⟨_,rfl,rfl,?_⟩
    rw [Ea (fun z=>hK z.1)]
    exact ⟨e,i3,i4⟩)
  (fun s G=>by
   obtain ⟨q,j,l,F,k⟩:=s
   obtain ⟨E,e,i3,i4⟩:=G
   dsimp only at E e i3 i4
   subst E
   simp only [Z6_L1]
   rw [M,if_pos (by omega),O,if_neg (by simp)]
   exact ⟨_,rfl,e⟩)
  ⟨rfl,rfl,rfl,fun h=>absurd h (by simp [pa])⟩
 rw [r1,r2]
theorem zJ {g:Graph}{i:List (List Int)}{b:Bool}(T:GA g)(I:i.length=g.Nodes.length)(r:g.Nodes.length≤12)(u:∀ k:Nat,k<g.Nodes.length→eL (ix i (k:Int)))(h:Int) :
  aQ (fun s:(List Int)×Int×Int×Int=>Z9_L1 g h (i,b) s.1 s.2.1 s.2.2.1 s.2.2.2) ([],-1,0,0)=some (pa g i h (2 ^ g.Nodes.length)).1:=by
 have Z:=pw r
 have L:IntKind.wrap .u64 (1*2 ^ (g.Nodes.length:Int).toNat)=((2 ^ g.Nodes.length:Nat):Int):=by
  rw [Int.toNat_natCast,Int.one_mul,show ((2:Int) ^ g.Nodes.length)=((2 ^ g.Nodes.length:Nat):Int) by rw [Int.natCast_pow]; rfl,tg _ (by omega)]
 refine eV (f:=fun s:(List Int)×Int×Int×Int=>Z9_L1 g h (i,b) s.1 s.2.1 s.2.2.1 s.2.2.2) (fun x=>((pa g i h x).1,(pa g i h x).2.1,(pa g i h x).2.2,(x:Int))) (2 ^ g.Nodes.length) (fun x J=>?_) ?_ rfl
 ·have Y:=ky x g.Nodes.length
  have E:=mW g i h x
  have U:=xM r u x
  obtain ⟨st,l⟩:∃ st,st=pa g i h x:=⟨_,rfl⟩
  have j:pa g i h (x+1)=Ec g i h st x:=by rw [l]; rfl
  rw [← l] at E
  rw [j,← l]
  simp only [Z9_L1]
  rw [L,if_pos (decide_eq_true (Int.ofNat_lt.2 J)),DO T r (by omega),aP]
  unfold Z9_J4
  rw [show ((x:Int)+1)=((x+1:Nat):Int) by omega,tg _ (by omega)]
  by_cases hK:KK g x=true
  ·rw [hK,if_neg (by simp),zG I r u (by omega),aP]
   dsimp only
   by_cases hs:AA g i x>h∨(0≤st.2.1∧(WW g i x>st.2.2∨(WW g i x=st.2.2∧AA g i x>st.2.1)))
   ·have D:(decide (AA g i x>h)||(decide (st.2.1≥0)&&(decide (WW g i x>st.2.2)||((WW g i x==st.2.2)&&decide (AA g i x>st.2.1)))))=true:=by simpa [beq_iff_eq] using hs
    rw [if_pos D,Ea (fun z=>by obtain ⟨_,z1,z2⟩:=z; omega)]
   ·have D:¬ (decide (AA g i x>h)||(decide (st.2.1≥0)&&(decide (WW g i x>st.2.2)||((WW g i x==st.2.2)&&decide (AA g i x>st.2.1)))))=true:=by simpa [beq_iff_eq] using hs
    rw [if_neg D]
    have G:=zD x x [] (Nat.le_refl _) (by omega) (by rw [vm r J]; simp; omega)
    rw [G,aP,List.nil_append,vm r J]
    simp only [Z9_J3,Z9_J4]
    obtain ⟨c,M,O⟩:=x0 (a:=kl x g.Nodes.length) (b:=st.1) (by omega)
    rw [M,zW,aP,show ((x:Int)+1)=((x+1:Nat):Int) by omega,tg _ (by omega)]
    by_cases d:st.2.1<0∨WW g i x<st.2.2∨AA g i x<st.2.1
    ·have F:(((decide (st.2.1<0))||(decide (WW g i x<st.2.2)))||(decide (AA g i x<st.2.1)))=true:=by simpa [or_assoc] using d
     rw [F,if_pos (by simp),Eb ⟨hK,by omega,by omega⟩]
    ·have F:(((decide (st.2.1<0))||(decide (WW g i x<st.2.2)))||(decide (AA g i x<st.2.1)))=false:=by
      simp only [Bool.or_eq_false_iff,decide_eq_false_iff_not]; omega
     rw [F]
     have e:(cond (!false) c default)=c:=rfl
     rw [e,Bool.false_or,O]
     by_cases q:ah (kl x g.Nodes.length) st.1=true
     ·rw [if_pos q,Eb ⟨hK,by omega,.inr (.inr ⟨by omega,.inr ⟨by omega,q⟩⟩)⟩]
     ·rw [if_neg q,Ea (by
       rintro ⟨_,_,z | z | ⟨_,z | ⟨_,z⟩⟩⟩
       ·omega
       ·omega
       ·omega
       ·exact q z)]
  ·have B:KK g x=false:=by simpa using hK
   rw [B,if_pos (by simp),Ea (fun z=>hK z.1)]
 ·simp only [Z9_L1]
  rw [L,if_neg (by simp)]
theorem nV {a:Graph}(F:SmGraph a)(b:Int):∃ x,Z6 a b=some x∧Z9 a b=some x∧x.length≤1048576:=by
 obtain ⟨e,L,j,h1,h2,D⟩:=pX (C2 F)
 have g1:Z38 a=some j:=by unfold Z38; rw [h1]; rfl
 unfold Z6 Z9
 rw [g1,h2,aP,aP]
 dsimp only
 by_cases c:((!j)||decide ((a.Nodes.length:Int)>12))=true
 ·rw [if_pos c,if_pos c]
  exact ⟨[],rfl,rfl,Nat.zero_le _⟩
 ·rw [if_neg c,if_neg c]
  obtain ⟨rfl,q⟩:j=true∧a.Nodes.length≤12:=by
   cases j with
   | false=>simp at c
   | true=>refine ⟨rfl,?_⟩; simp at c; omega
  obtain ⟨u,B,a3,a4,a5,G,I⟩:=D rfl
  have l:=C4 a5 a4
  subst u
  have E:Z12 a=some (e.map Tensor.Dims):=by
   unfold Z12
   rw [h1,aP]
   rw [eV (f:=fun s:List (List Int)×Int=>Z12_L1 (e,true) s.1 s.2) (s:=([],0)) (r:=e.map Tensor.Dims) (fun k=>((e.take k).map Tensor.Dims,(k:Int))) e.length (fun k hk=>by
    simp only [Z12_L1]
    rw [if_pos (by simp; omega),if_pos (by omega),if_pos (by simp; omega),cA (by unfold cS; omega),List.take_succ_eq_append_getElem hk,List.map_append,cC hk]
    rfl) (by
    simp only [Z12_L1]
    rw [if_neg (by simp),List.take_length]) rfl]
   rfl
  have i:(e.map Tensor.Dims).length=a.Nodes.length:=by rw [List.length_map]; exact B
  have h:∀ k:Nat,k<a.Nodes.length→eL (ix (e.map Tensor.Dims) (k:Int)):=fun k hk=>by
   rw [(md (out:=e) (by omega) (by omega)).1]
   exact (a3 _ (bI (by omega))).d
  have J:=mW a (e.map Tensor.Dims) b (2 ^ a.Nodes.length)
  rw [E,aP,zI l i q h,if_pos (by omega),zJ l i q h]
  exact ⟨_,rfl,rfl,by omega⟩
theorem pb (a:Graph)(b:Int)(i:Cap25 a):Z3i a b=some true:=by
 unfold Z3i
 rw [rl i (by omega) (by omega),aP]
 by_cases h:gI (ml a) 1048576<0
 ·rw [if_pos (by simpa using h)]
 ·have e:=C3 h
  obtain ⟨x,k1,l,j⟩:=nV e b
  rw [if_neg (by simpa using h),nI a e,aP]
  have:=tf (f:=fun g=>Z9 g b) (g:=fun g=>Z6 g b) e j l k1
  rw [nI a e] at this
  exact this
end Go.Proofs.YtoffdamdpmeoiaaGreatDoor
