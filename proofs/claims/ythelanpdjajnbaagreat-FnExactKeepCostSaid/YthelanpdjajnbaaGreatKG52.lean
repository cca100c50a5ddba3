import Derived.Test.YthelanpdjajnbaaGreatKG29
import Derived.Test.YthelanpdjajnbaaGreatKC0
set_option linter.unusedVariables false
set_option linter.unusedSimpArgs false
namespace Go.Proofs.YthelanpdjajnbaaGreat
open Go Go.Pg
theorem Ax {g:Graph}(h:SmGraph g):GC g:=by
 have b:(1048576:Nat)<cD:=by decide
 have a:=h.Nodes
 exact ⟨Nat.lt_of_le_of_lt a.1 b,Nat.lt_of_le_of_lt h.Outs b,fun n m=>Nat.lt_of_le_of_lt (a.2 n m).Args b,fun n m=>Nat.lt_of_le_of_lt (a.2 n m).Dims b,fun n m=>Nat.lt_of_le_of_lt (a.2 n m).Ints b,fun n m=>Nat.lt_of_le_of_lt (a.2 n m).Data b,fun n m=>(a.2 n m).Form⟩
theorem Ay {g:Graph}(h:¬ gC (ly g) 1048576<0):SmGraph g:=pY (by unfold gC at h; split at h<;>omega)
def GA (g:Graph):Prop:=g.Nodes.length≤200∧∀ k:Nat,k<g.Nodes.length→(ix g.Nodes (k:Int)).Args.length≤6∧∀ a∈(ix g.Nodes (k:Int)).Args,0≤a∧a<(k:Int)
theorem Az {g:Graph}{j:List Tensor}(i:g.Nodes.length≤200)(h:AJ g g.Nodes.length j):GA g:=by
 refine ⟨i,fun k e=>?_⟩
 obtain ⟨a,b,_⟩:=h k e
 exact ⟨lx a,b⟩
def Inc (p:List Int):Prop:=∀ i j:Nat,i<j→j<p.length→ix p (i:Int)<ix p (j:Int)
theorem y7 {p:List Int}(h:∀ i:Nat,i+1<p.length→ix p (i:Int)<ix p ((i+1:Nat):Int)):Inc p:=by
 intro i j a b
 induction j with
 | zero=>omega
 | succ j ih =>
  have:=h j b
  by_cases e:i=j
  ·subst e; exact this
  ·exact Int.lt_trans (ih (by omega) (by omega)) this
theorem Inc.tail {x:Int}{p:List Int}(h:Inc (x::p)):Inc p:=by
 intro i j a b
 have:=h (i+1) (j+1) (by omega) (by simpa using b)
 simpa [ix] using this
theorem Inc.head {x:Int}{p:List Int}(h:Inc (x::p)):∀ y∈p,x<y:=by
 intro y b
 obtain ⟨k,a,rfl⟩:=List.getElem_of_mem b
 have:=h 0 (k+1) (by omega) (by simpa using a)
 simpa [ix,a] using this
theorem BX {i j:Nat}(g:i≤1048576)(h:j≤1048576):aH ((IntKind.wrap .u64 (aH ((i:Int)+(j:Int)))) / 2 ^ (1:Int).toNat)=(((i+j) / 2:Nat):Int):=by
 have a:aH ((i:Int)+(j:Int))=((i+j:Nat):Int):=by rw [aW (by omega) (by omega)]; omega
 have b:IntKind.wrap .u64 ((i+j:Nat):Int)=((i+j:Nat):Int):=by
  unfold IntKind.wrap
  simp [IntKind.bits,IntKind.signed]
  omega
 have e:(2:Int) ^ (1:Int).toNat=2:=rfl
 rw [a,b,e,aW (by omega) (by omega)]; omega
theorem n' {p:List Int}{t:Int}(g:p.length≤1048576)(a:Inc p):∀ (d i j:Nat),j - i≤d→i≤j→j≤p.length→(∀ m:Nat,m<i→ix p (m:Int)<t)→(∀ m:Nat,j≤m→m<p.length→t≤ix p (m:Int)) →
  ∃ r:Nat,aR (fun s:Int×Int=>Z0m_L1 p t s.1 s.2) ((i:Int),(j:Int))=some (r:Int)∧r≤p.length∧(∀ m:Nat,m<r→ix p (m:Int)<t)∧∀ m:Nat,r≤m→m<p.length→t≤ix p (m:Int)
 | d,i,j,hd,hij,hj,h1,h2=>by
  by_cases c:i<j
  ·cases d with
   | zero=>omega
   | succ d =>
    obtain ⟨h,l⟩:∃ h,h=(i+j) / 2:=⟨_,rfl⟩
    have u:i≤h∧h<j:=by omega
    have st:Z0m_L1 p t (i:Int) (j:Int)=some (.inl (if ix p (h:Int)<t then (((h+1:Nat):Int),(j:Int)) else ((i:Int),(h:Int)))):=by
     simp only [Z0m_L1]
     rw [BX (by omega) (by omega),← l,if_pos (by simp; omega),if_pos (by omega)]
     unfold Z3b Z2i
     simp only [Option.bind_some,ky,bL,cond_false,Bool.false_and,Bool.false_or]
     rw [bZ (by unfold cD; omega)]
     by_cases q:ix p (h:Int)<t
     ·rw [if_pos q]; simp [bL,q]
     ·rw [if_neg q]; simp [bL,q]
    by_cases q:ix p (h:Int)<t
    ·rw [if_pos q] at st
     rw [eU (f:=fun s:Int×Int=>Z0m_L1 p t s.1 s.2) st]
     refine n' g a d (h+1) j (by omega) (by omega) hj (fun m B=>?_) h2
     by_cases e:m=h
     ·subst e; exact q
     ·exact Int.lt_trans (a m h (by omega) (by omega)) q
    ·rw [if_neg q] at st
     rw [eU (f:=fun s:Int×Int=>Z0m_L1 p t s.1 s.2) st]
     refine n' g a d i h (by omega) (by omega) (by omega) h1 (fun m B b=>?_)
     by_cases e:m=h
     ·subst e; omega
     ·have:=a h m (by omega) b; omega
  ·have:i=j:=by omega
   subst this
   refine ⟨i,eA ?_,hj,h1,h2⟩
   simp only [Z0m_L1]
   rw [if_neg (by simp)]
theorem lz {p:List Int}{t:Int}(D:p.length≤1048576)(u:Inc p):Z1p t p=some (decide (t∈p)):=by
 unfold Z1p Z0m
 obtain ⟨r,F,I,B,G⟩:=n' (t:=t) D u p.length 0 p.length (by omega) (by omega) (Nat.le_refl _) (fun m a=>absurd a (Nat.not_lt_zero _)) (fun m h1 h2=>by omega)
 have j:aR (fun s:Int×Int=>Z0m_L1 p t s.1 s.2) (0,(p.length:Int))=some (r:Int):=F
 rw [j]
 simp only [Option.bind_some,Z0m_J1]
 rw [if_pos (fun h=>by simp at h; omega),if_pos (fun h _=>by simp at h; omega)]
 have g:∀ x:Int,Z2a x=some false:=fun x=>by unfold Z2a; rw [ky]
 have l:∀ b:Bool,bL b (some false)=some false:=fun b=>by cases b<;>rfl
 rw [g,g,l]
 simp only [Option.bind_some,Bool.and_false,l,Bool.false_and,Bool.or_false]
 congr 1
 by_cases c:r<p.length
 ·rw [decide_eq_true (by omega:(r:Int)<(p.length:Int)),Bool.true_and]
  by_cases e:ix p (r:Int)=t
  ·rw [decide_eq_true (by rw [← e]; exact bF c)]; simpa using e
  ·rw [decide_eq_false]
   ·simpa using e
   ·intro a
    obtain ⟨m,i,rfl⟩:=List.getElem_of_mem a
    have E:=b' i
    rcases Nat.lt_trichotomy m r with q | q | q
    ·have:=B m q; omega
    ·subst q; exact e E
    ·have:=u r m q i
     have:=G r (Nat.le_refl _) c
     omega
 ·rw [decide_eq_false (by omega:¬ (r:Int)<(p.length:Int)),Bool.false_and,decide_eq_false]
  intro a
  obtain ⟨m,i,rfl⟩:=List.getElem_of_mem a
  have:=B m (by omega)
  rw [b' i] at this
  omega
def hX (p:List Int)(k:Int):Int:=((p.filter fun x=>decide (x<k)).length:Int)
theorem kg {p:List Int}(g:p.length≤1048576)(k:Int):Z03 p k=some (hX p k):=by
 unfold Z03
 rw [eQ (f:=fun s:Int×Int=>Z03_L1 p k s.1 s.2) (r:=hX p k) (fun i=>(hX (p.take i) k,(i:Int))) p.length (fun i a=>by
  have e:0≤hX (p.take i) k∧hX (p.take i) k≤1048576:=by
   unfold hX
   have:=List.length_filter_le (fun x=>decide (x<k)) (p.take i)
   rw [List.length_take] at this
   omega
  have b:hX (p.take (i+1)) k=if ix p (i:Int)<k then hX (p.take i) k+1 else hX (p.take i) k:=by
   unfold hX
   rw [List.take_succ_eq_append_getElem a,List.filter_append,List.length_append,← b' a]
   by_cases q:ix p (i:Int)<k<;>simp [q]
  simp only [Z03_L1,Z03_J2]
  rw [if_pos (by simp; omega),if_pos (by omega),bZ (by unfold cD; omega),b]
  by_cases q:ix p (i:Int)<k
  ·rw [if_pos (decide_eq_true q),if_pos q,aW (by omega) (by omega)]
  ·rw [if_neg (by simpa using q),if_neg q]) (by
  simp only [Z03_L1]
  rw [if_neg (by simp),List.take_length]) (s:=(0,0)) rfl]
 rfl
theorem wt {p:List Int}(e:p.length≤1048576)(x:Int):Z0o p x=some (decide (x∈p)):=by
 unfold Z0o
 have:=eI p (fun s:Int=>Z0o_L1 p x s) (fun i=>i) (fun y=>!(y==x)) (.inl true) (.inr ())
  (fun k b=>by
   simp only [Z0o_L1]
   rw [if_pos (by simp; omega),if_pos (by omega),bZ (by unfold cD; omega)]
   cases (ix p (k:Int)==x)<;>rfl)
  (by simp only [Z0o_L1]; rw [if_neg (by simp)])
 rw [this]
 by_cases c:x∈p
 ·have:(p.all fun y=>!(y==x))=false:=by
   rw [List.all_eq_false]
   exact ⟨x,c,by simp⟩
  rw [this]; simp [c]
 ·have:(p.all fun y=>!(y==x))=true:=by
   rw [List.all_eq_true]
   intro y a
   have:y≠x:=fun z=>c (z▸a)
   simpa using this
  rw [this]; simp [c,Z0o_J1]
theorem mX:∀ {p:List Int},Inc p→∀ k:Int,hX p (k+1)=hX p k+if k∈p then 1 else 0
 | [],_,k=>by simp [hX]
 | x::p,h,k=>by
  have a:=mX h.tail k
  unfold hX at a ⊢
  by_cases e:x=k
  ·subst e
   have g:x ∉ p:=fun z=>by have:=h.head x z; omega
   rw [if_neg g] at a
   simp only [List.filter_cons,List.mem_cons,true_or,if_true]
   rw [if_pos (by simp; omega),if_neg (by simp)]
   simp only [List.length_cons]
   omega
  ·have b:k∈x::p↔k∈p:=by
    rw [List.mem_cons]; exact ⟨fun z=>z.resolve_left (fun w=>e w.symm),.inr⟩
   simp only [List.filter_cons,b]
   by_cases q:x<k
   ·rw [if_pos (by simp; omega),if_pos (by simpa using q)]
    simp only [List.length_cons]
    omega
   ·rw [if_neg (by simp; omega),if_neg (by simpa using q)]
    exact a
theorem lQ {p:List Int}(D:p.length≤1048576)(r:Inc p)(B:∀ x∈p,0≤x){n:Nat}(J:n≤200):∃ s,Z0a (n:Int) p=some s∧s.length=n∧∀ k:Nat,k<n→ix s (k:Int)=hX p (k:Int):=by
 unfold Z0a
 rw [if_pos (by omega)]
 obtain ⟨s,E,F⟩:=gX (f:=fun s:List Int×Int×Int=>Z0a_L1 (n:Int) p s.1 s.2.1 s.2.2)
  (fun i z=>z.2.2=(i:Int)∧z.2.1=hX p (i:Int)∧z.1.length=n∧∀ k:Nat,k<i→ix z.1 (k:Int)=hX p (k:Int)) n (Post:=fun s=>s.length=n∧∀ k:Nat,k<n→ix s (k:Int)=hX p (k:Int))
  (fun i z I l=>by
   obtain ⟨x,a,j⟩:=z
   obtain ⟨rfl,h1,h2,b⟩:=l
   dsimp only at h1 h2 b
   subst h1
   have G:0≤hX p (i:Int)∧hX p (i:Int)≤1048576:=by
    unfold hX
    have:=List.length_filter_le (fun x=>decide (x<(i:Int))) p
    omega
   have g:=mX r (i:Int)
   have h:∀ k:Nat,k<i+1→ix (x.set i (hX p (i:Int))) (k:Int)=hX p (k:Int):=by
    intro k m
    by_cases e:k=i
    ·subst e; rw [ws (by omega)]
    ·rw [nw (fun z=>e z.symm)]; exact b k (by omega)
   simp only [Z0a_L1,Z0a_J2]
   rw [if_pos (by simp; omega),if_pos (by simp; omega),lz D r]
   simp only [Option.bind_some,Int.toNat_natCast]
   rw [bZ (by unfold cD; omega),aW (n:=hX p (i:Int)+1) (by omega) (by omega)]
   by_cases q:(i:Int)∈p
   ·rw [if_pos (decide_eq_true q)]
    rw [if_pos q] at g
    exact ⟨_,rfl,rfl,by rw [← g]; rfl,by simpa using h2,h⟩
   ·rw [if_neg (by simpa using q)]
    rw [if_neg q] at g
    have u:hX p ((i+1:Nat):Int)=hX p (i:Int):=by rw [← Int.add_zero (hX p (i:Int)),← g]; rfl
    exact ⟨_,rfl,rfl,u.symm,by simpa using h2,h⟩)
  (fun z l=>by
   obtain ⟨x,a,j⟩:=z
   obtain ⟨rfl,h1,h2,b⟩:=l
   simp only [Z0a_L1]
   rw [if_neg (by simp)]
   exact ⟨x,rfl,h2,b⟩)
  (s:=(List.replicate (n:Int).toNat 0,0,0)) ⟨rfl,by
   have:(p.filter fun x=>decide (x<(0:Int)))=[]:=by
    rw [List.filter_eq_nil_iff]
    intro x h
    have:=B x h
    simp; omega
   show (0:Int)=hX p 0
   unfold hX; rw [this]; rfl,by simp,fun k m=>absurd m (Nat.not_lt_zero _)⟩
 rw [E]
 exact ⟨s,rfl,F⟩
def re (g:Graph)(p:List Int)(k:Nat):Bool:=!(((decide (ix p (k:Int)<0))||(decide (ix p (k:Int)≥(g.Nodes.length:Int))))||((decide ((k:Int)>0))&&(decide (ix p (aH ((k:Int) - 1))≥ix p (k:Int)))))
theorem AA {g:Graph}{p:List Int}(b:p.length≤1048576):aR (fun s:Int=>Zc_L1 g p s) 0=some (if (List.range p.length).all (re g p) then .inr () else .inl false):=by
 refine gM p.length (fun s:Int=>Zc_L1 g p s) (fun i=>i) (re g p) (.inl false) (.inr ()) (fun k a=>?_) ?_
 ·simp only [Zc_L1]
  rw [if_pos (by simp; omega),if_pos (by omega),if_pos (fun _ h=>by simp at h; rw [aW (by omega) (by omega)]; omega),bZ (by unfold cD; omega)]
  unfold re
  cases (((decide (ix p (k:Int)<0))||(decide (ix p (k:Int)≥(g.Nodes.length:Int))))||((decide ((k:Int)>0))&&(decide (ix p (aH ((k:Int) - 1))≥ix p (k:Int)))))<;>rfl
 ·simp only [Zc_L1]
  rw [if_neg (by simp)]
theorem BY:Z14_L1=Zc_L1:=rfl
theorem wu {g:Graph}{p:List Int}(m:p.length≤1048576)(h:(List.range p.length).all (re g p)=true):Inc p∧∀ x∈p,0≤x∧x<(g.Nodes.length:Int):=by
 have b:∀ k:Nat,k<p.length→(0≤ix p (k:Int)∧ix p (k:Int)<(g.Nodes.length:Int))∧((k:Int)>0→ix p (aH ((k:Int) - 1))<ix p (k:Int)):=by
  intro k b
  have:=List.all_eq_true.1 h k (List.mem_range.2 b)
  unfold re at this
  simp only [Bool.not_eq_true',Bool.or_eq_false_iff,Bool.and_eq_false_iff,decide_eq_false_iff_not] at this
  refine ⟨by omega,fun j=>?_⟩
  rcases this.2 with q | q
  ·exact absurd j q
  ·omega
 refine ⟨y7 fun i e=>?_,fun x l=>?_⟩
 ·have:=(b (i+1) e).2 (by omega)
  rwa [aW (by omega) (by omega),show (((i+1:Nat):Int) - 1)=(i:Int) by omega] at this
 ·obtain ⟨k,a,rfl⟩:=List.getElem_of_mem l
  have:=(b k a).1
  rwa [b' a] at this
def jZ (g:Graph)(p:List Int)(k a:Int):Bool:=((hX p a != hX p k)&&!(decide (a∈p)))&&!(((ix g.Nodes a).Op==1)||((ix g.Nodes a).Op==2))
theorem AL {α:Type}[Inhabited α](b:Bool)(x:α):bL b (some x)=some (cond b x default):=by cases b<;>rfl
theorem BZ {g:Graph}(l:GA g){p:List Int}(b:p.length≤1048576){k:Nat}(q:k<g.Nodes.length):aR (fun s:Int=>Zc_L3 g p (k:Int) s) 0=some (if (ix g.Nodes (k:Int)).Args.all (fun a=>!jZ g p (k:Int) a) then .inr () else .inl false):=by
 obtain ⟨h,e⟩:=l.2 k q
 refine eI (ix g.Nodes (k:Int)).Args (fun s:Int=>Zc_L3 g p (k:Int) s) (fun i=>i) (fun a=>!jZ g p (k:Int) a) (.inl false) (.inr ()) (fun j m=>?_) ?_
 ·have r:=e _ (bF m)
  simp only [Zc_L3]
  rw [if_pos (by omega),if_pos (by simp; omega),if_pos (by omega),kg b,kg b,wt b]
  simp only [Option.bind_some,AL]
  rw [if_pos (fun _=>by omega)]
  unfold Z20 jZ
  simp only [AL,Option.bind_some]
  rw [bZ (by unfold cD; omega)]
  cases (hX p (ix (ix g.Nodes (k:Int)).Args (j:Int)) != hX p (k:Int))<;>cases (decide (ix (ix g.Nodes (k:Int)).Args (j:Int)∈p))<;>cases (((ix g.Nodes (ix (ix g.Nodes (k:Int)).Args (j:Int))).Op==1)||((ix g.Nodes (ix (ix g.Nodes (k:Int)).Args (j:Int))).Op==2))<;>rfl
 ·simp only [Zc_L3]
  rw [if_pos (by omega),if_neg (by simp)]
theorem B' {g:Graph}(e:GA g){p s:List Int}(r:p.length≤1048576)(B:Inc p)(h1:s.length=g.Nodes.length)(h2:∀ k:Nat,k<g.Nodes.length→ix s (k:Int)=hX p (k:Int)){k:Nat}(h:k<g.Nodes.length):aR (fun z:Int=>Z04_L2 g p s (k:Int) z) 0=some (if (ix g.Nodes (k:Int)).Args.all (fun a=>!jZ g p (k:Int) a) then .inr () else .inl false):=by
 obtain ⟨m,l⟩:=e.2 k h
 have D:=e.1
 refine eI (ix g.Nodes (k:Int)).Args (fun z:Int=>Z04_L2 g p s (k:Int) z) (fun i=>i) (fun a=>!jZ g p (k:Int) a) (.inl false) (.inr ()) (fun j q=>?_) ?_
 ·have u:=l _ (bF q)
  obtain ⟨c,b⟩:∃ c:Nat,ix (ix g.Nodes (k:Int)).Args (j:Int)=(c:Int):=⟨_,(Int.toNat_of_nonneg u.1).symm⟩
  simp only [Z04_L2]
  rw [if_pos (by simp; omega),if_pos (by omega),b,if_pos (by omega),if_pos (by omega),h2 c (by omega),h2 k h,lz r B]
  simp only [Option.bind_some,AL]
  rw [if_pos (fun _=>by omega)]
  unfold Z21 jZ
  simp only [AL,Option.bind_some]
  rw [bZ (by unfold cD; omega)]
  cases (hX p (c:Int) != hX p (k:Int))<;>cases (decide ((c:Int)∈p))<;>cases (((ix g.Nodes (c:Int)).Op==1)||((ix g.Nodes (c:Int)).Op==2))<;>rfl
 ·simp only [Z04_L2]
  rw [if_neg (by simp)]
theorem y8 {g:Graph}(b:GA g){p:List Int}(e:p.length≤1048576):Zc g p=some ((List.range p.length).all (re g p)&&(List.range g.Nodes.length).all fun k=>(ix g.Nodes (k:Int)).Args.all (fun a=>!jZ g p (k:Int) a)):=by
 have j:=b.1
 unfold Zc
 rw [AA e]
 by_cases c:(List.range p.length).all (re g p)=true
 ·rw [if_pos c,c]
  simp only [Option.bind_some,Zc_J1,Bool.true_and]
  rw [gM g.Nodes.length (fun s:Int=>Zc_L2 g p s) (fun i=>i) (fun k=>(ix g.Nodes (k:Int)).Args.all (fun a=>!jZ g p (k:Int) a)) (.inl false) (.inr ()) (fun k h=>by
   simp only [Zc_L2]
   rw [if_pos (by simp; omega),BZ b e h]
   by_cases q:(ix g.Nodes (k:Int)).Args.all (fun a=>!jZ g p (k:Int) a)=true
   ·rw [if_pos q,if_pos q]
    simp only [Option.bind_some,Zc_J3]
    rw [bZ (by unfold cD; omega)]
   ·rw [if_neg q,if_neg q]
    rfl) (by
   simp only [Zc_L2]
   rw [if_neg (by simp)])]
  by_cases q:((List.range g.Nodes.length).all fun k=>(ix g.Nodes (k:Int)).Args.all (fun a=>!jZ g p (k:Int) a))=true
  ·rw [if_pos q,q]; rfl
  ·rw [if_neg q]
   have:((List.range g.Nodes.length).all fun k=>(ix g.Nodes (k:Int)).Args.all (fun a=>!jZ g p (k:Int) a))=false:=by simpa using q
   rw [this]; rfl
 ·rw [if_neg c]
  have:(List.range p.length).all (re g p)=false:=by simpa using c
  rw [this]; rfl
theorem y9 {g:Graph}(h:GA g){p:List Int}(b:p.length≤1048576)(e:Z2j g=some true):Z14 g p=some ((List.range p.length).all (re g p)&&(List.range g.Nodes.length).all fun k=>(ix g.Nodes (k:Int)).Args.all (fun a=>!jZ g p (k:Int) a)):=by
 have r:=h.1
 unfold Z14
 rw [e,aY,if_neg (by simp),BY,AA b]
 by_cases c:(List.range p.length).all (re g p)=true
 ·obtain ⟨j,l⟩:=wu b c
  rw [if_pos c,c]
  simp only [Option.bind_some,Z14_J1,Z22,Z04,Bool.true_and]
  obtain ⟨s,B,D,s3⟩:=lQ b j (fun x u=>(l x u).1) r
  rw [B]
  simp only [Option.bind_some]
  rw [gM g.Nodes.length (fun z:Int=>Z04_L1 g p s z) (fun i=>i) (fun k=>(ix g.Nodes (k:Int)).Args.all (fun a=>!jZ g p (k:Int) a)) (.inl false) (.inr ()) (fun k m=>by
   simp only [Z04_L1]
   rw [if_pos (by simp; omega),if_pos (by omega),B' h b j D s3 m]
   by_cases q:(ix g.Nodes (k:Int)).Args.all (fun a=>!jZ g p (k:Int) a)=true
   ·rw [if_pos q,if_pos q]
    simp only [Option.bind_some,Z04_J2]
    rw [bZ (by unfold cD; omega)]
   ·rw [if_neg q,if_neg q]
    rfl) (by
   simp only [Z04_L1]
   rw [if_neg (by simp)])]
  by_cases q:((List.range g.Nodes.length).all fun k=>(ix g.Nodes (k:Int)).Args.all (fun a=>!jZ g p (k:Int) a))=true
  ·rw [if_pos q,q]; rfl
  ·rw [if_neg q]
   have:((List.range g.Nodes.length).all fun k=>(ix g.Nodes (k:Int)).Args.all (fun a=>!jZ g p (k:Int) a))=false:=by simpa using q
   rw [this]; rfl
 ·rw [if_neg c]
  have:(List.range p.length).all (re g p)=false:=by simpa using c
  rw [this]; rfl
theorem o0 (p:List Int)(k:Int):0≤hX p k∧hX p k≤(p.length:Int):=by
 unfold hX
 have:=List.length_filter_le (fun x=>decide (x<k)) p
 omega
theorem qb {p:List Int}(b:Inc p)(a:∀ x∈p,0≤x):∀ k:Nat,hX p (k:Int)≤(k:Int)
 | 0=>by
  unfold hX
  rw [List.filter_eq_nil_iff.2 (fun x g=>by have:=a x g; simp; omega)]
  simp
 | k+1=>by
  have h1:=qb b a k
  have h2:=mX b (k:Int)
  have e:((k+1:Nat):Int)=(k:Int)+1:=by omega
  rw [e,h2]
  split<;>omega
theorem vE {p:List Int}{n:Nat}(h:∀ x∈p,x<(n:Int)):hX p (n:Int)=(p.length:Int):=by
 unfold hX
 rw [List.filter_eq_self.2 (fun x a=>by have:=h x a; simpa using this)]
def gG (p:List Int)(k:Nat):Nat:=(hX p (k:Int)).toNat
theorem p7 (p:List Int)(k:Nat):((gG p k:Nat):Int)=hX p (k:Int):=Int.toNat_of_nonneg (o0 p _).1
noncomputable def zz (g:Graph)(a:List (List Int))(k:Nat):Int:=if ((ix g.Nodes (k:Int)).Op==1||(ix g.Nodes (k:Int)).Op==2)=true then 0 else pr (ix a (k:Int))
def cK (z:Nat→Int)(kp:Nat→Bool)(k:Nat):Int:=if kp k=true then z k else 0
def cW (z:Nat→Int)(kp:Nat→Bool)(st:Nat→Nat)(last:Nat)(k:Nat):Int:=z k+if kp k=true then 0 else if st k=last then 0 else z k
def cR (z:Nat→Int)(kp:Nat→Bool)(st:Nat→Nat)(s k:Nat):Int:=if st k=s then (if kp k=true then 0 else z k) else 0
theorem AM {z:Nat→Int}{kp:Nat→Bool}{st:Nat→Nat}{last:Nat}{k:Nat}(h:0≤z k∧z k≤4096)(s:Nat):(0≤cK z kp k∧cK z kp k≤4096)∧(0≤cW z kp st last k∧cW z kp st last k≤8192)∧(0≤cR z kp st s k∧cR z kp st s k≤4096):=by
 unfold cK cW cR
 refine ⟨?_,?_,?_⟩
 ·split<;>omega
 ·split<;>(try split)<;>omega
 ·split<;>(try split)<;>omega
theorem vF {z:Nat→Int}{kp:Nat→Bool}{st:Nat→Nat}{n q s:Nat}(h:∀ k,k<n→st k≤q)(b:q<s):su (cR z kp st s) n=0 :=
 mg fun k a=>by unfold cR; rw [if_neg (by have:=h k a; omega)]
theorem vG {z:Nat→Int}{kp:Nat→Bool}{st:Nat→Nat}{n q m:Nat}(h:∀ k,k<n→st k≤q)(a:q≤m):mx (fun s=>su (cR z kp st s) n) (m+1)=mx (fun s=>su (cR z kp st s) n) (q+1):=by
 have:=rb (f:=fun s=>su (cR z kp st s) n) (q:=q+1) (m - q) fun s b=>vF h (by omega)
 rw [← this]; congr 1; omega
theorem C0 {z:Nat→Int}{kp:Nat→Bool}{st:Nat→Nat}{last n m:Nat}(a:∀ k,k<n→0≤z k∧z k≤4096)(g:m≤n)(h:n≤200)(s:Nat):(0≤su (cK z kp) m∧su (cK z kp) m≤819200)∧(0≤su (cW z kp st last) m∧su (cW z kp st last) m≤1638400)∧(0≤su (cR z kp st s) m∧su (cR z kp st s) m≤819200):=by
 have h1:=oZ (f:=cK z kp) (n:=m) (B:=4096) fun k b=>(AM (kp:=kp) (st:=st) (last:=last) (a k (by omega)) s).1
 have h2:=oZ (f:=cW z kp st last) (n:=m) (B:=8192) fun k b=>(AM (kp:=kp) (st:=st) (last:=last) (a k (by omega)) s).2.1
 have e:=oZ (f:=cR z kp st s) (n:=m) (B:=4096) fun k b=>(AM (kp:=kp) (st:=st) (last:=last) (a k (by omega)) s).2.2
 omega
def pt (st:Nat→Nat)(f:Nat→Int)(s k:Nat):Int:=if st k=s then f k else 0
theorem wv {st:Nat→Nat}{f:Nat→Int}{n:Nat}{B:Int}(a:∀ k,k<n→0≤f k∧f k≤B){m:Nat}(h:m≤n)(q:Nat):0≤su (fun s=>su (pt st f s) m) q∧su (fun s=>su (pt st f s) m) q≤B*(m:Int):=by
 have b:∀ q:Nat,∀ m:Nat,su (fun s=>su (pt st f s) m) q=su (fun k=>if st k<q then f k else 0) m:=by
  intro q m
  induction m with
  | zero=>exact mg fun _ _=>rfl
  | succ m ih =>
   have e:su (fun s=>su (pt st f s) (m+1)) q=su (fun s=>su (pt st f s) m+pt st f s m) q:=oY fun _ _=>rfl
   rw [e,q8,ih]
   simp only [su]
   congr 1
   exact qa (f m) (st m) q
 rw [b]
 exact oZ fun k g=>by
  have:=a k (by omega)
  by_cases c:st k<q
  ·rw [if_pos c]; omega
  ·rw [if_neg c]; omega
theorem o3 {f:Nat→Int}:∀ {n m:Nat},(∀ k,k<n→0≤f k)→m≤n→0≤su f m∧su f m≤su f n
 | 0,m,h,hm=>by
  have:m=0:=by omega
  subst this; exact ⟨Int.le_refl _,Int.le_refl _⟩
 | n+1,m,h,hm=>by
  by_cases e:m=n+1
  ·subst e
   have:=o3 (n:=n) (m:=n) (fun k a=>h k (by omega)) (Nat.le_refl _)
   have:=h n (by omega)
   simp only [su]; omega
  ·have:=o3 (n:=n) (m:=m) (fun k a=>h k (by omega)) (by omega)
   have:=h n (by omega)
   simp only [su]; omega
def gQ (st:Nat→Nat)(f:Nat→Int)(n s k:Nat):Int:=su (fun x=>su (pt st f x) n) s+su (pt st f s) k
theorem p8 {st:Nat→Nat}{f:Nat→Int}{n:Nat}{B:Int}(a:∀ k,k<n→0≤f k∧f k≤B){k:Nat}(e:k≤n)(s:Nat):0≤gQ st f n s k∧gQ st f n s k≤B*(n:Int):=by
 have h1:=wv (st:=st) a (Nat.le_refl n) s
 have h2:=wv (st:=st) a (Nat.le_refl n) (s+1)
 have g:=o3 (f:=pt st f s) (n:=n) (m:=k) (fun j b=>by unfold pt; have:=a j b; split<;>omega) e
 unfold gQ
 simp only [su] at h2
 omega
theorem mY (st:Nat→Nat)(f:Nat→Int)(n s:Nat):gQ st f n s n=gQ st f n (s+1) 0:=by
 unfold gQ
 simp only [su]; omega
theorem nx {st:Nat→Nat}{f:Nat→Int}{n q:Nat}(h:∀ k,k<n→st k<q):gQ st f n q 0=su f n:=by
 unfold gQ
 simp only [su]
 rw [Int.add_zero]
 exact r0 st f q h
def hL (p:List Int)(k:Nat):Bool:=decide ((k:Int)∈p)
theorem rf {g:Graph}{a:List (List Int)}{k:Nat}(h:eK (ix a (k:Int))):0≤zz g a k∧zz g a k≤4096:=by
 have h1:=fG h.2.1
 have h2:=h.2.2
 unfold zz
 split<;>omega
theorem qc (a b:Nat):(((a:Nat):Int) != ((b:Nat):Int))=!(decide (a=b)):=by
 by_cases h:a=b
 ·subst h; simp
 ·have:((a:Nat):Int)≠((b:Nat):Int):=by omega
  simp [h]; omega
theorem vH {g:Graph}{b:List (List Int)}{p:List Int}(m:p.length≤1048576)(q:b.length=g.Nodes.length){k:Nat}(E:k<g.Nodes.length)(F:g.Nodes.length≤200)(i:eK (ix b (k:Int)))(last s:Nat){K W S:Int}(r:0≤K∧K≤1000000)(B:0≤W∧W≤2000000)(u:0≤S∧S≤1000000) :
  Z7_L2 g b p (last:Int) (s:Int) K W S (k:Int)=some (.inl (K+pt (gG p) (cK (zz g b) (hL p)) s k,W+pt (gG p) (cW (zz g b) (hL p) (gG p) last) s k,S+cR (zz g b) (hL p) (gG p) s k,((k+1:Nat):Int))):=by
 have D:=rf (g:=g) i
 simp only [Z7_L2,Z7_J6]
 rw [if_pos (by simp; omega),kg m,aY,← p7,if_pos (fun _=>by omega),bZ (by unfold cD; omega),qc]
 by_cases a:gG p k=s
 ·rw [decide_eq_true a]
  unfold Z20 pt cK cW cR
  rw [if_pos a,if_pos a,if_pos a]
  simp only [Bool.not_true,Bool.not_false,Au,aY,Bool.false_or]
  by_cases lf:((ix g.Nodes (k:Int)).Op==1||(ix g.Nodes (k:Int)).Op==2)=true
  ·have j:zz g b k=0:=by unfold zz; rw [if_pos lf]
   rw [if_pos lf,j]
   simp
  ·have j:pr (ix b (k:Int))=zz g b k:=by unfold zz; rw [if_neg lf]
   rw [if_neg lf,if_pos (by omega),j3 (by have:=i.1; unfold cD; omega),if_pos i.2,aY,wt m,aY,j]
   show (if hL p k=true then _ else _)=_
   by_cases h:hL p k=true
   ·rw [if_pos h,if_pos h,if_pos h,if_pos h,aW (by omega) (by omega),aW (by omega) (by omega)]
    simp
   ·rw [if_neg h,if_neg h,if_neg h,if_neg h,qc]
    by_cases l:gG p k=last
    ·rw [if_pos l,decide_eq_true (by omega:s=last),if_neg (by simp),aW (by omega) (by omega),aW (by omega) (by omega)]
     simp
    ·rw [if_neg l,decide_eq_false (by omega:¬ s=last),if_pos (by simp),aW (n:=W+zz g b k) (by omega) (by omega),aW (by omega) (by omega),aW (by omega) (by omega)]
     simp [Int.add_assoc]
 ·rw [decide_eq_false a]
  unfold pt cR
  rw [if_neg a,if_neg a,if_neg a]
  have e:bL (!!false) (Z20 (ix g.Nodes (k:Int)))=some false:=rfl
  rw [e,aY,if_pos (by simp)]
  simp
theorem ub {g:Graph}{a:List (List Int)}{p:List Int}(D:p.length≤1048576)(l:a.length=g.Nodes.length)(j:g.Nodes.length≤200)(h:∀ k:Nat,k<g.Nodes.length→eK (ix a (k:Int))){last:Nat}(e:hX p (aH ((g.Nodes.length:Int) - 1))=(last:Int)) :
  Z7 g a p=some (su (cK (zz g a) (hL p)) g.Nodes.length+mx (fun s=>su (cR (zz g a) (hL p) (gG p) s) g.Nodes.length) (p.length+1),su (cW (zz g a) (hL p) (gG p) last) g.Nodes.length):=by
 have m:∀ k,k<g.Nodes.length→0≤zz g a k∧zz g a k≤4096:=fun k b=>rf (h k b)
 have i:∀ k,k<g.Nodes.length→gG p k<p.length+1:=fun k _=>by have:=(o0 p (k:Int)).2; have:=p7 p k; omega
 have u:=fun k (b:k<g.Nodes.length) s=>AM (kp:=hL p) (st:=gG p) (last:=last) (m k b) s
 have I:=fun k (b:k≤g.Nodes.length) s=>p8 (st:=gG p) (f:=cK (zz g a) (hL p)) (B:=4096) (fun k b=>(u k b 0).1) b s
 have J:=fun k (b:k≤g.Nodes.length) s=>p8 (st:=gG p) (f:=cW (zz g a) (hL p) (gG p) last) (B:=8192) (fun k b=>(u k b 0).2.1) b s
 have q:=fun k (b:k≤g.Nodes.length) s=>(C0 (kp:=hL p) (st:=gG p) (last:=last) m b j s).2.2
 unfold Z7
 rw [kg D,aY,e]
 rw [eQ (f:=fun s:Int×Int×Int×Int=>Z7_L1 g a p (last:Int) s.1 s.2.1 s.2.2.1 s.2.2.2) (s:=(0,0,0,0))
  (r:=(gQ (gG p) (cK (zz g a) (hL p)) g.Nodes.length (p.length+1) 0,gQ (gG p) (cW (zz g a) (hL p) (gG p) last) g.Nodes.length (p.length+1) 0,mx (fun s=>su (cR (zz g a) (hL p) (gG p) s) g.Nodes.length) (p.length+1)))
  (fun s=>(gQ (gG p) (cK (zz g a) (hL p)) g.Nodes.length s 0,gQ (gG p) (cW (zz g a) (hL p) (gG p) last) g.Nodes.length s 0,mx (fun s=>su (cR (zz g a) (hL p) (gG p) s) g.Nodes.length) s,(s:Int))) (p.length+1)
  (fun s L=>by
   simp only [Z7_L1]
   rw [if_pos (by simp; omega),eQ (f:=fun z:Int×Int×Int×Int=>Z7_L2 g a p (last:Int) (s:Int) z.1 z.2.1 z.2.2.1 z.2.2.2) (s:=(gQ (gG p) (cK (zz g a) (hL p)) g.Nodes.length s 0,gQ (gG p) (cW (zz g a) (hL p) (gG p) last) g.Nodes.length s 0,0,0))
    (r:=(gQ (gG p) (cK (zz g a) (hL p)) g.Nodes.length s g.Nodes.length,gQ (gG p) (cW (zz g a) (hL p) (gG p) last) g.Nodes.length s g.Nodes.length,su (cR (zz g a) (hL p) (gG p) s) g.Nodes.length))
    (fun k=>(gQ (gG p) (cK (zz g a) (hL p)) g.Nodes.length s k,gQ (gG p) (cW (zz g a) (hL p) (gG p) last) g.Nodes.length s k,su (cR (zz g a) (hL p) (gG p) s) k,(k:Int))) g.Nodes.length
    (fun k b=>by
     have E:=I k (by omega) s
     have F:=J k (by omega) s
     have G:=q k (by omega) s
     dsimp only
     rw [vH D l b j (h k b) last s (by omega) (by omega) (by omega)]
     unfold gQ
     simp only [su,Int.add_assoc])
    (by simp only [Z7_L2]; rw [if_neg (by simp)]) rfl,aY]
   simp only [Z7_J7,Z7_J8]
   rw [bZ (by unfold cD; omega),mY,mY]
   simp only [mx]
   by_cases c:su (cR (zz g a) (hL p) (gG p) s) g.Nodes.length>mx (fun s=>su (cR (zz g a) (hL p) (gG p) s) g.Nodes.length) s
   ·rw [if_pos (by simpa using c),if_pos c]
   ·rw [if_neg (by simpa using c),if_neg c])
  (by simp only [Z7_L1]; rw [if_neg (by simp; omega)]) rfl,aY]
 simp only [Z7_J9]
 rw [nx i,nx i]
 have E:=(C0 (kp:=hL p) (st:=gG p) (last:=last) m (Nat.le_refl _) j 0).1
 have F:=ra (fun s=>su (cR (zz g a) (hL p) (gG p) s) g.Nodes.length) (p.length+1)
 have G:=ua (f:=fun s=>su (cR (zz g a) (hL p) (gG p) s) g.Nodes.length) (B:=819200) (by omega) (n:=p.length+1) fun s _=>(q _ (Nat.le_refl _) s).2
 rw [aW (by omega) (by omega)]
theorem AB {xs:List Int}{n:Nat}(i:xs.length=n+1)(g:n≤200)(b:0≤ix xs 0):Z16 xs=some (mx (fun j=>ix xs (j:Int)) (n+1)):=by
 unfold Z16
 rw [if_neg (by simp; omega),if_pos (by omega),eQ (f:=fun s:Int×Int=>Z16_L1 xs s.1 s.2) (s:=(ix xs 0,1)) (r:=mx (fun j=>ix xs (j:Int)) (n+1)) (fun j=>(mx (fun j=>ix xs (j:Int)) (j+1),((j+1:Nat):Int))) n
  (fun j h=>by
   simp only [Z16_L1]
   rw [if_pos (by simp; omega),if_pos (by omega),bZ (by unfold cD; omega)]
   rfl)
  (by simp only [Z16_L1]; rw [if_neg (by simp; omega)])
  (by
   have e:mx (fun j=>ix xs (j:Int)) (0+1)=ix xs 0:=by
    show (if ix xs ((0:Nat):Int)>0 then ix xs ((0:Nat):Int) else 0)=ix xs 0
    have a:((0:Nat):Int)=0:=rfl
    rw [a]; split<;>omega
   rw [e]; rfl),aY]
 rfl
theorem vJ {g:Graph}{b:List (List Int)}{p s:List Int}(M:p.length≤1048576)(F:Inc p)(I:∀ x∈p,0≤x)(O:b.length=g.Nodes.length)(h1:s.length=g.Nodes.length)(h2:∀ k:Nat,k<g.Nodes.length→ix s (k:Int)=hX p (k:Int)){k:Nat}(L:k<g.Nodes.length)(Z:g.Nodes.length≤200)(m:eK (ix b (k:Int))){last:Nat}(i:hX p (((g.Nodes.length - 1:Nat):Nat):Int)=(last:Int)){room:List Int}(G:room.length=g.Nodes.length+1)(D:∀ j:Nat,j<g.Nodes.length+1→0≤ix room (j:Int)∧ix room (j:Int)≤1000000){K W:Int}(T:0≤K∧K≤1000000)(U:0≤W∧W≤2000000) :
  ∃ a,Zj_L1 g b p s room K W (k:Int)=some (.inl (a,K+cK (zz g b) (hL p) k,W+cW (zz g b) (hL p) (gG p) last k,((k+1:Nat):Int)))∧a.length=g.Nodes.length+1∧∀ j:Nat,j<g.Nodes.length+1→ix a (j:Int)=ix room (j:Int)+cR (zz g b) (hL p) (gG p) j k:=by
 have Y:=rf (g:=g) m
 have E:gG p k<g.Nodes.length+1:=by have:=qb F I k; have:=p7 p k; omega
 have q:∀ z:Int,z=zz g b k→∃ a,Zj_J3 g p s room K W (k:Int) z=some (.inl (a,K+cK (zz g b) (hL p) k,W+cW (zz g b) (hL p) (gG p) last k,((k+1:Nat):Int)))∧a.length=g.Nodes.length+1∧∀ j:Nat,j<g.Nodes.length+1→ix a (j:Int)=ix room (j:Int)+cR (zz g b) (hL p) (gG p) j k:=by
  rintro _ rfl
  have u:((List.replicate (aH ((g.Nodes.length:Int)+1)).toNat (0:Int)).length:Int)=((g.Nodes.length+1:Nat):Int):=by
   rw [bZ (by unfold cD; omega)]; simp
  have r:aH ((s.length:Int) - 1)=((g.Nodes.length - 1:Nat):Int):=by rw [aW (by omega) (by omega)]; omega
  unfold Zj_J3 Zj_J4 cK cW
  rw [lz M F,aY,bZ (by unfold cD; omega)]
  by_cases h:hL p k=true
  ·have B:decide ((k:Int)∈p)=true:=h
   rw [if_pos B,if_pos h,if_pos h,aW (by omega) (by omega),aW (by omega) (by omega)]
   refine ⟨room,by simp,G,fun j J=>?_⟩
   unfold cR
   rw [if_pos h]
   split<;>omega
  ·have B:¬ decide ((k:Int)∈p)=true:=h
   have hx:=D (gG p k) E
   rw [if_neg B,if_neg h,if_neg h,if_pos (by omega),h2 k L,← p7,u,if_pos (by omega),uu,r,if_pos (by omega),h2 _ (by omega),i,qc,Int.toNat_natCast,aW (n:=ix room (gG p k:Int)+zz g b k) (by omega) (by omega),aW (n:=W+zz g b k) (by omega) (by omega),aW (n:=W+zz g b k+zz g b k) (by omega) (by omega)]
   refine ⟨room.set (gG p k) (ix room (gG p k:Int)+zz g b k),?_,by simpa using G,fun j J=>?_⟩
   ·by_cases l:gG p k=last
    ·rw [if_pos l,decide_eq_true l,if_neg (by simp)]; simp
    ·rw [if_neg l,decide_eq_false l,if_pos (by simp)]; simp [Int.add_assoc]
   ·unfold cR
    rw [if_neg h]
    by_cases e:gG p k=j
    ·subst e
     rw [ws (by omega),if_pos rfl]
    ·rw [nw e,if_neg e,Int.add_zero]
 simp only [Zj_L1]
 rw [if_pos (by simp; omega),if_pos (by omega),if_pos (by omega),kq (by have:=m.1; unfold cD; omega) m.2,aY]
 unfold Z21
 rw [aY]
 by_cases lf:((ix g.Nodes (k:Int)).Op==1||(ix g.Nodes (k:Int)).Op==2)=true
 ·rw [if_pos lf]
  exact q 0 (by unfold zz; rw [if_pos lf])
 ·rw [if_neg lf]
  exact q _ (by unfold zz; rw [if_neg lf])
theorem qd {g:Graph}{a:List (List Int)}{p:List Int}(hl:p.length≤1048576)(O:Inc p)(h0:∀ x∈p,0≤x∧x<(g.Nodes.length:Int))(U:a.length=g.Nodes.length)(G:g.Nodes.length≤200)(q:∀ k:Nat,k<g.Nodes.length→eK (ix a (k:Int))){last:Nat}(i:hX p (((g.Nodes.length - 1:Nat):Nat):Int)=(last:Int)) :
  Zj g a p=some (su (cK (zz g a) (hL p)) g.Nodes.length+mx (fun s=>su (cR (zz g a) (hL p) (gG p) s) g.Nodes.length) (p.length+1),su (cW (zz g a) (hL p) (gG p) last) g.Nodes.length):=by
 have hz:∀ k,k<g.Nodes.length→0≤zz g a k∧zz g a k≤4096:=fun k l=>rf (q k l)
 have h:∀ x∈p,0≤x:=fun x Z=>(h0 x Z).1
 have bR:=fun k (l:k≤g.Nodes.length) s=>C0 (kp:=hL p) (st:=gG p) (last:=last) hz l G s
 obtain ⟨s,s1,s2,s3⟩:=lQ hl O h G
 have L:aH ((g.Nodes.length:Int)+1)=((g.Nodes.length+1:Nat):Int):=bZ (by unfold cD; omega)
 unfold Zj
 rw [s1,aY,if_pos (by rw [L]; omega)]
 obtain ⟨r,r1,r2⟩:=gX (f:=fun z:(List Int)×Int×Int×Int=>Zj_L1 g a p s z.1 z.2.1 z.2.2.1 z.2.2.2) (s:=(List.replicate (aH ((g.Nodes.length:Int)+1)).toNat (0:Int),0,0,0))
  (fun k z=>z.2.2.2=(k:Int)∧z.2.1=su (cK (zz g a) (hL p)) k∧z.2.2.1=su (cW (zz g a) (hL p) (gG p) last) k∧z.1.length=g.Nodes.length+1∧∀ j:Nat,j<g.Nodes.length+1→ix z.1 (j:Int)=su (cR (zz g a) (hL p) (gG p) j) k) g.Nodes.length
  (Post:=fun r=>r.2.1=su (cK (zz g a) (hL p)) g.Nodes.length∧r.2.2=su (cW (zz g a) (hL p) (gG p) last) g.Nodes.length∧r.1.length=g.Nodes.length+1∧∀ j:Nat,j<g.Nodes.length+1→ix r.1 (j:Int)=su (cR (zz g a) (hL p) (gG p) j) g.Nodes.length)
  (fun k z l M=>by
   obtain ⟨room,K,W,j⟩:=z
   obtain ⟨u,D,E,F,m⟩:=M
   dsimp only at u D E F m
   subst u D E
   have b:=fun j=>bR k (by omega) j
   obtain ⟨a0,q1,I,J⟩:=vJ (room:=room) (K:=su (cK (zz g a) (hL p)) k) (W:=su (cW (zz g a) (hL p) (gG p) last) k) hl O h U s2 s3 l G (q k l) i F (fun j e=>by rw [m j e]; have:=(b j).2.2; omega) (by have:=(b 0).1; omega) (by have:=(b 0).2.1; omega)
   refine ⟨_,q1,rfl,rfl,rfl,I,fun j e=>?_⟩
   dsimp only
   rw [J j e,m j e]; rfl)
  (fun z M=>by
   obtain ⟨room,K,W,j⟩:=z
   obtain ⟨u,D,E,F,m⟩:=M
   dsimp only at u D E F m
   subst u
   refine ⟨(room,K,W),?_,D,E,F,m⟩
   simp only [Zj_L1]
   rw [if_neg (by simp)])
  (by
   refine ⟨rfl,rfl,rfl,by rw [L]; simp,fun j e=>?_⟩
   dsimp only
   rw [L,b' (by simpa using e)]; simp [su])
 obtain ⟨room,K,W⟩:=r
 obtain ⟨I,J,q4,q5⟩:=r2
 dsimp only at I J q4 q5
 subst I J
 rw [r1,aY]
 simp only [Zj_J5]
 have z0:ix room 0=su (cR (zz g a) (hL p) (gG p) 0) g.Nodes.length:=q5 0 (by omega)
 have b:=fun j=>bR g.Nodes.length (Nat.le_refl _) j
 have T:p.length≤g.Nodes.length:=by
  have h3:=vE (p:=p) (n:=g.Nodes.length) fun x Z=>(h0 x Z).2
  have h4:=qb O h g.Nodes.length
  omega
 have Y:∀ k,k<g.Nodes.length→gG p k≤p.length:=fun k _=>by have:=(o0 p (k:Int)).2; have:=p7 p k; omega
 have hm:mx (fun j=>ix room (j:Int)) (g.Nodes.length+1)=mx (fun s=>su (cR (zz g a) (hL p) (gG p) s) g.Nodes.length) (p.length+1):=by
  rw [p6 (g:=fun s=>su (cR (zz g a) (hL p) (gG p) s) g.Nodes.length) fun j e=>q5 j e]
  exact vG Y T
 rw [AB q4 G (by rw [z0]; exact (b 0).2.2.1),aY,hm]
 have b2:=ra (fun s=>su (cR (zz g a) (hL p) (gG p) s) g.Nodes.length) (p.length+1)
 have b3:=ua (f:=fun s=>su (cR (zz g a) (hL p) (gG p) s) g.Nodes.length) (B:=819200) (by omega) (n:=p.length+1) fun s _=>(b s).2.2.2
 have b1:=(b 0).1
 rw [aW (by omega) (by omega)]
theorem nb {a:Graph}(T:SmGraph a){p:List Int}(i:p.length≤1048576):∃ x,Z2r a p=some x∧Z2k a p=some x:=by
 obtain ⟨e,Z,u,h1,h2,L⟩:=oW (Ax T)
 have g1:Z36 a=some u:=by unfold Z36; rw [h1]; rfl
 have D:Z2j a=some u:=by unfold Z2j; rw [h2]; rfl
 cases u with
 | false =>
  unfold Z2r Z2k Z2s Z14
  rw [g1,D]
  exact ⟨(0,0),rfl,rfl⟩
 | true =>
  obtain ⟨I,J,a3,a4,a5,U,Y⟩:=L rfl
  have F:=Az a5 a4
  obtain ⟨B,m⟩:∃ B:Bool,B=((List.range p.length).all (re a p)&&(List.range a.Nodes.length).all fun k=>(ix a.Nodes (k:Int)).Args.all (fun x=>!jZ a p (k:Int) x)):=⟨_,rfl⟩
  have G:=y9 F i D
  have k1:Z2s a p=some B:=by
   unfold Z2s
   rw [g1,aY,Au,y8 F i,aY,Bool.true_and,m]
  rw [← m] at G
  unfold Z2r Z2k
  rw [k1,G,aY,aY]
  cases B with
  | false=>exact ⟨(0,0),rfl,rfl⟩
  | true =>
   have g:(List.range p.length).all (re a p)=true:=by
    cases h:(List.range p.length).all (re a p) with
    | true=>rfl
    | false=>rw [h] at m; simp at m
   obtain ⟨O,E⟩:=wu i g
   subst I
   have M:Z0v a=some (e.map Tensor.Dims):=by
    unfold Z0v
    rw [h1,aY]
    rw [eQ (f:=fun s:List (List Int)×Int=>Z0v_L1 (e,true) s.1 s.2) (s:=([],0)) (r:=e.map Tensor.Dims) (fun k=>((e.take k).map Tensor.Dims,(k:Int))) e.length (fun k g=>by
     simp only [Z0v_L1]
     rw [if_pos (by simp; omega),if_pos (by omega),if_pos (by simp; omega),bZ (by unfold cD; omega),List.take_succ_eq_append_getElem g,List.map_append,b' g]
     rfl) (by
     simp only [Z0v_L1]
     rw [if_neg (by simp),List.take_length]) rfl]
    rfl
   have l:(e.map Tensor.Dims).length=a.Nodes.length:=by rw [List.length_map]; exact J
   have j:∀ k:Nat,k<a.Nodes.length→eK (ix (e.map Tensor.Dims) (k:Int)):=fun k g=>by
    rw [(lm (out:=e) (by omega) (by omega)).1]
    exact (a3 _ (bF (by omega))).d
   have q:hX p (aH ((a.Nodes.length:Int) - 1))=hX p (((a.Nodes.length - 1:Nat):Nat):Int):=by
    by_cases c:a.Nodes.length=0
    ·have:p=[]:=by
      cases p with
      | nil=>rfl
      | cons x t=>have:=E x (List.mem_cons_self ..); omega
     subst this; rfl
    ·rw [aW (by omega) (by omega)]; congr 1; omega
   obtain ⟨last,b⟩:=Int.eq_ofNat_of_zero_le (o0 p (((a.Nodes.length - 1:Nat):Nat):Int)).1
   rw [M,h2]
   simp only [Bool.not_true,Bool.false_eq_true,if_false,aY,Z22]
   rw [ub i l a5 j (q.trans b),qd i O E l a5 j b]
   exact ⟨_,rfl,rfl⟩
theorem o4 (a:Graph)(p:List Int)(e:Cap25 a)(g:l2 p):Z3h a p=some true:=by
 unfold Z3h
 by_cases hl:p.length≤1048576
 ·rw [if_neg (by simp; omega),pZ e (by omega) (by omega),aY]
  by_cases h:gC (ly a) 1048576<0
  ·rw [if_pos (by simpa using h)]
  ·have b:=Ay h
   obtain ⟨x,k1,i⟩:=nb b hl
   rw [if_neg (by simpa using h),u7 a b,aY,rI p hl,aY,k1,aY,aY,aY,i,aY,if_neg (by simp),aY,u9 a b,aY,if_neg (by simp),aY,qZ p hl,aY]
   rfl
 ·rw [if_pos (by simp; omega)]
end Go.Proofs.YthelanpdjajnbaaGreat
