import Derived.Test.YtmpnollfdpdipaaGreatGG1
import Derived.KernelRfl
set_option linter.unusedVariables false
set_option linter.unusedSimpArgs false
namespace Go.Proofs.YtmpnollfdpdipaaGreat
open Go Go.Pg
theorem xg {ds is:List Int}{j:Nat}{m x:Int}(a:j<ds.length)(h:IV (ds.set j m) is)(b:0≤x)(h1:x<ix ds (j:Int)):IV ds (is.set j x):=by
 induction ds generalizing is j with
 | nil=>simp at a
 | cons d ds ih=>cases j with
  | zero=>cases is with
   | nil=>exact h.elim
   | cons i is=>exact ⟨⟨b,h1⟩,h.2⟩
  | succ j=>cases is with
   | nil=>exact h.elim
   | cons i is=>rw [dK] at h1; exact ⟨h.1,ih (by simpa using a) h.2 h1⟩
theorem md {ds is:List Int}{j:Nat}{m x:Int}(a:j<ds.length)(h:IV ds is)(b:0≤x)(h1:x<m):IV (ds.set j m) (is.set j x):=by
 induction ds generalizing is j with
 | nil=>simp at a
 | cons d ds ih=>cases j with
  | zero=>cases is with
   | nil=>exact h.elim
   | cons i is=>exact ⟨⟨b,h1⟩,h.2⟩
  | succ j=>cases is with
   | nil=>exact h.elim
   | cons i is=>exact ⟨h.1,ih (by simpa using a) h.2⟩
theorem qH {ds is:List Int}(h:IV ds is)(k:Nat):IV (ds.take k) (is.take k):=by
 induction ds generalizing is k with
 | nil=>cases is with
  | nil=>simp [IV]
  | cons=>exact h.elim
 | cons d ds ih=>cases is with
  | nil=>exact h.elim
  | cons i is=>cases k with
   | zero=>simp [IV]
   | succ k=>exact ⟨h.1,ih h.2 k⟩
def mJ (ds:List Int)(a:Int)(xs:List Int):Prop:=0≤a∧a<(ds.length:Int)∧xs≠[]∧(∀ x∈xs,0≤x∧x<ix ds a)∧eC (ds.set a.toNat (xs.length:Int))
instance (ds:List Int)(a:Int)(xs:List Int):Decidable (mJ ds a xs):=by unfold mJ; infer_instance
def lV (ds:List Int)(a:Int)(xs:List Int)(n:Int):Prop:=0≤a∧a<(ds.length:Int)∧(xs.length:Int)=ix ds a∧(∀ x∈xs,0≤x∧x<n)∧eC (ds.set a.toNat n)
instance (ds:List Int)(a:Int)(xs:List Int)(n:Int):Decidable (lV ds a xs n):=by unfold lV; infer_instance
def jP (ds:List Int)(a b f g:Int):Int:=b+ix ds a+(ix ds a - 1)*g+f
def mK (ds:List Int)(a b f g:Int):Prop:=0≤a∧a<(ds.length:Int)∧0≤b∧b≤4096∧0≤f∧f≤4096∧0≤g∧g≤4096∧eC (ds.set a.toNat (jP ds a b f g))
instance (ds:List Int)(a b f g:Int):Decidable (mK ds a b f g):=by unfold mK; infer_instance
theorem kS {t:Tensor}(h:TT t)(a:Int):Z1g t a=some (decide (0≤a∧a<(t.Dims.length:Int))):=by
 unfold Z1g
 rw [pE h]
 simp only [Option.bind_some,Bool.true_and]
 congr 1
 rw [Bool.eq_iff_iff]
 simp
theorem jC {xs:List Int}(h:xs.length≤6){j:Nat}(a:j<xs.length)(x:Int):Z0j xs (j:Int) x=some (xs.set j x):=by
 unfold Z0j
 rw [hR (by omega)]
 simp only [Option.bind_some]
 rw [if_pos (by omega),Int.toNat_natCast]
theorem jZ {xs:List Int}(b:xs.length<cB)(n:Int):Z0k xs n=some (decide (∀ x∈xs,0≤x∧x<n)):=by
 unfold Z0k
 have:=eO xs (fun s:Int=>Z0k_L1 xs n s) (fun i=>i) (fun x=>!(decide (x<0)||decide (x≥n))) (.inl false) (.inr ())
  (fun k g=>by
   simp only [Z0k_L1]
   rw [if_pos (by simp; omega),if_pos (by omega),bX (by omega)]
   cases (decide (ix xs (k:Int)<0)||decide (ix xs (k:Int)≥n))<;>rfl)
  (by simp only [Z0k_L1]; rw [if_neg (by simp)])
 rw [this]
 have e:(xs.all fun x=>!(decide (x<0)||decide (x≥n)))=decide (∀ x∈xs,0≤x∧x<n):=by
  rw [Bool.eq_iff_iff]
  simp only [List.all_eq_true,decide_eq_true_eq,Bool.not_eq_true',Bool.or_eq_false_iff,decide_eq_false_iff_not]
  exact ⟨fun h x a=>by have:=h x a; omega,fun h x a=>by have:=h x a; omega⟩
 rw [e]
 by_cases c:∀ x∈xs,0≤x∧x<n
 ·rw [decide_eq_true c]; rfl
 ·rw [decide_eq_false c]; rfl
theorem tg {t:Tensor}(h:TT t){a:Int}{xs:List Int}(M:xs.length<cB) :
  (mJ t.Dims a xs→∃ d,Z0s t a xs=some ⟨t.Dims.set a.toNat (xs.length:Int),d⟩∧TOk (t.Dims.set a.toNat (xs.length:Int)) d)∧(¬ mJ t.Dims a xs→Z0s t a xs=some ⟨[],[]⟩):=by
 have F:=kw h
 unfold Z0s
 rw [kS h]
 simp only [Option.bind_some]
 by_cases g:(0≤a∧a<(t.Dims.length:Int))∧xs≠[]
 ·obtain ⟨g1,D⟩:=g
  have Y:xs.length≠0:=fun e=>D (List.eq_nil_of_length_eq_zero e)
  obtain ⟨j,rfl⟩:=Int.eq_ofNat_of_zero_le g1.1
  have l:j<t.Dims.length:=by omega
  have B:(!decide (0≤(j:Int)∧(j:Int)<(t.Dims.length:Int))||(xs.length:Int)==0)=false:=by rw [decide_eq_true g1]; simp [D]
  rw [if_pos (fun _=>g1),B]
  simp only [bQ,Bool.not_false,cond_true,Bool.false_or]
  rw [jZ M]
  simp only [Option.bind_some,Int.toNat_natCast]
  by_cases g4:∀ x∈xs,0≤x∧x<ix t.Dims (j:Int)
  ·rw [decide_eq_true g4,if_neg (by simp),jC F.2 l]
   simp only [Option.bind_some]
   rw [f' (by simp [cB]; omega)]
   by_cases g5:eC (t.Dims.set j (xs.length:Int))
   ·simp only [decide_eq_true g5,Option.bind_some,Bool.not_true,Bool.false_eq_true,if_false]
    refine ⟨fun _=>?_,fun q=>absurd ⟨g1.1,g1.2,D,g4,by simpa using g5⟩ q⟩
    rw [kO g5]
    simp only [Option.bind_some]
    have Z:=g5.2.2
    obtain ⟨r,O,T⟩:=kR (f:=fun s:List Int×Int=>Z0s_L1 t (j:Int) xs (t.Dims.set j (xs.length:Int)) ⟨t.Dims.set j (xs.length:Int),List.replicate (pr (t.Dims.set j (xs.length:Int))).toNat 0⟩ s.1 s.2) (Post:=fun r=>RG (pr (t.Dims.set j (xs.length:Int))).toNat r) (pr (t.Dims.set j (xs.length:Int))).toNat (pr (t.Dims.set j (xs.length:Int))).toNat
     (fun k U x E=>by
      have G:=gZ g5.2.1 (k:Int)
      have b:=jA (t.Dims.set j (xs.length:Int)) (k:Int)
      have m:=G.mem (j:=j) (by rw [b]; simpa using l)
      rw [xa l] at m
      obtain ⟨q,J⟩:=Int.eq_ofNat_of_zero_le m.1
      have i:=g4 _ (bE (xs:=xs) (k:=q) (by omega))
      have u:=xg l G i.1 i.2
      obtain ⟨y,L,I⟩:=nd h u
      simp only [Z0s_L1]
      rw [if_pos (by simp; omega),jB g5 (by omega) (by omega)]
      simp only [Option.bind_some]
      rw [if_pos (by rw [b]; simp; omega),if_pos (by omega),jC (by rw [b]; simpa using F.2) (by rw [b]; simpa using l)]
      simp only [Option.bind_some,J,L]
      rw [if_pos (by simp; omega),bX (by unfold cB; omega)]
      exact ⟨_,rfl,E.set (h.x y I) _⟩)
     (fun x E=>by simp only [Z0s_L1]; rw [if_neg (by simp)]; exact ⟨x,rfl,E⟩) (RG.rep _)
    rw [O]
    exact ⟨r,rfl,hD g5 T⟩
   ·simp only [decide_eq_false g5,Option.bind_some,Bool.not_false,if_true]
    exact ⟨fun q=>absurd (by simpa using q.2.2.2.2) g5,fun _=>by trivial⟩
  ·rw [decide_eq_false g4,if_pos (by simp)]
   exact ⟨fun q=>absurd q.2.2.2.1 g4,fun _=>by trivial⟩
 ·have B:(!decide (0≤a∧a<(t.Dims.length:Int))||(xs.length:Int)==0)=true:=by
   by_cases q:0≤a∧a<(t.Dims.length:Int)
   ·have:xs=[]:=by
     refine Classical.byContradiction fun z=>g ⟨q,z⟩
    subst this; simp
   ·rw [decide_eq_false q]; rfl
  rw [if_pos (fun q=>by rw [B] at q; cases q),B]
  simp only [bQ,Bool.not_true,cond_false,Option.bind_some,Bool.true_or,if_true]
  exact ⟨fun q=>absurd ⟨⟨q.1,q.2.1⟩,q.2.2.1⟩ g,fun _=>by trivial⟩
theorem rt {t:Tensor}(h:TT t){a n:Int}{xs:List Int}(M:xs.length<cB) :
  (lV t.Dims a xs n→∃ d,Z0u t a xs n=some ⟨t.Dims.set a.toNat n,d⟩∧TOk (t.Dims.set a.toNat n) d)∧(¬ lV t.Dims a xs n→Z0u t a xs n=some ⟨[],[]⟩):=by
 have I:=kw h
 unfold Z0u
 rw [kS h]
 simp only [Option.bind_some]
 by_cases g1:0≤a∧a<(t.Dims.length:Int)
 ·obtain ⟨j,rfl⟩:=Int.eq_ofNat_of_zero_le g1.1
  have B:j<t.Dims.length:=by omega
  rw [decide_eq_true g1,if_pos (fun _=>g1)]
  simp only [bQ,Bool.not_true,Bool.false_or,Int.toNat_natCast]
  by_cases g2:(xs.length:Int)=ix t.Dims (j:Int)
  ·have i:((xs.length:Int) != ix t.Dims (j:Int))=false:=by simp [g2]
   rw [i]
   simp only [Bool.not_false,cond_true,Bool.false_or]
   rw [jZ M]
   simp only [Option.bind_some]
   by_cases g4:∀ x∈xs,0≤x∧x<n
   ·rw [decide_eq_true g4,if_neg (by simp),jC I.2 B]
    simp only [Option.bind_some]
    rw [f' (by simp [cB]; omega)]
    by_cases g5:eC (t.Dims.set j n)
    ·simp only [decide_eq_true g5,Option.bind_some,Bool.not_true,Bool.false_eq_true,if_false]
     refine ⟨fun _=>?_,fun q=>absurd ⟨g1.1,g1.2,g2,g4,by simpa using g5⟩ q⟩
     rw [kO g5]
     simp only [Option.bind_some]
     have Z:=h.d.2.2
     obtain ⟨r,O,T⟩:=kR (f:=fun s:List Int×Int=>Z0u_L1 t (j:Int) xs ⟨t.Dims.set j n,List.replicate (pr (t.Dims.set j n)).toNat 0⟩ s.1 s.2) (Post:=fun r=>RG (pr (t.Dims.set j n)).toNat r) (pr (t.Dims.set j n)).toNat t.Data.length
      (fun k Y x g=>by
       have D:=gZ h.d.2.1 (k:Int)
       have F:=jA t.Dims (k:Int)
       have u:=D.mem (j:=j) (by omega)
       obtain ⟨q,G⟩:=Int.eq_ofNat_of_zero_le u.1
       have e:=g4 _ (bE (xs:=xs) (k:=q) (by omega))
       have b:=md (m:=n) B D e.1 e.2
       have tk:TT ⟨t.Dims.set j n,x⟩:=hD g5 g
       obtain ⟨y,J,U⟩:=nd (t:=⟨t.Dims.set j n,x⟩) tk b
       obtain ⟨m,E,L⟩:=nO y (ix t.Data (k:Int))
       simp only [Z0u_L1]
       rw [if_pos (by simp; omega),jB h.d (by omega) (by omega)]
       simp only [Option.bind_some]
       rw [if_pos (by omega),if_pos (by omega),jC (by omega) (by omega)]
       simp only [Option.bind_some,G,J]
       rw [if_pos (by omega),E]
       simp only [Option.bind_some]
       rw [sW (t:=⟨t.Dims.set j n,x⟩) g5 tk.l b,bX (by unfold cB; omega)]
       exact ⟨_,rfl,g.set L _⟩)
      (fun x g=>by simp only [Z0u_L1]; rw [if_neg (by simp)]; exact ⟨x,rfl,g⟩) (RG.rep _)
     rw [O]
     exact ⟨r,rfl,hD g5 T⟩
    ·simp only [decide_eq_false g5,Option.bind_some,Bool.not_false,if_true]
     exact ⟨fun q=>absurd (by simpa using q.2.2.2.2) g5,fun _=>by trivial⟩
   ·rw [decide_eq_false g4,if_pos (by simp)]
    exact ⟨fun q=>absurd q.2.2.2.1 g4,fun _=>by trivial⟩
  ·have i:((xs.length:Int) != ix t.Dims (j:Int))=true:=by simp [g2]
   rw [i]
   simp only [Bool.not_true,cond_false,Option.bind_some,Bool.true_or,if_true]
   exact ⟨fun q=>absurd q.2.2.1 g2,fun _=>by trivial⟩
 ·rw [decide_eq_false g1,if_pos (fun q=>by cases q)]
  simp only [bQ,Bool.not_false,Bool.true_or,Bool.not_true,cond_false,Option.bind_some,if_true]
  exact ⟨fun q=>absurd ⟨q.1,q.2.1⟩ g1,fun _=>by trivial⟩
theorem zZ {t:Tensor}(h:TT t){a b f g:Int} :
  (mK t.Dims a b f g→∃ d,Z0t t a b f g=some ⟨t.Dims.set a.toNat (jP t.Dims a b f g),d⟩∧TOk (t.Dims.set a.toNat (jP t.Dims a b f g)) d)∧(¬ mK t.Dims a b f g→Z0t t a b f g=some ⟨[],[]⟩):=by
 have U:=kw h
 unfold Z0t
 rw [kS h]
 simp only [Option.bind_some]
 by_cases c:(0≤a∧a<(t.Dims.length:Int))∧0≤b∧b≤4096∧0≤f∧f≤4096∧0≤g∧g≤4096
 ·obtain ⟨g1,Y,I,c3,L,i,G⟩:=c
  obtain ⟨j,rfl⟩:=Int.eq_ofNat_of_zero_le g1.1
  have D:j<t.Dims.length:=by omega
  have hm:=h.d.2.mem (bE D)
  have k0:0≤(ix t.Dims (j:Int) - 1)*g:=Int.mul_nonneg (by omega) i
  have k1:=Int.mul_le_mul (show ix t.Dims (j:Int) - 1≤4096 by omega) G i (show (0:Int)≤4096 by omega)
  have e:aH (aH (aH (b+ix t.Dims (j:Int))+aH (aH (ix t.Dims (j:Int) - 1)*g))+f)=jP t.Dims (j:Int) b f g:=by
   rw [bA (n:=b+ix t.Dims (j:Int)) (by omega) (by omega),bA (n:=ix t.Dims (j:Int) - 1) (by omega) (by omega),bA (n:=(ix t.Dims (j:Int) - 1)*g) (by omega) (by omega),bA (n:=b+ix t.Dims (j:Int)+(ix t.Dims (j:Int) - 1)*g) (by omega) (by omega),bA (by omega) (by omega)]
   rfl
  rw [if_neg (by simp; omega),if_pos g1,e,jC U.2 D]
  simp only [Option.bind_some,Int.toNat_natCast]
  rw [f' (by simp [cB]; omega)]
  by_cases g5:eC (t.Dims.set j (jP t.Dims (j:Int) b f g))
  ·simp only [decide_eq_true g5,Option.bind_some,Bool.not_true,Bool.false_eq_true,if_false]
   refine ⟨fun _=>?_,fun q=>absurd ⟨g1.1,g1.2,Y,I,c3,L,i,G,by simpa using g5⟩ q⟩
   rw [kO g5]
   simp only [Option.bind_some]
   have hp:=h.d.2.2
   obtain ⟨r,T,O⟩:=kR (f:=fun s:List Int×Int=>Z0t_L1 t (j:Int) b g ⟨t.Dims.set j (jP t.Dims (j:Int) b f g),List.replicate (pr (t.Dims.set j (jP t.Dims (j:Int) b f g))).toNat 0⟩ s.1 s.2) (Post:=fun r=>RG (pr (t.Dims.set j (jP t.Dims (j:Int) b f g))).toNat r) (pr (t.Dims.set j (jP t.Dims (j:Int) b f g))).toNat t.Data.length
    (fun k J x B=>by
     have F:=gZ h.d.2.1 (k:Int)
     have M:=jA t.Dims (k:Int)
     have E:=F.mem (j:=j) (by omega)
     have z0:0≤ix (gY t.Dims (k:Int)) (j:Int)*g:=Int.mul_nonneg E.1 i
     have z1:ix (gY t.Dims (k:Int)) (j:Int)*g≤(ix t.Dims (j:Int) - 1)*g:=Int.mul_le_mul_of_nonneg_right (by omega) i
     have Z:aH (b+aH (ix (gY t.Dims (k:Int)) (j:Int)*aH (g+1)))=b+(ix (gY t.Dims (k:Int)) (j:Int)*g+ix (gY t.Dims (k:Int)) (j:Int)):=by
      rw [bA (n:=g+1) (by omega) (by omega),Int.mul_add,Int.mul_one,bA (n:=ix (gY t.Dims (k:Int)) (j:Int)*g+ix (gY t.Dims (k:Int)) (j:Int)) (by omega) (by omega),bA (by omega) (by omega)]
     have u:=md (m:=jP t.Dims (j:Int) b f g) (x:=b+(ix (gY t.Dims (k:Int)) (j:Int)*g+ix (gY t.Dims (k:Int)) (j:Int))) D F (by omega) (by unfold jP; omega)
     have tk:TT ⟨t.Dims.set j (jP t.Dims (j:Int) b f g),x⟩:=hD g5 B
     simp only [Z0t_L1]
     rw [if_pos (by simp; omega),jB h.d (by omega) (by omega)]
     simp only [Option.bind_some]
     rw [if_pos (by omega),Z,jC (by omega) (by omega)]
     simp only [Option.bind_some]
     rw [if_pos (by omega),sW (t:=⟨t.Dims.set j (jP t.Dims (j:Int) b f g),x⟩) g5 tk.l u,bX (by unfold cB; omega)]
     exact ⟨_,rfl,B.set (h.x _ (bE J)) _⟩)
    (fun x B=>by simp only [Z0t_L1]; rw [if_neg (by simp)]; exact ⟨x,rfl,B⟩) (RG.rep _)
   rw [T]
   exact ⟨r,rfl,hD g5 O⟩
  ·simp only [decide_eq_false g5,Option.bind_some,Bool.not_false,if_true]
   exact ⟨fun q=>absurd (by simpa using q.2.2.2.2.2.2.2.2) g5,fun _=>by trivial⟩
 ·rw [if_pos (by simp only [Bool.or_eq_true,Bool.not_eq_true',decide_eq_true_eq,decide_eq_false_iff_not]; omega)]
  exact ⟨fun q=>absurd ⟨⟨q.1,q.2.1⟩,q.2.2.1,q.2.2.2.1,q.2.2.2.2.1,q.2.2.2.2.2.1,q.2.2.2.2.2.2.1,q.2.2.2.2.2.2.2.1⟩ c,fun _=>by trivial⟩
def lX (ds:List Int)(a st n:Int):Prop:=0≤a∧a<(ds.length:Int)∧a≠(ds.length:Int) - 1∧1≤st∧1≤n∧n≤4096∧ix ds ((ds.length:Int) - 1)≤n∧(n - ix ds ((ds.length:Int) - 1)) / st+1=ix ds a∧eC ((ds.set a.toNat n).take (ds.length - 1))
instance (ds:List Int)(a st n:Int):Decidable (lX ds a st n):=by unfold lX; infer_instance
theorem kT {α:Type}(xs:List α)(k:Nat):sub xs 0 (k:Int)=xs.take k:=by simp [sub]
theorem xh {t:Tensor}(h:TT t){a st n:Int} :
  (lX t.Dims a st n→∃ d,Z0r t a st n=some ⟨(t.Dims.set a.toNat n).take (t.Dims.length - 1),d⟩∧TOk ((t.Dims.set a.toNat n).take (t.Dims.length - 1)) d)∧(¬ lX t.Dims a st n→Z0r t a st n=some ⟨[],[]⟩):=by
 have Y:=kw h
 have w1:aH ((t.Dims.length:Int) - 1)=(t.Dims.length:Int) - 1:=bA (by omega) (by omega)
 unfold Z0r
 rw [kS h,w1]
 simp only [Option.bind_some]
 by_cases c:(0≤a∧a<(t.Dims.length:Int))∧a≠(t.Dims.length:Int) - 1∧1≤st∧1≤n∧n≤4096
 ·obtain ⟨g1,G,I,c3,L⟩:=c
  obtain ⟨j,rfl⟩:=Int.eq_ofNat_of_zero_le g1.1
  have u:j<t.Dims.length:=by omega
  obtain ⟨l,E⟩:∃ l,l=t.Dims.length - 1:=⟨_,rfl⟩
  have g:(t.Dims.length:Int) - 1=(l:Int):=by omega
  have Z:aH (l:Int)=(l:Int):=bA (by omega) (by omega)
  have hm:=h.d.2.mem (bE u)
  have a0:=h.d.2.mem (bE (xs:=t.Dims) (k:=l) (by omega))
  rw [g] at G ⊢
  rw [if_neg (by simp; omega),if_pos (by omega),if_pos (fun _=>by omega),if_pos (fun _=>g1)]
  unfold lX
  rw [g,← E]
  by_cases c5:ix t.Dims (l:Int)≤n
  ·have q0:0≤(n - ix t.Dims (l:Int)) / st:=Int.ediv_nonneg (by omega) (by omega)
   have q1:(n - ix t.Dims (l:Int)) / st≤n - ix t.Dims (l:Int):=Int.ediv_le_self _ (by omega)
   have e:aH (aH ((aH (n - ix t.Dims (l:Int))).tdiv st)+1)=(n - ix t.Dims (l:Int)) / st+1:=by
    rw [bA (n:=n - ix t.Dims (l:Int)) (by omega) (by omega),Int.tdiv_eq_ediv_of_nonneg (by omega),bA (n:=(n - ix t.Dims (l:Int)) / st) (by omega) (by omega),bA (by omega) (by omega)]
   rw [e]
   by_cases c6:(n - ix t.Dims (l:Int)) / st+1=ix t.Dims (j:Int)
   ·rw [if_neg (by simp [c6]; omega),jC Y.2 u]
    simp only [Option.bind_some,Int.toNat_natCast]
    rw [if_pos (by simp; omega),kT,f' (by simp [cB]; omega)]
    by_cases g5:eC ((t.Dims.set j n).take l)
    ·simp only [decide_eq_true g5,Option.bind_some,Bool.not_true,Bool.false_eq_true,if_false]
     refine ⟨fun _=>?_,fun q=>absurd ⟨g1.1,g1.2,G,I,c3,L,c5,c6,g5⟩ q⟩
     rw [kO g5]
     simp only [Option.bind_some]
     have hp:=h.d.2.2
     have q3:=Int.ediv_mul_le (n - ix t.Dims (l:Int)) (show st≠0 by omega)
     obtain ⟨r,U,T⟩:=kR (f:=fun s:List Int×Int=>Z0r_L1 t (j:Int) st ⟨(t.Dims.set j n).take l,List.replicate (pr ((t.Dims.set j n).take l)).toNat 0⟩ s.1 s.2) (Post:=fun r=>RG (pr ((t.Dims.set j n).take l)).toNat r) (pr ((t.Dims.set j n).take l)).toNat t.Data.length
      (fun k hk x i=>by
       have D:=gZ h.d.2.1 (k:Int)
       have M:=jA t.Dims (k:Int)
       have B:=D.mem (j:=j) (by omega)
       have F:=D.mem (j:=l) (by omega)
       have z0:0≤ix (gY t.Dims (k:Int)) (j:Int)*st:=Int.mul_nonneg B.1 (by omega)
       have z1:ix (gY t.Dims (k:Int)) (j:Int)*st≤(n - ix t.Dims (l:Int)) / st*st:=Int.mul_le_mul_of_nonneg_right (by omega) (by omega)
       have ee:aH (aH (ix (gY t.Dims (k:Int)) (j:Int)*st)+ix (gY t.Dims (k:Int)) (l:Int))=ix (gY t.Dims (k:Int)) (j:Int)*st+ix (gY t.Dims (k:Int)) (l:Int):=by
        rw [bA (n:=ix (gY t.Dims (k:Int)) (j:Int)*st) (by omega) (by omega),bA (by omega) (by omega)]
       have b:=qH (md (m:=n) (x:=ix (gY t.Dims (k:Int)) (j:Int)*st+ix (gY t.Dims (k:Int)) (l:Int)) u D (by omega) (by omega)) l
       have tk:TT ⟨(t.Dims.set j n).take l,x⟩:=hD g5 i
       obtain ⟨y,J,y2⟩:=nd (t:=⟨(t.Dims.set j n).take l,x⟩) tk b
       obtain ⟨m,O,m2⟩:=nO y (ix t.Data (k:Int))
       simp only [Z0r_L1,g,Z]
       rw [if_pos (by simp; omega),jB h.d (by omega) (by omega)]
       simp only [Option.bind_some]
       rw [if_pos (by omega),if_pos (by omega),ee,jC (by omega) (by omega)]
       simp only [Option.bind_some]
       rw [if_pos (by simp; omega),kT,J]
       simp only [Option.bind_some]
       rw [if_pos (by omega),O]
       simp only [Option.bind_some]
       rw [sW (t:=⟨(t.Dims.set j n).take l,x⟩) g5 tk.l b,bX (by unfold cB; omega)]
       exact ⟨_,rfl,i.set m2 _⟩)
      (fun x i=>by simp only [Z0r_L1]; rw [if_neg (by simp)]; exact ⟨x,rfl,i⟩) (RG.rep _)
     rw [U]
     exact ⟨r,rfl,hD g5 T⟩
    ·simp only [decide_eq_false g5,Option.bind_some,Bool.not_false,if_true]
     exact ⟨fun q=>absurd q.2.2.2.2.2.2.2.2 g5,fun _=>by trivial⟩
   ·rw [if_pos (by simp [c6])]
    exact ⟨fun q=>absurd q.2.2.2.2.2.2.2.1 c6,fun _=>by trivial⟩
  ·rw [if_pos (by simp; omega)]
   exact ⟨fun q=>absurd q.2.2.2.2.2.2.1 c5,fun _=>by trivial⟩
 ·rw [if_pos (by simp only [Bool.or_eq_true,Bool.not_eq_true',decide_eq_true_eq,decide_eq_false_iff_not,beq_iff_eq]; omega)]
  exact ⟨fun q=>absurd ⟨⟨q.1,q.2.1⟩,q.2.2.1,q.2.2.2.1,q.2.2.2.2.1,q.2.2.2.2.2.1⟩ c,fun _=>by trivial⟩
theorem xi {t:Tensor}(h:TT t){j:Nat}(l:j<t.Dims.length){is:List Int}(u:IV t.Dims is):∃ xs,Z0x t (j:Int) is=some xs∧xs.length≤4096:=by
 have I:=kw h
 have D:=u.len
 have G:=h.d.2.mem (bE l)
 unfold Z0x
 obtain ⟨r,E,F⟩:=fX (f:=fun s:List Int×Int=>Z0x_L1 t (j:Int) is s.1 s.2) (fun k s=>s.2=(k:Int)∧s.1.length=k) (ix t.Dims (j:Int)).toNat (Post:=fun r=>r.length≤4096)
  (fun k s J q=>by
   obtain ⟨x,i⟩:=s
   obtain ⟨a,g⟩:=q
   simp only at a g
   subst a
   have b:IV t.Dims (is.set j (k:Int)):=by
    have:=md (m:=ix t.Dims (j:Int)) (x:=(k:Int)) l u (by omega) (by omega)
    have e:t.Dims.set j (ix t.Dims (j:Int))=t.Dims:=by rw [bR l]; simp
    rw [e] at this; exact this
   obtain ⟨y,B,_⟩:=nd h b
   simp only [Z0x_L1]
   rw [if_pos (by omega),if_pos (by simp; omega),jC (by omega) (by omega)]
   simp only [Option.bind_some,B]
   rw [if_pos (by simp; omega),bX (by unfold cB; omega)]
   exact ⟨_,rfl,rfl,by simp [g]⟩)
  (fun s q=>by
   obtain ⟨x,i⟩:=s
   obtain ⟨a,g⟩:=q
   simp only at a g
   subst a
   simp only [Z0x_L1]
   rw [if_pos (by omega),if_neg (by simp; omega)]
   exact ⟨x,rfl,by omega⟩) (s:=([],0)) ⟨rfl,rfl⟩
 rw [E]
 exact ⟨r,rfl,F⟩
theorem z' {t:Tensor}(h:TT t){a:Int}:(0≤a∧a<(t.Dims.length:Int)→∃ d,Za t a=some ⟨t.Dims,d⟩∧TOk t.Dims d)∧(¬ (0≤a∧a<(t.Dims.length:Int))→Za t a=some ⟨[],[]⟩):=by
 have O:=kw h
 unfold Za
 rw [kS h]
 simp only [Option.bind_some]
 by_cases g1:0≤a∧a<(t.Dims.length:Int)
 ·obtain ⟨j,rfl⟩:=Int.eq_ofNat_of_zero_le g1.1
  have D:j<t.Dims.length:=by omega
  rw [decide_eq_true g1,if_neg (by simp),kO h.d]
  simp only [Option.bind_some]
  refine ⟨fun _=>?_,fun q=>absurd g1 q⟩
  have Y:=h.d.2.2
  have U:(pr t.Dims).toNat=t.Data.length:=(oR h).1.symm
  obtain ⟨r,I,J⟩:=kR (f:=fun s:List Int×Int=>Za_L1 t (j:Int) ⟨t.Dims,List.replicate (pr t.Dims).toNat 0⟩ s.1 s.2) (Post:=fun r=>RG (pr t.Dims).toNat r) (pr t.Dims).toNat t.Data.length
   (fun k T x g=>by
    have F:=gZ h.d.2.1 (k:Int)
    have l:=jA t.Dims (k:Int)
    obtain ⟨xs,E,L⟩:=xi h D F
    simp only [Za_L1]
    rw [if_pos (by simp; omega),jB h.d (by omega) (by omega)]
    simp only [Option.bind_some,E]
    obtain ⟨b,m,_⟩:=fX (f:=fun s:Bool×Int=>Za_L2 t (j:Int) (k:Int) (gY t.Dims (k:Int)) xs s.1 s.2) (fun q s=>s.2=(q:Int)) xs.length (Post:=fun _=>True)
     (fun q s M e=>by
      obtain ⟨b,i⟩:=s
      simp only at e
      subst e
      obtain ⟨u,B⟩:=jY (ix xs (q:Int))
      obtain ⟨v,G⟩:=jY (ix t.Data (k:Int))
      simp only [Za_L2,Za_J6]
      rw [if_pos (by simp; omega),if_pos (by omega),B]
      simp only [Option.bind_some]
      rw [if_pos (by omega),G]
      simp only [Option.bind_some]
      rw [if_pos (fun _ _=>by omega),bX (by unfold cB; omega)]
      split<;>exact ⟨_,rfl,rfl⟩)
     (fun s e=>by
      obtain ⟨b,i⟩:=s
      simp only at e
      subst e
      simp only [Za_L2]
      rw [if_neg (by simp)]
      exact ⟨b,rfl,trivial⟩) (s:=(true,0)) rfl
    rw [m]
    simp only [Option.bind_some,Za_J7,Za_J8]
    rw [bX (by unfold cB; omega)]
    split
    ·rw [if_pos (by simp; omega)]
     exact ⟨_,rfl,g.set (by decide) _⟩
    ·exact ⟨_,rfl,g⟩)
   (fun x g=>by simp only [Za_L1]; rw [if_neg (by simp)]; exact ⟨x,rfl,g⟩) (RG.rep _)
  rw [I]
  exact ⟨r,rfl,hD h.d J⟩
 ·rw [decide_eq_false g1,if_pos (by simp)]
  exact ⟨fun q=>absurd q g1,fun _=>by trivial⟩
theorem lG {α R:Type}{f:List α×Int→Option ((List α×Int)⊕R)}(n w a:Nat){Post:R→Prop}(x:List α)(m:∀ j:Nat,j<n→∀ y,y.length+w≤a→∃ e,f (y,(j:Int))=some (.inl (e,((j+1:Nat):Int)))∧e.length≤y.length+w)
  (l:∀ y,y.length≤x.length+n*w→∃ r,f (y,(n:Int))=some (.inr r)∧Post r) (u:x.length+n*w≤a):∃ r,aR f (x,0)=some r∧Post r :=
 fX (f:=f) (fun j s=>s.2=(j:Int)∧s.1.length≤x.length+j*w) n (fun j s h g=>by
  obtain ⟨y,i⟩:=s
  obtain ⟨rfl,b⟩:=g
  have h1:(j+1)*w≤n*w:=Nat.mul_le_mul_right w h
  rw [Nat.succ_mul] at h1
  simp only at b
  obtain ⟨e,g1,q⟩:=m j h y (by omega)
  exact ⟨_,g1,rfl,by rw [Nat.succ_mul]; simp only; omega⟩) (fun s g=>by
  obtain ⟨y,i⟩:=s
  obtain ⟨rfl,b⟩:=g
  exact l y b) (s:=(x,0)) ⟨rfl,by simp⟩
theorem nQ {xs:List Int}(h:xs.length≤6){j:Nat}(a:j<xs.length)(x:Int):Z1l xs (j:Int) x=some (xs.set j x):=by
 unfold Z1l
 rw [hH (by omega)]
 simp only [Option.bind_some]
 rw [if_pos (by omega),Int.toNat_natCast]
theorem qK {ds:List Int}(h:eC ds){j:Nat}(a:j<ds.length):Z21 ds (j:Int)=some (pr (ds.take j),ix ds (j:Int),pr (ds.drop (j+1))):=by
 have b:=h.1
 unfold Z21
 rw [if_pos (by omega),kT,ld (by simp [cB]; omega) (h.2.take j)]
 simp only [Option.bind_some]
 rw [if_pos (by omega),bX (by unfold cB; omega),if_pos (by omega),hJ,Int.toNat_natCast,ld (by simp [cB]; omega) (h.2.drop (j+1))]
 rfl
theorem nR {ds:List Int}(h:eC ds){j:Nat}(J:j<ds.length)(n:Int){l:List pair}(T:l.length≤4096):∃ ps,Z7 ds (j:Int) n l=some ps:=by
 have hn:=h.1
 unfold Z7
 rw [qK h J]
 simp only [Option.bind_some]
 obtain ⟨a,B⟩:∃ a:Nat,(a:Int)=pr (ds.take j):=⟨(pr (ds.take j)).toNat,by have:=(h.2.take j).pos; omega⟩
 obtain ⟨b,U⟩:∃ b:Nat,(b:Int)=pr (ds.drop (j+1)):=⟨(pr (ds.drop (j+1))).toNat,by have:=(h.2.drop (j+1)).pos; omega⟩
 have m:=(h.2.take j).2
 have u:=(h.2.drop (j+1)).2
 have a0:=(h.2.take j).pos
 have D:=(h.2.drop (j+1)).pos
 rw [← B] at m a0 ⊢
 rw [← U] at u D ⊢
 have k1:(a:Int)*b≤4096*4096:=Int.mul_le_mul m u (by omega) (by omega)
 have L:0≤(a:Int)*b:=Int.mul_nonneg (by omega) (by omega)
 have k3:(a:Int)*b*l.length≤4096*4096*4096:=Int.mul_le_mul k1 (by omega) (by omega) (by omega)
 have k4:0≤(a:Int)*b*l.length:=Int.mul_nonneg L (by omega)
 have M:l.length*b≤4096*4096:=Nat.mul_le_mul T (by omega)
 have E:a*(l.length*b)≤4096*(4096*4096):=Nat.mul_le_mul (by omega) M
 rw [bA (n:=(a:Int)*b) (by omega) (by omega),bA (by omega) (by omega),if_pos (by omega)]
 obtain ⟨r,e,_⟩:=lG (f:=fun s:List pair×Int=>Z7_L1 n l ((a:Int),ix ds (j:Int),(b:Int)) s.1 s.2) a (l.length*b) 8796093022208 (Post:=fun _=>True) []
  (fun i hi y G=>by
   simp only [Z7_L1,Z7_J6]
   rw [if_pos (by simp; omega),bX (by unfold cB; omega)]
   obtain ⟨r2,F,O⟩:=lG (f:=fun s:List pair×Int=>Z7_L2 n l ((a:Int),ix ds (j:Int),(b:Int)) (i:Int) s.1 s.2) l.length b 8796093022208 (Post:=fun r=>r.length≤y.length+l.length*b) y
    (fun k Z z hz=>by
     simp only [Z7_L2,Z7_J5]
     rw [if_pos (by simp; omega),if_pos (by omega),bX (by unfold cB; omega)]
     obtain ⟨r3,I,p3⟩:=lG (f:=fun s:List pair×Int=>Z7_L3 n l ((a:Int),ix ds (j:Int),(b:Int)) (i:Int) (k:Int) s.1 s.2) b 1 8796093022208 (Post:=fun r=>r.length≤z.length+b*1) z
      (fun q Y v g=>by
       simp only [Z7_L3]
       rw [if_pos (by simp; omega),if_pos (by simp; omega),bX (by unfold cB; omega)]
       exact ⟨_,rfl,by simp⟩)
      (fun v g=>by simp only [Z7_L3]; rw [if_neg (by simp)]; exact ⟨v,rfl,g⟩) (by omega)
     rw [I]
     exact ⟨_,rfl,by omega⟩)
    (fun v g=>by simp only [Z7_L2]; rw [if_neg (by simp)]; exact ⟨v,rfl,g⟩) G
   rw [F]
   exact ⟨_,rfl,O⟩)
  (fun v g=>by simp only [Z7_L1]; rw [if_neg (by simp)]; exact ⟨v,rfl,trivial⟩) (by simp; omega)
 rw [e]
 exact ⟨r,rfl⟩
theorem lg {xs:List Int}{p:Int→Prop}(i:∀ x,Decidable (p x))(h:¬ ∀ x∈xs,p x):∃ m,m<xs.length∧¬ p (ix xs (m:Int))∧∀ k:Nat,k<m→p (ix xs (k:Int)):=by
 induction xs with
 | nil=>exact absurd (fun x e=>by cases e) h
 | cons x xs ih =>
  by_cases c:p x
  ·obtain ⟨m,h1,h2,b⟩:=ih fun q=>h fun y a=>by
    rcases List.mem_cons.1 a with rfl | a
    ·exact c
    ·exact q y a
   refine ⟨m+1,by simpa using h1,by rw [dK]; exact h2,?_⟩
   intro k g
   cases k with
   | zero=>exact c
   | succ k=>rw [dK]; exact b k (by omega)
  ·exact ⟨0,by simp,c,fun k g=>by omega⟩
def Sh (o:Option (List Int×List pair×Bool))(c:Prop)[Decidable c](d:List Int):Prop:=∃ ds ps,o=some (ds,ps,decide c)∧(c→ds=d)
theorem th {ds:List Int}(h:eC ds){a:Int}{xs:List Int}(hb:xs.length<cB):Sh (Z0f ds a xs) (mJ ds a xs) (ds.set a.toNat (xs.length:Int)):=by
 have O:=h.1
 unfold Z0f
 simp only [Zk,Option.bind_some]
 by_cases c:(0≤a∧a<(ds.length:Int))∧xs≠[]∧xs.length≤4096
 ·obtain ⟨g1,B,U⟩:=c
  obtain ⟨j,rfl⟩:=Int.eq_ofNat_of_zero_le g1.1
  have I:j<ds.length:=by omega
  have Z:xs.length≠0:=fun e=>B (List.eq_nil_of_length_eq_zero e)
  rw [if_neg (by simp [B]; omega)]
  by_cases g5:∀ x∈xs,0≤x∧x<ix ds (j:Int)
  ·obtain ⟨r,G,E⟩:=fX (f:=fun s:List pair×Int=>Z0f_L1 ds (j:Int) xs s.1 s.2) (fun k s=>s.2=(k:Int)∧s.1.length=k) xs.length (Post:=fun r=>∃ l,r=.inr l∧l.length≤4096)
    (fun k s D u=>by
     obtain ⟨y,i⟩:=s
     obtain ⟨b,g⟩:=u
     simp only at b g
     subst b
     have:=g5 _ (bE D)
     simp only [Z0f_L1]
     rw [if_pos (by simp; omega),if_pos (by omega),if_pos (fun _=>g1),if_neg (by simp; omega),if_pos (by simp; omega),bX (by unfold cB; omega)]
     exact ⟨_,rfl,rfl,by simp [g]⟩)
    (fun s u=>by
     obtain ⟨y,i⟩:=s
     obtain ⟨b,g⟩:=u
     simp only at b g
     subst b
     simp only [Z0f_L1]
     rw [if_neg (by simp)]
     exact ⟨_,rfl,y,rfl,by omega⟩) (s:=([],0)) ⟨rfl,rfl⟩
   obtain ⟨l,rfl,L⟩:=E
   rw [G]
   simp only [Option.bind_some,Z0f_J1]
   rw [nQ O I]
   simp only [Option.bind_some]
   rw [gX (by simp [cB]; omega)]
   by_cases g6:eC (ds.set j (xs.length:Int))
   ·have T:mJ ds (j:Int) xs:=⟨g1.1,g1.2,B,g5,by simpa using g6⟩
    obtain ⟨ps,F⟩:=nR h I (xs.length:Int) L
    simp only [decide_eq_true g6,Option.bind_some,Bool.not_true,Bool.false_eq_true,if_false]
    rw [F]
    exact ⟨_,ps,by rw [decide_eq_true T]; rfl,fun _=>by simp⟩
   ·have no:¬ mJ ds (j:Int) xs:=fun q=>g6 (by simpa using q.2.2.2.2)
    simp only [decide_eq_false g6,Option.bind_some,Bool.not_false,if_true]
    exact ⟨_,_,by rw [decide_eq_false no],fun q=>absurd q no⟩
  ·have no:¬ mJ ds (j:Int) xs:=fun q=>g5 q.2.2.2.1
   obtain ⟨m,Y,m2,M⟩:=lg (fun _=>inferInstance) g5
   obtain ⟨r,G,E⟩:=fX (f:=fun s:List pair×Int=>Z0f_L1 ds (j:Int) xs s.1 s.2) (fun k s=>s.2=(k:Int)∧s.1.length=k) m (Post:=fun r=>r=.inl ([],[],false))
    (fun k s D u=>by
     obtain ⟨y,i⟩:=s
     obtain ⟨b,g⟩:=u
     simp only at b g
     subst b
     have:=M k D
     simp only [Z0f_L1]
     rw [if_pos (by simp; omega),if_pos (by omega),if_pos (fun _=>g1),if_neg (by simp; omega),if_pos (by simp; omega),bX (by unfold cB; omega)]
     exact ⟨_,rfl,rfl,by simp [g]⟩)
    (fun s u=>by
     obtain ⟨y,i⟩:=s
     obtain ⟨b,g⟩:=u
     simp only at b g
     subst b
     simp only [Z0f_L1]
     rw [if_pos (by simp; omega),if_pos (by omega),if_pos (fun _=>g1),if_pos (by simp only [Bool.or_eq_true,decide_eq_true_eq]; omega)]
     exact ⟨_,rfl,rfl⟩) (s:=([],0)) ⟨rfl,rfl⟩
   rw [G,E]
   exact ⟨_,_,by rw [decide_eq_false no]; rfl,fun q=>absurd q no⟩
 ·have no:¬ mJ ds a xs:=fun q=>c ⟨⟨q.1,q.2.1⟩,q.2.2.1,by
   have:=q.2.2.2.2.2.mem (d:=(xs.length:Int)) (by
    have:a.toNat<ds.length:=by have:=q.1; have:=q.2.1; omega
    exact List.mem_iff_getElem.2 ⟨a.toNat,by simpa using this,by simp⟩)
   omega⟩
  have J:((!(decide (a≥0)&&decide (a<(ds.length:Int)))||(xs.length:Int)==0)||decide ((xs.length:Int)>4096))=true:=by
   by_cases q:0≤a∧a<(ds.length:Int)
   ·by_cases q2:xs=[]
    ·subst q2; simp
    ·have:¬ xs.length≤4096:=fun z=>c ⟨q,q2,z⟩
     have:(xs.length:Int)>4096:=by omega
     simp [this]
   ·have:(decide (a≥0)&&decide (a<(ds.length:Int)))=false:=by simp; omega
    rw [this]; rfl
  rw [if_pos J]
  exact ⟨_,_,by rw [decide_eq_false no],fun q=>absurd q no⟩
theorem ru {ds:List Int}(h:eC ds){a n:Int}{xs:List Int}(hb:xs.length<cB):Sh (Z0g ds a xs n) (lV ds a xs n) (ds.set a.toNat n):=by
 have M:=h.1
 unfold Z0g
 simp only [Zk,Option.bind_some]
 by_cases g1:0≤a∧a<(ds.length:Int)
 ·obtain ⟨j,rfl⟩:=Int.eq_ofNat_of_zero_le g1.1
  have u:j<ds.length:=by omega
  have U:=h.2.mem (bE u)
  rw [if_pos (fun _=>g1)]
  by_cases c:(xs.length:Int)=ix ds (j:Int)∧1≤n
  ·obtain ⟨G,T⟩:=c
   rw [if_neg (by simp; omega)]
   by_cases g5:∀ x∈xs,0≤x∧x<n
   ·obtain ⟨r,F,D⟩:=fX (f:=fun s:List pair×Int=>Z0g_L1 xs n s.1 s.2) (fun k s=>s.2=(k:Int)∧s.1.length=k) xs.length (Post:=fun r=>∃ l,r=.inr l∧l.length≤4096)
     (fun k s B g=>by
      obtain ⟨y,i⟩:=s
      obtain ⟨b,e⟩:=g
      simp only at b e
      subst b
      have:=g5 _ (bE B)
      simp only [Z0g_L1]
      rw [if_pos (by simp; omega),if_pos (by omega),if_neg (by simp; omega),if_pos (by simp; omega),bX (by unfold cB; omega)]
      exact ⟨_,rfl,rfl,by simp [e]⟩)
     (fun s g=>by
      obtain ⟨y,i⟩:=s
      obtain ⟨b,e⟩:=g
      simp only at b e
      subst b
      simp only [Z0g_L1]
      rw [if_neg (by simp)]
      exact ⟨_,rfl,y,rfl,by omega⟩) (s:=([],0)) ⟨rfl,rfl⟩
    obtain ⟨l,rfl,J⟩:=D
    rw [F]
    simp only [Option.bind_some,Z0g_J1]
    rw [nQ M u]
    simp only [Option.bind_some]
    rw [gX (by simp [cB]; omega)]
    by_cases g6:eC (ds.set j n)
    ·have O:lV ds (j:Int) xs n:=⟨g1.1,g1.2,G,g5,by simpa using g6⟩
     obtain ⟨ps,E⟩:=nR h u n J
     simp only [decide_eq_true g6,Option.bind_some,Bool.not_true,Bool.false_eq_true,if_false]
     rw [E]
     exact ⟨_,ps,by rw [decide_eq_true O]; rfl,fun _=>by simp⟩
    ·have no:¬ lV ds (j:Int) xs n:=fun q=>g6 (by simpa using q.2.2.2.2)
     simp only [decide_eq_false g6,Option.bind_some,Bool.not_false,if_true]
     exact ⟨_,_,by rw [decide_eq_false no],fun q=>absurd q no⟩
   ·have no:¬ lV ds (j:Int) xs n:=fun q=>g5 q.2.2.2.1
    obtain ⟨m,Y,Z,L⟩:=lg (fun _=>inferInstance) g5
    obtain ⟨r,F,D⟩:=fX (f:=fun s:List pair×Int=>Z0g_L1 xs n s.1 s.2) (fun k s=>s.2=(k:Int)∧s.1.length=k) m (Post:=fun r=>r=.inl ([],[],false))
     (fun k s B g=>by
      obtain ⟨y,i⟩:=s
      obtain ⟨b,e⟩:=g
      simp only at b e
      subst b
      have:=L k B
      simp only [Z0g_L1]
      rw [if_pos (by simp; omega),if_pos (by omega),if_neg (by simp; omega),if_pos (by simp; omega),bX (by unfold cB; omega)]
      exact ⟨_,rfl,rfl,by simp [e]⟩)
     (fun s g=>by
      obtain ⟨y,i⟩:=s
      obtain ⟨b,e⟩:=g
      simp only at b e
      subst b
      simp only [Z0g_L1]
      rw [if_pos (by simp; omega),if_pos (by omega),if_pos (by simp only [Bool.or_eq_true,decide_eq_true_eq]; omega)]
      exact ⟨_,rfl,rfl⟩) (s:=([],0)) ⟨rfl,rfl⟩
    rw [F,D]
    exact ⟨_,_,by rw [decide_eq_false no]; rfl,fun q=>absurd q no⟩
  ·have no:¬ lV ds (j:Int) xs n:=fun q=>c ⟨q.2.2.1,by
    have:=q.2.2.2.2.2.1 n (List.mem_iff_getElem.2 ⟨j,by simpa using u,by simp⟩)
    exact this⟩
   rw [if_pos (by
    by_cases q:(xs.length:Int)=ix ds (j:Int)
    ·have:n<1:=by
      rcases Int.lt_or_le n 1 with z | z
      ·exact z
      ·exact absurd ⟨q,z⟩ c
     simp [this]
    ·simp [q])]
   exact ⟨_,_,by rw [decide_eq_false no],fun q=>absurd q no⟩
 ·have no:¬ lV ds a xs n:=fun q=>g1 ⟨q.1,q.2.1⟩
  have I:(decide (a≥0)&&decide (a<(ds.length:Int)))=false:=by simp; omega
  rw [I,if_pos (fun q=>by cases q),if_pos (by simp)]
  exact ⟨_,_,by rw [decide_eq_false no],fun q=>absurd q no⟩
theorem A0 {ds:List Int}(h:eC ds){a b f g:Int}:Sh (Zz ds a b f g) (mK ds a b f g) (ds.set a.toNat (jP ds a b f g)):=by
 have Y:=h.1
 unfold Zz
 simp only [Zk,Option.bind_some]
 by_cases g1:0≤a∧a<(ds.length:Int)
 ·obtain ⟨j,rfl⟩:=Int.eq_ofNat_of_zero_le g1.1
  have B:j<ds.length:=by omega
  have hm:=h.2.mem (bE B)
  rw [if_neg (by simp; omega)]
  have lp:=eO [b,f,g] (fun s:Int=>Zz_L1 b f g s) (fun i=>i) (fun x=>!(decide (x<0)||decide (x>4096))) (.inl (([]:List Int),([]:List pair),false)) (.inr ())
   (fun k I=>by
    simp only [List.length_cons,List.length_nil] at I
    simp only [Zz_L1]
    rw [if_pos (by simp; omega),if_pos (by simp; omega),bX (by unfold cB; omega)]
    cases (decide (ix [b,f,g] (k:Int)<0)||decide (ix [b,f,g] (k:Int)>4096))<;>rfl)
   (by simp only [Zz_L1]; rw [if_neg (by simp)])
  rw [lp]
  by_cases c:0≤b∧b≤4096∧0≤f∧f≤4096∧0≤g∧g≤4096
  ·obtain ⟨U,G,c3,L,m,F⟩:=c
   have u:([b,f,g].all fun x=>!(decide (x<0)||decide (x>4096)))=true:=by
    rw [List.all_eq_true]
    intro x M
    have:x=b∨x=f∨x=g:=by simpa using M
    simp; rcases this with rfl | rfl | rfl<;>omega
   rw [u]
   simp only [if_true,Option.bind_some,Zz_J1]
   have k0:0≤(ix ds (j:Int) - 1)*g:=Int.mul_nonneg (by omega) m
   have k1:=Int.mul_le_mul (show ix ds (j:Int) - 1≤4096 by omega) F m (show (0:Int)≤4096 by omega)
   have e:aH (aH (aH (b+ix ds (j:Int))+aH (aH (ix ds (j:Int) - 1)*g))+f)=jP ds (j:Int) b f g:=by
    rw [bA (n:=b+ix ds (j:Int)) (by omega) (by omega),bA (n:=ix ds (j:Int) - 1) (by omega) (by omega),bA (n:=(ix ds (j:Int) - 1)*g) (by omega) (by omega),bA (n:=b+ix ds (j:Int)+(ix ds (j:Int) - 1)*g) (by omega) (by omega),bA (by omega) (by omega)]
    rfl
   rw [if_pos g1,e,nQ Y B]
   simp only [Option.bind_some]
   rw [gX (by simp [cB]; omega)]
   by_cases g6:eC (ds.set j (jP ds (j:Int) b f g))
   ·have Z:mK ds (j:Int) b f g:=⟨g1.1,g1.2,U,G,c3,L,m,F,by simpa using g6⟩
    simp only [decide_eq_true g6,Option.bind_some,Bool.not_true,Bool.false_eq_true,if_false]
    obtain ⟨l,O,T⟩:=lG (f:=fun s:List pair×Int=>Zz_L2 ds (j:Int) b g s.1 s.2) (ix ds (j:Int)).toNat 1 8796093022208 (Post:=fun r=>r.length≤4096) []
     (fun q hq v E=>by
      simp only [Zz_L2]
      rw [if_pos (by simp; omega),if_pos (by simp; omega),bX (by unfold cB; omega)]
      exact ⟨_,rfl,by simp⟩)
     (fun v E=>by
      simp only [Zz_L2]
      simp at E
      rw [if_neg (by simp; omega)]
      exact ⟨v,rfl,by omega⟩) (by simp; omega)
    rw [O]
    simp only [Option.bind_some,Zz_J2]
    obtain ⟨ps,D⟩:=nR h B (jP ds (j:Int) b f g) T
    rw [e,D]
    exact ⟨_,ps,by rw [decide_eq_true Z]; rfl,fun _=>by simp⟩
   ·have no:¬ mK ds (j:Int) b f g:=fun q=>g6 (by simpa using q.2.2.2.2.2.2.2.2)
    simp only [decide_eq_false g6,Option.bind_some,Bool.not_false,if_true]
    exact ⟨_,_,by rw [decide_eq_false no],fun q=>absurd q no⟩
  ·have no:¬ mK ds (j:Int) b f g:=fun q=>c ⟨q.2.2.1,q.2.2.2.1,q.2.2.2.2.1,q.2.2.2.2.2.1,q.2.2.2.2.2.2.1,q.2.2.2.2.2.2.2.1⟩
   have u:([b,f,g].all fun x=>!(decide (x<0)||decide (x>4096)))=false:=by
    simp only [List.all_cons,List.all_nil,Bool.and_true,Bool.and_eq_false_iff,Bool.not_eq_false',Bool.or_eq_true,decide_eq_true_eq]
    omega
   rw [u]
   exact ⟨_,_,by rw [decide_eq_false no]; rfl,fun q=>absurd q no⟩
 ·have no:¬ mK ds a b f g:=fun q=>g1 ⟨q.1,q.2.1⟩
  have J:(decide (a≥0)&&decide (a<(ds.length:Int)))=false:=by simp; omega
  rw [J,if_pos (by simp)]
  exact ⟨_,_,by rw [decide_eq_false no],fun q=>absurd q no⟩
theorem xj {ds:List Int}(h:eC ds){a st n:Int}:Sh (Z4 ds a st n) (lX ds a st n) ((ds.set a.toNat n).take (ds.length - 1)):=by
 have hn:=h.1
 have w1:aH ((ds.length:Int) - 1)=(ds.length:Int) - 1:=bA (by omega) (by omega)
 unfold Z4
 simp only [Zk,Option.bind_some,w1]
 by_cases c:(0≤a∧a<(ds.length:Int))∧a≠(ds.length:Int) - 1∧1≤st∧1≤n∧n≤4096
 ·obtain ⟨g1,U,c2,c3,c4⟩:=c
  obtain ⟨j,rfl⟩:=Int.eq_ofNat_of_zero_le g1.1
  have M:j<ds.length:=by omega
  obtain ⟨l,F⟩:∃ l,l=ds.length - 1:=⟨_,rfl⟩
  have g:(ds.length:Int) - 1=(l:Int):=by omega
  have J:aH (l:Int)=(l:Int):=bA (by omega) (by omega)
  have hm:=h.2.mem (bE M)
  have a0:=h.2.mem (bE (xs:=ds) (k:=l) (by omega))
  have b0:(decide ((j:Int)≥0)&&decide ((j:Int)<(ds.length:Int)))=true:=by simp; omega
  rw [g] at U ⊢
  have I:((((!(decide ((j:Int)≥0)&&decide ((j:Int)<(ds.length:Int)))||((j:Int)==(l:Int)))||decide (st<1))||decide (n<1))||decide (n>4096))=false:=by rw [b0]; simp; omega
  have D:lX ds (j:Int) st n↔0≤(j:Int)∧(j:Int)<(ds.length:Int)∧(j:Int)≠(l:Int)∧1≤st∧1≤n∧n≤4096∧ix ds (l:Int)≤n∧(n - ix ds (l:Int)) / st+1=ix ds (j:Int)∧eC ((ds.set j n).take l):=by
   unfold lX
   rw [g,← F,Int.toNat_natCast]
  rw [I]
  rw [if_pos (fun _=>by omega),if_pos (fun _=>g1),if_pos (fun _=>by omega),if_pos (fun _=>by omega)]
  by_cases c5:ix ds (l:Int)≤n
  ·have q0:0≤(n - ix ds (l:Int)) / st:=Int.ediv_nonneg (by omega) (by omega)
   have q1:(n - ix ds (l:Int)) / st≤n - ix ds (l:Int):=Int.ediv_le_self _ (by omega)
   have e:aH (aH ((aH (n - ix ds (l:Int))).tdiv st)+1)=(n - ix ds (l:Int)) / st+1:=by
    rw [bA (n:=n - ix ds (l:Int)) (by omega) (by omega),Int.tdiv_eq_ediv_of_nonneg (by omega),bA (n:=(n - ix ds (l:Int)) / st) (by omega) (by omega),bA (by omega) (by omega)]
   rw [e]
   by_cases c6:(n - ix ds (l:Int)) / st+1=ix ds (j:Int)
   ·rw [if_neg (by simp [c6]; omega),nQ hn M]
    simp only [Option.bind_some,Int.toNat_natCast]
    rw [if_pos (by simp; omega),kT,gX (by simp [cB]; omega)]
    by_cases g5:eC ((ds.set j n).take l)
    ·simp only [decide_eq_true g5,Option.bind_some,Bool.not_true,Bool.false_eq_true,if_false]
     have Y:lX ds (j:Int) st n:=D.2 ⟨g1.1,g1.2,U,c2,c3,c4,c5,c6,g5⟩
     rw [if_pos g1]
     have j1:∀ s:Int,∃ ps,Z4_J1 ds (j:Int) n (ds.set j n) s=some ((ds.set j n).take l,ps,true):=by
      intro s
      have b:eC (ds.take l):=⟨by simp; omega,h.2.take l⟩
      simp only [Z4_J1,g,J]
      rw [if_pos (by omega),kT,qK b (by simp; omega)]
      simp only [Option.bind_some]
      obtain ⟨A,hA⟩:∃ A:Nat,(A:Int)=pr ((ds.take l).take j):=⟨(pr ((ds.take l).take j)).toNat,by have:=(b.2.take j).pos; omega⟩
      obtain ⟨L,hL⟩:∃ L:Nat,(L:Int)=ix (ds.take l) (j:Int):=⟨(ix (ds.take l) (j:Int)).toNat,by have:=b.2.mem (bE (xs:=ds.take l) (k:=j) (by simp; omega)); omega⟩
      obtain ⟨B,O⟩:∃ B:Nat,(B:Int)=pr ((ds.take l).drop (j+1)):=⟨(pr ((ds.take l).drop (j+1))).toNat,by have:=(b.2.drop (j+1)).pos; omega⟩
      obtain ⟨Z,hZ⟩:∃ Z:Nat,(Z:Int)=ix ds (l:Int):=⟨(ix ds (l:Int)).toNat,by omega⟩
      have a1:=(b.2.take j).2
      have I:=(b.2.drop (j+1)).2
      have l1:=b.2.mem (bE (xs:=ds.take l) (k:=j) (by simp; omega))
      rw [← hA] at a1 ⊢
      rw [← O] at I ⊢
      rw [← hL] at l1 ⊢
      have m1:B*(Z*1)≤4096*4096:=Nat.mul_le_mul (by omega) (by omega)
      have m2:L*(B*(Z*1))≤4096*(4096*4096):=Nat.mul_le_mul (by omega) m1
      have m3:A*(L*(B*(Z*1)))≤64*(4096*(4096*4096))∨True:=.inr trivial
      -- the product of all four is the size of the bU
      have G:pr (ds.take l)=pr ((ds.take l).take j)*(ix (ds.take l) (j:Int)*pr ((ds.take l).drop (j+1))):=by
       rw [gL (ds.take l) j]
       have:(ds.take l).drop j=ix (ds.take l) (j:Int)::(ds.take l).drop (j+1):=by rw [List.drop_eq_getElem_cons (by simp; omega),bR (by simp; omega)]
       rw [this]; rfl
      rw [← hA,← hL,← O] at G
      have h4:A*(L*B)≤4096:=by
       have:=b.2.2
       rw [G] at this
       have T:((A*(L*B):Nat):Int)=(A:Int)*((L:Int)*(B:Int)):=by simp
       omega
      have m4:A*(L*(B*(Z*1)))≤4096*4096:=by
       have e5:A*(L*(B*(Z*1)))=A*(L*B)*Z:=by rw [Nat.mul_one,Nat.mul_assoc,Nat.mul_assoc]
       rw [e5]
       exact Nat.mul_le_mul h4 (by omega)
      obtain ⟨r,e1,_⟩:=lG (f:=fun q:List pair×Int=>Z4_L1 ds n s ((A:Int),(L:Int),(B:Int)) q.1 q.2) A (L*(B*(Z*1))) 8796093022208 (Post:=fun _=>True) []
       (fun i hi y hy=>by
        simp only [Z4_L1,Z4_J15]
        rw [if_pos (by simp; omega),bX (by unfold cB; omega)]
        obtain ⟨r2,e2,p2⟩:=lG (f:=fun q:List pair×Int=>Z4_L2 ds n s ((A:Int),(L:Int),(B:Int)) (i:Int) q.1 q.2) L (B*(Z*1)) 8796093022208 (Post:=fun r=>r.length≤y.length+L*(B*(Z*1))) y
         (fun k hk z hz=>by
          simp only [Z4_L2,Z4_J14]
          rw [if_pos (by simp; omega),bX (by unfold cB; omega)]
          obtain ⟨r3,e3,p3⟩:=lG (f:=fun q:List pair×Int=>Z4_L3 ds n s ((A:Int),(L:Int),(B:Int)) (i:Int) (k:Int) q.1 q.2) B (Z*1) 8796093022208 (Post:=fun r=>r.length≤z.length+B*(Z*1)) z
           (fun p hp u hu=>by
            simp only [Z4_L3,Z4_J13]
            rw [if_pos (by simp; omega),bX (by unfold cB; omega)]
            obtain ⟨r4,T,p4⟩:=lG (f:=fun q:List pair×Int=>Z4_L4 ds n s ((A:Int),(L:Int),(B:Int)) (i:Int) (k:Int) (p:Int) q.1 q.2) Z 1 8796093022208 (Post:=fun r=>r.length≤u.length+Z*1) u
             (fun o ho v m=>by
              simp only [Z4_L4,g,J]
              rw [if_pos (by omega),if_pos (by simp; omega),if_pos (by simp; omega),bX (by unfold cB; omega)]
              exact ⟨_,rfl,by simp⟩)
             (fun v m=>by
              simp only [Z4_L4,g,J]
              rw [if_pos (by omega),if_neg (by simp; omega)]
              exact ⟨v,rfl,m⟩) (by omega)
            rw [T]
            exact ⟨_,rfl,p4⟩)
           (fun v m=>by simp only [Z4_L3]; rw [if_neg (by simp)]; exact ⟨v,rfl,m⟩) hz
          rw [e3]
          exact ⟨_,rfl,p3⟩)
         (fun v m=>by simp only [Z4_L2]; rw [if_neg (by simp)]; exact ⟨v,rfl,m⟩) hy
        rw [e2]
        exact ⟨_,rfl,p2⟩)
       (fun v m=>by simp only [Z4_L1]; rw [if_neg (by simp)]; exact ⟨v,rfl,trivial⟩) (by simp only [List.length_nil]; omega)
      rw [e1]
      simp only [Option.bind_some,Z4_J16,g,J]
      rw [kT]
      exact ⟨r,rfl⟩
     by_cases g7:ix ds (j:Int)=1
     ·rw [if_pos (by simp [g7])]
      obtain ⟨ps,E⟩:=j1 0
      rw [E]
      exact ⟨_,ps,by rw [decide_eq_true Y],fun _=>by rw [← F]⟩
     ·rw [if_neg (by simp [g7])]
      obtain ⟨ps,E⟩:=j1 st
      rw [E]
      exact ⟨_,ps,by rw [decide_eq_true Y],fun _=>by rw [← F]⟩
    ·simp only [decide_eq_false g5,Option.bind_some,Bool.not_false,if_true]
     exact ⟨_,_,by rw [decide_eq_false (fun q=>g5 (D.1 q).2.2.2.2.2.2.2.2)],fun q=>absurd (D.1 q).2.2.2.2.2.2.2.2 g5⟩
   ·rw [if_pos (by simp only [Bool.or_eq_true,bne_iff_ne]; exact .inr fun z=>c6 z.symm)]
    exact ⟨_,_,by rw [decide_eq_false (fun q=>c6 (D.1 q).2.2.2.2.2.2.2.1)],fun q=>absurd (D.1 q).2.2.2.2.2.2.2.1 c6⟩
  ·rw [if_pos (by simp only [Bool.or_eq_true,Bool.false_or,decide_eq_true_eq]; exact .inl (by omega))]
   exact ⟨_,_,by rw [decide_eq_false (fun q=>c5 (D.1 q).2.2.2.2.2.2.1)],fun q=>absurd (D.1 q).2.2.2.2.2.2.1 c5⟩
 ·have no:¬ lX ds a st n:=fun q=>c ⟨⟨q.1,q.2.1⟩,q.2.2.1,q.2.2.2.1,q.2.2.2.2.1,q.2.2.2.2.2.1⟩
  have I:((((!(decide (a≥0)&&decide (a<(ds.length:Int)))||(a==(ds.length:Int) - 1))||decide (st<1))||decide (n<1))||decide (n>4096))=true:=by
   simp only [Bool.or_eq_true,Bool.not_eq_true',decide_eq_true_eq,Bool.and_eq_false_iff,decide_eq_false_iff_not,beq_iff_eq]
   omega
  rw [I,if_pos (fun q=>by simp at q),if_pos (fun q=>by simp at q),if_pos (fun q=>by simp at q),if_pos (fun q=>by simp at q),if_pos (by simp)]
  exact ⟨_,_,by rw [decide_eq_false no],fun q=>absurd q no⟩
theorem kU (n:Node)(u:aN)(bd b a bx:Bool)(h1:Z6 gU u=some bd)(h2:Z6 eQ u=some b)(e:Z6 ki u=some a)(g:Z6 oC u=some bx) :
  Z1v n u=some ((((bd||((n.Dims.length:Int)==(0:Int)))&&(b||((n.Ints.length:Int)==(0:Int))))&&(a||(n.Form==([]:aN))))&&(bx||((n.Data.length:Int)==(0:Int)))):=by
 unfold Z1v
 rw [h1,h2,e,g]
 simp only [Option.bind_some]
 generalize ((n.Dims.length:Int)==(0:Int))=x1
 generalize ((n.Ints.length:Int)==(0:Int))=x2
 generalize (n.Form==([]:aN))=x3
 generalize ((n.Data.length:Int)==(0:Int))=x4
 cases bd<;>cases x1<;>cases b<;>cases x2<;>cases a<;>cases x3<;>cases bx<;>cases x4<;>rfl
theorem tj:Z6 gU []=some false:=by kernel_rfl
theorem tl:Z6 eQ []=some false:=by kernel_rfl
theorem tm:Z6 ki []=some false:=by kernel_rfl
theorem tn:Z6 oC []=some false:=by kernel_rfl
theorem pF:Z6 gU gU=some true:=by kernel_rfl
theorem pG:Z6 eQ gU=some false:=by kernel_rfl
theorem pH:Z6 ki gU=some false:=by kernel_rfl
theorem pI:Z6 oC gU=some false:=by kernel_rfl
theorem kx:Z6 gU eQ=some false:=by kernel_rfl
theorem ky:Z6 eQ eQ=some true:=by kernel_rfl
theorem kz:Z6 ki eQ=some false:=by kernel_rfl
theorem kA:Z6 oC eQ=some false:=by kernel_rfl
theorem xk:Z6 gU oB=some true:=by kernel_rfl
theorem xl:Z6 eQ oB=some false:=by kernel_rfl
theorem xm:Z6 ki oB=some false:=by kernel_rfl
theorem xn:Z6 oC oB=some true:=by kernel_rfl
theorem xo:Z6 gU ki=some false:=by kernel_rfl
theorem xp:Z6 eQ ki=some false:=by kernel_rfl
theorem xq:Z6 ki ki=some true:=by kernel_rfl
theorem xr:Z6 oC ki=some false:=by kernel_rfl
def nS (n:Node)(m:Nat):Prop:=∀ a∈n.Args,0≤a∧a<(m:Int)
instance (n:Node)(m:Nat):Decidable (nS n m):=by unfold nS; infer_instance
theorem xt {n:Node}{b:List (List Int)}(l:b.length≤4096)(j:n.Args.length≤6):aR (fun s:List (List Int)×Int=>Ze_L1 n b s.1 s.2) ([],0)=some (if nS n b.length then .inr (n.Args.map fun a=>ix b a) else .inl ([],false)):=by
 have e:∀ k:Nat,k<n.Args.length→(0≤ix n.Args (k:Int)∧ix n.Args (k:Int)<(b.length:Int))→(fun s:List (List Int)×Int=>Ze_L1 n b s.1 s.2) ((n.Args.take k).map fun a=>ix b a,(k:Int))=some (.inl ((n.Args.take (k+1)).map fun a=>ix b a,((k+1:Nat):Int))):=by
  intro k g hw
  simp only [Ze_L1]
  rw [if_pos (by simp; omega),if_pos (by omega),if_neg (by simp; omega),if_pos hw,if_pos (by simp; omega),bX (by unfold cB; omega),List.take_succ_eq_append_getElem g,List.map_append,bR g]
  rfl
 by_cases c:nS n b.length
 ·rw [if_pos c]
  refine eT (fun k=>((n.Args.take k).map fun a=>ix b a,(k:Int))) n.Args.length (fun k g=>e k g (c _ (bE g))) ?_ rfl
  simp only [Ze_L1]
  rw [if_neg (by simp),List.take_length]
 ·rw [if_neg c]
  obtain ⟨m,q,i,h⟩:=lg (p:=fun a=>0≤a∧a<(b.length:Int)) (fun _=>inferInstance) c
  refine eT (fun k=>((n.Args.take k).map fun a=>ix b a,(k:Int))) m (fun k g=>e k (by omega) (h k g)) ?_ rfl
  simp only [Ze_L1]
  rw [if_pos (by simp; omega),if_pos (by omega),if_pos (by simp only [Bool.or_eq_true,decide_eq_true_eq]; omega)]
theorem xu {n:Node}{b:List (List Int)}(l:b.length≤4096){kd:kindOfR}{u:aN}{e:Bool}(m:Zy n.Op=some kd)(j:Nat.beq kd.t 0=false)(i:fN kd=some u)(h:Z1v n u=some e) :
  Ze n b=if e=true∧n.Args.length≤6 then (if nS n b.length then bO kd n (n.Args.map fun a=>ix b a) else some ([],false)) else some ([],false):=by
 unfold Ze
 rw [m]
 simp only [Option.bind_some,j,bQ,Bool.not_false,cond_true,i,h,Bool.false_or]
 by_cases c:e=true∧n.Args.length≤6
 ·obtain ⟨rfl,g⟩:=c
  rw [if_neg (by simp; omega),if_pos ⟨rfl,g⟩,xt l g]
  by_cases w:nS n b.length
  ·rw [if_pos w,if_pos w]
   simp only [Option.bind_some,Ze_J1]
   cases bO kd n (n.Args.map fun a=>ix b a)<;>rfl
  ·rw [if_neg w,if_neg w]
   rfl
 ·rw [if_neg c,if_pos]
  cases e
  ·rfl
  ·have:¬ n.Args.length≤6:=fun z=>c ⟨rfl,z⟩
   simp; omega
def FM (n:Node)(lo a:Int)(b:Bool)(ui uj:Int):Prop:=lo≤(n.Args.length:Int)∧(n.Args.length:Int)≤a∧(b=true∨n.Dims=[])∧(n.Op=11∨n.Form=[])∧(n.Op=2∨n.Data=[])∧ui≤(n.Ints.length:Int)∧(n.Ints.length:Int)≤uj
instance (n:Node)(lo hi:Int)(ud:Bool)(ui uj:Int):Decidable (FM n lo hi ud ui uj):=by unfold FM; infer_instance
theorem gM {n:Node}{lo b ui uj:Int}{a:Bool}(h1:1≤n.Op)(h2:n.Op≤19)(h:Z2y n.Op=some (lo,b))(i:Z37 n.Op=some a)(e:Z1b n.Op=some ui)(g:uj=if n.Op=16∨n.Op=17 then ui+4096 else ui)(r:0≤ui∧ui≤100) :
  Z17 n=some (decide (FM n lo b a ui uj)):=by
 unfold Z17
 rw [if_neg (by simp; omega),h]
 simp only [Option.bind_some]
 by_cases c1:lo≤(n.Args.length:Int)∧(n.Args.length:Int)≤b
 ·rw [if_neg (by simp; omega),i]
  simp only [Option.bind_some]
  by_cases c2:(a=true∨n.Dims=[])∧(n.Op=11∨n.Form=[])∧(n.Op=2∨n.Data=[])
  ·obtain ⟨d1,d2,d3⟩:=c2
   have l:((!a)&&decide ((n.Dims.length:Int)>0))=false:=by
    rcases d1 with d | d<;>simp [d]
   have m:((n.Op != 11)&&(!(n.Form==([]:aN))))=false:=by
    rcases d2 with d | d<;>simp [d]
   have j:((n.Op != 2)&&decide ((n.Data.length:Int)>0))=false:=by
    rcases d3 with d | d<;>simp [d]
   rw [l,m,j,if_neg (by simp),e]
   simp only [Option.bind_some]
   by_cases c3:n.Op=16∨n.Op=17
   ·rw [if_pos (by simpa using c3),bA (by omega) (by omega)]
    rw [if_pos c3] at g
    congr 1
    rw [Bool.eq_iff_iff]
    simp only [Bool.and_eq_true,decide_eq_true_eq]
    unfold FM
    exact ⟨fun q=>⟨c1.1,c1.2,d1,d2,d3,q.1,by omega⟩,fun q=>⟨q.2.2.2.2.2.1,by have:=q.2.2.2.2.2.2; omega⟩⟩
   ·rw [if_neg (by simpa using c3)]
    rw [if_neg c3] at g
    congr 1
    rw [Bool.eq_iff_iff]
    simp only [beq_iff_eq,decide_eq_true_eq]
    unfold FM
    exact ⟨fun q=>⟨c1.1,c1.2,d1,d2,d3,by omega,by omega⟩,fun q=>by have:=q.2.2.2.2.2.1; have:=q.2.2.2.2.2.2; omega⟩
  ·have no:¬ FM n lo b a ui uj:=fun q=>c2 ⟨q.2.2.1,q.2.2.2.1,q.2.2.2.2.1⟩
   rw [decide_eq_false no,if_pos]
   refine Classical.byContradiction fun z=>c2 ?_
   simp only [Bool.or_eq_true,Bool.and_eq_true,Bool.not_eq_true',decide_eq_true_eq,bne_iff_ne,beq_eq_false_iff_ne,not_or,not_and] at z
   refine ⟨?_,?_,?_⟩
   ·cases a
    ·refine .inr (List.eq_nil_of_length_eq_zero ?_); have:=z.1.1 rfl; omega
    ·exact .inl rfl
   ·by_cases q:n.Op=11
    ·exact .inl q
    ·exact .inr (Classical.not_not.1 (z.1.2 q))
   ·by_cases q:n.Op=2
    ·exact .inl q
    ·refine .inr (List.eq_nil_of_length_eq_zero ?_); have:=z.2 q; omega
 ·have no:¬ FM n lo b a ui uj:=fun q=>c1 ⟨q.1,q.2.1⟩
  rw [decide_eq_false no,if_pos (by simp only [Bool.or_eq_true,decide_eq_true_eq]; omega)]
noncomputable def Do (n:Node)(b:List Tensor):Option Tensor:=if n.Op=1 then Z0q n.Dims 0 else Z1 n (n.Args.map fun a=>ix b a)
def oS (n:Node)(a:List Tensor)(o:Option (List Int×Bool)):Prop :=
 (∃ t,o=some (t.Dims,true)∧Z17 n=some true∧nS n a.length∧Do n a=some t∧TT t) ∨
 (∃ ds,o=some (ds,false)∧(Z17 n=some false∨Z17 n=some true∧(nS n a.length→Do n a=some ⟨[],[]⟩)))
structure Caps (n:Node)(out:List Tensor):Prop where
 a:n.Args.length<cB
 d:n.Dims.length<cB
 i:n.Ints.length<cB
 x:n.Data.length<cB
 f:n.Form.length≤1048576
 o:out.length≤200
 t:∀ t∈out,TT t
theorem nj {b:List Tensor}{a:Int}(g:0≤a)(h1:a<(b.length:Int)):ix (b.map Tensor.Dims) a=(ix b a).Dims∧ix b a∈b:=by
 obtain ⟨k,rfl⟩:=Int.eq_ofNat_of_zero_le g
 have e:k<b.length:=by omega
 rw [bR (by simpa using e),bR e]
 exact ⟨by simp,List.getElem_mem e⟩
theorem mL {n:Node}{b:List Tensor}(G:Caps n b){kd:kindOfR}{u:aN}{g fb:Bool}(F:Zy n.Op=some kd)(D:Nat.beq kd.t 0=false)(B:fN kd=some u)(I:Z1v n u=some g)(e:Z17 n=some fb)
  (h1:fb=true→g=true∧n.Args.length≤6)
  (h2:g=true→nS n b.length→fb=false→∃ ds,bO kd n ((n.Args.map fun a=>ix b a).map Tensor.Dims)=some (ds,false))
  (m:fb=true→nS n b.length→∃ t,(bO kd n ((n.Args.map fun a=>ix b a).map Tensor.Dims)=some (t.Dims,true)∧Do n b=some t∧TT t)∨∃ ds,bO kd n ((n.Args.map fun a=>ix b a).map Tensor.Dims)=some (ds,false)∧Do n b=some ⟨[],[]⟩) :
  oS n b (Ze n (b.map Tensor.Dims)):=by
 have J:=G.o
 rw [xu (by simp; omega) F D B I]
 have l:nS n b.length→(n.Args.map fun a=>ix (b.map Tensor.Dims) a)=(n.Args.map fun a=>ix b a).map Tensor.Dims:=by
  intro w
  rw [List.map_map]
  exact List.map_congr_left fun a j=>(nj (w a j).1 (w a j).2).1
 have E:(b.map Tensor.Dims).length=b.length:=by simp
 rw [E]
 cases fb with
 | true =>
  obtain ⟨p1,s⟩:=h1 rfl
  rw [if_pos ⟨p1,s⟩]
  by_cases w:nS n b.length
  ·rw [if_pos w,l w]
   obtain ⟨t,q⟩:=m rfl w
   rcases q with ⟨h,i,r⟩|⟨ds,h,i⟩
   ·exact .inl ⟨t,h,e,w,i,r⟩
   ·exact .inr ⟨ds,h,.inr ⟨e,fun _=>i⟩⟩
  ·rw [if_neg w]
   exact .inr ⟨[],rfl,.inr ⟨e,fun z=>absurd z w⟩⟩
 | false =>
  by_cases c:g=true∧n.Args.length≤6
  ·rw [if_pos c]
   by_cases w:nS n b.length
   ·rw [if_pos w,l w]
    obtain ⟨ds,q⟩:=h2 c.1 w rfl
    exact .inr ⟨ds,q,.inl e⟩
   ·rw [if_neg w]
    exact .inr ⟨[],rfl,.inl e⟩
  ·rw [if_neg c]
   exact .inr ⟨[],rfl,.inl e⟩
theorem sh2 (b i j s n args):bO ⟨2,b,i,j,s⟩ n args=Z22 ⟨i⟩ n args:=rfl
theorem li {n:Node}{b:Bool}{args:List (List Int)}(g:n.Dims.length<cB)(h:n.Data.length<cB):Z1k ⟨b⟩ n args=some (if args=[]∧eC n.Dims∧(b=true→TOk n.Dims n.Data) then (n.Dims,true) else ([],false)):=by
 unfold Z1k
 by_cases c1:args=[]
 ·subst c1
  have a:(((([]:List (List Int)).length:Int)) != 0)=false:=rfl
  simp only [a,bQ,Bool.not_false,cond_true,Bool.false_or]
  rw [gX g]
  simp only [Option.bind_some]
  by_cases c2:eC n.Dims
  ·simp only [decide_eq_true c2,Bool.not_true,Bool.not_false,Bool.true_and,Bool.false_or]
   cases b with
   | false=>simp [c2]
   | true =>
    rw [cond_true,wX (t:=⟨n.Dims,n.Data⟩) g h]
    by_cases c3:TOk n.Dims n.Data
    ·simp [c2,c3]
    ·simp [c2,c3]
  ·simp [decide_eq_false c2,c2]
 ·have a:((args.length:Int) != 0)=true:=by
   have:args.length≠0:=fun e=>c1 (List.eq_nil_of_length_eq_zero e)
   simp; omega
  simp only [a,bQ,Bool.not_true,Bool.not_false,cond_false,Bool.true_or,Option.bind_some,Bool.false_and]
  simp [c1]
theorem kV {α:Type}(xs:List α):((xs.length:Int)=0)↔xs=[]:=by
 exact ⟨fun h=>List.eq_nil_of_length_eq_zero (by omega),fun h=>by simp [h]⟩
theorem tp {n:Node}{g:List Tensor}(b:Caps n g)(a:n.Op=1):oS n g (Ze n (g.map Tensor.Dims)):=by
 refine mL b (kd:=⟨1,false,0,0,[]⟩) (u:=gU) (fb:=decide (FM n 0 0 true 0 0)) (by rw [a]; rfl) rfl rfl (kU n gU true false false false pF pG pH pI) (gM (by omega) (by omega) (by rw [a]; rfl) (by rw [a]; rfl) (by rw [a]; rfl) (by rw [a]; rfl) ⟨by omega,by omega⟩) ?_ ?_ ?_
 ·intro h
  obtain ⟨f1,F,E,j,l,I,J⟩:=of_decide_eq_true h
  have r:n.Form=[]:=j.resolve_left (by omega)
  have B:n.Data=[]:=l.resolve_left (by omega)
  have D:n.Ints=[]:=List.eq_nil_of_length_eq_zero (by omega)
  exact ⟨by rw [r,B,D]; rfl,by omega⟩
 ·intro i hw h
  show ∃ ds,Z1k ⟨false⟩ n _=_
  rw [li b.d b.x]
  have:n.Args≠[]:=by
   intro e
   refine of_decide_eq_false h ?_
   simp only [Bool.true_or,Bool.false_or,Bool.true_and,Bool.and_eq_true,kV,beq_iff_eq] at i
   refine ⟨by rw [e]; decide,by rw [e]; decide,.inl rfl,.inr i.1.2,.inr i.2,by omega,by rw [i.1.1]; decide⟩
  rw [if_neg (by simp [this])]
  exact ⟨_,rfl⟩
 ·intro h hw
  obtain ⟨f1,F,E,j,l,I,J⟩:=of_decide_eq_true h
  have s:n.Args=[]:=List.eq_nil_of_length_eq_zero (by omega)
  obtain ⟨m,G⟩:=xf b.d
  by_cases c:eC n.Dims
  ·obtain ⟨d,d1,d2⟩:=m c
   refine ⟨⟨n.Dims,d⟩,.inl ⟨?_,by unfold Do; rw [if_pos a]; exact d1,d2⟩⟩
   show Z1k ⟨false⟩ n _=_
   rw [li b.d b.x,if_pos ⟨by simp [s],c,by simp⟩]
  ·refine ⟨⟨[],[]⟩,.inr ⟨[],?_,by unfold Do; rw [if_pos a]; exact G c⟩⟩
   show Z1k ⟨false⟩ n _=_
   rw [li b.d b.x,if_neg (fun q=>c q.2.1)]
theorem tq {n:Node}{h:List Tensor}(g:Caps n h)(a:n.Op=2):oS n h (Ze n (h.map Tensor.Dims)):=by
 refine mL g (kd:=⟨1,true,0,0,[]⟩) (u:=oB) (fb:=decide (FM n 0 0 true 0 0)) (by rw [a]; rfl) rfl rfl (kU n oB true false false true xk xl xm xn) (gM (by omega) (by omega) (by rw [a]; rfl) (by rw [a]; rfl) (by rw [a]; rfl) (by rw [a]; rfl) ⟨by omega,by omega⟩) ?_ ?_ ?_
 ·intro i
  obtain ⟨f1,F,E,m,D,G,I⟩:=of_decide_eq_true i
  have r:n.Form=[]:=m.resolve_left (by omega)
  have B:n.Ints=[]:=List.eq_nil_of_length_eq_zero (by omega)
  exact ⟨by rw [r,B]; rfl,by omega⟩
 ·intro j hw i
  show ∃ ds,Z1k ⟨true⟩ n _=_
  rw [li g.d g.x]
  have:n.Args≠[]:=by
   intro e
   refine of_decide_eq_false i ?_
   simp only [Bool.true_or,Bool.false_or,Bool.true_and,Bool.and_true,Bool.and_eq_true,kV,beq_iff_eq] at j
   refine ⟨by rw [e]; decide,by rw [e]; decide,.inl rfl,.inr j.2,.inl a,by omega,by rw [j.1]; decide⟩
  rw [if_neg (by simp [this])]
  exact ⟨_,rfl⟩
 ·intro i hw
  obtain ⟨f1,F,E,m,D,G,I⟩:=of_decide_eq_true i
  have s:n.Args=[]:=List.eq_nil_of_length_eq_zero (by omega)
  have b:Do n h=if TOk n.Dims n.Data then some ⟨n.Dims,n.Data⟩ else some ⟨[],[]⟩:=by
   unfold Do Z1
   rw [if_neg (by omega),if_pos (by simp [a]),sT (t:=⟨n.Dims,n.Data⟩) g.d g.x]
   simp only [Option.bind_some]
   by_cases c:TOk n.Dims n.Data
   ·have h1:=c.l
    have h2:=c.d.1
    have J:=c.d.2.2
    rw [decide_eq_true c,if_pos c,if_neg (by simp),hR (by omega),hR (by omega)]
    rfl
   ·rw [decide_eq_false c,if_neg c,if_pos (by simp)]
  by_cases c:TOk n.Dims n.Data
  ·rw [if_pos c] at b
   refine ⟨⟨n.Dims,n.Data⟩,.inl ⟨?_,b,c⟩⟩
   show Z1k ⟨true⟩ n _=_
   rw [li g.d g.x,if_pos ⟨by simp [s],c.d,fun _=>c⟩]
  ·rw [if_neg c] at b
   refine ⟨⟨[],[]⟩,.inr ⟨[],?_,b⟩⟩
   show Z1k ⟨true⟩ n _=_
   rw [li g.d g.x,if_neg (fun q=>c (q.2.2 rfl))]
theorem ts {i:Int}{n:Node}{args:List (List Int)}(b:∀ a∈args,a.length<cB):Z22 ⟨i⟩ n args=some (if args.length=2∧ix args 0=ix args 1 then (ix args 0,true) else ([],false)):=by
 unfold Z22
 by_cases c:args.length=2
 ·have e:((args.length:Int) != 2)=false:=by simp [c]
  rw [e,if_pos (fun _=>by omega),if_pos (fun _=>by omega)]
  simp only [bQ,Bool.not_false,cond_true,Bool.false_or]
  have g:ix args (0:Int)∈args:=bE (k:=0) (by omega)
  rw [uL (b _ g)]
  simp only [Option.bind_some]
  by_cases q:ix args 0=ix args 1
  ·rw [decide_eq_true q,if_neg (by simp),if_pos (by omega),if_pos ⟨c,q⟩]
  ·rw [decide_eq_false q,if_pos (by simp),if_neg (fun z=>q z.2)]
 ·have e:((args.length:Int) != 2)=true:=by simp; omega
  rw [e,if_pos (fun z=>by cases z),if_pos (fun z=>by cases z)]
  simp only [bQ,Bool.not_true,cond_false,Option.bind_some,Bool.true_or,if_true]
  rw [if_neg (fun z=>c z.1)]
theorem k8 {n:Node}{b:List Tensor}(g:Caps n b)(hw:nS n b.length):∀ t∈(n.Args.map fun a=>ix b a),TT t:=by
 intro t h
 obtain ⟨a,e,rfl⟩:=List.mem_map.1 h
 exact g.t _ (nj (hw a e).1 (hw a e).2).2
theorem uY {n:Node}{i:List Tensor}(F:Caps n i)(h3:3≤n.Op)(h5:n.Op≤5):oS n i (Ze n (i.map Tensor.Dims)):=by
 have g:n.Op=3∨n.Op=4∨n.Op=5:=by omega
 refine mL F (kd:=⟨2,false,n.Op - 2,0,[]⟩) (u:=[]) (fb:=decide (FM n 2 2 false 0 0)) (by rcases g with h | h | h<;>rw [h]<;>rfl) rfl rfl (kU n [] false false false false tj tl tm tn) (gM (by omega) (by omega) (by rcases g with h | h | h<;>rw [h]<;>rfl) (by rcases g with h | h | h<;>rw [h]<;>rfl) (by rcases g with h | h | h<;>rw [h]<;>rfl) (by rw [if_neg (by omega)]) ⟨by omega,by omega⟩) ?_ ?_ ?_
 ·intro j
  obtain ⟨f1,f2,M,L,O,f6,f7⟩:=of_decide_eq_true j
  have U:n.Dims=[]:=M.resolve_left (by simp)
  have Y:n.Form=[]:=L.resolve_left (by omega)
  have T:n.Data=[]:=O.resolve_left (by omega)
  have g6:n.Ints=[]:=List.eq_nil_of_length_eq_zero (by omega)
  exact ⟨by rw [U,Y,T,g6]; rfl,by omega⟩
 ·intro r hw j
  show ∃ ds,Z22 ⟨n.Op - 2⟩ n _=_
  have s:=k8 F hw
  rw [ts (fun a B=>by
   obtain ⟨t,l,rfl⟩:=List.mem_map.1 B
   have:=kw (s t l); unfold cB; omega)]
  have:n.Args.length≠2:=by
   intro e
   refine of_decide_eq_false j ?_
   simp only [Bool.false_or,Bool.and_eq_true,kV,beq_iff_eq] at r
   refine ⟨by omega,by omega,.inr r.1.1.1,.inr r.1.2,.inr r.2,by omega,by rw [r.1.1.2]; decide⟩
  rw [if_neg (by simp [this])]
  exact ⟨_,rfl⟩
 ·intro j hw
  obtain ⟨f1,f2,M,L,O,f6,f7⟩:=of_decide_eq_true j
  have s:=k8 F hw
  obtain ⟨A,D⟩:∃ A,A=n.Args.map fun a=>ix i a:=⟨_,rfl⟩
  have Z:A.length=2:=by rw [D]; simp; omega
  rw [← D] at s ⊢
  obtain ⟨t,u,rfl⟩:∃ t u,A=[t,u]:=by
   match A,Z with
   | [t,u],_=>exact ⟨t,u,rfl⟩
  have l:TT t:=s t (by simp)
  have J:TT u:=s u (by simp)
  have I:bO ⟨2,false,n.Op - 2,0,[]⟩ n ([t,u].map Tensor.Dims)=some (if t.Dims=u.Dims then (t.Dims,true) else ([],false)):=by
   rw [sh2,ts (fun a B=>by
    have:a=t.Dims∨a=u.Dims:=by simpa using B
    have:=kw l; have:=kw J
    unfold cB
    rcases ‹a=t.Dims∨a=u.Dims› with rfl | rfl<;>omega)]
   by_cases q:t.Dims=u.Dims
   ·rw [if_pos q,if_pos ⟨rfl,q⟩]; rfl
   ·rw [if_neg q,if_neg (fun z=>q z.2)]
  have b:Do n i=(Z01 t.Dims u.Dims).bind fun E=>if (!E)=true then some ⟨[],[]⟩ else (Z13 (aH (aH (n.Op - 3)+1)) t u).bind fun G=>some G:=by
   unfold Do Z1
   rw [if_neg (by omega),← D,if_neg (by simp; omega)]
   rcases g with h | h | h
   ·rw [if_pos (by simp [h])]; simp only [Z1_J1,h]; rfl
   ·rw [if_neg (by simp [h]),if_pos (by simp [h])]; simp only [Z1_J1,h]; rfl
   ·rw [if_neg (by simp [h]),if_neg (by simp [h])]; simp only [Z1_J1,h]; rfl
  rw [sU (by have:=kw l; unfold cB; omega)] at b
  simp only [Option.bind_some] at b
  by_cases q:t.Dims=u.Dims
  ·rw [decide_eq_true q,if_neg (by simp)] at b
   have m:aH (aH (n.Op - 3)+1)=n.Op - 2:=by rw [bA (n:=n.Op - 3) (by omega) (by omega),bA (by omega) (by omega)]; omega
   rw [m] at b
   obtain ⟨d,d1,d2⟩:=zY (op:=n.Op - 2) l J q (by omega) (by omega)
   rw [d1] at b
   exact ⟨⟨t.Dims,d⟩,.inl ⟨by rw [I,if_pos q],b,d2⟩⟩
  ·rw [decide_eq_false q,if_pos (by simp)] at b
   exact ⟨⟨[],[]⟩,.inr ⟨[],by rw [I,if_neg q],b⟩⟩
theorem hK {n:Node}{b:List Tensor}(F:Caps n b){kd:kindOfR}{u:aN}{l i:Bool}{ui uj:Int}(hk:Zy n.Op=some kd)(U:Nat.beq kd.t 0=false)(hu:fN kd=some u)
  (h1:Z6 gU u=some l) (h2:Z6 eQ u=some i) (M:Z6 ki u=some false) (Y:Z6 oC u=some false)
  (g:Z17 n=some (decide (FM n 1 1 l ui uj))) (h:n.Op≠1∧n.Op≠2∧n.Op≠11) (I:i=false→ui=0∧uj=0)
  (O:∀ args:List (List Int),args.length≠1→bO kd n args=some ([],false))
  (Z:∀ t:Tensor,TT t→¬ (ui≤(n.Ints.length:Int)∧(n.Ints.length:Int)≤uj)→i=true→∃ ds,bO kd n [t.Dims]=some (ds,false))
  (r:FM n 1 1 l ui uj→∀ t:Tensor,TT t→(∃ s,bO kd n [t.Dims]=some (s.Dims,true)∧Z1 n [t]=some s∧TT s)∨∃ ds,bO kd n [t.Dims]=some (ds,false)∧Z1 n [t]=some ⟨[],[]⟩) :
  oS n b (Ze n (b.map Tensor.Dims)):=by
 refine mL F hk U hu (kU n u l i false false h1 h2 M Y) g ?_ ?_ ?_
 ·intro g
  obtain ⟨f1,f2,L,G,J,f6,f7⟩:=of_decide_eq_true g
  have T:n.Form=[]:=G.resolve_left h.2.2
  have g5:n.Data=[]:=J.resolve_left h.2.1
  refine ⟨?_,by omega⟩
  have g6:(i||((n.Ints.length:Int)==0))=true:=by
   cases i
   ·obtain ⟨rfl,rfl⟩:=I rfl
    have:n.Ints=[]:=List.eq_nil_of_length_eq_zero (by omega)
    rw [this]; rfl
   ·rfl
  have g3:(l||((n.Dims.length:Int)==0))=true:=by
   rcases L with q | q
   ·rw [q]; rfl
   ·rw [q]; simp
  rw [g3,g6,T,g5]; rfl
 ·intro B hw g
  have m:=k8 F hw
  by_cases e:n.Args.length=1
  ·obtain ⟨A,j⟩:∃ A,A=n.Args.map fun a=>ix b a:=⟨_,rfl⟩
   have E:A.length=1:=by rw [j]; simp [e]
   rw [← j] at m ⊢
   obtain ⟨t,rfl⟩:∃ t,A=[t]:=by
    match A,E with
    | [t],_=>exact ⟨t,rfl⟩
   simp only [Bool.false_or,Bool.and_eq_true,Bool.or_eq_true,kV,beq_iff_eq] at B
   have no:¬ (ui≤(n.Ints.length:Int)∧(n.Ints.length:Int)≤uj):=by
    intro z
    exact of_decide_eq_false g ⟨by omega,by omega,B.1.1.1,.inr B.1.2,.inr B.2,z.1,z.2⟩
   cases i with
   | true=>exact Z t (m t (by simp)) no rfl
   | false =>
    obtain ⟨rfl,rfl⟩:=I rfl
    have:n.Ints=[]:=by simpa using B.1.1.2
    exact absurd ⟨by omega,by rw [this]; decide⟩ no
  ·exact ⟨_,O _ (by simpa using e)⟩
 ·intro g hw
  have hF:=of_decide_eq_true g
  obtain ⟨f1,f2,L,G,J,f6,f7⟩:=hF
  have m:=k8 F hw
  obtain ⟨A,j⟩:∃ A,A=n.Args.map fun a=>ix b a:=⟨_,rfl⟩
  have E:A.length=1:=by rw [j]; simp; omega
  have D:Do n b=Z1 n A:=by unfold Do; rw [if_neg h.1,j]
  rw [D]
  rw [← j] at m ⊢
  obtain ⟨t,rfl⟩:∃ t,A=[t]:=by
   match A,E with
   | [t],_=>exact ⟨t,rfl⟩
  rcases r (of_decide_eq_true g) t (m t (by simp)) with ⟨s,q⟩ | q
  ·exact ⟨s,.inl q⟩
  ·exact ⟨⟨[],[]⟩,.inr q⟩
theorem BY (b i j s n args):bO ⟨3,b,i,j,s⟩ n args=Z2t ⟨i⟩ n args:=rfl
theorem Bv (b i j s n args):bO ⟨4,b,i,j,s⟩ n args=Z1w ⟨⟩ n args:=rfl
theorem w6 (b i j s n args):bO ⟨6,b,i,j,s⟩ n args=Z1s ⟨s⟩ n args:=rfl
theorem BZ (b i j s n args):bO ⟨7,b,i,j,s⟩ n args=Z23 ⟨s⟩ n args:=rfl
theorem Bw (b i j s n args):bO ⟨8,b,i,j,s⟩ n args=Z1o ⟨s⟩ i j n args:=rfl
theorem Bx (b i j s n args):bO ⟨9,b,i,j,s⟩ n args=Z1p ⟨s⟩ i j n args:=rfl
theorem xv (b i j s n args):bO ⟨10,b,i,j,s⟩ n args=Z1q ⟨s⟩ i j n args:=rfl
theorem xw (b i j s n args):bO ⟨11,b,i,j,s⟩ n args=Z1r ⟨s⟩ i j n args:=rfl
theorem xx (n:Node)(t:Tensor)(h:6≤n.Op∧n.Op≤9):Z1 n [t]=(Z12 (aH (aH (n.Op - 6)+1)) t).bind fun r=>some r:=by
 have a:n.Op=6∨n.Op=7∨n.Op=8∨n.Op=9:=by omega
 unfold Z1
 rcases a with h | h | h | h<;>simp only [Z1_J1,Z1_J2,h]<;>rfl
theorem uZ {n:Node}{b:List Tensor}(i:Caps n b)(h:6≤n.Op∧n.Op≤9):oS n b (Ze n (b.map Tensor.Dims)):=by
 have a:n.Op=6∨n.Op=7∨n.Op=8∨n.Op=9:=by omega
 refine hK i (kd:=⟨3,false,n.Op - 5,0,[]⟩) (u:=[]) (ui:=0) (uj:=0) (by rcases a with h | h | h | h<;>rw [h]<;>rfl) rfl rfl tj tl tm tn (gM (by omega) (by omega) (by rcases a with h | h | h | h<;>rw [h]<;>rfl) (by rcases a with h | h | h | h<;>rw [h]<;>rfl) (by rcases a with h | h | h | h<;>rw [h]<;>rfl) (by rw [if_neg (by omega)]) ⟨by omega,by omega⟩) ⟨by omega,by omega,by omega⟩ (fun _=>⟨rfl,rfl⟩) ?_ ?_ ?_
 ·intro args l
  rw [BY]; unfold Z2t
  rw [if_pos (by simp; omega)]
 ·intro _ _ _ g; cases g
 ·intro _ t j
  have e:aH (aH (n.Op - 6)+1)=n.Op - 5:=by rw [bA (n:=n.Op - 6) (by omega) (by omega),bA (by omega) (by omega)]; omega
  obtain ⟨d,d1,d2⟩:=zX (op:=n.Op - 5) j (by omega) (by omega)
  exact .inl ⟨⟨t.Dims,d⟩,by rw [BY]; rfl,by rw [xx n t h,e,d1]; rfl,d2⟩
theorem xy {n:Node}{b:List Tensor}(F:Caps n b)(h:n.Op=10):oS n b (Ze n (b.map Tensor.Dims)):=by
 have g:∀ args:List (List Int),args.length≠1∨n.Ints.length≠1→Z1w ⟨⟩ n args=some ([],false):=by
  intro args i
  unfold Z1w
  have e:(((args.length:Int) != 1)||((n.Ints.length:Int) != 1))=true:=by
   rcases i with q | q
   ·have:((args.length:Int) != 1)=true:=by simp; omega
    rw [this]; rfl
   ·have:((n.Ints.length:Int) != 1)=true:=by simp; omega
    rw [this]; simp
  rw [e,if_pos (fun z=>by cases z),if_pos (fun z=>by cases z)]
  simp [bQ]
 refine hK F (kd:=⟨4,false,0,0,[]⟩) (u:=eQ) (ui:=1) (uj:=1) (by rw [h]; rfl) rfl rfl kx ky kz kA (gM (by omega) (by omega) (by rw [h]; rfl) (by rw [h]; rfl) (by rw [h]; rfl) (by rw [if_neg (by omega)]) ⟨by omega,by omega⟩) ⟨by omega,by omega,by omega⟩ (fun E=>by cases E) ?_ ?_ ?_
 ·intro args i
  rw [Bv]; exact g args (.inl i)
 ·intro t _ O _
  rw [Bv]; exact ⟨_,g _ (.inr (by omega))⟩
 ·intro D t s
  obtain ⟨f1,T,M,J,L,U,Y⟩:=D
  have G:n.Ints.length=1:=by omega
  have j:Z1 n [t]=(Za t (ix n.Ints 0)).bind fun r=>some r:=by
   unfold Z1
   simp only [Z1_J1,Z1_J2,h]
   simp only [Int.reduceBEq,Bool.false_eq_true,if_false,if_true,beq_self_eq_true]
   rw [if_pos (by simp),if_pos (by omega)]
   rfl
  have B:Z1w ⟨⟩ n [t.Dims]=some (if 0≤ix n.Ints 0∧ix n.Ints 0<(t.Dims.length:Int) then (t.Dims,true) else ([],false)):=by
   unfold Z1w
   have e:((([t.Dims].length:Int) != 1)||((n.Ints.length:Int) != 1))=false:=by simp [G]
   rw [e,if_pos (fun _=>by simp),if_pos (fun _=>by omega)]
   simp only [bQ,Bool.not_false,cond_true,Zk,Option.bind_some,Bool.false_or]
   have m:ix [t.Dims] (0:Int)=t.Dims:=rfl
   rw [m]
   by_cases c:0≤ix n.Ints 0∧ix n.Ints 0<(t.Dims.length:Int)
   ·rw [if_pos c,if_neg (by simp; omega)]; simp
   ·rw [if_neg c,if_pos (by simp; omega)]
  rw [Bv,B,j]
  obtain ⟨l,I⟩:=z' (a:=ix n.Ints 0) s
  by_cases c:0≤ix n.Ints 0∧ix n.Ints 0<(t.Dims.length:Int)
  ·obtain ⟨d,d1,d2⟩:=l c
   exact .inl ⟨⟨t.Dims,d⟩,by rw [if_pos c],by rw [d1]; rfl,d2⟩
  ·exact .inr ⟨[],by rw [if_neg c],by rw [I c]; rfl⟩
theorem nU {n:Node}{s:aN}{ds:List Int}{v:View}(h:Z1c n ds=some v)(e:VG v.Dims v.Strides v.Offset v.Base):Z1s ⟨s⟩ n [ds]=some (v.Dims,true):=by
 obtain ⟨ps,a⟩:=uQ e
 unfold Z1s
 rw [if_neg (by simp),if_pos (by simp)]
 have b:ix [ds] (0:Int)=ds:=rfl
 unfold Z2r
 rw [b,h]
 simp only [Option.bind_some,a]
theorem lj {n:Node}{s:aN}{ds:List Int}(h:Z1c n ds=some dU):Z1s ⟨s⟩ n [ds]=some ([],false):=by
 unfold Z1s
 rw [if_neg (by simp),if_pos (by simp)]
 have a:ix [ds] (0:Int)=ds:=rfl
 unfold Z2r
 rw [a,h]
 simp only [Option.bind_some,Z2f]
 rw [show Zg dU=some false from uO]
 rfl
theorem mM {n:Node}{s:aN}{args:List (List Int)}(h:args.length≠1):Z1s ⟨s⟩ n args=some ([],false):=by
 unfold Z1s
 rw [if_pos (by simp; omega)]
theorem rv {n:Node}{e:List Tensor}(m:Caps n e)(h:n.Op=12):oS n e (Ze n (e.map Tensor.Dims)):=by
 refine hK m (kd:=⟨6,false,0,0,gU⟩) (u:=gU) (ui:=0) (uj:=0) (by rw [h]; rfl) rfl rfl pF pG pH pI (gM (by omega) (by omega) (by rw [h]; rfl) (by rw [h]; rfl) (by rw [h]; rfl) (by rw [if_neg (by omega)]) ⟨by omega,by omega⟩) ⟨by omega,by omega,by omega⟩ (fun _=>⟨rfl,rfl⟩) ?_ ?_ ?_
 ·intro args s; rw [w6]; exact mM s
 ·intro _ _ _ B; cases B
 ·intro _ t b
  have a:Z1 n [t]=(Zx t.Dims).bind fun l=>(Z03 l n.Dims).bind fun j=>(Z02 t j).bind fun i=>some i:=by
   unfold Z1
   simp only [Z1_J1,Z1_J2,h]
   simp only [Int.reduceBEq,Bool.false_eq_true,if_false,if_true,beq_self_eq_true]
   rw [if_pos (by simp)]
   rfl
  rw [kg b.d] at a
  simp only [Option.bind_some] at a
  rw [t8 b.d m.d] at a
  simp only [Option.bind_some] at a
  have g:Z1c n t.Dims=(Z2d (bU t.Dims) n.Dims).bind fun r=>some r:=by
   unfold Z1c
   rw [kQ b.d]
   simp only [Option.bind_some]
   rw [if_pos (by simp [h])]
  rw [ta b.d m.d] at g
  simp only [Option.bind_some] at g
  rw [w6]
  by_cases c:eC n.Dims∧t.Dims.length≤n.Dims.length∧lR t.Dims (n.Dims.drop (n.Dims.length - t.Dims.length))=true
  ·rw [if_pos c] at a g
   have q:VG n.Dims (jL t.Dims n.Dims) 0 (pr t.Dims):=ng b.d c.1 c.2.1
   obtain ⟨d,d1,d2⟩:=nP (v:=⟨n.Dims,jL t.Dims n.Dims,0,pr t.Dims⟩) b q rfl
   rw [d1] at a
   exact .inl ⟨⟨n.Dims,d⟩,nU g q,a,d2⟩
  ·rw [if_neg c] at a g
   rw [mc b] at a
   exact .inr ⟨[],lj g,a⟩
theorem pJ {n:Node}{b:List Tensor}(i:Caps n b)(h:n.Op=13):oS n b (Ze n (b.map Tensor.Dims)):=by
 refine hK i (kd:=⟨7,false,0,0,gU⟩) (u:=gU) (ui:=0) (uj:=0) (by rw [h]; rfl) rfl rfl pF pG pH pI (gM (by omega) (by omega) (by rw [h]; rfl) (by rw [h]; rfl) (by rw [h]; rfl) (by rw [if_neg (by omega)]) ⟨by omega,by omega⟩) ⟨by omega,by omega,by omega⟩ (fun _=>⟨rfl,rfl⟩) ?_ ?_ ?_
 ·intro args B
  rw [BZ]; unfold Z23
  rw [if_pos (by simp; omega)]
 ·intro _ _ _ s; cases s
 ·intro _ t e
  have a:Z1 n [t]=(Zx t.Dims).bind fun g=>(Z0b g n.Dims).bind fun m=>(Z02 t m).bind fun l=>some l:=by
   unfold Z1
   simp only [Z1_J1,Z1_J2,h]
   simp only [Int.reduceBEq,Bool.false_eq_true,if_false,if_true,beq_self_eq_true]
   rw [if_pos (by simp)]
   rfl
  rw [kg e.d] at a
  simp only [Option.bind_some] at a
  rw [rr e.d i.d] at a
  simp only [Option.bind_some] at a
  obtain ⟨ps,j⟩:=mI (n:=n) e.d i.d
  have q:Z23 ⟨gU⟩ n [t.Dims]=(Z10 n t.Dims).bind fun r=>some (r.1,r.2.2):=by
   unfold Z23
   rw [if_neg (by simp),if_pos (by simp)]
   rfl
  rw [BZ,q,j]
  by_cases c:eC n.Dims∧pr n.Dims=pr t.Dims
  ·rw [if_pos c] at a ⊢
   obtain ⟨d,d1,d2⟩:=nP (v:=bU n.Dims) e (iR c.1) c.2
   rw [d1] at a
   exact .inl ⟨⟨n.Dims,d⟩,rfl,a,d2⟩
  ·rw [if_neg c] at a ⊢
   rw [mc e] at a
   exact .inr ⟨[],rfl,a⟩
theorem tt {n:Node}{i:List Tensor}(F:Caps n i)(h:n.Op=14):oS n i (Ze n (i.map Tensor.Dims)):=by
 refine hK F (kd:=⟨6,false,0,0,eQ⟩) (u:=eQ) (ui:=4) (uj:=4) (by rw [h]; rfl) rfl rfl kx ky kz kA (gM (by omega) (by omega) (by rw [h]; rfl) (by rw [h]; rfl) (by rw [h]; rfl) (by rw [if_neg (by omega)]) ⟨by omega,by omega⟩) ⟨by omega,by omega,by omega⟩ (fun E=>by cases E) ?_ ?_ ?_
 ·intro args B; rw [w6]; exact mM B
 ·intro t b M _
  rw [w6]
  refine ⟨_,lj ?_⟩
  unfold Z1c
  rw [kQ b.d]
  simp only [Option.bind_some,h]
  have e:((n.Ints.length:Int)==4)=false:=by simp; omega
  rw [if_neg (by simp),e]
  simp [dU]
 ·intro D t b
  obtain ⟨f1,O,L,I,J,T,U⟩:=D
  have G:n.Ints.length=4:=by omega
  have a:Z1 n [t]=if ix n.Ints 3<1 then some ⟨[],[]⟩ else (Zx t.Dims).bind fun j=>(Z1a j (ix n.Ints 0) (ix n.Ints 1) (ix n.Ints 2) (ix n.Ints 3)).bind fun l=>(Z02 t l).bind fun m=>some m:=by
   unfold Z1
   simp only [Z1_J1,Z1_J2,h]
   simp only [Int.reduceBEq,Bool.false_eq_true,if_false,if_true,beq_self_eq_true]
   rw [if_pos (by omega)]
   by_cases c:ix n.Ints 3<1
   ·rw [if_pos (by simpa using c),if_pos c]
   ·rw [if_neg (by simpa using c),if_neg c,if_pos (by simp)]
    show (Zx t.Dims).bind _=_
    rw [kg b.d]
    simp only [Option.bind_some]
    rw [if_pos (by omega),if_pos (by omega),if_pos (by omega)]
    rfl
  have g:Z1c n t.Dims=if 1≤ix n.Ints 3 then (Z2c (bU t.Dims) (ix n.Ints 0) (ix n.Ints 1) (ix n.Ints 2) (ix n.Ints 3)).bind fun r=>some r else some dU:=by
   unfold Z1c
   rw [kQ b.d]
   simp only [Option.bind_some,h,G]
   rw [if_neg (by simp),if_pos (by simp)]
   by_cases c:1≤ix n.Ints 3
   ·rw [if_pos (by simp; omega),if_pos (by simp),if_pos (by simp),if_pos (by simp),if_pos (by simp),if_pos c]
   ·rw [if_neg (by simp; omega),if_neg (by simp),if_neg c]; rfl
  rw [w6]
  by_cases c:1≤ix n.Ints 3
  ·rw [if_neg (by omega),kg b.d] at a
   simp only [Option.bind_some] at a
   rw [uS b.d c] at a
   rw [if_pos c,uT b.d c] at g
   simp only [Option.bind_some] at a g
   by_cases q:lT t.Dims (ix n.Ints 0) (ix n.Ints 1) (ix n.Ints 2) (ix n.Ints 3)
   ·rw [if_pos q] at a g
    have s:=nM b.d q
    obtain ⟨d,d1,d2⟩:=nP b s rfl
    rw [d1] at a
    exact .inl ⟨⟨_,d⟩,nU g s,a,d2⟩
   ·rw [if_neg q] at a g
    rw [mc b] at a
    exact .inr ⟨[],lj g,a⟩
  ·rw [if_pos (by omega)] at a
   rw [if_neg c] at g
   exact .inr ⟨[],lj g,a⟩
theorem rx {n:Node}{g:List Tensor}(F:Caps n g)(h:n.Op=18):oS n g (Ze n (g.map Tensor.Dims)):=by
 refine hK F (kd:=⟨6,false,0,0,eQ⟩) (u:=eQ) (ui:=3) (uj:=3) (by rw [h]; rfl) rfl rfl kx ky kz kA (gM (by omega) (by omega) (by rw [h]; rfl) (by rw [h]; rfl) (by rw [h]; rfl) (by rw [if_neg (by omega)]) ⟨by omega,by omega⟩) ⟨by omega,by omega,by omega⟩ (fun E=>by cases E) ?_ ?_ ?_
 ·intro args B; rw [w6]; exact mM B
 ·intro t b M _
  rw [w6]
  refine ⟨_,lj ?_⟩
  unfold Z1c
  rw [kQ b.d]
  simp only [Option.bind_some,h]
  have e:((n.Ints.length:Int)==3)=false:=by simp; omega
  rw [if_neg (by simp),e]
  simp [dU]
 ·intro D t b
  obtain ⟨f1,O,L,I,J,T,U⟩:=D
  have G:n.Ints.length=3:=by omega
  have a:Z1 n [t]=(Zx t.Dims).bind fun j=>(Z0e j (ix n.Ints 0) (ix n.Ints 1) (ix n.Ints 2)).bind fun l=>(Z02 t l).bind fun m=>some m:=by
   unfold Z1
   simp only [Z1_J1,Z1_J2,h]
   simp only [Int.reduceBEq,Bool.false_eq_true,if_false,if_true,beq_self_eq_true]
   rw [if_pos (by simp)]
   show (Zx t.Dims).bind _=_
   rw [kg b.d]
   simp only [Option.bind_some]
   rw [if_pos (by omega),if_pos (by omega),if_pos (by omega)]
   rfl
  have i:Z1c n t.Dims=(Z2e (bU t.Dims) (ix n.Ints 0) (ix n.Ints 1) (ix n.Ints 2)).bind fun r=>some r:=by
   unfold Z1c
   rw [kQ b.d]
   simp only [Option.bind_some,h,G]
   rw [if_neg (by simp),if_pos (fun z=>by simp at z),if_neg (by simp),if_pos (by simp),if_pos (by simp),if_pos (by simp),if_pos (by simp)]
  rw [w6]
  rw [kg b.d] at a
  simp only [Option.bind_some] at a
  rw [rn b.d] at a
  rw [rp b.d] at i
  simp only [Option.bind_some] at a i
  by_cases q:lU t.Dims (ix n.Ints 0) (ix n.Ints 1) (ix n.Ints 2)∧eC (fK t.Dims (ix n.Ints 0) (ix n.Ints 1) (ix n.Ints 2)).Dims
  ·rw [if_pos q] at a i
   have s:=pD b.d q.1 q.2
   obtain ⟨d,d1,d2⟩:=nP b s rfl
   rw [d1] at a
   exact .inl ⟨⟨_,d⟩,nU i s,a,d2⟩
  ·rw [if_neg q] at a i
   rw [mc b] at a
   exact .inr ⟨[],lj i,a⟩
theorem tu {s i j}{n:Node}{args:List (List Int)}(h:args.length≠1):Z1o s i j n args=some ([],false):=by
 unfold Z1o
 rw [if_pos (by simp; omega)]
theorem xz {s i j}{n:Node}{ds:List Int}(h:¬ (i≤(n.Ints.length:Int)∧(n.Ints.length:Int)≤j)):Z1o s i j n [ds]=some ([],false):=by
 unfold Z1o
 rw [if_neg (by simp),if_pos (by simp)]
 unfold Z2n
 rw [if_pos (by simp; omega)]
 rfl
theorem u' {s i j}{n:Node}{ds:List Int}(h:i≤(n.Ints.length:Int)∧(n.Ints.length:Int)≤j):Z1o s i j n [ds]=(Z1x n.Ints ds).bind fun r=>some (r.1,r.2.2):=by
 unfold Z1o
 rw [if_neg (by simp),if_pos (by simp)]
 unfold Z2n
 rw [if_neg (by simp; omega)]
 have a:ix [ds] (0:Int)=ds:=rfl
 rw [a]
 cases Z1x n.Ints ds<;>rfl
theorem tv {s i j}{n:Node}{args:List (List Int)}(h:args.length≠1):Z1p s i j n args=some ([],false):=by
 unfold Z1p
 rw [if_pos (by simp; omega)]
theorem xA {s i j}{n:Node}{ds:List Int}(h:¬ (i≤(n.Ints.length:Int)∧(n.Ints.length:Int)≤j)):Z1p s i j n [ds]=some ([],false):=by
 unfold Z1p
 rw [if_neg (by simp),if_pos (by simp)]
 unfold Z2o
 rw [if_pos (by simp; omega)]
 rfl
theorem v2 {s i j}{n:Node}{ds:List Int}(h:i≤(n.Ints.length:Int)∧(n.Ints.length:Int)≤j):Z1p s i j n [ds]=(Z1y n.Ints ds).bind fun r=>some (r.1,r.2.2):=by
 unfold Z1p
 rw [if_neg (by simp),if_pos (by simp)]
 unfold Z2o
 rw [if_neg (by simp; omega)]
 have a:ix [ds] (0:Int)=ds:=rfl
 rw [a]
 cases Z1y n.Ints ds<;>rfl
theorem tw {s i j}{n:Node}{args:List (List Int)}(h:args.length≠1):Z1q s i j n args=some ([],false):=by
 unfold Z1q
 rw [if_pos (by simp; omega)]
theorem xB {s i j}{n:Node}{ds:List Int}(h:¬ (i≤(n.Ints.length:Int)∧(n.Ints.length:Int)≤j)):Z1q s i j n [ds]=some ([],false):=by
 unfold Z1q
 rw [if_neg (by simp),if_pos (by simp)]
 unfold Z2p
 rw [if_pos (by simp; omega)]
 rfl
theorem v6 {s i j}{n:Node}{ds:List Int}(h:i≤(n.Ints.length:Int)∧(n.Ints.length:Int)≤j):Z1q s i j n [ds]=(Z1z n.Ints ds).bind fun r=>some (r.1,r.2.2):=by
 unfold Z1q
 rw [if_neg (by simp),if_pos (by simp)]
 unfold Z2p
 rw [if_neg (by simp; omega)]
 have a:ix [ds] (0:Int)=ds:=rfl
 rw [a]
 cases Z1z n.Ints ds<;>rfl
theorem tx {s i j}{n:Node}{args:List (List Int)}(h:args.length≠1):Z1r s i j n args=some ([],false):=by
 unfold Z1r
 rw [if_pos (by simp; omega)]
theorem xC {s i j}{n:Node}{ds:List Int}(h:¬ (i≤(n.Ints.length:Int)∧(n.Ints.length:Int)≤j)):Z1r s i j n [ds]=some ([],false):=by
 unfold Z1r
 rw [if_neg (by simp),if_pos (by simp)]
 unfold Z2q
 rw [if_pos (by simp; omega)]
 rfl
theorem v7 {s i j}{n:Node}{ds:List Int}(h:i≤(n.Ints.length:Int)∧(n.Ints.length:Int)≤j):Z1r s i j n [ds]=(Z20 n.Ints ds).bind fun r=>some (r.1,r.2.2):=by
 unfold Z1r
 rw [if_neg (by simp),if_pos (by simp)]
 unfold Z2q
 rw [if_neg (by simp; omega)]
 have a:ix [ds] (0:Int)=ds:=rfl
 rw [a]
 cases Z20 n.Ints ds<;>rfl
theorem xD {n:Node}{e:List Tensor}(F:Caps n e)(h:n.Op=15):oS n e (Ze n (e.map Tensor.Dims)):=by
 refine hK F (kd:=⟨8,false,4,4,eQ⟩) (u:=eQ) (ui:=4) (uj:=4) (by rw [h]; rfl) rfl rfl kx ky kz kA (gM (by omega) (by omega) (by rw [h]; rfl) (by rw [h]; rfl) (by rw [h]; rfl) (by simp [h]) ⟨by omega,by omega⟩) ⟨by omega,by omega,by omega⟩ (fun E=>by cases E) ?_ ?_ ?_
 ·intro args l; rw [Bw]; exact tu l
 ·intro t j G _; rw [Bw]; exact ⟨_,xz G⟩
 ·intro D t j
  obtain ⟨f1,Y,U,O,T,J,M⟩:=D
  have i:Z1 n [t]=(Z0t t (ix n.Ints 0) (ix n.Ints 1) (ix n.Ints 2) (ix n.Ints 3)).bind fun r=>some r:=by
   unfold Z1
   simp only [Z1_J1,Z1_J2,h]
   simp only [Int.reduceBEq,Bool.false_eq_true,if_false,if_true,beq_self_eq_true]
   rw [if_pos (by simp),if_pos (by omega),if_pos (by omega),if_pos (by omega),if_pos (by omega)]
   rfl
  have s:Z1x n.Ints t.Dims=(Zz t.Dims (ix n.Ints 0) (ix n.Ints 1) (ix n.Ints 2) (ix n.Ints 3)).bind fun r=>some (r.1,r.2.1,r.2.2):=by
   unfold Z1x
   rw [if_pos (by omega),if_pos (by omega),if_pos (by omega),if_pos (by omega)]
  rw [Bw,u' ⟨J,M⟩,s,i]
  obtain ⟨ds,ps,L,q⟩:Sh (Zz t.Dims (ix n.Ints 0) (ix n.Ints 1) (ix n.Ints 2) (ix n.Ints 3)) (mK t.Dims (ix n.Ints 0) (ix n.Ints 1) (ix n.Ints 2) (ix n.Ints 3)) (t.Dims.set (ix n.Ints 0).toNat (jP t.Dims (ix n.Ints 0) (ix n.Ints 1) (ix n.Ints 2) (ix n.Ints 3))):=A0 j.d
  obtain ⟨m,I⟩:=zZ (a:=ix n.Ints 0) (b:=ix n.Ints 1) (f:=ix n.Ints 2) (g:=ix n.Ints 3) j
  rw [L]
  by_cases c:mK t.Dims (ix n.Ints 0) (ix n.Ints 1) (ix n.Ints 2) (ix n.Ints 3)
  ·obtain ⟨d,d1,d2⟩:=m c
   have B:=q c
   rw [d1,decide_eq_true c]
   subst B
   exact .inl ⟨⟨_,d⟩,rfl,rfl,d2⟩
  ·rw [I c,decide_eq_false c]
   exact .inr ⟨ds,rfl,rfl⟩
theorem ry {n:Node}{b:List Tensor}(j:Caps n b)(h:n.Op=16):oS n b (Ze n (b.map Tensor.Dims)):=by
 refine hK j (kd:=⟨9,false,1,4097,eQ⟩) (u:=eQ) (ui:=1) (uj:=4097) (by rw [h]; rfl) rfl rfl kx ky kz kA (gM (by omega) (by omega) (by rw [h]; rfl) (by rw [h]; rfl) (by rw [h]; rfl) (by simp [h]) ⟨by omega,by omega⟩) ⟨by omega,by omega,by omega⟩ (fun E=>by cases E) ?_ ?_ ?_
 ·intro args l; rw [Bx]; exact tv l
 ·intro t g F _; rw [Bx]; exact ⟨_,xA F⟩
 ·intro D t g
  obtain ⟨f1,U,T,M,O,I,L⟩:=D
  have e:Z1 n [t]=(Z0s t (ix n.Ints 0) (n.Ints.drop 1)).bind fun r=>some r:=by
   unfold Z1
   simp only [Z1_J1,Z1_J2,h]
   simp only [Int.reduceBEq,Bool.false_eq_true,if_false,if_true,beq_self_eq_true]
   rw [if_pos (by simp),if_pos (by omega),if_pos (by omega),hJ]
   rfl
  have s:Z1y n.Ints t.Dims=(Z0f t.Dims (ix n.Ints 0) (n.Ints.drop 1)).bind fun r=>some (r.1,r.2.1,r.2.2):=by
   unfold Z1y
   rw [if_pos (by omega),if_pos (by omega),hJ]
   rfl
  rw [Bx,v2 ⟨I,L⟩,s,e]
  obtain ⟨ds,ps,J,q⟩:Sh (Z0f t.Dims (ix n.Ints 0) (n.Ints.drop 1)) (mJ t.Dims (ix n.Ints 0) (n.Ints.drop 1)) (t.Dims.set (ix n.Ints 0).toNat ((n.Ints.drop 1).length:Int)):=th g.d (by have:=j.i; simp; omega)
  obtain ⟨m,G⟩:=tg (a:=ix n.Ints 0) (xs:=n.Ints.drop 1) g (by have:=j.i; simp; omega)
  rw [J]
  by_cases c:mJ t.Dims (ix n.Ints 0) (n.Ints.drop 1)
  ·obtain ⟨d,d1,d2⟩:=m c
   have B:=q c
   rw [d1,decide_eq_true c]
   subst B
   exact .inl ⟨⟨_,d⟩,rfl,rfl,d2⟩
  ·rw [G c,decide_eq_false c]
   exact .inr ⟨ds,rfl,rfl⟩
theorem pK {n:Node}{b:List Tensor}(j:Caps n b)(h:n.Op=17):oS n b (Ze n (b.map Tensor.Dims)):=by
 refine hK j (kd:=⟨10,false,2,4098,eQ⟩) (u:=eQ) (ui:=2) (uj:=4098) (by rw [h]; rfl) rfl rfl kx ky kz kA (gM (by omega) (by omega) (by rw [h]; rfl) (by rw [h]; rfl) (by rw [h]; rfl) (by simp [h]) ⟨by omega,by omega⟩) ⟨by omega,by omega,by omega⟩ (fun E=>by cases E) ?_ ?_ ?_
 ·intro args l; rw [xv]; exact tw l
 ·intro t g F _; rw [xv]; exact ⟨_,xB F⟩
 ·intro D t g
  obtain ⟨f1,U,T,M,O,I,L⟩:=D
  have e:Z1 n [t]=(Z0u t (ix n.Ints 0) (n.Ints.drop 2) (ix n.Ints 1)).bind fun r=>some r:=by
   unfold Z1
   simp only [Z1_J1,Z1_J2,h]
   simp only [Int.reduceBEq,Bool.false_eq_true,if_false,if_true,beq_self_eq_true]
   rw [if_pos (by simp),if_pos (by omega),if_pos (by omega),if_pos (by omega),hJ]
   rfl
  have s:Z1z n.Ints t.Dims=(Z0g t.Dims (ix n.Ints 0) (n.Ints.drop 2) (ix n.Ints 1)).bind fun r=>some (r.1,r.2.1,r.2.2):=by
   unfold Z1z
   rw [if_pos (by omega),if_pos (by omega),if_pos (by omega),hJ]
   rfl
  rw [xv,v6 ⟨I,L⟩,s,e]
  obtain ⟨ds,ps,J,q⟩:Sh (Z0g t.Dims (ix n.Ints 0) (n.Ints.drop 2) (ix n.Ints 1)) (lV t.Dims (ix n.Ints 0) (n.Ints.drop 2) (ix n.Ints 1)) (t.Dims.set (ix n.Ints 0).toNat (ix n.Ints 1)):=ru g.d (by have:=j.i; simp; omega)
  obtain ⟨m,G⟩:=rt (a:=ix n.Ints 0) (n:=ix n.Ints 1) (xs:=n.Ints.drop 2) g (by have:=j.i; simp; omega)
  rw [J]
  by_cases c:lV t.Dims (ix n.Ints 0) (n.Ints.drop 2) (ix n.Ints 1)
  ·obtain ⟨d,d1,d2⟩:=m c
   have B:=q c
   rw [d1,decide_eq_true c]
   subst B
   exact .inl ⟨⟨_,d⟩,rfl,rfl,d2⟩
  ·rw [G c,decide_eq_false c]
   exact .inr ⟨ds,rfl,rfl⟩
theorem v8 {n:Node}{b:List Tensor}(D:Caps n b)(h:n.Op=19):oS n b (Ze n (b.map Tensor.Dims)):=by
 refine hK D (kd:=⟨11,false,3,3,eQ⟩) (u:=eQ) (ui:=3) (uj:=3) (by rw [h]; rfl) rfl rfl kx ky kz kA (gM (by omega) (by omega) (by rw [h]; rfl) (by rw [h]; rfl) (by rw [h]; rfl) (by simp [h]) ⟨by omega,by omega⟩) ⟨by omega,by omega,by omega⟩ (fun B=>by cases B) ?_ ?_ ?_
 ·intro args i; rw [xw]; exact tx i
 ·intro t g E _; rw [xw]; exact ⟨_,xC E⟩
 ·intro s t g
  obtain ⟨f1,T,O,L,M,G,J⟩:=s
  have e:Z1 n [t]=(Z0r t (ix n.Ints 0) (ix n.Ints 1) (ix n.Ints 2)).bind fun r=>some r:=by
   unfold Z1
   simp only [Z1_J1,Z1_J2,h]
   simp only [Int.reduceBEq,Bool.false_eq_true,if_false,if_true,beq_self_eq_true]
   rw [if_pos (by simp),if_pos (by omega),if_pos (by omega),if_pos (by omega)]
   rfl
  have m:Z20 n.Ints t.Dims=(Z4 t.Dims (ix n.Ints 0) (ix n.Ints 1) (ix n.Ints 2)).bind fun r=>some (r.1,r.2.1,r.2.2):=by
   unfold Z20
   rw [if_pos (by omega),if_pos (by omega),if_pos (by omega)]
  rw [xw,v7 ⟨G,J⟩,m,e]
  obtain ⟨ds,ps,I,l⟩:Sh (Z4 t.Dims (ix n.Ints 0) (ix n.Ints 1) (ix n.Ints 2)) (lX t.Dims (ix n.Ints 0) (ix n.Ints 1) (ix n.Ints 2)) ((t.Dims.set (ix n.Ints 0).toNat (ix n.Ints 2)).take (t.Dims.length - 1)):=xj g.d
  obtain ⟨j,F⟩:=xh (a:=ix n.Ints 0) (st:=ix n.Ints 1) (n:=ix n.Ints 2) g
  rw [I]
  by_cases c:lX t.Dims (ix n.Ints 0) (ix n.Ints 1) (ix n.Ints 2)
  ·obtain ⟨d,d1,d2⟩:=j c
   have q:=l c
   rw [d1,decide_eq_true c]
   subst q
   exact .inl ⟨⟨_,d⟩,rfl,rfl,d2⟩
  ·rw [F c,decide_eq_false c]
   exact .inr ⟨ds,rfl,rfl⟩
def LT (s:aN):Prop:=s.length≤6∧∀ c∈s,97≤c.toNat∧c.toNat≤122
instance (s:aN):Decidable (LT s):=by unfold LT; infer_instance
theorem nk {s:aN}(b:s.length<cB):Z0w s=some (decide (LT s)):=by
 unfold Z0w
 have:=eO s (fun i:Int=>Z0w_L1 s i) (fun i=>i) (fun c=>decide (97≤c.toNat∧c.toNat≤122)) (.inl false) (.inr ())
  (fun k g=>by
   have a:bt s (k:Int)=((ix s (k:Int)).toNat:Int):=rfl
   simp only [Z0w_L1]
   rw [if_pos (by simp; omega),if_pos (by omega),bX (by omega)]
   by_cases q:97≤(ix s (k:Int)).toNat∧(ix s (k:Int)).toNat≤122
   ·rw [if_neg (by simp only [Bool.or_eq_true,decide_eq_true_eq,a]; omega),decide_eq_true q,if_pos rfl]
   ·rw [if_pos (by simp only [Bool.or_eq_true,decide_eq_true_eq,a]; omega),decide_eq_false q,if_neg (by simp)])
  (by simp only [Z0w_L1]; rw [if_neg (by simp)])
 rw [this]
 have e:(s.all fun c=>decide (97≤c.toNat∧c.toNat≤122))=decide (∀ c∈s,97≤c.toNat∧c.toNat≤122):=by
  rw [Bool.eq_iff_iff]
  simp only [List.all_eq_true,decide_eq_true_eq]
 rw [e]
 by_cases c:∀ c∈s,97≤c.toNat∧c.toNat≤122
 ·rw [decide_eq_true c,if_pos rfl]
  show some (decide ((s.length:Int)≤6))=_
  congr 1
  rw [Bool.eq_iff_iff]
  simp only [decide_eq_true_eq]
  exact ⟨fun h=>⟨by omega,c⟩,fun h=>by have:=h.1; omega⟩
 ·rw [decide_eq_false c,decide_eq_false (fun z:LT s=>c z.2)]; rfl
theorem kW {a b:UInt8}:((a.toNat:Int)==(b.toNat:Int))=decide (a=b):=by
 rw [Bool.eq_iff_iff]
 simp only [beq_iff_eq,decide_eq_true_eq]
 exact ⟨fun h=>UInt8.toNat_inj.1 (by omega),fun h=>by rw [h]⟩
theorem w7 {s:aN}(h:s.length<cB)(b:UInt8):Z0v s (b.toNat:Int)=some (decide (b∈s)):=by
 unfold Z0v
 have:=eO s (fun i:Int=>Z0v_L1 s (b.toNat:Int) i) (fun i=>i) (fun c=>!(decide (c=b))) (.inl true) (.inr ())
  (fun k j=>by
   have a:(bt s (k:Int)==(b.toNat:Int))=decide (ix s (k:Int)=b):=kW
   simp only [Z0v_L1]
   rw [if_pos (by simp; omega),if_pos (by omega),bX (by omega),a]
   cases decide (ix s (k:Int)=b)<;>rfl)
  (by simp only [Z0v_L1]; rw [if_neg (by simp)])
 rw [this]
 by_cases c:b∈s
 ·have e:(s.all fun c=>!(decide (c=b)))=false:=by
   rw [List.all_eq_false]; exact ⟨b,c,by simp⟩
  rw [e,decide_eq_true c]; rfl
 ·have e:(s.all fun c=>!(decide (c=b)))=true:=by
   rw [List.all_eq_true]; intro x g
   have:x≠b:=fun q=>c (q▸g)
   simp [this]
  rw [e,decide_eq_false c]; rfl
theorem rz (c:UInt8):((c.toNat:Int)).toNat.toUInt8=c:=by
 rw [Int.toNat_natCast]
 exact UInt8.ofNat_toNat
theorem tz (s:aN)(c:UInt8):(Lib.indexByte s c<0)↔c ∉ s:=by
 induction s with
 | nil=>simp [Lib.indexByte]
 | cons b l ih =>
  unfold Lib.indexByte
  by_cases e:b=c
  ·subst e; simp
  ·have a:(b==c)=false:=by simpa using e
   have:=Lib.indexByte_ge l c
   rw [a]
   simp only [Bool.false_eq_true,if_false,List.mem_cons,not_or]
   rw [← ih]
   by_cases q:Lib.indexByte l c = -1
   ·rw [q]; simp; exact fun z=>e z.symm
   ·rw [if_neg (by simpa using q)]
    exact ⟨fun z=>by omega,fun z=>by omega⟩
theorem nV (s:aN)(c:UInt8):∃ r,Z1t s (c.toNat:Int)=some r∧(r<0↔c ∉ s):=by
 unfold Z1t dE
 rw [rz]
 exact ⟨_,rfl,tz s c⟩
def pL:aN→Option (aN×aN)
 | []=>none
 | [_]=>none
 | x::y::r=>if x=45∧y=62 then some ([],r) else (pL (y::r)).map fun p=>(x::p.1,p.2)
def ce:aN→Nat
 | []=>0
 | [_]=>0
 | x::y::r=>if x=45∧y=62 then 0 else ce (y::r)+1
theorem kX:∀ {s l o:aN},pL s=some (l,o)→ce s=l.length∧s=l++45::62::o
 | [],_,_,h=>by cases h
 | [_],_,_,h=>by cases h
 | x::y::r,l,o,h=>by
  unfold pL at h; unfold ce
  by_cases c:x=45∧y=62
  ·rw [if_pos c] at h ⊢
   obtain ⟨rfl,rfl⟩:=c
   cases h
   exact ⟨rfl,rfl⟩
  ·rw [if_neg c] at h ⊢
   obtain ⟨⟨e,o'⟩,h1,h2⟩:=Option.map_eq_some_iff.1 h
   cases h2
   obtain ⟨a,b⟩:=kX h1
   exact ⟨by rw [a]; rfl,by rw [b]; rfl⟩
theorem qL:∀ {s:aN},pL s=none→s.length≤ce s+1
 | [],h=>by simp
 | [_],h=>by simp
 | x::y::r,h=>by
  unfold pL at h; unfold ce
  by_cases c:x=45∧y=62
  ·rw [if_pos c] at h; cases h
  ·rw [if_neg c] at h ⊢
   have:=qL (s:=y::r) (by simpa using h)
   simp at this ⊢; omega
theorem qO:∀ {s:aN} {j:Nat},j<ce s→j+1<s.length∧(s.drop j).take 2≠[45,62]
 | [],_,h=>by simp [ce] at h
 | [_],_,h=>by simp [ce] at h
 | x::y::r,j,h=>by
  unfold ce at h
  by_cases c:x=45∧y=62
  ·rw [if_pos c] at h; omega
  ·rw [if_neg c] at h
   cases j with
   | zero=>exact ⟨by simp,by simpa using c⟩
   | succ j =>
    obtain ⟨a,b⟩:=qO (s:=y::r) (j:=j) (by omega)
    exact ⟨by simp at a ⊢; omega,by simpa using b⟩
theorem w8:∀ {s:aN},ce s+1<s.length→(s.drop (ce s)).take 2=[45,62]
 | [],h=>by simp at h
 | [_],h=>by simp [ce] at h
 | x::y::r,h=>by
  unfold ce at h ⊢
  by_cases c:x=45∧y=62
  ·rw [if_pos c]; obtain ⟨rfl,rfl⟩:=c; rfl
  ·rw [if_neg c] at h ⊢
   have:=w8 (s:=y::r) (by simp at h ⊢; omega)
   simpa using this
theorem nl:∀ (s:aN),Lib.index s str0=match pL s with | some p=>(p.1.length:Int) | none => -1
 | []=>rfl
 | [x]=>by
  unfold Lib.index pL
  simp [str0,Lib.index]
 | x::y::r=>by
  unfold Lib.index pL
  by_cases c:x=45∧y=62
  ·obtain ⟨rfl,rfl⟩:=c
   rw [if_pos (by simp [str0]),if_pos ⟨rfl,rfl⟩]; rfl
  ·rw [if_neg (by simp [str0]; intro a b; exact c ⟨a.symm,b.symm⟩),if_neg c,nl (y::r)]
   cases pL (y::r) with
   | none=>rfl
   | some p =>
    simp only [Option.map_some]
    rw [if_neg (by simp)]
    simp
def pre (p:aN):List aN→List aN
 | []=>[p]
 | g::gs=>(p++g)::gs
def fL:aN→List aN
 | []=>[[]]
 | x::r=>if x=44 then []::fL r else pre [x] (fL r)
theorem kY (x:UInt8)(r:aN):fL (x::r)=if x=44 then []::fL r else pre [x] (fL r):=rfl
theorem xE (p:aN)(gs:List aN):pre p gs≠[]:=by cases gs<;>simp [pre]
theorem ll (s:aN):fL s≠[]:=by
 cases s with
 | nil=>simp [fL]
 | cons x r=>unfold fL; split; simp; exact xE _ _
theorem qP {gs:List aN}(h:gs≠[]):pre [] gs=gs:=by
 cases gs with
 | nil=>exact absurd rfl h
 | cons g gs=>rfl
theorem va (p q:aN)(gs:List aN):pre p (pre q gs)=pre (p++q) gs:=by
 cases gs<;>simp [pre]
theorem vc (s:aN):(fL s).length=s.count 44+1:=by
 induction s with
 | nil=>rfl
 | cons x r ih =>
  unfold fL
  by_cases c:x=44
  ·subst c; simp [ih]
  ·rw [if_neg c,List.count_cons_of_ne (fun z=>c z)]
   cases h:fL r with
   | nil=>exact absurd h (ll r)
   | cons g gs=>rw [h] at ih; simpa [pre] using ih
theorem xF {s:aN}(h:s.count 44=0):fL s=[s]:=by
 induction s with
 | nil=>rfl
 | cons x r ih =>
  have c:x≠44:=by intro q; subst q; simp at h
  rw [List.count_cons_of_ne (fun z=>c z)] at h
  unfold fL
  rw [if_neg c,ih h]; rfl
theorem vd (s:aN)(c:UInt8)(a:c≠44):(∃ g∈fL s,c∈g)↔c∈s:=by
 induction s with
 | nil=>simp [fL]
 | cons x r ih =>
  unfold fL
  by_cases q:x=44
  ·subst q
   rw [if_pos rfl]
   simp [a,ih]
  ·rw [if_neg q,List.mem_cons,← ih]
   cases h:fL r with
   | nil=>exact absurd h (ll r)
   | cons g gs=>simp [pre,or_assoc]
theorem w9:∀ {x:aN},x.count 44≠0→∃ g r,x=g++44::r∧Lib.index x str6=(g.length:Int)∧fL x=g::fL r∧x.count 44=r.count 44+1
 | [],h=>by simp at h
 | b::l,h=>by
  by_cases c:b=44
  ·subst c
   exact ⟨[],l,rfl,by unfold Lib.index; simp [str6],by rw [kY,if_pos rfl],by simp⟩
  ·rw [List.count_cons_of_ne (fun z=>c z)] at h
   obtain ⟨g,r,h1,h2,a,e⟩:=w9 h
   refine ⟨b::g,r,by rw [h1]; rfl,?_,?_,?_⟩
   ·unfold Lib.index
    rw [if_neg (by simp [str6]; exact fun z=>c z.symm),h2,if_neg (by simp)]
    simp
   ·rw [kY,if_neg c,a]; rfl
   ·rw [List.count_cons_of_ne (fun z=>c z)]; exact e
theorem ve {p:aN}(I:p.length≤1048576):Z30 p str6=some (fL p):=by
 have Z:p.count 44≤p.length:=List.count_le_length
 have m:(if (aH ((p.length:Int)+1))<((p.count 44+1:Nat):Int) then (aH ((p.length:Int)+1)) else ((p.count 44+1:Nat):Int))=((p.count 44+1:Nat):Int):=by
  rw [bX (by unfold cB; omega),if_neg (by omega)]
 have hw:aH (((p.count 44+1:Nat):Int) - 1)=(p.count 44:Int):=by rw [bA (by omega) (by omega)]; omega
 unfold Z30 Z0l
 rw [if_neg (by decide),if_neg (by simp [str6]),if_pos (by decide)]
 have h:Z38 p str6=some (p.count 44:Int):=rfl
 rw [h]
 simp only [Option.bind_some]
 rw [bX (by unfold cB; omega)]
 unfold Z0l_J2
 rw [m,if_pos (by omega),Int.toNat_natCast]
 obtain ⟨e,E,M⟩:=fX (f:=fun s:aN×List aN×Int=>Z0l_L1 p str6 0 ((p.count 44+1:Nat):Int) s.1 s.2.1 s.2.2)
  (fun j s=>s.2.2=(j:Int)∧s.2.1.length=p.count 44+1∧s.2.1.take j++fL s.1=fL p∧s.1.count 44+j=p.count 44∧s.1.length≤1048576) (p.count 44)
  (Post:=fun e=>e.2.2=(p.count 44:Int)∧e.2.1.length=p.count 44+1∧e.2.1.take (p.count 44)++[e.1]=fL p)
  (fun j s Y B=>by
   obtain ⟨x,a,i⟩:=s
   obtain ⟨h1,h2,b,q,u⟩:=B
   simp only at h1 h2 b q u
   subst h1
   obtain ⟨g,r,g1,G,J,U⟩:=w9 (x:=x) (by omega)
   have hx:x.length=g.length+1+r.length:=by rw [g1]; simp; omega
   have L:Z2b x str6=some (g.length:Int):=by
    unfold Z2b cK
    rw [if_pos (by omega),G]; rfl
   have O:aH ((g.length:Int)+0)=(g.length:Int):=by rw [bA (by omega) (by omega)]; omega
   have D:aH ((g.length:Int)+((str6.length:Nat):Int))=((g.length+1:Nat):Int):=by
    show aH ((g.length:Int)+1)=_
    exact bX (by unfold cB; omega)
   refine ⟨(r,a.set j g,((j+1:Nat):Int)),?_,rfl,by simpa using h2,?_,by show r.count 44+(j+1)=_; omega,by show r.length≤_; omega⟩
   ·simp only [Z0l_L1]
    rw [m,hw,if_pos (by simp; omega),L]
    simp only [Option.bind_some]
    rw [if_neg (by simp),O,if_pos (by omega),if_pos (by simp; omega)]
    have T:sub x 0 (g.length:Int)=g:=by rw [kT,g1]; simp
    have F:sub x ((g.length+1:Nat):Int) (x.length:Int)=r:=by rw [hJ,Int.toNat_natCast,g1,List.drop_append]; simp
    rw [D,T,Int.toNat_natCast]
    simp only [nm,Option.bind_some]
    rw [if_pos (by omega),F,bX (by unfold cB; omega)]
   ·rw [← b,J,List.take_set]
    have l:j<a.length:=by omega
    rw [List.take_succ_eq_append_getElem l,List.set_append_right _ _ (by simp; omega)]
    simp [Nat.min_eq_left (Nat.le_of_lt l)]
    )
  (fun s B=>by
   obtain ⟨x,a,i⟩:=s
   obtain ⟨h1,h2,b,q,u⟩:=B
   simp only at h1 h2 b q u
   subst h1
   rw [xF (by omega)] at b
   refine ⟨(x,a,(p.count 44:Int)),?_,rfl,h2,b⟩
   simp only [Z0l_L1]
   rw [m,hw,if_neg (by simp)])
  (s:=(p,List.replicate (p.count 44+1) [],0)) ⟨rfl,by simp,by simp,by simp,I⟩
 rw [E]
 obtain ⟨x,a,i⟩:=e
 obtain ⟨h1,h2,b⟩:=M
 simp only at h1 h2 b
 subst h1
 simp only [Option.bind_some,Z0l_J3]
 rw [m,if_pos (by simp; omega),bX (by unfold cB; omega),if_pos (by simp; omega),Int.toNat_natCast]
 simp only [Option.bind_some]
 congr 1
 rw [kT,List.take_set,← b]
 have l:p.count 44<a.length:=by omega
 rw [List.take_succ_eq_append_getElem l,List.set_append_right _ _ (by simp; omega)]
 simp [Nat.min_eq_left (Nat.le_of_lt l)]
def OL (gs:List aN)(o:aN)(i:Nat):Prop:=(∃ g∈gs,ix o (i:Int)∈g)∧ix o (i:Int) ∉ o.take i
instance (gs:List aN)(o:aN)(i:Nat):Decidable (OL gs o i):=by unfold OL; infer_instance
def PO (gs:List aN)(o:aN):Prop:=gs.length≤6∧LT o∧(∀ g∈gs,LT g)∧∀ i∈List.range o.length,OL gs o i
instance (gs:List aN)(o:aN):Decidable (PO gs o):=by unfold PO; infer_instance
def parts (form:aN):List aN×aN×Bool:=match pL form with
 | none=>([],[],false)
 | some p=>if PO (fL p.1) p.2 then (fL p.1,p.2,true) else ([],[],false)
theorem By {form:aN}(i:form.length≤1048576):aR (fun s:Int=>Z0_L1 form s) 0=some (ce form:Int):=by
 have w:∀ j:Nat,j≤1048576→aH ((j:Int)+1)=((j+1:Nat):Int)∧aH ((j:Int)+2)=((j+2:Nat):Int):=by
  intro j e
  exact ⟨bX (by unfold cB; omega),by rw [bA (by omega) (by omega)]; omega⟩
 have g:∀ j:Nat,sub form (j:Int) ((j+2:Nat):Int)=(form.drop j).take 2:=by
  intro j
  unfold sub
  rw [Int.toNat_natCast,Int.toNat_natCast,List.drop_take]
  congr 1; omega
 have h:ce form≤form.length:=by
  by_cases c:ce form=0
  ·omega
  ·have:=(qO (s:=form) (j:=ce form - 1) (by omega)).1; omega
 refine eT (f:=fun s:Int=>Z0_L1 form s) (fun j=>(j:Int)) (ce form) (fun j e=>?_) ?_ rfl
 ·obtain ⟨a,b⟩:=qO e
  simp only [Z0_L1]
  rw [(w j (by omega)).1,(w j (by omega)).2,g,if_pos (fun _=>by omega),if_pos]
  simp only [Bool.and_eq_true,decide_eq_true_eq,Bool.not_eq_true',beq_eq_false_iff_ne]
  exact ⟨by omega,b⟩
 ·simp only [Z0_L1]
  rw [(w _ (by omega)).1,(w _ (by omega)).2,g]
  by_cases c:ce form+1<form.length
  ·rw [if_pos (fun _=>by omega),if_neg]
   rw [w8 c]; simp [str0]
  ·rw [if_pos (fun z=>by simp at z; omega),if_neg]
   simp only [Bool.and_eq_true,decide_eq_true_eq]
   omega
theorem tA {form l o:aN}(Z:form.length≤1048576)(h:pL form=some (l,o)):aR (fun s:List aN×Int×Int=>Z0_L2 form (l.length:Int) s.1 s.2.1 s.2.2) ([],0,0)=some (fL l):=by
 obtain ⟨e1,G⟩:=kX h
 have U:form.length=l.length+2+o.length:=by rw [G]; simp; omega
 obtain ⟨r,M,T⟩:=fX (f:=fun s:List aN×Int×Int=>Z0_L2 form (l.length:Int) s.1 s.2.1 s.2.2)
  (fun j s=>s.2.2=(j:Int)∧s.1.length≤j∧((∃ F:Nat,F≤j∧s.2.1=(F:Int)∧j≤l.length∧s.1++pre ((l.take j).drop F) (fL (l.drop j))=fL l)∨(j=l.length+1∧s.1=fL l))) (l.length+1)
  (Post:=fun r=>r=fL l)
  (fun j s Y D=>by
   obtain ⟨gs,m,i⟩:=s
   obtain ⟨h1,h2,u⟩:=D
   simp only at h1 h2 u
   subst h1
   rcases u with ⟨F,f1,L,J,e⟩|⟨q,_⟩
   ·subst L
    have I:sub form (F:Int) (j:Int)=(l.take j).drop F:=by
     unfold sub
     rw [Int.toNat_natCast,Int.toNat_natCast,G,List.take_append_of_le_length J]
    simp only [Z0_L2]
    rw [if_pos (by simp; omega),if_pos (fun _=>by omega)]
    by_cases c:j=l.length
    ·rw [if_pos (by simp [c]),if_pos (by omega),I,if_pos (by simp; omega)]
     simp only [Z0_J3]
     refine ⟨_,by rw [bX (by unfold cB; omega)],rfl,by simp; omega,.inr ⟨by omega,?_⟩⟩
     subst c
     rw [List.drop_length] at e
     simpa [fL,pre] using e
    ·have g:j<l.length:=by omega
     have O:l.drop j=l[j]::l.drop (j+1):=List.drop_eq_getElem_cons g
     have B:(bt form (j:Int)==44)=decide (l[j]=44):=by
      have:ix form (j:Int)=l[j]:=by
       rw [bR (by omega)]
       simp only [G]
       rw [List.getElem_append_left g]
      unfold bt
      rw [this]
      have:=kW (a:=l[j]) (b:=44)
      simpa using this
     have E:((j:Int)==(l.length:Int))=false:=by simp; omega
     rw [B,E,Bool.false_or]
     rw [O,kY] at e
     by_cases q:l[j]=44
     ·rw [decide_eq_true q,if_pos rfl,if_pos (by omega),I,if_pos (by simp; omega)]
      simp only [Z0_J3]
      rw [bX (by unfold cB; omega)]
      refine ⟨_,rfl,rfl,by simp; omega,.inl ⟨j+1,Nat.le_refl _,rfl,by omega,?_⟩⟩
      rw [if_pos q] at e
      have z:List.drop (j+1) (List.take (j+1) l)=[]:=List.drop_of_length_le (by simp; omega)
      rw [z,qP (ll _),← e]
      simp [pre]
     ·rw [decide_eq_false q,if_neg (by simp)]
      simp only [Z0_J3]
      rw [bX (by unfold cB; omega)]
      refine ⟨_,rfl,rfl,by show gs.length≤_; omega,.inl ⟨F,by omega,rfl,by omega,?_⟩⟩
      rw [if_neg q,va] at e
      rw [← e,List.take_succ_eq_append_getElem g,List.drop_append_of_le_length (by simp; omega)]
   ·omega)
  (fun s D=>by
   obtain ⟨gs,m,i⟩:=s
   obtain ⟨h1,h2,u⟩:=D
   simp only at h1 h2 u
   subst h1
   rcases u with ⟨F,f1,L,J,e⟩|⟨_,q⟩
   ·omega
   ·refine ⟨gs,?_,q⟩
    simp only [Z0_L2]
    rw [if_neg (by simp; omega)])
  (s:=([],0,0)) ⟨rfl,by simp,.inl ⟨0,by omega,rfl,by omega,by simp [qP (ll l)]⟩⟩
 rw [M,T]
theorem pM {s g:aN}(h:g∈fL s):g.length≤s.length:=by
 induction s generalizing g with
 | nil=>simp [fL] at h; simp [h]
 | cons x r ih =>
  rw [kY] at h
  by_cases c:x=44
  ·rw [if_pos c] at h
   rcases List.mem_cons.1 h with q | q
   ·simp [q]
   ·have:=ih q; simp; omega
  ·rw [if_neg c] at h
   cases e:fL r with
   | nil=>exact absurd e (ll r)
   | cons g' gs =>
    rw [e] at h ih
    simp only [pre,List.mem_cons] at h
    rcases h with q | q
    ·have:=ih (g:=g') (by simp); rw [q]; simp; omega
    ·have:=ih (g:=g) (by simp [q]); simp; omega
theorem A1 {gs:List aN}{o:aN}{form:aN}{x i:Int}(r:gs.length<cB)(h:∀ g∈gs,g.length<cB)(m:sub form (aH (x+2)) (form.length:Int)=o)(l:0≤i∧i<(o.length:Int)) :
  aR (fun s:Bool×Int=>Z0_L5 form x gs i s.1 s.2) (false,0)=some (decide (∃ g∈gs,ix o i∈g)):=by
 have q:∀ b:Bool,decide (∃ g∈gs,ix o i∈g)=gs.any fun g=>decide (ix o i∈g):=by
  intro _
  rw [Bool.eq_iff_iff]; simp
 rw [q true]
 refine eT (f:=fun s:Bool×Int=>Z0_L5 form x gs i s.1 s.2) (fun j=>((gs.take j).any fun g=>decide (ix o i∈g),(j:Int))) gs.length (fun j a=>?_) ?_ rfl
 ·simp only [Z0_L5]
  rw [m,if_pos (by simp; omega),if_pos (fun _=>by omega),if_pos (fun _=>l),List.take_succ_eq_append_getElem a,List.any_append,bX (by omega),bR a]
  have e:bt o i=((ix o i).toNat:Int):=rfl
  rw [e,w7 (h _ (List.getElem_mem a))]
  cases (gs.take j).any fun g=>decide (ix o i∈g) with
  | true=>simp [bQ]
  | false=>simp [bQ]
 ·simp only [Z0_L5]
  rw [if_neg (by simp),List.take_length]
theorem vf {form:aN}(G:form.length≤1048576):Z0 form=some (parts form):=by
 unfold Z0
 rw [By G]
 simp only [Option.bind_some,Z0_J1]
 unfold parts
 have I:ce form≤form.length:=by
  by_cases c:ce form=0
  ·omega
  ·have:=(qO (s:=form) (j:=ce form - 1) (by omega)).1; omega
 rw [bX (by unfold cB; omega)]
 cases h:pL form with
 | none =>
  have:=qL h
  rw [if_pos (by simp; omega)]
 | some p =>
  obtain ⟨l,o⟩:=p
  obtain ⟨L,F⟩:=kX h
  have M:form.length=l.length+2+o.length:=by rw [F]; simp; omega
  rw [if_neg (by simp; omega),L,tA G h]
  simp only [Option.bind_some]
  have E:aH ((l.length:Int)+2)=((l.length+2:Nat):Int):=by rw [bA (by omega) (by omega)]; omega
  have b:sub form (aH ((l.length:Int)+2)) (form.length:Int)=o:=by
   rw [E,hJ,Int.toNat_natCast,F,List.drop_append]
   simp
  have q:(fL l).length<cB:=by
   rw [vc]; have:l.count 44≤l.length:=List.count_le_length; unfold cB; omega
  unfold Z0_J4
  rw [b,if_pos (by rw [E]; omega),nk (by unfold cB; omega)]
  by_cases c1:(fL l).length≤6
  ·have d1:decide (((fL l).length:Int)>6)=false:=by simp; omega
   rw [d1]
   simp only [bQ,Bool.not_false,cond_true,Option.bind_some,Bool.false_or]
   by_cases c2:LT o
   ·rw [decide_eq_true c2,if_neg (by simp)]
    have m:=eO (fL l) (fun s:Int=>Z0_L3 (fL l) s) (fun i=>i) (fun g=>decide (LT g)) (.inl ([],[],false)) (.inr ())
     (fun k D=>by
      simp only [Z0_L3]
      rw [if_pos (by simp; omega),if_pos (by omega),bX (by omega),nk (by have:=pM (bE D); unfold cB; omega)]
      cases decide (LT (ix (fL l) (k:Int)))<;>rfl)
     (by simp only [Z0_L3]; rw [if_neg (by simp)])
    rw [m]
    by_cases c3:∀ g∈fL l,LT g
    ·have u:((fL l).all fun g=>decide (LT g))=true:=by
      rw [List.all_eq_true]; intro g a; exact decide_eq_true (c3 g a)
     rw [u,if_pos rfl]
     simp only [Option.bind_some]
     unfold Z0_J5
     have B:=ja o.length (fun s:Int=>Z0_L4 form (l.length:Int) (fL l) s) (fun i=>i) (fun k=>decide (OL (fL l) o k)) (.inl ([],[],false)) (.inr ())
      (fun k D=>by
       simp only [Z0_L4]
       rw [b,if_pos (by simp; omega),A1 q (fun g a=>by have:=pM a; unfold cB; omega) b (by omega)]
       simp only [Option.bind_some,Z0_J7]
       rw [b,if_pos (fun _=>by omega),if_pos (fun _=>by omega),kT]
       have r:bt o (k:Int)=((ix o (k:Int)).toNat:Int):=rfl
       rw [r,w7 (by simp; unfold cB; omega),bX (by unfold cB; omega)]
       by_cases q1:∃ g∈fL l,ix o (k:Int)∈g
       ·by_cases q2:ix o (k:Int)∈o.take k
        ·rw [decide_eq_true q1,decide_eq_true q2,decide_eq_false (fun z:OL (fL l) o k=>z.2 q2)]; rfl
        ·rw [decide_eq_true q1,decide_eq_false q2,show decide (OL (fL l) o k)=true from decide_eq_true ⟨q1,q2⟩]; rfl
       ·rw [decide_eq_false q1,decide_eq_false (fun z:OL (fL l) o k=>q1 z.1)]; rfl)
      (by simp only [Z0_L4]; rw [b,if_neg (by simp)])
     rw [B]
     by_cases c4:∀ i∈List.range o.length,OL (fL l) o i
     ·have e:((List.range o.length).all fun k=>decide (OL (fL l) o k))=true:=by
       rw [List.all_eq_true]; intro g a; exact decide_eq_true (c4 g a)
      rw [e,if_pos rfl,if_pos ⟨c1,c2,c3,c4⟩]
      simp only [Option.bind_some,Z0_J8]
      rw [b]
     ·have e:((List.range o.length).all fun k=>decide (OL (fL l) o k))=false:=by
       rw [Bool.eq_false_iff]; intro z
       exact c4 fun i J=>of_decide_eq_true (List.all_eq_true.1 z i J)
      rw [e,if_neg (by simp),if_neg (fun z=>c4 z.2.2.2)]; rfl
    ·have u:((fL l).all fun g=>decide (LT g))=false:=by
      rw [Bool.eq_false_iff]; intro z
      exact c3 fun g a=>of_decide_eq_true (List.all_eq_true.1 z g a)
     rw [u,if_neg (by simp),if_neg (fun z=>c3 z.2.2.1)]; rfl
   ·rw [decide_eq_false c2,if_pos (by simp),if_neg (fun z=>c2 z.2.1)]
  ·have d1:decide (((fL l).length:Int)>6)=true:=by simp; omega
   rw [d1,if_neg (fun z=>c1 z.1)]
   simp [bQ]
theorem Aa {form:aN}(j:form.length≤1048576):Z2z form str0=some (match pL form with | none=>(form,[],false) | some p=>(p.1,p.2,true)):=by
 unfold Z2z dY cK
 rw [if_pos (by omega),nl]
 simp only [Option.bind_some]
 cases h:pL form with
 | none=>simp
 | some p =>
  obtain ⟨l,o⟩:=p
  obtain ⟨m,a⟩:=kX h
  have i:form.length=l.length+2+o.length:=by rw [a]; simp; omega
  have e:aH ((l.length:Int)+((str0.length:Nat):Int))=((l.length+2:Nat):Int):=by
   show aH ((l.length:Int)+2)=_
   rw [bA (by omega) (by omega)]; omega
  simp only
  rw [if_pos (by simp),if_pos (by omega),e,if_pos (by omega)]
  have b:sub form 0 (l.length:Int)=l:=by rw [kT,a]; simp
  have g:sub form ((l.length+2:Nat):Int) (form.length:Int)=o:=by
   rw [hJ,Int.toNat_natCast,a,List.drop_append]; simp
  rw [b,g]; rfl
theorem vg {gs:List aN}{x:Nat}(e:x<gs.length)(h:(ix gs (x:Int)).length<cB) :
  aR (fun s:Int=>Zd_L2 gs (x:Int) s) 0=some (if ∀ c∈ix gs (x:Int),97≤c.toNat∧c.toNat≤122 then .inr () else .inl ([],[],false)):=by
 obtain ⟨g,a⟩:∃ g,g=ix gs (x:Int):=⟨_,rfl⟩
 have:=eO g (fun s:Int=>Zd_L2 gs (x:Int) s) (fun i=>i) (fun c=>decide (97≤c.toNat∧c.toNat≤122)) (.inl ([],[],false)) (.inr ())
  (fun k j=>by
   have b:bt g (k:Int)=((ix g (k:Int)).toNat:Int):=rfl
   simp only [Zd_L2]
   rw [← a,if_pos (by simp; omega),if_pos (by omega),bX (by rw [← a] at h; omega)]
   by_cases q:97≤(ix g (k:Int)).toNat∧(ix g (k:Int)).toNat≤122
   ·rw [if_neg (by simp only [Bool.or_eq_true,decide_eq_true_eq,b]; omega),decide_eq_true q,if_pos rfl]
   ·rw [if_pos (by simp only [Bool.or_eq_true,decide_eq_true_eq,b]; omega),decide_eq_false q,if_neg (by simp)])
  (by simp only [Zd_L2]; rw [← a,if_neg (by simp)])
 rw [this,← a]
 by_cases c:∀ c∈g,97≤c.toNat∧c.toNat≤122
 ·rw [if_pos c,if_pos (by rw [List.all_eq_true]; intro x e; exact decide_eq_true (c x e))]
 ·rw [if_neg c,if_neg]
  intro z
  exact c fun x e=>of_decide_eq_true (List.all_eq_true.1 z x e)
theorem vh {form:aN}(O:form.length≤1048576):Zd form=some (parts form):=by
 unfold Zd parts
 rw [Aa O]
 simp only [Option.bind_some]
 cases h:pL form with
 | none=>simp
 | some p =>
  obtain ⟨l,o⟩:=p
  obtain ⟨Z,U⟩:=kX h
  have Y:form.length=l.length+2+o.length:=by rw [U]; simp; omega
  simp only [Bool.not_true,Bool.false_or]
  by_cases c0:o.length≤6
  ·rw [if_neg (by simp; omega),ve (by omega)]
   simp only [Option.bind_some]
   by_cases c1:(fL l).length≤6
   ·rw [if_neg (by simp; omega)]
    have B:=eO (fL l) (fun s:Int=>Zd_L1 (fL l) s) (fun i=>i) (fun g=>decide (LT g)) (.inl ([],[],false)) (.inr ())
     (fun k b=>by
      have e:=pM (bE b)
      simp only [Zd_L1]
      rw [if_pos (by simp; omega),if_pos (by omega)]
      by_cases q1:(ix (fL l) (k:Int)).length≤6
      ·rw [if_neg (by simp; omega),vg b (by unfold cB; omega)]
       by_cases q2:∀ c∈ix (fL l) (k:Int),97≤c.toNat∧c.toNat≤122
       ·rw [if_pos q2,show decide (LT (ix (fL l) (k:Int)))=true from decide_eq_true ⟨q1,q2⟩,if_pos rfl]
        simp only [Option.bind_some,Zd_J2]
        rw [bX (by unfold cB; omega)]
       ·rw [if_neg q2,show decide (LT (ix (fL l) (k:Int)))=false from decide_eq_false (fun z=>q2 z.2),if_neg (by simp)]; rfl
      ·rw [if_pos (by simp; omega),show decide (LT (ix (fL l) (k:Int)))=false from decide_eq_false (fun z=>q1 z.1),if_neg (by simp)])
     (by simp only [Zd_L1]; rw [if_neg (by simp)])
    rw [B]
    by_cases c3:∀ g∈fL l,LT g
    ·have D:((fL l).all fun g=>decide (LT g))=true:=by
      rw [List.all_eq_true]; intro g e; exact decide_eq_true (c3 g e)
     rw [D,if_pos rfl]
     simp only [Option.bind_some]
     unfold Zd_J3
     have F:=ja o.length (fun s:Int=>Zd_L3 (l,o,true) s) (fun i=>i) (fun k=>decide ((97≤(ix o (k:Int)).toNat∧(ix o (k:Int)).toNat≤122)∧OL (fL l) o k)) (.inl ([],[],false)) (.inr ())
      (fun k b=>by
       have a:bt o (k:Int)=((ix o (k:Int)).toNat:Int):=rfl
       simp only [Zd_L3]
       rw [if_pos (by simp; omega),if_pos (by omega),bX (by unfold cB; omega),kT]
       by_cases q:97≤(ix o (k:Int)).toNat∧(ix o (k:Int)).toNat≤122
       ·have r:(decide (bt o (k:Int)<97)||decide (bt o (k:Int)>122))=false:=by
         rw [Bool.eq_false_iff]; simp only [ne_eq,Bool.or_eq_true,decide_eq_true_eq,a]; omega
        rw [r,if_pos (fun _=>by omega)]
        have E:ix o (k:Int)≠44:=by
         intro z; rw [z] at q; exact absurd q (by decide)
        obtain ⟨m,L,G⟩:=nV (o.take k) (ix o (k:Int))
        obtain ⟨J,M,s3⟩:=nV l (ix o (k:Int))
        rw [a,L,M]
        simp only [bQ,Bool.not_false,cond_true,Option.bind_some,Bool.false_or]
        rw [← vd l _ E] at s3
        by_cases q2:ix o (k:Int)∈o.take k
        ·have:decide (m≥0)=true:=by
          rw [decide_eq_true_eq]
          have:¬ m<0:=fun z=>G.1 z q2
          omega
         rw [this,decide_eq_false (fun z=>z.2.2 q2)]; rfl
        ·have:decide (m≥0)=false:=by
          rw [decide_eq_false_iff_not]
          have:=G.2 q2
          omega
         rw [this]
         simp only [Bool.not_false,cond_true,Option.bind_some,Bool.false_or]
         by_cases q3:∃ g∈fL l,ix o (k:Int)∈g
         ·have:decide (J<0)=false:=by
           rw [decide_eq_false_iff_not]
           exact fun z=>s3.1 z q3
          rw [this,decide_eq_true ⟨q,q3,q2⟩]; rfl
         ·have:decide (J<0)=true:=decide_eq_true (s3.2 q3)
          rw [this,decide_eq_false (fun z=>q3 z.2.1)]; rfl
       ·have r:(decide (bt o (k:Int)<97)||decide (bt o (k:Int)>122))=true:=by
         simp only [Bool.or_eq_true,decide_eq_true_eq,a]; omega
        rw [r,if_pos (fun z=>by cases z),decide_eq_false (fun z=>q z.1)]
        rfl)
      (by simp only [Zd_L3]; rw [if_neg (by simp)])
     rw [F]
     by_cases c4:PO (fL l) o
     ·have u:((List.range o.length).all fun k=>decide ((97≤(ix o (k:Int)).toNat∧(ix o (k:Int)).toNat≤122)∧OL (fL l) o k))=true:=by
       rw [List.all_eq_true]; intro k b
       exact decide_eq_true ⟨c4.2.1.2 _ (bE (List.mem_range.1 b)),c4.2.2.2 k b⟩
      rw [u,if_pos rfl,if_pos c4]; rfl
     ·have u:((List.range o.length).all fun k=>decide ((97≤(ix o (k:Int)).toNat∧(ix o (k:Int)).toNat≤122)∧OL (fL l) o k))=false:=by
       rw [Bool.eq_false_iff]; intro z
       have I:=List.all_eq_true.1 z
       refine c4 ⟨c1,⟨c0,fun c T=>?_⟩,c3,fun i j=>(of_decide_eq_true (I i j)).2⟩
       obtain ⟨i,j,rfl⟩:=List.mem_iff_getElem.1 T
       have:=(of_decide_eq_true (I i (List.mem_range.2 j))).1
       rwa [bR j] at this
      rw [u,if_neg (by simp),if_neg c4]; rfl
    ·have D:((fL l).all fun g=>decide (LT g))=false:=by
      rw [Bool.eq_false_iff]; intro z
      exact c3 fun g e=>of_decide_eq_true (List.all_eq_true.1 z g e)
     rw [D,if_neg (by simp),if_neg (fun z=>c3 z.2.2.1)]; rfl
   ·rw [if_pos (by simp; omega),if_neg (fun z=>c1 z.1)]
  ·rw [if_pos (by simp; omega),if_neg (fun z=>c0 z.2.1.1)]
def pN {S:Type}(st:S→Nat→Option S):Nat→S→Option S
 | 0,s=>some s
 | n+1,s=>(pN st n s).bind fun s'=>st s' n
theorem je {S T A B:Type}{f:T→Option (T⊕(A⊕B))}(st:S→Nat→Option S)(mk:S→Int→T)(i:S→B)(e:A→Prop)(a:Nat→S→Prop)(n:Nat)
  (h1:∀ j s,j<n→a j s→(∃ s',st s j=some s'∧f (mk s (j:Int))=some (.inl (mk s' ((j+1:Nat):Int)))∧a (j+1) s')∨(st s j=none∧∃ b,f (mk s (j:Int))=some (.inr (.inl b))∧e b))
  (h2:∀ s,a n s→f (mk s (n:Int))=some (.inr (.inr (i s)))) {s:S} (E:a 0 s) :
  (∃ s',pN st n s=some s'∧aR f (mk s 0)=some (.inr (i s'))∧a n s')∨(pN st n s=none∧∃ b,aR f (mk s 0)=some (.inl b)∧e b):=by
 have D:∀ j,j≤n→(∃ s',pN st j s=some s'∧aR f (mk s 0)=aR f (mk s' (j:Int))∧a j s')∨(pN st j s=none∧∃ b,aR f (mk s 0)=some (.inl b)∧e b):=by
  intro j
  induction j with
  | zero=>intro _; exact .inl ⟨s,rfl,rfl,E⟩
  | succ j ih =>
   intro F
   rcases ih (by omega) with ⟨s',g,h,a3⟩|⟨g,h⟩
   ·rcases h1 j s' (by omega) a3 with ⟨u,l,m,r⟩|⟨l,b,m,r⟩
    ·exact .inl ⟨u,by rw [pN,g]; exact l,by rw [h,eF m],r⟩
    ·exact .inr ⟨by rw [pN,g]; exact l,b,by rw [h,dB m],r⟩
   ·exact .inr ⟨by rw [pN,g]; rfl,h⟩
 rcases D n (Nat.le_refl _) with ⟨s',g,h,a3⟩ | q
 ·exact .inl ⟨s',g,by rw [h,dB (h2 s' a3)],a3⟩
 ·exact .inr q
def lk (lens:List Int)(c:UInt8):Int:=ix lens ((c.toNat:Int) - 97)
def kZ (s:aN×List Int)(c:UInt8)(d:Int):Option (aN×List Int) :=
 if lk s.2 c≠0∧lk s.2 c≠d then none else some (if c∈s.1 then s.1 else s.1++[c],s.2.set (c.toNat - 97) d)
def lm (g:aN)(ds:List Int)(s:aN×List Int):Option (aN×List Int) :=
 if g.length=ds.length then pN (fun s k=>kZ s (ix g (k:Int)) (ix ds (k:Int))) g.length s else none
def n3 (gs:List aN)(dss:List (List Int))(s:aN×List Int):Option (aN×List Int):=pN (fun s k=>lm (ix gs (k:Int)) (ix dss (k:Int)) s) gs.length s
end Go.Proofs.YtmpnollfdpdipaaGreat
