import Derived.Test.YtoffdamdpmeoiaaGreatDoorBG1
import Derived.KernelRfl
set_option linter.unusedVariables false
set_option linter.unusedSimpArgs false
namespace Go.Proofs.YtoffdamdpmeoiaaGreatDoor
open Go Go.Pg
theorem yQ {ds is:List Int}{j:Nat}{m x:Int}(a:j<ds.length)(h:IV (ds.set j m) is)(b:0≤x)(h1:x<ix ds (j:Int)):IV ds (is.set j x):=by
 induction ds generalizing is j with
 | nil=>simp at a
 | cons d ds ih=>cases j with
  | zero=>cases is with
   | nil=>exact h.elim
   | cons i is=>exact ⟨⟨b,h1⟩,h.2⟩
  | succ j=>cases is with
   | nil=>exact h.elim
   | cons i is=>rw [dZ] at h1; exact ⟨h.1,ih (by simpa using a) h.2 h1⟩
theorem mT {ds is:List Int}{j:Nat}{m x:Int}(a:j<ds.length)(h:IV ds is)(b:0≤x)(h1:x<m):IV (ds.set j m) (is.set j x):=by
 induction ds generalizing is j with
 | nil=>simp at a
 | cons d ds ih=>cases j with
  | zero=>cases is with
   | nil=>exact h.elim
   | cons i is=>exact ⟨⟨b,h1⟩,h.2⟩
  | succ j=>cases is with
   | nil=>exact h.elim
   | cons i is=>exact ⟨h.1,ih (by simpa using a) h.2⟩
theorem sd {ds is:List Int}(h:IV ds is)(k:Nat):IV (ds.take k) (is.take k):=by
 induction ds generalizing is k with
 | nil=>cases is with
  | nil=>simp [IV]
  | cons=>exact h.elim
 | cons d ds ih=>cases is with
  | nil=>exact h.elim
  | cons i is=>cases k with
   | zero=>simp [IV]
   | succ k=>exact ⟨h.1,ih h.2 k⟩
def nw (ds:List Int)(a:Int)(xs:List Int):Prop:=0≤a∧a<(ds.length:Int)∧xs≠[]∧(∀ x∈xs,0≤x∧x<ix ds a)∧eL (ds.set a.toNat (xs.length:Int))
instance (ds:List Int)(a:Int)(xs:List Int):Decidable (nw ds a xs):=by unfold nw; infer_instance
def mD (ds:List Int)(a:Int)(xs:List Int)(n:Int):Prop:=0≤a∧a<(ds.length:Int)∧(xs.length:Int)=ix ds a∧(∀ x∈xs,0≤x∧x<n)∧eL (ds.set a.toNat n)
instance (ds:List Int)(a:Int)(xs:List Int)(n:Int):Decidable (mD ds a xs n):=by unfold mD; infer_instance
def kj (ds:List Int)(a b f g:Int):Int:=b+ix ds a+(ix ds a - 1)*g+f
def nx (ds:List Int)(a b f g:Int):Prop:=0≤a∧a<(ds.length:Int)∧0≤b∧b≤4096∧0≤f∧f≤4096∧0≤g∧g≤4096∧eL (ds.set a.toNat (kj ds a b f g))
instance (ds:List Int)(a b f g:Int):Decidable (nx ds a b f g):=by unfold nx; infer_instance
theorem lF {t:Tensor}(h:TT t)(a:Int):Z1p t a=some (decide (0≤a∧a<(t.Dims.length:Int))):=by
 unfold Z1p
 rw [qQ h]
 simp only [Option.bind_some,Bool.true_and]
 congr 1
 rw [Bool.eq_iff_iff]
 simp
theorem k8 {xs:List Int}(h:xs.length≤6){j:Nat}(a:j<xs.length)(x:Int):Z0r xs (j:Int) x=some (xs.set j x):=by
 unfold Z0r
 rw [iN (by omega)]
 simp only [Option.bind_some]
 rw [if_pos (by omega),Int.toNat_natCast]
theorem kw {xs:List Int}(b:xs.length<cS)(n:Int):Z0s xs n=some (decide (∀ x∈xs,0≤x∧x<n)):=by
 unfold Z0s
 have:=eP xs (fun s:Int=>Z0s_L1 xs n s) (fun i=>i) (fun x=>!(decide (x<0)||decide (x≥n))) (.inl false) (.inr ())
  (fun k hk=>by
   simp only [Z0s_L1]
   rw [if_pos (by simp; omega),if_pos (by omega),cA (by omega)]
   cases (decide (ix xs (k:Int)<0)||decide (ix xs (k:Int)≥n))<;>rfl)
  (by simp only [Z0s_L1]; rw [if_neg (by simp)])
 rw [this]
 have e:(xs.all fun x=>!(decide (x<0)||decide (x≥n)))=decide (∀ x∈xs,0≤x∧x<n):=by
  rw [Bool.eq_iff_iff]
  simp only [List.all_eq_true,decide_eq_true_eq,Bool.not_eq_true',Bool.or_eq_false_iff,decide_eq_false_iff_not]
  exact ⟨fun h x a=>by have:=h x a; omega,fun h x a=>by have:=h x a; omega⟩
 rw [e]
 by_cases c:∀ x∈xs,0≤x∧x<n
 ·rw [decide_eq_true c]; rfl
 ·rw [decide_eq_false c]; rfl
theorem uA {t:Tensor}(h:TT t){a:Int}{xs:List Int}(M:xs.length<cS) :
  (nw t.Dims a xs→∃ d,Z0z t a xs=some ⟨t.Dims.set a.toNat (xs.length:Int),d⟩∧TOk (t.Dims.set a.toNat (xs.length:Int)) d)∧(¬ nw t.Dims a xs→Z0z t a xs=some ⟨[],[]⟩):=by
 have I:=l5 h
 unfold Z0z
 rw [lF h]
 simp only [Option.bind_some]
 by_cases g:(0≤a∧a<(t.Dims.length:Int))∧xs≠[]
 ·obtain ⟨g1,E⟩:=g
  have Y:xs.length≠0:=fun e=>E (List.eq_nil_of_length_eq_zero e)
  obtain ⟨j,rfl⟩:=Int.eq_ofNat_of_zero_le g1.1
  have l:j<t.Dims.length:=by omega
  have D:(!decide (0≤(j:Int)∧(j:Int)<(t.Dims.length:Int))||(xs.length:Int)==0)=false:=by rw [decide_eq_true g1]; simp [E]
  rw [if_pos (fun _=>g1),D]
  simp only [bP,Bool.not_false,cond_true,Bool.false_or]
  rw [kw M]
  simp only [Option.bind_some,Int.toNat_natCast]
  by_cases g4:∀ x∈xs,0≤x∧x<ix t.Dims (j:Int)
  ·rw [decide_eq_true g4,if_neg (by simp),k8 I.2 l]
   simp only [Option.bind_some]
   rw [gO (by simp [cS]; omega)]
   by_cases g5:eL (t.Dims.set j (xs.length:Int))
   ·simp only [decide_eq_true g5,Option.bind_some,Bool.not_true,Bool.false_eq_true,if_false]
    refine ⟨fun _=>?_,fun q=>absurd ⟨g1.1,g1.2,E,g4,by simpa using g5⟩ q⟩
    rw [lz g5]
    simp only [Option.bind_some]
    have Z:=g5.2.2
    obtain ⟨r,J,L⟩:=lE (f:=fun s:List Int×Int=>Z0z_L1 t (j:Int) xs (t.Dims.set j (xs.length:Int)) ⟨t.Dims.set j (xs.length:Int),List.replicate (pr (t.Dims.set j (xs.length:Int))).toNat 0⟩ s.1 s.2) (Post:=fun r=>RG (pr (t.Dims.set j (xs.length:Int))).toNat r) (pr (t.Dims.set j (xs.length:Int))).toNat (pr (t.Dims.set j (xs.length:Int))).toNat
     (fun k hk x F=>by
      have G:=iB g5.2.1 (k:Int)
      have b:=jY (t.Dims.set j (xs.length:Int)) (k:Int)
      have i:=G.mem (j:=j) (by rw [b]; simpa using l)
      rw [yK l] at i
      obtain ⟨q,O⟩:=Int.eq_ofNat_of_zero_le i.1
      have B:=g4 _ (bI (xs:=xs) (k:=q) (by omega))
      have u:=yQ l G B.1 B.2
      obtain ⟨y,T,U⟩:=o4 h u
      simp only [Z0z_L1]
      rw [if_pos (by simp; omega),jZ g5 (by omega) (by omega)]
      simp only [Option.bind_some]
      rw [if_pos (by rw [b]; simp; omega),if_pos (by omega),k8 (by rw [b]; simpa using I.2) (by rw [b]; simpa using l)]
      simp only [Option.bind_some,O,T]
      rw [if_pos (by simp; omega),cA (by unfold cS; omega)]
      exact ⟨_,rfl,F.set (h.x y U) _⟩)
     (fun x F=>by simp only [Z0z_L1]; rw [if_neg (by simp)]; exact ⟨x,rfl,F⟩) (RG.rep _)
    rw [J]
    exact ⟨r,rfl,iC g5 L⟩
   ·simp only [decide_eq_false g5,Option.bind_some,Bool.not_false,if_true]
    exact ⟨fun q=>absurd (by simpa using q.2.2.2.2) g5,fun _=>by trivial⟩
  ·rw [decide_eq_false g4,if_pos (by simp)]
   exact ⟨fun q=>absurd q.2.2.2.1 g4,fun _=>by trivial⟩
 ·have D:(!decide (0≤a∧a<(t.Dims.length:Int))||(xs.length:Int)==0)=true:=by
   by_cases q:0≤a∧a<(t.Dims.length:Int)
   ·have:xs=[]:=by
     refine Classical.byContradiction fun z=>g ⟨q,z⟩
    subst this; simp
   ·rw [decide_eq_false q]; rfl
  rw [if_pos (fun q=>by rw [D] at q; cases q),D]
  simp only [bP,Bool.not_true,cond_false,Option.bind_some,Bool.true_or,if_true]
  exact ⟨fun q=>absurd ⟨⟨q.1,q.2.1⟩,q.2.2.1⟩ g,fun _=>by trivial⟩
theorem sW {t:Tensor}(h:TT t){a n:Int}{xs:List Int}(I:xs.length<cS) :
  (mD t.Dims a xs n→∃ d,Z11 t a xs n=some ⟨t.Dims.set a.toNat n,d⟩∧TOk (t.Dims.set a.toNat n) d)∧(¬ mD t.Dims a xs n→Z11 t a xs n=some ⟨[],[]⟩):=by
 have L:=l5 h
 unfold Z11
 rw [lF h]
 simp only [Option.bind_some]
 by_cases g1:0≤a∧a<(t.Dims.length:Int)
 ·obtain ⟨j,rfl⟩:=Int.eq_ofNat_of_zero_le g1.1
  have E:j<t.Dims.length:=by omega
  rw [decide_eq_true g1,if_pos (fun _=>g1)]
  simp only [bP,Bool.not_true,Bool.false_or,Int.toNat_natCast]
  by_cases g2:(xs.length:Int)=ix t.Dims (j:Int)
  ·have u:((xs.length:Int) != ix t.Dims (j:Int))=false:=by simp [g2]
   rw [u]
   simp only [Bool.not_false,cond_true,Bool.false_or]
   rw [kw I]
   simp only [Option.bind_some]
   by_cases g4:∀ x∈xs,0≤x∧x<n
   ·rw [decide_eq_true g4,if_neg (by simp),k8 L.2 E]
    simp only [Option.bind_some]
    rw [gO (by simp [cS]; omega)]
    by_cases g5:eL (t.Dims.set j n)
    ·simp only [decide_eq_true g5,Option.bind_some,Bool.not_true,Bool.false_eq_true,if_false]
     refine ⟨fun _=>?_,fun q=>absurd ⟨g1.1,g1.2,g2,g4,by simpa using g5⟩ q⟩
     rw [lz g5]
     simp only [Option.bind_some]
     have Y:=h.d.2.2
     obtain ⟨r,F,G⟩:=lE (f:=fun s:List Int×Int=>Z11_L1 t (j:Int) xs ⟨t.Dims.set j n,List.replicate (pr (t.Dims.set j n)).toNat 0⟩ s.1 s.2) (Post:=fun r=>RG (pr (t.Dims.set j n)).toNat r) (pr (t.Dims.set j n)).toNat t.Data.length
      (fun k hk x i=>by
       have D:=iB h.d.2.1 (k:Int)
       have J:=jY t.Dims (k:Int)
       have B:=D.mem (j:=j) (by omega)
       obtain ⟨q,M⟩:=Int.eq_ofNat_of_zero_le B.1
       have e:=g4 _ (bI (xs:=xs) (k:=q) (by omega))
       have b:=mT (m:=n) E D e.1 e.2
       have tk:TT ⟨t.Dims.set j n,x⟩:=iC g5 i
       obtain ⟨y,U,Z⟩:=o4 (t:=⟨t.Dims.set j n,x⟩) tk b
       obtain ⟨m,O,T⟩:=oO y (ix t.Data (k:Int))
       simp only [Z11_L1]
       rw [if_pos (by simp; omega),jZ h.d (by omega) (by omega)]
       simp only [Option.bind_some]
       rw [if_pos (by omega),if_pos (by omega),k8 (by omega) (by omega)]
       simp only [Option.bind_some,M,U]
       rw [if_pos (by omega),O]
       simp only [Option.bind_some]
       rw [um (t:=⟨t.Dims.set j n,x⟩) g5 tk.l b,cA (by unfold cS; omega)]
       exact ⟨_,rfl,i.set T _⟩)
      (fun x i=>by simp only [Z11_L1]; rw [if_neg (by simp)]; exact ⟨x,rfl,i⟩) (RG.rep _)
     rw [F]
     exact ⟨r,rfl,iC g5 G⟩
    ·simp only [decide_eq_false g5,Option.bind_some,Bool.not_false,if_true]
     exact ⟨fun q=>absurd (by simpa using q.2.2.2.2) g5,fun _=>by trivial⟩
   ·rw [decide_eq_false g4,if_pos (by simp)]
    exact ⟨fun q=>absurd q.2.2.2.1 g4,fun _=>by trivial⟩
  ·have u:((xs.length:Int) != ix t.Dims (j:Int))=true:=by simp [g2]
   rw [u]
   simp only [Bool.not_true,cond_false,Option.bind_some,Bool.true_or,if_true]
   exact ⟨fun q=>absurd q.2.2.1 g2,fun _=>by trivial⟩
 ·rw [decide_eq_false g1,if_pos (fun q=>by cases q)]
  simp only [bP,Bool.not_false,Bool.true_or,Bool.not_true,cond_false,Option.bind_some,if_true]
  exact ⟨fun q=>absurd ⟨q.1,q.2.1⟩ g1,fun _=>by trivial⟩
theorem BR {t:Tensor}(h:TT t){a b f g:Int} :
  (nx t.Dims a b f g→∃ d,Z10 t a b f g=some ⟨t.Dims.set a.toNat (kj t.Dims a b f g),d⟩∧TOk (t.Dims.set a.toNat (kj t.Dims a b f g)) d)∧(¬ nx t.Dims a b f g→Z10 t a b f g=some ⟨[],[]⟩):=by
 have Z:=l5 h
 unfold Z10
 rw [lF h]
 simp only [Option.bind_some]
 by_cases c:(0≤a∧a<(t.Dims.length:Int))∧0≤b∧b≤4096∧0≤f∧f≤4096∧0≤g∧g≤4096
 ·obtain ⟨g1,I,J,L,M,i,F⟩:=c
  obtain ⟨j,rfl⟩:=Int.eq_ofNat_of_zero_le g1.1
  have E:j<t.Dims.length:=by omega
  have hm:=h.d.2.mem (bI E)
  have k0:0≤(ix t.Dims (j:Int) - 1)*g:=Int.mul_nonneg (by omega) i
  have k1:=Int.mul_le_mul (show ix t.Dims (j:Int) - 1≤4096 by omega) F i (show (0:Int)≤4096 by omega)
  have e:aI (aI (aI (b+ix t.Dims (j:Int))+aI (aI (ix t.Dims (j:Int) - 1)*g))+f)=kj t.Dims (j:Int) b f g:=by
   rw [aX (n:=b+ix t.Dims (j:Int)) (by omega) (by omega),aX (n:=ix t.Dims (j:Int) - 1) (by omega) (by omega),aX (n:=(ix t.Dims (j:Int) - 1)*g) (by omega) (by omega),aX (n:=b+ix t.Dims (j:Int)+(ix t.Dims (j:Int) - 1)*g) (by omega) (by omega),aX (by omega) (by omega)]
   rfl
  rw [if_neg (by simp; omega),if_pos g1,e,k8 Z.2 E]
  simp only [Option.bind_some,Int.toNat_natCast]
  rw [gO (by simp [cS]; omega)]
  by_cases g5:eL (t.Dims.set j (kj t.Dims (j:Int) b f g))
  ·simp only [decide_eq_true g5,Option.bind_some,Bool.not_true,Bool.false_eq_true,if_false]
   refine ⟨fun _=>?_,fun q=>absurd ⟨g1.1,g1.2,I,J,L,M,i,F,by simpa using g5⟩ q⟩
   rw [lz g5]
   simp only [Option.bind_some]
   have hp:=h.d.2.2
   obtain ⟨r,O,T⟩:=lE (f:=fun s:List Int×Int=>Z10_L1 t (j:Int) b g ⟨t.Dims.set j (kj t.Dims (j:Int) b f g),List.replicate (pr (t.Dims.set j (kj t.Dims (j:Int) b f g))).toNat 0⟩ s.1 s.2) (Post:=fun r=>RG (pr (t.Dims.set j (kj t.Dims (j:Int) b f g))).toNat r) (pr (t.Dims.set j (kj t.Dims (j:Int) b f g))).toNat t.Data.length
    (fun k hk x B=>by
     have G:=iB h.d.2.1 (k:Int)
     have Y:=jY t.Dims (k:Int)
     have D:=G.mem (j:=j) (by omega)
     have z0:0≤ix (iA t.Dims (k:Int)) (j:Int)*g:=Int.mul_nonneg D.1 i
     have z1:ix (iA t.Dims (k:Int)) (j:Int)*g≤(ix t.Dims (j:Int) - 1)*g:=Int.mul_le_mul_of_nonneg_right (by omega) i
     have U:aI (b+aI (ix (iA t.Dims (k:Int)) (j:Int)*aI (g+1)))=b+(ix (iA t.Dims (k:Int)) (j:Int)*g+ix (iA t.Dims (k:Int)) (j:Int)):=by
      rw [aX (n:=g+1) (by omega) (by omega),Int.mul_add,Int.mul_one,aX (n:=ix (iA t.Dims (k:Int)) (j:Int)*g+ix (iA t.Dims (k:Int)) (j:Int)) (by omega) (by omega),aX (by omega) (by omega)]
     have u:=mT (m:=kj t.Dims (j:Int) b f g) (x:=b+(ix (iA t.Dims (k:Int)) (j:Int)*g+ix (iA t.Dims (k:Int)) (j:Int))) E G (by omega) (by unfold kj; omega)
     have tk:TT ⟨t.Dims.set j (kj t.Dims (j:Int) b f g),x⟩:=iC g5 B
     simp only [Z10_L1]
     rw [if_pos (by simp; omega),jZ h.d (by omega) (by omega)]
     simp only [Option.bind_some]
     rw [if_pos (by omega),U,k8 (by omega) (by omega)]
     simp only [Option.bind_some]
     rw [if_pos (by omega),um (t:=⟨t.Dims.set j (kj t.Dims (j:Int) b f g),x⟩) g5 tk.l u,cA (by unfold cS; omega)]
     exact ⟨_,rfl,B.set (h.x _ (bI hk)) _⟩)
    (fun x B=>by simp only [Z10_L1]; rw [if_neg (by simp)]; exact ⟨x,rfl,B⟩) (RG.rep _)
   rw [O]
   exact ⟨r,rfl,iC g5 T⟩
  ·simp only [decide_eq_false g5,Option.bind_some,Bool.not_false,if_true]
   exact ⟨fun q=>absurd (by simpa using q.2.2.2.2.2.2.2.2) g5,fun _=>by trivial⟩
 ·rw [if_pos (by simp only [Bool.or_eq_true,Bool.not_eq_true',decide_eq_true_eq,decide_eq_false_iff_not]; omega)]
  exact ⟨fun q=>absurd ⟨⟨q.1,q.2.1⟩,q.2.2.1,q.2.2.2.1,q.2.2.2.2.1,q.2.2.2.2.2.1,q.2.2.2.2.2.2.1,q.2.2.2.2.2.2.2.1⟩ c,fun _=>by trivial⟩
def mE (ds:List Int)(a st n:Int):Prop:=0≤a∧a<(ds.length:Int)∧a≠(ds.length:Int) - 1∧1≤st∧1≤n∧n≤4096∧ix ds ((ds.length:Int) - 1)≤n∧(n - ix ds ((ds.length:Int) - 1)) / st+1=ix ds a∧eL ((ds.set a.toNat n).take (ds.length - 1))
instance (ds:List Int)(a st n:Int):Decidable (mE ds a st n):=by unfold mE; infer_instance
theorem lG {α:Type}(xs:List α)(k:Nat):sub xs 0 (k:Int)=xs.take k:=by simp [sub]
theorem yR {t:Tensor}(h:TT t){a st n:Int} :
  (mE t.Dims a st n→∃ d,Z0y t a st n=some ⟨(t.Dims.set a.toNat n).take (t.Dims.length - 1),d⟩∧TOk ((t.Dims.set a.toNat n).take (t.Dims.length - 1)) d)∧(¬ mE t.Dims a st n→Z0y t a st n=some ⟨[],[]⟩):=by
 have Z:=l5 h
 have w1:aI ((t.Dims.length:Int) - 1)=(t.Dims.length:Int) - 1:=aX (by omega) (by omega)
 unfold Z0y
 rw [lF h,w1]
 simp only [Option.bind_some]
 by_cases c:(0≤a∧a<(t.Dims.length:Int))∧a≠(t.Dims.length:Int) - 1∧1≤st∧1≤n∧n≤4096
 ·obtain ⟨g1,G,J,L,M⟩:=c
  obtain ⟨j,rfl⟩:=Int.eq_ofNat_of_zero_le g1.1
  have E:j<t.Dims.length:=by omega
  obtain ⟨l,F⟩:∃ l,l=t.Dims.length - 1:=⟨_,rfl⟩
  have i:(t.Dims.length:Int) - 1=(l:Int):=by omega
  have w2:aI (l:Int)=(l:Int):=aX (by omega) (by omega)
  have hm:=h.d.2.mem (bI E)
  have a0:=h.d.2.mem (bI (xs:=t.Dims) (k:=l) (by omega))
  rw [i] at G ⊢
  rw [if_neg (by simp; omega),if_pos (by omega),if_pos (fun _=>by omega),if_pos (fun _=>g1)]
  unfold mE
  rw [i,← F]
  by_cases c5:ix t.Dims (l:Int)≤n
  ·have q0:0≤(n - ix t.Dims (l:Int)) / st:=Int.ediv_nonneg (by omega) (by omega)
   have q1:(n - ix t.Dims (l:Int)) / st≤n - ix t.Dims (l:Int):=Int.ediv_le_self _ (by omega)
   have e:aI (aI ((aI (n - ix t.Dims (l:Int))).tdiv st)+1)=(n - ix t.Dims (l:Int)) / st+1:=by
    rw [aX (n:=n - ix t.Dims (l:Int)) (by omega) (by omega),Int.tdiv_eq_ediv_of_nonneg (by omega),aX (n:=(n - ix t.Dims (l:Int)) / st) (by omega) (by omega),aX (by omega) (by omega)]
   rw [e]
   by_cases c6:(n - ix t.Dims (l:Int)) / st+1=ix t.Dims (j:Int)
   ·rw [if_neg (by simp [c6]; omega),k8 Z.2 E]
    simp only [Option.bind_some,Int.toNat_natCast]
    rw [if_pos (by simp; omega),lG,gO (by simp [cS]; omega)]
    by_cases g5:eL ((t.Dims.set j n).take l)
    ·simp only [decide_eq_true g5,Option.bind_some,Bool.not_true,Bool.false_eq_true,if_false]
     refine ⟨fun _=>?_,fun q=>absurd ⟨g1.1,g1.2,G,J,L,M,c5,c6,g5⟩ q⟩
     rw [lz g5]
     simp only [Option.bind_some]
     have hp:=h.d.2.2
     have q3:=Int.ediv_mul_le (n - ix t.Dims (l:Int)) (show st≠0 by omega)
     obtain ⟨r,O,T⟩:=lE (f:=fun s:List Int×Int=>Z0y_L1 t (j:Int) st ⟨(t.Dims.set j n).take l,List.replicate (pr ((t.Dims.set j n).take l)).toNat 0⟩ s.1 s.2) (Post:=fun r=>RG (pr ((t.Dims.set j n).take l)).toNat r) (pr ((t.Dims.set j n).take l)).toNat t.Data.length
      (fun k hk x u=>by
       have B:=iB h.d.2.1 (k:Int)
       have Y:=jY t.Dims (k:Int)
       have D:=B.mem (j:=j) (by omega)
       have I:=B.mem (j:=l) (by omega)
       have z0:0≤ix (iA t.Dims (k:Int)) (j:Int)*st:=Int.mul_nonneg D.1 (by omega)
       have z1:ix (iA t.Dims (k:Int)) (j:Int)*st≤(n - ix t.Dims (l:Int)) / st*st:=Int.mul_le_mul_of_nonneg_right (by omega) (by omega)
       have U:aI (aI (ix (iA t.Dims (k:Int)) (j:Int)*st)+ix (iA t.Dims (k:Int)) (l:Int))=ix (iA t.Dims (k:Int)) (j:Int)*st+ix (iA t.Dims (k:Int)) (l:Int):=by
        rw [aX (n:=ix (iA t.Dims (k:Int)) (j:Int)*st) (by omega) (by omega),aX (by omega) (by omega)]
       have b:=sd (mT (m:=n) (x:=ix (iA t.Dims (k:Int)) (j:Int)*st+ix (iA t.Dims (k:Int)) (l:Int)) E B (by omega) (by omega)) l
       have tk:TT ⟨(t.Dims.set j n).take l,x⟩:=iC g5 u
       obtain ⟨y,y1,y2⟩:=o4 (t:=⟨(t.Dims.set j n).take l,x⟩) tk b
       obtain ⟨m,m1,m2⟩:=oO y (ix t.Data (k:Int))
       simp only [Z0y_L1,i,w2]
       rw [if_pos (by simp; omega),jZ h.d (by omega) (by omega)]
       simp only [Option.bind_some]
       rw [if_pos (by omega),if_pos (by omega),U,k8 (by omega) (by omega)]
       simp only [Option.bind_some]
       rw [if_pos (by simp; omega),lG,y1]
       simp only [Option.bind_some]
       rw [if_pos (by omega),m1]
       simp only [Option.bind_some]
       rw [um (t:=⟨(t.Dims.set j n).take l,x⟩) g5 tk.l b,cA (by unfold cS; omega)]
       exact ⟨_,rfl,u.set m2 _⟩)
      (fun x u=>by simp only [Z0y_L1]; rw [if_neg (by simp)]; exact ⟨x,rfl,u⟩) (RG.rep _)
     rw [O]
     exact ⟨r,rfl,iC g5 T⟩
    ·simp only [decide_eq_false g5,Option.bind_some,Bool.not_false,if_true]
     exact ⟨fun q=>absurd q.2.2.2.2.2.2.2.2 g5,fun _=>by trivial⟩
   ·rw [if_pos (by simp [c6])]
    exact ⟨fun q=>absurd q.2.2.2.2.2.2.2.1 c6,fun _=>by trivial⟩
  ·rw [if_pos (by simp; omega)]
   exact ⟨fun q=>absurd q.2.2.2.2.2.2.1 c5,fun _=>by trivial⟩
 ·rw [if_pos (by simp only [Bool.or_eq_true,Bool.not_eq_true',decide_eq_true_eq,decide_eq_false_iff_not,beq_iff_eq]; omega)]
  exact ⟨fun q=>absurd ⟨⟨q.1,q.2.1⟩,q.2.2.1,q.2.2.2.1,q.2.2.2.2.1,q.2.2.2.2.2.1⟩ c,fun _=>by trivial⟩
theorem yS {t:Tensor}(h:TT t){j:Nat}(u:j<t.Dims.length){is:List Int}(B:IV t.Dims is):∃ xs,Z15 t (j:Int) is=some xs∧xs.length≤4096:=by
 have I:=l5 h
 have F:=B.len
 have J:=h.d.2.mem (bI u)
 unfold Z15
 obtain ⟨r,D,E⟩:=gX (f:=fun s:List Int×Int=>Z15_L1 t (j:Int) is s.1 s.2) (fun k s=>s.2=(k:Int)∧s.1.length=k) (ix t.Dims (j:Int)).toNat (Post:=fun r=>r.length≤4096)
  (fun k s hk q=>by
   obtain ⟨x,i⟩:=s
   obtain ⟨a,l⟩:=q
   simp only at a l
   subst a
   have b:IV t.Dims (is.set j (k:Int)):=by
    have:=mT (m:=ix t.Dims (j:Int)) (x:=(k:Int)) u B (by omega) (by omega)
    have e:t.Dims.set j (ix t.Dims (j:Int))=t.Dims:=by rw [cC u]; simp
    rw [e] at this; exact this
   obtain ⟨y,G,_⟩:=o4 h b
   simp only [Z15_L1]
   rw [if_pos (by omega),if_pos (by simp; omega),k8 (by omega) (by omega)]
   simp only [Option.bind_some,G]
   rw [if_pos (by simp; omega),cA (by unfold cS; omega)]
   exact ⟨_,rfl,rfl,by simp [l]⟩)
  (fun s q=>by
   obtain ⟨x,i⟩:=s
   obtain ⟨a,l⟩:=q
   simp only at a l
   subst a
   simp only [Z15_L1]
   rw [if_pos (by omega),if_neg (by simp; omega)]
   exact ⟨x,rfl,by omega⟩) (s:=([],0)) ⟨rfl,rfl⟩
 rw [D]
 exact ⟨r,rfl,E⟩
theorem BT {t:Tensor}(h:TT t){a:Int}:(0≤a∧a<(t.Dims.length:Int)→∃ d,Zd t a=some ⟨t.Dims,d⟩∧TOk t.Dims d)∧(¬ (0≤a∧a<(t.Dims.length:Int))→Zd t a=some ⟨[],[]⟩):=by
 have O:=l5 h
 unfold Zd
 rw [lF h]
 simp only [Option.bind_some]
 by_cases g1:0≤a∧a<(t.Dims.length:Int)
 ·obtain ⟨j,rfl⟩:=Int.eq_ofNat_of_zero_le g1.1
  have I:j<t.Dims.length:=by omega
  rw [decide_eq_true g1,if_neg (by simp),lz h.d]
  simp only [Option.bind_some]
  refine ⟨fun _=>?_,fun q=>absurd g1 q⟩
  have U:=h.d.2.2
  have T:(pr t.Dims).toNat=t.Data.length:=(pT h).1.symm
  obtain ⟨r,D,E⟩:=lE (f:=fun s:List Int×Int=>Zd_L1 t (j:Int) ⟨t.Dims,List.replicate (pr t.Dims).toNat 0⟩ s.1 s.2) (Post:=fun r=>RG (pr t.Dims).toNat r) (pr t.Dims).toNat t.Data.length
   (fun k hk x l=>by
    have F:=iB h.d.2.1 (k:Int)
    have G:=jY t.Dims (k:Int)
    obtain ⟨xs,M,Z⟩:=yS h I F
    simp only [Zd_L1]
    rw [if_pos (by simp; omega),jZ h.d (by omega) (by omega)]
    simp only [Option.bind_some,M]
    obtain ⟨b,B,_⟩:=gX (f:=fun s:Bool×Int=>Zd_L2 t (j:Int) (k:Int) (iA t.Dims (k:Int)) xs s.1 s.2) (fun q s=>s.2=(q:Int)) xs.length (Post:=fun _=>True)
     (fun q s Y e=>by
      obtain ⟨b,i⟩:=s
      simp only at e
      subst e
      obtain ⟨u,J⟩:=kv (ix xs (q:Int))
      obtain ⟨v,L⟩:=kv (ix t.Data (k:Int))
      simp only [Zd_L2,Zd_J6]
      rw [if_pos (by simp; omega),if_pos (by omega),J]
      simp only [Option.bind_some]
      rw [if_pos (by omega),L]
      simp only [Option.bind_some]
      rw [if_pos (fun _ _=>by omega),cA (by unfold cS; omega)]
      split<;>exact ⟨_,rfl,rfl⟩)
     (fun s e=>by
      obtain ⟨b,i⟩:=s
      simp only at e
      subst e
      simp only [Zd_L2]
      rw [if_neg (by simp)]
      exact ⟨b,rfl,trivial⟩) (s:=(true,0)) rfl
    rw [B]
    simp only [Option.bind_some,Zd_J7,Zd_J8]
    rw [cA (by unfold cS; omega)]
    split
    ·rw [if_pos (by simp; omega)]
     exact ⟨_,rfl,l.set (by decide) _⟩
    ·exact ⟨_,rfl,l⟩)
   (fun x l=>by simp only [Zd_L1]; rw [if_neg (by simp)]; exact ⟨x,rfl,l⟩) (RG.rep _)
  rw [D]
  exact ⟨r,rfl,iC h.d E⟩
 ·rw [decide_eq_false g1,if_pos (by simp)]
  exact ⟨fun q=>absurd q g1,fun _=>by trivial⟩
theorem mw {α R:Type}{f:List α×Int→Option ((List α×Int)⊕R)}(n w a:Nat){Post:R→Prop}(x:List α)(u:∀ j:Nat,j<n→∀ y,y.length+w≤a→∃ h,f (y,(j:Int))=some (.inl (h,((j+1:Nat):Int)))∧h.length≤y.length+w)
  (q:∀ y,y.length≤x.length+n*w→∃ r,f (y,(n:Int))=some (.inr r)∧Post r) (D:x.length+n*w≤a):∃ r,aQ f (x,0)=some r∧Post r :=
 gX (f:=f) (fun j s=>s.2=(j:Int)∧s.1.length≤x.length+j*w) n (fun j s l b=>by
  obtain ⟨y,i⟩:=s
  obtain ⟨rfl,e⟩:=b
  have h1:(j+1)*w≤n*w:=Nat.mul_le_mul_right w l
  rw [Nat.succ_mul] at h1
  simp only at e
  obtain ⟨h,g1,B⟩:=u j l y (by omega)
  exact ⟨_,g1,rfl,by rw [Nat.succ_mul]; simp only; omega⟩) (fun s b=>by
  obtain ⟨y,i⟩:=s
  obtain ⟨rfl,e⟩:=b
  exact q y e) (s:=(x,0)) ⟨rfl,by simp⟩
theorem oQ {xs:List Int}(h:xs.length≤6){j:Nat}(a:j<xs.length)(x:Int):Z1u xs (j:Int) x=some (xs.set j x):=by
 unfold Z1u
 rw [iF (by omega)]
 simp only [Option.bind_some]
 rw [if_pos (by omega),Int.toNat_natCast]
theorem se {ds:List Int}(h:eL ds){j:Nat}(a:j<ds.length):Z2c ds (j:Int)=some (pr (ds.take j),ix ds (j:Int),pr (ds.drop (j+1))):=by
 have b:=h.1
 unfold Z2c
 rw [if_pos (by omega),lG,kZ (by simp [cS]; omega) (h.2.take j)]
 simp only [Option.bind_some]
 rw [if_pos (by omega),cA (by unfold cS; omega),if_pos (by omega),iG,Int.toNat_natCast,kZ (by simp [cS]; omega) (h.2.drop (j+1))]
 rfl
theorem oR {ds:List Int}(h:eL ds){j:Nat}(M:j<ds.length)(n:Int){l:List pair}(O:l.length≤4096):∃ ps,Z8 ds (j:Int) n l=some ps:=by
 have hn:=h.1
 unfold Z8
 rw [se h M]
 simp only [Option.bind_some]
 obtain ⟨a,J⟩:∃ a:Nat,(a:Int)=pr (ds.take j):=⟨(pr (ds.take j)).toNat,by have:=(h.2.take j).pos; omega⟩
 obtain ⟨b,L⟩:∃ b:Nat,(b:Int)=pr (ds.drop (j+1)):=⟨(pr (ds.drop (j+1))).toNat,by have:=(h.2.drop (j+1)).pos; omega⟩
 have B:=(h.2.take j).2
 have D:=(h.2.drop (j+1)).2
 have a0:=(h.2.take j).pos
 have F:=(h.2.drop (j+1)).pos
 rw [← J] at B a0 ⊢
 rw [← L] at D F ⊢
 have k1:(a:Int)*b≤4096*4096:=Int.mul_le_mul B D (by omega) (by omega)
 have U:0≤(a:Int)*b:=Int.mul_nonneg (by omega) (by omega)
 have k3:(a:Int)*b*l.length≤4096*4096*4096:=Int.mul_le_mul k1 (by omega) (by omega) (by omega)
 have k4:0≤(a:Int)*b*l.length:=Int.mul_nonneg U (by omega)
 have Y:l.length*b≤4096*4096:=Nat.mul_le_mul O (by omega)
 have E:a*(l.length*b)≤4096*(4096*4096):=Nat.mul_le_mul (by omega) Y
 rw [aX (n:=(a:Int)*b) (by omega) (by omega),aX (by omega) (by omega),if_pos (by omega)]
 obtain ⟨r,e,_⟩:=mw (f:=fun s:List pair×Int=>Z8_L1 n l ((a:Int),ix ds (j:Int),(b:Int)) s.1 s.2) a (l.length*b) 8796093022208 (Post:=fun _=>True) []
  (fun i hi y T=>by
   simp only [Z8_L1,Z8_J6]
   rw [if_pos (by simp; omega),cA (by unfold cS; omega)]
   obtain ⟨r2,G,Z⟩:=mw (f:=fun s:List pair×Int=>Z8_L2 n l ((a:Int),ix ds (j:Int),(b:Int)) (i:Int) s.1 s.2) l.length b 8796093022208 (Post:=fun r=>r.length≤y.length+l.length*b) y
    (fun k hk z hz=>by
     simp only [Z8_L2,Z8_J5]
     rw [if_pos (by simp; omega),if_pos (by omega),cA (by unfold cS; omega)]
     obtain ⟨r3,I,p3⟩:=mw (f:=fun s:List pair×Int=>Z8_L3 n l ((a:Int),ix ds (j:Int),(b:Int)) (i:Int) (k:Int) s.1 s.2) b 1 8796093022208 (Post:=fun r=>r.length≤z.length+b*1) z
      (fun q hq v u=>by
       simp only [Z8_L3]
       rw [if_pos (by simp; omega),if_pos (by simp; omega),cA (by unfold cS; omega)]
       exact ⟨_,rfl,by simp⟩)
      (fun v u=>by simp only [Z8_L3]; rw [if_neg (by simp)]; exact ⟨v,rfl,u⟩) (by omega)
     rw [I]
     exact ⟨_,rfl,by omega⟩)
    (fun v u=>by simp only [Z8_L2]; rw [if_neg (by simp)]; exact ⟨v,rfl,u⟩) T
   rw [G]
   exact ⟨_,rfl,Z⟩)
  (fun v u=>by simp only [Z8_L1]; rw [if_neg (by simp)]; exact ⟨v,rfl,trivial⟩) (by simp; omega)
 rw [e]
 exact ⟨r,rfl⟩
theorem mc {xs:List Int}{p:Int→Prop}(i:∀ x,Decidable (p x))(h:¬ ∀ x∈xs,p x):∃ m,m<xs.length∧¬ p (ix xs (m:Int))∧∀ k:Nat,k<m→p (ix xs (k:Int)):=by
 induction xs with
 | nil=>exact absurd (fun x e=>by cases e) h
 | cons x xs ih =>
  by_cases c:p x
  ·obtain ⟨m,h1,h2,b⟩:=ih fun q=>h fun y a=>by
    rcases List.mem_cons.1 a with rfl | a
    ·exact c
    ·exact q y a
   refine ⟨m+1,by simpa using h1,by rw [dZ]; exact h2,?_⟩
   intro k hk
   cases k with
   | zero=>exact c
   | succ k=>rw [dZ]; exact b k (by omega)
  ·exact ⟨0,by simp,c,fun k hk=>by omega⟩
def Sh (o:Option (List Int×List pair×Bool))(c:Prop)[Decidable c](d:List Int):Prop:=∃ ds ps,o=some (ds,ps,decide c)∧(c→ds=d)
theorem uB {ds:List Int}(h:eL ds){a:Int}{xs:List Int}(Z:xs.length<cS):Sh (Z0m ds a xs) (nw ds a xs) (ds.set a.toNat (xs.length:Int)):=by
 have M:=h.1
 unfold Z0m
 simp only [Zp,Option.bind_some]
 by_cases c:(0≤a∧a<(ds.length:Int))∧xs≠[]∧xs.length≤4096
 ·obtain ⟨g1,F,U⟩:=c
  obtain ⟨j,rfl⟩:=Int.eq_ofNat_of_zero_le g1.1
  have I:j<ds.length:=by omega
  have Y:xs.length≠0:=fun e=>F (List.eq_nil_of_length_eq_zero e)
  rw [if_neg (by simp [F]; omega)]
  by_cases g5:∀ x∈xs,0≤x∧x<ix ds (j:Int)
  ·obtain ⟨r,D,E⟩:=gX (f:=fun s:List pair×Int=>Z0m_L1 ds (j:Int) xs s.1 s.2) (fun k s=>s.2=(k:Int)∧s.1.length=k) xs.length (Post:=fun r=>∃ l,r=.inr l∧l.length≤4096)
    (fun k s hk B=>by
     obtain ⟨y,i⟩:=s
     obtain ⟨b,u⟩:=B
     simp only at b u
     subst b
     have:=g5 _ (bI hk)
     simp only [Z0m_L1]
     rw [if_pos (by simp; omega),if_pos (by omega),if_pos (fun _=>g1),if_neg (by simp; omega),if_pos (by simp; omega),cA (by unfold cS; omega)]
     exact ⟨_,rfl,rfl,by simp [u]⟩)
    (fun s B=>by
     obtain ⟨y,i⟩:=s
     obtain ⟨b,u⟩:=B
     simp only at b u
     subst b
     simp only [Z0m_L1]
     rw [if_neg (by simp)]
     exact ⟨_,rfl,y,rfl,by omega⟩) (s:=([],0)) ⟨rfl,rfl⟩
   obtain ⟨l,rfl,L⟩:=E
   rw [D]
   simp only [Option.bind_some,Z0m_J1]
   rw [oQ M I]
   simp only [Option.bind_some]
   rw [hY (by simp [cS]; omega)]
   by_cases g6:eL (ds.set j (xs.length:Int))
   ·have T:nw ds (j:Int) xs:=⟨g1.1,g1.2,F,g5,by simpa using g6⟩
    obtain ⟨ps,G⟩:=oR h I (xs.length:Int) L
    simp only [decide_eq_true g6,Option.bind_some,Bool.not_true,Bool.false_eq_true,if_false]
    rw [G]
    exact ⟨_,ps,by rw [decide_eq_true T]; rfl,fun _=>by simp⟩
   ·have no:¬ nw ds (j:Int) xs:=fun q=>g6 (by simpa using q.2.2.2.2)
    simp only [decide_eq_false g6,Option.bind_some,Bool.not_false,if_true]
    exact ⟨_,_,by rw [decide_eq_false no],fun q=>absurd q no⟩
  ·have no:¬ nw ds (j:Int) xs:=fun q=>g5 q.2.2.2.1
   obtain ⟨m,m1,m2,O⟩:=mc (fun _=>inferInstance) g5
   obtain ⟨r,D,E⟩:=gX (f:=fun s:List pair×Int=>Z0m_L1 ds (j:Int) xs s.1 s.2) (fun k s=>s.2=(k:Int)∧s.1.length=k) m (Post:=fun r=>r=.inl ([],[],false))
    (fun k s hk B=>by
     obtain ⟨y,i⟩:=s
     obtain ⟨b,u⟩:=B
     simp only at b u
     subst b
     have:=O k hk
     simp only [Z0m_L1]
     rw [if_pos (by simp; omega),if_pos (by omega),if_pos (fun _=>g1),if_neg (by simp; omega),if_pos (by simp; omega),cA (by unfold cS; omega)]
     exact ⟨_,rfl,rfl,by simp [u]⟩)
    (fun s B=>by
     obtain ⟨y,i⟩:=s
     obtain ⟨b,u⟩:=B
     simp only at b u
     subst b
     simp only [Z0m_L1]
     rw [if_pos (by simp; omega),if_pos (by omega),if_pos (fun _=>g1),if_pos (by simp only [Bool.or_eq_true,decide_eq_true_eq]; omega)]
     exact ⟨_,rfl,rfl⟩) (s:=([],0)) ⟨rfl,rfl⟩
   rw [D,E]
   exact ⟨_,_,by rw [decide_eq_false no]; rfl,fun q=>absurd q no⟩
 ·have no:¬ nw ds a xs:=fun q=>c ⟨⟨q.1,q.2.1⟩,q.2.2.1,by
   have:=q.2.2.2.2.2.mem (d:=(xs.length:Int)) (by
    have:a.toNat<ds.length:=by have:=q.1; have:=q.2.1; omega
    exact List.mem_iff_getElem.2 ⟨a.toNat,by simpa using this,by simp⟩)
   omega⟩
  have J:((!(decide (a≥0)&&decide (a<(ds.length:Int)))||(xs.length:Int)==0)||decide ((xs.length:Int)>4096))=true:=by
   by_cases q:0≤a∧a<(ds.length:Int)
   ·by_cases q2:xs=[]
    ·subst q2; simp
    ·have:¬ xs.length≤4096:=fun z=>c ⟨q,q2,z⟩
     have:(xs.length:Int)>4096:=by omega
     simp [this]
   ·have:(decide (a≥0)&&decide (a<(ds.length:Int)))=false:=by simp; omega
    rw [this]; rfl
  rw [if_pos J]
  exact ⟨_,_,by rw [decide_eq_false no],fun q=>absurd q no⟩
theorem sX {ds:List Int}(h:eL ds){a n:Int}{xs:List Int}(U:xs.length<cS):Sh (Z0n ds a xs n) (mD ds a xs n) (ds.set a.toNat n):=by
 have L:=h.1
 unfold Z0n
 simp only [Zp,Option.bind_some]
 by_cases g1:0≤a∧a<(ds.length:Int)
 ·obtain ⟨j,rfl⟩:=Int.eq_ofNat_of_zero_le g1.1
  have B:j<ds.length:=by omega
  have Y:=h.2.mem (bI B)
  rw [if_pos (fun _=>g1)]
  by_cases c:(xs.length:Int)=ix ds (j:Int)∧1≤n
  ·obtain ⟨I,T⟩:=c
   rw [if_neg (by simp; omega)]
   by_cases g5:∀ x∈xs,0≤x∧x<n
   ·obtain ⟨r,D,E⟩:=gX (f:=fun s:List pair×Int=>Z0n_L1 xs n s.1 s.2) (fun k s=>s.2=(k:Int)∧s.1.length=k) xs.length (Post:=fun r=>∃ l,r=.inr l∧l.length≤4096)
     (fun k s hk u=>by
      obtain ⟨y,i⟩:=s
      obtain ⟨b,e⟩:=u
      simp only at b e
      subst b
      have:=g5 _ (bI hk)
      simp only [Z0n_L1]
      rw [if_pos (by simp; omega),if_pos (by omega),if_neg (by simp; omega),if_pos (by simp; omega),cA (by unfold cS; omega)]
      exact ⟨_,rfl,rfl,by simp [e]⟩)
     (fun s u=>by
      obtain ⟨y,i⟩:=s
      obtain ⟨b,e⟩:=u
      simp only at b e
      subst b
      simp only [Z0n_L1]
      rw [if_neg (by simp)]
      exact ⟨_,rfl,y,rfl,by omega⟩) (s:=([],0)) ⟨rfl,rfl⟩
    obtain ⟨l,rfl,J⟩:=E
    rw [D]
    simp only [Option.bind_some,Z0n_J1]
    rw [oQ L B]
    simp only [Option.bind_some]
    rw [hY (by simp [cS]; omega)]
    by_cases g6:eL (ds.set j n)
    ·have O:mD ds (j:Int) xs n:=⟨g1.1,g1.2,I,g5,by simpa using g6⟩
     obtain ⟨ps,F⟩:=oR h B n J
     simp only [decide_eq_true g6,Option.bind_some,Bool.not_true,Bool.false_eq_true,if_false]
     rw [F]
     exact ⟨_,ps,by rw [decide_eq_true O]; rfl,fun _=>by simp⟩
    ·have no:¬ mD ds (j:Int) xs n:=fun q=>g6 (by simpa using q.2.2.2.2)
     simp only [decide_eq_false g6,Option.bind_some,Bool.not_false,if_true]
     exact ⟨_,_,by rw [decide_eq_false no],fun q=>absurd q no⟩
   ·have no:¬ mD ds (j:Int) xs n:=fun q=>g5 q.2.2.2.1
    obtain ⟨m,Z,m2,M⟩:=mc (fun _=>inferInstance) g5
    obtain ⟨r,D,E⟩:=gX (f:=fun s:List pair×Int=>Z0n_L1 xs n s.1 s.2) (fun k s=>s.2=(k:Int)∧s.1.length=k) m (Post:=fun r=>r=.inl ([],[],false))
     (fun k s hk u=>by
      obtain ⟨y,i⟩:=s
      obtain ⟨b,e⟩:=u
      simp only at b e
      subst b
      have:=M k hk
      simp only [Z0n_L1]
      rw [if_pos (by simp; omega),if_pos (by omega),if_neg (by simp; omega),if_pos (by simp; omega),cA (by unfold cS; omega)]
      exact ⟨_,rfl,rfl,by simp [e]⟩)
     (fun s u=>by
      obtain ⟨y,i⟩:=s
      obtain ⟨b,e⟩:=u
      simp only at b e
      subst b
      simp only [Z0n_L1]
      rw [if_pos (by simp; omega),if_pos (by omega),if_pos (by simp only [Bool.or_eq_true,decide_eq_true_eq]; omega)]
      exact ⟨_,rfl,rfl⟩) (s:=([],0)) ⟨rfl,rfl⟩
    rw [D,E]
    exact ⟨_,_,by rw [decide_eq_false no]; rfl,fun q=>absurd q no⟩
  ·have no:¬ mD ds (j:Int) xs n:=fun q=>c ⟨q.2.2.1,by
    have:=q.2.2.2.2.2.1 n (List.mem_iff_getElem.2 ⟨j,by simpa using B,by simp⟩)
    exact this⟩
   rw [if_pos (by
    by_cases q:(xs.length:Int)=ix ds (j:Int)
    ·have:n<1:=by
      rcases Int.lt_or_le n 1 with z | z
      ·exact z
      ·exact absurd ⟨q,z⟩ c
     simp [this]
    ·simp [q])]
   exact ⟨_,_,by rw [decide_eq_false no],fun q=>absurd q no⟩
 ·have no:¬ mD ds a xs n:=fun q=>g1 ⟨q.1,q.2.1⟩
  have G:(decide (a≥0)&&decide (a<(ds.length:Int)))=false:=by simp; omega
  rw [G,if_pos (fun q=>by cases q),if_pos (by simp)]
  exact ⟨_,_,by rw [decide_eq_false no],fun q=>absurd q no⟩
theorem BU {ds:List Int}(h:eL ds){a b f g:Int}:Sh (Z02 ds a b f g) (nx ds a b f g) (ds.set a.toNat (kj ds a b f g)):=by
 have Y:=h.1
 unfold Z02
 simp only [Zp,Option.bind_some]
 by_cases g1:0≤a∧a<(ds.length:Int)
 ·obtain ⟨j,rfl⟩:=Int.eq_ofNat_of_zero_le g1.1
  have D:j<ds.length:=by omega
  have hm:=h.2.mem (bI D)
  rw [if_neg (by simp; omega)]
  have lp:=eP [b,f,g] (fun s:Int=>Z02_L1 b f g s) (fun i=>i) (fun x=>!(decide (x<0)||decide (x>4096))) (.inl (([]:List Int),([]:List pair),false)) (.inr ())
   (fun k hk=>by
    simp only [List.length_cons,List.length_nil] at hk
    simp only [Z02_L1]
    rw [if_pos (by simp; omega),if_pos (by simp; omega),cA (by unfold cS; omega)]
    cases (decide (ix [b,f,g] (k:Int)<0)||decide (ix [b,f,g] (k:Int)>4096))<;>rfl)
   (by simp only [Z02_L1]; rw [if_neg (by simp)])
  rw [lp]
  by_cases c:0≤b∧b≤4096∧0≤f∧f≤4096∧0≤g∧g≤4096
  ·obtain ⟨J,L,M,O,u,F⟩:=c
   have B:([b,f,g].all fun x=>!(decide (x<0)||decide (x>4096)))=true:=by
    rw [List.all_eq_true]
    intro x Z
    have:x=b∨x=f∨x=g:=by simpa using Z
    simp; rcases this with rfl | rfl | rfl<;>omega
   rw [B]
   simp only [if_true,Option.bind_some,Z02_J1]
   have k0:0≤(ix ds (j:Int) - 1)*g:=Int.mul_nonneg (by omega) u
   have k1:=Int.mul_le_mul (show ix ds (j:Int) - 1≤4096 by omega) F u (show (0:Int)≤4096 by omega)
   have e:aI (aI (aI (b+ix ds (j:Int))+aI (aI (ix ds (j:Int) - 1)*g))+f)=kj ds (j:Int) b f g:=by
    rw [aX (n:=b+ix ds (j:Int)) (by omega) (by omega),aX (n:=ix ds (j:Int) - 1) (by omega) (by omega),aX (n:=(ix ds (j:Int) - 1)*g) (by omega) (by omega),aX (n:=b+ix ds (j:Int)+(ix ds (j:Int) - 1)*g) (by omega) (by omega),aX (by omega) (by omega)]
    rfl
   rw [if_pos g1,e,oQ Y D]
   simp only [Option.bind_some]
   rw [hY (by simp [cS]; omega)]
   by_cases g6:eL (ds.set j (kj ds (j:Int) b f g))
   ·have ok:nx ds (j:Int) b f g:=⟨g1.1,g1.2,J,L,M,O,u,F,by simpa using g6⟩
    simp only [decide_eq_true g6,Option.bind_some,Bool.not_true,Bool.false_eq_true,if_false]
    obtain ⟨l,T,U⟩:=mw (f:=fun s:List pair×Int=>Z02_L2 ds (j:Int) b g s.1 s.2) (ix ds (j:Int)).toNat 1 8796093022208 (Post:=fun r=>r.length≤4096) []
     (fun q hq v G=>by
      simp only [Z02_L2]
      rw [if_pos (by simp; omega),if_pos (by simp; omega),cA (by unfold cS; omega)]
      exact ⟨_,rfl,by simp⟩)
     (fun v G=>by
      simp only [Z02_L2]
      simp at G
      rw [if_neg (by simp; omega)]
      exact ⟨v,rfl,by omega⟩) (by simp; omega)
    rw [T]
    simp only [Option.bind_some,Z02_J2]
    obtain ⟨ps,E⟩:=oR h D (kj ds (j:Int) b f g) U
    rw [e,E]
    exact ⟨_,ps,by rw [decide_eq_true ok]; rfl,fun _=>by simp⟩
   ·have no:¬ nx ds (j:Int) b f g:=fun q=>g6 (by simpa using q.2.2.2.2.2.2.2.2)
    simp only [decide_eq_false g6,Option.bind_some,Bool.not_false,if_true]
    exact ⟨_,_,by rw [decide_eq_false no],fun q=>absurd q no⟩
  ·have no:¬ nx ds (j:Int) b f g:=fun q=>c ⟨q.2.2.1,q.2.2.2.1,q.2.2.2.2.1,q.2.2.2.2.2.1,q.2.2.2.2.2.2.1,q.2.2.2.2.2.2.2.1⟩
   have B:([b,f,g].all fun x=>!(decide (x<0)||decide (x>4096)))=false:=by
    simp only [List.all_cons,List.all_nil,Bool.and_true,Bool.and_eq_false_iff,Bool.not_eq_false',Bool.or_eq_true,decide_eq_true_eq]
    omega
   rw [B]
   exact ⟨_,_,by rw [decide_eq_false no]; rfl,fun q=>absurd q no⟩
 ·have no:¬ nx ds a b f g:=fun q=>g1 ⟨q.1,q.2.1⟩
  have I:(decide (a≥0)&&decide (a<(ds.length:Int)))=false:=by simp; omega
  rw [I,if_pos (by simp)]
  exact ⟨_,_,by rw [decide_eq_false no],fun q=>absurd q no⟩
theorem yT {ds:List Int}(h:eL ds){a st n:Int}:Sh (Z4 ds a st n) (mE ds a st n) ((ds.set a.toNat n).take (ds.length - 1)):=by
 have hn:=h.1
 have w1:aI ((ds.length:Int) - 1)=(ds.length:Int) - 1:=aX (by omega) (by omega)
 unfold Z4
 simp only [Zp,Option.bind_some,w1]
 by_cases c:(0≤a∧a<(ds.length:Int))∧a≠(ds.length:Int) - 1∧1≤st∧1≤n∧n≤4096
 ·obtain ⟨g1,T,c2,c3,c4⟩:=c
  obtain ⟨j,rfl⟩:=Int.eq_ofNat_of_zero_le g1.1
  have hj:j<ds.length:=by omega
  obtain ⟨l,F⟩:∃ l,l=ds.length - 1:=⟨_,rfl⟩
  have D:(ds.length:Int) - 1=(l:Int):=by omega
  have O:aI (l:Int)=(l:Int):=aX (by omega) (by omega)
  have hm:=h.2.mem (bI hj)
  have a0:=h.2.mem (bI (xs:=ds) (k:=l) (by omega))
  have b0:(decide ((j:Int)≥0)&&decide ((j:Int)<(ds.length:Int)))=true:=by simp; omega
  rw [D] at T ⊢
  have J:((((!(decide ((j:Int)≥0)&&decide ((j:Int)<(ds.length:Int)))||((j:Int)==(l:Int)))||decide (st<1))||decide (n<1))||decide (n>4096))=false:=by rw [b0]; simp; omega
  have E:mE ds (j:Int) st n↔0≤(j:Int)∧(j:Int)<(ds.length:Int)∧(j:Int)≠(l:Int)∧1≤st∧1≤n∧n≤4096∧ix ds (l:Int)≤n∧(n - ix ds (l:Int)) / st+1=ix ds (j:Int)∧eL ((ds.set j n).take l):=by
   unfold mE
   rw [D,← F,Int.toNat_natCast]
  rw [J]
  rw [if_pos (fun _=>by omega),if_pos (fun _=>g1),if_pos (fun _=>by omega),if_pos (fun _=>by omega)]
  by_cases c5:ix ds (l:Int)≤n
  ·have q0:0≤(n - ix ds (l:Int)) / st:=Int.ediv_nonneg (by omega) (by omega)
   have q1:(n - ix ds (l:Int)) / st≤n - ix ds (l:Int):=Int.ediv_le_self _ (by omega)
   have e:aI (aI ((aI (n - ix ds (l:Int))).tdiv st)+1)=(n - ix ds (l:Int)) / st+1:=by
    rw [aX (n:=n - ix ds (l:Int)) (by omega) (by omega),Int.tdiv_eq_ediv_of_nonneg (by omega),aX (n:=(n - ix ds (l:Int)) / st) (by omega) (by omega),aX (by omega) (by omega)]
   rw [e]
   by_cases c6:(n - ix ds (l:Int)) / st+1=ix ds (j:Int)
   ·rw [if_neg (by simp [c6]; omega),oQ hn hj]
    simp only [Option.bind_some,Int.toNat_natCast]
    rw [if_pos (by simp; omega),lG,hY (by simp [cS]; omega)]
    by_cases g5:eL ((ds.set j n).take l)
    ·simp only [decide_eq_true g5,Option.bind_some,Bool.not_true,Bool.false_eq_true,if_false]
     have ok:mE ds (j:Int) st n:=E.2 ⟨g1.1,g1.2,T,c2,c3,c4,c5,c6,g5⟩
     rw [if_pos g1]
     have j1:∀ s:Int,∃ ps,Z4_J1 ds (j:Int) n (ds.set j n) s=some ((ds.set j n).take l,ps,true):=by
      intro s
      have b:eL (ds.take l):=⟨by simp; omega,h.2.take l⟩
      simp only [Z4_J1,D,O]
      rw [if_pos (by omega),lG,se b (by simp; omega)]
      simp only [Option.bind_some]
      obtain ⟨A,Y⟩:∃ A:Nat,(A:Int)=pr ((ds.take l).take j):=⟨(pr ((ds.take l).take j)).toNat,by have:=(b.2.take j).pos; omega⟩
      obtain ⟨L,hL⟩:∃ L:Nat,(L:Int)=ix (ds.take l) (j:Int):=⟨(ix (ds.take l) (j:Int)).toNat,by have:=b.2.mem (bI (xs:=ds.take l) (k:=j) (by simp; omega)); omega⟩
      obtain ⟨B,hB⟩:∃ B:Nat,(B:Int)=pr ((ds.take l).drop (j+1)):=⟨(pr ((ds.take l).drop (j+1))).toNat,by have:=(b.2.drop (j+1)).pos; omega⟩
      obtain ⟨Z,hZ⟩:∃ Z:Nat,(Z:Int)=ix ds (l:Int):=⟨(ix ds (l:Int)).toNat,by omega⟩
      have a1:=(b.2.take j).2
      have J:=(b.2.drop (j+1)).2
      have l1:=b.2.mem (bI (xs:=ds.take l) (k:=j) (by simp; omega))
      rw [← Y] at a1 ⊢
      rw [← hB] at J ⊢
      rw [← hL] at l1 ⊢
      have m1:B*(Z*1)≤4096*4096:=Nat.mul_le_mul (by omega) (by omega)
      have m2:L*(B*(Z*1))≤4096*(4096*4096):=Nat.mul_le_mul (by omega) m1
      have m3:A*(L*(B*(Z*1)))≤64*(4096*(4096*4096))∨True:=.inr trivial
      -- the product of all four is the size of the whole
      have M:pr (ds.take l)=pr ((ds.take l).take j)*(ix (ds.take l) (j:Int)*pr ((ds.take l).drop (j+1))):=by
       rw [gW (ds.take l) j]
       have:(ds.take l).drop j=ix (ds.take l) (j:Int)::(ds.take l).drop (j+1):=by rw [List.drop_eq_getElem_cons (by simp; omega),cC (by simp; omega)]
       rw [this]; rfl
      rw [← Y,← hL,← hB] at M
      have h4:A*(L*B)≤4096:=by
       have:=b.2.2
       rw [M] at this
       have U:((A*(L*B):Nat):Int)=(A:Int)*((L:Int)*(B:Int)):=by simp
       omega
      have m4:A*(L*(B*(Z*1)))≤4096*4096:=by
       have e5:A*(L*(B*(Z*1)))=A*(L*B)*Z:=by rw [Nat.mul_one,Nat.mul_assoc,Nat.mul_assoc]
       rw [e5]
       exact Nat.mul_le_mul h4 (by omega)
      obtain ⟨r,e1,_⟩:=mw (f:=fun q:List pair×Int=>Z4_L1 ds n s ((A:Int),(L:Int),(B:Int)) q.1 q.2) A (L*(B*(Z*1))) 8796093022208 (Post:=fun _=>True) []
       (fun i hi y hy=>by
        simp only [Z4_L1,Z4_J15]
        rw [if_pos (by simp; omega),cA (by unfold cS; omega)]
        obtain ⟨r2,e2,p2⟩:=mw (f:=fun q:List pair×Int=>Z4_L2 ds n s ((A:Int),(L:Int),(B:Int)) (i:Int) q.1 q.2) L (B*(Z*1)) 8796093022208 (Post:=fun r=>r.length≤y.length+L*(B*(Z*1))) y
         (fun k hk z hz=>by
          simp only [Z4_L2,Z4_J14]
          rw [if_pos (by simp; omega),cA (by unfold cS; omega)]
          obtain ⟨r3,e3,p3⟩:=mw (f:=fun q:List pair×Int=>Z4_L3 ds n s ((A:Int),(L:Int),(B:Int)) (i:Int) (k:Int) q.1 q.2) B (Z*1) 8796093022208 (Post:=fun r=>r.length≤z.length+B*(Z*1)) z
           (fun p hp u hu=>by
            simp only [Z4_L3,Z4_J13]
            rw [if_pos (by simp; omega),cA (by unfold cS; omega)]
            obtain ⟨r4,U,p4⟩:=mw (f:=fun q:List pair×Int=>Z4_L4 ds n s ((A:Int),(L:Int),(B:Int)) (i:Int) (k:Int) (p:Int) q.1 q.2) Z 1 8796093022208 (Post:=fun r=>r.length≤u.length+Z*1) u
             (fun o ho v I=>by
              simp only [Z4_L4,D,O]
              rw [if_pos (by omega),if_pos (by simp; omega),if_pos (by simp; omega),cA (by unfold cS; omega)]
              exact ⟨_,rfl,by simp⟩)
             (fun v I=>by
              simp only [Z4_L4,D,O]
              rw [if_pos (by omega),if_neg (by simp; omega)]
              exact ⟨v,rfl,I⟩) (by omega)
            rw [U]
            exact ⟨_,rfl,p4⟩)
           (fun v I=>by simp only [Z4_L3]; rw [if_neg (by simp)]; exact ⟨v,rfl,I⟩) hz
          rw [e3]
          exact ⟨_,rfl,p3⟩)
         (fun v I=>by simp only [Z4_L2]; rw [if_neg (by simp)]; exact ⟨v,rfl,I⟩) hy
        rw [e2]
        exact ⟨_,rfl,p2⟩)
       (fun v I=>by simp only [Z4_L1]; rw [if_neg (by simp)]; exact ⟨v,rfl,trivial⟩) (by simp only [List.length_nil]; omega)
      rw [e1]
      simp only [Option.bind_some,Z4_J16,D,O]
      rw [lG]
      exact ⟨r,rfl⟩
     by_cases g7:ix ds (j:Int)=1
     ·rw [if_pos (by simp [g7])]
      obtain ⟨ps,G⟩:=j1 0
      rw [G]
      exact ⟨_,ps,by rw [decide_eq_true ok],fun _=>by rw [← F]⟩
     ·rw [if_neg (by simp [g7])]
      obtain ⟨ps,G⟩:=j1 st
      rw [G]
      exact ⟨_,ps,by rw [decide_eq_true ok],fun _=>by rw [← F]⟩
    ·simp only [decide_eq_false g5,Option.bind_some,Bool.not_false,if_true]
     exact ⟨_,_,by rw [decide_eq_false (fun q=>g5 (E.1 q).2.2.2.2.2.2.2.2)],fun q=>absurd (E.1 q).2.2.2.2.2.2.2.2 g5⟩
   ·rw [if_pos (by simp only [Bool.or_eq_true,bne_iff_ne]; exact .inr fun z=>c6 z.symm)]
    exact ⟨_,_,by rw [decide_eq_false (fun q=>c6 (E.1 q).2.2.2.2.2.2.2.1)],fun q=>absurd (E.1 q).2.2.2.2.2.2.2.1 c6⟩
  ·rw [if_pos (by simp only [Bool.or_eq_true,Bool.false_or,decide_eq_true_eq]; exact .inl (by omega))]
   exact ⟨_,_,by rw [decide_eq_false (fun q=>c5 (E.1 q).2.2.2.2.2.2.1)],fun q=>absurd (E.1 q).2.2.2.2.2.2.1 c5⟩
 ·have no:¬ mE ds a st n:=fun q=>c ⟨⟨q.1,q.2.1⟩,q.2.2.1,q.2.2.2.1,q.2.2.2.2.1,q.2.2.2.2.2.1⟩
  have J:((((!(decide (a≥0)&&decide (a<(ds.length:Int)))||(a==(ds.length:Int) - 1))||decide (st<1))||decide (n<1))||decide (n>4096))=true:=by
   simp only [Bool.or_eq_true,Bool.not_eq_true',decide_eq_true_eq,Bool.and_eq_false_iff,decide_eq_false_iff_not,beq_iff_eq]
   omega
  rw [J,if_pos (fun q=>by simp at q),if_pos (fun q=>by simp at q),if_pos (fun q=>by simp at q),if_pos (fun q=>by simp at q),if_pos (by simp)]
  exact ⟨_,_,by rw [decide_eq_false no],fun q=>absurd q no⟩
theorem lH (n:Node)(u:aN)(bd b a bx:Bool)(h1:Z7 hU u=some bd)(h2:Z7 fI u=some b)(e:Z7 kL u=some a)(h:Z7 pF u=some bx) :
  Z24 n u=some ((((bd||((n.Dims.length:Int)==(0:Int)))&&(b||((n.Ints.length:Int)==(0:Int))))&&(a||(n.Form==([]:aN))))&&(bx||((n.Data.length:Int)==(0:Int)))):=by
 unfold Z24
 rw [h1,h2,e,h]
 simp only [Option.bind_some]
 generalize ((n.Dims.length:Int)==(0:Int))=x1
 generalize ((n.Ints.length:Int)==(0:Int))=x2
 generalize (n.Form==([]:aN))=x3
 generalize ((n.Data.length:Int)==(0:Int))=x4
 cases bd<;>cases x1<;>cases b<;>cases x2<;>cases a<;>cases x3<;>cases bx<;>cases x4<;>rfl
theorem uC:Z7 hU []=some false:=by kernel_rfl
theorem uD:Z7 fI []=some false:=by kernel_rfl
theorem uE:Z7 kL []=some false:=by kernel_rfl
theorem uF:Z7 pF []=some false:=by kernel_rfl
theorem qR:Z7 hU hU=some true:=by kernel_rfl
theorem qT:Z7 fI hU=some false:=by kernel_rfl
theorem qU:Z7 kL hU=some false:=by kernel_rfl
theorem qV:Z7 pF hU=some false:=by kernel_rfl
theorem l6:Z7 hU fI=some false:=by kernel_rfl
theorem l7:Z7 fI fI=some true:=by kernel_rfl
theorem l8:Z7 kL fI=some false:=by kernel_rfl
theorem l9:Z7 pF fI=some false:=by kernel_rfl
theorem yU:Z7 hU pE=some true:=by kernel_rfl
theorem yV:Z7 fI pE=some false:=by kernel_rfl
theorem yW:Z7 kL pE=some false:=by kernel_rfl
theorem yX:Z7 pF pE=some true:=by kernel_rfl
theorem yY:Z7 hU kL=some false:=by kernel_rfl
theorem yZ:Z7 fI kL=some false:=by kernel_rfl
theorem y':Z7 kL kL=some true:=by kernel_rfl
theorem z6:Z7 pF kL=some false:=by kernel_rfl
def oS (n:Node)(m:Nat):Prop:=∀ a∈n.Args,0≤a∧a<(m:Int)
instance (n:Node)(m:Nat):Decidable (oS n m):=by unfold oS; infer_instance
theorem z7 {n:Node}{b:List (List Int)}(j:b.length≤4096)(i:n.Args.length≤6):aQ (fun s:List (List Int)×Int=>Zh_L1 n b s.1 s.2) ([],0)=some (if oS n b.length then .inr (n.Args.map fun a=>ix b a) else .inl ([],false)):=by
 have e:∀ k:Nat,k<n.Args.length→(0≤ix n.Args (k:Int)∧ix n.Args (k:Int)<(b.length:Int))→(fun s:List (List Int)×Int=>Zh_L1 n b s.1 s.2) ((n.Args.take k).map fun a=>ix b a,(k:Int))=some (.inl ((n.Args.take (k+1)).map fun a=>ix b a,((k+1:Nat):Int))):=by
  intro k hk hw
  simp only [Zh_L1]
  rw [if_pos (by simp; omega),if_pos (by omega),if_neg (by simp; omega),if_pos hw,if_pos (by simp; omega),cA (by unfold cS; omega),List.take_succ_eq_append_getElem hk,List.map_append,cC hk]
  rfl
 by_cases c:oS n b.length
 ·rw [if_pos c]
  refine eV (fun k=>((n.Args.take k).map fun a=>ix b a,(k:Int))) n.Args.length (fun k hk=>e k hk (c _ (bI hk))) ?_ rfl
  simp only [Zh_L1]
  rw [if_neg (by simp),List.take_length]
 ·rw [if_neg c]
  obtain ⟨m,l,q,h⟩:=mc (p:=fun a=>0≤a∧a<(b.length:Int)) (fun _=>inferInstance) c
  refine eV (fun k=>((n.Args.take k).map fun a=>ix b a,(k:Int))) m (fun k hk=>e k (by omega) (h k hk)) ?_ rfl
  simp only [Zh_L1]
  rw [if_pos (by simp; omega),if_pos (by omega),if_pos (by simp only [Bool.or_eq_true,decide_eq_true_eq]; omega)]
theorem z8 {n:Node}{b:List (List Int)}(i:b.length≤4096){kd:kindOfR}{u:aN}{e:Bool}(hk:Z01 n.Op=some kd)(l:Nat.beq kd.t 0=false)(q:gC kd=some u)(j:Z24 n u=some e) :
  Zh n b=if e=true∧n.Args.length≤6 then (if oS n b.length then bT kd n (n.Args.map fun a=>ix b a) else some ([],false)) else some ([],false):=by
 unfold Zh
 rw [hk]
 simp only [Option.bind_some,l,bP,Bool.not_false,cond_true,q,j,Bool.false_or]
 by_cases c:e=true∧n.Args.length≤6
 ·obtain ⟨rfl,h⟩:=c
  rw [if_neg (by simp; omega),if_pos ⟨rfl,h⟩,z7 i h]
  by_cases w:oS n b.length
  ·rw [if_pos w,if_pos w]
   simp only [Option.bind_some,Zh_J1]
   cases bT kd n (n.Args.map fun a=>ix b a)<;>rfl
  ·rw [if_neg w,if_neg w]
   rfl
 ·rw [if_neg c,if_pos]
  cases e
  ·rfl
  ·have:¬ n.Args.length≤6:=fun z=>c ⟨rfl,z⟩
   simp; omega
def FM (n:Node)(lo a:Int)(b:Bool)(ui uj:Int):Prop:=lo≤(n.Args.length:Int)∧(n.Args.length:Int)≤a∧(b=true∨n.Dims=[])∧(n.Op=11∨n.Form=[])∧(n.Op=2∨n.Data=[])∧ui≤(n.Ints.length:Int)∧(n.Ints.length:Int)≤uj
instance (n:Node)(lo hi:Int)(ud:Bool)(ui uj:Int):Decidable (FM n lo hi ud ui uj):=by unfold FM; infer_instance
theorem gY {n:Node}{lo b ui uj:Int}{a:Bool}(h1:1≤n.Op)(h2:n.Op≤19)(r:Z3a n.Op=some (lo,b))(s:Z3k n.Op=some a)(e:Z1k n.Op=some ui)(h:uj=if n.Op=16∨n.Op=17 then ui+4096 else ui)(u:0≤ui∧ui≤100) :
  Z1f n=some (decide (FM n lo b a ui uj)):=by
 unfold Z1f
 rw [if_neg (by simp; omega),r]
 simp only [Option.bind_some]
 by_cases c1:lo≤(n.Args.length:Int)∧(n.Args.length:Int)≤b
 ·rw [if_neg (by simp; omega),s]
  simp only [Option.bind_some]
  by_cases c2:(a=true∨n.Dims=[])∧(n.Op=11∨n.Form=[])∧(n.Op=2∨n.Data=[])
  ·obtain ⟨d1,d2,d3⟩:=c2
   have i:((!a)&&decide ((n.Dims.length:Int)>0))=false:=by
    rcases d1 with d | d<;>simp [d]
   have j:((n.Op != 11)&&(!(n.Form==([]:aN))))=false:=by
    rcases d2 with d | d<;>simp [d]
   have l:((n.Op != 2)&&decide ((n.Data.length:Int)>0))=false:=by
    rcases d3 with d | d<;>simp [d]
   rw [i,j,l,if_neg (by simp),e]
   simp only [Option.bind_some]
   by_cases c3:n.Op=16∨n.Op=17
   ·rw [if_pos (by simpa using c3),aX (by omega) (by omega)]
    rw [if_pos c3] at h
    congr 1
    rw [Bool.eq_iff_iff]
    simp only [Bool.and_eq_true,decide_eq_true_eq]
    unfold FM
    exact ⟨fun q=>⟨c1.1,c1.2,d1,d2,d3,q.1,by omega⟩,fun q=>⟨q.2.2.2.2.2.1,by have:=q.2.2.2.2.2.2; omega⟩⟩
   ·rw [if_neg (by simpa using c3)]
    rw [if_neg c3] at h
    congr 1
    rw [Bool.eq_iff_iff]
    simp only [beq_iff_eq,decide_eq_true_eq]
    unfold FM
    exact ⟨fun q=>⟨c1.1,c1.2,d1,d2,d3,by omega,by omega⟩,fun q=>by have:=q.2.2.2.2.2.1; have:=q.2.2.2.2.2.2; omega⟩
  ·have no:¬ FM n lo b a ui uj:=fun q=>c2 ⟨q.2.2.1,q.2.2.2.1,q.2.2.2.2.1⟩
   rw [decide_eq_false no,if_pos]
   refine Classical.byContradiction fun z=>c2 ?_
   simp only [Bool.or_eq_true,Bool.and_eq_true,Bool.not_eq_true',decide_eq_true_eq,bne_iff_ne,beq_eq_false_iff_ne,not_or,not_and] at z
   refine ⟨?_,?_,?_⟩
   ·cases a
    ·refine .inr (List.eq_nil_of_length_eq_zero ?_); have:=z.1.1 rfl; omega
    ·exact .inl rfl
   ·by_cases q:n.Op=11
    ·exact .inl q
    ·exact .inr (Classical.not_not.1 (z.1.2 q))
   ·by_cases q:n.Op=2
    ·exact .inl q
    ·refine .inr (List.eq_nil_of_length_eq_zero ?_); have:=z.2 q; omega
 ·have no:¬ FM n lo b a ui uj:=fun q=>c1 ⟨q.1,q.2.1⟩
  rw [decide_eq_false no,if_pos (by simp only [Bool.or_eq_true,decide_eq_true_eq]; omega)]
noncomputable def Do (n:Node)(out:List Tensor):Option Tensor:=if n.Op=1 then Z0x n.Dims 0 else Z2 n (n.Args.map fun a=>ix out a)
def pU (n:Node)(out:List Tensor)(o:Option (List Int×Bool)):Prop :=
 (∃ t,o=some (t.Dims,true)∧Z1f n=some true∧oS n out.length∧Do n out=some t∧TT t) ∨
 (∃ ds,o=some (ds,false)∧(Z1f n=some false∨Z1f n=some true∧(oS n out.length→Do n out=some ⟨[],[]⟩)))
structure Caps (n:Node)(out:List Tensor):Prop where
 a:n.Args.length<cS
 d:n.Dims.length<cS
 i:n.Ints.length<cS
 x:n.Data.length<cS
 f:n.Form.length≤1048576
 o:out.length≤200
 t:∀ t∈out,TT t
theorem md {out:List Tensor}{a:Int}(b:0≤a)(h1:a<(out.length:Int)):ix (out.map Tensor.Dims) a=(ix out a).Dims∧ix out a∈out:=by
 obtain ⟨k,rfl⟩:=Int.eq_ofNat_of_zero_le b
 have hk:k<out.length:=by omega
 rw [cC (by simpa using hk),cC hk]
 exact ⟨by simp,List.getElem_mem hk⟩
theorem ny {n:Node}{out:List Tensor}(s:Caps n out){kd:kindOfR}{u:aN}{e fb:Bool}(hk:Z01 n.Op=some kd)(E:Nat.beq kd.t 0=false)(F:gC kd=some u)(D:Z24 n u=some e)(b:Z1f n=some fb)
  (h1:fb=true→e=true∧n.Args.length≤6)
  (h2:e=true→oS n out.length→fb=false→∃ ds,bT kd n ((n.Args.map fun a=>ix out a).map Tensor.Dims)=some (ds,false))
  (r:fb=true→oS n out.length→∃ t,(bT kd n ((n.Args.map fun a=>ix out a).map Tensor.Dims)=some (t.Dims,true)∧Do n out=some t∧TT t)∨∃ ds,bT kd n ((n.Args.map fun a=>ix out a).map Tensor.Dims)=some (ds,false)∧Do n out=some ⟨[],[]⟩) :
  pU n out (Zh n (out.map Tensor.Dims)):=by
 have J:=s.o
 rw [z8 (by simp; omega) hk E F D]
 have j:oS n out.length→(n.Args.map fun a=>ix (out.map Tensor.Dims) a)=(n.Args.map fun a=>ix out a).map Tensor.Dims:=by
  intro w
  rw [List.map_map]
  exact List.map_congr_left fun a l=>(md (w a l).1 (w a l).2).1
 have B:(out.map Tensor.Dims).length=out.length:=by simp
 rw [B]
 cases fb with
 | true =>
  obtain ⟨p1,G⟩:=h1 rfl
  rw [if_pos ⟨p1,G⟩]
  by_cases w:oS n out.length
  ·rw [if_pos w,j w]
   obtain ⟨t,q⟩:=r rfl w
   rcases q with ⟨h,i,I⟩|⟨ds,h,i⟩
   ·exact .inl ⟨t,h,b,w,i,I⟩
   ·exact .inr ⟨ds,h,.inr ⟨b,fun _=>i⟩⟩
  ·rw [if_neg w]
   exact .inr ⟨[],rfl,.inr ⟨b,fun z=>absurd z w⟩⟩
 | false =>
  by_cases c:e=true∧n.Args.length≤6
  ·rw [if_pos c]
   by_cases w:oS n out.length
   ·rw [if_pos w,j w]
    obtain ⟨ds,q⟩:=h2 c.1 w rfl
    exact .inr ⟨ds,q,.inl b⟩
   ·rw [if_neg w]
    exact .inr ⟨[],rfl,.inl b⟩
  ·rw [if_neg c]
   exact .inr ⟨[],rfl,.inl b⟩
theorem sh2 (b i j s n args):bT ⟨2,b,i,j,s⟩ n args=Z2d ⟨i⟩ n args:=rfl
theorem me {n:Node}{b:Bool}{args:List (List Int)}(h:n.Dims.length<cS)(i:n.Data.length<cS):Z1t ⟨b⟩ n args=some (if args=[]∧eL n.Dims∧(b=true→TOk n.Dims n.Data) then (n.Dims,true) else ([],false)):=by
 unfold Z1t
 by_cases c1:args=[]
 ·subst c1
  have a:(((([]:List (List Int)).length:Int)) != 0)=false:=rfl
  simp only [a,bP,Bool.not_false,cond_true,Bool.false_or]
  rw [hY h]
  simp only [Option.bind_some]
  by_cases c2:eL n.Dims
  ·simp only [decide_eq_true c2,Bool.not_true,Bool.not_false,Bool.true_and,Bool.false_or]
   cases b with
   | false=>simp [c2]
   | true =>
    rw [cond_true,yC (t:=⟨n.Dims,n.Data⟩) h i]
    by_cases c3:TOk n.Dims n.Data
    ·simp [c2,c3]
    ·simp [c2,c3]
  ·simp [decide_eq_false c2,c2]
 ·have a:((args.length:Int) != 0)=true:=by
   have:args.length≠0:=fun e=>c1 (List.eq_nil_of_length_eq_zero e)
   simp; omega
  simp only [a,bP,Bool.not_true,Bool.not_false,cond_false,Bool.true_or,Option.bind_some,Bool.false_and]
  simp [c1]
theorem lK {α:Type}(xs:List α):((xs.length:Int)=0)↔xs=[]:=by
 exact ⟨fun h=>List.eq_nil_of_length_eq_zero (by omega),fun h=>by simp [h]⟩
theorem uG {n:Node}{out:List Tensor}(b:Caps n out)(a:n.Op=1):pU n out (Zh n (out.map Tensor.Dims)):=by
 refine ny b (kd:=⟨1,false,0,0,[]⟩) (u:=hU) (fb:=decide (FM n 0 0 true 0 0)) (by rw [a]; rfl) rfl rfl (lH n hU true false false false qR qT qU qV) (gY (by omega) (by omega) (by rw [a]; rfl) (by rw [a]; rfl) (by rw [a]; rfl) (by rw [a]; rfl) ⟨by omega,by omega⟩) ?_ ?_ ?_
 ·intro h
  obtain ⟨f1,B,D,j,l,E,F⟩:=of_decide_eq_true h
  have G:n.Form=[]:=j.resolve_left (by omega)
  have I:n.Data=[]:=l.resolve_left (by omega)
  have J:n.Ints=[]:=List.eq_nil_of_length_eq_zero (by omega)
  exact ⟨by rw [G,I,J]; rfl,by omega⟩
 ·intro i hw h
  show ∃ ds,Z1t ⟨false⟩ n _=_
  rw [me b.d b.x]
  have:n.Args≠[]:=by
   intro e
   refine of_decide_eq_false h ?_
   simp only [Bool.true_or,Bool.false_or,Bool.true_and,Bool.and_eq_true,lK,beq_iff_eq] at i
   refine ⟨by rw [e]; decide,by rw [e]; decide,.inl rfl,.inr i.1.2,.inr i.2,by omega,by rw [i.1.1]; decide⟩
  rw [if_neg (by simp [this])]
  exact ⟨_,rfl⟩
 ·intro h hw
  obtain ⟨f1,B,D,j,l,E,F⟩:=of_decide_eq_true h
  have L:n.Args=[]:=List.eq_nil_of_length_eq_zero (by omega)
  obtain ⟨r,s⟩:=yP b.d
  by_cases c:eL n.Dims
  ·obtain ⟨d,d1,d2⟩:=r c
   refine ⟨⟨n.Dims,d⟩,.inl ⟨?_,by unfold Do; rw [if_pos a]; exact d1,d2⟩⟩
   show Z1t ⟨false⟩ n _=_
   rw [me b.d b.x,if_pos ⟨by simp [L],c,by simp⟩]
  ·refine ⟨⟨[],[]⟩,.inr ⟨[],?_,by unfold Do; rw [if_pos a]; exact s c⟩⟩
   show Z1t ⟨false⟩ n _=_
   rw [me b.d b.x,if_neg (fun q=>c q.2.1)]
theorem uH {n:Node}{out:List Tensor}(b:Caps n out)(a:n.Op=2):pU n out (Zh n (out.map Tensor.Dims)):=by
 refine ny b (kd:=⟨1,true,0,0,[]⟩) (u:=pE) (fb:=decide (FM n 0 0 true 0 0)) (by rw [a]; rfl) rfl rfl (lH n pE true false false true yU yV yW yX) (gY (by omega) (by omega) (by rw [a]; rfl) (by rw [a]; rfl) (by rw [a]; rfl) (by rw [a]; rfl) ⟨by omega,by omega⟩) ?_ ?_ ?_
 ·intro i
  obtain ⟨f1,s,B,r,D,E,F⟩:=of_decide_eq_true i
  have G:n.Form=[]:=r.resolve_left (by omega)
  have I:n.Ints=[]:=List.eq_nil_of_length_eq_zero (by omega)
  exact ⟨by rw [G,I]; rfl,by omega⟩
 ·intro j hw i
  show ∃ ds,Z1t ⟨true⟩ n _=_
  rw [me b.d b.x]
  have:n.Args≠[]:=by
   intro e
   refine of_decide_eq_false i ?_
   simp only [Bool.true_or,Bool.false_or,Bool.true_and,Bool.and_true,Bool.and_eq_true,lK,beq_iff_eq] at j
   refine ⟨by rw [e]; decide,by rw [e]; decide,.inl rfl,.inr j.2,.inl a,by omega,by rw [j.1]; decide⟩
  rw [if_neg (by simp [this])]
  exact ⟨_,rfl⟩
 ·intro i hw
  obtain ⟨f1,s,B,r,D,E,F⟩:=of_decide_eq_true i
  have J:n.Args=[]:=List.eq_nil_of_length_eq_zero (by omega)
  have h:Do n out=if TOk n.Dims n.Data then some ⟨n.Dims,n.Data⟩ else some ⟨[],[]⟩:=by
   unfold Do Z2
   rw [if_neg (by omega),if_pos (by simp [a]),uk (t:=⟨n.Dims,n.Data⟩) b.d b.x]
   simp only [Option.bind_some]
   by_cases c:TOk n.Dims n.Data
   ·have h1:=c.l
    have h2:=c.d.1
    have L:=c.d.2.2
    rw [decide_eq_true c,if_pos c,if_neg (by simp),iN (by omega),iN (by omega)]
    rfl
   ·rw [decide_eq_false c,if_neg c,if_pos (by simp)]
  by_cases c:TOk n.Dims n.Data
  ·rw [if_pos c] at h
   refine ⟨⟨n.Dims,n.Data⟩,.inl ⟨?_,h,c⟩⟩
   show Z1t ⟨true⟩ n _=_
   rw [me b.d b.x,if_pos ⟨by simp [J],c.d,fun _=>c⟩]
  ·rw [if_neg c] at h
   refine ⟨⟨[],[]⟩,.inr ⟨[],?_,h⟩⟩
   show Z1t ⟨true⟩ n _=_
   rw [me b.d b.x,if_neg (fun q=>c (q.2.2 rfl))]
theorem uI {i:Int}{n:Node}{args:List (List Int)}(b:∀ a∈args,a.length<cS):Z2d ⟨i⟩ n args=some (if args.length=2∧ix args 0=ix args 1 then (ix args 0,true) else ([],false)):=by
 unfold Z2d
 by_cases c:args.length=2
 ·have e:((args.length:Int) != 2)=false:=by simp [c]
  rw [e,if_pos (fun _=>by omega),if_pos (fun _=>by omega)]
  simp only [bP,Bool.not_false,cond_true,Bool.false_or]
  have h:ix args (0:Int)∈args:=bI (k:=0) (by omega)
  rw [wc (b _ h)]
  simp only [Option.bind_some]
  by_cases q:ix args 0=ix args 1
  ·rw [decide_eq_true q,if_neg (by simp),if_pos (by omega),if_pos ⟨c,q⟩]
  ·rw [decide_eq_false q,if_pos (by simp),if_neg (fun z=>q z.2)]
 ·have e:((args.length:Int) != 2)=true:=by simp; omega
  rw [e,if_pos (fun z=>by cases z),if_pos (fun z=>by cases z)]
  simp only [bP,Bool.not_true,cond_false,Option.bind_some,Bool.true_or,if_true]
  rw [if_neg (fun z=>c z.1)]
theorem kx {n:Node}{out:List Tensor}(e:Caps n out)(hw:oS n out.length):∀ t∈(n.Args.map fun a=>ix out a),TT t:=by
 intro t h
 obtain ⟨a,b,rfl⟩:=List.mem_map.1 h
 exact e.t _ (md (hw a b).1 (hw a b).2).2
theorem wu {n:Node}{out:List Tensor}(F:Caps n out)(h3:3≤n.Op)(h5:n.Op≤5):pU n out (Zh n (out.map Tensor.Dims)):=by
 have i:n.Op=3∨n.Op=4∨n.Op=5:=by omega
 refine ny F (kd:=⟨2,false,n.Op - 2,0,[]⟩) (u:=[]) (fb:=decide (FM n 2 2 false 0 0)) (by rcases i with h | h | h<;>rw [h]<;>rfl) rfl rfl (lH n [] false false false false uC uD uE uF) (gY (by omega) (by omega) (by rcases i with h | h | h<;>rw [h]<;>rfl) (by rcases i with h | h | h<;>rw [h]<;>rfl) (by rcases i with h | h | h<;>rw [h]<;>rfl) (by rw [if_neg (by omega)]) ⟨by omega,by omega⟩) ?_ ?_ ?_
 ·intro l
  obtain ⟨f1,T,J,L,M,U,Y⟩:=of_decide_eq_true l
  have Z:n.Dims=[]:=J.resolve_left (by simp)
  have g4:n.Form=[]:=L.resolve_left (by omega)
  have g5:n.Data=[]:=M.resolve_left (by omega)
  have g6:n.Ints=[]:=List.eq_nil_of_length_eq_zero (by omega)
  exact ⟨by rw [Z,g4,g5,g6]; rfl,by omega⟩
 ·intro r hw l
  show ∃ ds,Z2d ⟨n.Op - 2⟩ n _=_
  have j:=kx F hw
  rw [uI (fun a E=>by
   obtain ⟨t,s,rfl⟩:=List.mem_map.1 E
   have:=l5 (j t s); unfold cS; omega)]
  have:n.Args.length≠2:=by
   intro e
   refine of_decide_eq_false l ?_
   simp only [Bool.false_or,Bool.and_eq_true,lK,beq_iff_eq] at r
   refine ⟨by omega,by omega,.inr r.1.1.1,.inr r.1.2,.inr r.2,by omega,by rw [r.1.1.2]; decide⟩
  rw [if_neg (by simp [this])]
  exact ⟨_,rfl⟩
 ·intro l hw
  obtain ⟨f1,T,J,L,M,U,Y⟩:=of_decide_eq_true l
  have j:=kx F hw
  obtain ⟨A,D⟩:∃ A,A=n.Args.map fun a=>ix out a:=⟨_,rfl⟩
  have hl:A.length=2:=by rw [D]; simp; omega
  rw [← D] at j ⊢
  obtain ⟨t,u,rfl⟩:∃ t u,A=[t,u]:=by
   match A,hl with
   | [t,u],_=>exact ⟨t,u,rfl⟩
  have s:TT t:=j t (by simp)
  have O:TT u:=j u (by simp)
  have hk:bT ⟨2,false,n.Op - 2,0,[]⟩ n ([t,u].map Tensor.Dims)=some (if t.Dims=u.Dims then (t.Dims,true) else ([],false)):=by
   rw [sh2,uI (fun a E=>by
    have:a=t.Dims∨a=u.Dims:=by simpa using E
    have:=l5 s; have:=l5 O
    unfold cS
    rcases ‹a=t.Dims∨a=u.Dims› with rfl | rfl<;>omega)]
   by_cases q:t.Dims=u.Dims
   ·rw [if_pos q,if_pos ⟨rfl,q⟩]; rfl
   ·rw [if_neg q,if_neg (fun z=>q z.2)]
  have b:Do n out=(Z06 t.Dims u.Dims).bind fun G=>if (!G)=true then some ⟨[],[]⟩ else (Z1a (aI (aI (n.Op - 3)+1)) t u).bind fun I=>some I:=by
   unfold Do Z2
   rw [if_neg (by omega),← D,if_neg (by simp; omega)]
   rcases i with h | h | h
   ·rw [if_pos (by simp [h])]; simp only [Z2_J1,h]; rfl
   ·rw [if_neg (by simp [h]),if_pos (by simp [h])]; simp only [Z2_J1,h]; rfl
   ·rw [if_neg (by simp [h]),if_neg (by simp [h])]; simp only [Z2_J1,h]; rfl
  rw [ul (by have:=l5 s; unfold cS; omega)] at b
  simp only [Option.bind_some] at b
  by_cases q:t.Dims=u.Dims
  ·rw [decide_eq_true q,if_neg (by simp)] at b
   have B:aI (aI (n.Op - 3)+1)=n.Op - 2:=by rw [aX (n:=n.Op - 3) (by omega) (by omega),aX (by omega) (by omega)]; omega
   rw [B] at b
   obtain ⟨d,d1,d2⟩:=BQ (op:=n.Op - 2) s O q (by omega) (by omega)
   rw [d1] at b
   exact ⟨⟨t.Dims,d⟩,.inl ⟨by rw [hk,if_pos q],b,d2⟩⟩
  ·rw [decide_eq_false q,if_pos (by simp)] at b
   exact ⟨⟨[],[]⟩,.inr ⟨[],by rw [hk,if_neg q],b⟩⟩
theorem iH {n:Node}{out:List Tensor}(E:Caps n out){kd:kindOfR}{u:aN}{D h:Bool}{ui uj:Int}(hk:Z01 n.Op=some kd)(ht:Nat.beq kd.t 0=false)(hu:gC kd=some u)
  (h1:Z7 hU u=some D) (h2:Z7 fI u=some h) (h3:Z7 kL u=some false) (h4:Z7 pF u=some false)
  (b:Z1f n=some (decide (FM n 1 1 D ui uj))) (i:n.Op≠1∧n.Op≠2∧n.Op≠11) (M:h=false→ui=0∧uj=0)
  (sa:∀ args:List (List Int),args.length≠1→bT kd n args=some ([],false))
  (si:∀ t:Tensor,TT t→¬ (ui≤(n.Ints.length:Int)∧(n.Ints.length:Int)≤uj)→h=true→∃ ds,bT kd n [t.Dims]=some (ds,false))
  (s:FM n 1 1 D ui uj→∀ t:Tensor,TT t→(∃ B,bT kd n [t.Dims]=some (B.Dims,true)∧Z2 n [t]=some B∧TT B)∨∃ ds,bT kd n [t.Dims]=some (ds,false)∧Z2 n [t]=some ⟨[],[]⟩) :
  pU n out (Zh n (out.map Tensor.Dims)):=by
 refine ny E hk ht hu (lH n u D h false false h1 h2 h3 h4) b ?_ ?_ ?_
 ·intro b
  obtain ⟨f1,O,I,J,L,T,U⟩:=of_decide_eq_true b
  have Z:n.Form=[]:=J.resolve_left i.2.2
  have g5:n.Data=[]:=L.resolve_left i.2.1
  refine ⟨?_,by omega⟩
  have g6:(h||((n.Ints.length:Int)==0))=true:=by
   cases h
   ·obtain ⟨rfl,rfl⟩:=M rfl
    have:n.Ints=[]:=List.eq_nil_of_length_eq_zero (by omega)
    rw [this]; rfl
   ·rfl
  have Y:(D||((n.Dims.length:Int)==0))=true:=by
   rcases I with q | q
   ·rw [q]; rfl
   ·rw [q]; simp
  rw [Y,g6,Z,g5]; rfl
 ·intro r hw b
  have l:=kx E hw
  by_cases e:n.Args.length=1
  ·obtain ⟨A,j⟩:∃ A,A=n.Args.map fun a=>ix out a:=⟨_,rfl⟩
   have G:A.length=1:=by rw [j]; simp [e]
   rw [← j] at l ⊢
   obtain ⟨t,rfl⟩:∃ t,A=[t]:=by
    match A,G with
    | [t],_=>exact ⟨t,rfl⟩
   simp only [Bool.false_or,Bool.and_eq_true,Bool.or_eq_true,lK,beq_iff_eq] at r
   have no:¬ (ui≤(n.Ints.length:Int)∧(n.Ints.length:Int)≤uj):=by
    intro z
    exact of_decide_eq_false b ⟨by omega,by omega,r.1.1.1,.inr r.1.2,.inr r.2,z.1,z.2⟩
   cases h with
   | true=>exact si t (l t (by simp)) no rfl
   | false =>
    obtain ⟨rfl,rfl⟩:=M rfl
    have:n.Ints=[]:=by simpa using r.1.1.2
    exact absurd ⟨by omega,by rw [this]; decide⟩ no
  ·exact ⟨_,sa _ (by simpa using e)⟩
 ·intro b hw
  have hF:=of_decide_eq_true b
  obtain ⟨f1,O,I,J,L,T,U⟩:=hF
  have l:=kx E hw
  obtain ⟨A,j⟩:∃ A,A=n.Args.map fun a=>ix out a:=⟨_,rfl⟩
  have G:A.length=1:=by rw [j]; simp; omega
  have F:Do n out=Z2 n A:=by unfold Do; rw [if_neg i.1,j]
  rw [F]
  rw [← j] at l ⊢
  obtain ⟨t,rfl⟩:∃ t,A=[t]:=by
   match A,G with
   | [t],_=>exact ⟨t,rfl⟩
  rcases s (of_decide_eq_true b) t (l t (by simp)) with ⟨B,q⟩ | q
  ·exact ⟨B,.inl q⟩
  ·exact ⟨⟨[],[]⟩,.inr q⟩
theorem E7 (b i j s n args):bT ⟨3,b,i,j,s⟩ n args=Z35 ⟨i⟩ n args:=rfl
theorem DB (b i j s n args):bT ⟨4,b,i,j,s⟩ n args=Z25 ⟨⟩ n args:=rfl
theorem xE (b i j s n args):bT ⟨6,b,i,j,s⟩ n args=Z21 ⟨s⟩ n args:=rfl
theorem E8 (b i j s n args):bT ⟨7,b,i,j,s⟩ n args=Z2e ⟨s⟩ n args:=rfl
theorem DC (b i j s n args):bT ⟨8,b,i,j,s⟩ n args=Z1x ⟨s⟩ i j n args:=rfl
theorem DD (b i j s n args):bT ⟨9,b,i,j,s⟩ n args=Z1y ⟨s⟩ i j n args:=rfl
theorem za (b i j s n args):bT ⟨10,b,i,j,s⟩ n args=Z1z ⟨s⟩ i j n args:=rfl
theorem zb (b i j s n args):bT ⟨11,b,i,j,s⟩ n args=Z20 ⟨s⟩ i j n args:=rfl
theorem zd (n:Node)(t:Tensor)(h:6≤n.Op∧n.Op≤9):Z2 n [t]=(Z19 (aI (aI (n.Op - 6)+1)) t).bind fun r=>some r:=by
 have a:n.Op=6∨n.Op=7∨n.Op=8∨n.Op=9:=by omega
 unfold Z2
 rcases a with h | h | h | h<;>simp only [Z2_J1,Z2_J2,h]<;>rfl
theorem wv {n:Node}{out:List Tensor}(i:Caps n out)(h:6≤n.Op∧n.Op≤9):pU n out (Zh n (out.map Tensor.Dims)):=by
 have a:n.Op=6∨n.Op=7∨n.Op=8∨n.Op=9:=by omega
 refine iH i (kd:=⟨3,false,n.Op - 5,0,[]⟩) (u:=[]) (ui:=0) (uj:=0) (by rcases a with h | h | h | h<;>rw [h]<;>rfl) rfl rfl uC uD uE uF (gY (by omega) (by omega) (by rcases a with h | h | h | h<;>rw [h]<;>rfl) (by rcases a with h | h | h | h<;>rw [h]<;>rfl) (by rcases a with h | h | h | h<;>rw [h]<;>rfl) (by rw [if_neg (by omega)]) ⟨by omega,by omega⟩) ⟨by omega,by omega,by omega⟩ (fun _=>⟨rfl,rfl⟩) ?_ ?_ ?_
 ·intro args l
  rw [E7]; unfold Z35
  rw [if_pos (by simp; omega)]
 ·intro _ _ _ e; cases e
 ·intro _ t j
  have b:aI (aI (n.Op - 6)+1)=n.Op - 5:=by rw [aX (n:=n.Op - 6) (by omega) (by omega),aX (by omega) (by omega)]; omega
  obtain ⟨d,d1,d2⟩:=BP (op:=n.Op - 5) j (by omega) (by omega)
  exact .inl ⟨⟨t.Dims,d⟩,by rw [E7]; rfl,by rw [zd n t h,b,d1]; rfl,d2⟩
theorem ze {n:Node}{out:List Tensor}(F:Caps n out)(h:n.Op=10):pU n out (Zh n (out.map Tensor.Dims)):=by
 have b:∀ args:List (List Int),args.length≠1∨n.Ints.length≠1→Z25 ⟨⟩ n args=some ([],false):=by
  intro args i
  unfold Z25
  have e:(((args.length:Int) != 1)||((n.Ints.length:Int) != 1))=true:=by
   rcases i with q | q
   ·have:((args.length:Int) != 1)=true:=by simp; omega
    rw [this]; rfl
   ·have:((n.Ints.length:Int) != 1)=true:=by simp; omega
    rw [this]; simp
  rw [e,if_pos (fun z=>by cases z),if_pos (fun z=>by cases z)]
  simp [bP]
 refine iH F (kd:=⟨4,false,0,0,[]⟩) (u:=fI) (ui:=1) (uj:=1) (by rw [h]; rfl) rfl rfl l6 l7 l8 l9 (gY (by omega) (by omega) (by rw [h]; rfl) (by rw [h]; rfl) (by rw [h]; rfl) (by rw [if_neg (by omega)]) ⟨by omega,by omega⟩) ⟨by omega,by omega,by omega⟩ (fun E=>by cases E) ?_ ?_ ?_
 ·intro args i
  rw [DB]; exact b args (.inl i)
 ·intro t _ Y _
  rw [DB]; exact ⟨_,b _ (.inr (by omega))⟩
 ·intro D t I
  obtain ⟨f1,J,L,M,O,T,U⟩:=D
  have G:n.Ints.length=1:=by omega
  have j:Z2 n [t]=(Zd t (ix n.Ints 0)).bind fun r=>some r:=by
   unfold Z2
   simp only [Z2_J1,Z2_J2,h]
   simp only [Int.reduceBEq,Bool.false_eq_true,if_false,if_true,beq_self_eq_true]
   rw [if_pos (by simp),if_pos (by omega)]
   rfl
  have hk:Z25 ⟨⟩ n [t.Dims]=some (if 0≤ix n.Ints 0∧ix n.Ints 0<(t.Dims.length:Int) then (t.Dims,true) else ([],false)):=by
   unfold Z25
   have e:((([t.Dims].length:Int) != 1)||((n.Ints.length:Int) != 1))=false:=by simp [G]
   rw [e,if_pos (fun _=>by simp),if_pos (fun _=>by omega)]
   simp only [bP,Bool.not_false,cond_true,Zp,Option.bind_some,Bool.false_or]
   have B:ix [t.Dims] (0:Int)=t.Dims:=rfl
   rw [B]
   by_cases c:0≤ix n.Ints 0∧ix n.Ints 0<(t.Dims.length:Int)
   ·rw [if_pos c,if_neg (by simp; omega)]; simp
   ·rw [if_neg c,if_pos (by simp; omega)]
  rw [DB,hk,j]
  obtain ⟨l,s⟩:=BT (a:=ix n.Ints 0) I
  by_cases c:0≤ix n.Ints 0∧ix n.Ints 0<(t.Dims.length:Int)
  ·obtain ⟨d,d1,d2⟩:=l c
   exact .inl ⟨⟨t.Dims,d⟩,by rw [if_pos c],by rw [d1]; rfl,d2⟩
  ·exact .inr ⟨[],by rw [if_neg c],by rw [s c]; rfl⟩
theorem oU {n:Node}{s:aN}{ds:List Int}{v:View}(h:Z1l n ds=some v)(e:VG v.Dims v.Strides v.Offset v.Base):Z21 ⟨s⟩ n [ds]=some (v.Dims,true):=by
 obtain ⟨ps,a⟩:=wj e
 unfold Z21
 rw [if_neg (by simp),if_pos (by simp)]
 have b:ix [ds] (0:Int)=ds:=rfl
 unfold Z33
 rw [b,h]
 simp only [Option.bind_some,a]
theorem mf {n:Node}{s:aN}{ds:List Int}(h:Z1l n ds=some eI):Z21 ⟨s⟩ n [ds]=some ([],false):=by
 unfold Z21
 rw [if_neg (by simp),if_pos (by simp)]
 have a:ix [ds] (0:Int)=ds:=rfl
 unfold Z33
 rw [a,h]
 simp only [Option.bind_some,Z2r]
 rw [show Zk eI=some false from wg]
 rfl
theorem nz {n:Node}{s:aN}{args:List (List Int)}(h:args.length≠1):Z21 ⟨s⟩ n args=some ([],false):=by
 unfold Z21
 rw [if_pos (by simp; omega)]
theorem sY {n:Node}{out:List Tensor}(i:Caps n out)(h:n.Op=12):pU n out (Zh n (out.map Tensor.Dims)):=by
 refine iH i (kd:=⟨6,false,0,0,hU⟩) (u:=hU) (ui:=0) (uj:=0) (by rw [h]; rfl) rfl rfl qR qT qU qV (gY (by omega) (by omega) (by rw [h]; rfl) (by rw [h]; rfl) (by rw [h]; rfl) (by rw [if_neg (by omega)]) ⟨by omega,by omega⟩) ⟨by omega,by omega,by omega⟩ (fun _=>⟨rfl,rfl⟩) ?_ ?_ ?_
 ·intro args B; rw [xE]; exact nz B
 ·intro _ _ _ D; cases D
 ·intro _ t b
  have a:Z2 n [t]=(Z00 t.Dims).bind fun j=>(Z03 j n.Dims).bind fun l=>(Z09 t l).bind fun q=>some q:=by
   unfold Z2
   simp only [Z2_J1,Z2_J2,h]
   simp only [Int.reduceBEq,Bool.false_eq_true,if_false,if_true,beq_self_eq_true]
   rw [if_pos (by simp)]
   rfl
  rw [kG b.d] at a
  simp only [Option.bind_some] at a
  rw [uu b.d i.d] at a
  simp only [Option.bind_some] at a
  have e:Z1l n t.Dims=(Z2p (whole t.Dims) n.Dims).bind fun r=>some r:=by
   unfold Z1l
   rw [lD b.d]
   simp only [Option.bind_some]
   rw [if_pos (by simp [h])]
  rw [uv b.d i.d] at e
  simp only [Option.bind_some] at e
  rw [xE]
  by_cases c:eL n.Dims∧t.Dims.length≤n.Dims.length∧mA t.Dims (n.Dims.drop (n.Dims.length - t.Dims.length))=true
  ·rw [if_pos c] at a e
   have s:VG n.Dims (kf t.Dims n.Dims) 0 (pr t.Dims):=o9 b.d c.1 c.2.1
   obtain ⟨d,d1,d2⟩:=oP (v:=⟨n.Dims,kf t.Dims n.Dims,0,pr t.Dims⟩) b s rfl
   rw [d1] at a
   exact .inl ⟨⟨n.Dims,d⟩,oU e s,a,d2⟩
  ·rw [if_neg c] at a e
   rw [mS b] at a
   exact .inr ⟨[],mf e,a⟩
theorem qW {n:Node}{out:List Tensor}(e:Caps n out)(h:n.Op=13):pU n out (Zh n (out.map Tensor.Dims)):=by
 refine iH e (kd:=⟨7,false,0,0,hU⟩) (u:=hU) (ui:=0) (uj:=0) (by rw [h]; rfl) rfl rfl qR qT qU qV (gY (by omega) (by omega) (by rw [h]; rfl) (by rw [h]; rfl) (by rw [h]; rfl) (by rw [if_neg (by omega)]) ⟨by omega,by omega⟩) ⟨by omega,by omega,by omega⟩ (fun _=>⟨rfl,rfl⟩) ?_ ?_ ?_
 ·intro args B
  rw [E8]; unfold Z2e
  rw [if_pos (by simp; omega)]
 ·intro _ _ _ s; cases s
 ·intro _ t b
  have a:Z2 n [t]=(Z00 t.Dims).bind fun j=>(Z0i j n.Dims).bind fun l=>(Z09 t l).bind fun q=>some q:=by
   unfold Z2
   simp only [Z2_J1,Z2_J2,h]
   simp only [Int.reduceBEq,Bool.false_eq_true,if_false,if_true,beq_self_eq_true]
   rw [if_pos (by simp)]
   rfl
  rw [kG b.d] at a
  simp only [Option.bind_some] at a
  rw [sU b.d e.d] at a
  simp only [Option.bind_some] at a
  obtain ⟨ps,i⟩:=nv (n:=n) b.d e.d
  have hk:Z2e ⟨hU⟩ n [t.Dims]=(Z17 n t.Dims).bind fun r=>some (r.1,r.2.2):=by
   unfold Z2e
   rw [if_neg (by simp),if_pos (by simp)]
   rfl
  rw [E8,hk,i]
  by_cases c:eL n.Dims∧pr n.Dims=pr t.Dims
  ·rw [if_pos c] at a ⊢
   obtain ⟨d,d1,d2⟩:=oP (v:=whole n.Dims) b (jr c.1) c.2
   rw [d1] at a
   exact .inl ⟨⟨n.Dims,d⟩,rfl,a,d2⟩
  ·rw [if_neg c] at a ⊢
   rw [mS b] at a
   exact .inr ⟨[],rfl,a⟩
theorem uJ {n:Node}{out:List Tensor}(G:Caps n out)(h:n.Op=14):pU n out (Zh n (out.map Tensor.Dims)):=by
 refine iH G (kd:=⟨6,false,0,0,fI⟩) (u:=fI) (ui:=4) (uj:=4) (by rw [h]; rfl) rfl rfl l6 l7 l8 l9 (gY (by omega) (by omega) (by rw [h]; rfl) (by rw [h]; rfl) (by rw [h]; rfl) (by rw [if_neg (by omega)]) ⟨by omega,by omega⟩) ⟨by omega,by omega,by omega⟩ (fun F=>by cases F) ?_ ?_ ?_
 ·intro args E; rw [xE]; exact nz E
 ·intro t b Y _
  rw [xE]
  refine ⟨_,mf ?_⟩
  unfold Z1l
  rw [lD b.d]
  simp only [Option.bind_some,h]
  have e:((n.Ints.length:Int)==4)=false:=by simp; omega
  rw [if_neg (by simp),e]
  simp [eI]
 ·intro D t b
  obtain ⟨f1,J,L,M,O,T,U⟩:=D
  have I:n.Ints.length=4:=by omega
  have a:Z2 n [t]=if ix n.Ints 3<1 then some ⟨[],[]⟩ else (Z00 t.Dims).bind fun j=>(Z1j j (ix n.Ints 0) (ix n.Ints 1) (ix n.Ints 2) (ix n.Ints 3)).bind fun l=>(Z09 t l).bind fun s=>some s:=by
   unfold Z2
   simp only [Z2_J1,Z2_J2,h]
   simp only [Int.reduceBEq,Bool.false_eq_true,if_false,if_true,beq_self_eq_true]
   rw [if_pos (by omega)]
   by_cases c:ix n.Ints 3<1
   ·rw [if_pos (by simpa using c),if_pos c]
   ·rw [if_neg (by simpa using c),if_neg c,if_pos (by simp)]
    show (Z00 t.Dims).bind _=_
    rw [kG b.d]
    simp only [Option.bind_some]
    rw [if_pos (by omega),if_pos (by omega),if_pos (by omega)]
    rfl
  have i:Z1l n t.Dims=if 1≤ix n.Ints 3 then (Z2o (whole t.Dims) (ix n.Ints 0) (ix n.Ints 1) (ix n.Ints 2) (ix n.Ints 3)).bind fun r=>some r else some eI:=by
   unfold Z1l
   rw [lD b.d]
   simp only [Option.bind_some,h,I]
   rw [if_neg (by simp),if_pos (by simp)]
   by_cases c:1≤ix n.Ints 3
   ·rw [if_pos (by simp; omega),if_pos (by simp),if_pos (by simp),if_pos (by simp),if_pos (by simp),if_pos c]
   ·rw [if_neg (by simp; omega),if_neg (by simp),if_neg c]; rfl
  rw [xE]
  by_cases c:1≤ix n.Ints 3
  ·rw [if_neg (by omega),kG b.d] at a
   simp only [Option.bind_some] at a
   rw [wm b.d c] at a
   rw [if_pos c,wo b.d c] at i
   simp only [Option.bind_some] at a i
   by_cases q:mB t.Dims (ix n.Ints 0) (ix n.Ints 1) (ix n.Ints 2) (ix n.Ints 3)
   ·rw [if_pos q] at a i
    have B:=oM b.d q
    obtain ⟨d,d1,d2⟩:=oP b B rfl
    rw [d1] at a
    exact .inl ⟨⟨_,d⟩,oU i B,a,d2⟩
   ·rw [if_neg q] at a i
    rw [mS b] at a
    exact .inr ⟨[],mf i,a⟩
  ·rw [if_pos (by omega)] at a
   rw [if_neg c] at i
   exact .inr ⟨[],mf i,a⟩
theorem sZ {n:Node}{out:List Tensor}(G:Caps n out)(h:n.Op=18):pU n out (Zh n (out.map Tensor.Dims)):=by
 refine iH G (kd:=⟨6,false,0,0,fI⟩) (u:=fI) (ui:=3) (uj:=3) (by rw [h]; rfl) rfl rfl l6 l7 l8 l9 (gY (by omega) (by omega) (by rw [h]; rfl) (by rw [h]; rfl) (by rw [h]; rfl) (by rw [if_neg (by omega)]) ⟨by omega,by omega⟩) ⟨by omega,by omega,by omega⟩ (fun F=>by cases F) ?_ ?_ ?_
 ·intro args E; rw [xE]; exact nz E
 ·intro t b Y _
  rw [xE]
  refine ⟨_,mf ?_⟩
  unfold Z1l
  rw [lD b.d]
  simp only [Option.bind_some,h]
  have e:((n.Ints.length:Int)==3)=false:=by simp; omega
  rw [if_neg (by simp),e]
  simp [eI]
 ·intro D t b
  obtain ⟨f1,J,L,M,O,T,U⟩:=D
  have I:n.Ints.length=3:=by omega
  have a:Z2 n [t]=(Z00 t.Dims).bind fun j=>(Z0l j (ix n.Ints 0) (ix n.Ints 1) (ix n.Ints 2)).bind fun l=>(Z09 t l).bind fun s=>some s:=by
   unfold Z2
   simp only [Z2_J1,Z2_J2,h]
   simp only [Int.reduceBEq,Bool.false_eq_true,if_false,if_true,beq_self_eq_true]
   rw [if_pos (by simp)]
   show (Z00 t.Dims).bind _=_
   rw [kG b.d]
   simp only [Option.bind_some]
   rw [if_pos (by omega),if_pos (by omega),if_pos (by omega)]
   rfl
  have i:Z1l n t.Dims=(Z2q (whole t.Dims) (ix n.Ints 0) (ix n.Ints 1) (ix n.Ints 2)).bind fun r=>some r:=by
   unfold Z1l
   rw [lD b.d]
   simp only [Option.bind_some,h,I]
   rw [if_neg (by simp),if_pos (fun z=>by simp at z),if_neg (by simp),if_pos (by simp),if_pos (by simp),if_pos (by simp),if_pos (by simp)]
  rw [xE]
  rw [kG b.d] at a
  simp only [Option.bind_some] at a
  rw [sQ b.d] at a
  rw [sS b.d] at i
  simp only [Option.bind_some] at a i
  by_cases q:mC t.Dims (ix n.Ints 0) (ix n.Ints 1) (ix n.Ints 2)∧eL (gA t.Dims (ix n.Ints 0) (ix n.Ints 1) (ix n.Ints 2)).Dims
  ·rw [if_pos q] at a i
   have B:=qP b.d q.1 q.2
   obtain ⟨d,d1,d2⟩:=oP b B rfl
   rw [d1] at a
   exact .inl ⟨⟨_,d⟩,oU i B,a,d2⟩
  ·rw [if_neg q] at a i
   rw [mS b] at a
   exact .inr ⟨[],mf i,a⟩
theorem uK {s i j}{n:Node}{args:List (List Int)}(h:args.length≠1):Z1x s i j n args=some ([],false):=by
 unfold Z1x
 rw [if_pos (by simp; omega)]
theorem zf {s i j}{n:Node}{ds:List Int}(h:¬ (i≤(n.Ints.length:Int)∧(n.Ints.length:Int)≤j)):Z1x s i j n [ds]=some ([],false):=by
 unfold Z1x
 rw [if_neg (by simp),if_pos (by simp)]
 unfold Z2z
 rw [if_pos (by simp; omega)]
 rfl
theorem ww {s i j}{n:Node}{ds:List Int}(h:i≤(n.Ints.length:Int)∧(n.Ints.length:Int)≤j):Z1x s i j n [ds]=(Z28 n.Ints ds).bind fun r=>some (r.1,r.2.2):=by
 unfold Z1x
 rw [if_neg (by simp),if_pos (by simp)]
 unfold Z2z
 rw [if_neg (by simp; omega)]
 have a:ix [ds] (0:Int)=ds:=rfl
 rw [a]
 cases Z28 n.Ints ds<;>rfl
theorem uL {s i j}{n:Node}{args:List (List Int)}(h:args.length≠1):Z1y s i j n args=some ([],false):=by
 unfold Z1y
 rw [if_pos (by simp; omega)]
theorem zg {s i j}{n:Node}{ds:List Int}(h:¬ (i≤(n.Ints.length:Int)∧(n.Ints.length:Int)≤j)):Z1y s i j n [ds]=some ([],false):=by
 unfold Z1y
 rw [if_neg (by simp),if_pos (by simp)]
 unfold Z30
 rw [if_pos (by simp; omega)]
 rfl
theorem wx {s i j}{n:Node}{ds:List Int}(h:i≤(n.Ints.length:Int)∧(n.Ints.length:Int)≤j):Z1y s i j n [ds]=(Z29 n.Ints ds).bind fun r=>some (r.1,r.2.2):=by
 unfold Z1y
 rw [if_neg (by simp),if_pos (by simp)]
 unfold Z30
 rw [if_neg (by simp; omega)]
 have a:ix [ds] (0:Int)=ds:=rfl
 rw [a]
 cases Z29 n.Ints ds<;>rfl
theorem uM {s i j}{n:Node}{args:List (List Int)}(h:args.length≠1):Z1z s i j n args=some ([],false):=by
 unfold Z1z
 rw [if_pos (by simp; omega)]
theorem zh {s i j}{n:Node}{ds:List Int}(h:¬ (i≤(n.Ints.length:Int)∧(n.Ints.length:Int)≤j)):Z1z s i j n [ds]=some ([],false):=by
 unfold Z1z
 rw [if_neg (by simp),if_pos (by simp)]
 unfold Z31
 rw [if_pos (by simp; omega)]
 rfl
theorem wy {s i j}{n:Node}{ds:List Int}(h:i≤(n.Ints.length:Int)∧(n.Ints.length:Int)≤j):Z1z s i j n [ds]=(Z2a n.Ints ds).bind fun r=>some (r.1,r.2.2):=by
 unfold Z1z
 rw [if_neg (by simp),if_pos (by simp)]
 unfold Z31
 rw [if_neg (by simp; omega)]
 have a:ix [ds] (0:Int)=ds:=rfl
 rw [a]
 cases Z2a n.Ints ds<;>rfl
theorem uN {s i j}{n:Node}{args:List (List Int)}(h:args.length≠1):Z20 s i j n args=some ([],false):=by
 unfold Z20
 rw [if_pos (by simp; omega)]
theorem zi {s i j}{n:Node}{ds:List Int}(h:¬ (i≤(n.Ints.length:Int)∧(n.Ints.length:Int)≤j)):Z20 s i j n [ds]=some ([],false):=by
 unfold Z20
 rw [if_neg (by simp),if_pos (by simp)]
 unfold Z32
 rw [if_pos (by simp; omega)]
 rfl
theorem wz {s i j}{n:Node}{ds:List Int}(h:i≤(n.Ints.length:Int)∧(n.Ints.length:Int)≤j):Z20 s i j n [ds]=(Z2b n.Ints ds).bind fun r=>some (r.1,r.2.2):=by
 unfold Z20
 rw [if_neg (by simp),if_pos (by simp)]
 unfold Z32
 rw [if_neg (by simp; omega)]
 have a:ix [ds] (0:Int)=ds:=rfl
 rw [a]
 cases Z2b n.Ints ds<;>rfl
theorem zj {n:Node}{out:List Tensor}(J:Caps n out)(h:n.Op=15):pU n out (Zh n (out.map Tensor.Dims)):=by
 refine iH J (kd:=⟨8,false,4,4,fI⟩) (u:=fI) (ui:=4) (uj:=4) (by rw [h]; rfl) rfl rfl l6 l7 l8 l9 (gY (by omega) (by omega) (by rw [h]; rfl) (by rw [h]; rfl) (by rw [h]; rfl) (by simp [h]) ⟨by omega,by omega⟩) ⟨by omega,by omega,by omega⟩ (fun I=>by cases I) ?_ ?_ ?_
 ·intro args G; rw [DC]; exact uK G
 ·intro t i L _; rw [DC]; exact ⟨_,zf L⟩
 ·intro F t i
  obtain ⟨f1,M,O,T,U,D,E⟩:=F
  have e:Z2 n [t]=(Z10 t (ix n.Ints 0) (ix n.Ints 1) (ix n.Ints 2) (ix n.Ints 3)).bind fun r=>some r:=by
   unfold Z2
   simp only [Z2_J1,Z2_J2,h]
   simp only [Int.reduceBEq,Bool.false_eq_true,if_false,if_true,beq_self_eq_true]
   rw [if_pos (by simp),if_pos (by omega),if_pos (by omega),if_pos (by omega),if_pos (by omega)]
   rfl
  have hk:Z28 n.Ints t.Dims=(Z02 t.Dims (ix n.Ints 0) (ix n.Ints 1) (ix n.Ints 2) (ix n.Ints 3)).bind fun r=>some (r.1,r.2.1,r.2.2):=by
   unfold Z28
   rw [if_pos (by omega),if_pos (by omega),if_pos (by omega),if_pos (by omega)]
  rw [DC,ww ⟨D,E⟩,hk,e]
  obtain ⟨ds,ps,q,s⟩:Sh (Z02 t.Dims (ix n.Ints 0) (ix n.Ints 1) (ix n.Ints 2) (ix n.Ints 3)) (nx t.Dims (ix n.Ints 0) (ix n.Ints 1) (ix n.Ints 2) (ix n.Ints 3)) (t.Dims.set (ix n.Ints 0).toNat (kj t.Dims (ix n.Ints 0) (ix n.Ints 1) (ix n.Ints 2) (ix n.Ints 3))):=BU i.d
  obtain ⟨j,l⟩:=BR (a:=ix n.Ints 0) (b:=ix n.Ints 1) (f:=ix n.Ints 2) (g:=ix n.Ints 3) i
  rw [q]
  by_cases c:nx t.Dims (ix n.Ints 0) (ix n.Ints 1) (ix n.Ints 2) (ix n.Ints 3)
  ·obtain ⟨d,d1,d2⟩:=j c
   have B:=s c
   rw [d1,decide_eq_true c]
   subst B
   exact .inl ⟨⟨_,d⟩,rfl,rfl,d2⟩
  ·rw [l c,decide_eq_false c]
   exact .inr ⟨ds,rfl,rfl⟩
theorem t2 {n:Node}{out:List Tensor}(b:Caps n out)(h:n.Op=16):pU n out (Zh n (out.map Tensor.Dims)):=by
 refine iH b (kd:=⟨9,false,1,4097,fI⟩) (u:=fI) (ui:=1) (uj:=4097) (by rw [h]; rfl) rfl rfl l6 l7 l8 l9 (gY (by omega) (by omega) (by rw [h]; rfl) (by rw [h]; rfl) (by rw [h]; rfl) (by simp [h]) ⟨by omega,by omega⟩) ⟨by omega,by omega,by omega⟩ (fun J=>by cases J) ?_ ?_ ?_
 ·intro args I; rw [DD]; exact uL I
 ·intro t j L _; rw [DD]; exact ⟨_,zg L⟩
 ·intro G t j
  obtain ⟨f1,M,O,T,U,E,F⟩:=G
  have e:Z2 n [t]=(Z0z t (ix n.Ints 0) (n.Ints.drop 1)).bind fun r=>some r:=by
   unfold Z2
   simp only [Z2_J1,Z2_J2,h]
   simp only [Int.reduceBEq,Bool.false_eq_true,if_false,if_true,beq_self_eq_true]
   rw [if_pos (by simp),if_pos (by omega),if_pos (by omega),iG]
   rfl
  have hk:Z29 n.Ints t.Dims=(Z0m t.Dims (ix n.Ints 0) (n.Ints.drop 1)).bind fun r=>some (r.1,r.2.1,r.2.2):=by
   unfold Z29
   rw [if_pos (by omega),if_pos (by omega),iG]
   rfl
  rw [DD,wx ⟨E,F⟩,hk,e]
  obtain ⟨ds,ps,s,B⟩:Sh (Z0m t.Dims (ix n.Ints 0) (n.Ints.drop 1)) (nw t.Dims (ix n.Ints 0) (n.Ints.drop 1)) (t.Dims.set (ix n.Ints 0).toNat ((n.Ints.drop 1).length:Int)):=uB j.d (by have:=b.i; simp; omega)
  obtain ⟨l,q⟩:=uA (a:=ix n.Ints 0) (xs:=n.Ints.drop 1) j (by have:=b.i; simp; omega)
  rw [s]
  by_cases c:nw t.Dims (ix n.Ints 0) (n.Ints.drop 1)
  ·obtain ⟨d,d1,d2⟩:=l c
   have D:=B c
   rw [d1,decide_eq_true c]
   subst D
   exact .inl ⟨⟨_,d⟩,rfl,rfl,d2⟩
  ·rw [q c,decide_eq_false c]
   exact .inr ⟨ds,rfl,rfl⟩
theorem qX {n:Node}{out:List Tensor}(b:Caps n out)(h:n.Op=17):pU n out (Zh n (out.map Tensor.Dims)):=by
 refine iH b (kd:=⟨10,false,2,4098,fI⟩) (u:=fI) (ui:=2) (uj:=4098) (by rw [h]; rfl) rfl rfl l6 l7 l8 l9 (gY (by omega) (by omega) (by rw [h]; rfl) (by rw [h]; rfl) (by rw [h]; rfl) (by simp [h]) ⟨by omega,by omega⟩) ⟨by omega,by omega,by omega⟩ (fun J=>by cases J) ?_ ?_ ?_
 ·intro args I; rw [za]; exact uM I
 ·intro t j L _; rw [za]; exact ⟨_,zh L⟩
 ·intro G t j
  obtain ⟨f1,M,O,T,U,E,F⟩:=G
  have e:Z2 n [t]=(Z11 t (ix n.Ints 0) (n.Ints.drop 2) (ix n.Ints 1)).bind fun r=>some r:=by
   unfold Z2
   simp only [Z2_J1,Z2_J2,h]
   simp only [Int.reduceBEq,Bool.false_eq_true,if_false,if_true,beq_self_eq_true]
   rw [if_pos (by simp),if_pos (by omega),if_pos (by omega),if_pos (by omega),iG]
   rfl
  have hk:Z2a n.Ints t.Dims=(Z0n t.Dims (ix n.Ints 0) (n.Ints.drop 2) (ix n.Ints 1)).bind fun r=>some (r.1,r.2.1,r.2.2):=by
   unfold Z2a
   rw [if_pos (by omega),if_pos (by omega),if_pos (by omega),iG]
   rfl
  rw [za,wy ⟨E,F⟩,hk,e]
  obtain ⟨ds,ps,s,B⟩:Sh (Z0n t.Dims (ix n.Ints 0) (n.Ints.drop 2) (ix n.Ints 1)) (mD t.Dims (ix n.Ints 0) (n.Ints.drop 2) (ix n.Ints 1)) (t.Dims.set (ix n.Ints 0).toNat (ix n.Ints 1)):=sX j.d (by have:=b.i; simp; omega)
  obtain ⟨l,q⟩:=sW (a:=ix n.Ints 0) (n:=ix n.Ints 1) (xs:=n.Ints.drop 2) j (by have:=b.i; simp; omega)
  rw [s]
  by_cases c:mD t.Dims (ix n.Ints 0) (n.Ints.drop 2) (ix n.Ints 1)
  ·obtain ⟨d,d1,d2⟩:=l c
   have D:=B c
   rw [d1,decide_eq_true c]
   subst D
   exact .inl ⟨⟨_,d⟩,rfl,rfl,d2⟩
  ·rw [q c,decide_eq_false c]
   exact .inr ⟨ds,rfl,rfl⟩
theorem wA {n:Node}{out:List Tensor}(I:Caps n out)(h:n.Op=19):pU n out (Zh n (out.map Tensor.Dims)):=by
 refine iH I (kd:=⟨11,false,3,3,fI⟩) (u:=fI) (ui:=3) (uj:=3) (by rw [h]; rfl) rfl rfl l6 l7 l8 l9 (gY (by omega) (by omega) (by rw [h]; rfl) (by rw [h]; rfl) (by rw [h]; rfl) (by simp [h]) ⟨by omega,by omega⟩) ⟨by omega,by omega,by omega⟩ (fun G=>by cases G) ?_ ?_ ?_
 ·intro args F; rw [zb]; exact uN F
 ·intro t e J _; rw [zb]; exact ⟨_,zi J⟩
 ·intro E t e
  obtain ⟨f1,L,M,O,T,B,D⟩:=E
  have b:Z2 n [t]=(Z0y t (ix n.Ints 0) (ix n.Ints 1) (ix n.Ints 2)).bind fun r=>some r:=by
   unfold Z2
   simp only [Z2_J1,Z2_J2,h]
   simp only [Int.reduceBEq,Bool.false_eq_true,if_false,if_true,beq_self_eq_true]
   rw [if_pos (by simp),if_pos (by omega),if_pos (by omega),if_pos (by omega)]
   rfl
  have hk:Z2b n.Ints t.Dims=(Z4 t.Dims (ix n.Ints 0) (ix n.Ints 1) (ix n.Ints 2)).bind fun r=>some (r.1,r.2.1,r.2.2):=by
   unfold Z2b
   rw [if_pos (by omega),if_pos (by omega),if_pos (by omega)]
  rw [zb,wz ⟨B,D⟩,hk,b]
  obtain ⟨ds,ps,l,q⟩:Sh (Z4 t.Dims (ix n.Ints 0) (ix n.Ints 1) (ix n.Ints 2)) (mE t.Dims (ix n.Ints 0) (ix n.Ints 1) (ix n.Ints 2)) ((t.Dims.set (ix n.Ints 0).toNat (ix n.Ints 2)).take (t.Dims.length - 1)):=yT e.d
  obtain ⟨i,j⟩:=yR (a:=ix n.Ints 0) (st:=ix n.Ints 1) (n:=ix n.Ints 2) e
  rw [l]
  by_cases c:mE t.Dims (ix n.Ints 0) (ix n.Ints 1) (ix n.Ints 2)
  ·obtain ⟨d,d1,d2⟩:=i c
   have s:=q c
   rw [d1,decide_eq_true c]
   subst s
   exact .inl ⟨⟨_,d⟩,rfl,rfl,d2⟩
  ·rw [j c,decide_eq_false c]
   exact .inr ⟨ds,rfl,rfl⟩
def LT (s:aN):Prop:=s.length≤6∧∀ c∈s,97≤c.toNat∧c.toNat≤122
instance (s:aN):Decidable (LT s):=by unfold LT; infer_instance
theorem od {s:aN}(b:s.length<cS):Z14 s=some (decide (LT s)):=by
 unfold Z14
 have:=eP s (fun i:Int=>Z14_L1 s i) (fun i=>i) (fun c=>decide (97≤c.toNat∧c.toNat≤122)) (.inl false) (.inr ())
  (fun k hk=>by
   have a:bt s (k:Int)=((ix s (k:Int)).toNat:Int):=rfl
   simp only [Z14_L1]
   rw [if_pos (by simp; omega),if_pos (by omega),cA (by omega)]
   by_cases q:97≤(ix s (k:Int)).toNat∧(ix s (k:Int)).toNat≤122
   ·rw [if_neg (by simp only [Bool.or_eq_true,decide_eq_true_eq,a]; omega),decide_eq_true q,if_pos rfl]
   ·rw [if_pos (by simp only [Bool.or_eq_true,decide_eq_true_eq,a]; omega),decide_eq_false q,if_neg (by simp)])
  (by simp only [Z14_L1]; rw [if_neg (by simp)])
 rw [this]
 have e:(s.all fun c=>decide (97≤c.toNat∧c.toNat≤122))=decide (∀ c∈s,97≤c.toNat∧c.toNat≤122):=by
  rw [Bool.eq_iff_iff]
  simp only [List.all_eq_true,decide_eq_true_eq]
 rw [e]
 by_cases c:∀ c∈s,97≤c.toNat∧c.toNat≤122
 ·rw [decide_eq_true c,if_pos rfl]
  show some (decide ((s.length:Int)≤6))=_
  congr 1
  rw [Bool.eq_iff_iff]
  simp only [decide_eq_true_eq]
  exact ⟨fun h=>⟨by omega,c⟩,fun h=>by have:=h.1; omega⟩
 ·rw [decide_eq_false c,decide_eq_false (fun z:LT s=>c z.2)]; rfl
theorem lL {a b:UInt8}:((a.toNat:Int)==(b.toNat:Int))=decide (a=b):=by
 rw [Bool.eq_iff_iff]
 simp only [beq_iff_eq,decide_eq_true_eq]
 exact ⟨fun h=>UInt8.toNat_inj.1 (by omega),fun h=>by rw [h]⟩
theorem xF {s:aN}(j:s.length<cS)(b:UInt8):Z13 s (b.toNat:Int)=some (decide (b∈s)):=by
 unfold Z13
 have:=eP s (fun i:Int=>Z13_L1 s (b.toNat:Int) i) (fun i=>i) (fun c=>!(decide (c=b))) (.inl true) (.inr ())
  (fun k hk=>by
   have a:(bt s (k:Int)==(b.toNat:Int))=decide (ix s (k:Int)=b):=lL
   simp only [Z13_L1]
   rw [if_pos (by simp; omega),if_pos (by omega),cA (by omega),a]
   cases decide (ix s (k:Int)=b)<;>rfl)
  (by simp only [Z13_L1]; rw [if_neg (by simp)])
 rw [this]
 by_cases c:b∈s
 ·have e:(s.all fun c=>!(decide (c=b)))=false:=by
   rw [List.all_eq_false]; exact ⟨b,c,by simp⟩
  rw [e,decide_eq_true c]; rfl
 ·have e:(s.all fun c=>!(decide (c=b)))=true:=by
   rw [List.all_eq_true]; intro x h
   have:x≠b:=fun q=>c (q▸h)
   simp [this]
  rw [e,decide_eq_false c]; rfl
theorem t6 (c:UInt8):((c.toNat:Int)).toNat.toUInt8=c:=by
 rw [Int.toNat_natCast]
 exact UInt8.ofNat_toNat
theorem uO (s:aN)(c:UInt8):(Lib.indexByte s c<0)↔c ∉ s:=by
 induction s with
 | nil=>simp [Lib.indexByte]
 | cons b l ih =>
  unfold Lib.indexByte
  by_cases e:b=c
  ·subst e; simp
  ·have a:(b==c)=false:=by simpa using e
   have:=Lib.indexByte_ge l c
   rw [a]
   simp only [Bool.false_eq_true,if_false,List.mem_cons,not_or]
   rw [← ih]
   by_cases q:Lib.indexByte l c = -1
   ·rw [q]; simp; exact fun z=>e z.symm
   ·rw [if_neg (by simpa using q)]
    exact ⟨fun z=>by omega,fun z=>by omega⟩
theorem oV (s:aN)(c:UInt8):∃ r,Z22 s (c.toNat:Int)=some r∧(r<0↔c ∉ s):=by
 unfold Z22 dS
 rw [t6]
 exact ⟨_,rfl,uO s c⟩
def qY:aN→Option (aN×aN)
 | []=>none
 | [_]=>none
 | x::y::r=>if x=45∧y=62 then some ([],r) else (qY (y::r)).map fun p=>(x::p.1,p.2)
def ce:aN→Nat
 | []=>0
 | [_]=>0
 | x::y::r=>if x=45∧y=62 then 0 else ce (y::r)+1
theorem lQ:∀ {s l o:aN},qY s=some (l,o)→ce s=l.length∧s=l++45::62::o
 | [],_,_,h=>by cases h
 | [_],_,_,h=>by cases h
 | x::y::r,l,o,h=>by
  unfold qY at h; unfold ce
  by_cases c:x=45∧y=62
  ·rw [if_pos c] at h ⊢
   obtain ⟨rfl,rfl⟩:=c
   cases h
   exact ⟨rfl,rfl⟩
  ·rw [if_neg c] at h ⊢
   obtain ⟨⟨e,o'⟩,h1,h2⟩:=Option.map_eq_some_iff.1 h
   cases h2
   obtain ⟨a,b⟩:=lQ h1
   exact ⟨by rw [a]; rfl,by rw [b]; rfl⟩
theorem sf:∀ {s:aN},qY s=none→s.length≤ce s+1
 | [],h=>by simp
 | [_],h=>by simp
 | x::y::r,h=>by
  unfold qY at h; unfold ce
  by_cases c:x=45∧y=62
  ·rw [if_pos c] at h; cases h
  ·rw [if_neg c] at h ⊢
   have:=sf (s:=y::r) (by simpa using h)
   simp at this ⊢; omega
theorem sg:∀ {s:aN} {j:Nat},j<ce s→j+1<s.length∧(s.drop j).take 2≠[45,62]
 | [],_,h=>by simp [ce] at h
 | [_],_,h=>by simp [ce] at h
 | x::y::r,j,h=>by
  unfold ce at h
  by_cases c:x=45∧y=62
  ·rw [if_pos c] at h; omega
  ·rw [if_neg c] at h
   cases j with
   | zero=>exact ⟨by simp,by simpa using c⟩
   | succ j =>
    obtain ⟨a,b⟩:=sg (s:=y::r) (j:=j) (by omega)
    exact ⟨by simp at a ⊢; omega,by simpa using b⟩
theorem xG:∀ {s:aN},ce s+1<s.length→(s.drop (ce s)).take 2=[45,62]
 | [],h=>by simp at h
 | [_],h=>by simp [ce] at h
 | x::y::r,h=>by
  unfold ce at h ⊢
  by_cases c:x=45∧y=62
  ·rw [if_pos c]; obtain ⟨rfl,rfl⟩:=c; rfl
  ·rw [if_neg c] at h ⊢
   have:=xG (s:=y::r) (by simp at h ⊢; omega)
   simpa using this
theorem oe:∀ (s:aN),Lib.index s str0=match qY s with | some p=>(p.1.length:Int) | none => -1
 | []=>rfl
 | [x]=>by
  unfold Lib.index qY
  simp [str0,Lib.index]
 | x::y::r=>by
  unfold Lib.index qY
  by_cases c:x=45∧y=62
  ·obtain ⟨rfl,rfl⟩:=c
   rw [if_pos (by simp [str0]),if_pos ⟨rfl,rfl⟩]; rfl
  ·rw [if_neg (by simp [str0]; intro a b; exact c ⟨a.symm,b.symm⟩),if_neg c,oe (y::r)]
   cases qY (y::r) with
   | none=>rfl
   | some p =>
    simp only [Option.map_some]
    rw [if_neg (by simp)]
    simp
def pre (p:aN):List aN→List aN
 | []=>[p]
 | g::gs=>(p++g)::gs
def gB:aN→List aN
 | []=>[[]]
 | x::r=>if x=44 then []::gB r else pre [x] (gB r)
theorem lR (x:UInt8)(r:aN):gB (x::r)=if x=44 then []::gB r else pre [x] (gB r):=rfl
theorem zl (p:aN)(gs:List aN):pre p gs≠[]:=by cases gs<;>simp [pre]
theorem mg (s:aN):gB s≠[]:=by
 cases s with
 | nil=>simp [gB]
 | cons x r=>unfold gB; split; simp; exact zl _ _
theorem sj {gs:List aN}(h:gs≠[]):pre [] gs=gs:=by
 cases gs with
 | nil=>exact absurd rfl h
 | cons g gs=>rfl
theorem wB (p q:aN)(gs:List aN):pre p (pre q gs)=pre (p++q) gs:=by
 cases gs<;>simp [pre]
theorem wC (s:aN):(gB s).length=s.count 44+1:=by
 induction s with
 | nil=>rfl
 | cons x r ih =>
  unfold gB
  by_cases c:x=44
  ·subst c; simp [ih]
  ·rw [if_neg c,List.count_cons_of_ne (fun z=>c z)]
   cases h:gB r with
   | nil=>exact absurd h (mg r)
   | cons g gs=>rw [h] at ih; simpa [pre] using ih
theorem zm {s:aN}(h:s.count 44=0):gB s=[s]:=by
 induction s with
 | nil=>rfl
 | cons x r ih =>
  have c:x≠44:=by intro q; subst q; simp at h
  rw [List.count_cons_of_ne (fun z=>c z)] at h
  unfold gB
  rw [if_neg c,ih h]; rfl
theorem wD (s:aN)(c:UInt8)(a:c≠44):(∃ g∈gB s,c∈g)↔c∈s:=by
 induction s with
 | nil=>simp [gB]
 | cons x r ih =>
  unfold gB
  by_cases q:x=44
  ·subst q
   rw [if_pos rfl]
   simp [a,ih]
  ·rw [if_neg q,List.mem_cons,← ih]
   cases h:gB r with
   | nil=>exact absurd h (mg r)
   | cons g gs=>simp [pre,or_assoc]
theorem xH:∀ {x:aN},x.count 44≠0→∃ g r,x=g++44::r∧Lib.index x str6=(g.length:Int)∧gB x=g::gB r∧x.count 44=r.count 44+1
 | [],h=>by simp at h
 | b::l,h=>by
  by_cases c:b=44
  ·subst c
   exact ⟨[],l,rfl,by unfold Lib.index; simp [str6],by rw [lR,if_pos rfl],by simp⟩
  ·rw [List.count_cons_of_ne (fun z=>c z)] at h
   obtain ⟨g,r,h1,h2,a,e⟩:=xH h
   refine ⟨b::g,r,by rw [h1]; rfl,?_,?_,?_⟩
   ·unfold Lib.index
    rw [if_neg (by simp [str6]; exact fun z=>c z.symm),h2,if_neg (by simp)]
    simp
   ·rw [lR,if_neg c,a]; rfl
   ·rw [List.count_cons_of_ne (fun z=>c z)]; exact e
theorem wE {p:aN}(J:p.length≤1048576):Z3c p str6=some (gB p):=by
 have Z:p.count 44≤p.length:=List.count_le_length
 have q:(if (aI ((p.length:Int)+1))<((p.count 44+1:Nat):Int) then (aI ((p.length:Int)+1)) else ((p.count 44+1:Nat):Int))=((p.count 44+1:Nat):Int):=by
  rw [cA (by unfold cS; omega),if_neg (by omega)]
 have hw:aI (((p.count 44+1:Nat):Int) - 1)=(p.count 44:Int):=by rw [aX (by omega) (by omega)]; omega
 unfold Z3c Z0g
 rw [if_neg (by decide),if_neg (by simp [str6]),if_pos (by decide)]
 have h:Z3l p str6=some (p.count 44:Int):=rfl
 rw [h]
 simp only [Option.bind_some]
 rw [cA (by unfold cS; omega)]
 unfold Z0g_J2
 rw [q,if_pos (by omega),Int.toNat_natCast]
 obtain ⟨e,L,O⟩:=gX (f:=fun s:aN×List aN×Int=>Z0g_L1 p str6 0 ((p.count 44+1:Nat):Int) s.1 s.2.1 s.2.2)
  (fun j s=>s.2.2=(j:Int)∧s.2.1.length=p.count 44+1∧s.2.1.take j++gB s.1=gB p∧s.1.count 44+j=p.count 44∧s.1.length≤1048576) (p.count 44)
  (Post:=fun e=>e.2.2=(p.count 44:Int)∧e.2.1.length=p.count 44+1∧e.2.1.take (p.count 44)++[e.1]=gB p)
  (fun j s hj D=>by
   obtain ⟨x,a,i⟩:=s
   obtain ⟨h1,h2,b,u,B⟩:=D
   simp only at h1 h2 b u B
   subst h1
   obtain ⟨g,r,g1,G,I,Y⟩:=xH (x:=x) (by omega)
   have hx:x.length=g.length+1+r.length:=by rw [g1]; simp; omega
   have M:Z2m x str6=some (g.length:Int):=by
    unfold Z2m dE
    rw [if_pos (by omega),G]; rfl
   have T:aI ((g.length:Int)+0)=(g.length:Int):=by rw [aX (by omega) (by omega)]; omega
   have U:aI ((g.length:Int)+((str6.length:Nat):Int))=((g.length+1:Nat):Int):=by
    show aI ((g.length:Int)+1)=_
    exact cA (by unfold cS; omega)
   refine ⟨(r,a.set j g,((j+1:Nat):Int)),?_,rfl,by simpa using h2,?_,by show r.count 44+(j+1)=_; omega,by show r.length≤_; omega⟩
   ·simp only [Z0g_L1]
    rw [q,hw,if_pos (by simp; omega),M]
    simp only [Option.bind_some]
    rw [if_neg (by simp),T,if_pos (by omega),if_pos (by simp; omega)]
    have E:sub x 0 (g.length:Int)=g:=by rw [lG,g1]; simp
    have F:sub x ((g.length+1:Nat):Int) (x.length:Int)=r:=by rw [iG,Int.toNat_natCast,g1,List.drop_append]; simp
    rw [U,E,Int.toNat_natCast]
    simp only [nm,Option.bind_some]
    rw [if_pos (by omega),F,cA (by unfold cS; omega)]
   ·rw [← b,I,List.take_set]
    have l:j<a.length:=by omega
    rw [List.take_succ_eq_append_getElem l,List.set_append_right _ _ (by simp; omega)]
    simp [Nat.min_eq_left (Nat.le_of_lt l)]
    )
  (fun s D=>by
   obtain ⟨x,a,i⟩:=s
   obtain ⟨h1,h2,b,u,B⟩:=D
   simp only at h1 h2 b u B
   subst h1
   rw [zm (by omega)] at b
   refine ⟨(x,a,(p.count 44:Int)),?_,rfl,h2,b⟩
   simp only [Z0g_L1]
   rw [q,hw,if_neg (by simp)])
  (s:=(p,List.replicate (p.count 44+1) [],0)) ⟨rfl,by simp,by simp,by simp,J⟩
 rw [L]
 obtain ⟨x,a,i⟩:=e
 obtain ⟨h1,h2,b⟩:=O
 simp only at h1 h2 b
 subst h1
 simp only [Option.bind_some,Z0g_J3]
 rw [q,if_pos (by simp; omega),cA (by unfold cS; omega),if_pos (by simp; omega),Int.toNat_natCast]
 simp only [Option.bind_some]
 congr 1
 rw [lG,List.take_set,← b]
 have l:p.count 44<a.length:=by omega
 rw [List.take_succ_eq_append_getElem l,List.set_append_right _ _ (by simp; omega)]
 simp [Nat.min_eq_left (Nat.le_of_lt l)]
def OL (gs:List aN)(o:aN)(i:Nat):Prop:=(∃ g∈gs,ix o (i:Int)∈g)∧ix o (i:Int) ∉ o.take i
instance (gs:List aN)(o:aN)(i:Nat):Decidable (OL gs o i):=by unfold OL; infer_instance
def PO (gs:List aN)(o:aN):Prop:=gs.length≤6∧LT o∧(∀ g∈gs,LT g)∧∀ i∈List.range o.length,OL gs o i
instance (gs:List aN)(o:aN):Decidable (PO gs o):=by unfold PO; infer_instance
def parts (form:aN):List aN×aN×Bool:=match qY form with
 | none=>([],[],false)
 | some p=>if PO (gB p.1) p.2 then (gB p.1,p.2,true) else ([],[],false)
theorem DE {form:aN}(l:form.length≤1048576):aQ (fun s:Int=>Z1_L1 form s) 0=some (ce form:Int):=by
 have w:∀ j:Nat,j≤1048576→aI ((j:Int)+1)=((j+1:Nat):Int)∧aI ((j:Int)+2)=((j+2:Nat):Int):=by
  intro j e
  exact ⟨cA (by unfold cS; omega),by rw [aX (by omega) (by omega)]; omega⟩
 have h:∀ j:Nat,sub form (j:Int) ((j+2:Nat):Int)=(form.drop j).take 2:=by
  intro j
  unfold sub
  rw [Int.toNat_natCast,Int.toNat_natCast,List.drop_take]
  congr 1; omega
 have i:ce form≤form.length:=by
  by_cases c:ce form=0
  ·omega
  ·have:=(sg (s:=form) (j:=ce form - 1) (by omega)).1; omega
 refine eV (f:=fun s:Int=>Z1_L1 form s) (fun j=>(j:Int)) (ce form) (fun j e=>?_) ?_ rfl
 ·obtain ⟨a,b⟩:=sg e
  simp only [Z1_L1]
  rw [(w j (by omega)).1,(w j (by omega)).2,h,if_pos (fun _=>by omega),if_pos]
  simp only [Bool.and_eq_true,decide_eq_true_eq,Bool.not_eq_true',beq_eq_false_iff_ne]
  exact ⟨by omega,b⟩
 ·simp only [Z1_L1]
  rw [(w _ (by omega)).1,(w _ (by omega)).2,h]
  by_cases c:ce form+1<form.length
  ·rw [if_pos (fun _=>by omega),if_neg]
   rw [xG c]; simp [str0]
  ·rw [if_pos (fun z=>by simp at z; omega),if_neg]
   simp only [Bool.and_eq_true,decide_eq_true_eq]
   omega
theorem uP {form l o:aN}(hb:form.length≤1048576)(h:qY form=some (l,o)):aQ (fun s:List aN×Int×Int=>Z1_L2 form (l.length:Int) s.1 s.2.1 s.2.2) ([],0,0)=some (gB l):=by
 obtain ⟨Z,E⟩:=lQ h
 have hl:form.length=l.length+2+o.length:=by rw [E]; simp; omega
 obtain ⟨r,Y,U⟩:=gX (f:=fun s:List aN×Int×Int=>Z1_L2 form (l.length:Int) s.1 s.2.1 s.2.2)
  (fun j s=>s.2.2=(j:Int)∧s.1.length≤j∧((∃ F:Nat,F≤j∧s.2.1=(F:Int)∧j≤l.length∧s.1++pre ((l.take j).drop F) (gB (l.drop j))=gB l)∨(j=l.length+1∧s.1=gB l))) (l.length+1)
  (Post:=fun r=>r=gB l)
  (fun j s hj G=>by
   obtain ⟨gs,u,i⟩:=s
   obtain ⟨h1,h2,D⟩:=G
   simp only at h1 h2 D
   subst h1
   rcases D with ⟨F,f1,L,M,e⟩|⟨q,_⟩
   ·subst L
    have O:sub form (F:Int) (j:Int)=(l.take j).drop F:=by
     unfold sub
     rw [Int.toNat_natCast,Int.toNat_natCast,E,List.take_append_of_le_length M]
    simp only [Z1_L2]
    rw [if_pos (by simp; omega),if_pos (fun _=>by omega)]
    by_cases c:j=l.length
    ·rw [if_pos (by simp [c]),if_pos (by omega),O,if_pos (by simp; omega)]
     simp only [Z1_J3]
     refine ⟨_,by rw [cA (by unfold cS; omega)],rfl,by simp; omega,.inr ⟨by omega,?_⟩⟩
     subst c
     rw [List.drop_length] at e
     simpa [gB,pre] using e
    ·have B:j<l.length:=by omega
     have T:l.drop j=l[j]::l.drop (j+1):=List.drop_eq_getElem_cons B
     have I:(bt form (j:Int)==44)=decide (l[j]=44):=by
      have:ix form (j:Int)=l[j]:=by
       rw [cC (by omega)]
       simp only [E]
       rw [List.getElem_append_left B]
      unfold bt
      rw [this]
      have:=lL (a:=l[j]) (b:=44)
      simpa using this
     have J:((j:Int)==(l.length:Int))=false:=by simp; omega
     rw [I,J,Bool.false_or]
     rw [T,lR] at e
     by_cases q:l[j]=44
     ·rw [decide_eq_true q,if_pos rfl,if_pos (by omega),O,if_pos (by simp; omega)]
      simp only [Z1_J3]
      rw [cA (by unfold cS; omega)]
      refine ⟨_,rfl,rfl,by simp; omega,.inl ⟨j+1,Nat.le_refl _,rfl,by omega,?_⟩⟩
      rw [if_pos q] at e
      have z:List.drop (j+1) (List.take (j+1) l)=[]:=List.drop_of_length_le (by simp; omega)
      rw [z,sj (mg _),← e]
      simp [pre]
     ·rw [decide_eq_false q,if_neg (by simp)]
      simp only [Z1_J3]
      rw [cA (by unfold cS; omega)]
      refine ⟨_,rfl,rfl,by show gs.length≤_; omega,.inl ⟨F,by omega,rfl,by omega,?_⟩⟩
      rw [if_neg q,wB] at e
      rw [← e,List.take_succ_eq_append_getElem B,List.drop_append_of_le_length (by simp; omega)]
   ·omega)
  (fun s G=>by
   obtain ⟨gs,u,i⟩:=s
   obtain ⟨h1,h2,D⟩:=G
   simp only at h1 h2 D
   subst h1
   rcases D with ⟨F,f1,L,M,e⟩|⟨_,q⟩
   ·omega
   ·refine ⟨gs,?_,q⟩
    simp only [Z1_L2]
    rw [if_neg (by simp; omega)])
  (s:=([],0,0)) ⟨rfl,by simp,.inl ⟨0,by omega,rfl,by omega,by simp [sj (mg l)]⟩⟩
 rw [Y,U]
theorem qZ {s g:aN}(h:g∈gB s):g.length≤s.length:=by
 induction s generalizing g with
 | nil=>simp [gB] at h; simp [h]
 | cons x r ih =>
  rw [lR] at h
  by_cases c:x=44
  ·rw [if_pos c] at h
   rcases List.mem_cons.1 h with q | q
   ·simp [q]
   ·have:=ih q; simp; omega
  ·rw [if_neg c] at h
   cases e:gB r with
   | nil=>exact absurd e (mg r)
   | cons g' gs =>
    rw [e] at h ih
    simp only [pre,List.mem_cons] at h
    rcases h with q | q
    ·have:=ih (g:=g') (by simp); rw [q]; simp; omega
    ·have:=ih (g:=g) (by simp [q]); simp; omega
theorem BV {gs:List aN}{o:aN}{form:aN}{x i:Int}(q:gs.length<cS)(l:∀ g∈gs,g.length<cS)(u:sub form (aI (x+2)) (form.length:Int)=o)(r:0≤i∧i<(o.length:Int)) :
  aQ (fun s:Bool×Int=>Z1_L5 form x gs i s.1 s.2) (false,0)=some (decide (∃ g∈gs,ix o i∈g)):=by
 have e:∀ b:Bool,decide (∃ g∈gs,ix o i∈g)=gs.any fun g=>decide (ix o i∈g):=by
  intro _
  rw [Bool.eq_iff_iff]; simp
 rw [e true]
 refine eV (f:=fun s:Bool×Int=>Z1_L5 form x gs i s.1 s.2) (fun j=>((gs.take j).any fun g=>decide (ix o i∈g),(j:Int))) gs.length (fun j a=>?_) ?_ rfl
 ·simp only [Z1_L5]
  rw [u,if_pos (by simp; omega),if_pos (fun _=>by omega),if_pos (fun _=>r),List.take_succ_eq_append_getElem a,List.any_append,cA (by omega),cC a]
  have h:bt o i=((ix o i).toNat:Int):=rfl
  rw [h,xF (l _ (List.getElem_mem a))]
  cases (gs.take j).any fun g=>decide (ix o i∈g) with
  | true=>simp [bP]
  | false=>simp [bP]
 ·simp only [Z1_L5]
  rw [if_neg (by simp),List.take_length]
theorem wF {form:aN}(F:form.length≤1048576):Z1 form=some (parts form):=by
 unfold Z1
 rw [DE F]
 simp only [Option.bind_some,Z1_J1]
 unfold parts
 have L:ce form≤form.length:=by
  by_cases c:ce form=0
  ·omega
  ·have:=(sg (s:=form) (j:=ce form - 1) (by omega)).1; omega
 rw [cA (by unfold cS; omega)]
 cases h:qY form with
 | none =>
  have:=sf h
  rw [if_pos (by simp; omega)]
 | some p =>
  obtain ⟨l,o⟩:=p
  obtain ⟨I,E⟩:=lQ h
  have M:form.length=l.length+2+o.length:=by rw [E]; simp; omega
  rw [if_neg (by simp; omega),I,uP F h]
  simp only [Option.bind_some]
  have G:aI ((l.length:Int)+2)=((l.length+2:Nat):Int):=by rw [aX (by omega) (by omega)]; omega
  have b:sub form (aI ((l.length:Int)+2)) (form.length:Int)=o:=by
   rw [G,iG,Int.toNat_natCast,E,List.drop_append]
   simp
  have u:(gB l).length<cS:=by
   rw [wC]; have:l.count 44≤l.length:=List.count_le_length; unfold cS; omega
  unfold Z1_J4
  rw [b,if_pos (by rw [G]; omega),od (by unfold cS; omega)]
  by_cases c1:(gB l).length≤6
  ·have d1:decide (((gB l).length:Int)>6)=false:=by simp; omega
   rw [d1]
   simp only [bP,Bool.not_false,cond_true,Option.bind_some,Bool.false_or]
   by_cases c2:LT o
   ·rw [decide_eq_true c2,if_neg (by simp)]
    have B:=eP (gB l) (fun s:Int=>Z1_L3 (gB l) s) (fun i=>i) (fun g=>decide (LT g)) (.inl ([],[],false)) (.inr ())
     (fun k hk=>by
      simp only [Z1_L3]
      rw [if_pos (by simp; omega),if_pos (by omega),cA (by omega),od (by have:=qZ (bI hk); unfold cS; omega)]
      cases decide (LT (ix (gB l) (k:Int)))<;>rfl)
     (by simp only [Z1_L3]; rw [if_neg (by simp)])
    rw [B]
    by_cases c3:∀ g∈gB l,LT g
    ·have e:((gB l).all fun g=>decide (LT g))=true:=by
      rw [List.all_eq_true]; intro g a; exact decide_eq_true (c3 g a)
     rw [e,if_pos rfl]
     simp only [Option.bind_some]
     unfold Z1_J5
     have D:=gR o.length (fun s:Int=>Z1_L4 form (l.length:Int) (gB l) s) (fun i=>i) (fun k=>decide (OL (gB l) o k)) (.inl ([],[],false)) (.inr ())
      (fun k hk=>by
       simp only [Z1_L4]
       rw [b,if_pos (by simp; omega),BV u (fun g a=>by have:=qZ a; unfold cS; omega) b (by omega)]
       simp only [Option.bind_some,Z1_J7]
       rw [b,if_pos (fun _=>by omega),if_pos (fun _=>by omega),lG]
       have r:bt o (k:Int)=((ix o (k:Int)).toNat:Int):=rfl
       rw [r,xF (by simp; unfold cS; omega),cA (by unfold cS; omega)]
       by_cases q1:∃ g∈gB l,ix o (k:Int)∈g
       ·by_cases q2:ix o (k:Int)∈o.take k
        ·rw [decide_eq_true q1,decide_eq_true q2,decide_eq_false (fun z:OL (gB l) o k=>z.2 q2)]; rfl
        ·rw [decide_eq_true q1,decide_eq_false q2,show decide (OL (gB l) o k)=true from decide_eq_true ⟨q1,q2⟩]; rfl
       ·rw [decide_eq_false q1,decide_eq_false (fun z:OL (gB l) o k=>q1 z.1)]; rfl)
      (by simp only [Z1_L4]; rw [b,if_neg (by simp)])
     rw [D]
     by_cases c4:∀ i∈List.range o.length,OL (gB l) o i
     ·have q:((List.range o.length).all fun k=>decide (OL (gB l) o k))=true:=by
       rw [List.all_eq_true]; intro g a; exact decide_eq_true (c4 g a)
      rw [q,if_pos rfl,if_pos ⟨c1,c2,c3,c4⟩]
      simp only [Option.bind_some,Z1_J8]
      rw [b]
     ·have q:((List.range o.length).all fun k=>decide (OL (gB l) o k))=false:=by
       rw [Bool.eq_false_iff]; intro z
       exact c4 fun i J=>of_decide_eq_true (List.all_eq_true.1 z i J)
      rw [q,if_neg (by simp),if_neg (fun z=>c4 z.2.2.2)]; rfl
    ·have e:((gB l).all fun g=>decide (LT g))=false:=by
      rw [Bool.eq_false_iff]; intro z
      exact c3 fun g a=>of_decide_eq_true (List.all_eq_true.1 z g a)
     rw [e,if_neg (by simp),if_neg (fun z=>c3 z.2.2.1)]; rfl
   ·rw [decide_eq_false c2,if_pos (by simp),if_neg (fun z=>c2 z.2.1)]
  ·have d1:decide (((gB l).length:Int)>6)=true:=by simp; omega
   rw [d1,if_neg (fun z=>c1 z.1)]
   simp [bP]
theorem BW {form:aN}(q:form.length≤1048576):Z3b form str0=some (match qY form with | none=>(form,[],false) | some p=>(p.1,p.2,true)):=by
 unfold Z3b eM dE
 rw [if_pos (by omega),oe]
 simp only [Option.bind_some]
 cases h:qY form with
 | none=>simp
 | some p =>
  obtain ⟨l,o⟩:=p
  obtain ⟨j,a⟩:=lQ h
  have r:form.length=l.length+2+o.length:=by rw [a]; simp; omega
  have i:aI ((l.length:Int)+((str0.length:Nat):Int))=((l.length+2:Nat):Int):=by
   show aI ((l.length:Int)+2)=_
   rw [aX (by omega) (by omega)]; omega
  simp only
  rw [if_pos (by simp),if_pos (by omega),i,if_pos (by omega)]
  have b:sub form 0 (l.length:Int)=l:=by rw [lG,a]; simp
  have e:sub form ((l.length+2:Nat):Int) (form.length:Int)=o:=by
   rw [iG,Int.toNat_natCast,a,List.drop_append]; simp
  rw [b,e]; rfl
theorem wG {gs:List aN}{x:Nat}(e:x<gs.length)(h:(ix gs (x:Int)).length<cS) :
  aQ (fun s:Int=>Zg_L2 gs (x:Int) s) 0=some (if ∀ c∈ix gs (x:Int),97≤c.toNat∧c.toNat≤122 then .inr () else .inl ([],[],false)):=by
 obtain ⟨g,a⟩:∃ g,g=ix gs (x:Int):=⟨_,rfl⟩
 have:=eP g (fun s:Int=>Zg_L2 gs (x:Int) s) (fun i=>i) (fun c=>decide (97≤c.toNat∧c.toNat≤122)) (.inl ([],[],false)) (.inr ())
  (fun k hk=>by
   have b:bt g (k:Int)=((ix g (k:Int)).toNat:Int):=rfl
   simp only [Zg_L2]
   rw [← a,if_pos (by simp; omega),if_pos (by omega),cA (by rw [← a] at h; omega)]
   by_cases q:97≤(ix g (k:Int)).toNat∧(ix g (k:Int)).toNat≤122
   ·rw [if_neg (by simp only [Bool.or_eq_true,decide_eq_true_eq,b]; omega),decide_eq_true q,if_pos rfl]
   ·rw [if_pos (by simp only [Bool.or_eq_true,decide_eq_true_eq,b]; omega),decide_eq_false q,if_neg (by simp)])
  (by simp only [Zg_L2]; rw [← a,if_neg (by simp)])
 rw [this,← a]
 by_cases c:∀ c∈g,97≤c.toNat∧c.toNat≤122
 ·rw [if_pos c,if_pos (by rw [List.all_eq_true]; intro x e; exact decide_eq_true (c x e))]
 ·rw [if_neg c,if_neg]
  intro z
  exact c fun x e=>of_decide_eq_true (List.all_eq_true.1 z x e)
theorem wH {form:aN}(M:form.length≤1048576):Zg form=some (parts form):=by
 unfold Zg parts
 rw [BW M]
 simp only [Option.bind_some]
 cases h:qY form with
 | none=>simp
 | some p =>
  obtain ⟨l,o⟩:=p
  obtain ⟨Y,L⟩:=lQ h
  have Z:form.length=l.length+2+o.length:=by rw [L]; simp; omega
  simp only [Bool.not_true,Bool.false_or]
  by_cases c0:o.length≤6
  ·rw [if_neg (by simp; omega),wE (by omega)]
   simp only [Option.bind_some]
   by_cases c1:(gB l).length≤6
   ·rw [if_neg (by simp; omega)]
    have D:=eP (gB l) (fun s:Int=>Zg_L1 (gB l) s) (fun i=>i) (fun g=>decide (LT g)) (.inl ([],[],false)) (.inr ())
     (fun k hk=>by
      have b:=qZ (bI hk)
      simp only [Zg_L1]
      rw [if_pos (by simp; omega),if_pos (by omega)]
      by_cases q1:(ix (gB l) (k:Int)).length≤6
      ·rw [if_neg (by simp; omega),wG hk (by unfold cS; omega)]
       by_cases q2:∀ c∈ix (gB l) (k:Int),97≤c.toNat∧c.toNat≤122
       ·rw [if_pos q2,show decide (LT (ix (gB l) (k:Int)))=true from decide_eq_true ⟨q1,q2⟩,if_pos rfl]
        simp only [Option.bind_some,Zg_J2]
        rw [cA (by unfold cS; omega)]
       ·rw [if_neg q2,show decide (LT (ix (gB l) (k:Int)))=false from decide_eq_false (fun z=>q2 z.2),if_neg (by simp)]; rfl
      ·rw [if_pos (by simp; omega),show decide (LT (ix (gB l) (k:Int)))=false from decide_eq_false (fun z=>q1 z.1),if_neg (by simp)])
     (by simp only [Zg_L1]; rw [if_neg (by simp)])
    rw [D]
    by_cases c3:∀ g∈gB l,LT g
    ·have r:((gB l).all fun g=>decide (LT g))=true:=by
      rw [List.all_eq_true]; intro g b; exact decide_eq_true (c3 g b)
     rw [r,if_pos rfl]
     simp only [Option.bind_some]
     unfold Zg_J3
     have E:=gR o.length (fun s:Int=>Zg_L3 (l,o,true) s) (fun i=>i) (fun k=>decide ((97≤(ix o (k:Int)).toNat∧(ix o (k:Int)).toNat≤122)∧OL (gB l) o k)) (.inl ([],[],false)) (.inr ())
      (fun k hk=>by
       have a:bt o (k:Int)=((ix o (k:Int)).toNat:Int):=rfl
       simp only [Zg_L3]
       rw [if_pos (by simp; omega),if_pos (by omega),cA (by unfold cS; omega),lG]
       by_cases q:97≤(ix o (k:Int)).toNat∧(ix o (k:Int)).toNat≤122
       ·have j:(decide (bt o (k:Int)<97)||decide (bt o (k:Int)>122))=false:=by
         rw [Bool.eq_false_iff]; simp only [ne_eq,Bool.or_eq_true,decide_eq_true_eq,a]; omega
        rw [j,if_pos (fun _=>by omega)]
        have B:ix o (k:Int)≠44:=by
         intro z; rw [z] at q; exact absurd q (by decide)
        obtain ⟨F,T,G⟩:=oV (o.take k) (ix o (k:Int))
        obtain ⟨I,U,s3⟩:=oV l (ix o (k:Int))
        rw [a,T,U]
        simp only [bP,Bool.not_false,cond_true,Option.bind_some,Bool.false_or]
        rw [← wD l _ B] at s3
        by_cases q2:ix o (k:Int)∈o.take k
        ·have:decide (F≥0)=true:=by
          rw [decide_eq_true_eq]
          have:¬ F<0:=fun z=>G.1 z q2
          omega
         rw [this,decide_eq_false (fun z=>z.2.2 q2)]; rfl
        ·have:decide (F≥0)=false:=by
          rw [decide_eq_false_iff_not]
          have:=G.2 q2
          omega
         rw [this]
         simp only [Bool.not_false,cond_true,Option.bind_some,Bool.false_or]
         by_cases q3:∃ g∈gB l,ix o (k:Int)∈g
         ·have:decide (I<0)=false:=by
           rw [decide_eq_false_iff_not]
           exact fun z=>s3.1 z q3
          rw [this,decide_eq_true ⟨q,q3,q2⟩]; rfl
         ·have:decide (I<0)=true:=decide_eq_true (s3.2 q3)
          rw [this,decide_eq_false (fun z=>q3 z.2.1)]; rfl
       ·have j:(decide (bt o (k:Int)<97)||decide (bt o (k:Int)>122))=true:=by
         simp only [Bool.or_eq_true,decide_eq_true_eq,a]; omega
        rw [j,if_pos (fun z=>by cases z),decide_eq_false (fun z=>q z.1)]
        rfl)
      (by simp only [Zg_L3]; rw [if_neg (by simp)])
     rw [E]
     by_cases c4:PO (gB l) o
     ·have u:((List.range o.length).all fun k=>decide ((97≤(ix o (k:Int)).toNat∧(ix o (k:Int)).toNat≤122)∧OL (gB l) o k))=true:=by
       rw [List.all_eq_true]; intro k hk
       exact decide_eq_true ⟨c4.2.1.2 _ (bI (List.mem_range.1 hk)),c4.2.2.2 k hk⟩
      rw [u,if_pos rfl,if_pos c4]; rfl
     ·have u:((List.range o.length).all fun k=>decide ((97≤(ix o (k:Int)).toNat∧(ix o (k:Int)).toNat≤122)∧OL (gB l) o k))=false:=by
       rw [Bool.eq_false_iff]; intro z
       have J:=List.all_eq_true.1 z
       refine c4 ⟨c1,⟨c0,fun c O=>?_⟩,c3,fun i e=>(of_decide_eq_true (J i e)).2⟩
       obtain ⟨i,e,rfl⟩:=List.mem_iff_getElem.1 O
       have:=(of_decide_eq_true (J i (List.mem_range.2 e))).1
       rwa [cC e] at this
      rw [u,if_neg (by simp),if_neg c4]; rfl
    ·have r:((gB l).all fun g=>decide (LT g))=false:=by
      rw [Bool.eq_false_iff]; intro z
      exact c3 fun g b=>of_decide_eq_true (List.all_eq_true.1 z g b)
     rw [r,if_neg (by simp),if_neg (fun z=>c3 z.2.2.1)]; rfl
   ·rw [if_pos (by simp; omega),if_neg (fun z=>c1 z.1)]
  ·rw [if_pos (by simp; omega),if_neg (fun z=>c0 z.2.1.1)]
def r0 {S:Type}(st:S→Nat→Option S):Nat→S→Option S
 | 0,s=>some s
 | n+1,s=>(r0 st n s).bind fun s'=>st s' n
theorem jN {S T A B:Type}{f:T→Option (T⊕(A⊕B))}(st:S→Nat→Option S)(mk:S→Int→T)(l:S→B)(e:A→Prop)(a:Nat→S→Prop)(n:Nat)
  (h1:∀ j s,j<n→a j s→(∃ s',st s j=some s'∧f (mk s (j:Int))=some (.inl (mk s' ((j+1:Nat):Int)))∧a (j+1) s')∨(st s j=none∧∃ b,f (mk s (j:Int))=some (.inr (.inl b))∧e b))
  (h2:∀ s,a n s→f (mk s (n:Int))=some (.inr (.inr (l s)))) {s:S} (G:a 0 s) :
  (∃ s',r0 st n s=some s'∧aQ f (mk s 0)=some (.inr (l s'))∧a n s')∨(r0 st n s=none∧∃ b,aQ f (mk s 0)=some (.inl b)∧e b):=by
 have E:∀ j,j≤n→(∃ s',r0 st j s=some s'∧aQ f (mk s 0)=aQ f (mk s' (j:Int))∧a j s')∨(r0 st j s=none∧∃ b,aQ f (mk s 0)=some (.inl b)∧e b):=by
  intro j
  induction j with
  | zero=>intro _; exact .inl ⟨s,rfl,rfl,G⟩
  | succ j ih =>
   intro I
   rcases ih (by omega) with ⟨s',h,i,a3⟩|⟨h,i⟩
   ·rcases h1 j s' (by omega) a3 with ⟨F,r,u,D⟩|⟨r,b,u,D⟩
    ·exact .inl ⟨F,by rw [r0,h]; exact r,by rw [i,eH u],D⟩
    ·exact .inr ⟨by rw [r0,h]; exact r,b,by rw [i,cT u],D⟩
   ·exact .inr ⟨by rw [r0,h]; rfl,i⟩
 rcases E n (Nat.le_refl _) with ⟨s',h,i,a3⟩ | q
 ·exact .inl ⟨s',h,by rw [i,cT (h2 s' a3)],a3⟩
 ·exact .inr q
def lk (lens:List Int)(c:UInt8):Int:=ix lens ((c.toNat:Int) - 97)
def lT (s:aN×List Int)(c:UInt8)(d:Int):Option (aN×List Int) :=
 if lk s.2 c≠0∧lk s.2 c≠d then none else some (if c∈s.1 then s.1 else s.1++[c],s.2.set (c.toNat - 97) d)
def mh (g:aN)(ds:List Int)(s:aN×List Int):Option (aN×List Int) :=
 if g.length=ds.length then r0 (fun s k=>lT s (ix g (k:Int)) (ix ds (k:Int))) g.length s else none
def nU (gs:List aN)(dss:List (List Int))(s:aN×List Int):Option (aN×List Int):=r0 (fun s k=>mh (ix gs (k:Int)) (ix dss (k:Int)) s) gs.length s
end Go.Proofs.YtoffdamdpmeoiaaGreatDoor
