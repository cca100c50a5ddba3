import Derived.Test.YtmpnollfdpdipaaGreatDoorSfF
import Derived.Test.YtmpnollfdpdipaaGreatDoorPL1
set_option linter.unusedVariables false
set_option linter.unusedSimpArgs false
namespace Go.Proofs.YtmpnollfdpdipaaGreatDoor
open Go Go.Pg
theorem fE {a b:Int}(e:0≤a)(g:1≤b):a≤a*b:=by
 have:=Int.mul_le_mul_of_nonneg_left g e
 simpa using this
theorem gk {a b:Int}(e:1≤a)(g:0≤b):b≤a*b:=by rw [Int.mul_comm]; exact fE g e
def pr:List Int→Int
 | []=>1
 | d::ds=>d*pr ds
def SZ (ds:List Int):Prop:=(∀ d∈ds,1≤d)∧pr ds≤4096
instance (ds:List Int):Decidable (SZ ds):=by unfold SZ; infer_instance
def fX (ds:List Int):Prop:=ds.length≤6∧SZ ds
instance (ds:List Int):Decidable (fX ds):=by unfold fX; infer_instance
theorem cX {ds:List Int}(h:∀ d∈ds,1≤d):1≤pr ds:=by
 induction ds with
 | nil=>exact Int.le_refl 1
 | cons d ds ih =>
  have h1:=h d (by simp)
  have h2:=ih fun x a=>h x (by simp [a])
  exact Int.le_trans h1 (fE (by omega) h2)
theorem iD (a b:List Int):pr (a++b)=pr a*pr b:=by
 induction a with
 | nil=>simp [pr]
 | cons x a ih=>simp [pr,ih,Int.mul_assoc]
theorem fS (ds:List Int)(k:Nat):pr ds=pr (ds.take k)*pr (ds.drop k):=by
 rw [← iD,List.take_append_drop]
theorem SZ.take {ds:List Int}(h:SZ ds)(k:Nat):SZ (ds.take k):=by
 refine ⟨fun d a=>h.1 d (List.mem_of_mem_take a),?_⟩
 have h1:=h.2
 rw [fS ds k] at h1
 have h2:1≤pr (ds.drop k):=cX fun d a=>h.1 d (List.mem_of_mem_drop a)
 have e:1≤pr (ds.take k):=cX fun d a=>h.1 d (List.mem_of_mem_take a)
 exact Int.le_trans (fE (by omega) h2) h1
theorem SZ.drop {ds:List Int}(h:SZ ds)(k:Nat):SZ (ds.drop k):=by
 refine ⟨fun d a=>h.1 d (List.mem_of_mem_drop a),?_⟩
 have h1:=h.2
 rw [fS ds k] at h1
 have h2:1≤pr (ds.drop k):=cX fun d a=>h.1 d (List.mem_of_mem_drop a)
 have e:1≤pr (ds.take k):=cX fun d a=>h.1 d (List.mem_of_mem_take a)
 exact Int.le_trans (gk e (by omega)) h1
theorem SZ.tail {d:Int}{ds:List Int}(h:SZ (d::ds)):SZ ds:=h.drop 1
theorem SZ.pos {ds:List Int}(h:SZ ds):1≤pr ds:=cX h.1
theorem SZ.mem {ds:List Int}(h:SZ ds){d:Int}(e:d∈ds):1≤d∧d≤4096:=by
 refine ⟨h.1 d e,?_⟩
 obtain ⟨a,b,rfl⟩:=List.append_of_mem e
 have h2:=h.2
 rw [iD] at h2
 have j:1≤pr a:=cX fun x g=>h.1 x (by simp [g])
 have m:1≤pr b:=cX fun x g=>h.1 x (by simp [g])
 have q:=h.1 d e
 have i:d≤pr (d::b):=fE (by omega) m
 exact Int.le_trans (Int.le_trans i (gk j (by omega))) h2
theorem ne {R:Type}(h:R)(i:Int→R)(ds:List Int)(k:Nat)(n:Int)(r:1≤n)(h1:n≤4096) :
  lE (fun (s:Int) (_:Nat) (x:Int)=>if (decide (x<1)||decide (x>4096))=true then .inr h else if decide (s*x>4096)=true then .inr h else .inl (s*x)) i ds k n
   = if (∀ d∈ds,1≤d)∧n*pr ds≤4096 then i (n*pr ds) else h:=by
 induction ds generalizing n k with
 | nil=>simp [lE,pr,h1]
 | cons d ds ih =>
  unfold lE
  by_cases c1:d<1
  ·have m:¬ ((∀ x∈d::ds,1≤x)∧n*pr (d::ds)≤4096):=fun ⟨a,_⟩=>by have:=a d (by simp); omega
   rw [if_neg m]
   simp [c1]
  ·have cC:d>4096∨n*d>4096→¬ ((∀ x∈d::ds,1≤x)∧n*pr (d::ds)≤4096):=by
    rintro j ⟨a,b⟩
    have u:1≤pr ds:=cX fun x q=>a x (by simp [q])
    have e:n*pr (d::ds)=n*d*pr ds:=by simp [pr,Int.mul_assoc]
    rw [e] at b
    have h2:d≤n*d:=gk r (by omega)
    have B:n*d≤n*d*pr ds:=fE (by omega) u
    rcases j with j | j<;>omega
   by_cases c2:d>4096
   ·rw [if_neg (cC (.inl c2))]; simp [c2]
   ·by_cases c3:n*d>4096
    ·rw [if_neg (cC (.inr c3))]; simp [c1,c2,c3]
    ·have D:d≤n*d:=gk r (by omega)
     simp only [c1,c2,c3,decide_false,Bool.or_self,Bool.false_eq_true,if_false]
     rw [ih (k+1) (n*d) (by omega) (by omega)]
     have e:n*pr (d::ds)=n*d*pr ds:=by simp [pr,Int.mul_assoc]
     by_cases g:(∀ x∈ds,1≤x)∧n*d*pr ds≤4096
     ·rw [if_pos g,if_pos ⟨List.forall_mem_cons.2 ⟨by omega,g.1⟩,by rw [e]; exact g.2⟩,e]
     ·rw [if_neg g,if_neg fun a=>g ⟨fun x q=>a.1 x (by simp [q]),by rw [← e]; exact a.2⟩]
theorem oI {R:Type}(a:Int→R)(ds:List Int)(k:Nat)(n:Int):lE (fun (s:Int) (_:Nat) (x:Int)=>.inl (s*x)) a ds k n=a (n*pr ds):=by
 induction ds generalizing n k with
 | nil=>simp [lE,pr]
 | cons d ds ih =>
  unfold lE
  simp only
  rw [ih]
  simp [pr,Int.mul_assoc]
theorem eU {a b:Int}(e:0≤a)(h1:a≤65536)(h2:0≤b)(g:b≤65536):aK (a*b)=a*b:=by
 have h:a*b≤65536*65536:=Int.mul_le_mul h1 g h2 (by omega)
 have i:0≤a*b:=Int.mul_nonneg e h2
 exact bH (by omega) (by omega)
theorem kW {ds:List Int}(r:ds.length<cC):Zp ds=some (if SZ ds then pr ds else 0):=by
 have:=fJ (S:=Int) ds (fun _ n=>1≤n∧n≤4096) (fun s:Int×Int=>Zp_L1 ds s.1 s.2) (fun n i=>(n,i)) (fun (s:Int) (_:Nat) (x:Int)=>if (decide (x<1)||decide (x>4096))=true then .inr (.inl (0:Int)) else if decide (s*x>4096)=true then .inr (.inl 0) else .inl (s*x)) (fun n=>.inr n)
  (fun n k m q=>by
   simp only [Zp_L1]
   rw [if_pos (by simp; omega),if_pos (by omega)]
   split
   ·rfl
   ·rename_i h
    simp only [Bool.or_eq_true,decide_eq_true_eq,not_or] at h
    rw [eU (by omega) (by omega) (by omega) (by omega),bT (by omega)]
    split<;>rfl)
  (fun n k s m q j=>by
   split at j
   ·cases j
   ·rename_i h
    simp only [Bool.or_eq_true,decide_eq_true_eq,not_or] at h
    split at j
    ·cases j
    ·rename_i h2
     simp only [decide_eq_true_eq] at h2
     cases j
     have:=gk (a:=n) (b:=ix ds (k:Int)) m.1 (by omega)
     omega)
  (fun n _=>by simp only [Zp_L1]; rw [if_neg (by simp)]) 1 ⟨by omega,by omega⟩
 unfold Zp
 rw [this,ne _ _ _ _ _ (by omega) (by omega)]
 simp only [Int.one_mul,Option.bind_some]
 have e:SZ ds↔(∀ d∈ds,1≤d)∧pr ds≤4096:=Iff.rfl
 by_cases h:SZ ds
 ·rw [if_pos (e.1 h),if_pos h]; rfl
 ·rw [if_neg (fun g=>h (e.2 g)),if_neg h]
theorem kX {ds:List Int}(a:ds.length<cC):Z0c ds=some (decide (fX ds)):=by
 unfold Z0c
 by_cases h:ds.length≤6
 ·have e:decide ((ds.length:Int)≤6)=true:=by simp; omega
  rw [e]
  simp only [bR,kW a,cond_true,Option.bind_some,Bool.true_and]
  congr 1
  by_cases g:SZ ds
  ·have:=g.pos; simp [g,fX,h]; omega
  ·simp [g,fX]
 ·have e:decide ((ds.length:Int)≤6)=false:=by simp; omega
  rw [e]
  simp [bR,fX,h]
theorem jA {ds:List Int}(r:ds.length<cC):Zc ds=some (decide (fX ds)):=by
 have:=fJ (S:=Int) ds (fun _ n=>1≤n∧n≤4096) (fun s:Int×Int=>Zc_L1 ds s.1 s.2) (fun n i=>(n,i)) (fun (s:Int) (_:Nat) (x:Int)=>if (decide (x<1)||decide (x>4096))=true then .inr (.inl false) else if decide (s*x>4096)=true then .inr (.inl false) else .inl (s*x)) (fun n=>.inr ())
  (fun n k m q=>by
   simp only [Zc_L1]
   rw [if_pos (by simp; omega),if_pos (by omega)]
   split
   ·rfl
   ·rename_i h
    simp only [Bool.or_eq_true,decide_eq_true_eq,not_or] at h
    rw [eU (by omega) (by omega) (by omega) (by omega),bT (by omega)]
    split<;>rfl)
  (fun n k s m q j=>by
   split at j
   ·cases j
   ·rename_i h
    simp only [Bool.or_eq_true,decide_eq_true_eq,not_or] at h
    split at j
    ·cases j
    ·rename_i h2
     simp only [decide_eq_true_eq] at h2
     cases j
     have:=gk (a:=n) (b:=ix ds (k:Int)) m.1 (by omega)
     omega)
  (fun n _=>by simp only [Zc_L1]; rw [if_neg (by simp)]) 1 ⟨by omega,by omega⟩
 unfold Zc
 rw [this,ne _ _ _ _ _ (by omega) (by omega)]
 simp only [Int.one_mul,Option.bind_some]
 have e:SZ ds↔(∀ d∈ds,1≤d)∧pr ds≤4096:=Iff.rfl
 by_cases h:SZ ds
 ·rw [if_pos (e.1 h)]
  simp only [Zc_J1]
  congr 1
  simp [fX,h]; omega
 ·rw [if_neg (fun g=>h (e.2 g))]
  simp [fX,h]
theorem kY {ds:List Int}(m:ds.length<cC)(h:SZ ds):Ze ds=some (pr ds):=by
 have:=fJ (S:=Int) ds (fun k n=>n=pr (ds.take k)) (fun s:Int×Int=>Ze_L1 ds s.1 s.2) (fun n i=>(n,i)) (fun (s:Int) (_:Nat) (x:Int)=>.inl (s*x)) (fun n=>n)
  (fun n k e a=>by
   simp only [Ze_L1]
   have h1:=(h.take k)
   have h2:=h1.pos
   have j:=h.mem (aN a)
   rw [if_pos (by simp; omega),if_pos (by omega),eU (by omega) (by have:=h1.2; omega) (by omega) (by omega),bT (by omega)])
  (fun n k s e a g=>by
   simp only [Sum.inl.injEq] at g
   rw [← g,e,List.take_succ_eq_append_getElem a,iD,bC a]
   simp [pr])
  (fun n _=>by simp only [Ze_L1]; rw [if_neg (by simp)]) 1 rfl
 unfold Ze
 rw [this,oI]
 simp [Ze_J1]
def fq:List Int→Int→List Int
 | [],_=>[]
 | d::ds,k=>(k / pr ds) % d::fq ds k
def fY:List Int→List Int→Int
 | d::ds,i::is=>i*pr ds+fY ds is
 | _,_=>0
def IV:List Int→List Int→Prop
 | [],[]=>True
 | d::ds,i::is=>(0≤i∧i<d)∧IV ds is
 | _,_=>False
theorem jB (ds:List Int)(k:Int):(fq ds k).length=ds.length:=by
 induction ds with
 | nil=>rfl
 | cons d ds ih=>simp [fq,ih]
theorem IV.len {ds is:List Int}(h:IV ds is):is.length=ds.length:=by
 induction ds generalizing is with
 | nil=>cases is with
  | nil=>rfl
  | cons=>exact h.elim
 | cons d ds ih=>cases is with
  | nil=>exact h.elim
  | cons i is=>simp [ih h.2]
theorem ga {ds:List Int}(h:∀ d∈ds,1≤d)(k:Int):IV ds (fq ds k):=by
 induction ds with
 | nil=>trivial
 | cons d ds ih =>
  have e:=h d (by simp)
  exact ⟨⟨Int.emod_nonneg _ (by omega),Int.emod_lt_of_pos _ (by omega)⟩,ih fun x a=>h x (by simp [a])⟩
theorem gb {ds is:List Int}(h:∀ d∈ds,1≤d)(e:IV ds is):0≤fY ds is∧fY ds is<pr ds:=by
 induction ds generalizing is with
 | nil=>cases is with
  | nil=>exact ⟨Int.le_refl 0,by decide⟩
  | cons=>exact e.elim
 | cons d ds ih=>cases is with
  | nil=>exact e.elim
  | cons i is =>
   obtain ⟨a,b⟩:=ih (fun x g=>h x (by simp [g])) e.2
   have m:1≤pr ds:=cX fun x g=>h x (by simp [g])
   have j:=Int.mul_nonneg e.1.1 (show 0≤pr ds by omega)
   have h1:(i+1)*pr ds≤d*pr ds:=Int.mul_le_mul_of_nonneg_right (by have:=e.1.2; omega) (by omega)
   rw [Int.add_mul] at h1
   show 0≤i*pr ds+fY ds is∧i*pr ds+fY ds is<d*pr ds
   omega
theorem nf {k p d:Int}(u:1≤p)(r:1≤d):k / (d*p)=k / p / d∧k % (d*p)=k / p % d*p+k % p:=by
 have a:=Int.emod_nonneg k (show p≠0 by omega)
 have b:=Int.emod_lt_of_pos k (show 0<p by omega)
 have c:=Int.emod_nonneg (k / p) (show d≠0 by omega)
 have e:=Int.emod_lt_of_pos (k / p) (show 0<d by omega)
 have h1:=Int.mul_nonneg c (show 0≤p by omega)
 have h2:(k / p % d+1)*p≤d*p:=Int.mul_le_mul_of_nonneg_right (by omega) (by omega)
 rw [Int.add_mul] at h2
 have i:0<d*p:=Int.mul_pos (by omega) (by omega)
 refine (Int.ediv_emod_unique (q:=k / p / d) i).2 ⟨?_,by omega,by omega⟩
 have j:=Int.mul_ediv_add_emod k p
 have g:=Int.mul_ediv_add_emod (k / p) d
 have h:d*p*(k / p / d)=p*(d*(k / p / d)):=by rw [Int.mul_comm d p,Int.mul_assoc]
 have m:p*(k / p)=p*(d*(k / p / d))+p*(k / p % d):=by rw [← Int.mul_add,g]
 rw [h,Int.mul_comm (k / p % d) p]
 omega
theorem oJ {ds:List Int}(h:∀ d∈ds,1≤d)(k:Int):fY ds (fq ds k)=k % pr ds:=by
 induction ds generalizing k with
 | nil=>simp [fY,pr,Int.emod_one]
 | cons d ds ih =>
  have g:1≤pr ds:=cX fun x a=>h x (by simp [a])
  have e:=h d (by simp)
  show k / pr ds % d*pr ds+fY ds (fq ds k)=k % (d*pr ds)
  rw [ih fun x a=>h x (by simp [a])]
  exact (nf g e).2.symm
theorem mj {ds:List Int}(h:∀ d∈ds,1≤d){k:Int}(a:0≤k)(h1:k<pr ds):fY ds (fq ds k)=k:=by
 rw [oJ h,Int.emod_eq_of_lt a h1]
theorem dN {S R:Type}{f:S→Option (S⊕R)}(a:Nat→S)(n:Nat){r:R}(q:∀ j,j<n→f (a j)=some (.inl (a (j+1))))(h:f (a n)=some (.inr r)){s:S}(g:s=a 0):aI f s=some r:=by
 have e:∀ m j,j+m=n→aI f (a j)=some r:=by
  intro m
  induction m with
  | zero=>intro j i; rw [show j=n by omega]; exact cH h
  | succ m ih=>intro j i; rw [cZ (q j (by omega))]; exact ih (j+1) (by omega)
 rw [g]
 exact e n 0 (by omega)
theorem hO {S R:Type}{f:S→Option (S⊕R)}(I:Nat→S→Prop)(n:Nat){Post:R→Prop}(q:∀ j s,j<n→I j s→∃ s',f s=some (.inl s')∧I (j+1) s')(h:∀ s,I n s→∃ r,f s=some (.inr r)∧Post r){s:S}(g:I 0 s):∃ r,aI f s=some r∧Post r:=by
 have e:∀ m j s,j+m=n→I j s→∃ r,aI f s=some r∧Post r:=by
  intro m
  induction m with
  | zero =>
   intro j s i a
   rw [show j=n by omega] at a
   obtain ⟨r,h1,h2⟩:=h s a
   exact ⟨r,cH h1,h2⟩
  | succ m ih =>
   intro j s i a
   obtain ⟨s',h1,h2⟩:=q j s (by omega) a
   rw [cZ h1]
   exact ih (j+1) s' (by omega) h2
 exact e n 0 s (by omega) g
structure TOk (dims data:List Int):Prop where
 d:fX dims
 l:(data.length:Int)=pr dims
 x:∀ x∈data,0≤x∧x<2147483647
instance (dims data:List Int):Decidable (TOk dims data):=decidable_of_iff (fX dims∧(data.length:Int)=pr dims∧∀ x∈data,0≤x∧x<2147483647) ⟨fun h=>⟨h.1,h.2.1,h.2.2⟩,fun h=>⟨h.d,h.l,h.x⟩⟩
theorem kn (xs:List Int):(xs.all fun x=>!(decide (x<0)||decide (x≥2147483647)))=decide (∀ x∈xs,0≤x∧x<2147483647):=by
 rw [Bool.eq_iff_iff]
 simp only [List.all_eq_true,decide_eq_true_eq,Bool.not_eq_true',Bool.or_eq_false_iff,decide_eq_false_iff_not]
 exact ⟨fun h x a=>by have:=h x a; omega,fun h x a=>by have:=h x a; omega⟩
theorem ng {t:Tensor}(a:t.Dims.length<cC)(j:t.Data.length<cC):Zo t=some (decide (TOk t.Dims t.Data)):=by
 unfold Zo
 rw [kX a]
 by_cases h:fX t.Dims
 ·simp only [h,decide_true,Option.bind_some,bR,Bool.not_true,Bool.not_false,cond_true,Bool.false_or,kW a,h.2,if_true]
  by_cases e:(t.Data.length:Int)=pr t.Dims
  ·rw [if_neg (by simp [e])]
   have:=dC t.Data (fun s:Int=>Zo_L1 t s) (fun i=>i) (fun x=>!(decide (x<0)||decide (x≥2147483647))) (.inl false) (.inr ())
    (fun k m=>by
     simp only [Zo_L1]
     rw [if_pos (by simp; omega),if_pos (by omega),bT (by omega)]
     cases (decide (ix t.Data (k:Int)<0)||decide (ix t.Data (k:Int)≥2147483647))<;>rfl)
    (by simp only [Zo_L1]; rw [if_neg (by simp)])
   rw [this,kn]
   by_cases g:∀ x∈t.Data,0≤x∧x<2147483647
   ·have:TOk t.Dims t.Data:=⟨h,e,g⟩
    simp only [decide_eq_true g,decide_eq_true this,if_true,Option.bind_some,Zo_J1]
   ·have:¬ TOk t.Dims t.Data:=fun q=>g q.x
    simp only [decide_eq_false g,decide_eq_false this,Bool.false_eq_true,if_false,Option.bind_some]
  ·rw [if_pos (by simp [e])]
   have:¬ TOk t.Dims t.Data:=fun q=>e q.l
   simp [this]
 ·have:¬ TOk t.Dims t.Data:=fun q=>h q.d
  simp [h,this,bR]
theorem rh {t:Tensor}(a:t.Dims.length<cC)(m:t.Data.length<cC):Z0p t=some (decide (TOk t.Dims t.Data)):=by
 unfold Z0p
 rw [jA a]
 by_cases h:fX t.Dims
 ·simp only [h,decide_true,Option.bind_some,bR,cond_true,Bool.true_and,kY a h.2]
  by_cases e:(t.Data.length:Int)=pr t.Dims
  ·have:=dC t.Data (fun s:Int=>Z01_L1 t.Data s) (fun i=>i) (fun x=>!(decide (x<0)||decide (x≥2147483647))) (.inl false) (.inr ())
    (fun k r=>by
     simp only [Z01_L1,Z12,Option.bind_some]
     rw [if_pos (by simp; omega),if_pos (by omega),bT (by omega)]
     by_cases c1:ix t.Data (k:Int)<0
     ·have:¬ ix t.Data (k:Int)≥0:=by omega
      simp [c1,this]
     ·have h1:ix t.Data (k:Int)≥0:=by omega
      by_cases c2:ix t.Data (k:Int)<2147483647
      ·have h2:¬ ix t.Data (k:Int)≥2147483647:=by omega
       simp [c1,h1,c2,h2]
      ·have h2:ix t.Data (k:Int)≥2147483647:=by omega
       simp [c1,h1,c2,h2])
    (by simp only [Z01_L1]; rw [if_neg (by simp)])
   simp only [e,beq_self_eq_true,cond_true,Z01,this,kn]
   by_cases g:∀ x∈t.Data,0≤x∧x<2147483647
   ·have:TOk t.Dims t.Data:=⟨h,e,g⟩
    simp only [decide_eq_true g,decide_eq_true this,if_true,Option.bind_some,Z01_J1,Bool.and_self]
   ·have:¬ TOk t.Dims t.Data:=fun q=>g q.x
    simp only [decide_eq_false g,decide_eq_false this,Bool.false_eq_true,if_false,Option.bind_some,Bool.and_false]
  ·have:¬ TOk t.Dims t.Data:=fun q=>e q.l
   have j:((t.Data.length:Int)==pr t.Dims)=false:=by simp [e]
   simp [this,j]
 ·have:¬ TOk t.Dims t.Data:=fun q=>h q.d
  simp [h,this,bR]
theorem jC {xs:List Int}(h:xs.length≤17592186044416):Z0b xs=some xs:=by
 unfold Z0b
 rw [if_pos (by simpa using h)]
 simp
theorem gP {xs:List Int}(h:xs.length≤17592186044416):Zw xs=some xs:=by
 unfold Zw; rw [if_pos h]
theorem pT {ds:List Int}(h:fX ds):Z0h ds=some ⟨ds,List.replicate (pr ds).toNat 0⟩:=by
 have h1:=h.1
 have h2:=h.2.pos
 have a:=h.2.2
 unfold Z0h
 rw [jC (by omega)]
 simp only [Option.bind_some,kW (ds:=ds) (by unfold cC; omega),h.2,if_true]
 rw [if_pos (by omega)]
theorem oK {ds:List Int}{k:Int}(h:fX ds)(e:0≤k)(h1:k≤65536):Zg ds k=some (fq ds k):=by
 have T:=h.1
 unfold Zg
 rw [if_pos (by omega)]
 have:=dN (f:=fun s:Int×List Int×Int=>Zg_L1 ds s.1 s.2.1 s.2.2) (r:=fq ds k)
  (fun j=>(k / pr (ds.drop (ds.length - j)),List.replicate (ds.length - j) 0++fq (ds.drop (ds.length - j)) k,(ds.length:Int) - 1 - j)) ds.length
  (fun j O=>by
   obtain ⟨i,E⟩:∃ i,i=ds.length - (j+1):=⟨_,rfl⟩
   have q:ds.length - j=i+1:=by omega
   have u:(ds.length:Int) - 1 - (j:Int)=(i:Int):=by omega
   have a:i<ds.length:=by omega
   have F:=h.2.mem (aN a)
   have G:=(h.2.drop (i+1)).pos
   have g:ds.drop i=ix ds (i:Int)::ds.drop (i+1):=by rw [List.drop_eq_getElem_cons a,bC a]
   have m:0≤k / pr (ds.drop (i+1)):=Int.ediv_nonneg e (by omega)
   have I:k / pr (ds.drop (i+1))≤65536:=Int.le_trans (Int.ediv_le_self _ e) h1
   simp only [Zg_L1,q,u,← E]
   rw [if_pos (by simp),if_pos (by omega),if_pos (by omega),if_pos (by simp; omega)]
   have B:(k / pr (ds.drop (i+1))).tdiv (ix ds (i:Int))=k / pr (ds.drop i):=by
    rw [Int.tdiv_eq_ediv_of_nonneg m,g]; exact (nf G F.1).1.symm
   have D:(k / pr (ds.drop (i+1))).tmod (ix ds (i:Int))=k / pr (ds.drop (i+1)) % ix ds (i:Int):=Int.tmod_eq_emod_of_nonneg m
   have J:0≤k / pr (ds.drop i):=Int.ediv_nonneg e (by have:=(h.2.drop i).pos; omega)
   have M:k / pr (ds.drop i)≤65536:=Int.le_trans (Int.ediv_le_self _ e) h1
   rw [B,D,bH (by omega) (by omega),bH (by omega) (by omega)]
   congr 4
   ·rw [g,List.set_append_left _ _ (by simp),List.replicate_succ',List.set_append_right _ _ (by simp)]
    simp [fq]
   ·omega)
  (by
   simp only [Zg_L1,Nat.sub_self,List.drop_zero,List.replicate_zero,List.nil_append]
   rw [if_neg (by simp; omega)])
  (s:=(k,List.replicate (ds.length:Int).toNat 0,aK ((ds.length:Int) - 1))) (by
   rw [bH (by omega) (by omega)]
   simp [pr,fq])
 rw [this]
 rfl
theorem ko {ds is:List Int}(g:IV ds is){k:Nat}(h:k<ds.length):IV (ds.take k) (is.take k)∧fY (ds.take (k+1)) (is.take (k+1))=fY (ds.take k) (is.take k)*ix ds (k:Int)+ix is (k:Int):=by
 induction ds generalizing is k with
 | nil=>simp at h
 | cons d ds ih=>cases is with
  | nil=>exact g.elim
  | cons i is =>
   cases k with
   | zero=>simp [IV,fY,pr,ix]
   | succ k =>
    obtain ⟨a,b⟩:=ih g.2 (k:=k) (by simpa using h)
    refine ⟨⟨g.1,a⟩,?_⟩
    have e:k<ds.length:=by simpa using h
    have j:ix (d::ds) ((k+1:Nat):Int)=ix ds (k:Int):=by simp [ix]
    have m:ix (i::is) ((k+1:Nat):Int)=ix is (k:Int):=by simp [ix]
    rw [j,m]
    have q:pr (ds.take (k+1))=pr (ds.take k)*ix ds (k:Int):=by rw [List.take_succ_eq_append_getElem e,iD,bC e]; simp [pr]
    show i*pr (ds.take (k+1))+fY (ds.take (k+1)) (is.take (k+1))=(i*pr (ds.take k)+fY (ds.take k) (is.take k))*ix ds (k:Int)+ix is (k:Int)
    rw [b,q,Int.add_mul,Int.mul_assoc,Int.add_assoc]
theorem jD {ds is:List Int}(h:fX ds)(g:IV ds is):Zy ds is=some (fY ds is):=by
 have E:=h.1
 have u:=g.len
 unfold Zy
 have:=dN (f:=fun s:Int×Int=>Zy_L1 ds is s.1 s.2) (r:=fY ds is) (fun j=>(fY (ds.take j) (is.take j),(j:Int))) ds.length
  (fun j m=>by
   obtain ⟨a,b⟩:=ko g m
   have D:=gb (fun d i=>h.2.1 d (List.mem_of_mem_take i)) a
   have G:=(h.2.take j).2
   have q:=gb (fun d i=>h.2.1 d (List.mem_of_mem_take i)) (ds:=ds.take (j+1)) (is:=is.take (j+1)) (by
    by_cases e:j+1<ds.length
    ·exact (ko g e).1
    ·rw [List.take_of_length_le (by omega),List.take_of_length_le (by omega)]; exact g)
   have B:=(h.2.take (j+1)).2
   have F:=h.2.mem (aN m)
   simp only [Zy_L1]
   rw [if_pos (by simp; omega),if_pos (by omega),if_pos (by omega),eU (by omega) (by omega) (by omega) (by omega),← b,bH (by omega) (by omega),bT (by unfold cC; omega)])
  (by simp only [Zy_L1]; rw [if_neg (by simp),List.take_length,List.take_of_length_le (by omega)])
  (s:=(0,0)) (by simp [fY])
 rw [this]
 rfl
theorem tM {t:Tensor}{is:List Int}(h:TOk t.Dims t.Data)(a:IV t.Dims is):∃ x,Z0f t is=some x∧x∈t.Data:=by
 have g:=gb h.d.2.1 a
 have i:=h.l
 unfold Z0f
 rw [jD h.d a]
 simp only [Option.bind_some]
 rw [if_pos (by omega)]
 refine ⟨_,rfl,?_⟩
 have e:(((fY t.Dims is).toNat:Nat):Int)=fY t.Dims is:=by omega
 rw [← e]
 exact aN (by omega)
def zs (f:Int→Int→Int):List Int→List Int→Int
 | a::xs,b::ys=>f a b+zs f xs ys
 | _,_=>0
theorem jE (f:Int→Int→Int){xs ys:List Int}{j:Nat}(e:j<xs.length)(g:j<ys.length):zs f (xs.take (j+1)) (ys.take (j+1))=zs f (xs.take j) (ys.take j)+f (ix xs (j:Int)) (ix ys (j:Int)):=by
 induction xs generalizing ys j with
 | nil=>simp at e
 | cons a xs ih=>cases ys with
  | nil=>simp at g
  | cons b ys =>
   cases j with
   | zero=>simp [zs,ix]
   | succ j =>
    have h:ix (a::xs) ((j+1:Nat):Int)=ix xs (j:Int):=by simp [ix]
    have i:ix (b::ys) ((j+1:Nat):Int)=ix ys (j:Int):=by simp [ix]
    have:=ih (ys:=ys) (j:=j) (by simpa using e) (by simpa using g)
    rw [h,i]
    simp only [List.take_succ_cons,zs] at this ⊢
    omega
theorem tN (f:Int→Int→Int){xs ys:List Int}{M:Int}(h:xs.length=ys.length)(a:∀ j:Nat,j<xs.length → -M≤f (ix xs (j:Int)) (ix ys (j:Int))∧f (ix xs (j:Int)) (ix ys (j:Int))≤M){j:Nat}(g:j≤xs.length) :
  -(j*M)≤zs f (xs.take j) (ys.take j)∧zs f (xs.take j) (ys.take j)≤j*M:=by
 induction j with
 | zero=>simp [zs]
 | succ j ih =>
  have h1:=ih (by omega)
  have h2:=a j (by omega)
  rw [jE f (by omega) (by omega)]
  have e:((j+1:Nat):Int)*M=(j:Int)*M+M:=by rw [show ((j+1:Nat):Int)=(j:Int)+1 by omega,Int.add_mul]; omega
  rw [e]
  omega
def lw (d s:Int):Int:=if s*(d - 1)<0 then s*(d - 1) else 0
def hw (d s:Int):Int:=if s*(d - 1)>0 then s*(d - 1) else 0
theorem ri {ds is ss:List Int}(e:IV ds is)(h:ss.length=ds.length):zs lw ds ss≤zs (·*·) is ss∧zs (·*·) is ss≤zs hw ds ss:=by
 induction ds generalizing is ss with
 | nil=>cases is with
  | nil=>simp [zs]
  | cons=>exact e.elim
 | cons d ds ih=>cases is with
  | nil=>exact e.elim
  | cons i is=>cases ss with
   | nil=>simp at h
   | cons s ss =>
    obtain ⟨a,b⟩:=ih e.2 (ss:=ss) (by simpa using h)
    have h1:0≤i∧i≤d - 1:=⟨e.1.1,by have:=e.1.2; omega⟩
    have j:lw d s≤i*s∧i*s≤hw d s:=by
     unfold lw hw
     rw [Int.mul_comm i s]
     rcases Int.le_total 0 s with g | g
     ·have m:0≤s*i:=Int.mul_nonneg g h1.1
      have q:s*i≤s*(d - 1):=Int.mul_le_mul_of_nonneg_left h1.2 g
      split<;>split<;>omega
     ·have m:s*i≤0:=Int.mul_nonpos_of_nonpos_of_nonneg g h1.1
      have q:s*(d - 1)≤s*i:=Int.mul_le_mul_of_nonpos_left g h1.2
      split<;>split<;>omega
    simp only [zs]
    omega
structure VG (dims ss:List Int)(off base:Int):Prop where
 d:fX dims
 l:ss.length=dims.length
 b:1≤base∧base≤4096
 o:0≤off∧off<base
 s:∀ s∈ss,-4096≤s∧s≤4096
 lo:0≤off+zs lw dims ss
 hi:off+zs hw dims ss<base
theorem VG.place {a ss:List Int}{e base:Int}(h:VG a ss e base){is:List Int}(g:IV a is):0≤e+zs (·*·) is ss∧e+zs (·*·) is ss<base:=by
 have h1:=ri g h.l
 have h2:=h.lo
 have i:=h.hi
 omega
theorem IV.mem {ds is:List Int}(h:IV ds is){j:Nat}(a:j<is.length):0≤ix is (j:Int)∧ix is (j:Int)<ix ds (j:Int):=by
 induction ds generalizing is j with
 | nil=>cases is with
  | nil=>simp at a
  | cons=>exact h.elim
 | cons d ds ih=>cases is with
  | nil=>exact h.elim
  | cons i is=>cases j with
   | zero=>exact h.1
   | succ j =>
    have e:ix (i::is) ((j+1:Nat):Int)=ix is (j:Int):=by simp [ix]
    have g:ix (d::ds) ((j+1:Nat):Int)=ix ds (j:Int):=by simp [ix]
    rw [e,g]
    exact ih h.2 (by simpa using a)
theorem nh {a b M N:Int}(e:0≤a)(h1:a≤M)(h2 : -N≤b)(g:b≤N)(h:0≤N) : -(M*N)≤a*b∧a*b≤M*N:=by
 have i:a*b≤a*N:=Int.mul_le_mul_of_nonneg_left g e
 have j:a*N≤M*N:=Int.mul_le_mul_of_nonneg_right h1 h
 have k3:a*(-N)≤a*b:=Int.mul_le_mul_of_nonneg_left h2 e
 rw [Int.mul_neg] at k3
 omega
theorem jF {α:Type}(xs:List α){l:Int}:sub xs l (xs.length:Int)=xs.drop l.toNat:=by simp [sub]
theorem ni {v:View}(h:VG v.Dims v.Strides v.Offset v.Base):Zk v=some true:=by
 have Y:=h.d.1
 have T:=h.l
 have O:=h.b
 have Z:=h.o
 unfold Zk
 rw [jA (by unfold cC; omega)]
 simp only [h.d,decide_true,Option.bind_some]
 rw [if_neg (by simp; omega)]
 have e:∀ j:Nat,j<v.Dims.length → -(4096*4096)≤ix v.Strides (j:Int)*(ix v.Dims (j:Int) - 1)∧ix v.Strides (j:Int)*(ix v.Dims (j:Int) - 1)≤4096*4096:=by
  intro j a
  have h2:=h.d.2.mem (aN (xs:=v.Dims) (k:=j) a)
  have i:=h.s _ (aN (xs:=v.Strides) (k:=j) (by omega))
  rw [Int.mul_comm (ix v.Strides (j:Int))]
  exact nh (by omega) (by omega) i.1 i.2 (by omega)
 have bd:∀ (f:Int→Int→Int),(f=lw∨f=hw)→∀ j,j≤v.Dims.length → -(6*(4096*4096))≤zs f (v.Dims.take j) (v.Strides.take j)∧zs f (v.Dims.take j) (v.Strides.take j)≤6*(4096*4096):=by
  intro f D j a
  have:=tN f (xs:=v.Dims) (ys:=v.Strides) (M:=4096*4096) (by omega) (fun j a=>by
   have:=e j a
   rcases D with rfl | rfl
   ·unfold lw; split<;>omega
   ·unfold hw; split<;>omega) a
  have g:(j:Int)≤6:=by omega
  have:=Int.mul_le_mul_of_nonneg_right g (show (0:Int)≤4096*4096 by omega)
  omega
 have:=dN (f:=fun s:Int×Int×Int=>Zk_L1 v s.1 s.2.1 s.2.2) (r:=.inr (v.Offset+zs lw v.Dims v.Strides,v.Offset+zs hw v.Dims v.Strides)) (fun j=>(v.Offset+zs lw (v.Dims.take j) (v.Strides.take j),v.Offset+zs hw (v.Dims.take j) (v.Strides.take j),(j:Int))) v.Dims.length
  (fun j a=>by
   have t:=e j a
   have a0:=bd lw (.inl rfl) j (by omega)
   have G:=bd lw (.inl rfl) (j+1) (by omega)
   have I:=bd hw (.inr rfl) j (by omega)
   have J:=bd hw (.inr rfl) (j+1) (by omega)
   have E:=jE lw (xs:=v.Dims) (ys:=v.Strides) (j:=j) (by omega) (by omega)
   have F:=jE hw (xs:=v.Dims) (ys:=v.Strides) (j:=j) (by omega) (by omega)
   have hs:=h.s _ (aN (xs:=v.Strides) (k:=j) (by omega))
   have U:=h.d.2.mem (aN (xs:=v.Dims) (k:=j) a)
   simp only [Zk_L1]
   rw [if_pos (by simp; omega),if_pos (by omega),if_neg (by simp; omega),if_pos (by omega)]
   have m:aK (ix v.Dims (j:Int) - 1)=ix v.Dims (j:Int) - 1:=bH (by omega) (by omega)
   have q:aK (ix v.Strides (j:Int)*(ix v.Dims (j:Int) - 1))=ix v.Strides (j:Int)*(ix v.Dims (j:Int) - 1):=bH (by omega) (by omega)
   have u:lw (ix v.Dims (j:Int)) (ix v.Strides (j:Int))=if ix v.Strides (j:Int)*(ix v.Dims (j:Int) - 1)<0 then ix v.Strides (j:Int)*(ix v.Dims (j:Int) - 1) else 0:=rfl
   have B:hw (ix v.Dims (j:Int)) (ix v.Strides (j:Int))=if ix v.Strides (j:Int)*(ix v.Dims (j:Int) - 1)>0 then ix v.Strides (j:Int)*(ix v.Dims (j:Int) - 1) else 0:=rfl
   rw [m,q,← u,← B,bH (by omega) (by omega),bH (by omega) (by omega),bT (by unfold cC; omega),E,F,Int.add_assoc,Int.add_assoc])
  (by simp only [Zk_L1]; rw [if_neg (by simp; omega),List.take_length,List.take_of_length_le (by omega)])
  (s:=(v.Offset,v.Offset,0)) (by simp [zs])
 rw [this]
 have:=h.lo
 have:=h.hi
 simp only [Option.bind_some,Zk_J1]
 congr 1
 simp; omega
def iT:List Int→List Int
 | []=>[]
 | d::ds=>(if d>1 then pr ds else 0)::iT ds
theorem gQ (ds:List Int):(iT ds).length=ds.length:=by
 induction ds with
 | nil=>rfl
 | cons d ds ih=>simp [iT,ih]
theorem fT {α:Type}[Inhabited α](x:α)(xs:List α)(j:Nat):ix (x::xs) ((j+1:Nat):Int)=ix xs (j:Int):=by simp [ix]
theorem lF {ds:List Int}(h:SZ ds):∀ s∈iT ds,0≤s∧s≤4096:=by
 induction ds with
 | nil=>intro s e; cases e
 | cons d ds ih =>
  have g:=h.tail.pos
  have a:=h.tail.2
  refine List.forall_mem_cons.2 ⟨?_,ih h.tail⟩
  split<;>omega
theorem nj {ds:List Int}(h:SZ ds):zs lw ds (iT ds)=0:=by
 induction ds with
 | nil=>rfl
 | cons d ds ih =>
  have a:=h.1 d (by simp)
  have e:=h.tail.pos
  simp only [iT,zs,ih h.tail]
  unfold lw
  split
  ·have:=Int.mul_nonneg (show 0≤pr ds by omega) (show 0≤d - 1 by omega); split<;>omega
  ·simp
theorem nl {ds:List Int}(h:SZ ds):zs hw ds (iT ds)=pr ds - 1:=by
 induction ds with
 | nil=>rfl
 | cons d ds ih =>
  have a:=h.1 d (by simp)
  have g:=h.tail.pos
  simp only [iT,zs,ih h.tail]
  have e:pr (d::ds)=pr ds*(d - 1)+pr ds:=by simp only [pr]; rw [Int.mul_sub,Int.mul_comm (pr ds) d]; omega
  rw [e]
  unfold hw
  by_cases c:d>1
  ·have:0<pr ds*(d - 1):=Int.mul_pos (by omega) (by omega)
   rw [if_pos c,if_pos this]; omega
  ·have:d=1:=by omega
   subst this; simp
theorem nn {ds:List Int}(h:fX ds):VG ds (iT ds) 0 (pr ds):=by
 have e:=h.2.pos
 have a:=h.2.2
 refine ⟨h,gQ ds,⟨e,a⟩,⟨by omega,by omega⟩,fun s g=>by have:=lF h.2 s g; omega,?_,?_⟩
 ·rw [nj h.2]; decide
 ·rw [nl h.2]; omega
theorem ml {ds is:List Int}(a:IV ds is):zs (·*·) is (iT ds)=fY ds is:=by
 induction ds generalizing is with
 | nil=>cases is with
  | nil=>rfl
  | cons=>exact a.elim
 | cons d ds ih=>cases is with
  | nil=>exact a.elim
  | cons i is =>
   have:=a.1
   simp only [iT,zs,fY,ih a.2]
   split
   ·rfl
   ·have:i=0:=by omega
    subst this; simp
def whole (ds:List Int):View:=⟨ds,iT ds,0,pr ds⟩
theorem jG {ds:List Int}(h:fX ds):Zb ds=some (iT ds):=by
 have G:=h.1
 unfold Zb
 rw [if_pos (by omega)]
 have:=dN (f:=fun s:List Int×Int×Int=>Zb_L1 ds s.1 s.2.1 s.2.2) (r:=iT ds)
  (fun j=>(List.replicate (ds.length - j) 0++iT (ds.drop (ds.length - j)),pr (ds.drop (ds.length - j)),(ds.length:Int) - 1 - j)) ds.length
  (fun j E=>by
   obtain ⟨i,B⟩:∃ i,i=ds.length - (j+1):=⟨_,rfl⟩
   have q:ds.length - j=i+1:=by omega
   have u:(ds.length:Int) - 1 - (j:Int)=(i:Int):=by omega
   have a:i<ds.length:=by omega
   have F:=h.2.mem (aN a)
   have I:=(h.2.drop (i+1)).pos
   have D:=(h.2.drop (i+1)).2
   have e:ds.drop i=ix ds (i:Int)::ds.drop (i+1):=by rw [List.drop_eq_getElem_cons a,bC a]
   have g:pr (ds.drop i)=pr (ds.drop (i+1))*ix ds (i:Int):=by rw [e]; simp [pr,Int.mul_comm]
   simp only [Zb_L1,Zb_J2,q,u,← B]
   rw [if_pos (by simp),if_pos (by omega)]
   have m:aK ((i:Int) - 1)=(ds.length:Int) - 1 - ((j+1:Nat):Int):=by rw [bH (by omega) (by omega)]; omega
   by_cases c:ix ds (i:Int)>1
   ·rw [if_pos (by simp; omega),if_pos (by simp; omega),if_pos (by omega),eU (by omega) (by omega) (by omega) (by omega),← g,m]
    congr 3
    rw [e,List.replicate_succ',List.set_append_left _ _ (by simp),List.set_append_right _ _ (by simp)]
    simp [iT,c]
   ·rw [if_neg (by simp; omega),if_pos (by omega),eU (by omega) (by omega) (by omega) (by omega),← g,m]
    congr 3
    rw [e,List.replicate_succ']
    simp [iT,c])
  (by
   simp only [Zb_L1,Nat.sub_self,List.drop_zero,List.replicate_zero,List.nil_append]
   rw [if_neg (by simp; omega)])
  (s:=(List.replicate (ds.length:Int).toNat 0,1,aK ((ds.length:Int) - 1))) (by
   rw [bH (by omega) (by omega)]
   simp [pr,iT])
 rw [this]
 rfl
theorem oL {ds:List Int}(h:fX ds):Z0q ds=some (whole ds):=by
 have a:=h.1
 unfold Z0q
 rw [jA (by unfold cC; omega)]
 simp only [h,decide_true,Option.bind_some,Bool.not_true,Bool.false_eq_true,if_false]
 rw [gP (by omega),jG h,kY (by unfold cC; omega) h.2]
 rfl
def gR (n:Nat):List Int:=List.replicate n 0
def kZ:List Int→List Int→Option (List Int)
 | d::ds,i::is=>match kZ ds is with
  | some q=>some (i::q)
  | none=>if i+1<d then some ((i+1)::gR ds.length) else none
 | _,_=>none
theorem np {ds is:List Int}(h:is.length=ds.length)(d i:Int):kZ (ds++[d]) (is++[i])=if i+1<d then some (is++[i+1]) else (kZ ds is).map (·++[0]):=by
 induction ds generalizing is with
 | nil=>cases is with
  | nil=>simp [kZ,gR]
  | cons=>simp at h
 | cons e ds ih=>cases is with
  | nil=>simp at h
  | cons j is =>
   have:=ih (is:=is) (by simpa using h)
   simp only [List.cons_append,kZ,this]
   by_cases c:i+1<d
   ·simp [c]
   ·simp only [c,if_false]
    cases kZ ds is with
    | some q=>simp
    | none =>
     simp only [Option.map_none]
     split
     ·simp [gR,List.replicate_succ']
     ·simp
theorem lG {ds:List Int}(h:∀ d∈ds,1≤d){m:Int}(u:m % pr ds=0):fq ds m=gR ds.length:=by
 induction ds generalizing m with
 | nil=>rfl
 | cons d ds ih =>
  have i:1≤pr ds:=cX fun x g=>h x (by simp [g])
  have r:=h d (by simp)
  have e:=(nf (k:=m) i r).2
  have a:=Int.emod_nonneg m (show pr ds≠0 by omega)
  have c:=Int.emod_nonneg (m / pr ds) (show d≠0 by omega)
  have D:m % (d*pr ds)=0:=u
  have b:=Int.mul_nonneg c (show 0≤pr ds by omega)
  have B:=fE c i
  have j:m % pr ds=0:=by omega
  have q:m / pr ds % d=0:=by omega
  simp only [fq,q,ih (fun x g=>h x (by simp [g])) j]
  simp [gR,List.replicate_succ]
theorem lH {ds:List Int}(h:∀ d∈ds,1≤d)(k:Int):kZ ds (fq ds k)=if k % pr ds+1<pr ds then some (fq ds (k+1)) else none:=by
 induction ds generalizing k with
 | nil=>simp [kZ,pr,Int.emod_one]
 | cons d ds ih =>
  have E:1≤pr ds:=cX fun x j=>h x (by simp [j])
  have D:=h d (by simp)
  have m:∀ x∈ds,1≤x:=fun x j=>h x (by simp [j])
  have e:=(nf (k:=k) E D).2
  have a:=Int.emod_nonneg k (show pr ds≠0 by omega)
  have F:=Int.emod_lt_of_pos k (show 0<pr ds by omega)
  have c:=Int.emod_nonneg (k / pr ds) (show d≠0 by omega)
  have I:=Int.emod_lt_of_pos (k / pr ds) (show 0<d by omega)
  have J:=Int.mul_ediv_add_emod k (pr ds)
  have i:pr (d::ds)=d*pr ds:=rfl
  have b:(k / pr ds % d+1)*pr ds≤d*pr ds:=Int.mul_le_mul_of_nonneg_right (by omega) (by omega)
  rw [Int.add_mul] at b
  simp only [fq,kZ,ih m]
  by_cases q:k % pr ds+1<pr ds
  ·have f:=(Int.ediv_emod_unique (a:=k+1) (b:=pr ds) (r:=k % pr ds+1) (q:=k / pr ds) (by omega)).2 ⟨by omega,by omega,by omega⟩
   simp only [if_pos q,f.1]
   rw [if_pos (show k % pr (d::ds)+1<pr (d::ds) by rw [i,e]; omega)]
  ·have O:k % pr ds=pr ds - 1:=by omega
   have f:=(Int.ediv_emod_unique (a:=k+1) (b:=pr ds) (r:=0) (q:=k / pr ds+1) (by omega)).2 ⟨by rw [Int.mul_add]; omega,by omega,by omega⟩
   simp only [if_neg q,f.1]
   by_cases g:k / pr ds % d+1<d
   ·have M:=Int.mul_ediv_add_emod (k / pr ds) d
    have B:=(Int.ediv_emod_unique (a:=k / pr ds+1) (b:=d) (r:=k / pr ds % d+1) (q:=k / pr ds / d) (by omega)).2 ⟨by omega,by omega,by omega⟩
    have u:(k / pr ds % d+2)*pr ds≤d*pr ds:=Int.mul_le_mul_of_nonneg_right (by omega) (by omega)
    rw [Int.add_mul] at u
    rw [if_pos g,if_pos (show k % pr (d::ds)+1<pr (d::ds) by rw [i,e]; omega),B.2,lG m f.2]
   ·have g1:k / pr ds % d=d - 1:=by omega
    have G:k / pr ds % d*pr ds=d*pr ds - pr ds:=by rw [g1,Int.sub_mul]; omega
    rw [if_neg g,if_neg (show ¬ k % pr (d::ds)+1<pr (d::ds) by rw [i,e]; omega)]
theorem rj (f:Int→Int→Int){xs ys:List Int}{j:Nat}{a:Int}(e:j<xs.length)(g:j<ys.length):zs f (xs.set j a) ys=zs f xs ys - f (ix xs (j:Int)) (ix ys (j:Int))+f a (ix ys (j:Int)):=by
 induction xs generalizing ys j with
 | nil=>simp at e
 | cons x xs ih=>cases ys with
  | nil=>simp at g
  | cons y ys=>cases j with
   | zero=>simp [zs,ix]; omega
   | succ j =>
    rw [fT,fT,List.set_cons_succ]
    simp only [zs,ih (ys:=ys) (j:=j) (by simpa using e) (by simpa using g)]
    omega
theorem kp {YS:Type}{YF:YS→Int→Option (YS×Bool)}{ds ss:List Int}{m base:Int}(h:VG ds ss m base){is:List Int}(E:IV ds is):∀ p,p≤ds.length →
  (∀ q,kZ (ds.take p) (is.take p)=some q→∃ i:Int,0≤i∧aI (fun s:List Int×Int×Int=>Za_L2 YS YF ds ss s.1 s.2.1 s.2.2) (is.take p++gR (ds.length - p),m+zs (·*·) (is.take p++gR (ds.length - p)) ss,(p:Int) - 1)=some (q++gR (ds.length - p),m+zs (·*·) (q++gR (ds.length - p)) ss,i)) ∧
  (kZ (ds.take p) (is.take p)=none→∃ x y,aI (fun s:List Int×Int×Int=>Za_L2 YS YF ds ss s.1 s.2.1 s.2.2) (is.take p++gR (ds.length - p),m+zs (·*·) (is.take p++gR (ds.length - p)) ss,(p:Int) - 1)=some (x,y,-1)):=by
 intro p
 have hn:=h.d.1
 have hl:=h.l
 have a6:=E.len
 induction p with
 | zero =>
  intro _
  refine ⟨fun q u=>by simp [kZ] at u,fun _=>⟨is.take 0++gR (ds.length - 0),m+zs (·*·) (is.take 0++gR (ds.length - 0)) ss,cH ?_⟩⟩
  simp only [Za_L2]
  rw [if_neg (by simp)]
  rfl
 | succ p ih =>
  intro F
  obtain ⟨a3,a4⟩:=ih (by omega)
  have hm:=E.mem (j:=p) (by omega)
  have a5:=h.d.2.mem (aN (xs:=ds) (k:=p) (by omega))
  have Y:=h.s _ (aN (xs:=ss) (k:=p) (by omega))
  have ti:is.take (p+1)=is.take p++[ix is (p:Int)]:=by rw [List.take_succ_eq_append_getElem (by omega),bC (by omega)]
  have td:ds.take (p+1)=ds.take p++[ix ds (p:Int)]:=by rw [List.take_succ_eq_append_getElem (by omega),bC (by omega)]
  have U:(is.take p).length=(ds.take p).length:=by simp; omega
  have G:=np U (ix ds (p:Int)) (ix is (p:Int))
  rw [← ti,← td] at G
  obtain ⟨g,r⟩:∃ g,g=is.take (p+1)++gR (ds.length - (p+1)):=⟨_,rfl⟩
  have a1:g.length=ds.length:=by rw [r]; simp [gR]; omega
  have T:ix g (p:Int)=ix is (p:Int):=by
   have a2:p<g.length:=by omega
   rw [bC a2,bC (by omega)]
   subst r
   rw [List.getElem_append_left (by simp; omega)]
   simp
  have B:∀ a:Int,g.set p a=is.take p++a::gR (ds.length - (p+1)):=by
   intro a
   rw [r,ti,List.append_assoc,List.set_append_right _ _ (by simp; omega)]
   have:p - (is.take p).length=0:=by simp; omega
   rw [this]
   rfl
  have J:∀ a:Int,0≤a→a<ix ds (p:Int)→0≤m+zs (·*·) (g.set p a) ss∧m+zs (·*·) (g.set p a) ss≤4096:=by
   intro a h0 h1
   have a0:∀ (ds is:List Int),IV ds is→(∀ d∈ds,1≤d)→∀ p,p<ds.length→0≤a→a<ix ds (p:Int)→IV ds (is.take p++a::gR (ds.length - (p+1))):=by
    intro ds
    induction ds with
    | nil=>intro is _ _ p F; simp at F
    | cons d ds ihd =>
     intro is E D p F h0 h1
     cases is with
     | nil=>exact E.elim
     | cons i is =>
      cases p with
      | zero =>
       refine ⟨⟨h0,h1⟩,?_⟩
       have hz:∀ ds:List Int,(∀ d∈ds,1≤d)→IV ds (gR ds.length):=by
        intro ds
        induction ds with
        | nil=>intro _; trivial
        | cons d ds ihz=>intro F; exact ⟨⟨Int.le_refl 0,by have:=F d (by simp); omega⟩,ihz fun x Z=>F x (by simp [Z])⟩
       exact hz ds fun x Z=>D x (by simp [Z])
      | succ p =>
       rw [fT] at h1
       have:=ihd is E.2 (fun x Z=>D x (by simp [Z])) p (by simpa using F) h0 h1
       refine ⟨E.1,?_⟩
       simpa using this
   have:=h.place (a0 ds is E h.d.2.1 p (by omega) h0 h1)
   have:=h.b
   rw [B]
   omega
  have I:=fun a=>rj (·*·) (xs:=g) (ys:=ss) (j:=p) (a:=a) (by omega) (by omega)
  rw [T] at I
  have b0:=J (ix is (p:Int)) hm.1 hm.2
  have e0:g.set p (ix is (p:Int))=g:=by rw [B,r,ti]; simp
  rw [e0] at b0
  have O:Za_L2 YS YF ds ss g (m+zs (·*·) g ss) ((p+1:Nat) - 1:Int)=if ix is (p:Int)+1<ix ds (p:Int) then some (.inr (g.set p (ix is (p:Int)+1),m+zs (·*·) (g.set p (ix is (p:Int)+1)) ss,(p:Int))) else some (.inl (g.set p 0,m+zs (·*·) (g.set p 0) ss,(p:Int) - 1)):=by
   have ep:((p+1:Nat) - 1:Int)=(p:Int):=by omega
   have w1:aK (ix is (p:Int)+1)=ix is (p:Int)+1:=bH (by omega) (by omega)
   have w2:aK (m+zs (·*·) g ss+ix ss (p:Int))=m+zs (·*·) g ss+ix ss (p:Int):=bH (by omega) (by omega)
   have mb:=nh (a:=ix ds (p:Int)) (b:=ix ss (p:Int)) (M:=4096) (N:=4096) (by omega) (by omega) Y.1 Y.2 (by omega)
   rw [Int.mul_comm (ix ds (p:Int))] at mb
   have w3:aK (ix ss (p:Int)*ix ds (p:Int))=ix ss (p:Int)*ix ds (p:Int):=bH (by omega) (by omega)
   have e1:ix (g.set p (ix is (p:Int)+1)) (p:Int)=ix is (p:Int)+1:=by rw [bC (by simp; omega)]; simp
   rw [ep]
   simp only [Za_L2,Int.toNat_natCast,T,w1,w2,w3,e1]
   rw [if_pos (by simp),if_pos (by simp; omega),if_pos (by omega),if_pos (by omega)]
   by_cases c:ix is (p:Int)+1<ix ds (p:Int)
   ·rw [if_pos (by simpa using c),if_pos c,I (ix is (p:Int)+1),Int.add_mul]
    congr 4
    omega
   ·rw [if_neg (by simpa using c),if_neg c]
    have em:ix ss (p:Int)*ix ds (p:Int)=ix is (p:Int)*ix ss (p:Int)+ix ss (p:Int):=by
     rw [show ix ds (p:Int)=ix is (p:Int)+1 by omega,Int.mul_add,Int.mul_comm]; omega
    have bz:=J 0 (by omega) (by omega)
    have z0:=I 0
    simp only [Int.zero_mul] at z0
    rw [nm,Option.bind_some,List.set_set,bH (by omega) (by omega),bH (by omega) (by omega),z0]
    congr 4
    omega
  rw [← r]
  by_cases c:ix is (p:Int)+1<ix ds (p:Int)
  ·rw [if_pos c] at O G
   refine ⟨fun q u=>⟨(p:Int),by omega,?_⟩,fun u=>by rw [G] at u; cases u⟩
   rw [G] at u
   cases u
   rw [cH O,B]
   simp
  ·rw [if_neg c] at O G
   have e2:g.set p 0=is.take p++gR (ds.length - p):=by
    rw [B,show ds.length - p=(ds.length - (p+1))+1 by omega]; rfl
   rw [e2] at O
   rw [cZ O]
   refine ⟨fun q u=>?_,fun u=>a4 (by rw [G] at u; simpa using u)⟩
   rw [G] at u
   cases e:kZ (ds.take p) (is.take p) with
   | none=>rw [e] at u; cases u
   | some q' =>
    rw [e] at u
    cases u
    obtain ⟨i,h1,h2⟩:=a3 q' e
    refine ⟨i,h1,?_⟩
    rw [h2]
    have:gR (ds.length - p)=0::gR (ds.length - (p+1)):=by rw [show ds.length - p=(ds.length - (p+1))+1 by omega]; rfl
    rw [this]
    simp
theorem mm {YS:Type}{YF:YS→Int→Option (YS×Bool)}{ds ss:List Int}{g base:Int}(h:VG ds ss g base)(I:Nat→YS→Prop)
  (B:∀ (k:Nat) y,(k:Int)<pr ds→I k y→∃ a,YF y (g+zs (·*·) (fq ds (k:Int)) ss)=some (a,true)∧I (k+1) a) {y:YS} (G:I 0 y) :
  ∃ a,Za YS YF y ds g ss=some a∧I (pr ds).toNat a:=by
 have T:=h.d.1
 have U:=h.d.2.pos
 unfold Za
 rw [if_pos (by omega)]
 have u:∀ m k y,k+1+m=(pr ds).toNat→I k y→∃ a,aI (fun s:List Int×Int×YS=>Za_L1 YS YF ds ss s.1 s.2.1 s.2.2) (fq ds (k:Int),g+zs (·*·) (fq ds (k:Int)) ss,y)=some a∧I (pr ds).toNat a:=by
  intro m
  induction m with
  | zero =>
   intro k y J r
   obtain ⟨a,h1,h2⟩:=B k y (by omega) r
   obtain ⟨_,j⟩:=kp (YF:=YF) h (ga h.d.2.1 (k:Int)) ds.length (Nat.le_refl _)
   rw [List.take_length,List.take_of_length_le (by rw [jB]; omega),Nat.sub_self] at j
   have e:kZ ds (fq ds (k:Int))=none:=by
    rw [lH h.d.2.1,Int.emod_eq_of_lt (by omega) (by omega),if_neg (by omega)]
   obtain ⟨x,z,q⟩:=j e
   refine ⟨a,cH ?_,by rw [show (pr ds).toNat=k+1 by omega]; exact h2⟩
   simp only [Za_L1,h1,Option.bind_some,Bool.not_true,Bool.false_eq_true,if_false]
   rw [bH (by omega) (by omega)]
   simp only [gR,List.replicate_zero,List.append_nil] at q
   rw [q]
   rfl
  | succ m ih =>
   intro k y J r
   obtain ⟨a,h1,h2⟩:=B k y (by omega) r
   obtain ⟨j,_⟩:=kp (YF:=YF) h (ga h.d.2.1 (k:Int)) ds.length (Nat.le_refl _)
   rw [List.take_length,List.take_of_length_le (by rw [jB]; omega),Nat.sub_self] at j
   have e:kZ ds (fq ds (k:Int))=some (fq ds ((k:Int)+1)):=by
    rw [lH h.d.2.1,Int.emod_eq_of_lt (by omega) (by omega),if_pos (by omega)]
   obtain ⟨i,O,q⟩:=j _ e
   have D:(k:Int)+1=((k+1:Nat):Int):=by omega
   have M:=cZ (f:=fun s:List Int×Int×YS=>Za_L1 YS YF ds ss s.1 s.2.1 s.2.2) (s:=(fq ds (k:Int),g+zs (·*·) (fq ds (k:Int)) ss,y)) (s':=(fq ds ((k+1:Nat):Int),g+zs (·*·) (fq ds ((k+1:Nat):Int)) ss,a)) (by
    simp only [Za_L1,h1,Option.bind_some,Bool.not_true,Bool.false_eq_true,if_false]
    rw [bH (by omega) (by omega)]
    simp only [gR,List.replicate_zero,List.append_nil] at q
    rw [q,D]
    simp only [Option.bind_some,Za_J2]
    rw [if_neg (by simp; omega)])
   rw [M]
   exact ih (k+1) a (by omega) h2
 obtain ⟨a,h1,h2⟩:=u ((pr ds).toNat - 1) 0 y (by omega) G
 refine ⟨a,?_,h2⟩
 have e:fq ds ((0:Nat):Int)=gR ds.length:=lG h.d.2.1 (by simp)
 have F:∀ (n:Nat) (ss:List Int),zs (·*·) (gR n) ss=0:=by
  intro n
  induction n with
  | zero=>intro ss; simp [gR,zs]
  | succ n ihn=>intro ss; cases ss with
   | nil=>simp [gR,zs]
   | cons s ss=>have:=ihn ss; simp only [gR,List.replicate_succ,zs] at this ⊢; rw [this]; simp
 rw [e,F] at h1
 have E:(ds.length:Int).toNat=ds.length:=by omega
 rw [E]
 simp only [Int.add_zero] at h1
 rw [show List.replicate ds.length (0:Int)=gR ds.length from rfl,h1]
 rfl
theorem rk {d s:Int}(e:1≤d)(a:0≤s):lw d s=0:=by
 have:=Int.mul_nonneg a (show 0≤d - 1 by omega)
 unfold lw; split<;>omega
theorem l1 {d s:Int}(e:1≤d)(a:0≤s):hw d s=s*(d - 1):=by
 have:=Int.mul_nonneg a (show 0≤d - 1 by omega)
 unfold hw; split<;>omega
theorem rl {ds ss:List Int}(e:∀ d∈ds,1≤d)(g:∀ s∈ss,0≤s):zs lw ds ss=0:=by
 induction ds generalizing ss with
 | nil=>simp [zs]
 | cons d ds ih=>cases ss with
  | nil=>simp [zs]
  | cons s ss =>
   simp only [zs,rk (e d (by simp)) (g s (by simp)),ih (ss:=ss) (fun x a=>e x (by simp [a])) (fun x a=>g x (by simp [a]))]
   omega
theorem jH {xs:List Int}{j:Nat}{a:Int}(h:j<xs.length):ix (xs.set j a) (j:Int)=a:=by rw [bC (by simpa using h)]; simp
theorem jI (f:Int→Int→Int){xs ys:List Int}{j:Nat}{a b:Int}(e:j<xs.length)(g:j<ys.length):zs f (xs.set j a) (ys.set j b)=zs f xs ys - f (ix xs (j:Int)) (ix ys (j:Int))+f a b:=by
 induction xs generalizing ys j with
 | nil=>simp at e
 | cons x xs ih=>cases ys with
  | nil=>simp at g
  | cons y ys=>cases j with
   | zero=>simp [zs,ix]; omega
   | succ j =>
    rw [fT,fT,List.set_cons_succ,List.set_cons_succ]
    simp only [zs,ih (ys:=ys) (j:=j) (by simpa using e) (by simpa using g)]
    omega
theorem nq {ds:List Int}(h:∀ d∈ds,1≤d){j:Nat}(g:j<ds.length){c:Int}(h1:1≤c)(h2:c≤ix ds (j:Int)):pr (ds.set j c)≤pr ds∧∀ d∈ds.set j c,1≤d:=by
 induction ds generalizing j with
 | nil=>simp at g
 | cons d ds ih =>
  have m:1≤pr ds:=cX fun x e=>h x (by simp [e])
  cases j with
  | zero =>
   have h2:c≤d:=h2
   refine ⟨Int.mul_le_mul_of_nonneg_right h2 (by omega),List.forall_mem_cons.2 ⟨h1,fun x e=>h x (by simp [e])⟩⟩
  | succ j =>
   rw [fT] at h2
   obtain ⟨a,b⟩:=ih (fun x e=>h x (by simp [e])) (by simpa using g) h2
   have i:=h d (by simp)
   exact ⟨Int.mul_le_mul_of_nonneg_left a (by omega),List.forall_mem_cons.2 ⟨i,b⟩⟩
theorem gz {xs:List Int}{j:Nat}{a:Int}{P:Int→Prop}(h:∀ x∈xs,P x)(g:P a):∀ x∈xs.set j a,P x:=by
 intro x e
 rcases List.mem_or_eq_of_mem_set e with e | rfl
 ·exact h x e
 ·exact g
theorem tO {v:View}{j:Nat}(h:j<v.Dims.length)(e:j<v.Strides.length)(a s:Int):Z09 v (j:Int) a s=some ⟨v.Dims.set j a,v.Strides.set j (if a=1 then 0 else s),v.Offset,v.Base⟩:=by
 unfold Z09
 by_cases g:a=1
 ·rw [if_pos (by simp [g])]
  simp only [Z09_J3]
  rw [if_pos (by omega),if_pos (by omega),if_pos g,Int.toNat_natCast]
 ·rw [if_neg (by simp [g])]
  simp only [Z09_J3]
  rw [if_pos (by omega),if_pos (by omega),if_neg g,Int.toNat_natCast]
theorem tP {xs ys:List Int}(a:∀ d∈xs,1≤d)(e:∀ y∈ys,0≤y):0≤zs hw xs ys:=by
 induction xs generalizing ys with
 | nil=>simp [zs]
 | cons d ds ih=>cases ys with
  | nil=>simp [zs]
  | cons s ss =>
   have:=ih (ys:=ss) (fun x h=>a x (by simp [h])) (fun x h=>e x (by simp [h]))
   have g:=l1 (a d (by simp)) (e s (by simp))
   have i:=Int.mul_nonneg (e s (by simp)) (show 0≤d - 1 by have:=a d (by simp); omega)
   simp only [zs]; omega
def NR (x:Int):Prop:=0≤x∧x<2147483647
instance (x:Int):Decidable (NR x):=by unfold NR; infer_instance
def RG (n:Nat)(x:List Int):Prop:=x.length=n∧∀ y∈x,NR y
theorem RG.set {n:Nat}{x:List Int}(h:RG n x){y:Int}(a:NR y)(k:Nat):RG n (x.set k y):=⟨by simp [h.1],gz h.2 a⟩
theorem RG.rep (n:Nat):RG n (List.replicate n 0):=⟨by simp,fun y a=>by rw [(List.mem_replicate.1 a).2]; decide⟩
theorem RG.ix {n:Nat}{x:List Int}(h:RG n x){i:Int}(a:0≤i)(h1:i<(n:Int)):NR (ix x i):=by
 obtain ⟨k,rfl⟩:=Int.eq_ofNat_of_zero_le a
 exact h.2 _ (aN (by have:=h.1; omega))
theorem tQ {R:Type}{f:List Int×Int→Option ((List Int×Int)⊕R)}{Post:R→Prop}(m n:Nat)(u:∀ j:Nat,j<n→∀ x,RG m x→∃ x',f (x,(j:Int))=some (.inl (x',((j+1:Nat):Int)))∧RG m x')(h:∀ x,RG m x→∃ r,f (x,(n:Int))=some (.inr r)∧Post r){x:List Int}(g:RG m x):∃ r,aI f (x,0)=some r∧Post r :=
 hO (f:=f) (fun j s=>s.2=(j:Int)∧RG m s.1) n (fun j s q a=>by
  obtain ⟨x,i⟩:=s
  obtain ⟨rfl,e⟩:=a
  obtain ⟨x',h1,h2⟩:=u j q x e
  exact ⟨_,h1,rfl,h2⟩) (fun s a=>by
  obtain ⟨x,i⟩:=s
  obtain ⟨rfl,e⟩:=a
  exact h x e) (s:=(x,0)) ⟨rfl,g⟩
theorem j3 (p:Int):∃ m,Zi p=some m∧NR m:=by
 have h1:=Int.tmod_lt_of_pos p (show (0:Int)<2147483647 by omega)
 have h2 : -2147483647<p.tmod 2147483647:=by
  rcases Int.le_total 0 p with h | h
  ·have:=Int.tmod_nonneg 2147483647 h; omega
  ·have e:p.tmod 2147483647 = -((-p).tmod 2147483647):=by rw [Int.neg_tmod]; omega
   have:=Int.tmod_lt_of_pos (-p) (show (0:Int)<2147483647 by omega)
   omega
 unfold Zi
 by_cases c:p.tmod 2147483647<0
 ·rw [if_pos (by simpa using c)]
  exact ⟨_,rfl,by rw [bH (by omega) (by omega)]; constructor<;>omega⟩
 ·rw [if_neg (by simpa using c)]
  exact ⟨_,rfl,by constructor<;>omega⟩
theorem rn (a b:Int):∃ m,Z0v a b=some m∧NR m:=by
 obtain ⟨x,h1,_⟩:=j3 a
 obtain ⟨y,h2,_⟩:=j3 b
 obtain ⟨z,e,g⟩:=j3 (aK (x+y))
 exact ⟨z,by unfold Z0v; simp [h1,h2,e],g⟩
theorem oM (a b:Int):∃ m,Z0w a b=some m∧NR m:=by
 obtain ⟨x,h1,_⟩:=j3 a
 obtain ⟨y,h2,_⟩:=j3 b
 obtain ⟨z,e,g⟩:=j3 (aK (x*y))
 exact ⟨z,by unfold Z0w; simp [h1,h2,e],g⟩
theorem nr {ds:List Int}{x:List Int}(h:fX ds)(a:RG (pr ds).toNat x):TOk ds x:=⟨h,by have:=a.1; have:=h.2.pos; omega,fun y e=>a.2 y e⟩
theorem rp {ds x:List Int}(h:TOk ds x):x.length≤4096∧ds.length≤6:=⟨by have:=h.l; have:=h.d.2.2; omega,h.d.1⟩
def TT (t:Tensor):Prop:=TOk t.Dims t.Data
theorem rq {t:Tensor}(h:TT t):Zo t=some true:=by
 have:=rp h
 rw [ng (by unfold cC; omega) (by unfold cC; omega),decide_eq_true (show TOk t.Dims t.Data from h)]
theorem l4 {ds is:List Int}{j:Nat}{m x:Int}(a:j<ds.length)(h:IV (ds.set j m) is)(e:0≤x)(h1:x<ix ds (j:Int)):IV ds (is.set j x):=by
 induction ds generalizing is j with
 | nil=>simp at a
 | cons d ds ih=>cases j with
  | zero=>cases is with
   | nil=>exact h.elim
   | cons i is=>exact ⟨⟨e,h1⟩,h.2⟩
  | succ j=>cases is with
   | nil=>exact h.elim
   | cons i is=>rw [fT] at h1; exact ⟨h.1,ih (by simpa using a) h.2 h1⟩
theorem oN {ds is:List Int}(h:IV ds is)(k:Nat):IV (ds.take k) (is.take k):=by
 induction ds generalizing is k with
 | nil=>cases is with
  | nil=>simp [IV]
  | cons=>exact h.elim
 | cons d ds ih=>cases is with
  | nil=>exact h.elim
  | cons i is=>cases k with
   | zero=>simp [IV]
   | succ k=>exact ⟨h.1,ih h.2 k⟩
def oO (ds:List Int)(a:Int)(xs:List Int):Prop:=0≤a∧a<(ds.length:Int)∧xs≠[]∧(∀ x∈xs,0≤x∧x<ix ds a)∧fX (ds.set a.toNat (xs.length:Int))
instance (ds:List Int)(a:Int)(xs:List Int):Decidable (oO ds a xs):=by unfold oO; infer_instance
theorem oP {t:Tensor}(h:TT t)(a:Int):Z0x t a=some (decide (0≤a∧a<(t.Dims.length:Int))):=by
 unfold Z0x
 rw [rq h]
 simp only [Option.bind_some,Bool.true_and]
 congr 1
 rw [Bool.eq_iff_iff]
 simp
theorem ns {xs:List Int}(h:xs.length≤6){j:Nat}(a:j<xs.length)(x:Int):Z0i xs (j:Int) x=some (xs.set j x):=by
 unfold Z0i
 rw [jC (by omega)]
 simp only [Option.bind_some]
 rw [if_pos (by omega),Int.toNat_natCast]
theorem nt {xs:List Int}(g:xs.length<cC)(n:Int):Z05 xs n=some (decide (∀ x∈xs,0≤x∧x<n)):=by
 unfold Z05
 have:=dC xs (fun s:Int=>Z05_L1 xs n s) (fun i=>i) (fun x=>!(decide (x<0)||decide (x≥n))) (.inl false) (.inr ())
  (fun k j=>by
   simp only [Z05_L1]
   rw [if_pos (by simp; omega),if_pos (by omega),bT (by omega)]
   cases (decide (ix xs (k:Int)<0)||decide (ix xs (k:Int)≥n))<;>rfl)
  (by simp only [Z05_L1]; rw [if_neg (by simp)])
 rw [this]
 have e:(xs.all fun x=>!(decide (x<0)||decide (x≥n)))=decide (∀ x∈xs,0≤x∧x<n):=by
  rw [Bool.eq_iff_iff]
  simp only [List.all_eq_true,decide_eq_true_eq,Bool.not_eq_true',Bool.or_eq_false_iff,decide_eq_false_iff_not]
  exact ⟨fun h x a=>by have:=h x a; omega,fun h x a=>by have:=h x a; omega⟩
 rw [e]
 by_cases c:∀ x∈xs,0≤x∧x<n
 ·rw [decide_eq_true c]; rfl
 ·rw [decide_eq_false c]; rfl
theorem kq {α:Type}(xs:List α)(k:Nat):sub xs 0 (k:Int)=xs.take k:=by simp [sub]
def LT (s:aD):Prop:=s.length≤6∧∀ c∈s,97≤c.toNat∧c.toNat≤122
instance (s:aD):Decidable (LT s):=by unfold LT; infer_instance
theorem j4 {s:aD}(g:s.length<cC):Zz s=some (decide (LT s)):=by
 unfold Zz
 have:=dC s (fun i:Int=>Zz_L1 s i) (fun i=>i) (fun c=>decide (97≤c.toNat∧c.toNat≤122)) (.inl false) (.inr ())
  (fun k j=>by
   have a:bt s (k:Int)=((ix s (k:Int)).toNat:Int):=rfl
   simp only [Zz_L1]
   rw [if_pos (by simp; omega),if_pos (by omega),bT (by omega)]
   by_cases q:97≤(ix s (k:Int)).toNat∧(ix s (k:Int)).toNat≤122
   ·rw [if_neg (by simp only [Bool.or_eq_true,decide_eq_true_eq,a]; omega),decide_eq_true q,if_pos rfl]
   ·rw [if_pos (by simp only [Bool.or_eq_true,decide_eq_true_eq,a]; omega),decide_eq_false q,if_neg (by simp)])
  (by simp only [Zz_L1]; rw [if_neg (by simp)])
 rw [this]
 have e:(s.all fun c=>decide (97≤c.toNat∧c.toNat≤122))=decide (∀ c∈s,97≤c.toNat∧c.toNat≤122):=by
  rw [Bool.eq_iff_iff]
  simp only [List.all_eq_true,decide_eq_true_eq]
 rw [e]
 by_cases c:∀ c∈s,97≤c.toNat∧c.toNat≤122
 ·rw [decide_eq_true c,if_pos rfl]
  show some (decide ((s.length:Int)≤6))=_
  congr 1
  rw [Bool.eq_iff_iff]
  simp only [decide_eq_true_eq]
  exact ⟨fun h=>⟨by omega,c⟩,fun h=>by have:=h.1; omega⟩
 ·rw [decide_eq_false c,decide_eq_false (fun z:LT s=>c z.2)]; rfl
theorem gc {a b:UInt8}:((a.toNat:Int)==(b.toNat:Int))=decide (a=b):=by
 rw [Bool.eq_iff_iff]
 simp only [beq_iff_eq,decide_eq_true_eq]
 exact ⟨fun h=>UInt8.toNat_inj.1 (by omega),fun h=>by rw [h]⟩
theorem nu {s:aD}(h:s.length<cC)(b:UInt8):Zq s (b.toNat:Int)=some (decide (b∈s)):=by
 unfold Zq
 have:=dC s (fun i:Int=>Zq_L1 s (b.toNat:Int) i) (fun i=>i) (fun c=>!(decide (c=b))) (.inl true) (.inr ())
  (fun k j=>by
   have a:(bt s (k:Int)==(b.toNat:Int))=decide (ix s (k:Int)=b):=gc
   simp only [Zq_L1]
   rw [if_pos (by simp; omega),if_pos (by omega),bT (by omega),a]
   cases decide (ix s (k:Int)=b)<;>rfl)
  (by simp only [Zq_L1]; rw [if_neg (by simp)])
 rw [this]
 by_cases c:b∈s
 ·have e:(s.all fun c=>!(decide (c=b)))=false:=by
   rw [List.all_eq_false]; exact ⟨b,c,by simp⟩
  rw [e,decide_eq_true c]; rfl
 ·have e:(s.all fun c=>!(decide (c=b)))=true:=by
   rw [List.all_eq_true]; intro x g
   have:x≠b:=fun q=>c (q▸g)
   simp [this]
  rw [e,decide_eq_false c]; rfl
theorem mn (c:UInt8):((c.toNat:Int)).toNat.toUInt8=c:=by
 rw [Int.toNat_natCast]
 exact UInt8.ofNat_toNat
theorem nv (s:aD)(c:UInt8):(Lib.indexByte s c<0)↔c ∉ s:=by
 induction s with
 | nil=>simp [Lib.indexByte]
 | cons b l ih =>
  unfold Lib.indexByte
  by_cases e:b=c
  ·subst e; simp
  ·have a:(b==c)=false:=by simpa using e
   have:=Lib.indexByte_ge l c
   rw [a]
   simp only [Bool.false_eq_true,if_false,List.mem_cons,not_or]
   rw [← ih]
   by_cases q:Lib.indexByte l c = -1
   ·rw [q]; simp; exact fun z=>e z.symm
   ·rw [if_neg (by simpa using q)]
    exact ⟨fun z=>by omega,fun z=>by omega⟩
theorem jK (s:aD)(c:UInt8):∃ r,Z0d s (c.toNat:Int)=some r∧(r<0↔c ∉ s):=by
 unfold Z0d bQ
 rw [mn]
 exact ⟨_,rfl,nv s c⟩
def l5:aD→Option (aD×aD)
 | []=>none
 | [_]=>none
 | x::y::r=>if x=45∧y=62 then some ([],r) else (l5 (y::r)).map fun p=>(x::p.1,p.2)
def ce:aD→Nat
 | []=>0
 | [_]=>0
 | x::y::r=>if x=45∧y=62 then 0 else ce (y::r)+1
theorem gS:∀ {s l o:aD},l5 s=some (l,o)→ce s=l.length∧s=l++45::62::o
 | [],_,_,h=>by cases h
 | [_],_,_,h=>by cases h
 | x::y::r,l,o,h=>by
  unfold l5 at h; unfold ce
  by_cases c:x=45∧y=62
  ·rw [if_pos c] at h ⊢
   obtain ⟨rfl,rfl⟩:=c
   cases h
   exact ⟨rfl,rfl⟩
  ·rw [if_neg c] at h ⊢
   obtain ⟨⟨g,o'⟩,h1,h2⟩:=Option.map_eq_some_iff.1 h
   cases h2
   obtain ⟨a,e⟩:=gS h1
   exact ⟨by rw [a]; rfl,by rw [e]; rfl⟩
theorem lK:∀ {s:aD},l5 s=none→s.length≤ce s+1
 | [],h=>by simp
 | [_],h=>by simp
 | x::y::r,h=>by
  unfold l5 at h; unfold ce
  by_cases c:x=45∧y=62
  ·rw [if_pos c] at h; cases h
  ·rw [if_neg c] at h ⊢
   have:=lK (s:=y::r) (by simpa using h)
   simp at this ⊢; omega
theorem lL:∀ {s:aD} {j:Nat},j<ce s→j+1<s.length∧(s.drop j).take 2≠[45,62]
 | [],_,h=>by simp [ce] at h
 | [_],_,h=>by simp [ce] at h
 | x::y::r,j,h=>by
  unfold ce at h
  by_cases c:x=45∧y=62
  ·rw [if_pos c] at h; omega
  ·rw [if_neg c] at h
   cases j with
   | zero=>exact ⟨by simp,by simpa using c⟩
   | succ j =>
    obtain ⟨a,b⟩:=lL (s:=y::r) (j:=j) (by omega)
    exact ⟨by simp at a ⊢; omega,by simpa using b⟩
theorem pU:∀ {s:aD},ce s+1<s.length→(s.drop (ce s)).take 2=[45,62]
 | [],h=>by simp at h
 | [_],h=>by simp [ce] at h
 | x::y::r,h=>by
  unfold ce at h ⊢
  by_cases c:x=45∧y=62
  ·rw [if_pos c]; obtain ⟨rfl,rfl⟩:=c; rfl
  ·rw [if_neg c] at h ⊢
   have:=pU (s:=y::r) (by simp at h ⊢; omega)
   simpa using this
theorem j5:∀ (s:aD),Lib.index s str0=match l5 s with | some p=>(p.1.length:Int) | none => -1
 | []=>rfl
 | [x]=>by
  unfold Lib.index l5
  simp [str0,Lib.index]
 | x::y::r=>by
  unfold Lib.index l5
  by_cases c:x=45∧y=62
  ·obtain ⟨rfl,rfl⟩:=c
   rw [if_pos (by simp [str0]),if_pos ⟨rfl,rfl⟩]; rfl
  ·rw [if_neg (by simp [str0]; intro a b; exact c ⟨a.symm,b.symm⟩),if_neg c,j5 (y::r)]
   cases l5 (y::r) with
   | none=>rfl
   | some p =>
    simp only [Option.map_some]
    rw [if_neg (by simp)]
    simp
def pre (p:aD):List aD→List aD
 | []=>[p]
 | g::gs=>(p++g)::gs
def dM:aD→List aD
 | []=>[[]]
 | x::r=>if x=44 then []::dM r else pre [x] (dM r)
theorem gT (x:UInt8)(r:aD):dM (x::r)=if x=44 then []::dM r else pre [x] (dM r):=rfl
theorem rr (p:aD)(gs:List aD):pre p gs≠[]:=by cases gs<;>simp [pre]
theorem iE (s:aD):dM s≠[]:=by
 cases s with
 | nil=>simp [dM]
 | cons x r=>unfold dM; split; simp; exact rr _ _
theorem lP {gs:List aD}(h:gs≠[]):pre [] gs=gs:=by
 cases gs with
 | nil=>exact absurd rfl h
 | cons g gs=>rfl
theorem oQ (p q:aD)(gs:List aD):pre p (pre q gs)=pre (p++q) gs:=by
 cases gs<;>simp [pre]
theorem oR (s:aD):(dM s).length=s.count 44+1:=by
 induction s with
 | nil=>rfl
 | cons x r ih =>
  unfold dM
  by_cases c:x=44
  ·subst c; simp [ih]
  ·rw [if_neg c,List.count_cons_of_ne (fun z=>c z)]
   cases h:dM r with
   | nil=>exact absurd h (iE r)
   | cons g gs=>rw [h] at ih; simpa [pre] using ih
theorem rt {s:aD}(h:s.count 44=0):dM s=[s]:=by
 induction s with
 | nil=>rfl
 | cons x r ih =>
  have c:x≠44:=by intro q; subst q; simp at h
  rw [List.count_cons_of_ne (fun z=>c z)] at h
  unfold dM
  rw [if_neg c,ih h]; rfl
theorem oS (s:aD)(c:UInt8)(a:c≠44):(∃ g∈dM s,c∈g)↔c∈s:=by
 induction s with
 | nil=>simp [dM]
 | cons x r ih =>
  unfold dM
  by_cases q:x=44
  ·subst q
   rw [if_pos rfl]
   simp [a,ih]
  ·rw [if_neg q,List.mem_cons,← ih]
   cases h:dM r with
   | nil=>exact absurd h (iE r)
   | cons g gs=>simp [pre,or_assoc]
theorem pV:∀ {x:aD},x.count 44≠0→∃ g r,x=g++44::r∧Lib.index x str1=(g.length:Int)∧dM x=g::dM r∧x.count 44=r.count 44+1
 | [],h=>by simp at h
 | b::l,h=>by
  by_cases c:b=44
  ·subst c
   exact ⟨[],l,rfl,by unfold Lib.index; simp [str1],by rw [gT,if_pos rfl],by simp⟩
  ·rw [List.count_cons_of_ne (fun z=>c z)] at h
   obtain ⟨g,r,h1,h2,a,e⟩:=pV h
   refine ⟨b::g,r,by rw [h1]; rfl,?_,?_,?_⟩
   ·unfold Lib.index
    rw [if_neg (by simp [str1]; exact fun z=>c z.symm),h2,if_neg (by simp)]
    simp
   ·rw [gT,if_neg c,a]; rfl
   ·rw [List.count_cons_of_ne (fun z=>c z)]; exact e
theorem oU {p:aD}(M:p.length≤1048576):Z11 p str1=some (dM p):=by
 have hc:p.count 44≤p.length:=List.count_le_length
 have u:(if (aK ((p.length:Int)+1))<((p.count 44+1:Nat):Int) then (aK ((p.length:Int)+1)) else ((p.count 44+1:Nat):Int))=((p.count 44+1:Nat):Int):=by
  rw [bT (by unfold cC; omega),if_neg (by omega)]
 have hw:aK (((p.count 44+1:Nat):Int) - 1)=(p.count 44:Int):=by rw [bH (by omega) (by omega)]; omega
 unfold Z11 Zd
 rw [if_neg (by decide),if_neg (by simp [str1]),if_pos (by decide)]
 have m:Z18 p str1=some (p.count 44:Int):=rfl
 rw [m]
 simp only [Option.bind_some]
 rw [bT (by unfold cC; omega)]
 unfold Zd_J2
 rw [u,if_pos (by omega),Int.toNat_natCast]
 obtain ⟨e,O,U⟩:=hO (f:=fun s:aD×List aD×Int=>Zd_L1 p str1 0 ((p.count 44+1:Nat):Int) s.1 s.2.1 s.2.2)
  (fun j s=>s.2.2=(j:Int)∧s.2.1.length=p.count 44+1∧s.2.1.take j++dM s.1=dM p∧s.1.count 44+j=p.count 44∧s.1.length≤1048576) (p.count 44)
  (Post:=fun e=>e.2.2=(p.count 44:Int)∧e.2.1.length=p.count 44+1∧e.2.1.take (p.count 44)++[e.1]=dM p)
  (fun j s hj E=>by
   obtain ⟨x,a,i⟩:=s
   obtain ⟨h1,h2,h,B,D⟩:=E
   simp only at h1 h2 h B D
   subst h1
   obtain ⟨g,r,g1,I,J,g4⟩:=pV (x:=x) (by omega)
   have hx:x.length=g.length+1+r.length:=by rw [g1]; simp; omega
   have T:Z08 x str1=some (g.length:Int):=by
    unfold Z08 bE
    rw [if_pos (by omega),I]; rfl
   have Y:aK ((g.length:Int)+0)=(g.length:Int):=by rw [bH (by omega) (by omega)]; omega
   have Z:aK ((g.length:Int)+((str1.length:Nat):Int))=((g.length+1:Nat):Int):=by
    show aK ((g.length:Int)+1)=_
    exact bT (by unfold cC; omega)
   refine ⟨(r,a.set j g,((j+1:Nat):Int)),?_,rfl,by simpa using h2,?_,by show r.count 44+(j+1)=_; omega,by show r.length≤_; omega⟩
   ·simp only [Zd_L1]
    rw [u,hw,if_pos (by simp; omega),T]
    simp only [Option.bind_some]
    rw [if_neg (by simp),Y,if_pos (by omega),if_pos (by simp; omega)]
    have F:sub x 0 (g.length:Int)=g:=by rw [kq,g1]; simp
    have G:sub x ((g.length+1:Nat):Int) (x.length:Int)=r:=by rw [jF,Int.toNat_natCast,g1,List.drop_append]; simp
    rw [Z,F,Int.toNat_natCast]
    simp only [nm,Option.bind_some]
    rw [if_pos (by omega),G,bT (by unfold cC; omega)]
   ·rw [← h,J,List.take_set]
    have q:j<a.length:=by omega
    rw [List.take_succ_eq_append_getElem q,List.set_append_right _ _ (by simp; omega)]
    simp [Nat.min_eq_left (Nat.le_of_lt q)]
    )
  (fun s E=>by
   obtain ⟨x,a,i⟩:=s
   obtain ⟨h1,h2,h,B,D⟩:=E
   simp only at h1 h2 h B D
   subst h1
   rw [rt (by omega)] at h
   refine ⟨(x,a,(p.count 44:Int)),?_,rfl,h2,h⟩
   simp only [Zd_L1]
   rw [u,hw,if_neg (by simp)])
  (s:=(p,List.replicate (p.count 44+1) [],0)) ⟨rfl,by simp,by simp,by simp,M⟩
 rw [O]
 obtain ⟨x,a,i⟩:=e
 obtain ⟨h1,h2,h⟩:=U
 simp only at h1 h2 h
 subst h1
 simp only [Option.bind_some,Zd_J3]
 rw [u,if_pos (by simp; omega),bT (by unfold cC; omega),if_pos (by simp; omega),Int.toNat_natCast]
 simp only [Option.bind_some]
 congr 1
 rw [kq,List.take_set,← h]
 have q:p.count 44<a.length:=by omega
 rw [List.take_succ_eq_append_getElem q,List.set_append_right _ _ (by simp; omega)]
 simp [Nat.min_eq_left (Nat.le_of_lt q)]
def OL (gs:List aD)(o:aD)(i:Nat):Prop:=(∃ g∈gs,ix o (i:Int)∈g)∧ix o (i:Int) ∉ o.take i
instance (gs:List aD)(o:aD)(i:Nat):Decidable (OL gs o i):=by unfold OL; infer_instance
def PO (gs:List aD)(o:aD):Prop:=gs.length≤6∧LT o∧(∀ g∈gs,LT g)∧∀ i∈List.range o.length,OL gs o i
instance (gs:List aD)(o:aD):Decidable (PO gs o):=by unfold PO; infer_instance
def parts (form:aD):List aD×aD×Bool:=match l5 form with
 | none=>([],[],false)
 | some p=>if PO (dM p.1) p.2 then (dM p.1,p.2,true) else ([],[],false)
theorem vi {form:aD}(i:form.length≤1048576):aI (fun s:Int=>Z1_L1 form s) 0=some (ce form:Int):=by
 have w:∀ j:Nat,j≤1048576→aK ((j:Int)+1)=((j+1:Nat):Int)∧aK ((j:Int)+2)=((j+2:Nat):Int):=by
  intro j e
  exact ⟨bT (by unfold cC; omega),by rw [bH (by omega) (by omega)]; omega⟩
 have g:∀ j:Nat,sub form (j:Int) ((j+2:Nat):Int)=(form.drop j).take 2:=by
  intro j
  unfold sub
  rw [Int.toNat_natCast,Int.toNat_natCast,List.drop_take]
  congr 1; omega
 have h:ce form≤form.length:=by
  by_cases c:ce form=0
  ·omega
  ·have:=(lL (s:=form) (j:=ce form - 1) (by omega)).1; omega
 refine dN (f:=fun s:Int=>Z1_L1 form s) (fun j=>(j:Int)) (ce form) (fun j e=>?_) ?_ rfl
 ·obtain ⟨a,b⟩:=lL e
  simp only [Z1_L1]
  rw [(w j (by omega)).1,(w j (by omega)).2,g,if_pos (fun _=>by omega),if_pos]
  simp only [Bool.and_eq_true,decide_eq_true_eq,Bool.not_eq_true',beq_eq_false_iff_ne]
  exact ⟨by omega,b⟩
 ·simp only [Z1_L1]
  rw [(w _ (by omega)).1,(w _ (by omega)).2,g]
  by_cases c:ce form+1<form.length
  ·rw [if_pos (fun _=>by omega),if_neg]
   rw [pU c]; simp [str0]
  ·rw [if_pos (fun z=>by simp at z; omega),if_neg]
   simp only [Bool.and_eq_true,decide_eq_true_eq]
   omega
theorem nw {form l o:aD}(Z:form.length≤1048576)(h:l5 form=some (l,o)):aI (fun s:List aD×Int×Int=>Z1_L2 form (l.length:Int) s.1 s.2.1 s.2.2) ([],0,0)=some (dM l):=by
 obtain ⟨Y,B⟩:=gS h
 have hl:form.length=l.length+2+o.length:=by rw [B]; simp; omega
 obtain ⟨r,U,T⟩:=hO (f:=fun s:List aD×Int×Int=>Z1_L2 form (l.length:Int) s.1 s.2.1 s.2.2)
  (fun j s=>s.2.2=(j:Int)∧s.1.length≤j∧((∃ F:Nat,F≤j∧s.2.1=(F:Int)∧j≤l.length∧s.1++pre ((l.take j).drop F) (dM (l.drop j))=dM l)∨(j=l.length+1∧s.1=dM l))) (l.length+1)
  (Post:=fun r=>r=dM l)
  (fun j s hj D=>by
   obtain ⟨gs,g,i⟩:=s
   obtain ⟨h1,h2,u⟩:=D
   simp only at h1 h2 u
   subst h1
   rcases u with ⟨F,f1,I,J,e⟩|⟨q,_⟩
   ·subst I
    have M:sub form (F:Int) (j:Int)=(l.take j).drop F:=by
     unfold sub
     rw [Int.toNat_natCast,Int.toNat_natCast,B,List.take_append_of_le_length J]
    simp only [Z1_L2]
    rw [if_pos (by simp; omega),if_pos (fun _=>by omega)]
    by_cases c:j=l.length
    ·rw [if_pos (by simp [c]),if_pos (by omega),M,if_pos (by simp; omega)]
     simp only [Z1_J3]
     refine ⟨_,by rw [bT (by unfold cC; omega)],rfl,by simp; omega,.inr ⟨by omega,?_⟩⟩
     subst c
     rw [List.drop_length] at e
     simpa [dM,pre] using e
    ·have m:j<l.length:=by omega
     have O:l.drop j=l[j]::l.drop (j+1):=List.drop_eq_getElem_cons m
     have E:(bt form (j:Int)==44)=decide (l[j]=44):=by
      have:ix form (j:Int)=l[j]:=by
       rw [bC (by omega)]
       simp only [B]
       rw [List.getElem_append_left m]
      unfold bt
      rw [this]
      have:=gc (a:=l[j]) (b:=44)
      simpa using this
     have G:((j:Int)==(l.length:Int))=false:=by simp; omega
     rw [E,G,Bool.false_or]
     rw [O,gT] at e
     by_cases q:l[j]=44
     ·rw [decide_eq_true q,if_pos rfl,if_pos (by omega),M,if_pos (by simp; omega)]
      simp only [Z1_J3]
      rw [bT (by unfold cC; omega)]
      refine ⟨_,rfl,rfl,by simp; omega,.inl ⟨j+1,Nat.le_refl _,rfl,by omega,?_⟩⟩
      rw [if_pos q] at e
      have z:List.drop (j+1) (List.take (j+1) l)=[]:=List.drop_of_length_le (by simp; omega)
      rw [z,lP (iE _),← e]
      simp [pre]
     ·rw [decide_eq_false q,if_neg (by simp)]
      simp only [Z1_J3]
      rw [bT (by unfold cC; omega)]
      refine ⟨_,rfl,rfl,by show gs.length≤_; omega,.inl ⟨F,by omega,rfl,by omega,?_⟩⟩
      rw [if_neg q,oQ] at e
      rw [← e,List.take_succ_eq_append_getElem m,List.drop_append_of_le_length (by simp; omega)]
   ·omega)
  (fun s D=>by
   obtain ⟨gs,g,i⟩:=s
   obtain ⟨h1,h2,u⟩:=D
   simp only at h1 h2 u
   subst h1
   rcases u with ⟨F,f1,I,J,e⟩|⟨_,q⟩
   ·omega
   ·refine ⟨gs,?_,q⟩
    simp only [Z1_L2]
    rw [if_neg (by simp; omega)])
  (s:=([],0,0)) ⟨rfl,by simp,.inl ⟨0,by omega,rfl,by omega,by simp [lP (iE l)]⟩⟩
 rw [U,T]
theorem l6 {s g:aD}(h:g∈dM s):g.length≤s.length:=by
 induction s generalizing g with
 | nil=>simp [dM] at h; simp [h]
 | cons x r ih =>
  rw [gT] at h
  by_cases c:x=44
  ·rw [if_pos c] at h
   rcases List.mem_cons.1 h with q | q
   ·simp [q]
   ·have:=ih q; simp; omega
  ·rw [if_neg c] at h
   cases e:dM r with
   | nil=>exact absurd e (iE r)
   | cons g' gs =>
    rw [e] at h ih
    simp only [pre,List.mem_cons] at h
    rcases h with q | q
    ·have:=ih (g:=g') (by simp); rw [q]; simp; omega
    ·have:=ih (g:=g) (by simp [q]); simp; omega
theorem tR {gs:List aD}{o:aD}{form:aD}{x i:Int}(q:gs.length<cC)(m:∀ g∈gs,g.length<cC)(u:sub form (aK (x+2)) (form.length:Int)=o)(r:0≤i∧i<(o.length:Int)) :
  aI (fun s:Bool×Int=>Z1_L5 form x gs i s.1 s.2) (false,0)=some (decide (∃ g∈gs,ix o i∈g)):=by
 have e:∀ b:Bool,decide (∃ g∈gs,ix o i∈g)=gs.any fun g=>decide (ix o i∈g):=by
  intro _
  rw [Bool.eq_iff_iff]; simp
 rw [e true]
 refine dN (f:=fun s:Bool×Int=>Z1_L5 form x gs i s.1 s.2) (fun j=>((gs.take j).any fun g=>decide (ix o i∈g),(j:Int))) gs.length (fun j a=>?_) ?_ rfl
 ·simp only [Z1_L5]
  rw [u,if_pos (by simp; omega),if_pos (fun _=>by omega),if_pos (fun _=>r),List.take_succ_eq_append_getElem a,List.any_append,bT (by omega),bC a]
  have h:bt o i=((ix o i).toNat:Int):=rfl
  rw [h,nu (m _ (List.getElem_mem a))]
  cases (gs.take j).any fun g=>decide (ix o i∈g) with
  | true=>simp [bR]
  | false=>simp [bR]
 ·simp only [Z1_L5]
  rw [if_neg (by simp),List.take_length]
theorem gm {form:aD}(F:form.length≤1048576):Z1 form=some (parts form):=by
 unfold Z1
 rw [vi F]
 simp only [Option.bind_some,Z1_J1]
 unfold parts
 have O:ce form≤form.length:=by
  by_cases c:ce form=0
  ·omega
  ·have:=(lL (s:=form) (j:=ce form - 1) (by omega)).1; omega
 rw [bT (by unfold cC; omega)]
 cases h:l5 form with
 | none =>
  have:=lK h
  rw [if_pos (by simp; omega)]
 | some p =>
  obtain ⟨l,o⟩:=p
  obtain ⟨J,E⟩:=gS h
  have T:form.length=l.length+2+o.length:=by rw [E]; simp; omega
  rw [if_neg (by simp; omega),J,nw F h]
  simp only [Option.bind_some]
  have I:aK ((l.length:Int)+2)=((l.length+2:Nat):Int):=by rw [bH (by omega) (by omega)]; omega
  have e:sub form (aK ((l.length:Int)+2)) (form.length:Int)=o:=by
   rw [I,jF,Int.toNat_natCast,E,List.drop_append]
   simp
  have u:(dM l).length<cC:=by
   rw [oR]; have:l.count 44≤l.length:=List.count_le_length; unfold cC; omega
  unfold Z1_J4
  rw [e,if_pos (by rw [I]; omega),j4 (by unfold cC; omega)]
  by_cases c1:(dM l).length≤6
  ·have d1:decide (((dM l).length:Int)>6)=false:=by simp; omega
   rw [d1]
   simp only [bR,Bool.not_false,cond_true,Option.bind_some,Bool.false_or]
   by_cases c2:LT o
   ·rw [decide_eq_true c2,if_neg (by simp)]
    have B:=dC (dM l) (fun s:Int=>Z1_L3 (dM l) s) (fun i=>i) (fun g=>decide (LT g)) (.inl ([],[],false)) (.inr ())
     (fun k G=>by
      simp only [Z1_L3]
      rw [if_pos (by simp; omega),if_pos (by omega),bT (by omega),j4 (by have:=l6 (aN G); unfold cC; omega)]
      cases decide (LT (ix (dM l) (k:Int)))<;>rfl)
     (by simp only [Z1_L3]; rw [if_neg (by simp)])
    rw [B]
    by_cases c3:∀ g∈dM l,LT g
    ·have m:((dM l).all fun g=>decide (LT g))=true:=by
      rw [List.all_eq_true]; intro g a; exact decide_eq_true (c3 g a)
     rw [m,if_pos rfl]
     simp only [Option.bind_some]
     unfold Z1_J5
     have D:=hD o.length (fun s:Int=>Z1_L4 form (l.length:Int) (dM l) s) (fun i=>i) (fun k=>decide (OL (dM l) o k)) (.inl ([],[],false)) (.inr ())
      (fun k G=>by
       simp only [Z1_L4]
       rw [e,if_pos (by simp; omega),tR u (fun g a=>by have:=l6 a; unfold cC; omega) e (by omega)]
       simp only [Option.bind_some,Z1_J7]
       rw [e,if_pos (fun _=>by omega),if_pos (fun _=>by omega),kq]
       have r:bt o (k:Int)=((ix o (k:Int)).toNat:Int):=rfl
       rw [r,nu (by simp; unfold cC; omega),bT (by unfold cC; omega)]
       by_cases q1:∃ g∈dM l,ix o (k:Int)∈g
       ·by_cases q2:ix o (k:Int)∈o.take k
        ·rw [decide_eq_true q1,decide_eq_true q2,decide_eq_false (fun z:OL (dM l) o k=>z.2 q2)]; rfl
        ·rw [decide_eq_true q1,decide_eq_false q2,show decide (OL (dM l) o k)=true from decide_eq_true ⟨q1,q2⟩]; rfl
       ·rw [decide_eq_false q1,decide_eq_false (fun z:OL (dM l) o k=>q1 z.1)]; rfl)
      (by simp only [Z1_L4]; rw [e,if_neg (by simp)])
     rw [D]
     by_cases c4:∀ i∈List.range o.length,OL (dM l) o i
     ·have q:((List.range o.length).all fun k=>decide (OL (dM l) o k))=true:=by
       rw [List.all_eq_true]; intro g a; exact decide_eq_true (c4 g a)
      rw [q,if_pos rfl,if_pos ⟨c1,c2,c3,c4⟩]
      simp only [Option.bind_some,Z1_J8]
      rw [e]
     ·have q:((List.range o.length).all fun k=>decide (OL (dM l) o k))=false:=by
       rw [Bool.eq_false_iff]; intro z
       exact c4 fun i M=>of_decide_eq_true (List.all_eq_true.1 z i M)
      rw [q,if_neg (by simp),if_neg (fun z=>c4 z.2.2.2)]; rfl
    ·have m:((dM l).all fun g=>decide (LT g))=false:=by
      rw [Bool.eq_false_iff]; intro z
      exact c3 fun g a=>of_decide_eq_true (List.all_eq_true.1 z g a)
     rw [m,if_neg (by simp),if_neg (fun z=>c3 z.2.2.1)]; rfl
   ·rw [decide_eq_false c2,if_pos (by simp),if_neg (fun z=>c2 z.2.1)]
  ·have d1:decide (((dM l).length:Int)>6)=true:=by simp; omega
   rw [d1,if_neg (fun z=>c1 z.1)]
   simp [bR]
theorem tS {form:aD}(m:form.length≤1048576):Z10 form str0=some (match l5 form with | none=>(form,[],false) | some p=>(p.1,p.2,true)):=by
 unfold Z10 cF bE
 rw [if_pos (by omega),j5]
 simp only [Option.bind_some]
 cases h:l5 form with
 | none=>simp
 | some p =>
  obtain ⟨l,o⟩:=p
  obtain ⟨j,a⟩:=gS h
  have q:form.length=l.length+2+o.length:=by rw [a]; simp; omega
  have i:aK ((l.length:Int)+((str0.length:Nat):Int))=((l.length+2:Nat):Int):=by
   show aK ((l.length:Int)+2)=_
   rw [bH (by omega) (by omega)]; omega
  simp only
  rw [if_pos (by simp),if_pos (by omega),i,if_pos (by omega)]
  have e:sub form 0 (l.length:Int)=l:=by rw [kq,a]; simp
  have g:sub form ((l.length+2:Nat):Int) (form.length:Int)=o:=by
   rw [jF,Int.toNat_natCast,a,List.drop_append]; simp
  rw [e,g]; rfl
theorem oV {gs:List aD}{x:Nat}(h:x<gs.length)(j:(ix gs (x:Int)).length<cC) :
  aI (fun s:Int=>Z6_L2 gs (x:Int) s) 0=some (if ∀ c∈ix gs (x:Int),97≤c.toNat∧c.toNat≤122 then .inr () else .inl ([],[],false)):=by
 obtain ⟨g,a⟩:∃ g,g=ix gs (x:Int):=⟨_,rfl⟩
 have:=dC g (fun s:Int=>Z6_L2 gs (x:Int) s) (fun i=>i) (fun c=>decide (97≤c.toNat∧c.toNat≤122)) (.inl ([],[],false)) (.inr ())
  (fun k m=>by
   have e:bt g (k:Int)=((ix g (k:Int)).toNat:Int):=rfl
   simp only [Z6_L2]
   rw [← a,if_pos (by simp; omega),if_pos (by omega),bT (by rw [← a] at j; omega)]
   by_cases q:97≤(ix g (k:Int)).toNat∧(ix g (k:Int)).toNat≤122
   ·rw [if_neg (by simp only [Bool.or_eq_true,decide_eq_true_eq,e]; omega),decide_eq_true q,if_pos rfl]
   ·rw [if_pos (by simp only [Bool.or_eq_true,decide_eq_true_eq,e]; omega),decide_eq_false q,if_neg (by simp)])
  (by simp only [Z6_L2]; rw [← a,if_neg (by simp)])
 rw [this,← a]
 by_cases c:∀ c∈g,97≤c.toNat∧c.toNat≤122
 ·rw [if_pos c,if_pos (by rw [List.all_eq_true]; intro x h; exact decide_eq_true (c x h))]
 ·rw [if_neg c,if_neg]
  intro z
  exact c fun x h=>of_decide_eq_true (List.all_eq_true.1 z x h)
theorem lQ {form:aD}(T:form.length≤1048576):Z6 form=some (parts form):=by
 unfold Z6 parts
 rw [tS T]
 simp only [Option.bind_some]
 cases h:l5 form with
 | none=>simp
 | some p =>
  obtain ⟨l,o⟩:=p
  obtain ⟨e1,O⟩:=gS h
  have hl:form.length=l.length+2+o.length:=by rw [O]; simp; omega
  simp only [Bool.not_true,Bool.false_or]
  by_cases c0:o.length≤6
  ·rw [if_neg (by simp; omega),oU (by omega)]
   simp only [Option.bind_some]
   by_cases c1:(dM l).length≤6
   ·rw [if_neg (by simp; omega)]
    have E:=dC (dM l) (fun s:Int=>Z6_L1 (dM l) s) (fun i=>i) (fun g=>decide (LT g)) (.inl ([],[],false)) (.inr ())
     (fun k e=>by
      have j:=l6 (aN e)
      simp only [Z6_L1]
      rw [if_pos (by simp; omega),if_pos (by omega)]
      by_cases q1:(ix (dM l) (k:Int)).length≤6
      ·rw [if_neg (by simp; omega),oV e (by unfold cC; omega)]
       by_cases q2:∀ c∈ix (dM l) (k:Int),97≤c.toNat∧c.toNat≤122
       ·rw [if_pos q2,show decide (LT (ix (dM l) (k:Int)))=true from decide_eq_true ⟨q1,q2⟩,if_pos rfl]
        simp only [Option.bind_some,Z6_J2]
        rw [bT (by unfold cC; omega)]
       ·rw [if_neg q2,show decide (LT (ix (dM l) (k:Int)))=false from decide_eq_false (fun z=>q2 z.2),if_neg (by simp)]; rfl
      ·rw [if_pos (by simp; omega),show decide (LT (ix (dM l) (k:Int)))=false from decide_eq_false (fun z=>q1 z.1),if_neg (by simp)])
     (by simp only [Z6_L1]; rw [if_neg (by simp)])
    rw [E]
    by_cases c3:∀ g∈dM l,LT g
    ·have u:((dM l).all fun g=>decide (LT g))=true:=by
      rw [List.all_eq_true]; intro g j; exact decide_eq_true (c3 g j)
     rw [u,if_pos rfl]
     simp only [Option.bind_some]
     unfold Z6_J3
     have F:=hD o.length (fun s:Int=>Z6_L3 (l,o,true) s) (fun i=>i) (fun k=>decide ((97≤(ix o (k:Int)).toNat∧(ix o (k:Int)).toNat≤122)∧OL (dM l) o k)) (.inl ([],[],false)) (.inr ())
      (fun k e=>by
       have a:bt o (k:Int)=((ix o (k:Int)).toNat:Int):=rfl
       simp only [Z6_L3]
       rw [if_pos (by simp; omega),if_pos (by omega),bT (by unfold cC; omega),kq]
       by_cases q:97≤(ix o (k:Int)).toNat∧(ix o (k:Int)).toNat≤122
       ·have r:(decide (bt o (k:Int)<97)||decide (bt o (k:Int)>122))=false:=by
         rw [Bool.eq_false_iff]; simp only [ne_eq,Bool.or_eq_true,decide_eq_true_eq,a]; omega
        rw [r,if_pos (fun _=>by omega)]
        have D:ix o (k:Int)≠44:=by
         intro z; rw [z] at q; exact absurd q (by decide)
        obtain ⟨G,Y,I⟩:=jK (o.take k) (ix o (k:Int))
        obtain ⟨J,Z,s3⟩:=jK l (ix o (k:Int))
        rw [a,Y,Z]
        simp only [bR,Bool.not_false,cond_true,Option.bind_some,Bool.false_or]
        rw [← oS l _ D] at s3
        by_cases q2:ix o (k:Int)∈o.take k
        ·have:decide (G≥0)=true:=by
          rw [decide_eq_true_eq]
          have:¬ G<0:=fun z=>I.1 z q2
          omega
         rw [this,decide_eq_false (fun z=>z.2.2 q2)]; rfl
        ·have:decide (G≥0)=false:=by
          rw [decide_eq_false_iff_not]
          have:=I.2 q2
          omega
         rw [this]
         simp only [Bool.not_false,cond_true,Option.bind_some,Bool.false_or]
         by_cases q3:∃ g∈dM l,ix o (k:Int)∈g
         ·have:decide (J<0)=false:=by
           rw [decide_eq_false_iff_not]
           exact fun z=>s3.1 z q3
          rw [this,decide_eq_true ⟨q,q3,q2⟩]; rfl
         ·have:decide (J<0)=true:=decide_eq_true (s3.2 q3)
          rw [this,decide_eq_false (fun z=>q3 z.2.1)]; rfl
       ·have r:(decide (bt o (k:Int)<97)||decide (bt o (k:Int)>122))=true:=by
         simp only [Bool.or_eq_true,decide_eq_true_eq,a]; omega
        rw [r,if_pos (fun z=>by cases z),decide_eq_false (fun z=>q z.1)]
        rfl)
      (by simp only [Z6_L3]; rw [if_neg (by simp)])
     rw [F]
     by_cases c4:PO (dM l) o
     ·have B:((List.range o.length).all fun k=>decide ((97≤(ix o (k:Int)).toNat∧(ix o (k:Int)).toNat≤122)∧OL (dM l) o k))=true:=by
       rw [List.all_eq_true]; intro k e
       exact decide_eq_true ⟨c4.2.1.2 _ (aN (List.mem_range.1 e)),c4.2.2.2 k e⟩
      rw [B,if_pos rfl,if_pos c4]; rfl
     ·have B:((List.range o.length).all fun k=>decide ((97≤(ix o (k:Int)).toNat∧(ix o (k:Int)).toNat≤122)∧OL (dM l) o k))=false:=by
       rw [Bool.eq_false_iff]; intro z
       have M:=List.all_eq_true.1 z
       refine c4 ⟨c1,⟨c0,fun c U=>?_⟩,c3,fun i m=>(of_decide_eq_true (M i m)).2⟩
       obtain ⟨i,m,rfl⟩:=List.mem_iff_getElem.1 U
       have:=(of_decide_eq_true (M i (List.mem_range.2 m))).1
       rwa [bC m] at this
      rw [B,if_neg (by simp),if_neg c4]; rfl
    ·have u:((dM l).all fun g=>decide (LT g))=false:=by
      rw [Bool.eq_false_iff]; intro z
      exact c3 fun g j=>of_decide_eq_true (List.all_eq_true.1 z g j)
     rw [u,if_neg (by simp),if_neg (fun z=>c3 z.2.2.1)]; rfl
   ·rw [if_pos (by simp; omega),if_neg (fun z=>c1 z.1)]
  ·rw [if_pos (by simp; omega),if_neg (fun z=>c0 z.2.1.1)]
def l7 {S:Type}(a:S→Nat→Option S):Nat→S→Option S
 | 0,s=>some s
 | n+1,s=>(l7 a n s).bind fun s'=>a s' n
theorem fK {S T A B:Type}{f:T→Option (T⊕(A⊕B))}(i:S→Nat→Option S)(mk:S→Int→T)(m:S→B)(e:A→Prop)(a:Nat→S→Prop)(n:Nat)
  (h1:∀ j s,j<n→a j s→(∃ s',i s j=some s'∧f (mk s (j:Int))=some (.inl (mk s' ((j+1:Nat):Int)))∧a (j+1) s')∨(i s j=none∧∃ b,f (mk s (j:Int))=some (.inr (.inl b))∧e b))
  (h2:∀ s,a n s→f (mk s (n:Int))=some (.inr (.inr (m s)))) {s:S} (G:a 0 s) :
  (∃ s',l7 i n s=some s'∧aI f (mk s 0)=some (.inr (m s'))∧a n s')∨(l7 i n s=none∧∃ b,aI f (mk s 0)=some (.inl b)∧e b):=by
 have E:∀ j,j≤n→(∃ s',l7 i j s=some s'∧aI f (mk s 0)=aI f (mk s' (j:Int))∧a j s')∨(l7 i j s=none∧∃ b,aI f (mk s 0)=some (.inl b)∧e b):=by
  intro j
  induction j with
  | zero=>intro _; exact .inl ⟨s,rfl,rfl,G⟩
  | succ j ih =>
   intro I
   rcases ih (by omega) with ⟨s',g,h,a3⟩|⟨g,h⟩
   ·rcases h1 j s' (by omega) a3 with ⟨F,r,u,D⟩|⟨r,b,u,D⟩
    ·exact .inl ⟨F,by rw [l7,g]; exact r,by rw [h,cZ u],D⟩
    ·exact .inr ⟨by rw [l7,g]; exact r,b,by rw [h,cH u],D⟩
   ·exact .inr ⟨by rw [l7,g]; rfl,h⟩
 rcases E n (Nat.le_refl _) with ⟨s',g,h,a3⟩ | q
 ·exact .inl ⟨s',g,by rw [h,cH (h2 s' a3)],a3⟩
 ·exact .inr q
def lk (lens:List Int)(c:UInt8):Int:=ix lens ((c.toNat:Int) - 97)
def gU (s:aD×List Int)(c:UInt8)(d:Int):Option (aD×List Int) :=
 if lk s.2 c≠0∧lk s.2 c≠d then none else some (if c∈s.1 then s.1 else s.1++[c],s.2.set (c.toNat - 97) d)
def hF (g:aD)(ds:List Int)(s:aD×List Int):Option (aD×List Int) :=
 if g.length=ds.length then l7 (fun s k=>gU s (ix g (k:Int)) (ix ds (k:Int))) g.length s else none
def iU (gs:List aD)(dss:List (List Int))(s:aD×List Int):Option (aD×List Int):=l7 (fun s k=>hF (ix gs (k:Int)) (ix dss (k:Int)) s) gs.length s
theorem nx {c:UInt8}(h:97≤c.toNat∧c.toNat≤122):IntKind.wrap .u8 ((c.toNat:Int) - 97)=(c.toNat:Int) - 97:=by
 unfold IntKind.wrap
 simp [IntKind.bits,IntKind.signed]
 omega
theorem lR {g:aD}{k:Nat}(h:k<g.length):sub g (k:Int) ((k+1:Nat):Int)=[ix g (k:Int)]:=by
 unfold sub
 rw [Int.toNat_natCast,Int.toNat_natCast,List.take_succ_eq_append_getElem h,List.drop_append_of_le_length (by simp; omega),bC h]
 simp
theorem ru {gs:List aD}{dss:List (List Int)}{b:List aD×aD×Bool}{x:Nat}(J:b.1=gs)(hx:x<gs.length)(B:LT (ix gs (x:Int))){m:Nat}(hm:m≤100){s:aD×List Int}(h1:s.1.length≤m)(h2:s.2.length=26)(E:(ix gs (x:Int)).length=(ix dss (x:Int)).length) :
  (∃ s',hF (ix gs (x:Int)) (ix dss (x:Int)) s=some s'∧aI (fun s:aD×List Int×Int=>Z3_L2 dss b (x:Int) s.1 s.2.1 s.2.2) (s.1,s.2,0)=some (.inr (s'.1,s'.2))∧s'.1.length≤m+6∧s'.2.length=26) ∨
  (hF (ix gs (x:Int)) (ix dss (x:Int)) s=none∧∃ e,aI (fun s:aD×List Int×Int=>Z3_L2 dss b (x:Int) s.1 s.2.1 s.2.2) (s.1,s.2,0)=some (.inl e)∧e.2=false):=by
 obtain ⟨g,u⟩:∃ g,g=ix gs (x:Int):=⟨_,rfl⟩
 obtain ⟨ds,h⟩:∃ ds,ds=ix dss (x:Int):=⟨_,rfl⟩
 have a:ix b.1 (x:Int)=g:=by rw [J,u]
 rw [← u] at B E ⊢
 rw [← h] at E ⊢
 unfold hF
 rw [if_pos E]
 rcases fK (f:=fun s:aD×List Int×Int=>Z3_L2 dss b (x:Int) s.1 s.2.1 s.2.2) (fun s k=>gU s (ix g (k:Int)) (ix ds (k:Int))) (fun s i=>(s.1,s.2,i)) (fun s=>(s.1,s.2)) (fun e=>e.2=false) (fun j s=>s.1.length≤m+j∧s.2.length=26) g.length
  (fun j s G F=>by
   obtain ⟨i1,Y⟩:=F
   have M:=B.2 _ (aN G)
   have O:=B.1
   have D:bt g (j:Int)=((ix g (j:Int)).toNat:Int):=rfl
   simp only [Z3_L2]
   rw [a,← h,if_pos (by simp; omega),if_pos (by omega),D,nx M,if_pos (by omega),if_pos (fun _=>by omega)]
   show (∃ s',gU s _ _=_∧_)∨_
   unfold gU
   by_cases c:lk s.2 (ix g (j:Int))≠0∧lk s.2 (ix g (j:Int))≠ix ds (j:Int)
   ·rw [if_pos c,if_pos (by unfold lk at c; simpa using c)]
    exact .inr ⟨rfl,_,rfl,rfl⟩
   ·rw [if_neg c]
    obtain ⟨r,Z,I⟩:=jK s.1 (ix g (j:Int))
    have U:((((ix g (j:Int)).toNat:Int) - 97)).toNat=(ix g (j:Int)).toNat - 97:=by omega
    have T:¬ (((ix s.2 (((ix g (j:Int)).toNat:Int) - 97)) != 0)&&((ix s.2 (((ix g (j:Int)).toNat:Int) - 97)) != (ix ds (j:Int))))=true:=by
     unfold lk at c; simpa using c
    refine .inl ⟨_,rfl,?_,?_,by simpa using Y⟩
    ·rw [if_neg T,if_pos (by omega)]
     simp only [nm,Option.bind_some]
     rw [Z,U]
     simp only [Option.bind_some]
     by_cases q:ix g (j:Int)∈s.1
     ·rw [if_neg (by simp; have:¬ r<0:=fun z=>I.1 z q; omega),if_pos q]
      simp only [Z3_J5]
      rw [bT (by unfold cC; omega)]
     ·rw [if_pos (decide_eq_true (I.2 q)),bT (by unfold cC; omega),if_pos (by omega),lR G,if_pos (by simp; omega),if_neg q]
      simp only [Z3_J5]
      rw [bT (by unfold cC; omega)]
    ·by_cases q:ix g (j:Int)∈s.1
     ·simp only [if_pos q]; omega
     ·simp only [if_neg q]; simp; omega)
  (fun s F=>by
   simp only [Z3_L2]
   rw [a,if_neg (by simp)])
  (s:=s) ⟨by omega,h2⟩ with ⟨s',a1,a2,a3,a4⟩|⟨a1,e,a2,a3⟩
 ·have:=B.1
  exact .inl ⟨s',a1,a2,by omega,a4⟩
 ·exact .inr ⟨a1,e,a2,a3⟩
theorem rv {gs:List aD}{dss:List (List Int)}{b:List aD×aD×Bool}(q:b.1=gs)(G:gs.length≤6)(B:∀ g∈gs,LT g)(F:gs.length=dss.length){s:aD×List Int}(h1:s.1.length≤6)(h2:s.2.length=26) :
  (∃ s',iU gs dss s=some s'∧aI (fun s:aD×List Int×Int=>Z3_L1 dss b s.1 s.2.1 s.2.2) (s.1,s.2,0)=some (.inr (s'.1,s'.2))∧s'.1.length≤42∧s'.2.length=26) ∨
  (iU gs dss s=none∧∃ e,aI (fun s:aD×List Int×Int=>Z3_L1 dss b s.1 s.2.1 s.2.2) (s.1,s.2,0)=some (.inl e)∧e.2=false):=by
 unfold iU
 rcases fK (f:=fun s:aD×List Int×Int=>Z3_L1 dss b s.1 s.2.1 s.2.2) (fun s k=>hF (ix gs (k:Int)) (ix dss (k:Int)) s) (fun s i=>(s.1,s.2,i)) (fun s=>(s.1,s.2)) (fun e=>e.2=false) (fun j s=>s.1.length≤6+6*j∧s.2.length=26) gs.length
  (fun j s u r=>by
   obtain ⟨D,E⟩:=r
   simp only [Z3_L1]
   rw [q,if_pos (by simp; omega),if_pos (by omega),if_pos (by omega)]
   by_cases c:(ix gs (j:Int)).length=(ix dss (j:Int)).length
   ·rw [if_neg (by simp; omega)]
    rcases ru (m:=6+6*j) q u (B _ (aN u)) (by omega) D E c with ⟨s',a,h,a3,a4⟩|⟨a,e,h,a3⟩
    ·rw [h]
     refine .inl ⟨s',a,?_,by omega,a4⟩
     simp only [Option.bind_some,Z3_J6]
     rw [bT (by unfold cC; omega)]
    ·rw [h]
     exact .inr ⟨a,e,rfl,a3⟩
   ·rw [if_pos (by simp; omega)]
    refine .inr ⟨by unfold hF; rw [if_neg c],_,rfl,rfl⟩)
  (fun s r=>by
   simp only [Z3_L1]
   rw [q,if_neg (by simp)])
  (s:=s) ⟨by omega,h2⟩ with ⟨s',a,h,a3,a4⟩|⟨a,e,h,a3⟩
 ·exact .inl ⟨s',a,h,by omega,a4⟩
 ·exact .inr ⟨a,e,h,a3⟩
theorem ny:∀ {f:aD} {c:UInt8} {j:Nat},j<f.idxOf c→∀ h:j<f.length,f[j]≠c
 | [],_,_,_,h=>by simp at h
 | b::l,c,j,hj,h=>by
  rw [List.idxOf_cons] at hj
  cases e:b==c with
  | true=>rw [e] at hj; simp at hj
  | false =>
   rw [e] at hj
   cases j with
   | zero=>simpa using e
   | succ j=>exact ny (f:=l) (by simp at hj; omega) (by simpa using h)
theorem rx {gs:List aD}{k i:Nat}{f:aD}(u:f.length<cC)(B:i<(ix gs (k:Int)).length):aI (fun s:Int=>Z2_L3 gs (k:Int) f (i:Int) s) 0=some ((f.idxOf (ix (ix gs (k:Int)) (i:Int)):Nat):Int):=by
 obtain ⟨c,h⟩:∃ c,c=ix (ix gs (k:Int)) (i:Int):=⟨_,rfl⟩
 rw [← h]
 have r:f.idxOf c≤f.length:=List.idxOf_le_length
 have a:bt (ix gs (k:Int)) (i:Int)=(c.toNat:Int):=by rw [h]; rfl
 have g:∀ j:Nat,(bt f (j:Int) != (c.toNat:Int))=!decide (ix f (j:Int)=c):=by
  intro j
  have:(bt f (j:Int)==(c.toNat:Int))=decide (ix f (j:Int)=c):=gc
  unfold bne; rw [this]
 refine dN (f:=fun s:Int=>Z2_L3 gs (k:Int) f (i:Int) s) (fun j=>(j:Int)) (f.idxOf c) (fun j m=>?_) ?_ rfl
 ·have e:j<f.length:=by omega
  simp only [Z2_L3]
  rw [if_pos (fun _=>by omega),if_pos (fun _=>by omega),a,g,bT (by omega),if_pos]
  have:ix f (j:Int)≠c:=by
   rw [bC e]; exact ny m e
  simp [this]; omega
 ·simp only [Z2_L3]
  rw [if_pos (fun z=>by simp at z; omega),if_pos (fun _=>by omega),a,g,if_neg]
  by_cases q:f.idxOf c<f.length
  ·have:ix f ((f.idxOf c:Nat):Int)=c:=by rw [bC q]; exact List.getElem_idxOf q
   simp [this]
  ·simp; omega
theorem hG {lens:List Int}(h:lens.length=26){c a:UInt8}(i:97≤c.toNat∧c.toNat≤122)(g:97≤a.toNat∧a.toNat≤122)(d:Int):lk (lens.set (c.toNat - 97) d) a=if a=c then d else lk lens a:=by
 unfold lk
 have e:((a.toNat:Int) - 97)=((a.toNat - 97:Nat):Int):=by omega
 rw [e,bC (by simp; omega),List.getElem_set]
 by_cases q:a=c
 ·rw [if_pos q,if_pos (by rw [q])]
 ·have:a.toNat≠c.toNat:=fun z=>q (UInt8.toNat_inj.1 z)
  rw [if_neg q,if_neg (by omega),bC (by omega)]
theorem lT:∀ {f:aD} {c:UInt8} {g h:UInt8→Int} {d:Int},f.Nodup→c∈f→h c=d→(∀ x∈f,x≠c→h x=g x)→(f.map g).set (f.idxOf c) d=f.map h
 | [],_,_,_,_,_,hm,_,_=>by simp at hm
 | b::l,c,g,h,d,hn,hm,h1,h2=>by
  rw [List.nodup_cons] at hn
  rw [List.idxOf_cons]
  by_cases q:b=c
  ·subst q
   simp only [beq_self_eq_true,cond_true,List.map_cons,List.set_cons_zero,h1]
   congr 1
   apply List.map_congr_left
   intro x a
   exact (h2 x (List.mem_cons_of_mem _ a) (fun z=>hn.1 (z▸a))).symm
  ·have e:(b==c)=false:=by simpa using q
   have i:c∈l:=by
    rcases List.mem_cons.1 hm with z | z
    ·exact absurd z.symm q
    ·exact z
   rw [e]
   simp only [cond_false,List.map_cons,List.set_cons_succ]
   rw [lT hn.2 i h1 (fun x a j=>h2 x (List.mem_cons_of_mem _ a) j),h2 b (List.mem_cons_self ..) q]
structure IS (s:aD×List Int):Prop where
 l:s.2.length=26
 n:s.1.Nodup
 c:∀ c∈s.1,97≤c.toNat∧c.toNat≤122
 z:∀ c:UInt8,97≤c.toNat→c.toNat≤122→c ∉ s.1→lk s.2 c=0
theorem lU {s s':aD×List Int}{c:UInt8}{d:Int}(e:IS s)(i:97≤c.toNat∧c.toNat≤122)(h:gU s c d=some s'):IS s'∧s'.1.length≤s.1.length+1:=by
 unfold gU at h
 split at h
 ·cases h
 ·cases h
  by_cases q:c∈s.1
  ·simp only [if_pos q]
   refine ⟨⟨by simpa using e.l,e.n,e.c,fun x h1 h2 g=>?_⟩,by omega⟩
   rw [hG e.l i ⟨h1,h2⟩,if_neg (fun z=>g (by rw [z]; exact q))]
   exact e.z x h1 h2 g
  ·simp only [if_neg q]
   refine ⟨⟨by simpa using e.l,?_,?_,fun x h1 h2 g=>?_⟩,by simp⟩
   ·rw [List.nodup_append]
    refine ⟨e.n,by simp,?_⟩
    intro a m b j
    simp at j; subst j
    exact fun z=>q (z▸m)
   ·intro x r
    rcases List.mem_append.1 r with z | z
    ·exact e.c x z
    ·simp at z; rw [z]; exact i
   ·simp at g
    rw [hG e.l i ⟨h1,h2⟩,if_neg g.2]
    exact e.z x h1 h2 g.1
theorem jL {f:aD}{g:UInt8→Int}{p:Nat}(h:p<f.length):ix (f.map g) (p:Int)=g f[p]:=by
 rw [bC (by simpa using h)]; simp
theorem nz {gs:List aD}{dss:List (List Int)}{x j:Nat}{s:aD×List Int}(B:IS s)(J:s.1.length≤100)(hj:j<(ix gs (x:Int)).length)(hl:(ix gs (x:Int)).length=(ix dss (x:Int)).length)(h6:(ix gs (x:Int)).length≤6)(g:97≤(ix (ix gs (x:Int)) (j:Int)).toNat∧(ix (ix gs (x:Int)) (j:Int)).toNat≤122) :
  (∃ s',gU s (ix (ix gs (x:Int)) (j:Int)) (ix (ix dss (x:Int)) (j:Int))=some s'∧Z2_L2 gs dss (x:Int) s.1 (s.1.map (lk s.2)) (j:Int)=some (.inl (s'.1,s'.1.map (lk s'.2),((j+1:Nat):Int)))) ∨
  (gU s (ix (ix gs (x:Int)) (j:Int)) (ix (ix dss (x:Int)) (j:Int))=none∧∃ e,Z2_L2 gs dss (x:Int) s.1 (s.1.map (lk s.2)) (j:Int)=some (.inr (.inl e))∧e.2.2=false):=by
 obtain ⟨c,m⟩:∃ c,c=ix (ix gs (x:Int)) (j:Int):=⟨_,rfl⟩
 obtain ⟨d,Z⟩:∃ d,d=ix (ix dss (x:Int)) (j:Int):=⟨_,rfl⟩
 rw [← m] at g ⊢
 rw [← Z]
 have F:=rx (gs:=gs) (k:=x) (i:=j) (f:=s.1) (by unfold cC; omega) hj
 rw [← m] at F
 simp only [Z2_L2]
 rw [if_pos (by simp; omega),F]
 simp only [Option.bind_some]
 have U:∀ (f:aD) (ls:List Int),f.Nodup→c∈f→s.1.idxOf c=f.idxOf c→ls=f.map (lk s.2)→(∀ y∈f,97≤y.toNat∧y.toNat≤122) →
   Z2_J9 dss (x:Int) (j:Int) ((s.1.idxOf c:Nat):Int) f ls=if lk s.2 c≠0∧lk s.2 c≠d then some (.inr (.inl ([],ls,false))) else some (.inl (f,f.map (lk (s.2.set (c.toNat - 97) d)),((j+1:Nat):Int))):=by
  intro f ls hn J hi u r
  have D:f.idxOf c<f.length:=List.idxOf_lt_length_iff.2 J
  have e:ix ls ((f.idxOf c:Nat):Int)=lk s.2 c:=by
   rw [u,jL D]; congr 1; exact List.getElem_idxOf D
  have a0:ls.length=f.length:=by rw [u]; simp
  unfold Z2_J9
  rw [hi,e,← Z,if_pos (by omega),if_pos (fun _=>by omega)]
  by_cases q:lk s.2 c≠0∧lk s.2 c≠d
  ·rw [if_pos q,if_pos (by simpa using q)]
  ·rw [if_neg q,if_neg (by simpa using q),if_pos (by omega),bT (by unfold cC; omega),Int.toNat_natCast,u,lT hn J (h:=lk (s.2.set (c.toNat - 97) d))]
   ·rw [hG B.l g g,if_pos rfl]
   ·intro y O T
    rw [hG B.l g (r y O),if_neg T]
 have R:∀ f,(if c∈s.1 then s.1 else s.1++[c])=f→(∀ z,z=(if lk s.2 c≠0∧lk s.2 c≠d then some (.inr (.inl ([],f.map (lk s.2),false))) else some (.inl (f,f.map (lk (s.2.set (c.toNat - 97) d)),((j+1:Nat):Int))):Option ((aD×(List Int)×Int)⊕((aD×(List Int)×Bool)⊕(aD×(List Int))))) →
   (∃ s',gU s c d=some s'∧z=some (.inl (s'.1,s'.1.map (lk s'.2),((j+1:Nat):Int))))∨(gU s c d=none∧∃ e,z=some (.inr (.inl e))∧e.2.2=false)):=by
  intro f F z G
  unfold gU
  by_cases q:lk s.2 c≠0∧lk s.2 c≠d
  ·rw [if_pos q] at G ⊢
   exact .inr ⟨rfl,_,G,rfl⟩
  ·rw [if_neg q] at G ⊢
   rw [F]
   exact .inl ⟨_,rfl,G⟩
 unfold Z2_J8
 by_cases q:c∈s.1
 ·have D:s.1.idxOf c<s.1.length:=List.idxOf_lt_length_iff.2 q
  rw [if_neg (by simp; omega),U s.1 _ B.n q rfl rfl B.c]
  exact R s.1 (if_pos q) _ rfl
 ·have D:s.1.idxOf c=s.1.length:=by
   have:¬ s.1.idxOf c<s.1.length:=fun z=>q (List.idxOf_lt_length_iff.1 z)
   have:s.1.idxOf c≤s.1.length:=List.idxOf_le_length
   omega
  have I:(s.1++[c]).idxOf c=s.1.length:=by
   rw [List.idxOf_append,if_neg q]; simp
  have M:(s.1++[c]).Nodup:=by
   rw [List.nodup_append]
   refine ⟨B.n,by simp,?_⟩
   intro a ha b Y
   simp at Y; subst Y
   exact fun z=>q (z▸ha)
  have r:∀ y∈s.1++[c],97≤y.toNat∧y.toNat≤122:=by
   intro y O
   rcases List.mem_append.1 O with z | z
   ·exact B.c y z
   ·simp at z; rw [z]; exact g
  have E:s.1.map (lk s.2)++[0]=(s.1++[c]).map (lk s.2):=by
   rw [List.map_append]; simp [B.z c g.1 g.2 q]
  rw [if_pos (by rw [D]; simp),bT (by unfold cC; omega),if_pos (by omega),lR hj,← m,if_pos (by simp; omega),if_pos (by simp; omega),U (s.1++[c]) _ M (by simp) (by rw [D,I]) E r,E]
  exact R _ (if_neg q) _ rfl
theorem ry {gs:List aD}{dss:List (List Int)}{x:Nat}(u:LT (ix gs (x:Int))){m:Nat}(J:m≤90){s:aD×List Int}(h1:s.1.length≤m)(G:IS s)(D:(ix gs (x:Int)).length=(ix dss (x:Int)).length) :
  (∃ s',hF (ix gs (x:Int)) (ix dss (x:Int)) s=some s'∧aI (fun s:aD×List Int×Int=>Z2_L2 gs dss (x:Int) s.1 s.2.1 s.2.2) (s.1,s.1.map (lk s.2),0)=some (.inr (s'.1,s'.1.map (lk s'.2)))∧s'.1.length≤m+6∧IS s') ∨
  (hF (ix gs (x:Int)) (ix dss (x:Int)) s=none∧∃ e,aI (fun s:aD×List Int×Int=>Z2_L2 gs dss (x:Int) s.1 s.2.1 s.2.2) (s.1,s.1.map (lk s.2),0)=some (.inl e)∧e.2.2=false):=by
 unfold hF
 rw [if_pos D]
 have F:=u.1
 rcases fK (f:=fun s:aD×List Int×Int=>Z2_L2 gs dss (x:Int) s.1 s.2.1 s.2.2) (fun s k=>gU s (ix (ix gs (x:Int)) (k:Int)) (ix (ix dss (x:Int)) (k:Int))) (fun s i=>(s.1,s.1.map (lk s.2),i)) (fun s=>(s.1,s.1.map (lk s.2))) (fun e=>e.2.2=false) (fun j s=>s.1.length≤m+j∧IS s) (ix gs (x:Int)).length
  (fun j s B h=>by
   have r:=u.2 _ (aN B)
   rcases nz h.2 (by have:=h.1; omega) B D F r with ⟨s',a,g⟩ | q
   ·obtain ⟨E,I⟩:=lU h.2 r a
    exact .inl ⟨s',a,g,by have:=h.1; omega,E⟩
   ·exact .inr q)
  (fun s h=>by
   simp only [Z2_L2]
   rw [if_neg (by simp)])
  (s:=s) ⟨by omega,G⟩ with ⟨s',a,g,a3,a4⟩|⟨a,e,g,a3⟩
 ·exact .inl ⟨s',a,g,by omega,a4⟩
 ·exact .inr ⟨a,e,g,a3⟩
theorem nA {gs:List aD}{dss:List (List Int)}(G:gs.length≤6)(r:∀ g∈gs,LT g)(F:gs.length=dss.length){s:aD×List Int}(h1:s.1.length≤6)(B:IS s) :
  (∃ s',iU gs dss s=some s'∧aI (fun s:aD×List Int×Int=>Z2_L1 gs dss s.1 s.2.1 s.2.2) (s.1,s.1.map (lk s.2),0)=some (.inr (s'.1,s'.1.map (lk s'.2)))∧s'.1.length≤42∧IS s') ∨
  (iU gs dss s=none∧∃ e,aI (fun s:aD×List Int×Int=>Z2_L1 gs dss s.1 s.2.1 s.2.2) (s.1,s.1.map (lk s.2),0)=some (.inl e)∧e.2.2=false):=by
 unfold iU
 rcases fK (f:=fun s:aD×List Int×Int=>Z2_L1 gs dss s.1 s.2.1 s.2.2) (fun s k=>hF (ix gs (k:Int)) (ix dss (k:Int)) s) (fun s i=>(s.1,s.1.map (lk s.2),i)) (fun s=>(s.1,s.1.map (lk s.2))) (fun e=>e.2.2=false) (fun j s=>s.1.length≤6+6*j∧IS s) gs.length
  (fun j s u q=>by
   obtain ⟨D,E⟩:=q
   simp only [Z2_L1]
   rw [if_pos (by simp; omega),if_pos (by omega),if_pos (by omega)]
   by_cases c:(ix gs (j:Int)).length=(ix dss (j:Int)).length
   ·rw [if_neg (by simp; omega)]
    rcases ry (m:=6+6*j) (r _ (aN u)) (by omega) D E c with ⟨s',a,h,a3,a4⟩|⟨a,e,h,a3⟩
    ·rw [h]
     refine .inl ⟨s',a,?_,by omega,a4⟩
     simp only [Option.bind_some,Z2_J10]
     rw [bT (by unfold cC; omega)]
    ·rw [h]
     exact .inr ⟨a,e,rfl,a3⟩
   ·rw [if_pos (by simp; omega)]
    refine .inr ⟨by unfold hF; rw [if_neg c],_,rfl,rfl⟩)
  (fun s q=>by
   simp only [Z2_L1]
   rw [if_neg (by simp)])
  (s:=s) ⟨by omega,B⟩ with ⟨s',a,h,a3,a4⟩|⟨a,e,h,a3⟩
 ·exact .inl ⟨s',a,h,by omega,a4⟩
 ·exact .inr ⟨a,e,h,a3⟩
theorem jM {S:Type}{e:S→Nat→Option S}(I:Nat→S→Prop){s:S}(a:I 0 s):∀ (n:Nat),(∀ j s s',j<n→I j s→e s j=some s'→I (j+1) s')→∀ {s':S},l7 e n s=some s'→I n s'
 | 0,_,s',h=>by cases h; exact a
 | n+1,hs,s',h=>by
  rw [l7] at h
  obtain ⟨m,h1,h2⟩:=bd h
  exact hs n m s' (by omega) (jM I a n (fun j s s' g=>hs j s s' (by omega)) h1) h2
structure Ext (s s':aD×List Int):Prop where
 i:IS s'
 p:∃ t,s'.1=s.1++t
 k:∀ c:UInt8,97≤c.toNat→c.toNat≤122→lk s.2 c≠0→lk s'.2 c=lk s.2 c
theorem Ext.rfl_ {s:aD×List Int}(h:IS s):Ext s s:=⟨h,⟨[],by simp⟩,fun _ _ _ _=>rfl⟩
theorem Ext.trans {a b c:aD×List Int}(h1:Ext a b)(h2:Ext b c):Ext a c:=by
 obtain ⟨t,e⟩:=h1.p
 obtain ⟨u,g⟩:=h2.p
 refine ⟨h2.i,⟨t++u,by rw [g,e,List.append_assoc]⟩,fun x a b h=>?_⟩
 have:=h1.k x a b h
 rw [h2.k x a b (by rw [this]; exact h),this]
theorem nB {s s':aD×List Int}{c:UInt8}{d:Int}(j:IS s)(g:97≤c.toNat∧c.toNat≤122)(h:gU s c d=some s'):Ext s s'∧c∈s'.1∧lk s'.2 c=d∧∀ x∈s'.1,x∈s.1∨x=c:=by
 have u:=(lU j g h).1
 unfold gU at h
 split at h
 ·cases h
 ·rename_i q
  cases h
  refine ⟨⟨u,?_,fun x a b r=>?_⟩,?_,?_,?_⟩
  ·by_cases m:c∈s.1
   ·exact ⟨[],by simp [m]⟩
   ·exact ⟨[c],by simp [m]⟩
  ·show lk (s.2.set _ _) x=_
   rw [hG j.l g ⟨a,b⟩]
   by_cases e:x=c
   ·subst e
    rw [if_pos rfl]
    exact Classical.byContradiction fun z=>q ⟨r,fun w=>z w.symm⟩
   ·rw [if_neg e]
  ·by_cases m:c∈s.1<;>simp [m]
  ·show lk (s.2.set _ _) c=_
   rw [hG j.l g g,if_pos rfl]
  ·intro x i
   by_cases m:c∈s.1
   ·simp only [if_pos m] at i; exact .inl i
   ·simp only [if_neg m] at i; simpa using i
theorem nC {g:aD}{ds:List Int}{s s':aD×List Int}(O:IS s)(E:LT g)(J:∀ d∈ds,d≠0)(h:hF g ds s=some s') :
  Ext s s'∧g.length=ds.length∧(∀ j:Nat,j<g.length→ix g (j:Int)∈s'.1∧lk s'.2 (ix g (j:Int))=ix ds (j:Int))∧∀ x∈s'.1,x∈s.1∨x∈g:=by
 unfold hF at h
 split at h
 ·rename_i M
  obtain ⟨a,b,c⟩:=jM (fun n z=>Ext s z∧(∀ j:Nat,j<n→ix g (j:Int)∈z.1∧lk z.2 (ix g (j:Int))=ix ds (j:Int))∧∀ x∈z.1,x∈s.1∨x∈g) ⟨Ext.rfl_ O,fun j F=>absurd F (Nat.not_lt_zero _),fun x B=>.inl B⟩ g.length
   (fun n z Y G I U=>by
    obtain ⟨a,b,c⟩:=I
    obtain ⟨p,q,r,t⟩:=nB a.i (E.2 _ (aN G)) U
    refine ⟨a.trans p,fun j F=>?_,fun x B=>?_⟩
    ·by_cases e:j=n
     ·subst e; exact ⟨q,r⟩
     ·obtain ⟨m,l⟩:=b j (by omega)
      obtain ⟨u,T⟩:=p.p
      have D:=E.2 _ (aN (show j<g.length by omega))
      refine ⟨by rw [T]; exact List.mem_append_left _ m,?_⟩
      rw [p.k _ D.1 D.2 (by rw [l]; exact J _ (aN (by omega))),l]
    ·rcases t x B with y | y
     ·exact c x y
     ·rw [y]; exact .inr (aN G)) h
  exact ⟨a,M,b,c⟩
 ·cases h
theorem nD {gs:List aD}{dss:List (List Int)}{s s':aD×List Int}(O:IS s)(Y:gs.length=dss.length)(G:∀ g∈gs,LT g)(F:∀ ds∈dss,∀ d∈ds,d≠0)(h:iU gs dss s=some s') :
  Ext s s'∧(∀ x:Nat,x<gs.length→(ix gs (x:Int)).length=(ix dss (x:Int)).length∧∀ j:Nat,j<(ix gs (x:Int)).length→ix (ix gs (x:Int)) (j:Int)∈s'.1∧lk s'.2 (ix (ix gs (x:Int)) (j:Int))=ix (ix dss (x:Int)) (j:Int))∧∀ y∈s'.1,y∈s.1∨∃ g∈gs,y∈g:=by
 unfold iU at h
 exact jM (fun n z=>Ext s z∧(∀ x:Nat,x<n→(ix gs (x:Int)).length=(ix dss (x:Int)).length∧∀ j:Nat,j<(ix gs (x:Int)).length→ix (ix gs (x:Int)) (j:Int)∈z.1∧lk z.2 (ix (ix gs (x:Int)) (j:Int))=ix (ix dss (x:Int)) (j:Int))∧∀ y∈z.1,y∈s.1∨∃ g∈gs,y∈g) ⟨Ext.rfl_ O,fun j B=>absurd B (Nat.not_lt_zero _),fun x J=>.inl J⟩ gs.length
  (fun n z Z I M U=>by
   obtain ⟨a,b,c⟩:=M
   have D:=G _ (aN I)
   obtain ⟨p,q,r,t⟩:=nC a.i D (F _ (aN (by omega))) U
   refine ⟨a.trans p,fun x J=>?_,fun y T=>?_⟩
   ·by_cases e:x=n
    ·subst e; exact ⟨q,r⟩
    ·obtain ⟨l,m⟩:=b x (by omega)
     refine ⟨l,fun j B=>?_⟩
     obtain ⟨u,v⟩:=m j B
     obtain ⟨w,hw⟩:=p.p
     have E:=(G _ (aN (show x<gs.length by omega))).2 _ (aN B)
     refine ⟨by rw [hw]; exact List.mem_append_left _ u,?_⟩
     rw [p.k _ E.1 E.2 (by rw [v]; exact F _ (aN (by omega)) _ (aN (by omega))),v]
   ·rcases t y T with w | w
    ·exact c y w
    ·exact .inr ⟨_,aN I,w⟩) h
theorem oW {ds:List Int}{k:Int}(U:ds.length≤100)(h1:∀ d∈ds,1≤d∧d≤4096)(g:0≤k)(m:k≤65536):Zg ds k=some (fq ds k):=by
 have a:∀ j,1≤pr (ds.drop j):=fun j=>cX fun d h=>(h1 d (List.mem_of_mem_drop h)).1
 unfold Zg
 rw [if_pos (by omega)]
 have:=dN (f:=fun s:Int×List Int×Int=>Zg_L1 ds s.1 s.2.1 s.2.2) (r:=fq ds k)
  (fun j=>(k / pr (ds.drop (ds.length - j)),List.replicate (ds.length - j) 0++fq (ds.drop (ds.length - j)) k,(ds.length:Int) - 1 - j)) ds.length
  (fun j T=>by
   obtain ⟨i,F⟩:∃ i,i=ds.length - (j+1):=⟨_,rfl⟩
   have u:ds.length - j=i+1:=by omega
   have B:(ds.length:Int) - 1 - (j:Int)=(i:Int):=by omega
   have e:i<ds.length:=by omega
   have G:=h1 _ (aN e)
   have I:=a (i+1)
   have h:ds.drop i=ix ds (i:Int)::ds.drop (i+1):=by rw [List.drop_eq_getElem_cons e,bC e]
   have q:0≤k / pr (ds.drop (i+1)):=Int.ediv_nonneg g (by omega)
   have J:k / pr (ds.drop (i+1))≤65536:=Int.le_trans (Int.ediv_le_self _ g) m
   simp only [Zg_L1,u,B,← F]
   rw [if_pos (by simp),if_pos (by omega),if_pos (by omega),if_pos (by simp; omega)]
   have D:(k / pr (ds.drop (i+1))).tdiv (ix ds (i:Int))=k / pr (ds.drop i):=by
    rw [Int.tdiv_eq_ediv_of_nonneg q,h]; exact (nf I G.1).1.symm
   have E:(k / pr (ds.drop (i+1))).tmod (ix ds (i:Int))=k / pr (ds.drop (i+1)) % ix ds (i:Int):=Int.tmod_eq_emod_of_nonneg q
   have M:0≤k / pr (ds.drop i):=Int.ediv_nonneg g (by have:=a i; omega)
   have O:k / pr (ds.drop i)≤65536:=Int.le_trans (Int.ediv_le_self _ g) m
   rw [D,E,bH (by omega) (by omega),bH (by omega) (by omega)]
   congr 4
   ·rw [h,List.set_append_left _ _ (by simp),List.replicate_succ',List.set_append_right _ _ (by simp)]
    simp [fq]
   ·omega)
  (by
   simp only [Zg_L1,Nat.sub_self,List.drop_zero,List.replicate_zero,List.nil_append]
   rw [if_neg (by simp; omega)])
  (s:=(k,List.replicate (ds.length:Int).toNat 0,aK ((ds.length:Int) - 1))) (by
   rw [bH (by omega) (by omega)]
   simp [pr,fq])
 rw [this]
 rfl
def wk (ls:List Int)(s:Int)(j:Nat):Option Int:=if s*ix ls (j:Int)>65536 then none else some (s*ix ls (j:Int))
theorem lV {ls:List Int}{j:Nat}(h:j<ls.length):pr (ls.take (j+1))=pr (ls.take j)*ix ls (j:Int):=by
 rw [List.take_succ_eq_append_getElem h,iD,bC h]; simp [pr]
theorem vj {ls:List Int}(h:∀ d∈ls,1≤d):∀ n,n≤ls.length→l7 (wk ls) n 1=if pr (ls.take n)≤65536 then some (pr (ls.take n)) else none
 | 0,_=>by simp [l7,pr]
 | n+1,hn=>by
  have i:1≤pr (ls.take n):=cX fun d g=>h d (List.mem_of_mem_take g)
  have g:=h _ (aN (show n<ls.length by omega))
  rw [l7,vj h n (by omega),lV (by omega)]
  by_cases c:pr (ls.take n)≤65536
  ·rw [if_pos c]
   simp only [Option.bind_some,wk]
   by_cases e:pr (ls.take n)*ix ls (n:Int)≤65536
   ·rw [if_neg (by omega),if_pos e]
   ·rw [if_pos (by omega),if_neg e]
  ·rw [if_neg c,if_neg]
   ·rfl
   ·have:=fE (a:=pr (ls.take n)) (b:=ix ls (n:Int)) (by omega) g
    omega
theorem rz {ls:List Int}(B:ls.length≤100)(h:∀ d∈ls,1≤d∧d≤4096) :
  (pr ls≤65536∧aI (fun s:Int×Int=>Z2_L4 ls s.1 s.2) (1,0)=some (.inr ())) ∨
  (¬ pr ls≤65536∧∃ e,aI (fun s:Int×Int=>Z2_L4 ls s.1 s.2) (1,0)=some (.inl e)∧e.2.2=false):=by
 have g:=vj (fun d q=>(h d q).1) ls.length (Nat.le_refl _)
 rw [List.take_length] at g
 rcases fK (f:=fun s:Int×Int=>Z2_L4 ls s.1 s.2) (wk ls) (fun s i=>(s,i)) (fun _=>()) (fun e=>e.2.2=false) (fun j s=>1≤s∧s≤65536) ls.length
  (fun j s r m=>by
   have u:=h _ (aN r)
   simp only [Z2_L4]
   rw [if_pos (by simp; omega),if_pos (by omega),eU (by omega) (by omega) (by omega) (by omega),bT (by unfold cC; omega)]
   unfold wk
   by_cases c:s*ix ls (j:Int)>65536
   ·rw [if_pos c,if_pos (decide_eq_true c)]
    exact .inr ⟨rfl,_,rfl,rfl⟩
   ·rw [if_neg c,if_neg (by simpa using c)]
    have:=fE (a:=s) (b:=ix ls (j:Int)) (by omega) u.1
    exact .inl ⟨_,rfl,rfl,by omega,by omega⟩)
  (fun s m=>by simp only [Z2_L4]; rw [if_neg (by simp)])
  (s:=1) ⟨by omega,by omega⟩ with ⟨s',a1,a2,a3⟩|⟨a1,e,a2,a3⟩
 ·rw [g] at a1
  refine .inl ⟨?_,a2⟩
  split at a1
  ·assumption
  ·cases a1
 ·rw [g] at a1
  refine .inr ⟨?_,e,a2,a3⟩
  split at a1
  ·cases a1
  ·assumption
theorem rA {f:aD}{lens:List Int}(J:f.length≤100)(E:∀ c∈f,97≤c.toNat∧c.toNat≤122)(h:∀ d∈f.map (lk lens),1≤d∧d≤4096) :
  (pr (f.map (lk lens))≤65536∧aI (fun s:List Int×Int×Int=>Z3_L3 f lens s.1 s.2.1 s.2.2) ([],1,0)=some (.inr (f.map (lk lens)))) ∨
  (¬ pr (f.map (lk lens))≤65536∧∃ e,aI (fun s:List Int×Int×Int=>Z3_L3 f lens s.1 s.2.1 s.2.2) ([],1,0)=some (.inl e)∧e.2=false):=by
 obtain ⟨ls,g⟩:∃ ls,ls=f.map (lk lens):=⟨_,rfl⟩
 rw [← g] at h ⊢
 have F:ls.length=f.length:=by rw [g]; simp
 have r:=vj (fun d D=>(h d D).1) ls.length (Nat.le_refl _)
 rw [List.take_length] at r
 rcases fK (f:=fun s:List Int×Int×Int=>Z3_L3 f lens s.1 s.2.1 s.2.2) (wk ls) (fun s i=>(ls.take i.toNat,s,i)) (fun _=>ls) (fun e=>e.2=false) (fun j s=>1≤s∧s≤65536) ls.length
  (fun j s q u=>by
   have G:=h _ (aN q)
   have B:=E _ (aN (show j<f.length by omega))
   have I:ix lens (((ix f (j:Int)).toNat:Int) - 97)=ix ls (j:Int):=by
    rw [g,jL (by omega),bC (xs:=f) (by omega)]; rfl
   have m:bt f (j:Int)=((ix f (j:Int)).toNat:Int):=rfl
   simp only [Z3_L3]
   rw [if_pos (by simp; omega),if_pos (by omega),m,nx B,if_pos (by omega),I,if_pos (by simp; omega),eU (by omega) (by omega) (by omega) (by omega),bT (by unfold cC; omega)]
   unfold wk
   by_cases c:s*ix ls (j:Int)>65536
   ·rw [if_pos c,if_pos (decide_eq_true c)]
    exact .inr ⟨rfl,_,rfl,rfl⟩
   ·rw [if_neg c,if_neg (by simpa using c)]
    have:=fE (a:=s) (b:=ix ls (j:Int)) (by omega) G.1
    refine .inl ⟨_,rfl,?_,by omega,by omega⟩
    rw [Int.toNat_natCast,Int.toNat_natCast,List.take_succ_eq_append_getElem q,bC q])
  (fun s u=>by simp only [Z3_L3]; rw [if_neg (by simp; omega)]; simp)
  (s:=1) ⟨by omega,by omega⟩ with ⟨s',a1,a2,a3⟩|⟨a1,e,a2,a3⟩
 ·rw [r] at a1
  refine .inl ⟨?_,a2⟩
  split at a1
  ·assumption
  ·cases a1
 ·rw [r] at a1
  refine .inr ⟨?_,e,a2,a3⟩
  split at a1
  ·cases a1
  ·assumption
theorem j6 {f:form}{g:aD}{p:List Int}(h:f.order.length≤100)(m:g.length≤p.length)(B:p.length≤100):∃ r,Z8 f g p=some r:=by
 unfold Z8
 rw [if_pos (by omega)]
 obtain ⟨r,h1,h2⟩:=hO (f:=fun s:List Int×Int=>Z8_L1 f g p s.1 s.2) (fun j s=>s.1.length=f.order.length∧s.2=(j:Int)) f.order.length (Post:=fun _=>True)
  (fun j s q a=>by
   obtain ⟨x,i⟩:=s
   obtain ⟨h1,rfl⟩:=a
   dsimp only at h1
   simp only [Z8_L1]
   rw [if_pos (by simp; omega)]
   obtain ⟨r,g1,e⟩:=hO (f:=fun s:List Int×Int=>Z8_L2 f g p (j:Int) s.1 s.2) (fun k s=>s.1.length=f.order.length∧s.2=(k:Int)) g.length (Post:=fun r=>r.length=f.order.length)
    (fun k s u a=>by
     obtain ⟨x,i⟩:=s
     obtain ⟨h1,rfl⟩:=a
     dsimp only at h1
     simp only [Z8_L2,Z8_J5]
     rw [if_pos (by simp; omega),if_pos (by omega),if_pos (by omega)]
     split
     ·rw [if_pos (by simp; omega),if_pos (by omega)]
      exact ⟨_,rfl,by simpa using h1,by rw [bT (by unfold cC; omega)]⟩
     ·exact ⟨_,rfl,h1,by rw [bT (by unfold cC; omega)]⟩)
    (fun s a=>by
     obtain ⟨x,i⟩:=s
     obtain ⟨h1,rfl⟩:=a
     simp only [Z8_L2]
     rw [if_neg (by simp)]
     exact ⟨_,rfl,h1⟩)
    (s:=(x,0)) ⟨h1,rfl⟩
   rw [g1]
   exact ⟨_,rfl,e,by rw [bT (by unfold cC; omega)]⟩)
  (fun s a=>by
   obtain ⟨x,i⟩:=s
   obtain ⟨h1,rfl⟩:=a
   simp only [Z8_L1]
   rw [if_neg (by simp)]
   exact ⟨_,rfl,trivial⟩)
  (s:=(List.replicate (f.order.length:Int).toNat 0,0)) ⟨by simp,rfl⟩
 rw [h1]
 exact ⟨r,rfl⟩
def kr (gs:List aD)(o:aD)(dss:List (List Int))(s:aD×List Int):Prop:=iU gs dss (o,List.replicate 26 0)=some s∧pr (s.1.map (lk s.2))≤65536
theorem l8 {o:aD}(g:o.Nodup)(a:∀ c∈o,97≤c.toNat∧c.toNat≤122):IS (o,List.replicate 26 0):=by
 refine ⟨rfl,g,a,fun c h1 h2 _=>?_⟩
 unfold lk
 have e:((c.toNat:Int) - 97)=((c.toNat - 97:Nat):Int):=by omega
 rw [e,bC (by rw [List.length_replicate]; omega)]
 exact List.getElem_replicate _
theorem oX {o:aD}(g:∀ c∈o,97≤c.toNat∧c.toNat≤122):List.replicate (o.length:Int).toNat (0:Int)=o.map (lk (List.replicate 26 0)):=by
 rw [Int.toNat_natCast]
 symm
 rw [List.eq_replicate_iff]
 refine ⟨by simp,fun b a=>?_⟩
 obtain ⟨c,h,rfl⟩:=List.mem_map.1 a
 obtain ⟨h1,h2⟩:=g c h
 unfold lk
 have e:((c.toNat:Int) - 97)=((c.toNat - 97:Nat):Int):=by omega
 rw [e,bC (by rw [List.length_replicate]; omega)]
 exact List.getElem_replicate _
theorem iF {gs:List aD}{o:aD}(h:∀ i∈List.range o.length,OL gs o i):o.Nodup:=by
 refine List.pairwise_iff_getElem.2 fun i j m a g e=>?_
 have:=(h j (List.mem_range.2 a)).2
 rw [bC a] at this
 refine this ?_
 rw [← e,List.mem_take_iff_getElem]
 exact ⟨i,by omega,rfl⟩
structure Laid (gs:List aD)(o:aD)(dss:List (List Int))(s:aD×List Int):Prop where
 i:IS s
 l:s.1.length≤42
 p:∃ t,s.1=o++t
 g:∀ x:Nat,x<gs.length→(ix gs (x:Int)).length=(ix dss (x:Int)).length∧∀ j:Nat,j<(ix gs (x:Int)).length→ix (ix gs (x:Int)) (j:Int)∈s.1∧lk s.2 (ix (ix gs (x:Int)) (j:Int))=ix (ix dss (x:Int)) (j:Int)
 d:∀ d∈s.1.map (lk s.2),1≤d∧d≤4096
theorem i8 {gs:List aD}{o:aD}{dss:List (List Int)}{s:aD×List Int}(hp:PO gs o)(O:gs.length=dss.length)(J:∀ ds∈dss,fX ds)(h:iU gs dss (o,List.replicate 26 0)=some s):Laid gs o dss s:=by
 obtain ⟨p1,Y,Z,p4⟩:=hp
 have T:=l8 (iF p4) Y.2
 obtain ⟨a,b,c⟩:=nD T O Z (fun ds F d D=>by have:=(J ds F).2.1 d D; omega) h
 have r:s.1.length≤42:=by
  rcases nA p1 Z O (s:=(o,List.replicate 26 0)) Y.1 T with ⟨s',u,_,q3,_⟩|⟨u,_⟩
  ·rw [h] at u; cases u; exact q3
  ·rw [h] at u; cases u
 refine ⟨a.i,r,a.p,b,fun d E=>?_⟩
 obtain ⟨y,hy,rfl⟩:=List.mem_map.1 E
 have:∃ g∈gs,y∈g:=by
  rcases c y hy with q | q
  ·obtain ⟨k,M,e⟩:=List.getElem_of_mem q
   have:=(p4 k (List.mem_range.2 M)).1
   rw [bC M,e] at this
   exact this
  ·exact q
 obtain ⟨g,hg,I⟩:=this
 obtain ⟨x,U,rfl⟩:=List.getElem_of_mem hg
 obtain ⟨j,G,rfl⟩:=List.getElem_of_mem I
 have B:=b x U
 rw [bC U] at B
 have m:=(B.2 j G).2
 rw [bC G] at m
 rw [m]
 exact (J _ (aN (show x<dss.length by omega))).2.mem (aN (by rw [← B.1]; exact G))
theorem mo {gs:List aD}{o:aD}{dss:List (List Int)}(E:PO gs o)(q:gs.length=dss.length)(D:∀ ds∈dss,fX ds) :
  (∃ s,kr gs o dss s∧Z2 gs o dss=some (s.1,s.1.map (lk s.2),true))∨((∀ s,¬ kr gs o dss s)∧∃ e,Z2 gs o dss=some e∧e.2.2=false):=by
 obtain ⟨p1,h,r,u⟩:=E
 have F:=l8 (iF u) h.2
 have I:=h.1
 unfold Z2
 rw [if_pos (by omega),oX h.2]
 rcases nA p1 r q (s:=(o,List.replicate 26 0)) h.1 F with ⟨s,a,g,a3,a4⟩|⟨a,e,g,a3⟩
 ·have B:=i8 ⟨p1,h,r,u⟩ q D a
  simp only at g
  rw [g]
  simp only [Option.bind_some,Z2_J11]
  rcases rz (ls:=s.1.map (lk s.2)) (by simp; omega) B.d with ⟨j,m⟩|⟨j,e,m,G⟩
  ·rw [m]
   exact .inl ⟨s,⟨a,j⟩,rfl⟩
  ·rw [m]
   refine .inr ⟨fun s' i=>?_,e,rfl,G⟩
   have:=i.1
   rw [a] at this; cases this
   exact j i.2
 ·simp only at g
  rw [g]
  refine .inr ⟨fun s' i=>?_,e,rfl,a3⟩
  have:=i.1
  rw [a] at this; cases this
theorem nE {g f:aD}{vs:List Int}(T:g.length≤6)(O:f.length≤42)(U:vs.length=f.length)(M:f.Nodup)(J:∀ c∈g,c∈f):Z7 g f vs=some (g.map fun c=>ix vs ((f.idxOf c:Nat):Int)):=by
 unfold Z7
 rw [dN (f:=fun s:List Int×Int=>Z7_L1 g f vs s.1 s.2) (r:=g.map fun c=>ix vs ((f.idxOf c:Nat):Int)) (fun i=>((g.take i).map fun c=>ix vs ((f.idxOf c:Nat):Int),(i:Int))) g.length
  (fun i E=>by
   obtain ⟨c,u⟩:∃ c,c=g[i]:=⟨_,rfl⟩
   have B:ix g (i:Int)=c:=by rw [bC E,u]
   have D:c∈f:=J c (by rw [u]; exact List.getElem_mem E)
   have G:f.idxOf c<f.length:=List.idxOf_lt_length_iff.2 D
   obtain ⟨j,h⟩:∃ j,j=(g.take i).map fun c=>ix vs ((f.idxOf c:Nat):Int):=⟨_,rfl⟩
   have I:j.length≤6:=by rw [h]; simp; omega
   simp only [Z7_L1]
   rw [if_pos (by simp; omega),← h]
   rw [dN (f:=fun s:List Int×Int=>Z7_L2 g f vs (i:Int) s.1 s.2) (r:=j++[ix vs ((f.idxOf c:Nat):Int)]) (fun k=>(j++(if f.idxOf c<k then [ix vs ((f.idxOf c:Nat):Int)] else []),(k:Int))) f.length
    (fun k F=>by
     have m:(bt f (k:Int)==bt g (i:Int))=decide (f[k]=c):=by
      rw [show bt f (k:Int)=((ix f (k:Int)).toNat:Int) from rfl,show bt g (i:Int)=((ix g (i:Int)).toNat:Int) from rfl,gc,B,bC F]
     have a:f[k]=c↔f.idxOf c=k:=by
      constructor
      ·intro e
       rw [← e]
       exact M.idxOf_getElem k F
      ·intro e; subst e; exact List.getElem_idxOf G
     simp only [Z7_L2,Z7_J5]
     rw [if_pos (by simp; omega),if_pos (by omega),if_pos (by omega),m,bT (by unfold cC; omega)]
     by_cases q:f.idxOf c=k
     ·rw [if_pos (decide_eq_true (a.2 q)),if_pos (by omega),if_neg (show ¬ f.idxOf c<k by omega),if_pos (show f.idxOf c<k+1 by omega),List.append_nil,if_pos (by simp; omega),q]
     ·rw [if_neg (by simpa using fun z=>q (a.1 z))]
      by_cases r:f.idxOf c<k
      ·rw [if_pos r,if_pos (by omega)]
      ·rw [if_neg r,if_neg (by omega)])
    (by simp only [Z7_L2]; rw [if_neg (by simp),if_pos G])
    (s:=(j,0)) (by simp)]
   simp only [Option.bind_some,Z7_J6]
   rw [bT (by unfold cC; omega),List.take_succ_eq_append_getElem E,List.map_append,← h,← u]
   rfl)
  (by simp only [Z7_L1]; rw [if_neg (by simp),List.take_length])
  (s:=([],0)) rfl]
 rfl
theorem tT {ds is:List Int}(h:IV ds is){j:Nat}(a:j<ds.length):0≤ix is (j:Int)∧ix is (j:Int)<ix ds (j:Int):=by
 induction ds generalizing is j with
 | nil=>simp at a
 | cons d ds ih=>cases is with
  | nil=>exact h.elim
  | cons i is =>
   cases j with
   | zero=>simpa [ix] using h.1
   | succ j =>
    have:=ih h.2 (j:=j) (by simpa using a)
    simpa [ix] using this
theorem tU {ds is:List Int}(a:is.length=ds.length)(h:∀ j:Nat,j<ds.length→0≤ix is (j:Int)∧ix is (j:Int)<ix ds (j:Int)):IV ds is:=by
 induction ds generalizing is with
 | nil=>cases is with
  | nil=>trivial
  | cons=>simp at a
 | cons d ds ih=>cases is with
  | nil=>simp at a
  | cons i is =>
   refine ⟨by simpa [ix] using h 0 (by simp),ih (by simpa using a) fun j e=>?_⟩
   have:=h (j+1) (by simpa using e)
   simpa [ix] using this
theorem iG {ls:List Int}(h:∀ d∈ls,1≤d)(k:Nat):1≤pr (ls.take k)∧pr (ls.take k)≤pr ls:=by
 have h2:1≤pr (ls.drop k):=cX fun d a=>h d (List.mem_of_mem_drop a)
 have e:1≤pr (ls.take k):=cX fun d a=>h d (List.mem_of_mem_take a)
 exact ⟨e,by rw [fS ls k]; exact fE (by omega) h2⟩
def mq (f:aD)(dss:List (List Int))(s:aD×List Int):Prop:=(parts f).2.2=true∧(parts f).1.length=dss.length∧kr (parts f).1 (parts f).2.1 dss s∧fX ((s.1.map (lk s.2)).take (parts f).2.1.length)
theorem la {f:aD}{ts:List Tensor}(hb:f.length≤1048576)(ht:∀ t∈ts,TT t)(hn:ts.length≤6) :
  (∃ s,mq f (ts.map Tensor.Dims) s∧∃ d,Z4 f ts=some ⟨(s.1.map (lk s.2)).take (parts f).2.1.length,d⟩∧TOk ((s.1.map (lk s.2)).take (parts f).2.1.length) d)∨((¬ ∃ s,mq f (ts.map Tensor.Dims) s)∧Z4 f ts=some ⟨[],[]⟩):=by
 obtain ⟨dss,B⟩:∃ dss,dss=ts.map Tensor.Dims:=⟨_,rfl⟩
 have hd:∀ ds∈dss,fX ds:=by
  intro ds h
  rw [B] at h
  obtain ⟨t,h1,rfl⟩:=List.mem_map.1 h
  exact (ht t h1).d
 have ah:dss.length=ts.length:=by rw [B]; simp
 rw [← B]
 unfold mq
 obtain ⟨b,Y⟩:∃ b,b=parts f:=⟨_,rfl⟩
 have a8:b.2.2=true→PO b.1 b.2.1:=by
  rw [Y]; unfold parts
  split
  ·intro h; cases h
  ·split
   ·intro _; assumption
   ·intro h; cases h
 unfold Z4
 rw [gm hb,← Y]
 simp only [Option.bind_some]
 by_cases J:b.2.2=true∧b.1.length=dss.length
 ·obtain ⟨J,c2⟩:=J
  rw [if_neg (by simp [J]; omega)]
  have hP:=a8 J
  have a5:=hP
  obtain ⟨p1,p2,p3,p4⟩:=a5
  have L1:aI (fun s:List (List Int)×Int=>Z4_L1 ts s.1 s.2) ([],0)=some (Sum.inr dss):=by
   refine dN (f:=fun s:List (List Int)×Int=>Z4_L1 ts s.1 s.2) (fun k=>((ts.take k).map Tensor.Dims,(k:Int))) ts.length (fun k F=>?_) ?_ rfl
   ·simp only [Z4_L1]
    rw [if_pos (by simp; omega),if_pos (by omega),rq (ht _ (aN F))]
    simp only [Option.bind_some]
    rw [if_neg (by simp),if_pos (by simp; omega),bT (by unfold cC; omega),List.take_succ_eq_append_getElem F,List.map_append,bC F]
    rfl
   ·simp only [Z4_L1]
    rw [if_neg (by simp),List.take_length,← B]
  rw [L1]
  simp only [Option.bind_some,Z4_J1]
  rcases mo hP c2 hd with ⟨s,h1,h2⟩|⟨h1,e,h2,h3⟩
  ·rw [h2]
   simp only [Option.bind_some]
   have U:=i8 hP c2 hd h1.1
   obtain ⟨ls,D⟩:∃ ls,ls=s.1.map (lk s.2):=⟨_,rfl⟩
   have a0:ls.length=s.1.length:=by rw [D]; simp
   have Z:=U.l
   have I:=U.d
   obtain ⟨t,a4⟩:=U.p
   have ae:b.2.1.length≤ls.length:=by rw [a0,a4]; simp
   have a9:=h1.2
   rw [← D] at a9 I ⊢
   have G:∀ d∈ls,1≤d:=fun d h=>(I d h).1
   rw [if_pos (fun _=>by omega)]
   simp only [bR,Bool.not_true,Bool.not_false,cond_true,Bool.false_or]
   rw [kq,kX (by simp only [List.length_take]; unfold cC; omega)]
   simp only [Option.bind_some]
   obtain ⟨a,E⟩:∃ a,a=ls.take b.2.1.length:=⟨_,rfl⟩
   rw [← E]
   by_cases c3:fX a
   ·rw [decide_eq_true c3,if_neg (by simp),if_pos (by omega),pT c3]
    simp only [Option.bind_some]
    refine .inl ⟨s,⟨J,c2,h1,by rw [← D,← E]; exact c3⟩,?_⟩
    rw [← D,← E]
    have L2:aI (fun z:Int×Int=>Z4_L2 (s.1,ls,true) z.1 z.2) (1,0)=some (pr ls):=by
     refine dN (f:=fun z:Int×Int=>Z4_L2 (s.1,ls,true) z.1 z.2) (fun k=>(pr (ls.take k),(k:Int))) ls.length (fun k F=>?_) ?_ (by simp [pr])
     ·have a1:=iG G k
      have a2:=iG G (k+1)
      have a3:=I _ (aN F)
      simp only [Z4_L2]
      rw [if_pos (by simp; omega),if_pos (by omega),eU (by omega) (by omega) (by omega) (by omega),bT (by unfold cC; omega),lV F]
     ·simp only [Z4_L2]
      rw [if_neg (by simp),List.take_length]
    rw [L2]
    simp only [Option.bind_some,Z4_J2]
    have ag:=cX G
    have ai:=c3.2.pos
    obtain ⟨r,q1,q2⟩:=tQ (f:=fun z:List Int×Int=>Z4_L3 ts b (s.1,ls,true) ⟨a,List.replicate (pr a).toNat 0⟩ (pr ls) z.1 z.2) (Post:=fun r=>RG (pr a).toNat r) (pr a).toNat (pr ls).toNat
     (fun j hj x hx=>by
      have aj:(j:Int)<pr ls:=by omega
      simp only [Z4_L3]
      rw [if_pos (by simp; omega),oW (by omega) I (by omega) (by omega)]
      simp only [Option.bind_some]
      have hI:=ga G (j:Int)
      obtain ⟨vs,aa⟩:∃ vs,vs=fq ls (j:Int):=⟨_,rfl⟩
      rw [← aa] at hI ⊢
      have al:=hI.len
      obtain ⟨p,g1,_⟩:=hO (f:=fun z:Int×Int=>Z4_L4 ts b (s.1,ls,true) vs z.1 z.2) (fun k z=>z.2=(k:Int)) b.1.length (Post:=fun _=>True)
       (fun k z F hz=>by
        obtain ⟨y,i⟩:=z
        dsimp only at hz; subst hz
        simp only [Z4_L4]
        have O:k<ts.length:=by omega
        obtain ⟨e1,e2⟩:=U.g k F
        have a6:ix dss (k:Int)=(ix ts (k:Int)).Dims:=by rw [B,bC (by simpa using O),bC O]; simp
        have a7:=p3 _ (aN F)
        rw [if_pos (by simp; omega),if_pos (by omega),if_pos (by omega),nE a7.1 Z (by omega) U.i.n (fun c hc=>by
         obtain ⟨m,hm,rfl⟩:=List.getElem_of_mem hc
         have:=(e2 m hm).1
         rwa [bC hm] at this)]
        simp only [Option.bind_some]
        obtain ⟨w,w1,_⟩:=tM (ht _ (aN O)) (is:=(ix b.1 (k:Int)).map fun c=>ix vs ((s.1.idxOf c:Nat):Int)) (by
         rw [← a6]
         refine tU (by simp [e1]) fun m hm=>?_
         have T:m<(ix b.1 (k:Int)).length:=by omega
         obtain ⟨f1,f2⟩:=e2 m T
         have hp:s.1.idxOf (ix (ix b.1 (k:Int)) (m:Int))<s.1.length:=List.idxOf_lt_length_iff.2 f1
         have hv:=tT hI (j:=s.1.idxOf (ix (ix b.1 (k:Int)) (m:Int))) (by omega)
         have ab:ix ((ix b.1 (k:Int)).map fun c=>ix vs ((s.1.idxOf c:Nat):Int)) (m:Int)=ix vs ((s.1.idxOf (ix (ix b.1 (k:Int)) (m:Int)):Nat):Int):=by
          rw [bC (by simpa using T),List.getElem_map,bC (xs:=ix b.1 (k:Int)) T]
         have ac:ix ls ((s.1.idxOf (ix (ix b.1 (k:Int)) (m:Int)):Nat):Int)=ix (ix dss (k:Int)) (m:Int):=by
          rw [D,jL hp,List.getElem_idxOf hp,f2]
         rw [ab,← ac]
         exact hv)
        rw [w1]
        simp only [Option.bind_some]
        obtain ⟨u,u1,_⟩:=oM y w
        rw [u1]
        exact ⟨_,rfl,by rw [bT (by unfold cC; omega)]⟩)
       (fun z hz=>by
        obtain ⟨y,i⟩:=z
        dsimp only at hz; subst hz
        simp only [Z4_L4]
        rw [if_neg (by simp)]
        exact ⟨_,rfl,trivial⟩)
       (s:=(1,0)) rfl
      rw [g1]
      simp only [Option.bind_some,Z4_J4]
      have M:=oN hI b.2.1.length
      rw [← E] at M
      have ak:=gb c3.2.1 M
      rw [if_pos (by omega),kq,jD c3 M]
      simp only [Option.bind_some,List.length_replicate]
      rw [if_pos (by omega)]
      obtain ⟨u,u1,u2⟩:=rn (ix x (fY a (vs.take b.2.1.length))) p
      rw [u1]
      exact ⟨_,by rw [bT (by unfold cC; omega)]; rfl,hx.set u2 _⟩)
     (fun x hx=>by
      simp only [Z4_L3]
      rw [if_neg (by simp; omega)]
      exact ⟨_,rfl,hx⟩)
     (x:=List.replicate (pr a).toNat 0) (RG.rep _)
    rw [q1]
    exact ⟨r,rfl,nr c3 q2⟩
   ·rw [decide_eq_false c3,if_pos (by simp)]
    refine .inr ⟨?_,rfl⟩
    rintro ⟨s',_,_,g1,g2⟩
    have:=g1.1
    rw [h1.1] at this; cases this
    rw [← D,← E] at g2
    exact c3 g2
  ·rw [h2]
   obtain ⟨e1,e2,e3⟩:=e
   dsimp only at h3; subst h3
   simp only [Option.bind_some]
   rw [if_pos (fun z=>by simp at z)]
   simp only [bR,Bool.not_true,Bool.not_false,cond_false,Option.bind_some,Bool.true_or,if_true]
   exact .inr ⟨fun ⟨s,_,_,z,_⟩=>h1 s z,trivial⟩
 ·rw [if_pos]
  ·exact .inr ⟨fun ⟨s,z1,z2,_⟩=>J ⟨z1,z2⟩,rfl⟩
  ·cases q:b.2.2
   ·rfl
   ·have:b.1.length≠dss.length:=fun z=>J ⟨q,z⟩
    simp; omega
theorem ks {f:aD}{dss:List (List Int)}(hb:f.length≤1048576)(Y:∀ ds∈dss,fX ds) :
  ((parts f).2.2=true∧(parts f).1.length=dss.length∧∃ s,kr (parts f).1 (parts f).2.1 dss s∧fX ((s.1.map (lk s.2)).take (parts f).2.1.length)∧∃ r,Z3 f dss=some (r,true)∧r.dims=(s.1.map (lk s.2)).take (parts f).2.1.length∧r.order=s.1∧r.loops=s.1.map (lk s.2)) ∨
  (¬ ((parts f).2.2=true∧(parts f).1.length=dss.length∧∃ s,kr (parts f).1 (parts f).2.1 dss s∧fX ((s.1.map (lk s.2)).take (parts f).2.1.length))∧∃ r,Z3 f dss=some (r,false)):=by
 obtain ⟨b,D⟩:∃ b,b=parts f:=⟨_,rfl⟩
 have I:b.2.2=true→PO b.1 b.2.1:=by
  rw [D]; unfold parts
  split
  ·intro h; cases h
  ·split
   ·intro _; assumption
   ·intro h; cases h
 unfold Z3
 rw [lQ hb,← D]
 simp only [Option.bind_some]
 by_cases a:b.2.2=true∧b.1.length=dss.length
 ·obtain ⟨a,E⟩:=a
  rw [if_neg (by simp [a,E])]
  have hP:=I a
  obtain ⟨p1,M,O,p4⟩:=hP
  have hs:=l8 (iF p4) M.2
  rcases rv (gs:=b.1) (b:=b) (dss:=dss) rfl p1 O E (s:=(b.2.1,List.replicate 26 0)) M.1 rfl with ⟨s,u,B,a3,a4⟩|⟨u,e,B,a3⟩
  ·have m:=i8 ⟨p1,M,O,p4⟩ E Y u
   simp only at B
   rw [B]
   simp only [Option.bind_some,Z3_J7]
   rcases rA (f:=s.1) (lens:=s.2) (by omega) m.i.c m.d with ⟨T,U⟩|⟨T,e,U,w3⟩
   ·rw [U]
    simp only [Option.bind_some,Z3_J8]
    obtain ⟨t,ht⟩:=m.p
    have a5:b.2.1.length≤(s.1.map (lk s.2)).length:=by rw [ht]; simp
    have a0:(s.1.map (lk s.2)).length≤42:=by simpa using m.l
    rw [if_pos (by omega),kq,gP (by simp; omega)]
    simp only [Option.bind_some]
    rw [jA (by simp only [List.length_take]; unfold cC; omega)]
    simp only [Option.bind_some]
    by_cases c3:fX ((s.1.map (lk s.2)).take b.2.1.length)
    ·rw [decide_eq_true c3,if_neg (by simp)]
     refine .inl ⟨a,E,s,⟨u,T⟩,c3,?_⟩
     obtain ⟨r,h1,_⟩:=hO (f:=fun z:List (List Int)×Int=>Z3_L4 dss b s.1 (s.1.map (lk s.2)) ((s.1.map (lk s.2)).take b.2.1.length) z.1 z.2) (fun j z=>z.1.length=j∧z.2=(j:Int)) b.1.length (Post:=fun _=>True)
      (fun j z hj F=>by
       obtain ⟨x,i⟩:=z
       obtain ⟨h1,rfl⟩:=F
       dsimp only at h1
       simp only [Z3_L4]
       have G:=Y _ (aN (show j<dss.length by omega))
       rw [if_pos (by simp; omega),if_pos (by omega),if_pos (by omega),jG G]
       simp only [Option.bind_some]
       have a6:=(m.g j hj).1
       have Z:=(O _ (aN hj)).1
       obtain ⟨q,J⟩:=j6 (f:=(⟨b.1,b.2.1,s.1,s.1.map (lk s.2),(s.1.map (lk s.2)).take b.2.1.length,x,[]⟩:form)) (g:=ix b.1 (j:Int)) (p:=iT (ix dss (j:Int))) (by have:=m.l; show s.1.length≤100; omega) (by rw [gQ]; omega) (by rw [gQ]; omega)
       rw [J]
       simp only [Option.bind_some]
       rw [if_pos (by simp; omega),bT (by unfold cC; omega)]
       exact ⟨_,rfl,by simp; omega,rfl⟩)
      (fun z F=>by
       obtain ⟨x,i⟩:=z
       obtain ⟨h1,rfl⟩:=F
       simp only [Z3_L4]
       rw [if_neg (by simp)]
       exact ⟨_,rfl,trivial⟩)
      (s:=([],0)) ⟨rfl,rfl⟩
     rw [h1]
     simp only [Option.bind_some,Z3_J9]
     rw [jG c3]
     simp only [Option.bind_some]
     obtain ⟨q,J⟩:=j6 (f:=(⟨b.1,b.2.1,s.1,s.1.map (lk s.2),(s.1.map (lk s.2)).take b.2.1.length,r,[]⟩:form)) (g:=b.2.1) (p:=iT ((s.1.map (lk s.2)).take b.2.1.length)) (by have:=m.l; show s.1.length≤100; omega) (by rw [gQ]; simp only [List.length_take]; omega) (by rw [gQ]; simp only [List.length_take]; omega)
     rw [J]
     exact ⟨_,rfl,rfl,rfl,rfl⟩
    ·rw [decide_eq_false c3,if_pos (by simp)]
     refine .inr ⟨?_,_,rfl⟩
     rintro ⟨_,_,s',h1,h2⟩
     have:=h1.1
     rw [u] at this; cases this
     exact c3 h2
   ·rw [U]
    obtain ⟨e1,e2⟩:=e
    simp only at w3; subst w3
    refine .inr ⟨?_,_,rfl⟩
    rintro ⟨_,_,s',h1,h2⟩
    have:=h1.1
    rw [u] at this; cases this
    exact T h1.2
  ·simp only at B
   rw [B]
   obtain ⟨e1,e2⟩:=e
   simp only at a3; subst a3
   refine .inr ⟨?_,_,rfl⟩
   rintro ⟨_,_,s',h1,h2⟩
   have:=h1.1
   rw [u] at this; cases this
 ·rw [if_pos]
  ·exact .inr ⟨fun z=>a ⟨z.1,z.2.1⟩,_,rfl⟩
  ·cases q:b.2.2
   ·rfl
   ·have:b.1.length≠dss.length:=fun z=>a ⟨q,z⟩
    simp; omega
theorem oY (ds:List Int)(h:∀ d∈ds,1≤d)(k m:Int):fq ds (k+m*pr ds)=fq ds k:=by
 induction ds generalizing m with
 | nil=>rfl
 | cons d ds ih =>
  have i:=cX (ds:=ds) (fun x a=>h x (by simp [a]))
  have g:=h d (by simp)
  show (k+m*(d*pr ds)) / pr ds % d::fq ds (k+m*(d*pr ds))=k / pr ds % d::fq ds k
  have e:k+m*(d*pr ds)=k+(m*d)*pr ds:=by rw [Int.mul_assoc]
  rw [e,ih (fun x a=>h x (by simp [a])),Int.add_mul_ediv_right _ _ (by omega),Int.add_mul_emod_self_right]
theorem oZ {ds is:List Int}(h:∀ d∈ds,1≤d)(a:IV ds is):fq ds (fY ds is)=is:=by
 induction ds generalizing is with
 | nil=>cases is with
  | nil=>rfl
  | cons=>exact a.elim
 | cons d ds ih=>cases is with
  | nil=>exact a.elim
  | cons i is =>
   have h2:∀ x∈ds,1≤x:=fun x j=>h x (by simp [j])
   have m:=cX h2
   have e:=gb h2 a.2
   show (i*pr ds+fY ds is) / pr ds % d::fq ds (i*pr ds+fY ds is)=i::is
   have g:(i*pr ds+fY ds is) / pr ds=i:=by
    rw [Int.add_comm,Int.add_mul_ediv_right _ _ (by omega),Int.ediv_eq_zero_of_lt e.1 e.2,Int.zero_add]
   rw [g,Int.emod_eq_of_lt a.1.1 a.1.2,Int.add_comm,oY ds h2,ih h2 a.2]
def kD (ds:List Int)(f:List Int→Int):List Int:=(List.range (pr ds).toNat).map fun k:Nat=>f (fq ds (k:Int))
theorem i9 (ds:List Int)(f:List Int→Int):(kD ds f).length=(pr ds).toNat:=by simp [kD]
theorem p6 (ds:List Int)(f:List Int→Int){k:Nat}(a:k<(pr ds).toNat):ix (kD ds f) (k:Int)=f (fq ds (k:Int)):=by
 rw [bC (by rw [i9]; exact a)]
 simp [kD]
theorem rB {ds is:List Int}(h:∀ d∈ds,1≤d)(f:List Int→Int)(a:IV ds is):ix (kD ds f) (fY ds is)=f is:=by
 have g:=gb h a
 obtain ⟨k,e⟩:=Int.eq_ofNat_of_zero_le g.1
 rw [e,p6 ds f (by omega),← e,oZ h a]
theorem j7 {ds:List Int}(h:∀ d∈ds,1≤d){f g:List Int→Int}(a:∀ is,IV ds is→f is=g is):kD ds f=kD ds g:=by
 unfold kD
 exact List.map_congr_left fun k _=>a _ (ga h _)
theorem rC {ds x:List Int}(h:∀ d∈ds,1≤d)(i:(x.length:Int)=pr ds){f:List Int→Int}(a:∀ is,IV ds is→ix x (fY ds is)=f is):x=kD ds f:=by
 refine List.ext_getElem (by rw [i9]; omega) fun k h1 h2=>?_
 have g:k<(pr ds).toNat:=by rw [i9] at h2; exact h2
 have e:=a _ (ga h (k:Int))
 rw [mj h (by omega) (by omega),bC h1] at e
 rw [e]
 simp [kD]
theorem p7 {ds x:List Int}(h:∀ d∈ds,1≤d)(a:(x.length:Int)=pr ds):x=kD ds fun is=>ix x (fY ds is):=rC h a fun _ _=>rfl
theorem p8 {ds:List Int}{f:List Int→Int}{P:Int→Prop}(h:∀ d∈ds,1≤d)(a:∀ is,IV ds is→P (f is)):∀ y∈kD ds f,P y:=by
 intro y e
 obtain ⟨k,_,rfl⟩:=List.mem_map.1 e
 exact a _ (ga h _)
theorem tV {R:Type}{f:List Int×Int→Option ((List Int×Int)⊕R)}{r:List Int→R}(m:Nat)(g:Nat→Int)
  (u:∀ j:Nat,j<m→∀ x:List Int,x.length=m→f (x,(j:Int))=some (.inl (x.set j (g j),((j+1:Nat):Int))))
  (i:∀ x:List Int,x.length=m→f (x,(m:Int))=some (.inr (r x))) {x:List Int} (h:x.length=m):aI f (x,0)=some (r ((List.range m).map g)):=by
 have q:∀ j,j≤m→((List.range j).map g++x.drop j).length=m:=fun j a=>by simp [h]; omega
 have:=dN (f:=f) (r:=r ((List.range m).map g)) (fun j=>((List.range j).map g++x.drop j,(j:Int))) m
  (fun j a=>by
   rw [u j a _ (q j (by omega))]
   congr 3
   rw [List.range_succ,List.map_append,List.set_append]
   simp only [List.length_map,List.length_range,Nat.lt_irrefl,if_false,Nat.sub_self]
   rw [List.drop_eq_getElem_cons (by omega:j<x.length)]
   simp only [List.map_cons,List.map_nil,List.append_assoc,List.singleton_append,List.set_cons_zero])
  (by
   have e:(List.range m).map g++x.drop m=(List.range m).map g:=by rw [List.drop_of_length_le (by omega)]; simp
   show f ((List.range m).map g++x.drop m,(m:Int))=_
   rw [e]
   exact i _ (by simp))
  (s:=(x,0)) (by simp)
 exact this
theorem p9 {ds:List Int}{f:List Int→Int}(h:fX ds)(a:∀ is,IV ds is→0≤f is∧f is<2147483647):TOk ds (kD ds f) :=
 nr h ⟨i9 ds f,p8 h.2.1 a⟩
theorem rD {t:Tensor}{is:List Int}(h:TOk t.Dims t.Data)(a:IV t.Dims is):Z0f t is=some (ix t.Data (fY t.Dims is)):=by
 have e:=gb h.d.2.1 a
 have g:=h.l
 unfold Z0f
 rw [jD h.d a]
 simp only [Option.bind_some]
 rw [if_pos (by omega)]
theorem nG {t:Tensor}(h:TT t){a:Int}{xs:List Int}(T:xs.length<cC)(g:oO t.Dims a xs) :
  Zx t a xs=some ⟨t.Dims.set a.toNat (xs.length:Int),kD (t.Dims.set a.toNat (xs.length:Int)) fun is=>ix t.Data (fY t.Dims (is.set a.toNat (ix xs (ix is a))))⟩:=by
 have M:=rp h
 obtain ⟨g1,F,G,I,m⟩:=g
 obtain ⟨j,rfl⟩:=Int.eq_ofNat_of_zero_le g1
 have B:j<t.Dims.length:=by omega
 rw [Int.toNat_natCast] at m
 have Z:xs.length≠0:=fun e=>G (List.eq_nil_of_length_eq_zero e)
 unfold Zx
 rw [oP h]
 simp only [Option.bind_some]
 have O:(!decide (0≤(j:Int)∧(j:Int)<(t.Dims.length:Int))||(xs.length:Int)==0)=false:=by rw [decide_eq_true ⟨g1,F⟩]; simp [G]
 rw [if_pos (fun _=>⟨g1,F⟩),O]
 simp only [bR,Bool.not_false,cond_true,Bool.false_or]
 rw [nt T]
 simp only [Option.bind_some,Int.toNat_natCast]
 rw [decide_eq_true I,if_neg (by simp),ns M.2 B]
 simp only [Option.bind_some]
 rw [kX (by simp [cC]; omega)]
 simp only [decide_eq_true m,Option.bind_some,Bool.not_true,Bool.false_eq_true,if_false]
 rw [pT m]
 simp only [Option.bind_some]
 have hp:=m.2.2
 rw [tV (f:=fun s:List Int×Int=>Zx_L1 t (j:Int) xs (t.Dims.set j (xs.length:Int)) ⟨t.Dims.set j (xs.length:Int),List.replicate (pr (t.Dims.set j (xs.length:Int))).toNat 0⟩ s.1 s.2) (r:=fun x=>x) (pr (t.Dims.set j (xs.length:Int))).toNat
  (fun k=>ix t.Data (fY t.Dims ((fq (t.Dims.set j (xs.length:Int)) (k:Int)).set j (ix xs (ix (fq (t.Dims.set j (xs.length:Int)) (k:Int)) (j:Int))))))
  (fun k hk x Y=>by
   have J:=ga m.2.1 (k:Int)
   have i:=jB (t.Dims.set j (xs.length:Int)) (k:Int)
   have u:=J.mem (j:=j) (by rw [i]; simpa using B)
   rw [jH B] at u
   obtain ⟨q,U⟩:=Int.eq_ofNat_of_zero_le u.1
   have E:=I _ (aN (xs:=xs) (k:=q) (by omega))
   have D:=l4 B J E.1 E.2
   simp only [Zx_L1]
   rw [if_pos (by simp; omega),oK m (by omega) (by omega)]
   simp only [Option.bind_some]
   rw [if_pos (by rw [i]; simp; omega),if_pos (by omega),ns (by rw [i]; simpa using M.2) (by rw [i]; simpa using B)]
   simp only [Option.bind_some,U,rD h D]
   rw [if_pos (by simp; omega),bT (by unfold cC; omega),Int.toNat_natCast])
  (fun x Y=>by simp only [Zx_L1]; rw [if_neg (by simp)]) (by simp)]
 rfl
def gq (v:View)(j:Nat)(fr c:Int):View:=⟨v.Dims.set j c,v.Strides.set j (if c=1 then 0 else ix v.Strides (j:Int)),v.Offset+fr*ix v.Strides (j:Int),v.Base⟩
theorem lX {v:View}(h:VG v.Dims v.Strides v.Offset v.Base)(D:∀ s∈v.Strides,0≤s){j:Nat}(u:j<v.Dims.length){fr c:Int}(h1:1≤c)(h2:0≤fr)(O:fr+c≤ix v.Dims (j:Int)) :
  VG (gq v j fr c).Dims (gq v j fr c).Strides (gq v j fr c).Offset (gq v j fr c).Base∧∀ s∈(gq v j fr c).Strides,0≤s:=by
 have i:j<v.Strides.length:=by rw [h.l]; exact u
 have q:=D _ (aN i)
 have E:=h.s _ (aN i)
 have F:=h.d.2.mem (aN u)
 have B:=nq h.d.2.1 u h1 (show c≤ix v.Dims (j:Int) by omega)
 have g:fX (v.Dims.set j c):=⟨by simpa using h.d.1,B.2,Int.le_trans B.1 h.d.2.2⟩
 have r:0≤(if c=1 then 0 else ix v.Strides (j:Int)):=by split<;>omega
 have m:∀ s∈v.Strides.set j (if c=1 then 0 else ix v.Strides (j:Int)),0≤s:=gz D r
 have G:=h.hi
 have M:=jI hw (xs:=v.Dims) (ys:=v.Strides) (j:=j) (a:=c) (b:=if c=1 then 0 else ix v.Strides (j:Int)) u i
 have I:hw (ix v.Dims (j:Int)) (ix v.Strides (j:Int))=ix v.Strides (j:Int)*(ix v.Dims (j:Int) - 1):=l1 F.1 q
 have J:hw c (if c=1 then 0 else ix v.Strides (j:Int))=ix v.Strides (j:Int)*(c - 1):=by
  rw [l1 h1 r]
  split
  ·rename_i e; rw [e]; simp
  ·rfl
 have U:fr*ix v.Strides (j:Int)+ix v.Strides (j:Int)*(c - 1)≤ix v.Strides (j:Int)*(ix v.Dims (j:Int) - 1):=by
  rw [Int.mul_comm fr,← Int.mul_add]
  exact Int.mul_le_mul_of_nonneg_left (by omega) q
 have Y:0≤fr*ix v.Strides (j:Int):=Int.mul_nonneg h2 q
 have k3:0≤zs hw (v.Dims.set j c) (v.Strides.set j (if c=1 then 0 else ix v.Strides (j:Int))):=tP g.2.1 m
 have T:=h.o
 refine ⟨⟨g,by simp [gq,h.l],h.b,⟨by show 0≤v.Offset+_; omega,by show v.Offset+_<v.Base; omega⟩,?_,?_,?_⟩,m⟩
 ·exact gz h.s (by split<;>omega)
 ·show 0≤v.Offset+fr*_+zs lw (v.Dims.set j c) (v.Strides.set j (if c=1 then 0 else ix v.Strides (j:Int)))
  rw [rl g.2.1 m]; omega
 ·show v.Offset+fr*_+zs hw (v.Dims.set j c) (v.Strides.set j (if c=1 then 0 else ix v.Strides (j:Int)))<v.Base
  omega
theorem nH {v:View}(h:VG v.Dims v.Strides v.Offset v.Base)(u:∀ s∈v.Strides,0≤s){j:Nat}(r:j<v.Dims.length){fr c:Int}(h1:1≤c)(h2:0≤fr)(D:fr+c≤ix v.Dims (j:Int)) :
  Z0j v (j:Int) fr c 1=some (gq v j fr c):=by
 have a:j<v.Strides.length:=by rw [h.l]; exact r
 have i:=u _ (aN a)
 have m:=h.s _ (aN a)
 have J:=h.d.2.mem (aN r)
 have O:=h.d.1
 have M:=h.l
 have T:=h.o
 have E:=h.b
 obtain ⟨F,_⟩:=lX h u r h1 h2 D
 unfold Z0j Z15
 rw [ni h]
 simp only [Option.bind_some,Bool.not_true,Bool.false_eq_true,if_false]
 rw [gP (by omega),gP (by omega)]
 simp only [Option.bind_some]
 unfold Z0a
 simp only [Z0k,Option.bind_some]
 have f1:0≤fr*ix v.Strides (j:Int):=Int.mul_nonneg h2 i
 have I:=Int.mul_le_mul (show fr≤4096 by omega) m.2 i (show (0:Int)≤4096 by omega)
 have g:∀ z:Int,(z=if c=1 then 0 else 1)→Z0a_J3 ⟨v.Dims,v.Strides,v.Offset,v.Base⟩ (j:Int) c fr z=some (true,gq v j fr c,z):=by
  intro z B
  have G:z=0∨z=1:=by rw [B]; split<;>simp
  have e:ix v.Strides (j:Int)*z=if c=1 then 0 else ix v.Strides (j:Int):=by rw [B]; split<;>simp
  simp only [Z0a_J3]
  rw [if_pos (by omega),bH (n:=fr*ix v.Strides (j:Int)) (by omega) (by omega),bH (n:=v.Offset+fr*ix v.Strides (j:Int)) (by omega) (by omega),e,bH (by split<;>omega) (by split<;>omega),tO (by simpa using r) (by simpa using a)]
  simp only [Option.bind_some,gq]
  congr 5
  split<;>rfl
 have q:∀ z:Int,((bR (!(!((true,gq v j fr c,z):Bool×View×Int).1)) (Zk ((true,gq v j fr c,z):Bool×View×Int).2.1)).bind fun r32:Bool=>if ((!((true,gq v j fr c,z):Bool×View×Int).1)||(!r32))=true then some ((⟨[],[],0,0⟩:View),z) else some (gq v j fr c,z))=some (gq v j fr c,z):=by
  intro z
  simp only [bR,Bool.not_true,Bool.not_false,cond_true,Bool.false_or]
  rw [ni F]
  rfl
 rw [if_neg (by simp; omega),if_pos (by omega),if_neg (by simp; omega)]
 by_cases g8:c=1
 ·rw [if_neg (by simp; omega),g 0 (by simp [g8])]
  simp only [Option.bind_some]
  rw [q 0]
  rfl
 ·have e:aK (fr+aK (1*aK (c - 1)))=fr+(c - 1):=by
   rw [bH (n:=c - 1) (by omega) (by omega),Int.one_mul,bH (n:=c - 1) (by omega) (by omega),bH (by omega) (by omega)]
  rw [if_pos (by simp; omega),e,if_neg (by simp; omega),g 1 (by simp [g8])]
  simp only [Option.bind_some]
  rw [q 1]
  rfl
theorem pa {v:View}(D:v.Strides.length=v.Dims.length){j:Nat}(q:j<v.Dims.length){fr c:Int}{is:List Int}(m:IV (v.Dims.set j c) is) :
  (gq v j fr c).Offset+zs (·*·) is (gq v j fr c).Strides=v.Offset+zs (·*·) (is.set j (fr+ix is (j:Int))) v.Strides:=by
 have g:=m.len
 have e:j<is.length:=by rw [g]; simpa using q
 have r:=m.mem e
 rw [jH q] at r
 show v.Offset+fr*_+zs _ is (v.Strides.set j _)=_
 have h:=jI (·*·) (xs:=is) (ys:=v.Strides) (j:=j) (a:=ix is (j:Int)) (b:=if c=1 then 0 else ix v.Strides (j:Int)) e (by omega)
 have i:=jI (·*·) (xs:=is) (ys:=v.Strides) (j:=j) (a:=fr+ix is (j:Int)) (b:=ix v.Strides (j:Int)) e (by omega)
 have u:is.set j (ix is (j:Int))=is:=by rw [bC e,List.set_getElem_self]
 have B:v.Strides.set j (ix v.Strides (j:Int))=v.Strides:=by rw [bC (by omega),List.set_getElem_self]
 rw [u] at h
 rw [B] at i
 rw [h,i]
 have:ix is (j:Int)*(if c=1 then 0 else ix v.Strides (j:Int))=ix is (j:Int)*ix v.Strides (j:Int):=by
  split
  ·have:ix is (j:Int)=0:=by omega
   rw [this]; simp
  ·rfl
 rw [this,Int.add_mul]
 omega
end Go.Proofs.YtmpnollfdpdipaaGreatDoor
