import Derived.Test.YtmpnollfdpdipaaGreatGkF
import Derived.Test.YtmpnollfdpdipaaGreatPL1
set_option linter.unusedVariables false
set_option linter.unusedSimpArgs false
namespace Go.Proofs.YtmpnollfdpdipaaGreat
open Go Go.Pg
theorem iN {a b:Int}(e:0≤a)(g:1≤b):a≤a*b:=by
 have:=Int.mul_le_mul_of_nonneg_left g e
 simpa using this
theorem jy {a b:Int}(e:1≤a)(g:0≤b):b≤a*b:=by rw [Int.mul_comm]; exact iN g e
def pr:List Int→Int
 | []=>1
 | d::ds=>d*pr ds
def SZ (ds:List Int):Prop:=(∀ d∈ds,1≤d)∧pr ds≤4096
instance (ds:List Int):Decidable (SZ ds):=by unfold SZ; infer_instance
def eC (ds:List Int):Prop:=ds.length≤6∧SZ ds
instance (ds:List Int):Decidable (eC ds):=by unfold eC; infer_instance
theorem fF {ds:List Int}(h:∀ d∈ds,1≤d):1≤pr ds:=by
 induction ds with
 | nil=>exact Int.le_refl 1
 | cons d ds ih =>
  have h1:=h d (by simp)
  have h2:=ih fun x a=>h x (by simp [a])
  exact Int.le_trans h1 (iN (by omega) h2)
theorem mF (a b:List Int):pr (a++b)=pr a*pr b:=by
 induction a with
 | nil=>simp [pr]
 | cons x a ih=>simp [pr,ih,Int.mul_assoc]
theorem gL (ds:List Int)(k:Nat):pr ds=pr (ds.take k)*pr (ds.drop k):=by
 rw [← mF,List.take_append_drop]
theorem SZ.take {ds:List Int}(h:SZ ds)(k:Nat):SZ (ds.take k):=by
 refine ⟨fun d a=>h.1 d (List.mem_of_mem_take a),?_⟩
 have h1:=h.2
 rw [gL ds k] at h1
 have h2:1≤pr (ds.drop k):=fF fun d a=>h.1 d (List.mem_of_mem_drop a)
 have b:1≤pr (ds.take k):=fF fun d a=>h.1 d (List.mem_of_mem_take a)
 exact Int.le_trans (iN (by omega) h2) h1
theorem SZ.drop {ds:List Int}(h:SZ ds)(k:Nat):SZ (ds.drop k):=by
 refine ⟨fun d a=>h.1 d (List.mem_of_mem_drop a),?_⟩
 have h1:=h.2
 rw [gL ds k] at h1
 have h2:1≤pr (ds.drop k):=fF fun d a=>h.1 d (List.mem_of_mem_drop a)
 have b:1≤pr (ds.take k):=fF fun d a=>h.1 d (List.mem_of_mem_take a)
 exact Int.le_trans (jy b (by omega)) h1
theorem SZ.tail {d:Int}{ds:List Int}(h:SZ (d::ds)):SZ ds:=h.drop 1
theorem SZ.pos {ds:List Int}(h:SZ ds):1≤pr ds:=fF h.1
theorem SZ.mem {ds:List Int}(h:SZ ds){d:Int}(e:d∈ds):1≤d∧d≤4096:=by
 refine ⟨h.1 d e,?_⟩
 obtain ⟨a,b,rfl⟩:=List.append_of_mem e
 have h2:=h.2
 rw [mF] at h2
 have i:1≤pr a:=fF fun x g=>h.1 x (by simp [g])
 have j:1≤pr b:=fF fun x g=>h.1 x (by simp [g])
 have l:=h.1 d e
 have m:d≤pr (d::b):=iN (by omega) j
 exact Int.le_trans (Int.le_trans m (jy i (by omega))) h2
theorem sR {R:Type}(h:R)(i:Int→R)(ds:List Int)(k:Nat)(n:Int)(q:1≤n)(h1:n≤4096) :
  qv (fun (s:Int) (_:Nat) (x:Int)=>if (decide (x<1)||decide (x>4096))=true then .inr h else if decide (s*x>4096)=true then .inr h else .inl (s*x)) i ds k n
   = if (∀ d∈ds,1≤d)∧n*pr ds≤4096 then i (n*pr ds) else h:=by
 induction ds generalizing n k with
 | nil=>simp [qv,pr,h1]
 | cons d ds ih =>
  unfold qv
  by_cases c1:d<1
  ·have j:¬ ((∀ x∈d::ds,1≤x)∧n*pr (d::ds)≤4096):=fun ⟨a,_⟩=>by have:=a d (by simp); omega
   rw [if_neg j]
   simp [c1]
  ·have cB:d>4096∨n*d>4096→¬ ((∀ x∈d::ds,1≤x)∧n*pr (d::ds)≤4096):=by
    rintro l ⟨a,b⟩
    have r:1≤pr ds:=fF fun x m=>a x (by simp [m])
    have e:n*pr (d::ds)=n*d*pr ds:=by simp [pr,Int.mul_assoc]
    rw [e] at b
    have h2:d≤n*d:=jy q (by omega)
    have u:n*d≤n*d*pr ds:=iN (by omega) r
    rcases l with l | l<;>omega
   by_cases c2:d>4096
   ·rw [if_neg (cB (.inl c2))]; simp [c2]
   ·by_cases c3:n*d>4096
    ·rw [if_neg (cB (.inr c3))]; simp [c1,c2,c3]
    ·have B:d≤n*d:=jy q (by omega)
     simp only [c1,c2,c3,decide_false,Bool.or_self,Bool.false_eq_true,if_false]
     rw [ih (k+1) (n*d) (by omega) (by omega)]
     have e:n*pr (d::ds)=n*d*pr ds:=by simp [pr,Int.mul_assoc]
     by_cases g:(∀ x∈ds,1≤x)∧n*d*pr ds≤4096
     ·rw [if_pos g,if_pos ⟨List.forall_mem_cons.2 ⟨by omega,g.1⟩,by rw [e]; exact g.2⟩,e]
     ·rw [if_neg g,if_neg fun a=>g ⟨fun x m=>a.1 x (by simp [m]),by rw [← e]; exact a.2⟩]
theorem uJ {R:Type}(a:Int→R)(ds:List Int)(k:Nat)(n:Int):qv (fun (s:Int) (_:Nat) (x:Int)=>.inl (s*x)) a ds k n=a (n*pr ds):=by
 induction ds generalizing n k with
 | nil=>simp [qv,pr]
 | cons d ds ih =>
  unfold qv
  simp only
  rw [ih]
  simp [pr,Int.mul_assoc]
theorem iD {a b:Int}(g:0≤a)(h1:a≤65536)(h2:0≤b)(e:b≤65536):aH (a*b)=a*b:=by
 have i:a*b≤65536*65536:=Int.mul_le_mul h1 e h2 (by omega)
 have h:0≤a*b:=Int.mul_nonneg g h2
 exact bA (by omega) (by omega)
theorem jz {ds:List Int}(q:ds.length<cB):Zv ds=some (if SZ ds then pr ds else 0):=by
 have:=j9 (S:=Int) ds (fun _ n=>1≤n∧n≤4096) (fun s:Int×Int=>Zv_L1 ds s.1 s.2) (fun n i=>(n,i)) (fun (s:Int) (_:Nat) (x:Int)=>if (decide (x<1)||decide (x>4096))=true then .inr (.inl (0:Int)) else if decide (s*x>4096)=true then .inr (.inl 0) else .inl (s*x)) (fun n=>.inr n)
  (fun n k l m=>by
   simp only [Zv_L1]
   rw [if_pos (by simp; omega),if_pos (by omega)]
   split
   ·rfl
   ·rename_i h
    simp only [Bool.or_eq_true,decide_eq_true_eq,not_or] at h
    rw [iD (by omega) (by omega) (by omega) (by omega),bX (by omega)]
    split<;>rfl)
  (fun n k s l m j=>by
   split at j
   ·cases j
   ·rename_i h
    simp only [Bool.or_eq_true,decide_eq_true_eq,not_or] at h
    split at j
    ·cases j
    ·rename_i h2
     simp only [decide_eq_true_eq] at h2
     cases j
     have:=jy (a:=n) (b:=ix ds (k:Int)) l.1 (by omega)
     omega)
  (fun n _=>by simp only [Zv_L1]; rw [if_neg (by simp)]) 1 ⟨by omega,by omega⟩
 unfold Zv
 rw [this,sR _ _ _ _ _ (by omega) (by omega)]
 simp only [Int.one_mul,Option.bind_some]
 have e:SZ ds↔(∀ d∈ds,1≤d)∧pr ds≤4096:=Iff.rfl
 by_cases h:SZ ds
 ·rw [if_pos (e.1 h),if_pos h]; rfl
 ·rw [if_neg (fun g=>h (e.2 g)),if_neg h]
theorem f' {ds:List Int}(a:ds.length<cB):Zm ds=some (decide (eC ds)):=by
 unfold Zm
 by_cases h:ds.length≤6
 ·have e:decide ((ds.length:Int)≤6)=true:=by simp; omega
  rw [e]
  simp only [bQ,jz a,cond_true,Option.bind_some,Bool.true_and]
  congr 1
  by_cases g:SZ ds
  ·have:=g.pos; simp [g,eC,h]; omega
  ·simp [g,eC]
 ·have e:decide ((ds.length:Int)≤6)=false:=by simp; omega
  rw [e]
  simp [bQ,eC,h]
theorem gX {ds:List Int}(q:ds.length<cB):Zb ds=some (decide (eC ds)):=by
 have:=j9 (S:=Int) ds (fun _ n=>1≤n∧n≤4096) (fun s:Int×Int=>Zb_L1 ds s.1 s.2) (fun n i=>(n,i)) (fun (s:Int) (_:Nat) (x:Int)=>if (decide (x<1)||decide (x>4096))=true then .inr (.inl false) else if decide (s*x>4096)=true then .inr (.inl false) else .inl (s*x)) (fun n=>.inr ())
  (fun n k l m=>by
   simp only [Zb_L1]
   rw [if_pos (by simp; omega),if_pos (by omega)]
   split
   ·rfl
   ·rename_i h
    simp only [Bool.or_eq_true,decide_eq_true_eq,not_or] at h
    rw [iD (by omega) (by omega) (by omega) (by omega),bX (by omega)]
    split<;>rfl)
  (fun n k s l m j=>by
   split at j
   ·cases j
   ·rename_i h
    simp only [Bool.or_eq_true,decide_eq_true_eq,not_or] at h
    split at j
    ·cases j
    ·rename_i h2
     simp only [decide_eq_true_eq] at h2
     cases j
     have:=jy (a:=n) (b:=ix ds (k:Int)) l.1 (by omega)
     omega)
  (fun n _=>by simp only [Zb_L1]; rw [if_neg (by simp)]) 1 ⟨by omega,by omega⟩
 unfold Zb
 rw [this,sR _ _ _ _ _ (by omega) (by omega)]
 simp only [Int.one_mul,Option.bind_some]
 have e:SZ ds↔(∀ d∈ds,1≤d)∧pr ds≤4096:=Iff.rfl
 by_cases h:SZ ds
 ·rw [if_pos (e.1 h)]
  simp only [Zb_J1]
  congr 1
  simp [eC,h]; omega
 ·rw [if_neg (fun g=>h (e.2 g))]
  simp [eC,h]
theorem ld {ds:List Int}(j:ds.length<cB)(h:SZ ds):Zl ds=some (pr ds):=by
 have:=j9 (S:=Int) ds (fun k n=>n=pr (ds.take k)) (fun s:Int×Int=>Zl_L1 ds s.1 s.2) (fun n i=>(n,i)) (fun (s:Int) (_:Nat) (x:Int)=>.inl (s*x)) (fun n=>n)
  (fun n k e a=>by
   simp only [Zl_L1]
   have h1:=(h.take k)
   have h2:=h1.pos
   have g:=h.mem (bE a)
   rw [if_pos (by simp; omega),if_pos (by omega),iD (by omega) (by have:=h1.2; omega) (by omega) (by omega),bX (by omega)])
  (fun n k s e a b=>by
   simp only [Sum.inl.injEq] at b
   rw [← b,e,List.take_succ_eq_append_getElem a,mF,bR a]
   simp [pr])
  (fun n _=>by simp only [Zl_L1]; rw [if_neg (by simp)]) 1 rfl
 unfold Zl
 rw [this,uJ]
 simp [Zl_J1]
def gY:List Int→Int→List Int
 | [],_=>[]
 | d::ds,k=>(k / pr ds) % d::gY ds k
def m8:List Int→List Int→Int
 | d::ds,i::is=>i*pr ds+m8 ds is
 | _,_=>0
def IV:List Int→List Int→Prop
 | [],[]=>True
 | d::ds,i::is=>(0≤i∧i<d)∧IV ds is
 | _,_=>False
theorem jA (ds:List Int)(k:Int):(gY ds k).length=ds.length:=by
 induction ds with
 | nil=>rfl
 | cons d ds ih=>simp [gY,ih]
theorem IV.len {ds is:List Int}(h:IV ds is):is.length=ds.length:=by
 induction ds generalizing is with
 | nil=>cases is with
  | nil=>rfl
  | cons=>exact h.elim
 | cons d ds ih=>cases is with
  | nil=>exact h.elim
  | cons i is=>simp [ih h.2]
theorem gZ {ds:List Int}(h:∀ d∈ds,1≤d)(k:Int):IV ds (gY ds k):=by
 induction ds with
 | nil=>trivial
 | cons d ds ih =>
  have b:=h d (by simp)
  exact ⟨⟨Int.emod_nonneg _ (by omega),Int.emod_lt_of_pos _ (by omega)⟩,ih fun x a=>h x (by simp [a])⟩
theorem mH {ds is:List Int}(h:∀ d∈ds,1≤d)(e:IV ds is):0≤m8 ds is∧m8 ds is<pr ds:=by
 induction ds generalizing is with
 | nil=>cases is with
  | nil=>exact ⟨Int.le_refl 0,by decide⟩
  | cons=>exact e.elim
 | cons d ds ih=>cases is with
  | nil=>exact e.elim
  | cons i is =>
   obtain ⟨a,b⟩:=ih (fun x g=>h x (by simp [g])) e.2
   have l:1≤pr ds:=fF fun x g=>h x (by simp [g])
   have j:=Int.mul_nonneg e.1.1 (show 0≤pr ds by omega)
   have h1:(i+1)*pr ds≤d*pr ds:=Int.mul_le_mul_of_nonneg_right (by have:=e.1.2; omega) (by omega)
   rw [Int.add_mul] at h1
   show 0≤i*pr ds+m8 ds is∧i*pr ds+m8 ds is<d*pr ds
   omega
theorem sS {k p d:Int}(m:1≤p)(l:1≤d):k / (d*p)=k / p / d∧k % (d*p)=k / p % d*p+k % p:=by
 have a:=Int.emod_nonneg k (show p≠0 by omega)
 have b:=Int.emod_lt_of_pos k (show 0<p by omega)
 have c:=Int.emod_nonneg (k / p) (show d≠0 by omega)
 have e:=Int.emod_lt_of_pos (k / p) (show 0<d by omega)
 have h1:=Int.mul_nonneg c (show 0≤p by omega)
 have h2:(k / p % d+1)*p≤d*p:=Int.mul_le_mul_of_nonneg_right (by omega) (by omega)
 rw [Int.add_mul] at h2
 have g:0<d*p:=Int.mul_pos (by omega) (by omega)
 refine (Int.ediv_emod_unique (q:=k / p / d) g).2 ⟨?_,by omega,by omega⟩
 have r:=Int.mul_ediv_add_emod k p
 have i:=Int.mul_ediv_add_emod (k / p) d
 have h:d*p*(k / p / d)=p*(d*(k / p / d)):=by rw [Int.mul_comm d p,Int.mul_assoc]
 have j:p*(k / p)=p*(d*(k / p / d))+p*(k / p % d):=by rw [← Int.mul_add,i]
 rw [h,Int.mul_comm (k / p % d) p]
 omega
theorem uK {ds:List Int}(h:∀ d∈ds,1≤d)(k:Int):m8 ds (gY ds k)=k % pr ds:=by
 induction ds generalizing k with
 | nil=>simp [m8,pr,Int.emod_one]
 | cons d ds ih =>
  have e:1≤pr ds:=fF fun x a=>h x (by simp [a])
  have b:=h d (by simp)
  show k / pr ds % d*pr ds+m8 ds (gY ds k)=k % (d*pr ds)
  rw [ih fun x a=>h x (by simp [a])]
  exact (sS e b).2.symm
theorem rj {ds:List Int}(h:∀ d∈ds,1≤d){k:Int}(a:0≤k)(h1:k<pr ds):m8 ds (gY ds k)=k:=by
 rw [uK h,Int.emod_eq_of_lt a h1]
theorem eT {S R:Type}{f:S→Option (S⊕R)}(st:Nat→S)(n:Nat){r:R}(g:∀ j,j<n→f (st j)=some (.inl (st (j+1))))(h:f (st n)=some (.inr r)){s:S}(e:s=st 0):aR f s=some r:=by
 have a:∀ m j,j+m=n→aR f (st j)=some r:=by
  intro m
  induction m with
  | zero=>intro j b; rw [show j=n by omega]; exact dB h
  | succ m ih=>intro j b; rw [eF (g j (by omega))]; exact ih (j+1) (by omega)
 rw [e]
 exact a n 0 (by omega)
theorem fX {S R:Type}{f:S→Option (S⊕R)}(I:Nat→S→Prop)(n:Nat){Post:R→Prop}(i:∀ j s,j<n→I j s→∃ s',f s=some (.inl s')∧I (j+1) s')(e:∀ s,I n s→∃ r,f s=some (.inr r)∧Post r){s:S}(h:I 0 s):∃ r,aR f s=some r∧Post r:=by
 have b:∀ m j s,j+m=n→I j s→∃ r,aR f s=some r∧Post r:=by
  intro m
  induction m with
  | zero =>
   intro j s g a
   rw [show j=n by omega] at a
   obtain ⟨r,h1,h2⟩:=e s a
   exact ⟨r,dB h1,h2⟩
  | succ m ih =>
   intro j s g a
   obtain ⟨s',h1,h2⟩:=i j s (by omega) a
   rw [eF h1]
   exact ih (j+1) s' (by omega) h2
 exact b n 0 s (by omega) h
structure TOk (dims data:List Int):Prop where
 d:eC dims
 l:(data.length:Int)=pr dims
 x:∀ x∈data,0≤x∧x<2147483647
instance (dims data:List Int):Decidable (TOk dims data):=decidable_of_iff (eC dims∧(data.length:Int)=pr dims∧∀ x∈data,0≤x∧x<2147483647) ⟨fun h=>⟨h.1,h.2.1,h.2.2⟩,fun h=>⟨h.d,h.l,h.x⟩⟩
theorem oN (xs:List Int):(xs.all fun x=>!(decide (x<0)||decide (x≥2147483647)))=decide (∀ x∈xs,0≤x∧x<2147483647):=by
 rw [Bool.eq_iff_iff]
 simp only [List.all_eq_true,decide_eq_true_eq,Bool.not_eq_true',Bool.or_eq_false_iff,decide_eq_false_iff_not]
 exact ⟨fun h x a=>by have:=h x a; omega,fun h x a=>by have:=h x a; omega⟩
theorem sT {t:Tensor}(a:t.Dims.length<cB)(b:t.Data.length<cB):Zp t=some (decide (TOk t.Dims t.Data)):=by
 unfold Zp
 rw [f' a]
 by_cases h:eC t.Dims
 ·simp only [h,decide_true,Option.bind_some,bQ,Bool.not_true,Bool.not_false,cond_true,Bool.false_or,jz a,h.2,if_true]
  by_cases e:(t.Data.length:Int)=pr t.Dims
  ·rw [if_neg (by simp [e])]
   have:=eO t.Data (fun s:Int=>Zp_L1 t s) (fun i=>i) (fun x=>!(decide (x<0)||decide (x≥2147483647))) (.inl false) (.inr ())
    (fun k j=>by
     simp only [Zp_L1]
     rw [if_pos (by simp; omega),if_pos (by omega),bX (by omega)]
     cases (decide (ix t.Data (k:Int)<0)||decide (ix t.Data (k:Int)≥2147483647))<;>rfl)
    (by simp only [Zp_L1]; rw [if_neg (by simp)])
   rw [this,oN]
   by_cases g:∀ x∈t.Data,0≤x∧x<2147483647
   ·have:TOk t.Dims t.Data:=⟨h,e,g⟩
    simp only [decide_eq_true g,decide_eq_true this,if_true,Option.bind_some,Zp_J1]
   ·have:¬ TOk t.Dims t.Data:=fun q=>g q.x
    simp only [decide_eq_false g,decide_eq_false this,Bool.false_eq_true,if_false,Option.bind_some]
  ·rw [if_pos (by simp [e])]
   have:¬ TOk t.Dims t.Data:=fun q=>e q.l
   simp [this]
 ·have:¬ TOk t.Dims t.Data:=fun q=>h q.d
  simp [h,this,bQ]
theorem wX {t:Tensor}(a:t.Dims.length<cB)(j:t.Data.length<cB):Z2k t=some (decide (TOk t.Dims t.Data)):=by
 unfold Z2k
 rw [gX a]
 by_cases h:eC t.Dims
 ·simp only [h,decide_true,Option.bind_some,bQ,cond_true,Bool.true_and,ld a h.2]
  by_cases e:(t.Data.length:Int)=pr t.Dims
  ·have:=eO t.Data (fun s:Int=>Z14_L1 t.Data s) (fun i=>i) (fun x=>!(decide (x<0)||decide (x≥2147483647))) (.inl false) (.inr ())
    (fun k m=>by
     simp only [Z14_L1,Z31,Option.bind_some]
     rw [if_pos (by simp; omega),if_pos (by omega),bX (by omega)]
     by_cases c1:ix t.Data (k:Int)<0
     ·have:¬ ix t.Data (k:Int)≥0:=by omega
      simp [c1,this]
     ·have h1:ix t.Data (k:Int)≥0:=by omega
      by_cases c2:ix t.Data (k:Int)<2147483647
      ·have h2:¬ ix t.Data (k:Int)≥2147483647:=by omega
       simp [c1,h1,c2,h2]
      ·have h2:ix t.Data (k:Int)≥2147483647:=by omega
       simp [c1,h1,c2,h2])
    (by simp only [Z14_L1]; rw [if_neg (by simp)])
   simp only [e,beq_self_eq_true,cond_true,Z14,this,oN]
   by_cases g:∀ x∈t.Data,0≤x∧x<2147483647
   ·have:TOk t.Dims t.Data:=⟨h,e,g⟩
    simp only [decide_eq_true g,decide_eq_true this,if_true,Option.bind_some,Z14_J1,Bool.and_self]
   ·have:¬ TOk t.Dims t.Data:=fun q=>g q.x
    simp only [decide_eq_false g,decide_eq_false this,Bool.false_eq_true,if_false,Option.bind_some,Bool.and_false]
  ·have:¬ TOk t.Dims t.Data:=fun q=>e q.l
   have b:((t.Data.length:Int)==pr t.Dims)=false:=by simp [e]
   simp [this,b]
 ·have:¬ TOk t.Dims t.Data:=fun q=>h q.d
  simp [h,this,bQ]
theorem hR {xs:List Int}(h:xs.length≤17592186044416):Zs xs=some xs:=by
 unfold Zs
 rw [if_pos (by simpa using h)]
 simp
theorem hH {xs:List Int}(h:xs.length≤17592186044416):Zn xs=some xs:=by
 unfold Zn; rw [if_pos h]
theorem qw (a b:List Int)(h:a.length=b.length):(List.range a.length).all (fun k=>!(ix a (k:Int) != ix b (k:Int)))=decide (a=b):=by
 rw [Bool.eq_iff_iff]
 simp only [List.all_eq_true,List.mem_range,decide_eq_true_eq,bne,Bool.not_not,beq_iff_eq]
 constructor
 ·intro q
  apply List.ext_getElem h
  intro i h1 h2
  have:=q i h1
  rwa [bR h1,bR h2] at this
 ·rintro rfl k _; rfl
theorem sU {a b:List Int}(g:a.length<cB):Z01 a b=some (decide (a=b)):=by
 unfold Z01
 by_cases h:a.length=b.length
 ·rw [if_neg (by simp [h])]
  have:=ja a.length (fun s:Int=>Z01_L1 a b s) (fun i=>i) (fun k=>!(ix a (k:Int) != ix b (k:Int))) (.inl false) (.inr ())
   (fun k j=>by
    simp only [Z01_L1]
    rw [if_pos (by simp; omega),if_pos (by omega),if_pos (by omega),bX (by omega)]
    cases (ix a (k:Int) != ix b (k:Int))<;>rfl)
   (by simp only [Z01_L1]; rw [if_neg (by simp)])
  rw [this,qw a b h]
  by_cases e:a=b<;>simp [e,Z01_J1]
 ·rw [if_pos (by simp; omega)]
  have:a≠b:=fun e=>h (by rw [e])
  simp [this]
theorem uL {a b:List Int}(g:a.length<cB):Z11 a b=some (decide (a=b)):=by
 unfold Z11
 by_cases h:a.length=b.length
 ·rw [if_neg (by simp [h])]
  have:=ja a.length (fun s:Int=>Z11_L1 a b s) (fun i=>i) (fun k=>!(ix a (k:Int) != ix b (k:Int))) (.inl false) (.inr ())
   (fun k j=>by
    simp only [Z11_L1]
    rw [if_pos (by simp; omega),if_pos (by omega),if_pos (by omega),bX (by omega)]
    cases (ix a (k:Int) != ix b (k:Int))<;>rfl)
   (by simp only [Z11_L1]; rw [if_neg (by simp)])
  rw [this,qw a b h]
  by_cases e:a=b<;>simp [e,Z11_J1]
 ·rw [if_pos (by simp; omega)]
  have:a≠b:=fun e=>h (by rw [e])
  simp [this]
theorem kO {ds:List Int}(h:eC ds):Z0i ds=some ⟨ds,List.replicate (pr ds).toNat 0⟩:=by
 have h1:=h.1
 have h2:=h.2.pos
 have a:=h.2.2
 unfold Z0i
 rw [hR (by omega)]
 simp only [Option.bind_some,jz (ds:=ds) (by unfold cB; omega),h.2,if_true]
 rw [if_pos (by omega)]
theorem jB {ds:List Int}{k:Int}(h:eC ds)(b:0≤k)(h1:k≤65536):Zh ds k=some (gY ds k):=by
 have J:=h.1
 unfold Zh
 rw [if_pos (by omega)]
 have:=eT (f:=fun s:Int×List Int×Int=>Zh_L1 ds s.1 s.2.1 s.2.2) (r:=gY ds k)
  (fun j=>(k / pr (ds.drop (ds.length - j)),List.replicate (ds.length - j) 0++gY (ds.drop (ds.length - j)) k,(ds.length:Int) - 1 - j)) ds.length
  (fun j L=>by
   obtain ⟨i,F⟩:∃ i,i=ds.length - (j+1):=⟨_,rfl⟩
   have I:ds.length - j=i+1:=by omega
   have B:(ds.length:Int) - 1 - (j:Int)=(i:Int):=by omega
   have a:i<ds.length:=by omega
   have u:=h.2.mem (bE a)
   have G:=(h.2.drop (i+1)).pos
   have e:ds.drop i=ix ds (i:Int)::ds.drop (i+1):=by rw [List.drop_eq_getElem_cons a,bR a]
   have g:0≤k / pr (ds.drop (i+1)):=Int.ediv_nonneg b (by omega)
   have q:k / pr (ds.drop (i+1))≤65536:=Int.le_trans (Int.ediv_le_self _ b) h1
   simp only [Zh_L1,I,B,← F]
   rw [if_pos (by simp),if_pos (by omega),if_pos (by omega),if_pos (by simp; omega)]
   have E:(k / pr (ds.drop (i+1))).tdiv (ix ds (i:Int))=k / pr (ds.drop i):=by
    rw [Int.tdiv_eq_ediv_of_nonneg g,e]; exact (sS G u.1).1.symm
   have l:(k / pr (ds.drop (i+1))).tmod (ix ds (i:Int))=k / pr (ds.drop (i+1)) % ix ds (i:Int):=Int.tmod_eq_emod_of_nonneg g
   have D:0≤k / pr (ds.drop i):=Int.ediv_nonneg b (by have:=(h.2.drop i).pos; omega)
   have m:k / pr (ds.drop i)≤65536:=Int.le_trans (Int.ediv_le_self _ b) h1
   rw [E,l,bA (by omega) (by omega),bA (by omega) (by omega)]
   congr 4
   ·rw [e,List.set_append_left _ _ (by simp),List.replicate_succ',List.set_append_right _ _ (by simp)]
    simp [gY]
   ·omega)
  (by
   simp only [Zh_L1,Nat.sub_self,List.drop_zero,List.replicate_zero,List.nil_append]
   rw [if_neg (by simp; omega)])
  (s:=(k,List.replicate (ds.length:Int).toNat 0,aH ((ds.length:Int) - 1))) (by
   rw [bA (by omega) (by omega)]
   simp [pr,gY])
 rw [this]
 rfl
theorem oO {ds is:List Int}(g:IV ds is){k:Nat}(h:k<ds.length):IV (ds.take k) (is.take k)∧m8 (ds.take (k+1)) (is.take (k+1))=m8 (ds.take k) (is.take k)*ix ds (k:Int)+ix is (k:Int):=by
 induction ds generalizing is k with
 | nil=>simp at h
 | cons d ds ih=>cases is with
  | nil=>exact g.elim
  | cons i is =>
   cases k with
   | zero=>simp [IV,m8,pr,ix]
   | succ k =>
    obtain ⟨a,b⟩:=ih g.2 (k:=k) (by simpa using h)
    refine ⟨⟨g.1,a⟩,?_⟩
    have e:k<ds.length:=by simpa using h
    have j:ix (d::ds) ((k+1:Nat):Int)=ix ds (k:Int):=by simp [ix]
    have m:ix (i::is) ((k+1:Nat):Int)=ix is (k:Int):=by simp [ix]
    rw [j,m]
    have l:pr (ds.take (k+1))=pr (ds.take k)*ix ds (k:Int):=by rw [List.take_succ_eq_append_getElem e,mF,bR e]; simp [pr]
    show i*pr (ds.take (k+1))+m8 (ds.take (k+1)) (is.take (k+1))=(i*pr (ds.take k)+m8 (ds.take k) (is.take k))*ix ds (k:Int)+ix is (k:Int)
    rw [b,l,Int.add_mul,Int.mul_assoc,Int.add_assoc]
theorem nJ {ds is:List Int}(h:eC ds)(g:IV ds is):Z0n ds is=some (m8 ds is):=by
 have F:=h.1
 have q:=g.len
 unfold Z0n
 have:=eT (f:=fun s:Int×Int=>Z0n_L1 ds is s.1 s.2) (r:=m8 ds is) (fun j=>(m8 (ds.take j) (is.take j),(j:Int))) ds.length
  (fun j l=>by
   obtain ⟨a,b⟩:=oO g l
   have D:=mH (fun d i=>h.2.1 d (List.mem_of_mem_take i)) a
   have B:=(h.2.take j).2
   have m:=mH (fun d i=>h.2.1 d (List.mem_of_mem_take i)) (ds:=ds.take (j+1)) (is:=is.take (j+1)) (by
    by_cases e:j+1<ds.length
    ·exact (oO g e).1
    ·rw [List.take_of_length_le (by omega),List.take_of_length_le (by omega)]; exact g)
   have u:=(h.2.take (j+1)).2
   have E:=h.2.mem (bE l)
   simp only [Z0n_L1]
   rw [if_pos (by simp; omega),if_pos (by omega),if_pos (by omega),iD (by omega) (by omega) (by omega) (by omega),← b,bA (by omega) (by omega),bX (by unfold cB; omega)])
  (by simp only [Z0n_L1]; rw [if_neg (by simp),List.take_length,List.take_of_length_le (by omega)])
  (s:=(0,0)) (by simp [m8])
 rw [this]
 rfl
theorem nd {t:Tensor}{is:List Int}(h:TOk t.Dims t.Data)(a:IV t.Dims is):∃ x,Z16 t is=some x∧x∈t.Data:=by
 have b:=mH h.d.2.1 a
 have g:=h.l
 unfold Z16
 rw [nJ h.d a]
 simp only [Option.bind_some]
 rw [if_pos (by omega)]
 refine ⟨_,rfl,?_⟩
 have e:(((m8 t.Dims is).toNat:Nat):Int)=m8 t.Dims is:=by omega
 rw [← e]
 exact bE (by omega)
theorem sW {t:Tensor}{is:List Int}{x:Int}(h:eC t.Dims)(e:(t.Data.length:Int)=pr t.Dims)(a:IV t.Dims is):Z1u t is x=some (t.Data.set (m8 t.Dims is).toNat x):=by
 have b:=mH h.2.1 a
 unfold Z1u
 rw [nJ h a]
 simp only [Option.bind_some]
 rw [if_pos (by omega)]
def zs (f:Int→Int→Int):List Int→List Int→Int
 | a::xs,b::ys=>f a b+zs f xs ys
 | _,_=>0
theorem kP (f:Int→Int→Int){xs ys:List Int}{j:Nat}(e:j<xs.length)(g:j<ys.length):zs f (xs.take (j+1)) (ys.take (j+1))=zs f (xs.take j) (ys.take j)+f (ix xs (j:Int)) (ix ys (j:Int)):=by
 induction xs generalizing ys j with
 | nil=>simp at e
 | cons a xs ih=>cases ys with
  | nil=>simp at g
  | cons b ys =>
   cases j with
   | zero=>simp [zs,ix]
   | succ j =>
    have i:ix (a::xs) ((j+1:Nat):Int)=ix xs (j:Int):=by simp [ix]
    have h:ix (b::ys) ((j+1:Nat):Int)=ix ys (j:Int):=by simp [ix]
    have:=ih (ys:=ys) (j:=j) (by simpa using e) (by simpa using g)
    rw [i,h]
    simp only [List.take_succ_cons,zs] at this ⊢
    omega
theorem w4 (f:Int→Int→Int){xs ys:List Int}{M:Int}(g:xs.length=ys.length)(a:∀ j:Nat,j<xs.length → -M≤f (ix xs (j:Int)) (ix ys (j:Int))∧f (ix xs (j:Int)) (ix ys (j:Int))≤M){j:Nat}(b:j≤xs.length) :
  -(j*M)≤zs f (xs.take j) (ys.take j)∧zs f (xs.take j) (ys.take j)≤j*M:=by
 induction j with
 | zero=>simp [zs]
 | succ j ih =>
  have h1:=ih (by omega)
  have h2:=a j (by omega)
  rw [kP f (by omega) (by omega)]
  have e:((j+1:Nat):Int)*M=(j:Int)*M+M:=by rw [show ((j+1:Nat):Int)=(j:Int)+1 by omega,Int.add_mul]; omega
  rw [e]
  omega
def lw (d s:Int):Int:=if s*(d - 1)<0 then s*(d - 1) else 0
def hw (d s:Int):Int:=if s*(d - 1)>0 then s*(d - 1) else 0
theorem wY {ds is ss:List Int}(g:IV ds is)(h:ss.length=ds.length):zs lw ds ss≤zs (·*·) is ss∧zs (·*·) is ss≤zs hw ds ss:=by
 induction ds generalizing is ss with
 | nil=>cases is with
  | nil=>simp [zs]
  | cons=>exact g.elim
 | cons d ds ih=>cases is with
  | nil=>exact g.elim
  | cons i is=>cases ss with
   | nil=>simp at h
   | cons s ss =>
    obtain ⟨a,b⟩:=ih g.2 (ss:=ss) (by simpa using h)
    have h1:0≤i∧i≤d - 1:=⟨g.1.1,by have:=g.1.2; omega⟩
    have l:lw d s≤i*s∧i*s≤hw d s:=by
     unfold lw hw
     rw [Int.mul_comm i s]
     rcases Int.le_total 0 s with e | e
     ·have m:0≤s*i:=Int.mul_nonneg e h1.1
      have j:s*i≤s*(d - 1):=Int.mul_le_mul_of_nonneg_left h1.2 e
      split<;>split<;>omega
     ·have m:s*i≤0:=Int.mul_nonpos_of_nonpos_of_nonneg e h1.1
      have j:s*(d - 1)≤s*i:=Int.mul_le_mul_of_nonpos_left e h1.2
      split<;>split<;>omega
    simp only [zs]
    omega
structure VG (dims ss:List Int)(off base:Int):Prop where
 d:eC dims
 l:ss.length=dims.length
 b:1≤base∧base≤4096
 o:0≤off∧off<base
 s:∀ s∈ss,-4096≤s∧s≤4096
 lo:0≤off+zs lw dims ss
 hi:off+zs hw dims ss<base
theorem VG.place {a ss:List Int}{b base:Int}(h:VG a ss b base){is:List Int}(e:IV a is):0≤b+zs (·*·) is ss∧b+zs (·*·) is ss<base:=by
 have h1:=wY e h.l
 have h2:=h.lo
 have g:=h.hi
 omega
theorem IV.mem {ds is:List Int}(h:IV ds is){j:Nat}(a:j<is.length):0≤ix is (j:Int)∧ix is (j:Int)<ix ds (j:Int):=by
 induction ds generalizing is j with
 | nil=>cases is with
  | nil=>simp at a
  | cons=>exact h.elim
 | cons d ds ih=>cases is with
  | nil=>exact h.elim
  | cons i is=>cases j with
   | zero=>exact h.1
   | succ j =>
    have b:ix (i::is) ((j+1:Nat):Int)=ix is (j:Int):=by simp [ix]
    have e:ix (d::ds) ((j+1:Nat):Int)=ix ds (j:Int):=by simp [ix]
    rw [b,e]
    exact ih h.2 (by simpa using a)
theorem pz {a b M N:Int}(e:0≤a)(h1:a≤M)(h2 : -N≤b)(g:b≤N)(h:0≤N) : -(M*N)≤a*b∧a*b≤M*N:=by
 have k1:a*b≤a*N:=Int.mul_le_mul_of_nonneg_left g e
 have j:a*N≤M*N:=Int.mul_le_mul_of_nonneg_right h1 h
 have i:a*(-N)≤a*b:=Int.mul_le_mul_of_nonneg_left h2 e
 rw [Int.mul_neg] at i
 omega
theorem hJ {α:Type}(xs:List α){l:Int}:sub xs l (xs.length:Int)=xs.drop l.toNat:=by simp [sub]
theorem uM {v:View}{is:List Int}(h:eC v.Dims)(u:v.Strides.length=v.Dims.length)(m:∀ s∈v.Strides,-4096≤s∧s≤4096)(E:0≤v.Offset∧v.Offset≤4096)(i:IV v.Dims is):Z15 v is=some (v.Offset+zs (·*·) is v.Strides):=by
 have q:=i.len
 have D:=h.1
 unfold Z15
 have a:∀ j:Nat,j<is.length → -(4096*4096)≤ix is (j:Int)*ix v.Strides (j:Int)∧ix is (j:Int)*ix v.Strides (j:Int)≤4096*4096:=by
  intro j b
  have h1:=i.mem b
  have h2:=h.2.mem (bE (xs:=v.Dims) (k:=j) (by omega))
  have g:=m _ (bE (xs:=v.Strides) (k:=j) (by omega))
  exact pz h1.1 (by omega) g.1 g.2 (by omega)
 have bd:∀ j,j≤is.length → -(6*(4096*4096))≤zs (·*·) (is.take j) (v.Strides.take j)∧zs (·*·) (is.take j) (v.Strides.take j)≤6*(4096*4096):=by
  intro j b
  have:=w4 (·*·) (xs:=is) (ys:=v.Strides) (M:=4096*4096) (by omega) a b
  have e:(j:Int)≤6:=by omega
  have:=Int.mul_le_mul_of_nonneg_right e (show (0:Int)≤4096*4096 by omega)
  omega
 have:=eT (f:=fun s:Int×Int=>Z15_L1 v is s.1 s.2) (r:=v.Offset+zs (·*·) is v.Strides) (fun j=>(v.Offset+zs (·*·) (is.take j) (v.Strides.take j),(j:Int))) is.length
  (fun j b=>by
   have t:=a j b
   have l:=bd (j+1) (by omega)
   have B:=bd j (by omega)
   rw [kP (·*·) b (by omega)] at l
   simp only [Z15_L1]
   rw [if_pos (by simp; omega),if_pos (by omega),if_pos (by omega),bA (n:=ix is (j:Int)*ix v.Strides (j:Int)) (by omega) (by omega),bA (by omega) (by omega),bX (by unfold cB; omega),kP (·*·) b (by omega),Int.add_assoc])
  (by simp only [Z15_L1]; rw [if_neg (by simp),List.take_length,List.take_of_length_le (by omega)])
  (s:=(v.Offset,0)) (by simp [zs])
 rw [this]
 rfl
def ne (a ss:List Int)(b:Int):List Int:=(List.range (pr a).toNat).map fun k:Nat=>b+zs (·*·) (gY a (k:Int)) ss
theorem qx {v:View}(h:eC v.Dims)(g:v.Strides.length=v.Dims.length)(a:∀ s∈v.Strides,-4096≤s∧s≤4096)(b:0≤v.Offset∧v.Offset≤4096):Z0c v=some (ne v.Dims v.Strides v.Offset):=by
 have l:=h.1
 have m:=h.2.pos
 have e:=h.2.2
 unfold Z0c
 rw [jz (by unfold cB; omega),if_pos h.2]
 simp only [Option.bind_some]
 have:=eT (f:=fun s:List Int×Int=>Z0c_L1 v (pr v.Dims) s.1 s.2) (r:=ne v.Dims v.Strides v.Offset) (fun j=>((List.range j).map fun k:Nat=>v.Offset+zs (·*·) (gY v.Dims (k:Int)) v.Strides,(j:Int))) (pr v.Dims).toNat
  (fun j i=>by
   simp only [Z0c_L1]
   rw [if_pos (by simp; omega),jB h (by omega) (by omega)]
   simp only [Option.bind_some]
   rw [uM h g a b (gZ h.2.1 _)]
   simp only [Option.bind_some]
   rw [if_pos (by simp; omega),bX (by unfold cB; omega),List.range_succ,List.map_append]
   rfl)
  (by simp only [Z0c_L1]; rw [if_neg (by simp; omega)]; rfl)
  (s:=([],0)) rfl
 rw [this]
 rfl
theorem oP (ss:List Int)(h:∀ s∈ss,-4096≤s∧s≤4096):(ss.all fun x=>!(decide (x < -4096)||decide (x>4096)))=true:=by
 rw [List.all_eq_true]
 intro x a
 have:=h x a
 simp; omega
theorem ku {v:View}(h:VG v.Dims v.Strides v.Offset v.Base):Z8 v=some true:=by
 have u:=h.d.1
 have g:=h.l
 have D:=h.b
 have B:=h.o
 unfold Z8
 rw [f' (by unfold cB; omega)]
 simp only [h.d,decide_true,Option.bind_some]
 rw [if_neg (by simp; omega)]
 have m:=eO v.Strides (fun s:Int=>Z8_L1 v s) (fun i=>i) (fun x=>!(decide (x < -4096)||decide (x>4096))) (.inl false) (.inr ())
  (fun k j=>by
   simp only [Z8_L1]
   rw [if_pos (by simp; omega),if_pos (by omega),bX (by unfold cB; omega)]
   cases (decide (ix v.Strides (k:Int) < -4096)||decide (ix v.Strides (k:Int)>4096))<;>rfl)
  (by simp only [Z8_L1]; rw [if_neg (by simp)])
 rw [m,oP _ h.s]
 simp only [if_true,Option.bind_some,Z8_J1]
 rw [qx h.d g h.s ⟨by omega,by omega⟩]
 simp only [Option.bind_some]
 have r:(ne v.Dims v.Strides v.Offset).length≤4096:=by have:=h.d.2.2; simp [ne]; omega
 have a:=eO (ne v.Dims v.Strides v.Offset) (fun s:Int=>Z8_L2 v (ne v.Dims v.Strides v.Offset) s) (fun i=>i) (fun x=>!(decide (x<0)||decide (x≥v.Base))) (.inl false) (.inr ())
  (fun k j=>by
   simp only [Z8_L2]
   rw [if_pos (by simp; omega),if_pos (by omega),bX (by unfold cB; omega)]
   cases (decide (ix (ne v.Dims v.Strides v.Offset) (k:Int)<0)||decide (ix (ne v.Dims v.Strides v.Offset) (k:Int)≥v.Base))<;>rfl)
  (by simp only [Z8_L2]; rw [if_neg (by simp)])
 have e:((ne v.Dims v.Strides v.Offset).all fun x=>!(decide (x<0)||decide (x≥v.Base)))=true:=by
  rw [List.all_eq_true]
  intro x q
  obtain ⟨k,_,rfl⟩:=List.mem_map.1 q
  have:=h.place (gZ h.d.2.1 (k:Int))
  simp; omega
 rw [a,e]
 rfl
theorem uN:Z8 ⟨[],[],0,0⟩=some false:=by
 unfold Z8
 rw [f' (by simp [cB])]
 rfl
theorem uO:Zg ⟨[],[],0,0⟩=some false:=by
 unfold Zg
 rw [gX (by simp [cB])]
 rfl
theorem kv {v:View}(h:VG v.Dims v.Strides v.Offset v.Base):Zg v=some true:=by
 have T:=h.d.1
 have J:=h.l
 have Z:=h.b
 have U:=h.o
 unfold Zg
 rw [gX (by unfold cB; omega)]
 simp only [h.d,decide_true,Option.bind_some]
 rw [if_neg (by simp; omega)]
 have e:∀ j:Nat,j<v.Dims.length → -(4096*4096)≤ix v.Strides (j:Int)*(ix v.Dims (j:Int) - 1)∧ix v.Strides (j:Int)*(ix v.Dims (j:Int) - 1)≤4096*4096:=by
  intro j a
  have h2:=h.d.2.mem (bE (xs:=v.Dims) (k:=j) a)
  have i:=h.s _ (bE (xs:=v.Strides) (k:=j) (by omega))
  rw [Int.mul_comm (ix v.Strides (j:Int))]
  exact pz (by omega) (by omega) i.1 i.2 (by omega)
 have bd:∀ (f:Int→Int→Int),(f=lw∨f=hw)→∀ j,j≤v.Dims.length → -(6*(4096*4096))≤zs f (v.Dims.take j) (v.Strides.take j)∧zs f (v.Dims.take j) (v.Strides.take j)≤6*(4096*4096):=by
  intro f F j a
  have:=w4 f (xs:=v.Dims) (ys:=v.Strides) (M:=4096*4096) (by omega) (fun j a=>by
   have:=e j a
   rcases F with rfl | rfl
   ·unfold lw; split<;>omega
   ·unfold hw; split<;>omega) a
  have g:(j:Int)≤6:=by omega
  have:=Int.mul_le_mul_of_nonneg_right g (show (0:Int)≤4096*4096 by omega)
  omega
 have:=eT (f:=fun s:Int×Int×Int=>Zg_L1 v s.1 s.2.1 s.2.2) (r:=.inr (v.Offset+zs lw v.Dims v.Strides,v.Offset+zs hw v.Dims v.Strides)) (fun j=>(v.Offset+zs lw (v.Dims.take j) (v.Strides.take j),v.Offset+zs hw (v.Dims.take j) (v.Strides.take j),(j:Int))) v.Dims.length
  (fun j a=>by
   have t:=e j a
   have a0:=bd lw (.inl rfl) j (by omega)
   have G:=bd lw (.inl rfl) (j+1) (by omega)
   have O:=bd hw (.inr rfl) j (by omega)
   have I:=bd hw (.inr rfl) (j+1) (by omega)
   have q:=kP lw (xs:=v.Dims) (ys:=v.Strides) (j:=j) (by omega) (by omega)
   have B:=kP hw (xs:=v.Dims) (ys:=v.Strides) (j:=j) (by omega) (by omega)
   have L:=h.s _ (bE (xs:=v.Strides) (k:=j) (by omega))
   have Y:=h.d.2.mem (bE (xs:=v.Dims) (k:=j) a)
   simp only [Zg_L1]
   rw [if_pos (by simp; omega),if_pos (by omega),if_neg (by simp; omega),if_pos (by omega)]
   have D:aH (ix v.Dims (j:Int) - 1)=ix v.Dims (j:Int) - 1:=bA (by omega) (by omega)
   have u:aH (ix v.Strides (j:Int)*(ix v.Dims (j:Int) - 1))=ix v.Strides (j:Int)*(ix v.Dims (j:Int) - 1):=bA (by omega) (by omega)
   have E:lw (ix v.Dims (j:Int)) (ix v.Strides (j:Int))=if ix v.Strides (j:Int)*(ix v.Dims (j:Int) - 1)<0 then ix v.Strides (j:Int)*(ix v.Dims (j:Int) - 1) else 0:=rfl
   have m:hw (ix v.Dims (j:Int)) (ix v.Strides (j:Int))=if ix v.Strides (j:Int)*(ix v.Dims (j:Int) - 1)>0 then ix v.Strides (j:Int)*(ix v.Dims (j:Int) - 1) else 0:=rfl
   rw [D,u,← E,← m,bA (by omega) (by omega),bA (by omega) (by omega),bX (by unfold cB; omega),q,B,Int.add_assoc,Int.add_assoc])
  (by simp only [Zg_L1]; rw [if_neg (by simp; omega),List.take_length,List.take_of_length_le (by omega)])
  (s:=(v.Offset,v.Offset,0)) (by simp [zs])
 rw [this]
 have:=h.lo
 have:=h.hi
 simp only [Option.bind_some,Zg_J1]
 congr 1
 simp; omega
def rL:List Int→List Int
 | []=>[]
 | _::ds=>pr ds::rL ds
def eJ:List Int→List Int
 | []=>[]
 | d::ds=>(if d>1 then pr ds else 0)::eJ ds
theorem iE (ds:List Int):(rL ds).length=ds.length:=by
 induction ds with
 | nil=>rfl
 | cons d ds ih=>simp [rL,ih]
theorem dH (ds:List Int):(eJ ds).length=ds.length:=by
 induction ds with
 | nil=>rfl
 | cons d ds ih=>simp [eJ,ih]
theorem dK {α:Type}[Inhabited α](x:α)(xs:List α)(j:Nat):ix (x::xs) ((j+1:Nat):Int)=ix xs (j:Int):=by simp [ix]
theorem sX {ds:List Int}{j:Nat}(h:j<ds.length):ix (rL ds) (j:Int)=pr (ds.drop (j+1)):=by
 induction ds generalizing j with
 | nil=>simp at h
 | cons d ds ih=>cases j with
  | zero=>rfl
  | succ j=>rw [rL,dK,ih (by simpa using h)]; rfl
theorem pA {ds:List Int}{j:Nat}(h:j<ds.length):ix (eJ ds) (j:Int)=if ix ds (j:Int)>1 then pr (ds.drop (j+1)) else 0:=by
 induction ds generalizing j with
 | nil=>simp at h
 | cons d ds ih=>cases j with
  | zero=>rfl
  | succ j=>rw [eJ,dK,dK,ih (by simpa using h)]; rfl
theorem sY {L xs:List Int}(b:L.length=xs.length){j:Nat}(a:j<xs.length):(L.take j++xs.drop j).set j (ix L (j:Int))=L.take (j+1)++xs.drop (j+1):=by
 rw [bR (by omega),List.set_append_right _ _ (by simp; omega),List.take_succ_eq_append_getElem (by omega)]
 have:j - (L.take j).length=0:=by simp; omega
 rw [this,List.drop_eq_getElem_cons a,List.set_cons_zero,List.append_assoc]
 rfl
theorem qy {L xs:List Int}(b:L.length=xs.length){j:Nat}(a:j<xs.length)(h:ix L (j:Int)=ix xs (j:Int)):L.take j++xs.drop j=L.take (j+1)++xs.drop (j+1):=by
 rw [bR (by omega),bR a] at h
 rw [List.take_succ_eq_append_getElem (by omega),List.drop_eq_getElem_cons a,h]
 simp
theorem fO {ds:List Int}(h:SZ ds):∀ s∈eJ ds,0≤s∧s≤4096:=by
 induction ds with
 | nil=>intro s a; cases a
 | cons d ds ih =>
  have e:=h.tail.pos
  have b:=h.tail.2
  refine List.forall_mem_cons.2 ⟨?_,ih h.tail⟩
  split<;>omega
theorem sZ {ds:List Int}(h:SZ ds):zs lw ds (eJ ds)=0:=by
 induction ds with
 | nil=>rfl
 | cons d ds ih =>
  have a:=h.1 d (by simp)
  have b:=h.tail.pos
  simp only [eJ,zs,ih h.tail]
  unfold lw
  split
  ·have:=Int.mul_nonneg (show 0≤pr ds by omega) (show 0≤d - 1 by omega); split<;>omega
  ·simp
theorem jX {ds:List Int}(h:SZ ds):zs hw ds (eJ ds)=pr ds - 1:=by
 induction ds with
 | nil=>rfl
 | cons d ds ih =>
  have a:=h.1 d (by simp)
  have b:=h.tail.pos
  simp only [eJ,zs,ih h.tail]
  have e:pr (d::ds)=pr ds*(d - 1)+pr ds:=by simp only [pr]; rw [Int.mul_sub,Int.mul_comm (pr ds) d]; omega
  rw [e]
  unfold hw
  by_cases c:d>1
  ·have:0<pr ds*(d - 1):=Int.mul_pos (by omega) (by omega)
   rw [if_pos c,if_pos this]; omega
  ·have:d=1:=by omega
   subst this; simp
theorem t2 {ds:List Int}(h:eC ds):VG ds (eJ ds) 0 (pr ds):=by
 have e:=h.2.pos
 have a:=h.2.2
 refine ⟨h,dH ds,⟨e,a⟩,⟨by omega,by omega⟩,fun s b=>by have:=fO h.2 s b; omega,?_,?_⟩
 ·rw [sZ h.2]; decide
 ·rw [jX h.2]; omega
theorem rk {ds is:List Int}(a:IV ds is):zs (·*·) is (eJ ds)=m8 ds is:=by
 induction ds generalizing is with
 | nil=>cases is with
  | nil=>rfl
  | cons=>exact a.elim
 | cons d ds ih=>cases is with
  | nil=>exact a.elim
  | cons i is =>
   have:=a.1
   simp only [eJ,zs,m8,ih a.2]
   split
   ·rfl
   ·have:i=0:=by omega
    subst this; simp
theorem nf {ds:List Int}(h:SZ ds):ne ds (eJ ds) 0=(List.range (pr ds).toNat).map fun k:Nat=>(k:Int):=by
 unfold ne
 refine List.map_congr_left fun k a=>?_
 have a:k<(pr ds).toNat:=by simpa using a
 have:=h.pos
 rw [rk (gZ h.1 _),rj h.1 (by omega) (by omega)]
 omega
def bU (ds:List Int):View:=⟨ds,eJ ds,0,pr ds⟩
def dU:View:=⟨[],[],0,0⟩
theorem uP {ds:List Int}(h:eC ds):Z0h ⟨ds,rL ds,0,pr ds⟩=some (bU ds):=by
 have b:=h.1
 unfold Z0h
 have:=eT (f:=fun s:Int×List Int=>Z0h_L1 ⟨ds,rL ds,0,pr ds⟩ s.1 s.2) (r:=eJ ds) (fun j=>((j:Int),(eJ ds).take j++(rL ds).drop j)) ds.length
  (fun j a=>by
   have g:=h.2.mem (bE a)
   simp only [Z0h_L1,Z0h_J2]
   rw [if_pos (by simp; omega),if_pos (by omega)]
   by_cases c:ix ds (j:Int)=1
   ·rw [if_pos (by simp [c]),if_pos (by rw [iE]; omega),bX (by unfold cB; omega)]
    have e:=sY (L:=eJ ds) (xs:=rL ds) (by rw [dH,iE]) (j:=j) (by rw [iE]; omega)
    rw [pA a,if_neg (by omega)] at e
    simp only [Int.toNat_natCast]
    rw [e]
   ·rw [if_neg (by simp [c]),bX (by unfold cB; omega),qy (by rw [dH,iE]) (by rw [iE]; omega) (by rw [pA a,sX a,if_pos (by omega)])])
  (by simp only [Z0h_L1]; rw [if_neg (by simp)]; rw [List.take_of_length_le (by rw [dH]; omega),List.drop_of_length_le (by rw [iE]; omega),List.append_nil])
  (s:=(0,rL ds)) (by simp)
 rw [this]
 rfl
theorem kg {ds:List Int}(h:eC ds):Zx ds=some (bU ds):=by
 have b:=h.1
 unfold Zx
 rw [f' (by unfold cB; omega)]
 simp only [h,decide_true,Option.bind_some,Bool.not_true,Bool.false_eq_true,if_false]
 rw [hR (by omega),jz (by unfold cB; omega),if_pos h.2]
 simp only [Option.bind_some]
 have:=eT (f:=fun s:List Int×Int=>Zx_L1 ds s.1 s.2) (r:=rL ds) (fun j=>((rL ds).take j,(j:Int))) ds.length
  (fun j a=>by
   simp only [Zx_L1]
   rw [if_pos (by simp; omega),bX (by unfold cB; omega),if_pos (by omega),hJ,Int.toNat_natCast,jz (by simp [cB]; omega),if_pos (h.2.drop (j+1))]
   simp only [Option.bind_some]
   rw [if_pos (by simp; omega),List.take_succ_eq_append_getElem (by rw [iE]; omega),← sX a,bR (by rw [iE]; omega)])
  (by simp only [Zx_L1]; rw [if_neg (by simp),List.take_of_length_le (by rw [iE]; omega)])
  (s:=([],0)) rfl
 rw [this]
 simp only [Option.bind_some,Zx_J1]
 rw [uP h]
 rfl
theorem nK {ds:List Int}(h:eC ds):Z06 ds=some (eJ ds):=by
 have E:=h.1
 unfold Z06
 rw [if_pos (by omega)]
 have:=eT (f:=fun s:List Int×Int×Int=>Z06_L1 ds s.1 s.2.1 s.2.2) (r:=eJ ds)
  (fun j=>(List.replicate (ds.length - j) 0++eJ (ds.drop (ds.length - j)),pr (ds.drop (ds.length - j)),(ds.length:Int) - 1 - j)) ds.length
  (fun j B=>by
   obtain ⟨i,l⟩:∃ i,i=ds.length - (j+1):=⟨_,rfl⟩
   have q:ds.length - j=i+1:=by omega
   have u:(ds.length:Int) - 1 - (j:Int)=(i:Int):=by omega
   have a:i<ds.length:=by omega
   have F:=h.2.mem (bE a)
   have D:=(h.2.drop (i+1)).pos
   have m:=(h.2.drop (i+1)).2
   have b:ds.drop i=ix ds (i:Int)::ds.drop (i+1):=by rw [List.drop_eq_getElem_cons a,bR a]
   have g:pr (ds.drop i)=pr (ds.drop (i+1))*ix ds (i:Int):=by rw [b]; simp [pr,Int.mul_comm]
   simp only [Z06_L1,Z06_J2,q,u,← l]
   rw [if_pos (by simp),if_pos (by omega)]
   have e:aH ((i:Int) - 1)=(ds.length:Int) - 1 - ((j+1:Nat):Int):=by rw [bA (by omega) (by omega)]; omega
   by_cases c:ix ds (i:Int)>1
   ·rw [if_pos (by simp; omega),if_pos (by simp; omega),if_pos (by omega),iD (by omega) (by omega) (by omega) (by omega),← g,e]
    congr 3
    rw [b,List.replicate_succ',List.set_append_left _ _ (by simp),List.set_append_right _ _ (by simp)]
    simp [eJ,c]
   ·rw [if_neg (by simp; omega),if_pos (by omega),iD (by omega) (by omega) (by omega) (by omega),← g,e]
    congr 3
    rw [b,List.replicate_succ']
    simp [eJ,c])
  (by
   simp only [Z06_L1,Nat.sub_self,List.drop_zero,List.replicate_zero,List.nil_append]
   rw [if_neg (by simp; omega)])
  (s:=(List.replicate (ds.length:Int).toNat 0,1,aH ((ds.length:Int) - 1))) (by
   rw [bA (by omega) (by omega)]
   simp [pr,eJ])
 rw [this]
 rfl
theorem kQ {ds:List Int}(h:eC ds):Z2m ds=some (bU ds):=by
 have a:=h.1
 unfold Z2m
 rw [gX (by unfold cB; omega)]
 simp only [h,decide_true,Option.bind_some,Bool.not_true,Bool.false_eq_true,if_false]
 rw [hH (by omega),nK h,ld (by unfold cB; omega) h.2]
 rfl
def fQ (n:Nat):List Int:=List.replicate n 0
def pB:List Int→List Int→Option (List Int)
 | d::ds,i::is=>match pB ds is with
  | some q=>some (i::q)
  | none=>if i+1<d then some ((i+1)::fQ ds.length) else none
 | _,_=>none
theorem t6 {ds is:List Int}(h:is.length=ds.length)(d i:Int):pB (ds++[d]) (is++[i])=if i+1<d then some (is++[i+1]) else (pB ds is).map (·++[0]):=by
 induction ds generalizing is with
 | nil=>cases is with
  | nil=>simp [pB,fQ]
  | cons=>simp at h
 | cons e ds ih=>cases is with
  | nil=>simp at h
  | cons j is =>
   have:=ih (is:=is) (by simpa using h)
   simp only [List.cons_append,pB,this]
   by_cases c:i+1<d
   ·simp [c]
   ·simp only [c,if_false]
    cases pB ds is with
    | some q=>simp
    | none =>
     simp only [Option.map_none]
     split
     ·simp [fQ,List.replicate_succ']
     ·simp
theorem qz {ds:List Int}(h:∀ d∈ds,1≤d){m:Int}(l:m % pr ds=0):gY ds m=fQ ds.length:=by
 induction ds generalizing m with
 | nil=>rfl
 | cons d ds ih =>
  have i:1≤pr ds:=fF fun x g=>h x (by simp [g])
  have j:=h d (by simp)
  have e:=(sS (k:=m) i j).2
  have a:=Int.emod_nonneg m (show pr ds≠0 by omega)
  have c:=Int.emod_nonneg (m / pr ds) (show d≠0 by omega)
  have s:m % (d*pr ds)=0:=l
  have b:=Int.mul_nonneg c (show 0≤pr ds by omega)
  have u:=iN c i
  have q:m % pr ds=0:=by omega
  have r:m / pr ds % d=0:=by omega
  simp only [gY,r,ih (fun x g=>h x (by simp [g])) q]
  simp [fQ,List.replicate_succ]
theorem qB {ds:List Int}(h:∀ d∈ds,1≤d)(k:Int):pB ds (gY ds k)=if k % pr ds+1<pr ds then some (gY ds (k+1)) else none:=by
 induction ds generalizing k with
 | nil=>simp [pB,pr,Int.emod_one]
 | cons d ds ih =>
  have B:1≤pr ds:=fF fun x j=>h x (by simp [j])
  have m:=h d (by simp)
  have l:∀ x∈ds,1≤x:=fun x j=>h x (by simp [j])
  have e:=(sS (k:=k) B m).2
  have a:=Int.emod_nonneg k (show pr ds≠0 by omega)
  have G:=Int.emod_lt_of_pos k (show 0<pr ds by omega)
  have c:=Int.emod_nonneg (k / pr ds) (show d≠0 by omega)
  have D:=Int.emod_lt_of_pos (k / pr ds) (show 0<d by omega)
  have J:=Int.mul_ediv_add_emod k (pr ds)
  have i:pr (d::ds)=d*pr ds:=rfl
  have b:(k / pr ds % d+1)*pr ds≤d*pr ds:=Int.mul_le_mul_of_nonneg_right (by omega) (by omega)
  rw [Int.add_mul] at b
  simp only [gY,pB,ih l]
  by_cases q:k % pr ds+1<pr ds
  ·have f:=(Int.ediv_emod_unique (a:=k+1) (b:=pr ds) (r:=k % pr ds+1) (q:=k / pr ds) (by omega)).2 ⟨by omega,by omega,by omega⟩
   simp only [if_pos q,f.1]
   rw [if_pos (show k % pr (d::ds)+1<pr (d::ds) by rw [i,e]; omega)]
  ·have F:k % pr ds=pr ds - 1:=by omega
   have f:=(Int.ediv_emod_unique (a:=k+1) (b:=pr ds) (r:=0) (q:=k / pr ds+1) (by omega)).2 ⟨by rw [Int.mul_add]; omega,by omega,by omega⟩
   simp only [if_neg q,f.1]
   by_cases g:k / pr ds % d+1<d
   ·have I:=Int.mul_ediv_add_emod (k / pr ds) d
    have s:=(Int.ediv_emod_unique (a:=k / pr ds+1) (b:=d) (r:=k / pr ds % d+1) (q:=k / pr ds / d) (by omega)).2 ⟨by omega,by omega,by omega⟩
    have u:(k / pr ds % d+2)*pr ds≤d*pr ds:=Int.mul_le_mul_of_nonneg_right (by omega) (by omega)
    rw [Int.add_mul] at u
    rw [if_pos g,if_pos (show k % pr (d::ds)+1<pr (d::ds) by rw [i,e]; omega),s.2,qz l f.2]
   ·have g1:k / pr ds % d=d - 1:=by omega
    have E:k / pr ds % d*pr ds=d*pr ds - pr ds:=by rw [g1,Int.sub_mul]; omega
    rw [if_neg g,if_neg (show ¬ k % pr (d::ds)+1<pr (d::ds) by rw [i,e]; omega)]
theorem wZ (f:Int→Int→Int){xs ys:List Int}{j:Nat}{a:Int}(b:j<xs.length)(e:j<ys.length):zs f (xs.set j a) ys=zs f xs ys - f (ix xs (j:Int)) (ix ys (j:Int))+f a (ix ys (j:Int)):=by
 induction xs generalizing ys j with
 | nil=>simp at b
 | cons x xs ih=>cases ys with
  | nil=>simp at e
  | cons y ys=>cases j with
   | zero=>simp [zs,ix]; omega
   | succ j =>
    rw [dK,dK,List.set_cons_succ]
    simp only [zs,ih (ys:=ys) (j:=j) (by simpa using b) (by simpa using e)]
    omega
theorem oQ {Y:Type}{YF:Y→Int→Option (Y×Bool)}{ds ss:List Int}{m base:Int}(h:VG ds ss m base){is:List Int}(E:IV ds is):∀ p,p≤ds.length →
  (∀ q,pB (ds.take p) (is.take p)=some q→∃ i:Int,0≤i∧aR (fun s:List Int×Int×Int=>Z05_L2 Y YF ds ss s.1 s.2.1 s.2.2) (is.take p++fQ (ds.length - p),m+zs (·*·) (is.take p++fQ (ds.length - p)) ss,(p:Int) - 1)=some (q++fQ (ds.length - p),m+zs (·*·) (q++fQ (ds.length - p)) ss,i)) ∧
  (pB (ds.take p) (is.take p)=none→∃ x y,aR (fun s:List Int×Int×Int=>Z05_L2 Y YF ds ss s.1 s.2.1 s.2.2) (is.take p++fQ (ds.length - p),m+zs (·*·) (is.take p++fQ (ds.length - p)) ss,(p:Int) - 1)=some (x,y,-1)):=by
 intro p
 have hn:=h.d.1
 have hl:=h.l
 have a5:=E.len
 induction p with
 | zero =>
  intro _
  refine ⟨fun q u=>by simp [pB] at u,fun _=>⟨is.take 0++fQ (ds.length - 0),m+zs (·*·) (is.take 0++fQ (ds.length - 0)) ss,dB ?_⟩⟩
  simp only [Z05_L2]
  rw [if_neg (by simp)]
  rfl
 | succ p ih =>
  intro I
  obtain ⟨a4,a0⟩:=ih (by omega)
  have hm:=E.mem (j:=p) (by omega)
  have a6:=h.d.2.mem (bE (xs:=ds) (k:=p) (by omega))
  have U:=h.s _ (bE (xs:=ss) (k:=p) (by omega))
  have ti:is.take (p+1)=is.take p++[ix is (p:Int)]:=by rw [List.take_succ_eq_append_getElem (by omega),bR (by omega)]
  have td:ds.take (p+1)=ds.take p++[ix ds (p:Int)]:=by rw [List.take_succ_eq_append_getElem (by omega),bR (by omega)]
  have J:(is.take p).length=(ds.take p).length:=by simp; omega
  have G:=t6 J (ix ds (p:Int)) (ix is (p:Int))
  rw [← ti,← td] at G
  obtain ⟨g,r⟩:∃ g,g=is.take (p+1)++fQ (ds.length - (p+1)):=⟨_,rfl⟩
  have a1:g.length=ds.length:=by rw [r]; simp [fQ]; omega
  have L:ix g (p:Int)=ix is (p:Int):=by
   have a3:p<g.length:=by omega
   rw [bR a3,bR (by omega)]
   subst r
   rw [List.getElem_append_left (by simp; omega)]
   simp
  have B:∀ a:Int,g.set p a=is.take p++a::fQ (ds.length - (p+1)):=by
   intro a
   rw [r,ti,List.append_assoc,List.set_append_right _ _ (by simp; omega)]
   have:p - (is.take p).length=0:=by simp; omega
   rw [this]
   rfl
  have O:∀ a:Int,0≤a→a<ix ds (p:Int)→0≤m+zs (·*·) (g.set p a) ss∧m+zs (·*·) (g.set p a) ss≤4096:=by
   intro a h0 h1
   have a2:∀ (ds is:List Int),IV ds is→(∀ d∈ds,1≤d)→∀ p,p<ds.length→0≤a→a<ix ds (p:Int)→IV ds (is.take p++a::fQ (ds.length - (p+1))):=by
    intro ds
    induction ds with
    | nil=>intro is _ _ p I; simp at I
    | cons d ds ihd =>
     intro is E D p I h0 h1
     cases is with
     | nil=>exact E.elim
     | cons i is =>
      cases p with
      | zero =>
       refine ⟨⟨h0,h1⟩,?_⟩
       have hz:∀ ds:List Int,(∀ d∈ds,1≤d)→IV ds (fQ ds.length):=by
        intro ds
        induction ds with
        | nil=>intro _; trivial
        | cons d ds ihz=>intro I; exact ⟨⟨Int.le_refl 0,by have:=I d (by simp); omega⟩,ihz fun x T=>I x (by simp [T])⟩
       exact hz ds fun x T=>D x (by simp [T])
      | succ p =>
       rw [dK] at h1
       have:=ihd is E.2 (fun x T=>D x (by simp [T])) p (by simpa using I) h0 h1
       refine ⟨E.1,?_⟩
       simpa using this
   have:=h.place (a2 ds is E h.d.2.1 p (by omega) h0 h1)
   have:=h.b
   rw [B]
   omega
  have F:=fun a=>wZ (·*·) (xs:=g) (ys:=ss) (j:=p) (a:=a) (by omega) (by omega)
  rw [L] at F
  have b0:=O (ix is (p:Int)) hm.1 hm.2
  have e0:g.set p (ix is (p:Int))=g:=by rw [B,r,ti]; simp
  rw [e0] at b0
  have Z:Z05_L2 Y YF ds ss g (m+zs (·*·) g ss) ((p+1:Nat) - 1:Int)=if ix is (p:Int)+1<ix ds (p:Int) then some (.inr (g.set p (ix is (p:Int)+1),m+zs (·*·) (g.set p (ix is (p:Int)+1)) ss,(p:Int))) else some (.inl (g.set p 0,m+zs (·*·) (g.set p 0) ss,(p:Int) - 1)):=by
   have ep:((p+1:Nat) - 1:Int)=(p:Int):=by omega
   have w1:aH (ix is (p:Int)+1)=ix is (p:Int)+1:=bA (by omega) (by omega)
   have w2:aH (m+zs (·*·) g ss+ix ss (p:Int))=m+zs (·*·) g ss+ix ss (p:Int):=bA (by omega) (by omega)
   have mb:=pz (a:=ix ds (p:Int)) (b:=ix ss (p:Int)) (M:=4096) (N:=4096) (by omega) (by omega) U.1 U.2 (by omega)
   rw [Int.mul_comm (ix ds (p:Int))] at mb
   have w3:aH (ix ss (p:Int)*ix ds (p:Int))=ix ss (p:Int)*ix ds (p:Int):=bA (by omega) (by omega)
   have e1:ix (g.set p (ix is (p:Int)+1)) (p:Int)=ix is (p:Int)+1:=by rw [bR (by simp; omega)]; simp
   rw [ep]
   simp only [Z05_L2,Int.toNat_natCast,L,w1,w2,w3,e1]
   rw [if_pos (by simp),if_pos (by simp; omega),if_pos (by omega),if_pos (by omega)]
   by_cases c:ix is (p:Int)+1<ix ds (p:Int)
   ·rw [if_pos (by simpa using c),if_pos c,F (ix is (p:Int)+1),Int.add_mul]
    congr 4
    omega
   ·rw [if_neg (by simpa using c),if_neg c]
    have em:ix ss (p:Int)*ix ds (p:Int)=ix is (p:Int)*ix ss (p:Int)+ix ss (p:Int):=by
     rw [show ix ds (p:Int)=ix is (p:Int)+1 by omega,Int.mul_add,Int.mul_comm]; omega
    have bz:=O 0 (by omega) (by omega)
    have z0:=F 0
    simp only [Int.zero_mul] at z0
    rw [nm,Option.bind_some,List.set_set,bA (by omega) (by omega),bA (by omega) (by omega),z0]
    congr 4
    omega
  rw [← r]
  by_cases c:ix is (p:Int)+1<ix ds (p:Int)
  ·rw [if_pos c] at Z G
   refine ⟨fun q u=>⟨(p:Int),by omega,?_⟩,fun u=>by rw [G] at u; cases u⟩
   rw [G] at u
   cases u
   rw [dB Z,B]
   simp
  ·rw [if_neg c] at Z G
   have e2:g.set p 0=is.take p++fQ (ds.length - p):=by
    rw [B,show ds.length - p=(ds.length - (p+1))+1 by omega]; rfl
   rw [e2] at Z
   rw [eF Z]
   refine ⟨fun q u=>?_,fun u=>a0 (by rw [G] at u; simpa using u)⟩
   rw [G] at u
   cases e:pB (ds.take p) (is.take p) with
   | none=>rw [e] at u; cases u
   | some q' =>
    rw [e] at u
    cases u
    obtain ⟨i,h1,h2⟩:=a4 q' e
    refine ⟨i,h1,?_⟩
    rw [h2]
    have:fQ (ds.length - p)=0::fQ (ds.length - (p+1)):=by rw [show ds.length - p=(ds.length - (p+1))+1 by omega]; rfl
    rw [this]
    simp
theorem rl {g:Type}{YF:g→Int→Option (g×Bool)}{ds ss:List Int}{b base:Int}(h:VG ds ss b base)(I:Nat→g→Prop)
  (u:∀ (k:Nat) y,(k:Int)<pr ds→I k y→∃ a,YF y (b+zs (·*·) (gY ds (k:Int)) ss)=some (a,true)∧I (k+1) a) {y:g} (F:I 0 y) :
  ∃ a,Z05 g YF y ds b ss=some a∧I (pr ds).toNat a:=by
 have M:=h.d.1
 have O:=h.d.2.pos
 unfold Z05
 rw [if_pos (by omega)]
 have r:∀ m k y,k+1+m=(pr ds).toNat→I k y→∃ a,aR (fun s:List Int×Int×g=>Z05_L1 g YF ds ss s.1 s.2.1 s.2.2) (gY ds (k:Int),b+zs (·*·) (gY ds (k:Int)) ss,y)=some a∧I (pr ds).toNat a:=by
  intro m
  induction m with
  | zero =>
   intro k y D q
   obtain ⟨a,h1,h2⟩:=u k y (by omega) q
   obtain ⟨_,l⟩:=oQ (YF:=YF) h (gZ h.d.2.1 (k:Int)) ds.length (Nat.le_refl _)
   rw [List.take_length,List.take_of_length_le (by rw [jA]; omega),Nat.sub_self] at l
   have e:pB ds (gY ds (k:Int))=none:=by
    rw [qB h.d.2.1,Int.emod_eq_of_lt (by omega) (by omega),if_neg (by omega)]
   obtain ⟨x,z,j⟩:=l e
   refine ⟨a,dB ?_,by rw [show (pr ds).toNat=k+1 by omega]; exact h2⟩
   simp only [Z05_L1,h1,Option.bind_some,Bool.not_true,Bool.false_eq_true,if_false]
   rw [bA (by omega) (by omega)]
   simp only [fQ,List.replicate_zero,List.append_nil] at j
   rw [j]
   rfl
  | succ m ih =>
   intro k y D q
   obtain ⟨a,h1,h2⟩:=u k y (by omega) q
   obtain ⟨l,_⟩:=oQ (YF:=YF) h (gZ h.d.2.1 (k:Int)) ds.length (Nat.le_refl _)
   rw [List.take_length,List.take_of_length_le (by rw [jA]; omega),Nat.sub_self] at l
   have e:pB ds (gY ds (k:Int))=some (gY ds ((k:Int)+1)):=by
    rw [qB h.d.2.1,Int.emod_eq_of_lt (by omega) (by omega),if_pos (by omega)]
   obtain ⟨i,L,j⟩:=l _ e
   have G:(k:Int)+1=((k+1:Nat):Int):=by omega
   have B:=eF (f:=fun s:List Int×Int×g=>Z05_L1 g YF ds ss s.1 s.2.1 s.2.2) (s:=(gY ds (k:Int),b+zs (·*·) (gY ds (k:Int)) ss,y)) (s':=(gY ds ((k+1:Nat):Int),b+zs (·*·) (gY ds ((k+1:Nat):Int)) ss,a)) (by
    simp only [Z05_L1,h1,Option.bind_some,Bool.not_true,Bool.false_eq_true,if_false]
    rw [bA (by omega) (by omega)]
    simp only [fQ,List.replicate_zero,List.append_nil] at j
    rw [j,G]
    simp only [Option.bind_some,Z05_J2]
    rw [if_neg (by simp; omega)])
   rw [B]
   exact ih (k+1) a (by omega) h2
 obtain ⟨a,h1,h2⟩:=r ((pr ds).toNat - 1) 0 y (by omega) F
 refine ⟨a,?_,h2⟩
 have e:gY ds ((0:Nat):Int)=fQ ds.length:=qz h.d.2.1 (by simp)
 have E:∀ (n:Nat) (ss:List Int),zs (·*·) (fQ n) ss=0:=by
  intro n
  induction n with
  | zero=>intro ss; simp [fQ,zs]
  | succ n ihn=>intro ss; cases ss with
   | nil=>simp [fQ,zs]
   | cons s ss=>have:=ihn ss; simp only [fQ,List.replicate_succ,zs] at this ⊢; rw [this]; simp
 rw [e,E] at h1
 have J:(ds.length:Int).toNat=ds.length:=by omega
 rw [J]
 simp only [Int.add_zero] at h1
 rw [show List.replicate ds.length (0:Int)=fQ ds.length from rfl,h1]
 rfl
theorem uQ {v:View}(h:VG v.Dims v.Strides v.Offset v.Base):∃ ps,Z2f v=some (v.Dims,ps,true):=by
 have b:=h.d.2.2
 unfold Z2f
 rw [kv h]
 simp only [Option.bind_some,Bool.not_true,Bool.false_eq_true,if_false,Z32]
 obtain ⟨ps,h1,_⟩:=rl (YF:=fun (s:List pair) (x:Int)=>Z3q s x) h (fun k (y:List pair)=>y.length=k) (fun k y e a=>by
  simp only [Z3q]
  rw [if_pos (by simp; omega)]
  exact ⟨_,rfl,by simp [a]⟩) (y:=[]) rfl
 exact ⟨ps,by rw [h1]; rfl⟩
def lR:List Int→List Int→Bool
 | a::xs,b::ys=>(a==b||a==1)&&lR xs ys
 | _,_=>true
def o4:List Int→List Int→List Int→List Int
 | a::xs,b::ys,s::ss=>(if a=b then s else 0)::o4 xs ys ss
 | _,_,_=>[]
theorem kh {xs ys ss:List Int}(h1:ys.length=xs.length)(h2:ss.length=xs.length):(o4 xs ys ss).length=xs.length:=by
 induction xs generalizing ys ss with
 | nil=>rfl
 | cons a xs ih=>cases ys with
  | nil=>simp at h1
  | cons b ys=>cases ss with
   | nil=>simp at h2
   | cons s ss=>simp only [o4,List.length_cons]; rw [ih (by simpa using h1) (by simpa using h2)]
theorem x0 {xs ys ss:List Int}(h1:ys.length=xs.length)(h2:ss.length=xs.length){j:Nat}(e:j<xs.length):ix (o4 xs ys ss) (j:Int)=if ix xs (j:Int)=ix ys (j:Int) then ix ss (j:Int) else 0:=by
 induction xs generalizing ys ss j with
 | nil=>simp at e
 | cons a xs ih=>cases ys with
  | nil=>simp at h1
  | cons b ys=>cases ss with
   | nil=>simp at h2
   | cons s ss=>cases j with
    | zero=>rfl
    | succ j=>rw [o4,dK,dK,dK,dK,ih (by simpa using h1) (by simpa using h2) (by simpa using e)]
theorem qC {xs ys:List Int}(h1:ys.length=xs.length)(h:lR xs ys=true){j:Nat}(e:j<xs.length):ix xs (j:Int)=ix ys (j:Int)∨ix xs (j:Int)=1:=by
 induction xs generalizing ys j with
 | nil=>simp at e
 | cons a xs ih=>cases ys with
  | nil=>simp at h1
  | cons b ys =>
   simp only [lR,Bool.and_eq_true,Bool.or_eq_true,beq_iff_eq] at h
   cases j with
   | zero=>exact h.1
   | succ j=>rw [dK,dK]; exact ih (by simpa using h1) h.2 (by simpa using e)
theorem qD {xs ys:List Int}(h1:ys.length=xs.length)(h:lR xs ys=false):∃ m,m<xs.length∧ix xs (m:Int)≠ix ys (m:Int)∧ix xs (m:Int)≠1∧∀ j:Nat,j<m→ix xs (j:Int)=ix ys (j:Int)∨ix xs (j:Int)=1:=by
 induction xs generalizing ys with
 | nil=>simp [lR] at h
 | cons a xs ih=>cases ys with
  | nil=>simp at h1
  | cons b ys =>
   by_cases c:a=b∨a=1
   ·have:lR xs ys=false:=by
     simp only [lR] at h
     rcases c with c | c<;>simpa [c] using h
    obtain ⟨m,i,q,l,r⟩:=ih (by simpa using h1) this
    refine ⟨m+1,by simpa using i,by rw [dK,dK]; exact q,by rw [dK]; exact l,?_⟩
    intro j g
    cases j with
    | zero=>exact c
    | succ j=>rw [dK,dK]; exact r j (by omega)
   ·exact ⟨0,by simp,fun e=>c (.inl e),fun e=>c (.inr e),fun j g=>by omega⟩
theorem t7 (f:Int→Int→Int){a b c e:List Int}(h:a.length=b.length):zs f (a++c) (b++e)=zs f a b+zs f c e:=by
 induction a generalizing b with
 | nil=>cases b with
  | nil=>simp [zs]
  | cons=>simp at h
 | cons x a ih=>cases b with
  | nil=>simp at h
  | cons y b=>simp only [List.cons_append,zs,ih (b:=b) (by simpa using h)]; omega
theorem x5 (f:Int→Int→Int)(a:∀ d,f d 0=0)(ds:List Int)(n:Nat):zs f ds (fQ n)=0:=by
 induction ds generalizing n with
 | nil=>simp [zs]
 | cons d ds ih=>cases n with
  | zero=>simp [fQ,zs]
  | succ n=>have:=ih n; simp only [fQ,List.replicate_succ,zs,a] at this ⊢; omega
theorem Bu (d:Int):hw d 0=0:=by simp [hw]
theorem x7 {d s:Int}(b:1≤d)(a:0≤s):lw d s=0:=by
 have:=Int.mul_nonneg a (show 0≤d - 1 by omega)
 unfold lw; split<;>omega
theorem iO {d s:Int}(b:1≤d)(a:0≤s):hw d s=s*(d - 1):=by
 have:=Int.mul_nonneg a (show 0≤d - 1 by omega)
 unfold hw; split<;>omega
theorem pC {ds ss:List Int}(b:∀ d∈ds,1≤d)(e:∀ s∈ss,0≤s):zs lw ds ss=0:=by
 induction ds generalizing ss with
 | nil=>simp [zs]
 | cons d ds ih=>cases ss with
  | nil=>simp [zs]
  | cons s ss =>
   simp only [zs,x7 (b d (by simp)) (e s (by simp)),ih (ss:=ss) (fun x a=>b x (by simp [a])) (fun x a=>e x (by simp [a]))]
   omega
theorem x8 {xs ys ss:List Int}(e:∀ d∈xs,1≤d)(l:∀ d∈ys,1≤d)(i:∀ s∈ss,0≤s):zs hw ys (o4 xs ys ss)≤zs hw xs ss∧∀ s∈o4 xs ys ss,0≤s:=by
 induction xs generalizing ys ss with
 | nil=>cases ys<;>simp [o4,zs]
 | cons a xs ih=>cases ys with
  | nil =>
   refine ⟨?_,by simp [o4]⟩
   have j:∀ (xs ss:List Int),(∀ d∈xs,1≤d)→(∀ s∈ss,0≤s)→0≤zs hw xs ss:=by
    intro xs
    induction xs with
    | nil=>intro ss _ _; simp [zs]
    | cons d ds ihh=>intro ss h1 h2; cases ss with
     | nil=>simp [zs]
     | cons s ss =>
      have:=ihh ss (fun x e=>h1 x (by simp [e])) (fun x e=>h2 x (by simp [e]))
      have q:=iO (h1 d (by simp)) (h2 s (by simp))
      have r:=Int.mul_nonneg (h2 s (by simp)) (show 0≤d - 1 by have:=h1 d (by simp); omega)
      simp only [zs]; omega
   simpa [zs] using j (a::xs) ss e i
  | cons b ys=>cases ss with
   | nil=>simp [o4,zs]
   | cons s ss =>
    obtain ⟨h1,h2⟩:=ih (ys:=ys) (ss:=ss) (fun x h=>e x (by simp [h])) (fun x h=>l x (by simp [h])) (fun x h=>i x (by simp [h]))
    have m:=e a (by simp)
    have B:=l b (by simp)
    have g:=i s (by simp)
    have D:=iO m g
    have u:=Int.mul_nonneg g (show 0≤a - 1 by omega)
    refine ⟨?_,?_⟩
    ·simp only [o4,zs]
     split
     ·rename_i c; subst c; omega
     ·rw [Bu]; omega
    ·simp only [o4]
     refine List.forall_mem_cons.2 ⟨?_,h2⟩
     split<;>omega
theorem iR {ds:List Int}(h:eC ds):VG (bU ds).Dims (bU ds).Strides (bU ds).Offset (bU ds).Base:=t2 h
def jL (ds d:List Int):List Int:=fQ (d.length - ds.length)++o4 ds (d.drop (d.length - ds.length)) (eJ ds)
theorem ng {ds d:List Int}(h:eC ds)(l:eC d)(G:ds.length≤d.length):VG d (jL ds d) 0 (pr ds):=by
 have F:=h.2.pos
 have q:=h.2.2
 have r:(d.drop (d.length - ds.length)).length=ds.length:=by simp; omega
 have m:∀ s∈eJ ds,0≤s:=fun s g=>(fO h.2 s g).1
 obtain ⟨h1,h2⟩:=x8 (ys:=d.drop (d.length - ds.length)) h.2.1 (fun x B=>l.2.1 x (List.mem_of_mem_drop B)) m
 have i:∀ s∈jL ds d,0≤s:=by
  intro s g
  rcases List.mem_append.1 g with g | g
  ·have:=(List.mem_replicate.1 g).2; omega
  ·exact h2 s g
 have E:d=d.take (d.length - ds.length)++d.drop (d.length - ds.length):=(List.take_append_drop _ _).symm
 have D:zs hw d (jL ds d)≤pr ds - 1:=by
  have e:zs hw d (jL ds d)=zs hw (d.take (d.length - ds.length)++d.drop (d.length - ds.length)) (jL ds d):=by rw [List.take_append_drop]
  rw [e,jL,t7 _ (by simp [fQ]),x5 _ Bu,← jX h.2]
  omega
 refine ⟨l,by simp only [jL,List.length_append,kh r (dH ds)]; simp [fQ]; omega,⟨F,q⟩,⟨by omega,by omega⟩,?_,?_,by omega⟩
 ·intro s g
  refine ⟨by have:=i s g; omega,?_⟩
  rcases List.mem_append.1 g with g | g
  ·have:=(List.mem_replicate.1 g).2; omega
  ·have u:∀ (xs ys ss:List Int),(∀ s∈ss,s≤4096)→∀ s∈o4 xs ys ss,s≤4096:=by
    intro xs
    induction xs with
    | nil=>intro ys ss _ s g; cases ys<;>simp [o4] at g
    | cons a xs ih=>intro ys ss j; cases ys with
     | nil=>simp [o4]
     | cons b ys=>cases ss with
      | nil=>simp [o4]
      | cons t ss =>
       simp only [o4]
       refine List.forall_mem_cons.2 ⟨?_,ih ys ss fun x B=>j x (by simp [B])⟩
       have:=j t (by simp)
       split<;>omega
   exact u _ _ _ (fun s g=>(fO h.2 s g).2) s g
 ·rw [pC l.2.1 i]; omega
theorem m9 {ds d:List Int}(e:ds.length≤d.length)(a:d.length≤6){j:Nat}(b:j<ds.length):aH (aH ((d.length:Int) - (ds.length:Int))+(j:Int))=((d.length - ds.length+j:Nat):Int)∧ix d ((d.length - ds.length+j:Nat):Int)=ix (d.drop (d.length - ds.length)) (j:Int):=by
 refine ⟨by rw [bA (n:=(d.length:Int) - ds.length) (by omega) (by omega),bA (by omega) (by omega)]; omega,?_⟩
 rw [bR (by omega),bR (by simp; omega)]
 simp
theorem x9 {ds d:List Int}(e:ds.length≤d.length){j:Nat}(b:j<ds.length):ix (jL ds d) ((d.length - ds.length+j:Nat):Int)=if ix ds (j:Int)=ix (d.drop (d.length - ds.length)) (j:Int) then ix (eJ ds) (j:Int) else 0:=by
 have a:(d.drop (d.length - ds.length)).length=ds.length:=by simp; omega
 rw [← x0 a (dH ds) b,bR (by simp only [jL,List.length_append,kh a (dH ds)]; simp [fQ]; omega),bR (by rw [kh a (dH ds)]; omega)]
 simp only [jL]
 rw [List.getElem_append_right (by simp [fQ])]
 simp [fQ]
theorem nh {ds d:List Int}(h:eC ds)(g:ds.length≤d.length){j:Nat}(i:j<ds.length) :
  (ix ds (j:Int)=ix (d.drop (d.length - ds.length)) (j:Int)→((jL ds d).take (d.length - ds.length+j)++(fQ d.length).drop (d.length - ds.length+j)).set (d.length - ds.length+j) (ix (eJ ds) (j:Int))=(jL ds d).take (d.length - ds.length+(j+1))++(fQ d.length).drop (d.length - ds.length+(j+1))) ∧
  (ix ds (j:Int)≠ix (d.drop (d.length - ds.length)) (j:Int)→(jL ds d).take (d.length - ds.length+j)++(fQ d.length).drop (d.length - ds.length+j)=(jL ds d).take (d.length - ds.length+(j+1))++(fQ d.length).drop (d.length - ds.length+(j+1))):=by
 have a:(d.drop (d.length - ds.length)).length=ds.length:=by simp; omega
 have b:(jL ds d).length=(fQ d.length).length:=by simp only [jL,List.length_append,kh a (dH ds)]; simp [fQ]; omega
 have l:(fQ d.length).length=d.length:=by simp [fQ]
 have e:=x9 g i
 constructor
 ·intro c
  rw [if_pos c] at e
  have:=sY b (j:=d.length - ds.length+j) (by omega)
  rw [e] at this
  exact this
 ·intro c
  rw [if_neg c] at e
  refine qy b (by omega) ?_
  rw [e,bR (by omega)]
  simp [fQ]
theorem t8 {ds d:List Int}(h:eC ds)(u:d.length<cB):Z03 (bU ds) d=some (if eC d∧ds.length≤d.length∧lR ds (d.drop (d.length - ds.length))=true then ⟨d,jL ds d,0,pr ds⟩ else dU):=by
 have O:=h.1
 have b:(bU ds).Dims=ds:=rfl
 have q:(bU ds).Strides=eJ ds:=rfl
 have E:=dH ds
 unfold Z03
 rw [ku (iR h)]
 simp only [Option.bind_some,bQ,Bool.not_true,Bool.not_false,cond_true,Bool.false_or,f' u]
 by_cases hd:eC d
 ·have i:=hd.1
  simp only [hd,decide_true,Bool.not_true,Bool.false_or,b,true_and]
  by_cases hl:ds.length≤d.length
  ·rw [if_neg (by rw [bA (by omega) (by omega)]; simp; omega),hR (by omega)]
   simp only [Option.bind_some]
   rw [if_pos (by omega)]
   have e:(d.drop (d.length - ds.length)).length=ds.length:=by simp; omega
   have a:∀ j:Nat,j<ds.length→(ix ds (j:Int)=ix (d.drop (d.length - ds.length)) (j:Int)∨ix ds (j:Int)=1)→(fun s:List Int×Int=>Z03_L1 (bU ds) d s.1 s.2) ((jL ds d).take (d.length - ds.length+j)++(fQ d.length).drop (d.length - ds.length+j),(j:Int))=some (.inl ((jL ds d).take (d.length - ds.length+(j+1))++(fQ d.length).drop (d.length - ds.length+(j+1)),((j+1:Nat):Int))):=by
    intro j g L
    obtain ⟨l,B⟩:=m9 (ds:=ds) hl i g
    obtain ⟨M,G⟩:=nh (d:=d) h hl g
    simp only [Z03_L1,Z03_J2,b,q,l,B]
    rw [if_pos (by simp; omega),if_pos (by omega),if_pos (by omega)]
    by_cases c:ix ds (j:Int)=ix (d.drop (d.length - ds.length)) (j:Int)
    ·rw [if_pos (by simp [c]),if_pos (by omega),if_pos (by simp; omega),Int.toNat_natCast,M c,bX (by unfold cB; omega)]
     rfl
    ·rw [if_neg (by simp [c]),if_neg (by simp [L.resolve_left c]),G c,bX (by unfold cB; omega)]
   have D:(List.replicate (d.length:Int).toNat (0:Int),(0:Int))=((jL ds d).take (d.length - ds.length+0)++(fQ d.length).drop (d.length - ds.length+0),((0:Nat):Int)):=by
    simp only [jL,Nat.add_zero]
    rw [List.take_append_of_le_length (by simp [fQ]),List.take_of_length_le (by simp [fQ])]
    simp [fQ]
   by_cases c:lR ds (d.drop (d.length - ds.length))=true
   ·have:=eT (f:=fun s:List Int×Int=>Z03_L1 (bU ds) d s.1 s.2) (r:=.inr (jL ds d)) (fun j=>((jL ds d).take (d.length - ds.length+j)++(fQ d.length).drop (d.length - ds.length+j),(j:Int))) ds.length
     (fun j g=>a j g (qC e c g))
     (by
      simp only [Z03_L1,b]
      rw [if_neg (by simp),show d.length - ds.length+ds.length=d.length by omega,List.take_of_length_le (by simp only [jL,List.length_append,kh e (dH ds)]; simp [fQ]; omega),List.drop_of_length_le (by simp [fQ])]
      simp) D
    rw [this]
    simp [c,hl,Z03_J3]
    exact ⟨rfl,rfl⟩
   ·obtain ⟨m,g1,I,J,F⟩:=qD e (by simpa using c)
    have:=eT (f:=fun s:List Int×Int=>Z03_L1 (bU ds) d s.1 s.2) (r:=.inl dU) (fun j=>((jL ds d).take (d.length - ds.length+j)++(fQ d.length).drop (d.length - ds.length+j),(j:Int))) m
     (fun j g=>a j (by omega) (F j g))
     (by
      obtain ⟨l,B⟩:=m9 (ds:=ds) hl i g1
      simp only [Z03_L1,b,l,B]
      rw [if_pos (by simp; omega),if_pos (by omega),if_pos (by omega),if_neg (by simp [I]),if_pos (by simp [J])]
      rfl) D
    rw [this]
    simp [c]
  ·rw [if_pos (by rw [bA (by unfold cB at u; omega) (by unfold cB at u; omega)]; simp; omega)]
   simp [hl,dU]
 ·simp [hd,dU]
theorem ta {ds d:List Int}(h:eC ds)(J:d.length<cB):Z2d (bU ds) d=some (if eC d∧ds.length≤d.length∧lR ds (d.drop (d.length - ds.length))=true then ⟨d,jL ds d,0,pr ds⟩ else dU):=by
 have T:=h.1
 have a:(bU ds).Dims=ds:=rfl
 have i:(bU ds).Strides=eJ ds:=rfl
 have E:=dH ds
 unfold Z2d Z34
 rw [kv (iR h)]
 simp only [Option.bind_some,Bool.not_true,Bool.false_eq_true,if_false]
 rw [hH (by rw [a]; omega),hH (by rw [i]; omega)]
 simp only [Option.bind_some]
 unfold Z08
 rw [gX J]
 simp only [Option.bind_some]
 by_cases hd:eC d
 ·have l:=hd.1
  simp only [hd,decide_true,Bool.not_true,Bool.false_or,a,true_and]
  by_cases hl:ds.length≤d.length
  ·rw [if_neg (by simp; omega),hH (by omega)]
   simp only [Option.bind_some]
   rw [if_pos (by omega)]
   have e:(d.drop (d.length - ds.length)).length=ds.length:=by simp; omega
   have b:∀ j:Nat,j<ds.length→(ix ds (j:Int)=ix (d.drop (d.length - ds.length)) (j:Int)∨ix ds (j:Int)=1)→(fun s:List Int×Int=>Z08_L1 ⟨ds,(bU ds).Strides,(bU ds).Offset,(bU ds).Base⟩ d (bU ds) d s.1 s.2) ((jL ds d).take (d.length - ds.length+j)++(fQ d.length).drop (d.length - ds.length+j),(j:Int))=some (.inl ((jL ds d).take (d.length - ds.length+(j+1))++(fQ d.length).drop (d.length - ds.length+(j+1)),((j+1:Nat):Int))):=by
    intro j g M
    obtain ⟨u,B⟩:=m9 (ds:=ds) hl l g
    obtain ⟨O,G⟩:=nh (d:=d) h hl g
    simp only [Z08_L1,Z08_J2,a,i,u,B]
    rw [if_pos (by simp; omega),if_pos (by omega),if_pos (by omega)]
    by_cases c:ix ds (j:Int)=ix (d.drop (d.length - ds.length)) (j:Int)
    ·rw [if_pos (by simp [c]),if_pos (by omega),if_pos (by simp; omega),Int.toNat_natCast,O c,bX (by unfold cB; omega)]
     rfl
    ·rw [if_neg (by simp [c]),if_neg (by simp [M.resolve_left c]),G c,bX (by unfold cB; omega)]
   have D:(List.replicate (d.length:Int).toNat (0:Int),(0:Int))=((jL ds d).take (d.length - ds.length+0)++(fQ d.length).drop (d.length - ds.length+0),((0:Nat):Int)):=by
    simp only [jL,Nat.add_zero]
    rw [List.take_append_of_le_length (by simp [fQ]),List.take_of_length_le (by simp [fQ])]
    simp [fQ]
   by_cases c:lR ds (d.drop (d.length - ds.length))=true
   ·have:=eT (f:=fun s:List Int×Int=>Z08_L1 ⟨ds,(bU ds).Strides,(bU ds).Offset,(bU ds).Base⟩ d (bU ds) d s.1 s.2) (r:=.inr (jL ds d)) (fun j=>((jL ds d).take (d.length - ds.length+j)++(fQ d.length).drop (d.length - ds.length+j),(j:Int))) ds.length
     (fun j g=>b j g (qC e c g))
     (by
      simp only [Z08_L1,a]
      rw [if_neg (by simp),show d.length - ds.length+ds.length=d.length by omega,List.take_of_length_le (by simp only [jL,List.length_append,kh e (dH ds)]; simp [fQ]; omega),List.drop_of_length_le (by simp [fQ])]
      simp) D
    rw [this,if_pos ⟨hl,c⟩]
    simp only [Option.bind_some,Z08_J3,bQ,Bool.not_true,Bool.not_false,cond_true]
    rw [kv (v:=⟨d,jL ds d,(bU ds).Offset,(bU ds).Base⟩) (ng h hd hl)]
    rfl
   ·obtain ⟨m,g1,I,L,F⟩:=qD e (by simpa using c)
    have:=eT (f:=fun s:List Int×Int=>Z08_L1 ⟨ds,(bU ds).Strides,(bU ds).Offset,(bU ds).Base⟩ d (bU ds) d s.1 s.2) (r:=.inl (false,⟨d,(jL ds d).take (d.length - ds.length+m)++(fQ d.length).drop (d.length - ds.length+m),(bU ds).Offset,(bU ds).Base⟩)) (fun j=>((jL ds d).take (d.length - ds.length+j)++(fQ d.length).drop (d.length - ds.length+j),(j:Int))) m
     (fun j g=>b j (by omega) (F j g))
     (by
      obtain ⟨u,B⟩:=m9 (ds:=ds) hl l g1
      simp only [Z08_L1,a,u,B]
      rw [if_pos (by simp; omega),if_pos (by omega),if_pos (by omega),if_neg (by simp [I]),if_pos (by simp [L])]) D
    rw [this,if_neg (fun q=>c q.2)]
    simp [bQ,dU]
  ·rw [if_pos (by simp; omega),if_neg (fun q=>hl q.1)]
   simp [bQ,dU]
 ·simp [hd,bQ,dU]
theorem tb {v:View}(a:v.Dims.length<cB)(h:¬ eC v.Dims):Z8 v=some false:=by
 unfold Z8
 rw [f' a]
 simp [h]
theorem tc {v:View}(a:v.Dims.length<cB)(h:¬ eC v.Dims):Zg v=some false:=by
 unfold Zg
 rw [gX a]
 simp [h]
def lT (ds:List Int)(a fr c st:Int):Prop:=0≤a∧a<(ds.length:Int)∧1≤c∧c≤4096∧1≤st∧st≤4096∧0≤fr∧fr<ix ds a∧fr+(c - 1)*st<ix ds a
instance (ds:List Int)(a fr c st:Int):Decidable (lT ds a fr c st):=by unfold lT; infer_instance
theorem xa {xs:List Int}{j:Nat}{a:Int}(h:j<xs.length):ix (xs.set j a) (j:Int)=a:=by rw [bR (by simpa using h)]; simp
theorem nL (f:Int→Int→Int){xs ys:List Int}{j:Nat}{a b:Int}(e:j<xs.length)(g:j<ys.length):zs f (xs.set j a) (ys.set j b)=zs f xs ys - f (ix xs (j:Int)) (ix ys (j:Int))+f a b:=by
 induction xs generalizing ys j with
 | nil=>simp at e
 | cons x xs ih=>cases ys with
  | nil=>simp at g
  | cons y ys=>cases j with
   | zero=>simp [zs,ix]; omega
   | succ j =>
    rw [dK,dK,List.set_cons_succ,List.set_cons_succ]
    simp only [zs,ih (ys:=ys) (j:=j) (by simpa using e) (by simpa using g)]
    omega
theorem xb {ds:List Int}(h:∀ d∈ds,1≤d){j:Nat}(g:j<ds.length){c:Int}(h1:1≤c)(h2:c≤ix ds (j:Int)):pr (ds.set j c)≤pr ds∧∀ d∈ds.set j c,1≤d:=by
 induction ds generalizing j with
 | nil=>simp at g
 | cons d ds ih =>
  have l:1≤pr ds:=fF fun x e=>h x (by simp [e])
  cases j with
  | zero =>
   have h2:c≤d:=h2
   refine ⟨Int.mul_le_mul_of_nonneg_right h2 (by omega),List.forall_mem_cons.2 ⟨h1,fun x e=>h x (by simp [e])⟩⟩
  | succ j =>
   rw [dK] at h2
   obtain ⟨a,b⟩:=ih (fun x e=>h x (by simp [e])) (by simpa using g) h2
   have i:=h d (by simp)
   exact ⟨Int.mul_le_mul_of_nonneg_left a (by omega),List.forall_mem_cons.2 ⟨i,b⟩⟩
theorem iP {xs:List Int}{j:Nat}{a:Int}{P:Int→Prop}(h:∀ x∈xs,P x)(e:P a):∀ x∈xs.set j a,P x:=by
 intro x b
 rcases List.mem_or_eq_of_mem_set b with b | rfl
 ·exact h x b
 ·exact e
theorem xc {ds:List Int}(h:eC ds){j:Nat}(u:j<ds.length){fr c st:Int}(Z:1≤c)(F:0≤st)(O:0≤fr)(hl:fr+(c - 1)*st<ix ds (j:Int))(L:c≤ix ds (j:Int))(J:c=1→st=0) :
  VG (ds.set j c) ((eJ ds).set j (ix (eJ ds) (j:Int)*st)) (0+fr*ix (eJ ds) (j:Int)) (pr ds):=by
 have hp:=h.2.pos
 have M:=h.2.2
 obtain ⟨q1,Y⟩:=xb h.2.1 u Z L
 have hm:=h.2.mem (bE u)
 have D:=dH ds
 have E:=fO h.2 _ (bE (xs:=eJ ds) (k:=j) (by omega))
 obtain ⟨s,q⟩:∃ s,s=ix (eJ ds) (j:Int):=⟨_,rfl⟩
 rw [← q] at E ⊢
 have l:∀ x∈eJ ds,0≤x∧x≤4096:=fO h.2
 have G:=jX h.2
 have k0:0≤(c - 1)*st:=Int.mul_nonneg (by omega) F
 have k1:s*(fr+(c - 1)*st)≤s*(ix ds (j:Int) - 1):=Int.mul_le_mul_of_nonneg_left (by omega) E.1
 have k2:s*(fr+(c - 1)*st)=fr*s+s*st*(c - 1):=by rw [Int.mul_add,Int.mul_comm s fr,Int.mul_comm (c - 1) st,Int.mul_assoc]
 have I:0≤s*st:=Int.mul_nonneg E.1 F
 have k4:0≤fr*s:=Int.mul_nonneg O E.1
 have k5:=iO hm.1 E.1
 have k6:=iO Z I
 have z:=nL hw (xs:=ds) (ys:=eJ ds) (a:=c) (b:=s*st) u (by omega)
 rw [← q,k5,k6] at z
 have k7:0≤s*st*(c - 1):=Int.mul_nonneg I (by omega)
 -- what the axis alone may come to
 have a1:s*(ix ds (j:Int) - 1)≤pr ds - 1:=by
  have hz:∀ (xs ys:List Int),(∀ d∈xs,1≤d)→(∀ y∈ys,0≤y)→∀ j:Nat,j<xs.length→j<ys.length→ix ys (j:Int)*(ix xs (j:Int) - 1)≤zs hw xs ys∧0≤zs hw xs ys:=by
   intro xs
   induction xs with
   | nil=>intro ys _ _ j u; simp at u
   | cons x xs ih =>
    intro ys i r j U B
    cases ys with
    | nil=>simp at B
    | cons y ys =>
     have e:=iO (i x (by simp)) (r y (by simp))
     have e0:=Int.mul_nonneg (r y (by simp)) (show 0≤x - 1 by have:=i x (by simp); omega)
     have nn:∀ (xs ys:List Int),(∀ d∈xs,1≤d)→(∀ y∈ys,0≤y)→0≤zs hw xs ys:=by
      intro xs
      induction xs with
      | nil=>intro ys _ _; simp [zs]
      | cons d ds ihh=>intro ss h1 h2; cases ss with
       | nil=>simp [zs]
       | cons s ss =>
        have:=ihh ss (fun x i=>h1 x (by simp [i])) (fun x i=>h2 x (by simp [i]))
        have h3:=iO (h1 d (by simp)) (h2 s (by simp))
        have h4:=Int.mul_nonneg (h2 s (by simp)) (show 0≤d - 1 by have:=h1 d (by simp); omega)
        simp only [zs]; omega
     have n1:=nn xs ys (fun d m=>i d (by simp [m])) (fun d m=>r d (by simp [m]))
     cases j with
     | zero =>
      simp only [zs,e]
      show y*(x - 1)≤_∧_
      omega
     | succ j =>
      rw [dK,dK]
      have:=ih ys (fun d m=>i d (by simp [m])) (fun d m=>r d (by simp [m])) j (by simpa using U) (by simpa using B)
      simp only [zs,e]
      omega
  have:=(hz ds (eJ ds) h.2.1 (fun y r=>(l y r).1) j u (by omega)).1
  rw [G,← q] at this
  exact this
 have a0:s*st≤4096:=by
  by_cases g:c=1
  ·rw [J g]; omega
  ·have:s*st*1≤s*st*(c - 1):=Int.mul_le_mul_of_nonneg_left (by omega) I
   omega
 have T:SZ (ds.set j c):=⟨Y,by omega⟩
 refine ⟨⟨by simpa using h.1,T⟩,by simp [D],⟨hp,M⟩,⟨by omega,by omega⟩,?_,?_,by omega⟩
 ·exact iP (fun x i=>by have:=l x i; omega) (by omega)
 ·rw [pC Y (iP (fun x i=>(l x i).1) I)]; omega
def jd (ds:List Int)(a fr c st:Int):View:=⟨ds.set a.toNat c,(eJ ds).set a.toNat (if c=1 then 0 else ix (eJ ds) a*st),fr*ix (eJ ds) a,pr ds⟩
theorem uR {ds:List Int}{a fr c st:Int}(h:lT ds a fr c st):c≤ix ds a∧0≤(c - 1)*st∧(c - 1)*st≤4096*4096:=by
 obtain ⟨h1,h2,i,q,e,g,j,m,l⟩:=h
 have:=iN (a:=c - 1) (b:=st) (by omega) e
 have k:=Int.mul_le_mul (show c - 1≤4096 by omega) g (by omega) (show (0:Int)≤4096 by omega)
 exact ⟨by omega,by omega,k⟩
theorem nM {ds:List Int}(h:eC ds){a fr c st:Int}(g:lT ds a fr c st):VG (jd ds a fr c st).Dims (jd ds a fr c st).Strides (jd ds a fr c st).Offset (jd ds a fr c st).Base:=by
 obtain ⟨m,r,E⟩:=uR g
 obtain ⟨h1,h2,i,u,D,B,q,s,l⟩:=g
 obtain ⟨j,rfl⟩:=Int.eq_ofNat_of_zero_le h1
 have b:fr+(c - 1)*(if c=1 then 0 else st)<ix ds (j:Int):=by
  split
  ·omega
  ·exact l
 have:=xc h (j:=j) (by omega) (fr:=fr) (c:=c) (st:=if c=1 then 0 else st) i (by split<;>omega) q b m (fun e=>by simp [e])
 have e:ix (eJ ds) (j:Int)*(if c=1 then 0 else st)=if c=1 then 0 else ix (eJ ds) (j:Int)*st:=by split<;>simp
 rw [e,Int.zero_add] at this
 exact this
theorem te {ds:List Int}(h:eC ds)(a:Int):Z27 (bU ds) a=some (decide (0≤a∧a<(ds.length:Int))):=by
 unfold Z27
 rw [ku (iR h)]
 simp only [Option.bind_some,Bool.true_and]
 congr 1
 rw [Bool.eq_iff_iff]
 simp [bU]
 exact fun _=>decide_eq_true_iff
theorem uS {ds:List Int}(h:eC ds){a fr c st:Int}(B:1≤st):Z1a (bU ds) a fr c st=some (if lT ds a fr c st then jd ds a fr c st else dU):=by
 have T:=h.1
 have G:=dH ds
 have b:(bU ds).Dims=ds:=rfl
 unfold Z1a
 rw [te h]
 simp only [Option.bind_some,b]
 by_cases g:(0≤a∧a<(ds.length:Int))∧1≤c∧c≤4096∧st≤4096∧0≤fr
 ·obtain ⟨g1,I,L,r,E⟩:=g
  obtain ⟨j,rfl⟩:=Int.eq_ofNat_of_zero_le g1.1
  have O:j<ds.length:=by omega
  have U:=h.2.mem (bE O)
  have i:=fO h.2 _ (bE (xs:=eJ ds) (k:=j) (by omega))
  have m:(((((!decide (0≤(j:Int)∧(j:Int)<(ds.length:Int))||decide (c<1))||decide (c>4096))||decide (st < -4096))||decide (st>4096))||decide (fr<0))=false:=by simp; omega
  rw [if_pos (fun _=>g1),m,Bool.false_or]
  by_cases g6:fr<ix ds (j:Int)
  ·rw [if_neg (by simp; omega)]
   have k0:0≤(c - 1)*st:=Int.mul_nonneg (by omega) (by omega)
   have k1:=Int.mul_le_mul (show c - 1≤4096 by omega) r (by omega) (show (0:Int)≤4096 by omega)
   have e:aH (fr+aH (aH (c - 1)*st))=fr+(c - 1)*st:=by
    rw [bA (n:=c - 1) (by omega) (by omega),bA (n:=(c - 1)*st) (by omega) (by omega),bA (by omega) (by omega)]
   rw [e,if_pos (fun _=>g1)]
   by_cases g7:fr+(c - 1)*st<ix ds (j:Int)
   ·have F:lT ds (j:Int) fr c st:=⟨g1.1,g1.2,I,L,B,r,E,g6,g7⟩
    have J:=nM h F
    rw [if_neg (by simp; omega),if_pos F]
    unfold Z29
    rw [hR (by rw [b]; omega),hR (by show (eJ ds).length≤_; omega)]
    simp only [Option.bind_some,nm]
    have u:(bU ds).Strides=eJ ds:=rfl
    have M:(bU ds).Offset=0:=rfl
    have s:(bU ds).Base=pr ds:=rfl
    simp only [u,M,s,b]
    rw [if_pos (by omega),if_pos (by omega)]
    have f1:0≤fr*ix (eJ ds) (j:Int):=Int.mul_nonneg E i.1
    have f2:=Int.mul_le_mul (show fr≤4096 by omega) i.2 i.1 (show (0:Int)≤4096 by omega)
    have Z:0≤ix (eJ ds) (j:Int)*st:=Int.mul_nonneg i.1 (by omega)
    have Y:=Int.mul_le_mul i.2 r (by omega) (show (0:Int)≤4096 by omega)
    rw [bA (n:=ix (eJ ds) (j:Int)*st) (by omega) (by omega)]
    have l:∀ x:List Int,x=(jd ds (j:Int) fr c st).Strides→Z1a_J1 (j:Int) fr c ⟨ds,eJ ds,0,pr ds⟩ x=some (jd ds (j:Int) fr c st):=by
     rintro x rfl
     have D:(⟨ds.set (j:Int).toNat c,(jd ds (j:Int) fr c st).Strides,0+fr*ix (eJ ds) (j:Int),pr ds⟩:View)=jd ds (j:Int) fr c st:=by simp [jd]
     simp only [Z1a_J1]
     rw [bA (n:=fr*ix (eJ ds) (j:Int)) (by omega) (by omega),bA (by omega) (by omega),D]
     unfold Z2a
     rw [ku J]
     rfl
    by_cases g8:c=1
    ·rw [if_pos (by simp [g8])]
     exact l _ (by simp [jd,g8])
    ·rw [if_neg (by simp [g8])]
     exact l _ (by simp [jd,g8])
   ·rw [if_pos (by simp; omega),if_neg (fun q=>g7 q.2.2.2.2.2.2.2.2)]
    rfl
  ·rw [if_pos (by simp; omega),if_neg (fun q=>g6 q.2.2.2.2.2.2.2.1)]
   rfl
 ·have m:(((((!decide (0≤a∧a<(ds.length:Int))||decide (c<1))||decide (c>4096))||decide (st < -4096))||decide (st>4096))||decide (fr<0))=true:=by
   simp only [Bool.or_eq_true,Bool.not_eq_true',decide_eq_true_eq,decide_eq_false_iff_not]
   omega
  rw [if_pos (fun q=>by rw [m] at q; cases q),m,if_pos (by simp),if_neg (fun q=>g ⟨⟨q.1,q.2.1⟩,q.2.2.1,q.2.2.2.1,q.2.2.2.2.2.1,q.2.2.2.2.2.2.1⟩)]
  rfl
theorem tf {v:View}{j:Nat}(e:j<v.Dims.length)(b:j<v.Strides.length)(a s:Int):Z0z v (j:Int) a s=some ⟨v.Dims.set j a,v.Strides.set j (if a=1 then 0 else s),v.Offset,v.Base⟩:=by
 unfold Z0z
 by_cases g:a=1
 ·rw [if_pos (by simp [g])]
  simp only [Z0z_J3]
  rw [if_pos (by omega),if_pos (by omega),if_pos g,Int.toNat_natCast]
 ·rw [if_neg (by simp [g])]
  simp only [Z0z_J3]
  rw [if_pos (by omega),if_pos (by omega),if_neg g,Int.toNat_natCast]
theorem uT {ds:List Int}(h:eC ds){a fr c st:Int}(r:1≤st):Z2c (bU ds) a fr c st=some (if lT ds a fr c st then jd ds a fr c st else dU):=by
 have L:=h.1
 have I:=dH ds
 have i:(bU ds).Dims=ds:=rfl
 have l:(bU ds).Strides=eJ ds:=rfl
 have J:(bU ds).Offset=0:=rfl
 have D:(bU ds).Base=pr ds:=rfl
 unfold Z2c Z33
 rw [kv (iR h)]
 simp only [Option.bind_some,Bool.not_true,Bool.false_eq_true,if_false]
 rw [hH (by rw [i]; omega),hH (by rw [l]; omega)]
 simp only [Option.bind_some,i,l,J,D]
 unfold Z1i
 simp only [Zk,Option.bind_some]
 have no:∀ (p:View) (z:Int),((bQ (!(!((false,p,z):Bool×View×Int).1)) (Zg ((false,p,z):Bool×View×Int).2.1)).bind fun r32:Bool=>if ((!((false,p,z):Bool×View×Int).1)||(!r32))=true then some ((⟨[],[],0,0⟩:View),z) else some (p,z))=some (dU,z):=by
  intro p z; simp [bQ,dU]
 by_cases g:(0≤a∧a<(ds.length:Int))∧1≤c∧c≤4096
 ·obtain ⟨g1,E,F⟩:=g
  obtain ⟨j,rfl⟩:=Int.eq_ofNat_of_zero_le g1.1
  have G:j<ds.length:=by omega
  have M:=h.2.mem (bE G)
  have m:=fO h.2 _ (bE (xs:=eJ ds) (k:=j) (by omega))
  rw [if_neg (by simp; omega),if_pos g1]
  by_cases g6:st≤4096∧0≤fr∧fr<ix ds (j:Int)
  ·rw [if_neg (by simp; omega)]
   have Y:0≤(c - 1)*st:=Int.mul_nonneg (by omega) (by omega)
   have k1:=Int.mul_le_mul (show c - 1≤4096 by omega) g6.1 (by omega) (show (0:Int)≤4096 by omega)
   have e:aH (fr+aH (st*aH (c - 1)))=fr+(c - 1)*st:=by
    rw [bA (n:=c - 1) (by omega) (by omega),Int.mul_comm st,bA (n:=(c - 1)*st) (by omega) (by omega),bA (by omega) (by omega)]
   rw [e]
   have u:∀ z:Int,(z=if c=1 then 0 else st)→lT ds (j:Int) fr c st→Z1i_J3 ⟨ds,eJ ds,0,pr ds⟩ (j:Int) c fr z=some (true,jd ds (j:Int) fr c st,z):=by
    intro z B b
    have f1:0≤fr*ix (eJ ds) (j:Int):=Int.mul_nonneg g6.2.1 m.1
    have U:=Int.mul_le_mul (show fr≤4096 by omega) m.2 m.1 (show (0:Int)≤4096 by omega)
    have T:0≤ix (eJ ds) (j:Int)*z:=Int.mul_nonneg m.1 (by rw [B]; split<;>omega)
    have O:=Int.mul_le_mul m.2 (show z≤4096 by rw [B]; split<;>omega) (by rw [B]; split<;>omega) (show (0:Int)≤4096 by omega)
    simp only [Z1i_J3]
    rw [if_pos (by omega),bA (n:=fr*ix (eJ ds) (j:Int)) (by omega) (by omega),bA (n:=0+fr*ix (eJ ds) (j:Int)) (by omega) (by omega),bA (by omega) (by omega),tf (by simpa using G) (by simp; omega)]
    simp only [Option.bind_some,jd,Int.toNat_natCast,Int.zero_add]
    congr 5
    rw [B]; split<;>rfl
   have s:∀ z:Int,lT ds (j:Int) fr c st→((bQ (!(!((true,jd ds (j:Int) fr c st,z):Bool×View×Int).1)) (Zg ((true,jd ds (j:Int) fr c st,z):Bool×View×Int).2.1)).bind fun r32:Bool=>if ((!((true,jd ds (j:Int) fr c st,z):Bool×View×Int).1)||(!r32))=true then some ((⟨[],[],0,0⟩:View),z) else some (jd ds (j:Int) fr c st,z))=some (jd ds (j:Int) fr c st,z):=by
    intro z b
    simp only [bQ,Bool.not_true,Bool.not_false,cond_true,Bool.false_or]
    rw [kv (nM h b)]
    rfl
   by_cases g8:c=1
   ·have b:lT ds (j:Int) fr c st:=⟨g1.1,g1.2,E,F,r,g6.1,g6.2.1,g6.2.2,by rw [g8]; omega⟩
    rw [if_neg (by simp; omega),u 0 (by simp [g8]) b]
    simp only [Option.bind_some]
    rw [s 0 b,if_pos b]
    rfl
   ·rw [if_pos (by simp; omega)]
    by_cases g7:fr+(c - 1)*st<ix ds (j:Int)
    ·have b:lT ds (j:Int) fr c st:=⟨g1.1,g1.2,E,F,r,g6.1,g6.2.1,g6.2.2,g7⟩
     rw [if_neg (by simp; omega),u st (by simp [g8]) b]
     simp only [Option.bind_some]
     rw [s st b,if_pos b]
     rfl
    ·rw [if_pos (by simp; omega),if_neg (fun q=>g7 q.2.2.2.2.2.2.2.2)]
     simp only [Option.bind_some]
     rw [no]
     rfl
  ·rw [if_pos (by simp; omega),if_neg (fun q=>g6 ⟨q.2.2.2.2.2.1,q.2.2.2.2.2.2.1,q.2.2.2.2.2.2.2.1⟩)]
   simp only [Option.bind_some]
   rw [no]
   rfl
 ·rw [if_pos (by simp; omega),if_neg (fun q=>g ⟨⟨q.1,q.2.1⟩,q.2.2.1,q.2.2.2.1⟩)]
  simp only [Option.bind_some]
  rw [no]
  rfl
def iY (ds:List Int)(a sz st:Int):Int:=(ix ds a - sz) / st+1
def fK (ds:List Int)(a sz st:Int):View:=⟨ds.set a.toNat (iY ds a sz st)++[sz],(eJ ds).set a.toNat (if iY ds a sz st=1 then 0 else ix (eJ ds) a*st)++[if sz=1 then 0 else ix (eJ ds) a],0,pr ds⟩
def lU (ds:List Int)(a sz st:Int):Prop:=0≤a∧a<(ds.length:Int)∧1≤sz∧1≤st∧sz≤ix ds a
instance (ds:List Int)(a sz st:Int):Decidable (lU ds a sz st):=by unfold lU; infer_instance
theorem zV {xs ys:List Int}(b:∀ d∈xs,1≤d)(a:∀ y∈ys,0≤y):0≤zs hw xs ys:=by
 induction xs generalizing ys with
 | nil=>simp [zs]
 | cons d ds ih=>cases ys with
  | nil=>simp [zs]
  | cons s ss =>
   have:=ih (ys:=ss) (fun x h=>b x (by simp [h])) (fun x h=>a x (by simp [h]))
   have e:=iO (b d (by simp)) (a s (by simp))
   have g:=Int.mul_nonneg (a s (by simp)) (show 0≤d - 1 by have:=b d (by simp); omega)
   simp only [zs]; omega
theorem uU {ds:List Int}(h:eC ds){j:Nat}(g:j<ds.length):ix (eJ ds) (j:Int)*(ix ds (j:Int) - 1)≤pr ds - 1:=by
 have i:=dH ds
 have q:=h.2.mem (bE g)
 have l:=fO h.2 _ (bE (xs:=eJ ds) (k:=j) (by omega))
 have z:=nL hw (xs:=ds) (ys:=eJ ds) (a:=ix ds (j:Int)) (b:=0) g (by omega)
 have e:ds.set j (ix ds (j:Int))=ds:=by rw [bR g]; simp
 rw [e,Bu,iO q.1 l.1,jX h.2] at z
 have:=zV (xs:=ds) (ys:=(eJ ds).set j 0) h.2.1 (iP (fun x m=>(fO h.2 x m).1) (by omega))
 omega
theorem nN {ds:List Int}{a sz st:Int}(h:lU ds a sz st):1≤iY ds a sz st∧iY ds a sz st≤ix ds a∧(iY ds a sz st - 1)*st≤ix ds a - sz:=by
 obtain ⟨h1,h2,b,j,e⟩:=h
 unfold iY
 have g:0≤(ix ds a - sz) / st:=Int.ediv_nonneg (by omega) (by omega)
 have i:(ix ds a - sz) / st≤ix ds a - sz:=Int.ediv_le_self _ (by omega)
 have a3:=Int.ediv_mul_le (ix ds a - sz) (show st≠0 by omega)
 refine ⟨by omega,by omega,?_⟩
 rw [show (ix ds a - sz) / st+1 - 1=(ix ds a - sz) / st by omega]
 exact a3
theorem pD {ds:List Int}(h:eC ds){a sz st:Int}(u:lU ds a sz st)(G:eC (fK ds a sz st).Dims):VG (fK ds a sz st).Dims (fK ds a sz st).Strides (fK ds a sz st).Offset (fK ds a sz st).Base:=by
 obtain ⟨T,n2,U⟩:=nN u
 obtain ⟨h1,h2,h3,h4,h5⟩:=u
 obtain ⟨j,rfl⟩:=Int.eq_ofNat_of_zero_le h1
 have J:j<ds.length:=by omega
 have l:=dH ds
 have Y:=h.2.mem (bE J)
 have B:=fO h.2 _ (bE (xs:=eJ ds) (k:=j) (by omega))
 have ax:=uU h J
 have hp:=h.2.pos
 have I:=h.2.2
 have D:=jX h.2
 obtain ⟨n,L⟩:∃ n,n=iY ds (j:Int) sz st:=⟨_,rfl⟩
 obtain ⟨s,q⟩:∃ s,s=ix (eJ ds) (j:Int):=⟨_,rfl⟩
 have O:(fK ds (j:Int) sz st).Dims=ds.set j n++[sz]:=by rw [L]; simp [fK]
 have Z:(fK ds (j:Int) sz st).Strides=(eJ ds).set j (if n=1 then 0 else s*st)++[if sz=1 then 0 else s]:=by rw [L,q]; simp [fK]
 rw [← L] at T n2 U
 rw [← q] at B ax
 rw [O] at G
 have k0:0≤(n - 1)*st:=Int.mul_nonneg (by omega) (by omega)
 have M:0≤s*st:=Int.mul_nonneg B.1 (by omega)
 have k4:s*((n - 1)*st)=s*st*(n - 1):=by rw [Int.mul_comm (n - 1) st,Int.mul_assoc]
 have k5:s*((n - 1)*st+(sz - 1))≤s*(ix ds (j:Int) - 1):=Int.mul_le_mul_of_nonneg_left (by omega) B.1
 rw [Int.mul_add,k4] at k5
 have k6:0≤s*(sz - 1):=Int.mul_nonneg B.1 (by omega)
 have k7:0≤s*st*(n - 1):=Int.mul_nonneg M (by omega)
 obtain ⟨i,m⟩:∃ i,i=if n=1 then 0 else s*st:=⟨_,rfl⟩
 obtain ⟨g,r⟩:∃ g,g=if sz=1 then 0 else s:=⟨_,rfl⟩
 have E:0≤i∧i≤4096∧i*(n - 1)=s*st*(n - 1):=by
  by_cases c:n=1
  ·rw [m,if_pos c,c]; simp
  ·rw [m,if_neg c]
   have:s*st*1≤s*st*(n - 1):=Int.mul_le_mul_of_nonneg_left (by omega) M
   omega
 have F:0≤g∧g≤4096∧g*(sz - 1)=s*(sz - 1):=by
  by_cases c:sz=1
  ·rw [r,if_pos c,c]; simp
  ·rw [r,if_neg c]; omega
 have z:=nL hw (xs:=ds) (ys:=eJ ds) (a:=n) (b:=i) J (by omega)
 rw [← q,iO Y.1 B.1,iO T E.1,D,E.2.2] at z
 have z2:zs hw (ds.set j n++[sz]) ((eJ ds).set j i++[g])=zs hw (ds.set j n) ((eJ ds).set j i)+s*(sz - 1):=by
  rw [t7 _ (by simp [l])]
  have:zs hw [sz] [g]=hw sz g:=by simp [zs]
  rw [this,iO h3 F.1,F.2.2]
 have nn:∀ x∈(eJ ds).set j i++[g],0≤x∧x≤4096:=by
  intro x e
  rcases List.mem_append.1 e with e | e
  ·exact iP (fun x e=>fO h.2 x e) ⟨E.1,E.2.1⟩ x e
  ·have:x=g:=by simpa using e
   subst this; exact ⟨F.1,F.2.1⟩
 rw [O,Z,← m,← r]
 refine ⟨G,by simp [l],⟨hp,I⟩,⟨Int.le_refl 0,by show 0<pr ds; omega⟩,fun x e=>by have:=nn x e; omega,?_,?_⟩
 ·rw [pC G.2.1 fun x e=>(nn x e).1]; show (0:Int)≤0+0; decide
 ·show 0+_<pr ds
  omega
theorem rn {ds:List Int}(h:eC ds){a sz st:Int}:Z0e (bU ds) a sz st=some (if lU ds a sz st∧eC (fK ds a sz st).Dims then fK ds a sz st else dU):=by
 have hn:=h.1
 have E:=dH ds
 have i:(bU ds).Dims=ds:=rfl
 have b:(bU ds).Strides=eJ ds:=rfl
 have M:(bU ds).Offset=0:=rfl
 have r:(bU ds).Base=pr ds:=rfl
 unfold Z0e
 rw [te h]
 simp only [Option.bind_some,i,b]
 by_cases g:(0≤a∧a<(ds.length:Int))∧1≤sz∧1≤st
 ·obtain ⟨g1,F,G⟩:=g
  have l:((!decide (0≤a∧a<(ds.length:Int))||decide (sz<1))||decide (st<1))=false:=by simp; omega
  rw [if_pos (fun _=>g1),l,Bool.false_or]
  by_cases g6:sz≤ix ds a
  ·have s:lU ds a sz st:=⟨g1.1,g1.2,F,G,g6⟩
   obtain ⟨T,L,U⟩:=nN s
   obtain ⟨j,rfl⟩:=Int.eq_ofNat_of_zero_le g1.1
   have I:j<ds.length:=by omega
   have Y:=h.2.mem (bE I)
   have B:=fO h.2 _ (bE (xs:=eJ ds) (k:=j) (by omega))
   rw [if_neg (by simp; omega)]
   unfold Z29
   rw [hR (by rw [i]; omega),hR (by rw [b]; omega)]
   simp only [Option.bind_some,nm,i,b,M,r]
   have e:aH (aH ((aH (ix ds (j:Int) - sz)).tdiv st)+1)=iY ds (j:Int) sz st:=by
    rw [bA (n:=ix ds (j:Int) - sz) (by omega) (by omega),Int.tdiv_eq_ediv_of_nonneg (by omega)]
    unfold iY at T L ⊢
    rw [bA (n:=(ix ds (j:Int) - sz) / st) (by omega) (by omega),bA (by omega) (by omega)]
   simp only [e]
   rw [if_pos (by omega),if_pos (by omega),if_pos (by omega),if_pos (by omega),if_pos (by omega)]
   have u:∀ x:List Int,x++[if sz=1 then 0 else ix (eJ ds) (j:Int)]=(fK ds (j:Int) sz st).Strides→x.length=ds.length→Z0e_J1 (bU ds) (j:Int) sz ⟨ds,eJ ds,0,pr ds⟩ (ds.set (j:Int).toNat (iY ds (j:Int) sz st)) x=some (if lU ds (j:Int) sz st∧eC (fK ds (j:Int) sz st).Dims then fK ds (j:Int) sz st else dU):=by
    intro x J O
    have D:∀ y,y=(if sz=1 then 0 else ix (eJ ds) (j:Int))→Z0e_J2 sz ⟨ds,eJ ds,0,pr ds⟩ (ds.set (j:Int).toNat (iY ds (j:Int) sz st)) x y=some (if lU ds (j:Int) sz st∧eC (fK ds (j:Int) sz st).Dims then fK ds (j:Int) sz st else dU):=by
     rintro y rfl
     simp only [Z0e_J2]
     rw [if_pos (by simp; omega),J]
     have m:(⟨ds.set (j:Int).toNat (iY ds (j:Int) sz st)++[sz],(fK ds (j:Int) sz st).Strides,0,pr ds⟩:View)=fK ds (j:Int) sz st:=rfl
     rw [m]
     unfold Z2a
     by_cases q:eC (fK ds (j:Int) sz st).Dims
     ·rw [ku (pD h s q),if_pos ⟨s,q⟩]
      rfl
     ·rw [tb (by simp [fK,cB]; omega) q,if_neg (fun z=>q z.2)]
      rfl
    simp only [Z0e_J1]
    rw [if_pos (by simp; omega)]
    by_cases q:sz=1
    ·rw [if_pos (by simp [q])]; exact D _ (by simp [q])
    ·rw [if_neg (by simp [q])]; exact D _ (by simp [q,b])
   by_cases q:iY ds (j:Int) sz st=1
   ·rw [if_neg (by simp; omega)]
    exact u _ (by simp [fK,q]) (by simp; omega)
   ·have k:(iY ds (j:Int) sz st - 1)*st≤4096:=by omega
    have k2:1*st≤(iY ds (j:Int) sz st - 1)*st:=Int.mul_le_mul_of_nonneg_right (by omega) (by omega)
    have f3:0≤ix (eJ ds) (j:Int)*st:=Int.mul_nonneg B.1 (by omega)
    have Z:=Int.mul_le_mul B.2 (show st≤4096 by omega) (by omega) (show (0:Int)≤4096 by omega)
    rw [if_pos (by simp; omega),bA (n:=ix (eJ ds) (j:Int)*st) (by omega) (by omega),List.set_set]
    exact u _ (by simp [fK,q]) (by simp; omega)
  ·rw [if_pos (by simp; omega),if_neg (fun q=>g6 q.1.2.2.2.2)]
   rfl
 ·have l:((!decide (0≤a∧a<(ds.length:Int))||decide (sz<1))||decide (st<1))=true:=by
   simp only [Bool.or_eq_true,Bool.not_eq_true',decide_eq_true_eq,decide_eq_false_iff_not]
   omega
  rw [if_pos (fun q=>by rw [l] at q; cases q),l,if_pos (by simp),if_neg (fun q=>g ⟨⟨q.1.1,q.1.2.1⟩,q.1.2.2.1,q.1.2.2.2.1⟩)]
  rfl
theorem zW {v:View}(i:v.Dims.length≤6)(b:v.Strides.length=v.Dims.length)(a s:Int):Z2l v a s=some ⟨v.Dims++[a],v.Strides++[if a=1 then 0 else s],v.Offset,v.Base⟩:=by
 unfold Z2l
 rw [if_pos (by simp; omega),if_pos (by simp; omega)]
 have e:aH (((v.Dims++[(0:Int)]).length:Int) - 1)=(v.Dims.length:Int):=by
  have:((v.Dims++[(0:Int)]).length:Int)=v.Dims.length+1:=by simp
  rw [this,bA (by omega) (by omega)]; omega
 rw [e,tf (by simp) (by simp; omega)]
 simp only [Option.bind_some]
 have g:(v.Dims++[0]).set v.Dims.length a=v.Dims++[a]:=by rw [List.set_append_right _ _ (Nat.le_refl _)]; simp
 have h:∀ x:Int,(v.Strides++[0]).set v.Dims.length x=v.Strides++[x]:=by intro x; rw [← b,List.set_append_right _ _ (Nat.le_refl _)]; simp
 rw [g,h]
theorem rp {ds:List Int}(h:eC ds){a sz st:Int}:Z2e (bU ds) a sz st=some (if lU ds a sz st∧eC (fK ds a sz st).Dims then fK ds a sz st else dU):=by
 have hn:=h.1
 have I:=dH ds
 have i:(bU ds).Dims=ds:=rfl
 have l:(bU ds).Strides=eJ ds:=rfl
 have T:(bU ds).Offset=0:=rfl
 have r:(bU ds).Base=pr ds:=rfl
 unfold Z2e Z35
 rw [kv (iR h)]
 simp only [Option.bind_some,Bool.not_true,Bool.false_eq_true,if_false]
 rw [hH (by rw [i]; omega),hH (by rw [l]; omega)]
 simp only [Option.bind_some,i,l,T,r]
 unfold Z1j
 simp only [Zk,Option.bind_some]
 by_cases g:(0≤a∧a<(ds.length:Int))∧1≤sz∧1≤st
 ·obtain ⟨g1,M,O⟩:=g
  rw [if_pos (fun _=>g1)]
  by_cases g6:sz≤ix ds a
  ·have B:lU ds a sz st:=⟨g1.1,g1.2,M,O,g6⟩
   obtain ⟨L,J,Y⟩:=nN B
   obtain ⟨j,rfl⟩:=Int.eq_ofNat_of_zero_le g1.1
   have F:j<ds.length:=by omega
   have hm:=h.2.mem (bE F)
   have G:=fO h.2 _ (bE (xs:=eJ ds) (k:=j) (by omega))
   rw [if_neg (by simp; omega),if_pos (by omega),if_pos g1,if_pos (by omega)]
   have e:aH (aH ((aH (ix ds (j:Int) - sz)).tdiv st)+1)=iY ds (j:Int) sz st:=by
    rw [bA (n:=ix ds (j:Int) - sz) (by omega) (by omega),Int.tdiv_eq_ediv_of_nonneg (by omega)]
    unfold iY at L J ⊢
    rw [bA (n:=(ix ds (j:Int) - sz) / st) (by omega) (by omega),bA (by omega) (by omega)]
   have E:∀ z:Int,(z=if iY ds (j:Int) sz st=1 then 0 else st)→Z1j_J3 ⟨ds,eJ ds,0,pr ds⟩ (j:Int) sz st z=some (true,fK ds (j:Int) sz st,z):=by
    intro z s
    have b:0≤z∧z≤4096:=by
     by_cases q:iY ds (j:Int) sz st=1
     ·rw [s,if_pos q]; omega
     ·have Z:1*st≤(iY ds (j:Int) sz st - 1)*st:=Int.mul_le_mul_of_nonneg_right (by omega) (by omega)
      rw [s,if_neg q]; omega
    have f3:0≤ix (eJ ds) (j:Int)*z:=Int.mul_nonneg G.1 b.1
    have U:=Int.mul_le_mul G.2 b.2 b.1 (show (0:Int)≤4096 by omega)
    simp only [Z1j_J3,e]
    rw [bA (by omega) (by omega),tf (by simpa using F) (by simp; omega)]
    simp only [Option.bind_some]
    rw [zW (by simp; omega) (by simp; omega)]
    simp only [Option.bind_some,fK,Int.toNat_natCast]
    congr 6
    rw [s]; split<;>rfl
   have m:∀ z:Int,(bQ (!(!((true,fK ds (j:Int) sz st,z):Bool×View×Int).1)) (Zg ((true,fK ds (j:Int) sz st,z):Bool×View×Int).2.1)).bind (fun u:Bool=>if ((!((true,fK ds (j:Int) sz st,z):Bool×View×Int).1)||(!u))=true then some ((⟨[],[],0,0⟩:View),z) else some (fK ds (j:Int) sz st,z))=some ((if lU ds (j:Int) sz st∧eC (fK ds (j:Int) sz st).Dims then fK ds (j:Int) sz st else dU),z):=by
    intro z
    simp only [bQ,Bool.not_true,Bool.not_false,cond_true,Bool.false_or]
    by_cases q:eC (fK ds (j:Int) sz st).Dims
    ·rw [kv (pD h B q),if_pos ⟨B,q⟩]
     rfl
    ·rw [tc (by simp [fK,cB]; omega) q,if_neg (fun z=>q z.2)]
     rfl
   rw [e]
   by_cases q:iY ds (j:Int) sz st=1
   ·rw [if_pos (by simp [q]),E 0 (by simp [q])]
    simp only [Option.bind_some]
    rw [m]
    rfl
   ·rw [if_neg (by simp [q]),E st (by simp [q])]
    simp only [Option.bind_some]
    rw [m]
    rfl
  ·rw [if_pos (by simp; omega),if_neg (fun q=>g6 q.1.2.2.2.2)]
   simp [bQ,dU]
 ·have D:(((!(decide (a≥0)&&decide (a<(ds.length:Int))))||decide (sz<1))||decide (st<1))=true:=by
   simp only [Bool.or_eq_true,Bool.not_eq_true',decide_eq_true_eq,Bool.and_eq_false_iff,decide_eq_false_iff_not]
   omega
  rw [if_pos (fun q=>by rw [D] at q; cases q),D,if_pos (by simp),if_neg (fun q=>g ⟨⟨q.1.1,q.1.2.1⟩,q.1.2.2.1,q.1.2.2.2.1⟩)]
  simp [bQ,dU]
def NR (x:Int):Prop:=0≤x∧x<2147483647
instance (x:Int):Decidable (NR x):=by unfold NR; infer_instance
def RG (n:Nat)(x:List Int):Prop:=x.length=n∧∀ y∈x,NR y
theorem RG.set {n:Nat}{x:List Int}(h:RG n x){y:Int}(a:NR y)(k:Nat):RG n (x.set k y):=⟨by simp [h.1],iP h.2 a⟩
theorem RG.rep (n:Nat):RG n (List.replicate n 0):=⟨by simp,fun y a=>by rw [(List.mem_replicate.1 a).2]; decide⟩
theorem RG.ix {n:Nat}{x:List Int}(h:RG n x){i:Int}(a:0≤i)(h1:i<(n:Int)):NR (ix x i):=by
 obtain ⟨k,rfl⟩:=Int.eq_ofNat_of_zero_le a
 exact h.2 _ (bE (by have:=h.1; omega))
theorem kR {R:Type}{f:List Int×Int→Option ((List Int×Int)⊕R)}{Post:R→Prop}(m n:Nat)(l:∀ j:Nat,j<n→∀ x,RG m x→∃ x',f (x,(j:Int))=some (.inl (x',((j+1:Nat):Int)))∧RG m x')(e:∀ x,RG m x→∃ r,f (x,(n:Int))=some (.inr r)∧Post r){x:List Int}(h:RG m x):∃ r,aR f (x,0)=some r∧Post r :=
 fX (f:=f) (fun j s=>s.2=(j:Int)∧RG m s.1) n (fun j s g b=>by
  obtain ⟨x,i⟩:=s
  obtain ⟨rfl,a⟩:=b
  obtain ⟨x',h1,h2⟩:=l j g x a
  exact ⟨_,h1,rfl,h2⟩) (fun s b=>by
  obtain ⟨x,i⟩:=s
  obtain ⟨rfl,a⟩:=b
  exact e x a) (s:=(x,0)) ⟨rfl,h⟩
theorem jM (p:Int):∃ m,Zo p=some m∧NR m:=by
 have h1:=Int.tmod_lt_of_pos p (show (0:Int)<2147483647 by omega)
 have h2 : -2147483647<p.tmod 2147483647:=by
  rcases Int.le_total 0 p with h | h
  ·have:=Int.tmod_nonneg 2147483647 h; omega
  ·have e:p.tmod 2147483647 = -((-p).tmod 2147483647):=by rw [Int.neg_tmod]; omega
   have:=Int.tmod_lt_of_pos (-p) (show (0:Int)<2147483647 by omega)
   omega
 unfold Zo
 by_cases c:p.tmod 2147483647<0
 ·rw [if_pos (by simpa using c)]
  exact ⟨_,rfl,by rw [bA (by omega) (by omega)]; constructor<;>omega⟩
 ·rw [if_neg (by simpa using c)]
  exact ⟨_,rfl,by constructor<;>omega⟩
theorem jY (p:Int):∃ m,Z1e p=some m:=by
 obtain ⟨m,h,_⟩:=jM p
 unfold Z1e
 rw [h]
 simp only [Option.bind_some]
 split<;>exact ⟨_,rfl⟩
theorem nO (a b:Int):∃ m,Z1m a b=some m∧NR m:=by
 obtain ⟨x,h1,_⟩:=jM a
 obtain ⟨y,h2,_⟩:=jM b
 obtain ⟨z,e,g⟩:=jM (aH (x+y))
 exact ⟨z,by unfold Z1m; simp [h1,h2,e],g⟩
theorem qG (a b:Int):∃ m,Z26 a b=some m∧NR m:=by
 obtain ⟨x,h1,_⟩:=jM a
 obtain ⟨y,h2,_⟩:=jM b
 obtain ⟨z,e,g⟩:=jM (aH (x - y))
 exact ⟨z,by unfold Z26; simp [h1,h2,e],g⟩
theorem ma (a b:Int):∃ m,Z1f a b=some m∧NR m:=by
 obtain ⟨x,h1,_⟩:=jM a
 obtain ⟨y,h2,_⟩:=jM b
 obtain ⟨z,e,g⟩:=jM (aH (x*y))
 exact ⟨z,by unfold Z1f; simp [h1,h2,e],g⟩
theorem uV (a:Int):∀ (f:Nat) (n:Int),0≤n→n<2 ^ f→n≤1099511627776→∃ m,Zq_R (f+1) a n=some m∧NR m:=by
 intro f
 induction f with
 | zero =>
  intro n b h1 _
  have:n=0:=by simp at h1; omega
  subst this
  exact ⟨1,rfl,by decide⟩
 | succ f ih =>
  intro n b h1 q
  show ∃ m,Zq_S (Zq_R (f+1)) a n=some m∧NR m
  unfold Zq_S
  by_cases c:n=0
  ·rw [if_pos (by simp [c])]; exact ⟨1,rfl,by decide⟩
  ·rw [if_neg (by simp [c])]
   have e:n.tdiv 2=n / 2:=Int.tdiv_eq_ediv_of_nonneg b
   have h2:n / 2<2 ^ f:=by rw [Int.pow_succ] at h1; omega
   rw [e,bA (by omega) (by omega)]
   obtain ⟨x,g1,l⟩:=ih (n / 2) (by omega) h2 (by omega)
   obtain ⟨y,j,g⟩:=ma x x
   obtain ⟨z,h,i⟩:=ma y a
   rw [g1]
   simp only [Option.bind_some,j]
   split
   ·simp only [h,Option.bind_some]; exact ⟨z,rfl,i⟩
   ·exact ⟨y,rfl,g⟩
theorem rq (a:Int):∃ m,Z25 a=some m∧NR m:=by
 obtain ⟨x,h1,_⟩:=jM a
 unfold Z25 Zq
 rw [h1]
 simp only [Option.bind_some]
 obtain ⟨y,h2,b⟩:=uV x 31 2147483645 (by omega) (by decide) (by omega)
 have mono:∀ f g:Nat,∀ n m,f≤g→Zq_R f x n=some m→Zq_R g x n=some m:=by
  intro f
  induction f with
  | zero=>intro g n m _ h; cases h
  | succ f ih =>
   intro g n m i h
   obtain ⟨g,rfl⟩:∃ k,g=k+1:=⟨g - 1,by omega⟩
   change Zq_S (Zq_R f) x n=some m at h
   show Zq_S (Zq_R g) x n=some m
   unfold Zq_S at h ⊢
   split
   ·rename_i c; rw [if_pos c] at h; exact h
   ·rename_i c
    rw [if_neg c] at h
    cases e:Zq_R f x (aH (n.tdiv 2)) with
    | none=>rw [e] at h; cases h
    | some r=>rw [e] at h; rw [ih g _ r (by omega) e]; exact h
 rw [mono 32 jv _ y (by decide) h2]
 exact ⟨y,rfl,b⟩
theorem xd {op x:Int}(a:NR x):∃ m,Z2x op x=some m∧NR m:=by
 unfold Z2x
 split
 ·obtain ⟨m,h1,h2⟩:=qG 0 x; rw [h1]; exact ⟨m,rfl,h2⟩
 ·split
  ·obtain ⟨m,h1,h2⟩:=rq x; rw [h1]; exact ⟨m,rfl,h2⟩
  ·obtain ⟨m,h1⟩:=jY x
   rw [h1]
   simp only [Option.bind_some]
   split
   ·exact ⟨0,rfl,by decide⟩
   ·split
    ·exact ⟨1,rfl,by decide⟩
    ·exact ⟨x,rfl,a⟩
theorem xe {op x y:Int}(h1:1≤op)(h2:op≤3):∃ m,Z1n op x y=some m∧NR m:=by
 obtain ⟨a,e⟩:=jY x
 obtain ⟨b,g⟩:=jY y
 unfold Z1n
 rw [e,g]
 simp only [Option.bind_some]
 split
 ·obtain ⟨m,h1,h2⟩:=nO x y; rw [h1]; exact ⟨m,rfl,h2⟩
 ·split
  ·obtain ⟨m,h1,h2⟩:=qG x y; rw [h1]; exact ⟨m,rfl,h2⟩
  ·split
   ·obtain ⟨m,h1,h2⟩:=ma x y; rw [h1]; exact ⟨m,rfl,h2⟩
   ·rename_i j i h
    simp only [beq_iff_eq] at j i h
    omega
theorem hD {ds:List Int}{x:List Int}(h:eC ds)(a:RG (pr ds).toNat x):TOk ds x:=⟨h,by have:=a.1; have:=h.2.pos; omega,fun y b=>a.2 y b⟩
theorem oR {ds:List Int}{x:List Int}(h:TOk ds x):RG (pr ds).toNat x:=⟨by have:=h.l; omega,fun y a=>h.x y a⟩
theorem kw {ds x:List Int}(h:TOk ds x):x.length≤4096∧ds.length≤6:=⟨by have:=h.l; have:=h.d.2.2; omega,h.d.1⟩
def TT (t:Tensor):Prop:=TOk t.Dims t.Data
theorem pE {t:Tensor}(h:TT t):Zp t=some true:=by
 have:=kw h
 rw [sT (by unfold cB; omega) (by unfold cB; omega),decide_eq_true (show TOk t.Dims t.Data from h)]
theorem zX {op:Int}{t:Tensor}(h:TT t)(h1:1≤op)(h2:op≤4):∃ d,Z12 op t=some ⟨t.Dims,d⟩∧TOk t.Dims d:=by
 have q:=kw h
 unfold Z12
 rw [pE h]
 simp only [Option.bind_some]
 rw [if_neg (by simp; omega),kO h.d]
 simp only [Option.bind_some]
 have u:(pr t.Dims).toNat=t.Data.length:=(oR h).1.symm
 obtain ⟨r,b,g⟩:=kR (f:=fun s:List Int×Int=>Z12_L1 op t ⟨t.Dims,List.replicate (pr t.Dims).toNat 0⟩ s.1 s.2) (Post:=fun r=>RG (pr t.Dims).toNat r) (pr t.Dims).toNat t.Data.length
  (fun j l x a=>by
   obtain ⟨m,g1,e⟩:=xd (op:=op) ((oR h).ix (i:=(j:Int)) (by omega) (by omega))
   simp only [Z12_L1]
   rw [if_pos (by simp; omega),if_pos (by omega),g1]
   simp only [Option.bind_some]
   rw [if_pos (by simp; omega),bX (by unfold cB; omega)]
   exact ⟨_,rfl,a.set e _⟩)
  (fun x a=>by simp only [Z12_L1]; rw [if_neg (by simp)]; exact ⟨x,rfl,a⟩) (RG.rep _)
 rw [b]
 exact ⟨r,rfl,hD h.d g⟩
theorem uW {ds:List Int}(h:eC ds):Z00 ds ds=some ds:=by
 have u:=h.1
 unfold Z00
 rw [f' (by unfold cB; omega)]
 simp only [h,decide_true,Option.bind_some,bQ,Bool.not_true,Bool.not_false,cond_true,Bool.or_self,Bool.false_eq_true,if_false]
 rw [if_neg (by simp)]
 unfold Z00_J1
 rw [if_pos (by omega)]
 have:=eT (f:=fun s:List Int×Int=>Z00_L1 ds ds (ds.length:Int) s.1 s.2) (r:=.inr ds) (fun j=>(List.replicate (ds.length - j) 0++ds.drop (ds.length - j),(j:Int))) ds.length
  (fun j q=>by
   obtain ⟨i,l⟩:∃ i,i=ds.length - (j+1):=⟨_,rfl⟩
   have m:ds.length - j=i+1:=by omega
   have a:i<ds.length:=by omega
   have b:aH (aH ((ds.length:Int) - 1) - (j:Int))=(i:Int):=by rw [bA (n:=(ds.length:Int) - 1) (by omega) (by omega),bA (by omega) (by omega)]; omega
   have g:Z28 ds (j:Int)=some (ix ds (i:Int)):=by
    unfold Z28
    rw [if_neg (by simp; omega),b,if_pos (by omega)]
   simp only [Z00_L1]
   rw [if_pos (by simp; omega),g]
   simp only [Option.bind_some]
   rw [if_neg (by simp),if_neg (by simp)]
   simp only [Z00_J3,b]
   rw [if_pos (by simp; omega),bX (by unfold cB; omega),m,← l,Int.toNat_natCast]
   congr 3
   have e:ds.drop i=ix ds (i:Int)::ds.drop (i+1):=by rw [List.drop_eq_getElem_cons a,bR a]
   rw [e,List.replicate_succ',List.set_append_left _ _ (by simp),List.set_append_right _ _ (by simp)]
   simp)
  (by simp only [Z00_L1,Nat.sub_self,List.replicate_zero,List.drop_zero,List.nil_append]; rw [if_neg (by simp)])
  (s:=(List.replicate (ds.length:Int).toNat 0,0)) (by simp)
 rw [this]
 simp only [Option.bind_some,Z00_J4]
 rw [f' (by unfold cB; omega)]
 simp [h]
theorem ni {t:Tensor}{is:List Int}(h:TT t)(a:IV t.Dims is):∃ x,Z09 t is=some x:=by
 have m:=kw h
 have b:=a.len
 unfold Z09
 have:=eT (f:=fun s:List Int×Int=>Z09_L1 t is s.1 s.2) (r:=is) (fun j=>(is.take j,(j:Int))) t.Dims.length
  (fun j i=>by
   have l:=a.mem (j:=j) (by omega)
   have e:aH (aH ((is.length:Int) - (t.Dims.length:Int))+(j:Int))=(j:Int):=by rw [bA (n:=(is.length:Int) - (t.Dims.length:Int)) (by omega) (by omega),bA (by omega) (by omega)]; omega
   simp only [Z09_L1,Z09_J2,e]
   rw [if_pos (by simp; omega),if_pos (by omega),if_pos (by omega),bX (by unfold cB; omega)]
   have tk:is.take (j+1)=is.take j++[ix is (j:Int)]:=by rw [List.take_succ_eq_append_getElem (by omega),bR (by omega)]
   by_cases c:ix t.Dims (j:Int)=1
   ·rw [if_pos (by simp [c]),if_pos (by simp; omega),tk,show ix is (j:Int)=0 by omega]
   ·rw [if_neg (by simp [c]),if_pos (by simp; omega),tk])
  (by simp only [Z09_L1]; rw [if_neg (by simp),List.take_of_length_le (by omega)])
  (s:=([],0)) rfl
 rw [this]
 simp only [Option.bind_some,Z09_J3]
 obtain ⟨x,g,_⟩:=nd h a
 rw [g]
 exact ⟨x,rfl⟩
theorem zY {op:Int}{t u:Tensor}(e:TT t)(i:TT u)(h:t.Dims=u.Dims)(h1:1≤op)(h2:op≤3):∃ d,Z13 op t u=some ⟨t.Dims,d⟩∧TOk t.Dims d:=by
 have G:=kw e
 have J:=e.d.2.2
 unfold Z13
 rw [pE e,pE i]
 simp only [Option.bind_some,bQ,Bool.not_true,Bool.not_false,cond_true]
 rw [if_neg (by simp; omega),← h,uW e.d]
 simp only [Option.bind_some]
 rw [if_neg (by simp),kO e.d]
 simp only [Option.bind_some]
 obtain ⟨r,E,F⟩:=kR (f:=fun s:List Int×Int=>Z13_L1 op t u t.Dims ⟨t.Dims,List.replicate (pr t.Dims).toNat 0⟩ s.1 s.2) (Post:=fun r=>RG (pr t.Dims).toNat r) (pr t.Dims).toNat (pr t.Dims).toNat
  (fun j I x g=>by
   have l:=gZ e.d.2.1 (j:Int)
   obtain ⟨a,q⟩:=ni e l
   obtain ⟨b,D⟩:=ni i (by rw [← h]; exact l)
   obtain ⟨m,g1,B⟩:=xe (op:=op) (x:=a) (y:=b) h1 h2
   simp only [Z13_L1]
   rw [if_pos (by simp; omega),jB e.d (by omega) (by omega)]
   simp only [Option.bind_some,q,D,g1]
   rw [if_pos (by simp; omega),bX (by unfold cB; omega)]
   exact ⟨_,rfl,g.set B _⟩)
  (fun x g=>by simp only [Z13_L1]; rw [if_neg (by simp)]; exact ⟨x,rfl,g⟩) (RG.rep _)
 rw [E]
 exact ⟨r,rfl,hD e.d F⟩
theorem xf {ds:List Int}(e:ds.length<cB):(eC ds→∃ d,Z0q ds 0=some ⟨ds,d⟩∧TOk ds d)∧(¬ eC ds→Z0q ds 0=some ⟨[],[]⟩):=by
 unfold Z0q
 rw [f' e]
 constructor
 ·intro h
  have u:=h.2.2
  simp only [h,decide_true,Option.bind_some,Bool.not_true,Bool.false_eq_true,if_false]
  rw [kO h]
  simp only [Option.bind_some]
  obtain ⟨m,g,a⟩:=jM 0
  obtain ⟨r,i,l⟩:=kR (f:=fun s:List Int×Int=>Z0q_L1 0 ⟨ds,List.replicate (pr ds).toNat 0⟩ s.1 s.2) (Post:=fun r=>RG (pr ds).toNat r) (pr ds).toNat (pr ds).toNat
   (fun j q x b=>by
    simp only [Z0q_L1]
    rw [if_pos (by simp; omega),g]
    simp only [Option.bind_some]
    rw [if_pos (by simp; omega),bX (by unfold cB; omega)]
    exact ⟨_,rfl,b.set a _⟩)
   (fun x b=>by simp only [Z0q_L1]; rw [if_neg (by simp)]; exact ⟨x,rfl,b⟩) (RG.rep _)
  rw [i]
  exact ⟨r,rfl,hD h l⟩
 ·intro h
  simp [h]
theorem uX (ds ss:List Int)(a:Int):(ne ds ss a).length=(pr ds).toNat:=by simp [ne]
theorem nP {t:Tensor}{v:View}(g:TT t)(a:VG v.Dims v.Strides v.Offset v.Base)(O:v.Base=pr t.Dims):∃ d,Z02 t v=some ⟨v.Dims,d⟩∧TOk v.Dims d:=by
 have L:=kw g
 have T:=a.d.1
 have U:=a.d.2.2
 have I:=g.l
 unfold Z02
 rw [pE g,ku a]
 simp only [Option.bind_some,bQ,Bool.not_true,Bool.not_false,cond_true]
 rw [if_neg (by simp; omega),hR (by omega),qx a.d a.l a.s (by have:=a.o; have:=a.b; omega)]
 simp only [Option.bind_some]
 have D:=uX v.Dims v.Strides v.Offset
 obtain ⟨r,G,J⟩:=fX (f:=fun s:List Int×Int=>Z02_L1 t (ne v.Dims v.Strides v.Offset) s.1 s.2) (fun j s=>s.2=(j:Int)∧RG j s.1) (pr v.Dims).toNat (Post:=fun r=>RG (pr v.Dims).toNat r)
  (fun j s M B=>by
   obtain ⟨x,i⟩:=s
   obtain ⟨h,m⟩:=B
   simp only at h
   subst h
   have E:0≤ix (ne v.Dims v.Strides v.Offset) (j:Int)∧ix (ne v.Dims v.Strides v.Offset) (j:Int)<v.Base:=by
    have:=bE (xs:=ne v.Dims v.Strides v.Offset) (k:=j) (by omega)
    obtain ⟨k,_,F⟩:=List.mem_map.1 this
    rw [← F]
    exact a.place (gZ a.d.2.1 (k:Int))
   have u:=(oR g).ix E.1 (by have:=(oR g).1; omega)
   have q:x.length=j:=m.1
   simp only [Z02_L1]
   rw [if_pos (by simp; omega),if_pos (by omega),if_pos (by omega),if_pos (by simp; omega),bX (by unfold cB; omega)]
   refine ⟨_,rfl,rfl,by simp [q],?_⟩
   intro y e
   rcases List.mem_append.1 e with e | e
   ·exact m.2 y e
   ·rw [List.mem_singleton.1 e]; exact u)
  (fun s B=>by
   obtain ⟨x,i⟩:=s
   obtain ⟨h,m⟩:=B
   simp only at h
   subst h
   simp only [Z02_L1]
   rw [if_neg (by simp; omega)]
   exact ⟨x,rfl,m⟩) (s:=([],0)) ⟨rfl,rfl,by simp⟩
 rw [G]
 exact ⟨r,rfl,hD a.d J⟩
theorem mc {t:Tensor}(a:TT t):Z02 t dU=some ⟨[],[]⟩:=by
 unfold Z02
 rw [pE a]
 simp only [Option.bind_some,bQ,Bool.not_true,Bool.not_false,cond_true]
 rw [show Z8 dU=some false from uN]
 simp
theorem rr {ds d:List Int}(h:eC ds)(D:d.length<cB):Z0b (bU ds) d=some (if eC d∧pr d=pr ds then bU d else dU):=by
 have Y:=h.1
 have hp:=h.2.2
 have O:=h.2.pos
 have u:(bU ds).Dims=ds:=rfl
 have q:(bU ds).Base=pr ds:=rfl
 unfold Z0b
 rw [ku (iR h)]
 simp only [Option.bind_some,bQ,Bool.not_true,Bool.not_false,cond_true,Bool.false_or,f' D]
 by_cases hd:eC d
 ·have G:=hd.1
  have I:=hd.2.pos
  simp only [hd,decide_true,Bool.not_true,Bool.not_false,cond_true,Bool.false_or,true_and,u,Option.bind_some]
  rw [jz D,if_pos hd.2,jz (by unfold cB; omega),if_pos h.2]
  simp only [Option.bind_some]
  by_cases e:pr d=pr ds
  ·rw [if_neg (by simp [e]),if_pos e,qx (iR h).d (iR h).l (iR h).s ⟨Int.le_refl 0,by show (0:Int)≤4096; omega⟩,hR (by omega)]
   simp only [Option.bind_some]
   have b:ne (bU ds).Dims (bU ds).Strides (bU ds).Offset=(List.range (pr ds).toNat).map fun k:Nat=>(k:Int):=nf h.2
   obtain ⟨a,E⟩:∃ a,a=ne (bU ds).Dims (bU ds).Strides (bU ds).Offset:=⟨_,rfl⟩
   rw [← E] at b ⊢
   have al:a.length=(pr ds).toNat:=by rw [b]; simp
   have B:∀ i:Int,0≤i→i<pr ds→ix a i=i:=by
    intro i M h1
    obtain ⟨k,rfl⟩:=Int.eq_ofNat_of_zero_le M
    rw [bR (by omega)]
    simp [b]
   rw [if_pos (by omega)]
   have:=eT (f:=fun s:List Int×Int=>Z0b_L1 d a s.1 s.2) (r:=eJ d) (fun j=>((eJ d).take j,(j:Int))) d.length
    (fun j m=>by
     have J:=dH d
     have Z:=hd.2.mem (bE m)
     have tk:(eJ d).take (j+1)=(eJ d).take j++[if ix d (j:Int)>1 then pr (d.drop (j+1)) else 0]:=by rw [List.take_succ_eq_append_getElem (by omega),← pA m,bR (by omega)]
     simp only [Z0b_L1,Z0b_J2]
     rw [if_pos (by simp; omega),if_pos (by omega)]
     by_cases c:ix d (j:Int)>1
     ·have q1:=(hd.2.drop (j+1)).pos
      have q2:pr (d.drop j)=ix d (j:Int)*pr (d.drop (j+1)):=by
       have:d.drop j=ix d (j:Int)::d.drop (j+1):=by rw [List.drop_eq_getElem_cons m,bR m]
       rw [this]; rfl
      have L:=gL d j
      have F:=(hd.2.take j).pos
      have T:pr (d.drop j)≤pr d:=by rw [L]; exact jy F (by have:=(hd.2.drop j).pos; omega)
      have U:2*pr (d.drop (j+1))≤ix d (j:Int)*pr (d.drop (j+1)):=Int.mul_le_mul_of_nonneg_right (by omega) (by omega)
      rw [if_pos (by simpa using c),bX (by unfold cB; omega),if_pos (by omega),hJ,Int.toNat_natCast,jz (by simp [cB]; omega),if_pos (hd.2.drop (j+1))]
      simp only [Option.bind_some]
      rw [if_pos (by omega),if_pos (by simp; omega),B _ (by omega) (by omega),B 0 (by omega) (by omega),tk,if_pos c,bA (by omega) (by omega),Int.sub_zero]
     ·rw [if_neg (by simpa using c),if_pos (by simp; omega),bX (by unfold cB; omega),tk,if_neg c])
    (by simp only [Z0b_L1]; rw [if_neg (by simp),List.take_of_length_le (by rw [dH]; omega)])
    (s:=([],0)) rfl
   rw [this]
   simp only [Option.bind_some,Z0b_J3]
   have hw:(⟨d,eJ d,ix a 0,(bU ds).Base⟩:View)=bU d:=by rw [B 0 (by omega) (by omega),q,← e]; rfl
   rw [hw,ku (iR hd)]
   simp only [Option.bind_some,bQ,Bool.not_true,Bool.not_false,cond_true]
   rw [qx (iR hd).d (iR hd).l (iR hd).s ⟨Int.le_refl 0,by show (0:Int)≤4096; omega⟩]
   simp only [Option.bind_some]
   have g:ne (bU d).Dims (bU d).Strides (bU d).Offset=a:=by rw [b,← e]; exact nf hd.2
   rw [g,sU (by unfold cB; omega)]
   simp
  ·rw [if_pos (by simp [e]),if_neg e]
   rfl
 ·simp [hd,dU]
theorem mI {n:Node}{ds:List Int}(h:eC ds)(l:n.Dims.length<cB):∃ ps,Z10 n ds=some (if eC n.Dims∧pr n.Dims=pr ds then (n.Dims,ps,true) else ([],[],false)):=by
 have u:=h.1
 have B:=h.2.2
 unfold Z10
 rw [gX l]
 by_cases hd:eC n.Dims
 ·simp only [hd,decide_true,Option.bind_some,bQ,Bool.not_true,Bool.not_false,cond_true,Bool.false_or,true_and]
  rw [ld l hd.2,ld (by unfold cB; omega) h.2]
  simp only [Option.bind_some]
  by_cases e:pr n.Dims=pr ds
  ·rw [if_neg (by simp [e])]
   obtain ⟨r,m,_⟩:=fX (f:=fun s:List pair×Int=>Z10_L1 (pr ds) s.1 s.2) (fun j s=>s.2=(j:Int)∧s.1.length=j) (pr ds).toNat (Post:=fun _=>True)
    (fun j s q g=>by
     obtain ⟨x,i⟩:=s
     obtain ⟨a,b⟩:=g
     simp only at a b
     subst a
     simp only [Z10_L1]
     rw [if_pos (by simp; omega),if_pos (by simp; omega),bX (by unfold cB; omega)]
     exact ⟨_,rfl,rfl,by simp [b]⟩)
    (fun s g=>by
     obtain ⟨x,i⟩:=s
     obtain ⟨a,b⟩:=g
     simp only at a
     subst a
     have:=h.2.pos
     simp only [Z10_L1]
     rw [if_neg (by simp; omega)]
     exact ⟨x,rfl,trivial⟩) (s:=([],0)) ⟨rfl,rfl⟩
   rw [m]
   exact ⟨r,by rw [if_pos e]; rfl⟩
  ·rw [if_pos (by simp [e])]
   exact ⟨[],by rw [if_neg e]⟩
 ·simp [hd,bQ]
end Go.Proofs.YtmpnollfdpdipaaGreat
