import Derived.Test.YtmpnollfdpdipaaGreatGkF
import Derived.Test.YtmpnollfdpdipaaGreatPL1
set_option linter.unusedVariables false
set_option linter.unusedSimpArgs false
namespace Go.Proofs.YtmpnollfdpdipaaGreat
open Go Go.Pg
theorem iF {a b:Int}(e:0≤a)(g:1≤b):a≤a*b:=by
 have:=Int.mul_le_mul_of_nonneg_left g e
 simpa using this
theorem ja {a b:Int}(e:1≤a)(g:0≤b):b≤a*b:=by rw [Int.mul_comm]; exact iF g e
def pr:List Int→Int
 | []=>1
 | d::ds=>d*pr ds
def SZ (ds:List Int):Prop:=(∀ d∈ds,1≤d)∧pr ds≤4096
instance (ds:List Int):Decidable (SZ ds):=by unfold SZ; infer_instance
def eD (ds:List Int):Prop:=ds.length≤6∧SZ ds
instance (ds:List Int):Decidable (eD ds):=by unfold eD; infer_instance
theorem fE {ds:List Int}(h:∀ d∈ds,1≤d):1≤pr ds:=by
 induction ds with
 | nil=>exact Int.le_refl 1
 | cons d ds ih =>
  have h1:=h d (by simp)
  have h2:=ih fun x a=>h x (by simp [a])
  exact Int.le_trans h1 (iF (by omega) h2)
theorem mn (a b:List Int):pr (a++b)=pr a*pr b:=by
 induction a with
 | nil=>simp [pr]
 | cons x a ih=>simp [pr,ih,Int.mul_assoc]
theorem gF (ds:List Int)(k:Nat):pr ds=pr (ds.take k)*pr (ds.drop k):=by
 rw [← mn,List.take_append_drop]
theorem SZ.take {ds:List Int}(h:SZ ds)(k:Nat):SZ (ds.take k):=by
 refine ⟨fun d a=>h.1 d (List.mem_of_mem_take a),?_⟩
 have h1:=h.2
 rw [gF ds k] at h1
 have h2:1≤pr (ds.drop k):=fE fun d a=>h.1 d (List.mem_of_mem_drop a)
 have b:1≤pr (ds.take k):=fE fun d a=>h.1 d (List.mem_of_mem_take a)
 exact Int.le_trans (iF (by omega) h2) h1
theorem SZ.drop {ds:List Int}(h:SZ ds)(k:Nat):SZ (ds.drop k):=by
 refine ⟨fun d a=>h.1 d (List.mem_of_mem_drop a),?_⟩
 have h1:=h.2
 rw [gF ds k] at h1
 have h2:1≤pr (ds.drop k):=fE fun d a=>h.1 d (List.mem_of_mem_drop a)
 have b:1≤pr (ds.take k):=fE fun d a=>h.1 d (List.mem_of_mem_take a)
 exact Int.le_trans (ja b (by omega)) h1
theorem SZ.tail {d:Int}{ds:List Int}(h:SZ (d::ds)):SZ ds:=h.drop 1
theorem SZ.pos {ds:List Int}(h:SZ ds):1≤pr ds:=fE h.1
theorem SZ.mem {ds:List Int}(h:SZ ds){d:Int}(e:d∈ds):1≤d∧d≤4096:=by
 refine ⟨h.1 d e,?_⟩
 obtain ⟨a,b,rfl⟩:=List.append_of_mem e
 have h2:=h.2
 rw [mn] at h2
 have j:1≤pr a:=fE fun x g=>h.1 x (by simp [g])
 have l:1≤pr b:=fE fun x g=>h.1 x (by simp [g])
 have m:=h.1 d e
 have i:d≤pr (d::b):=iF (by omega) l
 exact Int.le_trans (Int.le_trans i (ja j (by omega))) h2
theorem s9 {R:Type}(h:R)(i:Int→R)(ds:List Int)(k:Nat)(n:Int)(q:1≤n)(h1:n≤4096) :
  pR (fun (s:Int) (_:Nat) (x:Int)=>if (decide (x<1)||decide (x>4096))=true then .inr h else if decide (s*x>4096)=true then .inr h else .inl (s*x)) i ds k n
   = if (∀ d∈ds,1≤d)∧n*pr ds≤4096 then i (n*pr ds) else h:=by
 induction ds generalizing n k with
 | nil=>simp [pR,pr,h1]
 | cons d ds ih =>
  unfold pR
  by_cases c1:d<1
  ·have l:¬ ((∀ x∈d::ds,1≤x)∧n*pr (d::ds)≤4096):=fun ⟨a,_⟩=>by have:=a d (by simp); omega
   rw [if_neg l]
   simp [c1]
  ·have cA:d>4096∨n*d>4096→¬ ((∀ x∈d::ds,1≤x)∧n*pr (d::ds)≤4096):=by
    rintro j ⟨a,b⟩
    have r:1≤pr ds:=fE fun x m=>a x (by simp [m])
    have e:n*pr (d::ds)=n*d*pr ds:=by simp [pr,Int.mul_assoc]
    rw [e] at b
    have h2:d≤n*d:=ja q (by omega)
    have u:n*d≤n*d*pr ds:=iF (by omega) r
    rcases j with j | j<;>omega
   by_cases c2:d>4096
   ·rw [if_neg (cA (.inl c2))]; simp [c2]
   ·by_cases c3:n*d>4096
    ·rw [if_neg (cA (.inr c3))]; simp [c1,c2,c3]
    ·have B:d≤n*d:=ja q (by omega)
     simp only [c1,c2,c3,decide_false,Bool.or_self,Bool.false_eq_true,if_false]
     rw [ih (k+1) (n*d) (by omega) (by omega)]
     have e:n*pr (d::ds)=n*d*pr ds:=by simp [pr,Int.mul_assoc]
     by_cases g:(∀ x∈ds,1≤x)∧n*d*pr ds≤4096
     ·rw [if_pos g,if_pos ⟨List.forall_mem_cons.2 ⟨by omega,g.1⟩,by rw [e]; exact g.2⟩,e]
     ·rw [if_neg g,if_neg fun a=>g ⟨fun x m=>a.1 x (by simp [m]),by rw [← e]; exact a.2⟩]
theorem u3 {R:Type}(a:Int→R)(ds:List Int)(k:Nat)(n:Int):pR (fun (s:Int) (_:Nat) (x:Int)=>.inl (s*x)) a ds k n=a (n*pr ds):=by
 induction ds generalizing n k with
 | nil=>simp [pR,pr]
 | cons d ds ih =>
  unfold pR
  simp only
  rw [ih]
  simp [pr,Int.mul_assoc]
theorem hY {a b:Int}(e:0≤a)(h1:a≤65536)(h2:0≤b)(g:b≤65536):aG (a*b)=a*b:=by
 have h:a*b≤65536*65536:=Int.mul_le_mul h1 g h2 (by omega)
 have i:0≤a*b:=Int.mul_nonneg e h2
 exact aZ (by omega) (by omega)
theorem jd {ds:List Int}(q:ds.length<cA):Zu ds=some (if SZ ds then pr ds else 0):=by
 have:=iX (S:=Int) ds (fun _ n=>1≤n∧n≤4096) (fun s:Int×Int=>Zu_L1 ds s.1 s.2) (fun n i=>(n,i)) (fun (s:Int) (_:Nat) (x:Int)=>if (decide (x<1)||decide (x>4096))=true then .inr (.inl (0:Int)) else if decide (s*x>4096)=true then .inr (.inl 0) else .inl (s*x)) (fun n=>.inr n)
  (fun n k l m=>by
   simp only [Zu_L1]
   rw [if_pos (by simp; omega),if_pos (by omega)]
   split
   ·rfl
   ·rename_i h
    simp only [Bool.or_eq_true,decide_eq_true_eq,not_or] at h
    rw [hY (by omega) (by omega) (by omega) (by omega),bX (by omega)]
    split<;>rfl)
  (fun n k s l m j=>by
   split at j
   ·cases j
   ·rename_i h
    simp only [Bool.or_eq_true,decide_eq_true_eq,not_or] at h
    split at j
    ·cases j
    ·rename_i h2
     simp only [decide_eq_true_eq] at h2
     cases j
     have:=ja (a:=n) (b:=ix ds (k:Int)) l.1 (by omega)
     omega)
  (fun n _=>by simp only [Zu_L1]; rw [if_neg (by simp)]) 1 ⟨by omega,by omega⟩
 unfold Zu
 rw [this,s9 _ _ _ _ _ (by omega) (by omega)]
 simp only [Int.one_mul,Option.bind_some]
 have e:SZ ds↔(∀ d∈ds,1≤d)∧pr ds≤4096:=Iff.rfl
 by_cases h:SZ ds
 ·rw [if_pos (e.1 h),if_pos h]; rfl
 ·rw [if_neg (fun g=>h (e.2 g)),if_neg h]
theorem fX {ds:List Int}(a:ds.length<cA):Zn ds=some (decide (eD ds)):=by
 unfold Zn
 by_cases h:ds.length≤6
 ·have e:decide ((ds.length:Int)≤6)=true:=by simp; omega
  rw [e]
  simp only [bI,jd a,cond_true,Option.bind_some,Bool.true_and]
  congr 1
  by_cases g:SZ ds
  ·have:=g.pos; simp [g,eD,h]; omega
  ·simp [g,eD]
 ·have e:decide ((ds.length:Int)≤6)=false:=by simp; omega
  rw [e]
  simp [bI,eD,h]
theorem gT {ds:List Int}(q:ds.length<cA):Zc ds=some (decide (eD ds)):=by
 have:=iX (S:=Int) ds (fun _ n=>1≤n∧n≤4096) (fun s:Int×Int=>Zc_L1 ds s.1 s.2) (fun n i=>(n,i)) (fun (s:Int) (_:Nat) (x:Int)=>if (decide (x<1)||decide (x>4096))=true then .inr (.inl false) else if decide (s*x>4096)=true then .inr (.inl false) else .inl (s*x)) (fun n=>.inr ())
  (fun n k l m=>by
   simp only [Zc_L1]
   rw [if_pos (by simp; omega),if_pos (by omega)]
   split
   ·rfl
   ·rename_i h
    simp only [Bool.or_eq_true,decide_eq_true_eq,not_or] at h
    rw [hY (by omega) (by omega) (by omega) (by omega),bX (by omega)]
    split<;>rfl)
  (fun n k s l m j=>by
   split at j
   ·cases j
   ·rename_i h
    simp only [Bool.or_eq_true,decide_eq_true_eq,not_or] at h
    split at j
    ·cases j
    ·rename_i h2
     simp only [decide_eq_true_eq] at h2
     cases j
     have:=ja (a:=n) (b:=ix ds (k:Int)) l.1 (by omega)
     omega)
  (fun n _=>by simp only [Zc_L1]; rw [if_neg (by simp)]) 1 ⟨by omega,by omega⟩
 unfold Zc
 rw [this,s9 _ _ _ _ _ (by omega) (by omega)]
 simp only [Int.one_mul,Option.bind_some]
 have e:SZ ds↔(∀ d∈ds,1≤d)∧pr ds≤4096:=Iff.rfl
 by_cases h:SZ ds
 ·rw [if_pos (e.1 h)]
  simp only [Zc_J1]
  congr 1
  simp [eD,h]; omega
 ·rw [if_neg (fun g=>h (e.2 g))]
  simp [eD,h]
theorem kZ {ds:List Int}(j:ds.length<cA)(h:SZ ds):Zm ds=some (pr ds):=by
 have:=iX (S:=Int) ds (fun k n=>n=pr (ds.take k)) (fun s:Int×Int=>Zm_L1 ds s.1 s.2) (fun n i=>(n,i)) (fun (s:Int) (_:Nat) (x:Int)=>.inl (s*x)) (fun n=>n)
  (fun n k b a=>by
   simp only [Zm_L1]
   have h1:=(h.take k)
   have h2:=h1.pos
   have g:=h.mem (bE a)
   rw [if_pos (by simp; omega),if_pos (by omega),hY (by omega) (by have:=h1.2; omega) (by omega) (by omega),bX (by omega)])
  (fun n k s b a e=>by
   simp only [Sum.inl.injEq] at e
   rw [← e,b,List.take_succ_eq_append_getElem a,mn,bV a]
   simp [pr])
  (fun n _=>by simp only [Zm_L1]; rw [if_neg (by simp)]) 1 rfl
 unfold Zm
 rw [this,u3]
 simp [Zm_J1]
def gU:List Int→Int→List Int
 | [],_=>[]
 | d::ds,k=>(k / pr ds) % d::gU ds k
def lG:List Int→List Int→Int
 | d::ds,i::is=>i*pr ds+lG ds is
 | _,_=>0
def IV:List Int→List Int→Prop
 | [],[]=>True
 | d::ds,i::is=>(0≤i∧i<d)∧IV ds is
 | _,_=>False
theorem je (ds:List Int)(k:Int):(gU ds k).length=ds.length:=by
 induction ds with
 | nil=>rfl
 | cons d ds ih=>simp [gU,ih]
theorem IV.len {ds is:List Int}(h:IV ds is):is.length=ds.length:=by
 induction ds generalizing is with
 | nil=>cases is with
  | nil=>rfl
  | cons=>exact h.elim
 | cons d ds ih=>cases is with
  | nil=>exact h.elim
  | cons i is=>simp [ih h.2]
theorem gV {ds:List Int}(h:∀ d∈ds,1≤d)(k:Int):IV ds (gU ds k):=by
 induction ds with
 | nil=>trivial
 | cons d ds ih =>
  have b:=h d (by simp)
  exact ⟨⟨Int.emod_nonneg _ (by omega),Int.emod_lt_of_pos _ (by omega)⟩,ih fun x a=>h x (by simp [a])⟩
theorem mo {ds is:List Int}(h:∀ d∈ds,1≤d)(e:IV ds is):0≤lG ds is∧lG ds is<pr ds:=by
 induction ds generalizing is with
 | nil=>cases is with
  | nil=>exact ⟨Int.le_refl 0,by decide⟩
  | cons=>exact e.elim
 | cons d ds ih=>cases is with
  | nil=>exact e.elim
  | cons i is =>
   obtain ⟨a,b⟩:=ih (fun x g=>h x (by simp [g])) e.2
   have l:1≤pr ds:=fE fun x g=>h x (by simp [g])
   have j:=Int.mul_nonneg e.1.1 (show 0≤pr ds by omega)
   have h1:(i+1)*pr ds≤d*pr ds:=Int.mul_le_mul_of_nonneg_right (by have:=e.1.2; omega) (by omega)
   rw [Int.add_mul] at h1
   show 0≤i*pr ds+lG ds is∧i*pr ds+lG ds is<d*pr ds
   omega
theorem sd {k p d:Int}(r:1≤p)(m:1≤d):k / (d*p)=k / p / d∧k % (d*p)=k / p % d*p+k % p:=by
 have a:=Int.emod_nonneg k (show p≠0 by omega)
 have b:=Int.emod_lt_of_pos k (show 0<p by omega)
 have c:=Int.emod_nonneg (k / p) (show d≠0 by omega)
 have e:=Int.emod_lt_of_pos (k / p) (show 0<d by omega)
 have h1:=Int.mul_nonneg c (show 0≤p by omega)
 have h2:(k / p % d+1)*p≤d*p:=Int.mul_le_mul_of_nonneg_right (by omega) (by omega)
 rw [Int.add_mul] at h2
 have i:0<d*p:=Int.mul_pos (by omega) (by omega)
 refine (Int.ediv_emod_unique (q:=k / p / d) i).2 ⟨?_,by omega,by omega⟩
 have j:=Int.mul_ediv_add_emod k p
 have g:=Int.mul_ediv_add_emod (k / p) d
 have h:d*p*(k / p / d)=p*(d*(k / p / d)):=by rw [Int.mul_comm d p,Int.mul_assoc]
 have l:p*(k / p)=p*(d*(k / p / d))+p*(k / p % d):=by rw [← Int.mul_add,g]
 rw [h,Int.mul_comm (k / p % d) p]
 omega
theorem u4 {ds:List Int}(h:∀ d∈ds,1≤d)(k:Int):lG ds (gU ds k)=k % pr ds:=by
 induction ds generalizing k with
 | nil=>simp [lG,pr,Int.emod_one]
 | cons d ds ih =>
  have e:1≤pr ds:=fE fun x a=>h x (by simp [a])
  have b:=h d (by simp)
  show k / pr ds % d*pr ds+lG ds (gU ds k)=k % (d*pr ds)
  rw [ih fun x a=>h x (by simp [a])]
  exact (sd e b).2.symm
theorem qr {ds:List Int}(h:∀ d∈ds,1≤d){k:Int}(a:0≤k)(h1:k<pr ds):lG ds (gU ds k)=k:=by
 rw [u4 h,Int.emod_eq_of_lt a h1]
theorem eR {S R:Type}{f:S→Option (S⊕R)}(st:Nat→S)(n:Nat){r:R}(h:∀ j,j<n→f (st j)=some (.inl (st (j+1))))(e:f (st n)=some (.inr r)){s:S}(b:s=st 0):aU f s=some r:=by
 have a:∀ m j,j+m=n→aU f (st j)=some r:=by
  intro m
  induction m with
  | zero=>intro j g; rw [show j=n by omega]; exact dN e
  | succ m ih=>intro j g; rw [eL (h j (by omega))]; exact ih (j+1) (by omega)
 rw [b]
 exact a n 0 (by omega)
theorem hD {S R:Type}{f:S→Option (S⊕R)}(I:Nat→S→Prop)(n:Nat){Post:R→Prop}(i:∀ j s,j<n→I j s→∃ s',f s=some (.inl s')∧I (j+1) s')(g:∀ s,I n s→∃ r,f s=some (.inr r)∧Post r){s:S}(e:I 0 s):∃ r,aU f s=some r∧Post r:=by
 have b:∀ m j s,j+m=n→I j s→∃ r,aU f s=some r∧Post r:=by
  intro m
  induction m with
  | zero =>
   intro j s h a
   rw [show j=n by omega] at a
   obtain ⟨r,h1,h2⟩:=g s a
   exact ⟨r,dN h1,h2⟩
  | succ m ih =>
   intro j s h a
   obtain ⟨s',h1,h2⟩:=i j s (by omega) a
   rw [eL h1]
   exact ih (j+1) s' (by omega) h2
 exact b n 0 s (by omega) e
structure TOk (dims data:List Int):Prop where
 d:eD dims
 l:(data.length:Int)=pr dims
 x:∀ x∈data,0≤x∧x<2147483647
instance (dims data:List Int):Decidable (TOk dims data):=decidable_of_iff (eD dims∧(data.length:Int)=pr dims∧∀ x∈data,0≤x∧x<2147483647) ⟨fun h=>⟨h.1,h.2.1,h.2.2⟩,fun h=>⟨h.d,h.l,h.x⟩⟩
theorem od (xs:List Int):(xs.all fun x=>!(decide (x<0)||decide (x≥2147483647)))=decide (∀ x∈xs,0≤x∧x<2147483647):=by
 rw [Bool.eq_iff_iff]
 simp only [List.all_eq_true,decide_eq_true_eq,Bool.not_eq_true',Bool.or_eq_false_iff,decide_eq_false_iff_not]
 exact ⟨fun h x a=>by have:=h x a; omega,fun h x a=>by have:=h x a; omega⟩
theorem se {t:Tensor}(a:t.Dims.length<cA)(b:t.Data.length<cA):Zq t=some (decide (TOk t.Dims t.Data)):=by
 unfold Zq
 rw [fX a]
 by_cases h:eD t.Dims
 ·simp only [h,decide_true,Option.bind_some,bI,Bool.not_true,Bool.not_false,cond_true,Bool.false_or,jd a,h.2,if_true]
  by_cases e:(t.Data.length:Int)=pr t.Dims
  ·rw [if_neg (by simp [e])]
   have:=dV t.Data (fun s:Int=>Zq_L1 t s) (fun i=>i) (fun x=>!(decide (x<0)||decide (x≥2147483647))) (.inl false) (.inr ())
    (fun k j=>by
     simp only [Zq_L1]
     rw [if_pos (by simp; omega),if_pos (by omega),bX (by omega)]
     cases (decide (ix t.Data (k:Int)<0)||decide (ix t.Data (k:Int)≥2147483647))<;>rfl)
    (by simp only [Zq_L1]; rw [if_neg (by simp)])
   rw [this,od]
   by_cases g:∀ x∈t.Data,0≤x∧x<2147483647
   ·have:TOk t.Dims t.Data:=⟨h,e,g⟩
    simp only [decide_eq_true g,decide_eq_true this,if_true,Option.bind_some,Zq_J1]
   ·have:¬ TOk t.Dims t.Data:=fun q=>g q.x
    simp only [decide_eq_false g,decide_eq_false this,Bool.false_eq_true,if_false,Option.bind_some]
  ·rw [if_pos (by simp [e])]
   have:¬ TOk t.Dims t.Data:=fun q=>e q.l
   simp [this]
 ·have:¬ TOk t.Dims t.Data:=fun q=>h q.d
  simp [h,this,bI]
theorem wm {t:Tensor}(a:t.Dims.length<cA)(j:t.Data.length<cA):Z2k t=some (decide (TOk t.Dims t.Data)):=by
 unfold Z2k
 rw [gT a]
 by_cases h:eD t.Dims
 ·simp only [h,decide_true,Option.bind_some,bI,cond_true,Bool.true_and,kZ a h.2]
  by_cases e:(t.Data.length:Int)=pr t.Dims
  ·have:=dV t.Data (fun s:Int=>Z12_L1 t.Data s) (fun i=>i) (fun x=>!(decide (x<0)||decide (x≥2147483647))) (.inl false) (.inr ())
    (fun k m=>by
     simp only [Z12_L1,Z34,Option.bind_some]
     rw [if_pos (by simp; omega),if_pos (by omega),bX (by omega)]
     by_cases c1:ix t.Data (k:Int)<0
     ·have:¬ ix t.Data (k:Int)≥0:=by omega
      simp [c1,this]
     ·have h1:ix t.Data (k:Int)≥0:=by omega
      by_cases c2:ix t.Data (k:Int)<2147483647
      ·have h2:¬ ix t.Data (k:Int)≥2147483647:=by omega
       simp [c1,h1,c2,h2]
      ·have h2:ix t.Data (k:Int)≥2147483647:=by omega
       simp [c1,h1,c2,h2])
    (by simp only [Z12_L1]; rw [if_neg (by simp)])
   simp only [e,beq_self_eq_true,cond_true,Z12,this,od]
   by_cases g:∀ x∈t.Data,0≤x∧x<2147483647
   ·have:TOk t.Dims t.Data:=⟨h,e,g⟩
    simp only [decide_eq_true g,decide_eq_true this,if_true,Option.bind_some,Z12_J1,Bool.and_self]
   ·have:¬ TOk t.Dims t.Data:=fun q=>g q.x
    simp only [decide_eq_false g,decide_eq_false this,Bool.false_eq_true,if_false,Option.bind_some,Bool.and_false]
  ·have:¬ TOk t.Dims t.Data:=fun q=>e q.l
   have b:((t.Data.length:Int)==pr t.Dims)=false:=by simp [e]
   simp [this,b]
 ·have:¬ TOk t.Dims t.Data:=fun q=>h q.d
  simp [h,this,bI]
theorem hJ {xs:List Int}(h:xs.length≤17592186044416):Zt xs=some xs:=by
 unfold Zt
 rw [if_pos (by simpa using h)]
 simp
theorem gX {xs:List Int}(h:xs.length≤17592186044416):Zo xs=some xs:=by
 unfold Zo; rw [if_pos h]
theorem pS (a b:List Int)(h:a.length=b.length):(List.range a.length).all (fun k=>!(ix a (k:Int) != ix b (k:Int)))=decide (a=b):=by
 rw [Bool.eq_iff_iff]
 simp only [List.all_eq_true,List.mem_range,decide_eq_true_eq,bne,Bool.not_not,beq_iff_eq]
 constructor
 ·intro q
  apply List.ext_getElem h
  intro i h1 h2
  have:=q i h1
  rwa [bV h1,bV h2] at this
 ·rintro rfl k _; rfl
theorem sf {a b:List Int}(g:a.length<cA):Zz a b=some (decide (a=b)):=by
 unfold Zz
 by_cases h:a.length=b.length
 ·rw [if_neg (by simp [h])]
  have:=f' a.length (fun s:Int=>Zz_L1 a b s) (fun i=>i) (fun k=>!(ix a (k:Int) != ix b (k:Int))) (.inl false) (.inr ())
   (fun k j=>by
    simp only [Zz_L1]
    rw [if_pos (by simp; omega),if_pos (by omega),if_pos (by omega),bX (by omega)]
    cases (ix a (k:Int) != ix b (k:Int))<;>rfl)
   (by simp only [Zz_L1]; rw [if_neg (by simp)])
  rw [this,pS a b h]
  by_cases e:a=b<;>simp [e,Zz_J1]
 ·rw [if_pos (by simp; omega)]
  have:a≠b:=fun e=>h (by rw [e])
  simp [this]
theorem u5 {a b:List Int}(g:a.length<cA):Z0y a b=some (decide (a=b)):=by
 unfold Z0y
 by_cases h:a.length=b.length
 ·rw [if_neg (by simp [h])]
  have:=f' a.length (fun s:Int=>Z0y_L1 a b s) (fun i=>i) (fun k=>!(ix a (k:Int) != ix b (k:Int))) (.inl false) (.inr ())
   (fun k j=>by
    simp only [Z0y_L1]
    rw [if_pos (by simp; omega),if_pos (by omega),if_pos (by omega),bX (by omega)]
    cases (ix a (k:Int) != ix b (k:Int))<;>rfl)
   (by simp only [Z0y_L1]; rw [if_neg (by simp)])
  rw [this,pS a b h]
  by_cases e:a=b<;>simp [e,Z0y_J1]
 ·rw [if_pos (by simp; omega)]
  have:a≠b:=fun e=>h (by rw [e])
  simp [this]
theorem kz {ds:List Int}(h:eD ds):Z0g ds=some ⟨ds,List.replicate (pr ds).toNat 0⟩:=by
 have h1:=h.1
 have h2:=h.2.pos
 have a:=h.2.2
 unfold Z0g
 rw [hJ (by omega)]
 simp only [Option.bind_some,jd (ds:=ds) (by unfold cA; omega),h.2,if_true]
 rw [if_pos (by omega)]
theorem jf {ds:List Int}{k:Int}(h:eD ds)(b:0≤k)(h1:k≤65536):Zi ds k=some (gU ds k):=by
 have L:=h.1
 unfold Zi
 rw [if_pos (by omega)]
 have:=eR (f:=fun s:Int×List Int×Int=>Zi_L1 ds s.1 s.2.1 s.2.2) (r:=gU ds k)
  (fun j=>(k / pr (ds.drop (ds.length - j)),List.replicate (ds.length - j) 0++gU (ds.drop (ds.length - j)) k,(ds.length:Int) - 1 - j)) ds.length
  (fun j J=>by
   obtain ⟨i,B⟩:∃ i,i=ds.length - (j+1):=⟨_,rfl⟩
   have l:ds.length - j=i+1:=by omega
   have m:(ds.length:Int) - 1 - (j:Int)=(i:Int):=by omega
   have a:i<ds.length:=by omega
   have D:=h.2.mem (bE a)
   have E:=(h.2.drop (i+1)).pos
   have e:ds.drop i=ix ds (i:Int)::ds.drop (i+1):=by rw [List.drop_eq_getElem_cons a,bV a]
   have g:0≤k / pr (ds.drop (i+1)):=Int.ediv_nonneg b (by omega)
   have F:k / pr (ds.drop (i+1))≤65536:=Int.le_trans (Int.ediv_le_self _ b) h1
   simp only [Zi_L1,l,m,← B]
   rw [if_pos (by simp),if_pos (by omega),if_pos (by omega),if_pos (by simp; omega)]
   have q:(k / pr (ds.drop (i+1))).tdiv (ix ds (i:Int))=k / pr (ds.drop i):=by
    rw [Int.tdiv_eq_ediv_of_nonneg g,e]; exact (sd E D.1).1.symm
   have u:(k / pr (ds.drop (i+1))).tmod (ix ds (i:Int))=k / pr (ds.drop (i+1)) % ix ds (i:Int):=Int.tmod_eq_emod_of_nonneg g
   have G:0≤k / pr (ds.drop i):=Int.ediv_nonneg b (by have:=(h.2.drop i).pos; omega)
   have I:k / pr (ds.drop i)≤65536:=Int.le_trans (Int.ediv_le_self _ b) h1
   rw [q,u,aZ (by omega) (by omega),aZ (by omega) (by omega)]
   congr 4
   ·rw [e,List.set_append_left _ _ (by simp),List.replicate_succ',List.set_append_right _ _ (by simp)]
    simp [gU]
   ·omega)
  (by
   simp only [Zi_L1,Nat.sub_self,List.drop_zero,List.replicate_zero,List.nil_append]
   rw [if_neg (by simp; omega)])
  (s:=(k,List.replicate (ds.length:Int).toNat 0,aG ((ds.length:Int) - 1))) (by
   rw [aZ (by omega) (by omega)]
   simp [pr,gU])
 rw [this]
 rfl
theorem oe {ds is:List Int}(g:IV ds is){k:Nat}(h:k<ds.length):IV (ds.take k) (is.take k)∧lG (ds.take (k+1)) (is.take (k+1))=lG (ds.take k) (is.take k)*ix ds (k:Int)+ix is (k:Int):=by
 induction ds generalizing is k with
 | nil=>simp at h
 | cons d ds ih=>cases is with
  | nil=>exact g.elim
  | cons i is =>
   cases k with
   | zero=>simp [IV,lG,pr,ix]
   | succ k =>
    obtain ⟨a,b⟩:=ih g.2 (k:=k) (by simpa using h)
    refine ⟨⟨g.1,a⟩,?_⟩
    have e:k<ds.length:=by simpa using h
    have j:ix (d::ds) ((k+1:Nat):Int)=ix ds (k:Int):=by simp [ix]
    have l:ix (i::is) ((k+1:Nat):Int)=ix is (k:Int):=by simp [ix]
    rw [j,l]
    have m:pr (ds.take (k+1))=pr (ds.take k)*ix ds (k:Int):=by rw [List.take_succ_eq_append_getElem e,mn,bV e]; simp [pr]
    show i*pr (ds.take (k+1))+lG (ds.take (k+1)) (is.take (k+1))=(i*pr (ds.take k)+lG (ds.take k) (is.take k))*ix ds (k:Int)+ix is (k:Int)
    rw [b,m,Int.add_mul,Int.mul_assoc,Int.add_assoc]
theorem ni {ds is:List Int}(h:eD ds)(g:IV ds is):Z0l ds is=some (lG ds is):=by
 have D:=h.1
 have q:=g.len
 unfold Z0l
 have:=eR (f:=fun s:Int×Int=>Z0l_L1 ds is s.1 s.2) (r:=lG ds is) (fun j=>(lG (ds.take j) (is.take j),(j:Int))) ds.length
  (fun j l=>by
   obtain ⟨a,b⟩:=oe g l
   have B:=mo (fun d i=>h.2.1 d (List.mem_of_mem_take i)) a
   have F:=(h.2.take j).2
   have m:=mo (fun d i=>h.2.1 d (List.mem_of_mem_take i)) (ds:=ds.take (j+1)) (is:=is.take (j+1)) (by
    by_cases e:j+1<ds.length
    ·exact (oe g e).1
    ·rw [List.take_of_length_le (by omega),List.take_of_length_le (by omega)]; exact g)
   have u:=(h.2.take (j+1)).2
   have E:=h.2.mem (bE l)
   simp only [Z0l_L1]
   rw [if_pos (by simp; omega),if_pos (by omega),if_pos (by omega),hY (by omega) (by omega) (by omega) (by omega),← b,aZ (by omega) (by omega),bX (by unfold cA; omega)])
  (by simp only [Z0l_L1]; rw [if_neg (by simp),List.take_length,List.take_of_length_le (by omega)])
  (s:=(0,0)) (by simp [lG])
 rw [this]
 rfl
theorem mP {t:Tensor}{is:List Int}(h:TOk t.Dims t.Data)(a:IV t.Dims is):∃ x,Z14 t is=some x∧x∈t.Data:=by
 have b:=mo h.d.2.1 a
 have g:=h.l
 unfold Z14
 rw [ni h.d a]
 simp only [Option.bind_some]
 rw [if_pos (by omega)]
 refine ⟨_,rfl,?_⟩
 have e:(((lG t.Dims is).toNat:Nat):Int)=lG t.Dims is:=by omega
 rw [← e]
 exact bE (by omega)
theorem sg {t:Tensor}{is:List Int}{x:Int}(h:eD t.Dims)(e:(t.Data.length:Int)=pr t.Dims)(a:IV t.Dims is):Z1s t is x=some (t.Data.set (lG t.Dims is).toNat x):=by
 have b:=mo h.2.1 a
 unfold Z1s
 rw [ni h a]
 simp only [Option.bind_some]
 rw [if_pos (by omega)]
def zs (f:Int→Int→Int):List Int→List Int→Int
 | a::xs,b::ys=>f a b+zs f xs ys
 | _,_=>0
theorem kA (f:Int→Int→Int){xs ys:List Int}{j:Nat}(e:j<xs.length)(g:j<ys.length):zs f (xs.take (j+1)) (ys.take (j+1))=zs f (xs.take j) (ys.take j)+f (ix xs (j:Int)) (ix ys (j:Int)):=by
 induction xs generalizing ys j with
 | nil=>simp at e
 | cons a xs ih=>cases ys with
  | nil=>simp at g
  | cons b ys =>
   cases j with
   | zero=>simp [zs,ix]
   | succ j =>
    have h:ix (a::xs) ((j+1:Nat):Int)=ix xs (j:Int):=by simp [ix]
    have i:ix (b::ys) ((j+1:Nat):Int)=ix ys (j:Int):=by simp [ix]
    have:=ih (ys:=ys) (j:=j) (by simpa using e) (by simpa using g)
    rw [h,i]
    simp only [List.take_succ_cons,zs] at this ⊢
    omega
theorem vh (f:Int→Int→Int){xs ys:List Int}{M:Int}(g:xs.length=ys.length)(a:∀ j:Nat,j<xs.length → -M≤f (ix xs (j:Int)) (ix ys (j:Int))∧f (ix xs (j:Int)) (ix ys (j:Int))≤M){j:Nat}(b:j≤xs.length) :
  -(j*M)≤zs f (xs.take j) (ys.take j)∧zs f (xs.take j) (ys.take j)≤j*M:=by
 induction j with
 | zero=>simp [zs]
 | succ j ih =>
  have h1:=ih (by omega)
  have h2:=a j (by omega)
  rw [kA f (by omega) (by omega)]
  have e:((j+1:Nat):Int)*M=(j:Int)*M+M:=by rw [show ((j+1:Nat):Int)=(j:Int)+1 by omega,Int.add_mul]; omega
  rw [e]
  omega
def lw (d s:Int):Int:=if s*(d - 1)<0 then s*(d - 1) else 0
def hw (d s:Int):Int:=if s*(d - 1)>0 then s*(d - 1) else 0
theorem wn {ds is ss:List Int}(e:IV ds is)(h:ss.length=ds.length):zs lw ds ss≤zs (·*·) is ss∧zs (·*·) is ss≤zs hw ds ss:=by
 induction ds generalizing is ss with
 | nil=>cases is with
  | nil=>simp [zs]
  | cons=>exact e.elim
 | cons d ds ih=>cases is with
  | nil=>exact e.elim
  | cons i is=>cases ss with
   | nil=>simp at h
   | cons s ss =>
    obtain ⟨a,b⟩:=ih e.2 (ss:=ss) (by simpa using h)
    have h1:0≤i∧i≤d - 1:=⟨e.1.1,by have:=e.1.2; omega⟩
    have j:lw d s≤i*s∧i*s≤hw d s:=by
     unfold lw hw
     rw [Int.mul_comm i s]
     rcases Int.le_total 0 s with g | g
     ·have l:0≤s*i:=Int.mul_nonneg g h1.1
      have m:s*i≤s*(d - 1):=Int.mul_le_mul_of_nonneg_left h1.2 g
      split<;>split<;>omega
     ·have l:s*i≤0:=Int.mul_nonpos_of_nonpos_of_nonneg g h1.1
      have m:s*(d - 1)≤s*i:=Int.mul_le_mul_of_nonpos_left g h1.2
      split<;>split<;>omega
    simp only [zs]
    omega
structure VG (dims ss:List Int)(off base:Int):Prop where
 d:eD dims
 l:ss.length=dims.length
 b:1≤base∧base≤4096
 o:0≤off∧off<base
 s:∀ s∈ss,-4096≤s∧s≤4096
 lo:0≤off+zs lw dims ss
 hi:off+zs hw dims ss<base
theorem VG.place {a ss:List Int}{b base:Int}(h:VG a ss b base){is:List Int}(e:IV a is):0≤b+zs (·*·) is ss∧b+zs (·*·) is ss<base:=by
 have h1:=wn e h.l
 have h2:=h.lo
 have g:=h.hi
 omega
theorem IV.mem {ds is:List Int}(h:IV ds is){j:Nat}(a:j<is.length):0≤ix is (j:Int)∧ix is (j:Int)<ix ds (j:Int):=by
 induction ds generalizing is j with
 | nil=>cases is with
  | nil=>simp at a
  | cons=>exact h.elim
 | cons d ds ih=>cases is with
  | nil=>exact h.elim
  | cons i is=>cases j with
   | zero=>exact h.1
   | succ j =>
    have b:ix (i::is) ((j+1:Nat):Int)=ix is (j:Int):=by simp [ix]
    have e:ix (d::ds) ((j+1:Nat):Int)=ix ds (j:Int):=by simp [ix]
    rw [b,e]
    exact ih h.2 (by simpa using a)
theorem oV {a b M N:Int}(e:0≤a)(h1:a≤M)(h2 : -N≤b)(g:b≤N)(h:0≤N) : -(M*N)≤a*b∧a*b≤M*N:=by
 have k1:a*b≤a*N:=Int.mul_le_mul_of_nonneg_left g e
 have j:a*N≤M*N:=Int.mul_le_mul_of_nonneg_right h1 h
 have i:a*(-N)≤a*b:=Int.mul_le_mul_of_nonneg_left h2 e
 rw [Int.mul_neg] at i
 omega
theorem gY {α:Type}(xs:List α){l:Int}:sub xs l (xs.length:Int)=xs.drop l.toNat:=by simp [sub]
theorem u6 {v:View}{is:List Int}(h:eD v.Dims)(B:v.Strides.length=v.Dims.length)(q:∀ s∈v.Strides,-4096≤s∧s≤4096)(E:0≤v.Offset∧v.Offset≤4096)(i:IV v.Dims is):Z13 v is=some (v.Offset+zs (·*·) is v.Strides):=by
 have m:=i.len
 have D:=h.1
 unfold Z13
 have a:∀ j:Nat,j<is.length → -(4096*4096)≤ix is (j:Int)*ix v.Strides (j:Int)∧ix is (j:Int)*ix v.Strides (j:Int)≤4096*4096:=by
  intro j b
  have h1:=i.mem b
  have h2:=h.2.mem (bE (xs:=v.Dims) (k:=j) (by omega))
  have g:=q _ (bE (xs:=v.Strides) (k:=j) (by omega))
  exact oV h1.1 (by omega) g.1 g.2 (by omega)
 have bd:∀ j,j≤is.length → -(6*(4096*4096))≤zs (·*·) (is.take j) (v.Strides.take j)∧zs (·*·) (is.take j) (v.Strides.take j)≤6*(4096*4096):=by
  intro j b
  have:=vh (·*·) (xs:=is) (ys:=v.Strides) (M:=4096*4096) (by omega) a b
  have e:(j:Int)≤6:=by omega
  have:=Int.mul_le_mul_of_nonneg_right e (show (0:Int)≤4096*4096 by omega)
  omega
 have:=eR (f:=fun s:Int×Int=>Z13_L1 v is s.1 s.2) (r:=v.Offset+zs (·*·) is v.Strides) (fun j=>(v.Offset+zs (·*·) (is.take j) (v.Strides.take j),(j:Int))) is.length
  (fun j b=>by
   have t:=a j b
   have l:=bd (j+1) (by omega)
   have u:=bd j (by omega)
   rw [kA (·*·) b (by omega)] at l
   simp only [Z13_L1]
   rw [if_pos (by simp; omega),if_pos (by omega),if_pos (by omega),aZ (n:=ix is (j:Int)*ix v.Strides (j:Int)) (by omega) (by omega),aZ (by omega) (by omega),bX (by unfold cA; omega),kA (·*·) b (by omega),Int.add_assoc])
  (by simp only [Z13_L1]; rw [if_neg (by simp),List.take_length,List.take_of_length_le (by omega)])
  (s:=(v.Offset,0)) (by simp [zs])
 rw [this]
 rfl
def mQ (a ss:List Int)(b:Int):List Int:=(List.range (pr a).toNat).map fun k:Nat=>b+zs (·*·) (gU a (k:Int)) ss
theorem pT {v:View}(h:eD v.Dims)(a:v.Strides.length=v.Dims.length)(g:∀ s∈v.Strides,-4096≤s∧s≤4096)(b:0≤v.Offset∧v.Offset≤4096):Z09 v=some (mQ v.Dims v.Strides v.Offset):=by
 have l:=h.1
 have m:=h.2.pos
 have e:=h.2.2
 unfold Z09
 rw [jd (by unfold cA; omega),if_pos h.2]
 simp only [Option.bind_some]
 have:=eR (f:=fun s:List Int×Int=>Z09_L1 v (pr v.Dims) s.1 s.2) (r:=mQ v.Dims v.Strides v.Offset) (fun j=>((List.range j).map fun k:Nat=>v.Offset+zs (·*·) (gU v.Dims (k:Int)) v.Strides,(j:Int))) (pr v.Dims).toNat
  (fun j i=>by
   simp only [Z09_L1]
   rw [if_pos (by simp; omega),jf h (by omega) (by omega)]
   simp only [Option.bind_some]
   rw [u6 h a g b (gV h.2.1 _)]
   simp only [Option.bind_some]
   rw [if_pos (by simp; omega),bX (by unfold cA; omega),List.range_succ,List.map_append]
   rfl)
  (by simp only [Z09_L1]; rw [if_neg (by simp; omega)]; rfl)
  (s:=([],0)) rfl
 rw [this]
 rfl
theorem og (ss:List Int)(h:∀ s∈ss,-4096≤s∧s≤4096):(ss.all fun x=>!(decide (x < -4096)||decide (x>4096)))=true:=by
 rw [List.all_eq_true]
 intro x a
 have:=h x a
 simp; omega
theorem kf {v:View}(h:VG v.Dims v.Strides v.Offset v.Base):Z8 v=some true:=by
 have B:=h.d.1
 have g:=h.l
 have u:=h.b
 have D:=h.o
 unfold Z8
 rw [fX (by unfold cA; omega)]
 simp only [h.d,decide_true,Option.bind_some]
 rw [if_neg (by simp; omega)]
 have q:=dV v.Strides (fun s:Int=>Z8_L1 v s) (fun i=>i) (fun x=>!(decide (x < -4096)||decide (x>4096))) (.inl false) (.inr ())
  (fun k a=>by
   simp only [Z8_L1]
   rw [if_pos (by simp; omega),if_pos (by omega),bX (by unfold cA; omega)]
   cases (decide (ix v.Strides (k:Int) < -4096)||decide (ix v.Strides (k:Int)>4096))<;>rfl)
  (by simp only [Z8_L1]; rw [if_neg (by simp)])
 rw [q,og _ h.s]
 simp only [if_true,Option.bind_some,Z8_J1]
 rw [pT h.d g h.s ⟨by omega,by omega⟩]
 simp only [Option.bind_some]
 have j:(mQ v.Dims v.Strides v.Offset).length≤4096:=by have:=h.d.2.2; simp [mQ]; omega
 have r:=dV (mQ v.Dims v.Strides v.Offset) (fun s:Int=>Z8_L2 v (mQ v.Dims v.Strides v.Offset) s) (fun i=>i) (fun x=>!(decide (x<0)||decide (x≥v.Base))) (.inl false) (.inr ())
  (fun k a=>by
   simp only [Z8_L2]
   rw [if_pos (by simp; omega),if_pos (by omega),bX (by unfold cA; omega)]
   cases (decide (ix (mQ v.Dims v.Strides v.Offset) (k:Int)<0)||decide (ix (mQ v.Dims v.Strides v.Offset) (k:Int)≥v.Base))<;>rfl)
  (by simp only [Z8_L2]; rw [if_neg (by simp)])
 have e:((mQ v.Dims v.Strides v.Offset).all fun x=>!(decide (x<0)||decide (x≥v.Base)))=true:=by
  rw [List.all_eq_true]
  intro x m
  obtain ⟨k,_,rfl⟩:=List.mem_map.1 m
  have:=h.place (gV h.d.2.1 (k:Int))
  simp; omega
 rw [r,e]
 rfl
theorem u7:Z8 ⟨[],[],0,0⟩=some false:=by
 unfold Z8
 rw [fX (by simp [cA])]
 rfl
theorem u9:Zh ⟨[],[],0,0⟩=some false:=by
 unfold Zh
 rw [gT (by simp [cA])]
 rfl
theorem kg {v:View}(h:VG v.Dims v.Strides v.Offset v.Base):Zh v=some true:=by
 have U:=h.d.1
 have O:=h.l
 have L:=h.b
 have Y:=h.o
 unfold Zh
 rw [gT (by unfold cA; omega)]
 simp only [h.d,decide_true,Option.bind_some]
 rw [if_neg (by simp; omega)]
 have e:∀ j:Nat,j<v.Dims.length → -(4096*4096)≤ix v.Strides (j:Int)*(ix v.Dims (j:Int) - 1)∧ix v.Strides (j:Int)*(ix v.Dims (j:Int) - 1)≤4096*4096:=by
  intro j a
  have h2:=h.d.2.mem (bE (xs:=v.Dims) (k:=j) a)
  have i:=h.s _ (bE (xs:=v.Strides) (k:=j) (by omega))
  rw [Int.mul_comm (ix v.Strides (j:Int))]
  exact oV (by omega) (by omega) i.1 i.2 (by omega)
 have bd:∀ (f:Int→Int→Int),(f=lw∨f=hw)→∀ j,j≤v.Dims.length → -(6*(4096*4096))≤zs f (v.Dims.take j) (v.Strides.take j)∧zs f (v.Dims.take j) (v.Strides.take j)≤6*(4096*4096):=by
  intro f D j a
  have:=vh f (xs:=v.Dims) (ys:=v.Strides) (M:=4096*4096) (by omega) (fun j a=>by
   have:=e j a
   rcases D with rfl | rfl
   ·unfold lw; split<;>omega
   ·unfold hw; split<;>omega) a
  have g:(j:Int)≤6:=by omega
  have:=Int.mul_le_mul_of_nonneg_right g (show (0:Int)≤4096*4096 by omega)
  omega
 have:=eR (f:=fun s:Int×Int×Int=>Zh_L1 v s.1 s.2.1 s.2.2) (r:=.inr (v.Offset+zs lw v.Dims v.Strides,v.Offset+zs hw v.Dims v.Strides)) (fun j=>(v.Offset+zs lw (v.Dims.take j) (v.Strides.take j),v.Offset+zs hw (v.Dims.take j) (v.Strides.take j),(j:Int))) v.Dims.length
  (fun j a=>by
   have t:=e j a
   have a0:=bd lw (.inl rfl) j (by omega)
   have G:=bd lw (.inl rfl) (j+1) (by omega)
   have I:=bd hw (.inr rfl) j (by omega)
   have J:=bd hw (.inr rfl) (j+1) (by omega)
   have E:=kA lw (xs:=v.Dims) (ys:=v.Strides) (j:=j) (by omega) (by omega)
   have F:=kA hw (xs:=v.Dims) (ys:=v.Strides) (j:=j) (by omega) (by omega)
   have Z:=h.s _ (bE (xs:=v.Strides) (k:=j) (by omega))
   have T:=h.d.2.mem (bE (xs:=v.Dims) (k:=j) a)
   simp only [Zh_L1]
   rw [if_pos (by simp; omega),if_pos (by omega),if_neg (by simp; omega),if_pos (by omega)]
   have m:aG (ix v.Dims (j:Int) - 1)=ix v.Dims (j:Int) - 1:=aZ (by omega) (by omega)
   have q:aG (ix v.Strides (j:Int)*(ix v.Dims (j:Int) - 1))=ix v.Strides (j:Int)*(ix v.Dims (j:Int) - 1):=aZ (by omega) (by omega)
   have u:lw (ix v.Dims (j:Int)) (ix v.Strides (j:Int))=if ix v.Strides (j:Int)*(ix v.Dims (j:Int) - 1)<0 then ix v.Strides (j:Int)*(ix v.Dims (j:Int) - 1) else 0:=rfl
   have B:hw (ix v.Dims (j:Int)) (ix v.Strides (j:Int))=if ix v.Strides (j:Int)*(ix v.Dims (j:Int) - 1)>0 then ix v.Strides (j:Int)*(ix v.Dims (j:Int) - 1) else 0:=rfl
   rw [m,q,← u,← B,aZ (by omega) (by omega),aZ (by omega) (by omega),bX (by unfold cA; omega),E,F,Int.add_assoc,Int.add_assoc])
  (by simp only [Zh_L1]; rw [if_neg (by simp; omega),List.take_length,List.take_of_length_le (by omega)])
  (s:=(v.Offset,v.Offset,0)) (by simp [zs])
 rw [this]
 have:=h.lo
 have:=h.hi
 simp only [Option.bind_some,Zh_J1]
 congr 1
 simp; omega
def qZ:List Int→List Int
 | []=>[]
 | _::ds=>pr ds::qZ ds
def eH:List Int→List Int
 | []=>[]
 | d::ds=>(if d>1 then pr ds else 0)::eH ds
theorem iu (ds:List Int):(qZ ds).length=ds.length:=by
 induction ds with
 | nil=>rfl
 | cons d ds ih=>simp [qZ,ih]
theorem dC (ds:List Int):(eH ds).length=ds.length:=by
 induction ds with
 | nil=>rfl
 | cons d ds ih=>simp [eH,ih]
theorem dG {α:Type}[Inhabited α](x:α)(xs:List α)(j:Nat):ix (x::xs) ((j+1:Nat):Int)=ix xs (j:Int):=by simp [ix]
theorem sj {ds:List Int}{j:Nat}(h:j<ds.length):ix (qZ ds) (j:Int)=pr (ds.drop (j+1)):=by
 induction ds generalizing j with
 | nil=>simp at h
 | cons d ds ih=>cases j with
  | zero=>rfl
  | succ j=>rw [qZ,dG,ih (by simpa using h)]; rfl
theorem oW {ds:List Int}{j:Nat}(h:j<ds.length):ix (eH ds) (j:Int)=if ix ds (j:Int)>1 then pr (ds.drop (j+1)) else 0:=by
 induction ds generalizing j with
 | nil=>simp at h
 | cons d ds ih=>cases j with
  | zero=>rfl
  | succ j=>rw [eH,dG,dG,ih (by simpa using h)]; rfl
theorem sk {L xs:List Int}(b:L.length=xs.length){j:Nat}(a:j<xs.length):(L.take j++xs.drop j).set j (ix L (j:Int))=L.take (j+1)++xs.drop (j+1):=by
 rw [bV (by omega),List.set_append_right _ _ (by simp; omega),List.take_succ_eq_append_getElem (by omega)]
 have:j - (L.take j).length=0:=by simp; omega
 rw [this,List.drop_eq_getElem_cons a,List.set_cons_zero,List.append_assoc]
 rfl
theorem pU {L xs:List Int}(b:L.length=xs.length){j:Nat}(a:j<xs.length)(h:ix L (j:Int)=ix xs (j:Int)):L.take j++xs.drop j=L.take (j+1)++xs.drop (j+1):=by
 rw [bV (by omega),bV a] at h
 rw [List.take_succ_eq_append_getElem (by omega),List.drop_eq_getElem_cons a,h]
 simp
theorem fO {ds:List Int}(h:SZ ds):∀ s∈eH ds,0≤s∧s≤4096:=by
 induction ds with
 | nil=>intro s b; cases b
 | cons d ds ih =>
  have e:=h.tail.pos
  have a:=h.tail.2
  refine List.forall_mem_cons.2 ⟨?_,ih h.tail⟩
  split<;>omega
theorem sn {ds:List Int}(h:SZ ds):zs lw ds (eH ds)=0:=by
 induction ds with
 | nil=>rfl
 | cons d ds ih =>
  have a:=h.1 d (by simp)
  have b:=h.tail.pos
  simp only [eH,zs,ih h.tail]
  unfold lw
  split
  ·have:=Int.mul_nonneg (show 0≤pr ds by omega) (show 0≤d - 1 by omega); split<;>omega
  ·simp
theorem jG {ds:List Int}(h:SZ ds):zs hw ds (eH ds)=pr ds - 1:=by
 induction ds with
 | nil=>rfl
 | cons d ds ih =>
  have a:=h.1 d (by simp)
  have b:=h.tail.pos
  simp only [eH,zs,ih h.tail]
  have e:pr (d::ds)=pr ds*(d - 1)+pr ds:=by simp only [pr]; rw [Int.mul_sub,Int.mul_comm (pr ds) d]; omega
  rw [e]
  unfold hw
  by_cases c:d>1
  ·have:0<pr ds*(d - 1):=Int.mul_pos (by omega) (by omega)
   rw [if_pos c,if_pos this]; omega
  ·have:d=1:=by omega
   subst this; simp
theorem sq {ds:List Int}(h:eD ds):VG ds (eH ds) 0 (pr ds):=by
 have b:=h.2.pos
 have a:=h.2.2
 refine ⟨h,dC ds,⟨b,a⟩,⟨by omega,by omega⟩,fun s e=>by have:=fO h.2 s e; omega,?_,?_⟩
 ·rw [sn h.2]; decide
 ·rw [jG h.2]; omega
theorem qt {ds is:List Int}(a:IV ds is):zs (·*·) is (eH ds)=lG ds is:=by
 induction ds generalizing is with
 | nil=>cases is with
  | nil=>rfl
  | cons=>exact a.elim
 | cons d ds ih=>cases is with
  | nil=>exact a.elim
  | cons i is =>
   have:=a.1
   simp only [eH,zs,lG,ih a.2]
   split
   ·rfl
   ·have:i=0:=by omega
    subst this; simp
theorem mR {ds:List Int}(h:SZ ds):mQ ds (eH ds) 0=(List.range (pr ds).toNat).map fun k:Nat=>(k:Int):=by
 unfold mQ
 refine List.map_congr_left fun k a=>?_
 have a:k<(pr ds).toNat:=by simpa using a
 have:=h.pos
 rw [qt (gV h.1 _),qr h.1 (by omega) (by omega)]
 omega
def bW (ds:List Int):View:=⟨ds,eH ds,0,pr ds⟩
def dQ:View:=⟨[],[],0,0⟩
theorem ua {ds:List Int}(h:eD ds):Z0f ⟨ds,qZ ds,0,pr ds⟩=some (bW ds):=by
 have g:=h.1
 unfold Z0f
 have:=eR (f:=fun s:Int×List Int=>Z0f_L1 ⟨ds,qZ ds,0,pr ds⟩ s.1 s.2) (r:=eH ds) (fun j=>((j:Int),(eH ds).take j++(qZ ds).drop j)) ds.length
  (fun j a=>by
   have b:=h.2.mem (bE a)
   simp only [Z0f_L1,Z0f_J2]
   rw [if_pos (by simp; omega),if_pos (by omega)]
   by_cases c:ix ds (j:Int)=1
   ·rw [if_pos (by simp [c]),if_pos (by rw [iu]; omega),bX (by unfold cA; omega)]
    have e:=sk (L:=eH ds) (xs:=qZ ds) (by rw [dC,iu]) (j:=j) (by rw [iu]; omega)
    rw [oW a,if_neg (by omega)] at e
    simp only [Int.toNat_natCast]
    rw [e]
   ·rw [if_neg (by simp [c]),bX (by unfold cA; omega),pU (by rw [dC,iu]) (by rw [iu]; omega) (by rw [oW a,sj a,if_pos (by omega)])])
  (by simp only [Z0f_L1]; rw [if_neg (by simp)]; rw [List.take_of_length_le (by rw [dC]; omega),List.drop_of_length_le (by rw [iu]; omega),List.append_nil])
  (s:=(0,qZ ds)) (by simp)
 rw [this]
 rfl
theorem jS {ds:List Int}(h:eD ds):Zv ds=some (bW ds):=by
 have b:=h.1
 unfold Zv
 rw [fX (by unfold cA; omega)]
 simp only [h,decide_true,Option.bind_some,Bool.not_true,Bool.false_eq_true,if_false]
 rw [hJ (by omega),jd (by unfold cA; omega),if_pos h.2]
 simp only [Option.bind_some]
 have:=eR (f:=fun s:List Int×Int=>Zv_L1 ds s.1 s.2) (r:=qZ ds) (fun j=>((qZ ds).take j,(j:Int))) ds.length
  (fun j a=>by
   simp only [Zv_L1]
   rw [if_pos (by simp; omega),bX (by unfold cA; omega),if_pos (by omega),gY,Int.toNat_natCast,jd (by simp [cA]; omega),if_pos (h.2.drop (j+1))]
   simp only [Option.bind_some]
   rw [if_pos (by simp; omega),List.take_succ_eq_append_getElem (by rw [iu]; omega),← sj a,bV (by rw [iu]; omega)])
  (by simp only [Zv_L1]; rw [if_neg (by simp),List.take_of_length_le (by rw [iu]; omega)])
  (s:=([],0)) rfl
 rw [this]
 simp only [Option.bind_some,Zv_J1]
 rw [ua h]
 rfl
theorem nj {ds:List Int}(h:eD ds):Z04 ds=some (eH ds):=by
 have E:=h.1
 unfold Z04
 rw [if_pos (by omega)]
 have:=eR (f:=fun s:List Int×Int×Int=>Z04_L1 ds s.1 s.2.1 s.2.2) (r:=eH ds)
  (fun j=>(List.replicate (ds.length - j) 0++eH (ds.drop (ds.length - j)),pr (ds.drop (ds.length - j)),(ds.length:Int) - 1 - j)) ds.length
  (fun j B=>by
   obtain ⟨i,q⟩:∃ i,i=ds.length - (j+1):=⟨_,rfl⟩
   have l:ds.length - j=i+1:=by omega
   have m:(ds.length:Int) - 1 - (j:Int)=(i:Int):=by omega
   have a:i<ds.length:=by omega
   have D:=h.2.mem (bE a)
   have F:=(h.2.drop (i+1)).pos
   have u:=(h.2.drop (i+1)).2
   have b:ds.drop i=ix ds (i:Int)::ds.drop (i+1):=by rw [List.drop_eq_getElem_cons a,bV a]
   have e:pr (ds.drop i)=pr (ds.drop (i+1))*ix ds (i:Int):=by rw [b]; simp [pr,Int.mul_comm]
   simp only [Z04_L1,Z04_J2,l,m,← q]
   rw [if_pos (by simp),if_pos (by omega)]
   have g:aG ((i:Int) - 1)=(ds.length:Int) - 1 - ((j+1:Nat):Int):=by rw [aZ (by omega) (by omega)]; omega
   by_cases c:ix ds (i:Int)>1
   ·rw [if_pos (by simp; omega),if_pos (by simp; omega),if_pos (by omega),hY (by omega) (by omega) (by omega) (by omega),← e,g]
    congr 3
    rw [b,List.replicate_succ',List.set_append_left _ _ (by simp),List.set_append_right _ _ (by simp)]
    simp [eH,c]
   ·rw [if_neg (by simp; omega),if_pos (by omega),hY (by omega) (by omega) (by omega) (by omega),← e,g]
    congr 3
    rw [b,List.replicate_succ']
    simp [eH,c])
  (by
   simp only [Z04_L1,Nat.sub_self,List.drop_zero,List.replicate_zero,List.nil_append]
   rw [if_neg (by simp; omega)])
  (s:=(List.replicate (ds.length:Int).toNat 0,1,aG ((ds.length:Int) - 1))) (by
   rw [aZ (by omega) (by omega)]
   simp [pr,eH])
 rw [this]
 rfl
theorem kB {ds:List Int}(h:eD ds):Z2m ds=some (bW ds):=by
 have a:=h.1
 unfold Z2m
 rw [gT (by unfold cA; omega)]
 simp only [h,decide_true,Option.bind_some,Bool.not_true,Bool.false_eq_true,if_false]
 rw [gX (by omega),nj h,kZ (by unfold cA; omega) h.2]
 rfl
def fP (n:Nat):List Int:=List.replicate n 0
def oX:List Int→List Int→Option (List Int)
 | d::ds,i::is=>match oX ds is with
  | some q=>some (i::q)
  | none=>if i+1<d then some ((i+1)::fP ds.length) else none
 | _,_=>none
theorem sr {ds is:List Int}(h:is.length=ds.length)(d i:Int):oX (ds++[d]) (is++[i])=if i+1<d then some (is++[i+1]) else (oX ds is).map (·++[0]):=by
 induction ds generalizing is with
 | nil=>cases is with
  | nil=>simp [oX,fP]
  | cons=>simp at h
 | cons e ds ih=>cases is with
  | nil=>simp at h
  | cons j is =>
   have:=ih (is:=is) (by simpa using h)
   simp only [List.cons_append,oX,this]
   by_cases c:i+1<d
   ·simp [c]
   ·simp only [c,if_false]
    cases oX ds is with
    | some q=>simp
    | none =>
     simp only [Option.map_none]
     split
     ·simp [fP,List.replicate_succ']
     ·simp
theorem pV {ds:List Int}(h:∀ d∈ds,1≤d){m:Int}(r:m % pr ds=0):gU ds m=fP ds.length:=by
 induction ds generalizing m with
 | nil=>rfl
 | cons d ds ih =>
  have i:1≤pr ds:=fE fun x g=>h x (by simp [g])
  have q:=h d (by simp)
  have e:=(sd (k:=m) i q).2
  have a:=Int.emod_nonneg m (show pr ds≠0 by omega)
  have c:=Int.emod_nonneg (m / pr ds) (show d≠0 by omega)
  have u:m % (d*pr ds)=0:=r
  have b:=Int.mul_nonneg c (show 0≤pr ds by omega)
  have s:=iF c i
  have j:m % pr ds=0:=by omega
  have l:m / pr ds % d=0:=by omega
  simp only [gU,l,ih (fun x g=>h x (by simp [g])) j]
  simp [fP,List.replicate_succ]
theorem pW {ds:List Int}(h:∀ d∈ds,1≤d)(k:Int):oX ds (gU ds k)=if k % pr ds+1<pr ds then some (gU ds (k+1)) else none:=by
 induction ds generalizing k with
 | nil=>simp [oX,pr,Int.emod_one]
 | cons d ds ih =>
  have B:1≤pr ds:=fE fun x j=>h x (by simp [j])
  have u:=h d (by simp)
  have l:∀ x∈ds,1≤x:=fun x j=>h x (by simp [j])
  have e:=(sd (k:=k) B u).2
  have a:=Int.emod_nonneg k (show pr ds≠0 by omega)
  have D:=Int.emod_lt_of_pos k (show 0<pr ds by omega)
  have c:=Int.emod_nonneg (k / pr ds) (show d≠0 by omega)
  have F:=Int.emod_lt_of_pos (k / pr ds) (show 0<d by omega)
  have G:=Int.mul_ediv_add_emod k (pr ds)
  have i:pr (d::ds)=d*pr ds:=rfl
  have b:(k / pr ds % d+1)*pr ds≤d*pr ds:=Int.mul_le_mul_of_nonneg_right (by omega) (by omega)
  rw [Int.add_mul] at b
  simp only [gU,oX,ih l]
  by_cases q:k % pr ds+1<pr ds
  ·have f:=(Int.ediv_emod_unique (a:=k+1) (b:=pr ds) (r:=k % pr ds+1) (q:=k / pr ds) (by omega)).2 ⟨by omega,by omega,by omega⟩
   simp only [if_pos q,f.1]
   rw [if_pos (show k % pr (d::ds)+1<pr (d::ds) by rw [i,e]; omega)]
  ·have J:k % pr ds=pr ds - 1:=by omega
   have f:=(Int.ediv_emod_unique (a:=k+1) (b:=pr ds) (r:=0) (q:=k / pr ds+1) (by omega)).2 ⟨by rw [Int.mul_add]; omega,by omega,by omega⟩
   simp only [if_neg q,f.1]
   by_cases g:k / pr ds % d+1<d
   ·have I:=Int.mul_ediv_add_emod (k / pr ds) d
    have s:=(Int.ediv_emod_unique (a:=k / pr ds+1) (b:=d) (r:=k / pr ds % d+1) (q:=k / pr ds / d) (by omega)).2 ⟨by omega,by omega,by omega⟩
    have m:(k / pr ds % d+2)*pr ds≤d*pr ds:=Int.mul_le_mul_of_nonneg_right (by omega) (by omega)
    rw [Int.add_mul] at m
    rw [if_pos g,if_pos (show k % pr (d::ds)+1<pr (d::ds) by rw [i,e]; omega),s.2,pV l f.2]
   ·have g1:k / pr ds % d=d - 1:=by omega
    have E:k / pr ds % d*pr ds=d*pr ds - pr ds:=by rw [g1,Int.sub_mul]; omega
    rw [if_neg g,if_neg (show ¬ k % pr (d::ds)+1<pr (d::ds) by rw [i,e]; omega)]
theorem wo (f:Int→Int→Int){xs ys:List Int}{j:Nat}{a:Int}(b:j<xs.length)(e:j<ys.length):zs f (xs.set j a) ys=zs f xs ys - f (ix xs (j:Int)) (ix ys (j:Int))+f a (ix ys (j:Int)):=by
 induction xs generalizing ys j with
 | nil=>simp at b
 | cons x xs ih=>cases ys with
  | nil=>simp at e
  | cons y ys=>cases j with
   | zero=>simp [zs,ix]; omega
   | succ j =>
    rw [dG,dG,List.set_cons_succ]
    simp only [zs,ih (ys:=ys) (j:=j) (by simpa using b) (by simpa using e)]
    omega
theorem oh {J:Type}{YF:J→Int→Option (J×Bool)}{ds ss:List Int}{m base:Int}(h:VG ds ss m base){is:List Int}(E:IV ds is):∀ p,p≤ds.length →
  (∀ q,oX (ds.take p) (is.take p)=some q→∃ i:Int,0≤i∧aU (fun s:List Int×Int×Int=>Z03_L2 J YF ds ss s.1 s.2.1 s.2.2) (is.take p++fP (ds.length - p),m+zs (·*·) (is.take p++fP (ds.length - p)) ss,(p:Int) - 1)=some (q++fP (ds.length - p),m+zs (·*·) (q++fP (ds.length - p)) ss,i)) ∧
  (oX (ds.take p) (is.take p)=none→∃ x y,aU (fun s:List Int×Int×Int=>Z03_L2 J YF ds ss s.1 s.2.1 s.2.2) (is.take p++fP (ds.length - p),m+zs (·*·) (is.take p++fP (ds.length - p)) ss,(p:Int) - 1)=some (x,y,-1)):=by
 intro p
 have hn:=h.d.1
 have hl:=h.l
 have a6:=E.len
 induction p with
 | zero =>
  intro _
  refine ⟨fun q u=>by simp [oX] at u,fun _=>⟨is.take 0++fP (ds.length - 0),m+zs (·*·) (is.take 0++fP (ds.length - 0)) ss,dN ?_⟩⟩
  simp only [Z03_L2]
  rw [if_neg (by simp)]
  rfl
 | succ p ih =>
  intro F
  obtain ⟨a3,a4⟩:=ih (by omega)
  have hm:=E.mem (j:=p) (by omega)
  have a5:=h.d.2.mem (bE (xs:=ds) (k:=p) (by omega))
  have Y:=h.s _ (bE (xs:=ss) (k:=p) (by omega))
  have ti:is.take (p+1)=is.take p++[ix is (p:Int)]:=by rw [List.take_succ_eq_append_getElem (by omega),bV (by omega)]
  have td:ds.take (p+1)=ds.take p++[ix ds (p:Int)]:=by rw [List.take_succ_eq_append_getElem (by omega),bV (by omega)]
  have U:(is.take p).length=(ds.take p).length:=by simp; omega
  have G:=sr U (ix ds (p:Int)) (ix is (p:Int))
  rw [← ti,← td] at G
  obtain ⟨g,r⟩:∃ g,g=is.take (p+1)++fP (ds.length - (p+1)):=⟨_,rfl⟩
  have a1:g.length=ds.length:=by rw [r]; simp [fP]; omega
  have T:ix g (p:Int)=ix is (p:Int):=by
   have a2:p<g.length:=by omega
   rw [bV a2,bV (by omega)]
   subst r
   rw [List.getElem_append_left (by simp; omega)]
   simp
  have B:∀ a:Int,g.set p a=is.take p++a::fP (ds.length - (p+1)):=by
   intro a
   rw [r,ti,List.append_assoc,List.set_append_right _ _ (by simp; omega)]
   have:p - (is.take p).length=0:=by simp; omega
   rw [this]
   rfl
  have L:∀ a:Int,0≤a→a<ix ds (p:Int)→0≤m+zs (·*·) (g.set p a) ss∧m+zs (·*·) (g.set p a) ss≤4096:=by
   intro a h0 h1
   have a0:∀ (ds is:List Int),IV ds is→(∀ d∈ds,1≤d)→∀ p,p<ds.length→0≤a→a<ix ds (p:Int)→IV ds (is.take p++a::fP (ds.length - (p+1))):=by
    intro ds
    induction ds with
    | nil=>intro is _ _ p F; simp at F
    | cons d ds ihd =>
     intro is E D p F h0 h1
     cases is with
     | nil=>exact E.elim
     | cons i is =>
      cases p with
      | zero =>
       refine ⟨⟨h0,h1⟩,?_⟩
       have hz:∀ ds:List Int,(∀ d∈ds,1≤d)→IV ds (fP ds.length):=by
        intro ds
        induction ds with
        | nil=>intro _; trivial
        | cons d ds ihz=>intro F; exact ⟨⟨Int.le_refl 0,by have:=F d (by simp); omega⟩,ihz fun x Z=>F x (by simp [Z])⟩
       exact hz ds fun x Z=>D x (by simp [Z])
      | succ p =>
       rw [dG] at h1
       have:=ihd is E.2 (fun x Z=>D x (by simp [Z])) p (by simpa using F) h0 h1
       refine ⟨E.1,?_⟩
       simpa using this
   have:=h.place (a0 ds is E h.d.2.1 p (by omega) h0 h1)
   have:=h.b
   rw [B]
   omega
  have I:=fun a=>wo (·*·) (xs:=g) (ys:=ss) (j:=p) (a:=a) (by omega) (by omega)
  rw [T] at I
  have b0:=L (ix is (p:Int)) hm.1 hm.2
  have e0:g.set p (ix is (p:Int))=g:=by rw [B,r,ti]; simp
  rw [e0] at b0
  have O:Z03_L2 J YF ds ss g (m+zs (·*·) g ss) ((p+1:Nat) - 1:Int)=if ix is (p:Int)+1<ix ds (p:Int) then some (.inr (g.set p (ix is (p:Int)+1),m+zs (·*·) (g.set p (ix is (p:Int)+1)) ss,(p:Int))) else some (.inl (g.set p 0,m+zs (·*·) (g.set p 0) ss,(p:Int) - 1)):=by
   have ep:((p+1:Nat) - 1:Int)=(p:Int):=by omega
   have w1:aG (ix is (p:Int)+1)=ix is (p:Int)+1:=aZ (by omega) (by omega)
   have w2:aG (m+zs (·*·) g ss+ix ss (p:Int))=m+zs (·*·) g ss+ix ss (p:Int):=aZ (by omega) (by omega)
   have mb:=oV (a:=ix ds (p:Int)) (b:=ix ss (p:Int)) (M:=4096) (N:=4096) (by omega) (by omega) Y.1 Y.2 (by omega)
   rw [Int.mul_comm (ix ds (p:Int))] at mb
   have w3:aG (ix ss (p:Int)*ix ds (p:Int))=ix ss (p:Int)*ix ds (p:Int):=aZ (by omega) (by omega)
   have e1:ix (g.set p (ix is (p:Int)+1)) (p:Int)=ix is (p:Int)+1:=by rw [bV (by simp; omega)]; simp
   rw [ep]
   simp only [Z03_L2,Int.toNat_natCast,T,w1,w2,w3,e1]
   rw [if_pos (by simp),if_pos (by simp; omega),if_pos (by omega),if_pos (by omega)]
   by_cases c:ix is (p:Int)+1<ix ds (p:Int)
   ·rw [if_pos (by simpa using c),if_pos c,I (ix is (p:Int)+1),Int.add_mul]
    congr 4
    omega
   ·rw [if_neg (by simpa using c),if_neg c]
    have em:ix ss (p:Int)*ix ds (p:Int)=ix is (p:Int)*ix ss (p:Int)+ix ss (p:Int):=by
     rw [show ix ds (p:Int)=ix is (p:Int)+1 by omega,Int.mul_add,Int.mul_comm]; omega
    have bz:=L 0 (by omega) (by omega)
    have z0:=I 0
    simp only [Int.zero_mul] at z0
    rw [nm,Option.bind_some,List.set_set,aZ (by omega) (by omega),aZ (by omega) (by omega),z0]
    congr 4
    omega
  rw [← r]
  by_cases c:ix is (p:Int)+1<ix ds (p:Int)
  ·rw [if_pos c] at O G
   refine ⟨fun q u=>⟨(p:Int),by omega,?_⟩,fun u=>by rw [G] at u; cases u⟩
   rw [G] at u
   cases u
   rw [dN O,B]
   simp
  ·rw [if_neg c] at O G
   have e2:g.set p 0=is.take p++fP (ds.length - p):=by
    rw [B,show ds.length - p=(ds.length - (p+1))+1 by omega]; rfl
   rw [e2] at O
   rw [eL O]
   refine ⟨fun q u=>?_,fun u=>a4 (by rw [G] at u; simpa using u)⟩
   rw [G] at u
   cases e:oX (ds.take p) (is.take p) with
   | none=>rw [e] at u; cases u
   | some q' =>
    rw [e] at u
    cases u
    obtain ⟨i,h1,h2⟩:=a3 q' e
    refine ⟨i,h1,?_⟩
    rw [h2]
    have:fP (ds.length - p)=0::fP (ds.length - (p+1)):=by rw [show ds.length - p=(ds.length - (p+1))+1 by omega]; rfl
    rw [this]
    simp
theorem qu {g:Type}{YF:g→Int→Option (g×Bool)}{ds ss:List Int}{b base:Int}(h:VG ds ss b base)(I:Nat→g→Prop)
  (u:∀ (k:Nat) y,(k:Int)<pr ds→I k y→∃ a,YF y (b+zs (·*·) (gU ds (k:Int)) ss)=some (a,true)∧I (k+1) a) {y:g} (F:I 0 y) :
  ∃ a,Z03 g YF y ds b ss=some a∧I (pr ds).toNat a:=by
 have M:=h.d.1
 have O:=h.d.2.pos
 unfold Z03
 rw [if_pos (by omega)]
 have r:∀ m k y,k+1+m=(pr ds).toNat→I k y→∃ a,aU (fun s:List Int×Int×g=>Z03_L1 g YF ds ss s.1 s.2.1 s.2.2) (gU ds (k:Int),b+zs (·*·) (gU ds (k:Int)) ss,y)=some a∧I (pr ds).toNat a:=by
  intro m
  induction m with
  | zero =>
   intro k y G q
   obtain ⟨a,h1,h2⟩:=u k y (by omega) q
   obtain ⟨_,j⟩:=oh (YF:=YF) h (gV h.d.2.1 (k:Int)) ds.length (Nat.le_refl _)
   rw [List.take_length,List.take_of_length_le (by rw [je]; omega),Nat.sub_self] at j
   have e:oX ds (gU ds (k:Int))=none:=by
    rw [pW h.d.2.1,Int.emod_eq_of_lt (by omega) (by omega),if_neg (by omega)]
   obtain ⟨x,z,l⟩:=j e
   refine ⟨a,dN ?_,by rw [show (pr ds).toNat=k+1 by omega]; exact h2⟩
   simp only [Z03_L1,h1,Option.bind_some,Bool.not_true,Bool.false_eq_true,if_false]
   rw [aZ (by omega) (by omega)]
   simp only [fP,List.replicate_zero,List.append_nil] at l
   rw [l]
   rfl
  | succ m ih =>
   intro k y G q
   obtain ⟨a,h1,h2⟩:=u k y (by omega) q
   obtain ⟨j,_⟩:=oh (YF:=YF) h (gV h.d.2.1 (k:Int)) ds.length (Nat.le_refl _)
   rw [List.take_length,List.take_of_length_le (by rw [je]; omega),Nat.sub_self] at j
   have e:oX ds (gU ds (k:Int))=some (gU ds ((k:Int)+1)):=by
    rw [pW h.d.2.1,Int.emod_eq_of_lt (by omega) (by omega),if_pos (by omega)]
   obtain ⟨i,L,l⟩:=j _ e
   have B:(k:Int)+1=((k+1:Nat):Int):=by omega
   have J:=eL (f:=fun s:List Int×Int×g=>Z03_L1 g YF ds ss s.1 s.2.1 s.2.2) (s:=(gU ds (k:Int),b+zs (·*·) (gU ds (k:Int)) ss,y)) (s':=(gU ds ((k+1:Nat):Int),b+zs (·*·) (gU ds ((k+1:Nat):Int)) ss,a)) (by
    simp only [Z03_L1,h1,Option.bind_some,Bool.not_true,Bool.false_eq_true,if_false]
    rw [aZ (by omega) (by omega)]
    simp only [fP,List.replicate_zero,List.append_nil] at l
    rw [l,B]
    simp only [Option.bind_some,Z03_J2]
    rw [if_neg (by simp; omega)])
   rw [J]
   exact ih (k+1) a (by omega) h2
 obtain ⟨a,h1,h2⟩:=r ((pr ds).toNat - 1) 0 y (by omega) F
 refine ⟨a,?_,h2⟩
 have e:gU ds ((0:Nat):Int)=fP ds.length:=pV h.d.2.1 (by simp)
 have E:∀ (n:Nat) (ss:List Int),zs (·*·) (fP n) ss=0:=by
  intro n
  induction n with
  | zero=>intro ss; simp [fP,zs]
  | succ n ihn=>intro ss; cases ss with
   | nil=>simp [fP,zs]
   | cons s ss=>have:=ihn ss; simp only [fP,List.replicate_succ,zs] at this ⊢; rw [this]; simp
 rw [e,E] at h1
 have D:(ds.length:Int).toNat=ds.length:=by omega
 rw [D]
 simp only [Int.add_zero] at h1
 rw [show List.replicate ds.length (0:Int)=fP ds.length from rfl,h1]
 rfl
theorem ub {v:View}(h:VG v.Dims v.Strides v.Offset v.Base):∃ ps,Z2g v=some (v.Dims,ps,true):=by
 have b:=h.d.2.2
 unfold Z2g
 rw [kg h]
 simp only [Option.bind_some,Bool.not_true,Bool.false_eq_true,if_false,Z36]
 obtain ⟨ps,h1,_⟩:=qu (YF:=fun (s:List pair) (x:Int)=>Z3v s x) h (fun k (y:List pair)=>y.length=k) (fun k y e a=>by
  simp only [Z3v]
  rw [if_pos (by simp; omega)]
  exact ⟨_,rfl,by simp [a]⟩) (y:=[]) rfl
 exact ⟨ps,by rw [h1]; rfl⟩
def lr:List Int→List Int→Bool
 | a::xs,b::ys=>(a==b||a==1)&&lr xs ys
 | _,_=>true
def nC:List Int→List Int→List Int→List Int
 | a::xs,b::ys,s::ss=>(if a=b then s else 0)::nC xs ys ss
 | _,_,_=>[]
theorem jT {xs ys ss:List Int}(h1:ys.length=xs.length)(h2:ss.length=xs.length):(nC xs ys ss).length=xs.length:=by
 induction xs generalizing ys ss with
 | nil=>rfl
 | cons a xs ih=>cases ys with
  | nil=>simp at h1
  | cons b ys=>cases ss with
   | nil=>simp at h2
   | cons s ss=>simp only [nC,List.length_cons]; rw [ih (by simpa using h1) (by simpa using h2)]
theorem wq {xs ys ss:List Int}(h1:ys.length=xs.length)(h2:ss.length=xs.length){j:Nat}(e:j<xs.length):ix (nC xs ys ss) (j:Int)=if ix xs (j:Int)=ix ys (j:Int) then ix ss (j:Int) else 0:=by
 induction xs generalizing ys ss j with
 | nil=>simp at e
 | cons a xs ih=>cases ys with
  | nil=>simp at h1
  | cons b ys=>cases ss with
   | nil=>simp at h2
   | cons s ss=>cases j with
    | zero=>rfl
    | succ j=>rw [nC,dG,dG,dG,dG,ih (by simpa using h1) (by simpa using h2) (by simpa using e)]
theorem pX {xs ys:List Int}(h1:ys.length=xs.length)(h:lr xs ys=true){j:Nat}(e:j<xs.length):ix xs (j:Int)=ix ys (j:Int)∨ix xs (j:Int)=1:=by
 induction xs generalizing ys j with
 | nil=>simp at e
 | cons a xs ih=>cases ys with
  | nil=>simp at h1
  | cons b ys =>
   simp only [lr,Bool.and_eq_true,Bool.or_eq_true,beq_iff_eq] at h
   cases j with
   | zero=>exact h.1
   | succ j=>rw [dG,dG]; exact ih (by simpa using h1) h.2 (by simpa using e)
theorem pY {xs ys:List Int}(h1:ys.length=xs.length)(h:lr xs ys=false):∃ m,m<xs.length∧ix xs (m:Int)≠ix ys (m:Int)∧ix xs (m:Int)≠1∧∀ j:Nat,j<m→ix xs (j:Int)=ix ys (j:Int)∨ix xs (j:Int)=1:=by
 induction xs generalizing ys with
 | nil=>simp [lr] at h
 | cons a xs ih=>cases ys with
  | nil=>simp at h1
  | cons b ys =>
   by_cases c:a=b∨a=1
   ·have:lr xs ys=false:=by
     simp only [lr] at h
     rcases c with c | c<;>simpa [c] using h
    obtain ⟨m,g,i,l,q⟩:=ih (by simpa using h1) this
    refine ⟨m+1,by simpa using g,by rw [dG,dG]; exact i,by rw [dG]; exact l,?_⟩
    intro j r
    cases j with
    | zero=>exact c
    | succ j=>rw [dG,dG]; exact q j (by omega)
   ·exact ⟨0,by simp,fun e=>c (.inl e),fun e=>c (.inr e),fun j r=>by omega⟩
theorem su (f:Int→Int→Int){a b c e:List Int}(h:a.length=b.length):zs f (a++c) (b++e)=zs f a b+zs f c e:=by
 induction a generalizing b with
 | nil=>cases b with
  | nil=>simp [zs]
  | cons=>simp at h
 | cons x a ih=>cases b with
  | nil=>simp at h
  | cons y b=>simp only [List.cons_append,zs,ih (b:=b) (by simpa using h)]; omega
theorem wr (f:Int→Int→Int)(a:∀ d,f d 0=0)(ds:List Int)(n:Nat):zs f ds (fP n)=0:=by
 induction ds generalizing n with
 | nil=>simp [zs]
 | cons d ds ih=>cases n with
  | zero=>simp [fP,zs]
  | succ n=>have:=ih n; simp only [fP,List.replicate_succ,zs,a] at this ⊢; omega
theorem B6 (d:Int):hw d 0=0:=by simp [hw]
theorem ws {d s:Int}(b:1≤d)(a:0≤s):lw d s=0:=by
 have:=Int.mul_nonneg a (show 0≤d - 1 by omega)
 unfold lw; split<;>omega
theorem iG {d s:Int}(b:1≤d)(a:0≤s):hw d s=s*(d - 1):=by
 have:=Int.mul_nonneg a (show 0≤d - 1 by omega)
 unfold hw; split<;>omega
theorem oY {ds ss:List Int}(b:∀ d∈ds,1≤d)(e:∀ s∈ss,0≤s):zs lw ds ss=0:=by
 induction ds generalizing ss with
 | nil=>simp [zs]
 | cons d ds ih=>cases ss with
  | nil=>simp [zs]
  | cons s ss =>
   simp only [zs,ws (b d (by simp)) (e s (by simp)),ih (ss:=ss) (fun x a=>b x (by simp [a])) (fun x a=>e x (by simp [a]))]
   omega
theorem wt {xs ys ss:List Int}(e:∀ d∈xs,1≤d)(l:∀ d∈ys,1≤d)(i:∀ s∈ss,0≤s):zs hw ys (nC xs ys ss)≤zs hw xs ss∧∀ s∈nC xs ys ss,0≤s:=by
 induction xs generalizing ys ss with
 | nil=>cases ys<;>simp [nC,zs]
 | cons a xs ih=>cases ys with
  | nil =>
   refine ⟨?_,by simp [nC]⟩
   have j:∀ (xs ss:List Int),(∀ d∈xs,1≤d)→(∀ s∈ss,0≤s)→0≤zs hw xs ss:=by
    intro xs
    induction xs with
    | nil=>intro ss _ _; simp [zs]
    | cons d ds ihh=>intro ss h1 h2; cases ss with
     | nil=>simp [zs]
     | cons s ss =>
      have:=ihh ss (fun x e=>h1 x (by simp [e])) (fun x e=>h2 x (by simp [e]))
      have u:=iG (h1 d (by simp)) (h2 s (by simp))
      have B:=Int.mul_nonneg (h2 s (by simp)) (show 0≤d - 1 by have:=h1 d (by simp); omega)
      simp only [zs]; omega
   simpa [zs] using j (a::xs) ss e i
  | cons b ys=>cases ss with
   | nil=>simp [nC,zs]
   | cons s ss =>
    obtain ⟨h1,h2⟩:=ih (ys:=ys) (ss:=ss) (fun x h=>e x (by simp [h])) (fun x h=>l x (by simp [h])) (fun x h=>i x (by simp [h]))
    have m:=e a (by simp)
    have D:=l b (by simp)
    have g:=i s (by simp)
    have q:=iG m g
    have r:=Int.mul_nonneg g (show 0≤a - 1 by omega)
    refine ⟨?_,?_⟩
    ·simp only [nC,zs]
     split
     ·rename_i c; subst c; omega
     ·rw [B6]; omega
    ·simp only [nC]
     refine List.forall_mem_cons.2 ⟨?_,h2⟩
     split<;>omega
theorem iK {ds:List Int}(h:eD ds):VG (bW ds).Dims (bW ds).Strides (bW ds).Offset (bW ds).Base:=sq h
def js (ds d:List Int):List Int:=fP (d.length - ds.length)++nC ds (d.drop (d.length - ds.length)) (eH ds)
theorem mS {ds d:List Int}(h:eD ds)(l:eD d)(G:ds.length≤d.length):VG d (js ds d) 0 (pr ds):=by
 have F:=h.2.pos
 have q:=h.2.2
 have m:(d.drop (d.length - ds.length)).length=ds.length:=by simp; omega
 have r:∀ s∈eH ds,0≤s:=fun s g=>(fO h.2 s g).1
 obtain ⟨h1,h2⟩:=wt (ys:=d.drop (d.length - ds.length)) h.2.1 (fun x u=>l.2.1 x (List.mem_of_mem_drop u)) r
 have i:∀ s∈js ds d,0≤s:=by
  intro s g
  rcases List.mem_append.1 g with g | g
  ·have:=(List.mem_replicate.1 g).2; omega
  ·exact h2 s g
 have E:d=d.take (d.length - ds.length)++d.drop (d.length - ds.length):=(List.take_append_drop _ _).symm
 have D:zs hw d (js ds d)≤pr ds - 1:=by
  have e:zs hw d (js ds d)=zs hw (d.take (d.length - ds.length)++d.drop (d.length - ds.length)) (js ds d):=by rw [List.take_append_drop]
  rw [e,js,su _ (by simp [fP]),wr _ B6,← jG h.2]
  omega
 refine ⟨l,by simp only [js,List.length_append,jT m (dC ds)]; simp [fP]; omega,⟨F,q⟩,⟨by omega,by omega⟩,?_,?_,by omega⟩
 ·intro s g
  refine ⟨by have:=i s g; omega,?_⟩
  rcases List.mem_append.1 g with g | g
  ·have:=(List.mem_replicate.1 g).2; omega
  ·have B:∀ (xs ys ss:List Int),(∀ s∈ss,s≤4096)→∀ s∈nC xs ys ss,s≤4096:=by
    intro xs
    induction xs with
    | nil=>intro ys ss _ s g; cases ys<;>simp [nC] at g
    | cons a xs ih=>intro ys ss j; cases ys with
     | nil=>simp [nC]
     | cons b ys=>cases ss with
      | nil=>simp [nC]
      | cons t ss =>
       simp only [nC]
       refine List.forall_mem_cons.2 ⟨?_,ih ys ss fun x u=>j x (by simp [u])⟩
       have:=j t (by simp)
       split<;>omega
   exact B _ _ _ (fun s g=>(fO h.2 s g).2) s g
 ·rw [oY l.2.1 i]; omega
theorem lH {ds d:List Int}(e:ds.length≤d.length)(a:d.length≤6){j:Nat}(b:j<ds.length):aG (aG ((d.length:Int) - (ds.length:Int))+(j:Int))=((d.length - ds.length+j:Nat):Int)∧ix d ((d.length - ds.length+j:Nat):Int)=ix (d.drop (d.length - ds.length)) (j:Int):=by
 refine ⟨by rw [aZ (n:=(d.length:Int) - ds.length) (by omega) (by omega),aZ (by omega) (by omega)]; omega,?_⟩
 rw [bV (by omega),bV (by simp; omega)]
 simp
theorem wu {ds d:List Int}(e:ds.length≤d.length){j:Nat}(b:j<ds.length):ix (js ds d) ((d.length - ds.length+j:Nat):Int)=if ix ds (j:Int)=ix (d.drop (d.length - ds.length)) (j:Int) then ix (eH ds) (j:Int) else 0:=by
 have a:(d.drop (d.length - ds.length)).length=ds.length:=by simp; omega
 rw [← wq a (dC ds) b,bV (by simp only [js,List.length_append,jT a (dC ds)]; simp [fP]; omega),bV (by rw [jT a (dC ds)]; omega)]
 simp only [js]
 rw [List.getElem_append_right (by simp [fP])]
 simp [fP]
theorem mT {ds d:List Int}(h:eD ds)(i:ds.length≤d.length){j:Nat}(g:j<ds.length) :
  (ix ds (j:Int)=ix (d.drop (d.length - ds.length)) (j:Int)→((js ds d).take (d.length - ds.length+j)++(fP d.length).drop (d.length - ds.length+j)).set (d.length - ds.length+j) (ix (eH ds) (j:Int))=(js ds d).take (d.length - ds.length+(j+1))++(fP d.length).drop (d.length - ds.length+(j+1))) ∧
  (ix ds (j:Int)≠ix (d.drop (d.length - ds.length)) (j:Int)→(js ds d).take (d.length - ds.length+j)++(fP d.length).drop (d.length - ds.length+j)=(js ds d).take (d.length - ds.length+(j+1))++(fP d.length).drop (d.length - ds.length+(j+1))):=by
 have a:(d.drop (d.length - ds.length)).length=ds.length:=by simp; omega
 have b:(js ds d).length=(fP d.length).length:=by simp only [js,List.length_append,jT a (dC ds)]; simp [fP]; omega
 have l:(fP d.length).length=d.length:=by simp [fP]
 have e:=wu i g
 constructor
 ·intro c
  rw [if_pos c] at e
  have:=sk b (j:=d.length - ds.length+j) (by omega)
  rw [e] at this
  exact this
 ·intro c
  rw [if_neg c] at e
  refine pU b (by omega) ?_
  rw [e,bV (by omega)]
  simp [fP]
theorem sv {ds d:List Int}(h:eD ds)(l:d.length<cA):Z02 (bW ds) d=some (if eD d∧ds.length≤d.length∧lr ds (d.drop (d.length - ds.length))=true then ⟨d,js ds d,0,pr ds⟩ else dQ):=by
 have O:=h.1
 have b:(bW ds).Dims=ds:=rfl
 have q:(bW ds).Strides=eH ds:=rfl
 have J:=dC ds
 unfold Z02
 rw [kf (iK h)]
 simp only [Option.bind_some,bI,Bool.not_true,Bool.not_false,cond_true,Bool.false_or,fX l]
 by_cases hd:eD d
 ·have i:=hd.1
  simp only [hd,decide_true,Bool.not_true,Bool.false_or,b,true_and]
  by_cases hl:ds.length≤d.length
  ·rw [if_neg (by rw [aZ (by omega) (by omega)]; simp; omega),hJ (by omega)]
   simp only [Option.bind_some]
   rw [if_pos (by omega)]
   have e:(d.drop (d.length - ds.length)).length=ds.length:=by simp; omega
   have a:∀ j:Nat,j<ds.length→(ix ds (j:Int)=ix (d.drop (d.length - ds.length)) (j:Int)∨ix ds (j:Int)=1)→(fun s:List Int×Int=>Z02_L1 (bW ds) d s.1 s.2) ((js ds d).take (d.length - ds.length+j)++(fP d.length).drop (d.length - ds.length+j),(j:Int))=some (.inl ((js ds d).take (d.length - ds.length+(j+1))++(fP d.length).drop (d.length - ds.length+(j+1)),((j+1:Nat):Int))):=by
    intro j g I
    obtain ⟨u,B⟩:=lH (ds:=ds) hl i g
    obtain ⟨L,M⟩:=mT (d:=d) h hl g
    simp only [Z02_L1,Z02_J2,b,q,u,B]
    rw [if_pos (by simp; omega),if_pos (by omega),if_pos (by omega)]
    by_cases c:ix ds (j:Int)=ix (d.drop (d.length - ds.length)) (j:Int)
    ·rw [if_pos (by simp [c]),if_pos (by omega),if_pos (by simp; omega),Int.toNat_natCast,L c,bX (by unfold cA; omega)]
     rfl
    ·rw [if_neg (by simp [c]),if_neg (by simp [I.resolve_left c]),M c,bX (by unfold cA; omega)]
   have D:(List.replicate (d.length:Int).toNat (0:Int),(0:Int))=((js ds d).take (d.length - ds.length+0)++(fP d.length).drop (d.length - ds.length+0),((0:Nat):Int)):=by
    simp only [js,Nat.add_zero]
    rw [List.take_append_of_le_length (by simp [fP]),List.take_of_length_le (by simp [fP])]
    simp [fP]
   by_cases c:lr ds (d.drop (d.length - ds.length))=true
   ·have:=eR (f:=fun s:List Int×Int=>Z02_L1 (bW ds) d s.1 s.2) (r:=.inr (js ds d)) (fun j=>((js ds d).take (d.length - ds.length+j)++(fP d.length).drop (d.length - ds.length+j),(j:Int))) ds.length
     (fun j g=>a j g (pX e c g))
     (by
      simp only [Z02_L1,b]
      rw [if_neg (by simp),show d.length - ds.length+ds.length=d.length by omega,List.take_of_length_le (by simp only [js,List.length_append,jT e (dC ds)]; simp [fP]; omega),List.drop_of_length_le (by simp [fP])]
      simp) D
    rw [this]
    simp [c,hl,Z02_J3]
    exact ⟨rfl,rfl⟩
   ·obtain ⟨m,g1,E,F,G⟩:=pY e (by simpa using c)
    have:=eR (f:=fun s:List Int×Int=>Z02_L1 (bW ds) d s.1 s.2) (r:=.inl dQ) (fun j=>((js ds d).take (d.length - ds.length+j)++(fP d.length).drop (d.length - ds.length+j),(j:Int))) m
     (fun j g=>a j (by omega) (G j g))
     (by
      obtain ⟨u,B⟩:=lH (ds:=ds) hl i g1
      simp only [Z02_L1,b,u,B]
      rw [if_pos (by simp; omega),if_pos (by omega),if_pos (by omega),if_neg (by simp [E]),if_pos (by simp [F])]
      rfl) D
    rw [this]
    simp [c]
  ·rw [if_pos (by rw [aZ (by unfold cA at l; omega) (by unfold cA at l; omega)]; simp; omega)]
   simp [hl,dQ]
 ·simp [hd,dQ]
theorem sw {ds d:List Int}(h:eD ds)(I:d.length<cA):Z2e (bW ds) d=some (if eD d∧ds.length≤d.length∧lr ds (d.drop (d.length - ds.length))=true then ⟨d,js ds d,0,pr ds⟩ else dQ):=by
 have T:=h.1
 have a:(bW ds).Dims=ds:=rfl
 have l:(bW ds).Strides=eH ds:=rfl
 have L:=dC ds
 unfold Z2e Z38
 rw [kg (iK h)]
 simp only [Option.bind_some,Bool.not_true,Bool.false_eq_true,if_false]
 rw [gX (by rw [a]; omega),gX (by rw [l]; omega)]
 simp only [Option.bind_some]
 unfold Z05
 rw [gT I]
 simp only [Option.bind_some]
 by_cases hd:eD d
 ·have i:=hd.1
  simp only [hd,decide_true,Bool.not_true,Bool.false_or,a,true_and]
  by_cases hl:ds.length≤d.length
  ·rw [if_neg (by simp; omega),gX (by omega)]
   simp only [Option.bind_some]
   rw [if_pos (by omega)]
   have e:(d.drop (d.length - ds.length)).length=ds.length:=by simp; omega
   have b:∀ j:Nat,j<ds.length→(ix ds (j:Int)=ix (d.drop (d.length - ds.length)) (j:Int)∨ix ds (j:Int)=1)→(fun s:List Int×Int=>Z05_L1 ⟨ds,(bW ds).Strides,(bW ds).Offset,(bW ds).Base⟩ d (bW ds) d s.1 s.2) ((js ds d).take (d.length - ds.length+j)++(fP d.length).drop (d.length - ds.length+j),(j:Int))=some (.inl ((js ds d).take (d.length - ds.length+(j+1))++(fP d.length).drop (d.length - ds.length+(j+1)),((j+1:Nat):Int))):=by
    intro j g J
    obtain ⟨u,B⟩:=lH (ds:=ds) hl i g
    obtain ⟨M,O⟩:=mT (d:=d) h hl g
    simp only [Z05_L1,Z05_J2,a,l,u,B]
    rw [if_pos (by simp; omega),if_pos (by omega),if_pos (by omega)]
    by_cases c:ix ds (j:Int)=ix (d.drop (d.length - ds.length)) (j:Int)
    ·rw [if_pos (by simp [c]),if_pos (by omega),if_pos (by simp; omega),Int.toNat_natCast,M c,bX (by unfold cA; omega)]
     rfl
    ·rw [if_neg (by simp [c]),if_neg (by simp [J.resolve_left c]),O c,bX (by unfold cA; omega)]
   have D:(List.replicate (d.length:Int).toNat (0:Int),(0:Int))=((js ds d).take (d.length - ds.length+0)++(fP d.length).drop (d.length - ds.length+0),((0:Nat):Int)):=by
    simp only [js,Nat.add_zero]
    rw [List.take_append_of_le_length (by simp [fP]),List.take_of_length_le (by simp [fP])]
    simp [fP]
   by_cases c:lr ds (d.drop (d.length - ds.length))=true
   ·have:=eR (f:=fun s:List Int×Int=>Z05_L1 ⟨ds,(bW ds).Strides,(bW ds).Offset,(bW ds).Base⟩ d (bW ds) d s.1 s.2) (r:=.inr (js ds d)) (fun j=>((js ds d).take (d.length - ds.length+j)++(fP d.length).drop (d.length - ds.length+j),(j:Int))) ds.length
     (fun j g=>b j g (pX e c g))
     (by
      simp only [Z05_L1,a]
      rw [if_neg (by simp),show d.length - ds.length+ds.length=d.length by omega,List.take_of_length_le (by simp only [js,List.length_append,jT e (dC ds)]; simp [fP]; omega),List.drop_of_length_le (by simp [fP])]
      simp) D
    rw [this,if_pos ⟨hl,c⟩]
    simp only [Option.bind_some,Z05_J3,bI,Bool.not_true,Bool.not_false,cond_true]
    rw [kg (v:=⟨d,js ds d,(bW ds).Offset,(bW ds).Base⟩) (mS h hd hl)]
    rfl
   ·obtain ⟨m,g1,E,F,G⟩:=pY e (by simpa using c)
    have:=eR (f:=fun s:List Int×Int=>Z05_L1 ⟨ds,(bW ds).Strides,(bW ds).Offset,(bW ds).Base⟩ d (bW ds) d s.1 s.2) (r:=.inl (false,⟨d,(js ds d).take (d.length - ds.length+m)++(fP d.length).drop (d.length - ds.length+m),(bW ds).Offset,(bW ds).Base⟩)) (fun j=>((js ds d).take (d.length - ds.length+j)++(fP d.length).drop (d.length - ds.length+j),(j:Int))) m
     (fun j g=>b j (by omega) (G j g))
     (by
      obtain ⟨u,B⟩:=lH (ds:=ds) hl i g1
      simp only [Z05_L1,a,u,B]
      rw [if_pos (by simp; omega),if_pos (by omega),if_pos (by omega),if_neg (by simp [E]),if_pos (by simp [F])]) D
    rw [this,if_neg (fun q=>c q.2)]
    simp [bI,dQ]
  ·rw [if_pos (by simp; omega),if_neg (fun q=>hl q.1)]
   simp [bI,dQ]
 ·simp [hd,bI,dQ]
theorem sx {v:View}(a:v.Dims.length<cA)(h:¬ eD v.Dims):Z8 v=some false:=by
 unfold Z8
 rw [fX a]
 simp [h]
theorem sy {v:View}(a:v.Dims.length<cA)(h:¬ eD v.Dims):Zh v=some false:=by
 unfold Zh
 rw [gT a]
 simp [h]
def lu (ds:List Int)(a fr c st:Int):Prop:=0≤a∧a<(ds.length:Int)∧1≤c∧c≤4096∧1≤st∧st≤4096∧0≤fr∧fr<ix ds a∧fr+(c - 1)*st<ix ds a
instance (ds:List Int)(a fr c st:Int):Decidable (lu ds a fr c st):=by unfold lu; infer_instance
theorem wv {xs:List Int}{j:Nat}{a:Int}(h:j<xs.length):ix (xs.set j a) (j:Int)=a:=by rw [bV (by simpa using h)]; simp
theorem nk (f:Int→Int→Int){xs ys:List Int}{j:Nat}{a b:Int}(e:j<xs.length)(g:j<ys.length):zs f (xs.set j a) (ys.set j b)=zs f xs ys - f (ix xs (j:Int)) (ix ys (j:Int))+f a b:=by
 induction xs generalizing ys j with
 | nil=>simp at e
 | cons x xs ih=>cases ys with
  | nil=>simp at g
  | cons y ys=>cases j with
   | zero=>simp [zs,ix]; omega
   | succ j =>
    rw [dG,dG,List.set_cons_succ,List.set_cons_succ]
    simp only [zs,ih (ys:=ys) (j:=j) (by simpa using e) (by simpa using g)]
    omega
theorem ww {ds:List Int}(h:∀ d∈ds,1≤d){j:Nat}(g:j<ds.length){c:Int}(h1:1≤c)(h2:c≤ix ds (j:Int)):pr (ds.set j c)≤pr ds∧∀ d∈ds.set j c,1≤d:=by
 induction ds generalizing j with
 | nil=>simp at g
 | cons d ds ih =>
  have l:1≤pr ds:=fE fun x e=>h x (by simp [e])
  cases j with
  | zero =>
   have h2:c≤d:=h2
   refine ⟨Int.mul_le_mul_of_nonneg_right h2 (by omega),List.forall_mem_cons.2 ⟨h1,fun x e=>h x (by simp [e])⟩⟩
  | succ j =>
   rw [dG] at h2
   obtain ⟨a,b⟩:=ih (fun x e=>h x (by simp [e])) (by simpa using g) h2
   have i:=h d (by simp)
   exact ⟨Int.mul_le_mul_of_nonneg_left a (by omega),List.forall_mem_cons.2 ⟨i,b⟩⟩
theorem iH {xs:List Int}{j:Nat}{a:Int}{P:Int→Prop}(h:∀ x∈xs,P x)(e:P a):∀ x∈xs.set j a,P x:=by
 intro x b
 rcases List.mem_or_eq_of_mem_set b with b | rfl
 ·exact h x b
 ·exact e
theorem wx {ds:List Int}(h:eD ds){j:Nat}(r:j<ds.length){fr c st:Int}(Y:1≤c)(F:0≤st)(L:0≤fr)(hl:fr+(c - 1)*st<ix ds (j:Int))(J:c≤ix ds (j:Int))(T:c=1→st=0) :
  VG (ds.set j c) ((eH ds).set j (ix (eH ds) (j:Int)*st)) (0+fr*ix (eH ds) (j:Int)) (pr ds):=by
 have hp:=h.2.pos
 have O:=h.2.2
 obtain ⟨q1,Z⟩:=ww h.2.1 r Y J
 have hm:=h.2.mem (bE r)
 have D:=dC ds
 have E:=fO h.2 _ (bE (xs:=eH ds) (k:=j) (by omega))
 obtain ⟨s,q⟩:∃ s,s=ix (eH ds) (j:Int):=⟨_,rfl⟩
 rw [← q] at E ⊢
 have l:∀ x∈eH ds,0≤x∧x≤4096:=fO h.2
 have G:=jG h.2
 have k0:0≤(c - 1)*st:=Int.mul_nonneg (by omega) F
 have k1:s*(fr+(c - 1)*st)≤s*(ix ds (j:Int) - 1):=Int.mul_le_mul_of_nonneg_left (by omega) E.1
 have k2:s*(fr+(c - 1)*st)=fr*s+s*st*(c - 1):=by rw [Int.mul_add,Int.mul_comm s fr,Int.mul_comm (c - 1) st,Int.mul_assoc]
 have I:0≤s*st:=Int.mul_nonneg E.1 F
 have k4:0≤fr*s:=Int.mul_nonneg L E.1
 have k5:=iG hm.1 E.1
 have k6:=iG Y I
 have z:=nk hw (xs:=ds) (ys:=eH ds) (a:=c) (b:=s*st) r (by omega)
 rw [← q,k5,k6] at z
 have k7:0≤s*st*(c - 1):=Int.mul_nonneg I (by omega)
 -- what the axis alone may come to
 have a1:s*(ix ds (j:Int) - 1)≤pr ds - 1:=by
  have hz:∀ (xs ys:List Int),(∀ d∈xs,1≤d)→(∀ y∈ys,0≤y)→∀ j:Nat,j<xs.length→j<ys.length→ix ys (j:Int)*(ix xs (j:Int) - 1)≤zs hw xs ys∧0≤zs hw xs ys:=by
   intro xs
   induction xs with
   | nil=>intro ys _ _ j r; simp at r
   | cons x xs ih =>
    intro ys i u j M B
    cases ys with
    | nil=>simp at B
    | cons y ys =>
     have e:=iG (i x (by simp)) (u y (by simp))
     have e0:=Int.mul_nonneg (u y (by simp)) (show 0≤x - 1 by have:=i x (by simp); omega)
     have nn:∀ (xs ys:List Int),(∀ d∈xs,1≤d)→(∀ y∈ys,0≤y)→0≤zs hw xs ys:=by
      intro xs
      induction xs with
      | nil=>intro ys _ _; simp [zs]
      | cons d ds ihh=>intro ss h1 h2; cases ss with
       | nil=>simp [zs]
       | cons s ss =>
        have:=ihh ss (fun x i=>h1 x (by simp [i])) (fun x i=>h2 x (by simp [i]))
        have h3:=iG (h1 d (by simp)) (h2 s (by simp))
        have h4:=Int.mul_nonneg (h2 s (by simp)) (show 0≤d - 1 by have:=h1 d (by simp); omega)
        simp only [zs]; omega
     have n1:=nn xs ys (fun d m=>i d (by simp [m])) (fun d m=>u d (by simp [m]))
     cases j with
     | zero =>
      simp only [zs,e]
      show y*(x - 1)≤_∧_
      omega
     | succ j =>
      rw [dG,dG]
      have:=ih ys (fun d m=>i d (by simp [m])) (fun d m=>u d (by simp [m])) j (by simpa using M) (by simpa using B)
      simp only [zs,e]
      omega
  have:=(hz ds (eH ds) h.2.1 (fun y u=>(l y u).1) j r (by omega)).1
  rw [G,← q] at this
  exact this
 have a0:s*st≤4096:=by
  by_cases g:c=1
  ·rw [T g]; omega
  ·have:s*st*1≤s*st*(c - 1):=Int.mul_le_mul_of_nonneg_left (by omega) I
   omega
 have U:SZ (ds.set j c):=⟨Z,by omega⟩
 refine ⟨⟨by simpa using h.1,U⟩,by simp [D],⟨hp,O⟩,⟨by omega,by omega⟩,?_,?_,by omega⟩
 ·exact iH (fun x i=>by have:=l x i; omega) (by omega)
 ·rw [oY Z (iH (fun x i=>(l x i).1) I)]; omega
def iY (ds:List Int)(a fr c st:Int):View:=⟨ds.set a.toNat c,(eH ds).set a.toNat (if c=1 then 0 else ix (eH ds) a*st),fr*ix (eH ds) a,pr ds⟩
theorem uc {ds:List Int}{a fr c st:Int}(h:lu ds a fr c st):c≤ix ds a∧0≤(c - 1)*st∧(c - 1)*st≤4096*4096:=by
 obtain ⟨h1,h2,i,j,e,g,l,m,q⟩:=h
 have:=iF (a:=c - 1) (b:=st) (by omega) e
 have k:=Int.mul_le_mul (show c - 1≤4096 by omega) g (by omega) (show (0:Int)≤4096 by omega)
 exact ⟨by omega,by omega,k⟩
theorem nl {ds:List Int}(h:eD ds){a fr c st:Int}(g:lu ds a fr c st):VG (iY ds a fr c st).Dims (iY ds a fr c st).Strides (iY ds a fr c st).Offset (iY ds a fr c st).Base:=by
 obtain ⟨q,D,E⟩:=uc g
 obtain ⟨h1,h2,i,r,s,u,l,B,m⟩:=g
 obtain ⟨j,rfl⟩:=Int.eq_ofNat_of_zero_le h1
 have b:fr+(c - 1)*(if c=1 then 0 else st)<ix ds (j:Int):=by
  split
  ·omega
  ·exact m
 have:=wx h (j:=j) (by omega) (fr:=fr) (c:=c) (st:=if c=1 then 0 else st) i (by split<;>omega) l b q (fun e=>by simp [e])
 have e:ix (eH ds) (j:Int)*(if c=1 then 0 else st)=if c=1 then 0 else ix (eH ds) (j:Int)*st:=by split<;>simp
 rw [e,Int.zero_add] at this
 exact this
theorem sA {ds:List Int}(h:eD ds)(a:Int):Z26 (bW ds) a=some (decide (0≤a∧a<(ds.length:Int))):=by
 unfold Z26
 rw [kf (iK h)]
 simp only [Option.bind_some,Bool.true_and]
 congr 1
 rw [Bool.eq_iff_iff]
 simp [bW]
 exact fun _=>decide_eq_true_iff
theorem ue {ds:List Int}(h:eD ds){a fr c st:Int}(D:1≤st):Z17 (bW ds) a fr c st=some (if lu ds a fr c st then iY ds a fr c st else dQ):=by
 have hn:=h.1
 have L:=dC ds
 have b:(bW ds).Dims=ds:=rfl
 unfold Z17
 rw [sA h]
 simp only [Option.bind_some,b]
 by_cases g:(0≤a∧a<(ds.length:Int))∧1≤c∧c≤4096∧st≤4096∧0≤fr
 ·obtain ⟨g1,G,I,r,E⟩:=g
  obtain ⟨j,rfl⟩:=Int.eq_ofNat_of_zero_le g1.1
  have J:j<ds.length:=by omega
  have Z:=h.2.mem (bE J)
  have l:=fO h.2 _ (bE (xs:=eH ds) (k:=j) (by omega))
  have m:(((((!decide (0≤(j:Int)∧(j:Int)<(ds.length:Int))||decide (c<1))||decide (c>4096))||decide (st < -4096))||decide (st>4096))||decide (fr<0))=false:=by simp; omega
  rw [if_pos (fun _=>g1),m,Bool.false_or]
  by_cases g6:fr<ix ds (j:Int)
  ·rw [if_neg (by simp; omega)]
   have k0:0≤(c - 1)*st:=Int.mul_nonneg (by omega) (by omega)
   have k1:=Int.mul_le_mul (show c - 1≤4096 by omega) r (by omega) (show (0:Int)≤4096 by omega)
   have e:aG (fr+aG (aG (c - 1)*st))=fr+(c - 1)*st:=by
    rw [aZ (n:=c - 1) (by omega) (by omega),aZ (n:=(c - 1)*st) (by omega) (by omega),aZ (by omega) (by omega)]
   rw [e,if_pos (fun _=>g1)]
   by_cases g7:fr+(c - 1)*st<ix ds (j:Int)
   ·have F:lu ds (j:Int) fr c st:=⟨g1.1,g1.2,G,I,D,r,E,g6,g7⟩
    have O:=nl h F
    rw [if_neg (by simp; omega),if_pos F]
    unfold Z28
    rw [hJ (by rw [b]; omega),hJ (by show (eH ds).length≤_; omega)]
    simp only [Option.bind_some,nm]
    have B:(bW ds).Strides=eH ds:=rfl
    have M:(bW ds).Offset=0:=rfl
    have s:(bW ds).Base=pr ds:=rfl
    simp only [B,M,s,b]
    rw [if_pos (by omega),if_pos (by omega)]
    have f1:0≤fr*ix (eH ds) (j:Int):=Int.mul_nonneg E l.1
    have T:=Int.mul_le_mul (show fr≤4096 by omega) l.2 l.1 (show (0:Int)≤4096 by omega)
    have U:0≤ix (eH ds) (j:Int)*st:=Int.mul_nonneg l.1 (by omega)
    have Y:=Int.mul_le_mul l.2 r (by omega) (show (0:Int)≤4096 by omega)
    rw [aZ (n:=ix (eH ds) (j:Int)*st) (by omega) (by omega)]
    have i:∀ x:List Int,x=(iY ds (j:Int) fr c st).Strides→Z17_J1 (j:Int) fr c ⟨ds,eH ds,0,pr ds⟩ x=some (iY ds (j:Int) fr c st):=by
     rintro x rfl
     have u:(⟨ds.set (j:Int).toNat c,(iY ds (j:Int) fr c st).Strides,0+fr*ix (eH ds) (j:Int),pr ds⟩:View)=iY ds (j:Int) fr c st:=by simp [iY]
     simp only [Z17_J1]
     rw [aZ (n:=fr*ix (eH ds) (j:Int)) (by omega) (by omega),aZ (by omega) (by omega),u]
     unfold Z29
     rw [kf O]
     rfl
    by_cases g8:c=1
    ·rw [if_pos (by simp [g8])]
     exact i _ (by simp [iY,g8])
    ·rw [if_neg (by simp [g8])]
     exact i _ (by simp [iY,g8])
   ·rw [if_pos (by simp; omega),if_neg (fun q=>g7 q.2.2.2.2.2.2.2.2)]
    rfl
  ·rw [if_pos (by simp; omega),if_neg (fun q=>g6 q.2.2.2.2.2.2.2.1)]
   rfl
 ·have m:(((((!decide (0≤a∧a<(ds.length:Int))||decide (c<1))||decide (c>4096))||decide (st < -4096))||decide (st>4096))||decide (fr<0))=true:=by
   simp only [Bool.or_eq_true,Bool.not_eq_true',decide_eq_true_eq,decide_eq_false_iff_not]
   omega
  rw [if_pos (fun q=>by rw [m] at q; cases q),m,if_pos (by simp),if_neg (fun q=>g ⟨⟨q.1,q.2.1⟩,q.2.2.1,q.2.2.2.1,q.2.2.2.2.2.1,q.2.2.2.2.2.2.1⟩)]
  rfl
theorem sB {v:View}{j:Nat}(e:j<v.Dims.length)(b:j<v.Strides.length)(a s:Int):Z0w v (j:Int) a s=some ⟨v.Dims.set j a,v.Strides.set j (if a=1 then 0 else s),v.Offset,v.Base⟩:=by
 unfold Z0w
 by_cases g:a=1
 ·rw [if_pos (by simp [g])]
  simp only [Z0w_J3]
  rw [if_pos (by omega),if_pos (by omega),if_pos g,Int.toNat_natCast]
 ·rw [if_neg (by simp [g])]
  simp only [Z0w_J3]
  rw [if_pos (by omega),if_pos (by omega),if_neg g,Int.toNat_natCast]
theorem uf {ds:List Int}(h:eD ds){a fr c st:Int}(s:1≤st):Z2d (bW ds) a fr c st=some (if lu ds a fr c st then iY ds a fr c st else dQ):=by
 have U:=h.1
 have I:=dC ds
 have l:(bW ds).Dims=ds:=rfl
 have r:(bW ds).Strides=eH ds:=rfl
 have J:(bW ds).Offset=0:=rfl
 have D:(bW ds).Base=pr ds:=rfl
 unfold Z2d Z37
 rw [kg (iK h)]
 simp only [Option.bind_some,Bool.not_true,Bool.false_eq_true,if_false]
 rw [gX (by rw [l]; omega),gX (by rw [r]; omega)]
 simp only [Option.bind_some,l,r,J,D]
 unfold Z1f
 simp only [Zl,Option.bind_some]
 have no:∀ (p:View) (z:Int),((bI (!(!((false,p,z):Bool×View×Int).1)) (Zh ((false,p,z):Bool×View×Int).2.1)).bind fun r32:Bool=>if ((!((false,p,z):Bool×View×Int).1)||(!r32))=true then some ((⟨[],[],0,0⟩:View),z) else some (p,z))=some (dQ,z):=by
  intro p z; simp [bI,dQ]
 by_cases g:(0≤a∧a<(ds.length:Int))∧1≤c∧c≤4096
 ·obtain ⟨g1,E,F⟩:=g
  obtain ⟨j,rfl⟩:=Int.eq_ofNat_of_zero_le g1.1
  have G:j<ds.length:=by omega
  have T:=h.2.mem (bE G)
  have m:=fO h.2 _ (bE (xs:=eH ds) (k:=j) (by omega))
  rw [if_neg (by simp; omega),if_pos g1]
  by_cases g6:st≤4096∧0≤fr∧fr<ix ds (j:Int)
  ·rw [if_neg (by simp; omega)]
   have Y:0≤(c - 1)*st:=Int.mul_nonneg (by omega) (by omega)
   have k1:=Int.mul_le_mul (show c - 1≤4096 by omega) g6.1 (by omega) (show (0:Int)≤4096 by omega)
   have e:aG (fr+aG (st*aG (c - 1)))=fr+(c - 1)*st:=by
    rw [aZ (n:=c - 1) (by omega) (by omega),Int.mul_comm st,aZ (n:=(c - 1)*st) (by omega) (by omega),aZ (by omega) (by omega)]
   rw [e]
   have i:∀ z:Int,(z=if c=1 then 0 else st)→lu ds (j:Int) fr c st→Z1f_J3 ⟨ds,eH ds,0,pr ds⟩ (j:Int) c fr z=some (true,iY ds (j:Int) fr c st,z):=by
    intro z B b
    have f1:0≤fr*ix (eH ds) (j:Int):=Int.mul_nonneg g6.2.1 m.1
    have L:=Int.mul_le_mul (show fr≤4096 by omega) m.2 m.1 (show (0:Int)≤4096 by omega)
    have M:0≤ix (eH ds) (j:Int)*z:=Int.mul_nonneg m.1 (by rw [B]; split<;>omega)
    have O:=Int.mul_le_mul m.2 (show z≤4096 by rw [B]; split<;>omega) (by rw [B]; split<;>omega) (show (0:Int)≤4096 by omega)
    simp only [Z1f_J3]
    rw [if_pos (by omega),aZ (n:=fr*ix (eH ds) (j:Int)) (by omega) (by omega),aZ (n:=0+fr*ix (eH ds) (j:Int)) (by omega) (by omega),aZ (by omega) (by omega),sB (by simpa using G) (by simp; omega)]
    simp only [Option.bind_some,iY,Int.toNat_natCast,Int.zero_add]
    congr 5
    rw [B]; split<;>rfl
   have u:∀ z:Int,lu ds (j:Int) fr c st→((bI (!(!((true,iY ds (j:Int) fr c st,z):Bool×View×Int).1)) (Zh ((true,iY ds (j:Int) fr c st,z):Bool×View×Int).2.1)).bind fun r32:Bool=>if ((!((true,iY ds (j:Int) fr c st,z):Bool×View×Int).1)||(!r32))=true then some ((⟨[],[],0,0⟩:View),z) else some (iY ds (j:Int) fr c st,z))=some (iY ds (j:Int) fr c st,z):=by
    intro z b
    simp only [bI,Bool.not_true,Bool.not_false,cond_true,Bool.false_or]
    rw [kg (nl h b)]
    rfl
   by_cases g8:c=1
   ·have b:lu ds (j:Int) fr c st:=⟨g1.1,g1.2,E,F,s,g6.1,g6.2.1,g6.2.2,by rw [g8]; omega⟩
    rw [if_neg (by simp; omega),i 0 (by simp [g8]) b]
    simp only [Option.bind_some]
    rw [u 0 b,if_pos b]
    rfl
   ·rw [if_pos (by simp; omega)]
    by_cases g7:fr+(c - 1)*st<ix ds (j:Int)
    ·have b:lu ds (j:Int) fr c st:=⟨g1.1,g1.2,E,F,s,g6.1,g6.2.1,g6.2.2,g7⟩
     rw [if_neg (by simp; omega),i st (by simp [g8]) b]
     simp only [Option.bind_some]
     rw [u st b,if_pos b]
     rfl
    ·rw [if_pos (by simp; omega),if_neg (fun q=>g7 q.2.2.2.2.2.2.2.2)]
     simp only [Option.bind_some]
     rw [no]
     rfl
  ·rw [if_pos (by simp; omega),if_neg (fun q=>g6 ⟨q.2.2.2.2.2.1,q.2.2.2.2.2.2.1,q.2.2.2.2.2.2.2.1⟩)]
   simp only [Option.bind_some]
   rw [no]
   rfl
 ·rw [if_pos (by simp; omega),if_neg (fun q=>g ⟨⟨q.1,q.2.1⟩,q.2.2.1,q.2.2.2.1⟩)]
  simp only [Option.bind_some]
  rw [no]
  rfl
def iQ (ds:List Int)(a sz st:Int):Int:=(ix ds a - sz) / st+1
def fI (ds:List Int)(a sz st:Int):View:=⟨ds.set a.toNat (iQ ds a sz st)++[sz],(eH ds).set a.toNat (if iQ ds a sz st=1 then 0 else ix (eH ds) a*st)++[if sz=1 then 0 else ix (eH ds) a],0,pr ds⟩
def lv (ds:List Int)(a sz st:Int):Prop:=0≤a∧a<(ds.length:Int)∧1≤sz∧1≤st∧sz≤ix ds a
instance (ds:List Int)(a sz st:Int):Decidable (lv ds a sz st):=by unfold lv; infer_instance
theorem zl {xs ys:List Int}(a:∀ d∈xs,1≤d)(b:∀ y∈ys,0≤y):0≤zs hw xs ys:=by
 induction xs generalizing ys with
 | nil=>simp [zs]
 | cons d ds ih=>cases ys with
  | nil=>simp [zs]
  | cons s ss =>
   have:=ih (ys:=ss) (fun x h=>a x (by simp [h])) (fun x h=>b x (by simp [h]))
   have e:=iG (a d (by simp)) (b s (by simp))
   have g:=Int.mul_nonneg (b s (by simp)) (show 0≤d - 1 by have:=a d (by simp); omega)
   simp only [zs]; omega
theorem ug {ds:List Int}(h:eD ds){j:Nat}(g:j<ds.length):ix (eH ds) (j:Int)*(ix ds (j:Int) - 1)≤pr ds - 1:=by
 have i:=dC ds
 have l:=h.2.mem (bE g)
 have m:=fO h.2 _ (bE (xs:=eH ds) (k:=j) (by omega))
 have z:=nk hw (xs:=ds) (ys:=eH ds) (a:=ix ds (j:Int)) (b:=0) g (by omega)
 have e:ds.set j (ix ds (j:Int))=ds:=by rw [bV g]; simp
 rw [e,B6,iG l.1 m.1,jG h.2] at z
 have:=zl (xs:=ds) (ys:=(eH ds).set j 0) h.2.1 (iH (fun x q=>(fO h.2 x q).1) (by omega))
 omega
theorem np {ds:List Int}{a sz st:Int}(h:lv ds a sz st):1≤iQ ds a sz st∧iQ ds a sz st≤ix ds a∧(iQ ds a sz st - 1)*st≤ix ds a - sz:=by
 obtain ⟨h1,h2,g,i,j⟩:=h
 unfold iQ
 have b:0≤(ix ds a - sz) / st:=Int.ediv_nonneg (by omega) (by omega)
 have e:(ix ds a - sz) / st≤ix ds a - sz:=Int.ediv_le_self _ (by omega)
 have a3:=Int.ediv_mul_le (ix ds a - sz) (show st≠0 by omega)
 refine ⟨by omega,by omega,?_⟩
 rw [show (ix ds a - sz) / st+1 - 1=(ix ds a - sz) / st by omega]
 exact a3
theorem oZ {ds:List Int}(h:eD ds){a sz st:Int}(D:lv ds a sz st)(G:eD (fI ds a sz st).Dims):VG (fI ds a sz st).Dims (fI ds a sz st).Strides (fI ds a sz st).Offset (fI ds a sz st).Base:=by
 obtain ⟨T,n2,n3⟩:=np D
 obtain ⟨h1,h2,Z,h4,h5⟩:=D
 obtain ⟨j,rfl⟩:=Int.eq_ofNat_of_zero_le h1
 have I:j<ds.length:=by omega
 have l:=dC ds
 have hm:=h.2.mem (bE I)
 have u:=fO h.2 _ (bE (xs:=eH ds) (k:=j) (by omega))
 have U:=ug h I
 have hp:=h.2.pos
 have L:=h.2.2
 have B:=jG h.2
 obtain ⟨n,J⟩:∃ n,n=iQ ds (j:Int) sz st:=⟨_,rfl⟩
 obtain ⟨s,r⟩:∃ s,s=ix (eH ds) (j:Int):=⟨_,rfl⟩
 have M:(fI ds (j:Int) sz st).Dims=ds.set j n++[sz]:=by rw [J]; simp [fI]
 have Y:(fI ds (j:Int) sz st).Strides=(eH ds).set j (if n=1 then 0 else s*st)++[if sz=1 then 0 else s]:=by rw [J,r]; simp [fI]
 rw [← J] at T n2 n3
 rw [← r] at u U
 rw [M] at G
 have k0:0≤(n - 1)*st:=Int.mul_nonneg (by omega) (by omega)
 have O:0≤s*st:=Int.mul_nonneg u.1 (by omega)
 have k4:s*((n - 1)*st)=s*st*(n - 1):=by rw [Int.mul_comm (n - 1) st,Int.mul_assoc]
 have k5:s*((n - 1)*st+(sz - 1))≤s*(ix ds (j:Int) - 1):=Int.mul_le_mul_of_nonneg_left (by omega) u.1
 rw [Int.mul_add,k4] at k5
 have k6:0≤s*(sz - 1):=Int.mul_nonneg u.1 (by omega)
 have k7:0≤s*st*(n - 1):=Int.mul_nonneg O (by omega)
 obtain ⟨i,m⟩:∃ i,i=if n=1 then 0 else s*st:=⟨_,rfl⟩
 obtain ⟨g,q⟩:∃ g,g=if sz=1 then 0 else s:=⟨_,rfl⟩
 have E:0≤i∧i≤4096∧i*(n - 1)=s*st*(n - 1):=by
  by_cases c:n=1
  ·rw [m,if_pos c,c]; simp
  ·rw [m,if_neg c]
   have:s*st*1≤s*st*(n - 1):=Int.mul_le_mul_of_nonneg_left (by omega) O
   omega
 have F:0≤g∧g≤4096∧g*(sz - 1)=s*(sz - 1):=by
  by_cases c:sz=1
  ·rw [q,if_pos c,c]; simp
  ·rw [q,if_neg c]; omega
 have z:=nk hw (xs:=ds) (ys:=eH ds) (a:=n) (b:=i) I (by omega)
 rw [← r,iG hm.1 u.1,iG T E.1,B,E.2.2] at z
 have z2:zs hw (ds.set j n++[sz]) ((eH ds).set j i++[g])=zs hw (ds.set j n) ((eH ds).set j i)+s*(sz - 1):=by
  rw [su _ (by simp [l])]
  have:zs hw [sz] [g]=hw sz g:=by simp [zs]
  rw [this,iG Z F.1,F.2.2]
 have nn:∀ x∈(eH ds).set j i++[g],0≤x∧x≤4096:=by
  intro x e
  rcases List.mem_append.1 e with e | e
  ·exact iH (fun x e=>fO h.2 x e) ⟨E.1,E.2.1⟩ x e
  ·have:x=g:=by simpa using e
   subst this; exact ⟨F.1,F.2.1⟩
 rw [M,Y,← m,← q]
 refine ⟨G,by simp [l],⟨hp,L⟩,⟨Int.le_refl 0,by show 0<pr ds; omega⟩,fun x e=>by have:=nn x e; omega,?_,?_⟩
 ·rw [oY G.2.1 fun x e=>(nn x e).1]; show (0:Int)≤0+0; decide
 ·show 0+_<pr ds
  omega
theorem qv {ds:List Int}(h:eD ds){a sz st:Int}:Z0b (bW ds) a sz st=some (if lv ds a sz st∧eD (fI ds a sz st).Dims then fI ds a sz st else dQ):=by
 have hn:=h.1
 have I:=dC ds
 have i:(bW ds).Dims=ds:=rfl
 have b:(bW ds).Strides=eH ds:=rfl
 have J:(bW ds).Offset=0:=rfl
 have m:(bW ds).Base=pr ds:=rfl
 unfold Z0b
 rw [sA h]
 simp only [Option.bind_some,i,b]
 by_cases g:(0≤a∧a<(ds.length:Int))∧1≤sz∧1≤st
 ·obtain ⟨g1,E,F⟩:=g
  have l:((!decide (0≤a∧a<(ds.length:Int))||decide (sz<1))||decide (st<1))=false:=by simp; omega
  rw [if_pos (fun _=>g1),l,Bool.false_or]
  by_cases g6:sz≤ix ds a
  ·have s:lv ds a sz st:=⟨g1.1,g1.2,E,F,g6⟩
   obtain ⟨O,T,n3⟩:=np s
   obtain ⟨j,rfl⟩:=Int.eq_ofNat_of_zero_le g1.1
   have G:j<ds.length:=by omega
   have Z:=h.2.mem (bE G)
   have u:=fO h.2 _ (bE (xs:=eH ds) (k:=j) (by omega))
   rw [if_neg (by simp; omega)]
   unfold Z28
   rw [hJ (by rw [i]; omega),hJ (by rw [b]; omega)]
   simp only [Option.bind_some,nm,i,b,J,m]
   have e:aG (aG ((aG (ix ds (j:Int) - sz)).tdiv st)+1)=iQ ds (j:Int) sz st:=by
    rw [aZ (n:=ix ds (j:Int) - sz) (by omega) (by omega),Int.tdiv_eq_ediv_of_nonneg (by omega)]
    unfold iQ at O T ⊢
    rw [aZ (n:=(ix ds (j:Int) - sz) / st) (by omega) (by omega),aZ (by omega) (by omega)]
   simp only [e]
   rw [if_pos (by omega),if_pos (by omega),if_pos (by omega),if_pos (by omega),if_pos (by omega)]
   have B:∀ x:List Int,x++[if sz=1 then 0 else ix (eH ds) (j:Int)]=(fI ds (j:Int) sz st).Strides→x.length=ds.length→Z0b_J1 (bW ds) (j:Int) sz ⟨ds,eH ds,0,pr ds⟩ (ds.set (j:Int).toNat (iQ ds (j:Int) sz st)) x=some (if lv ds (j:Int) sz st∧eD (fI ds (j:Int) sz st).Dims then fI ds (j:Int) sz st else dQ):=by
    intro x L M
    have D:∀ y,y=(if sz=1 then 0 else ix (eH ds) (j:Int))→Z0b_J2 sz ⟨ds,eH ds,0,pr ds⟩ (ds.set (j:Int).toNat (iQ ds (j:Int) sz st)) x y=some (if lv ds (j:Int) sz st∧eD (fI ds (j:Int) sz st).Dims then fI ds (j:Int) sz st else dQ):=by
     rintro y rfl
     simp only [Z0b_J2]
     rw [if_pos (by simp; omega),L]
     have r:(⟨ds.set (j:Int).toNat (iQ ds (j:Int) sz st)++[sz],(fI ds (j:Int) sz st).Strides,0,pr ds⟩:View)=fI ds (j:Int) sz st:=rfl
     rw [r]
     unfold Z29
     by_cases q:eD (fI ds (j:Int) sz st).Dims
     ·rw [kf (oZ h s q),if_pos ⟨s,q⟩]
      rfl
     ·rw [sx (by simp [fI,cA]; omega) q,if_neg (fun z=>q z.2)]
      rfl
    simp only [Z0b_J1]
    rw [if_pos (by simp; omega)]
    by_cases q:sz=1
    ·rw [if_pos (by simp [q])]; exact D _ (by simp [q])
    ·rw [if_neg (by simp [q])]; exact D _ (by simp [q,b])
   by_cases q:iQ ds (j:Int) sz st=1
   ·rw [if_neg (by simp; omega)]
    exact B _ (by simp [fI,q]) (by simp; omega)
   ·have k:(iQ ds (j:Int) sz st - 1)*st≤4096:=by omega
    have k2:1*st≤(iQ ds (j:Int) sz st - 1)*st:=Int.mul_le_mul_of_nonneg_right (by omega) (by omega)
    have U:0≤ix (eH ds) (j:Int)*st:=Int.mul_nonneg u.1 (by omega)
    have Y:=Int.mul_le_mul u.2 (show st≤4096 by omega) (by omega) (show (0:Int)≤4096 by omega)
    rw [if_pos (by simp; omega),aZ (n:=ix (eH ds) (j:Int)*st) (by omega) (by omega),List.set_set]
    exact B _ (by simp [fI,q]) (by simp; omega)
  ·rw [if_pos (by simp; omega),if_neg (fun q=>g6 q.1.2.2.2.2)]
   rfl
 ·have l:((!decide (0≤a∧a<(ds.length:Int))||decide (sz<1))||decide (st<1))=true:=by
   simp only [Bool.or_eq_true,Bool.not_eq_true',decide_eq_true_eq,decide_eq_false_iff_not]
   omega
  rw [if_pos (fun q=>by rw [l] at q; cases q),l,if_pos (by simp),if_neg (fun q=>g ⟨⟨q.1.1,q.1.2.1⟩,q.1.2.2.1,q.1.2.2.2.1⟩)]
  rfl
theorem zm {v:View}(i:v.Dims.length≤6)(h:v.Strides.length=v.Dims.length)(a s:Int):Z2l v a s=some ⟨v.Dims++[a],v.Strides++[if a=1 then 0 else s],v.Offset,v.Base⟩:=by
 unfold Z2l
 rw [if_pos (by simp; omega),if_pos (by simp; omega)]
 have e:aG (((v.Dims++[(0:Int)]).length:Int) - 1)=(v.Dims.length:Int):=by
  have:((v.Dims++[(0:Int)]).length:Int)=v.Dims.length+1:=by simp
  rw [this,aZ (by omega) (by omega)]; omega
 rw [e,sB (by simp) (by simp; omega)]
 simp only [Option.bind_some]
 have b:(v.Dims++[0]).set v.Dims.length a=v.Dims++[a]:=by rw [List.set_append_right _ _ (Nat.le_refl _)]; simp
 have g:∀ x:Int,(v.Strides++[0]).set v.Dims.length x=v.Strides++[x]:=by intro x; rw [← h,List.set_append_right _ _ (Nat.le_refl _)]; simp
 rw [b,g]
theorem qw {ds:List Int}(h:eD ds){a sz st:Int}:Z2f (bW ds) a sz st=some (if lv ds a sz st∧eD (fI ds a sz st).Dims then fI ds a sz st else dQ):=by
 have hn:=h.1
 have L:=dC ds
 have l:(bW ds).Dims=ds:=rfl
 have m:(bW ds).Strides=eH ds:=rfl
 have M:(bW ds).Offset=0:=rfl
 have r:(bW ds).Base=pr ds:=rfl
 unfold Z2f Z39
 rw [kg (iK h)]
 simp only [Option.bind_some,Bool.not_true,Bool.false_eq_true,if_false]
 rw [gX (by rw [l]; omega),gX (by rw [m]; omega)]
 simp only [Option.bind_some,l,m,M,r]
 unfold Z1g
 simp only [Zl,Option.bind_some]
 by_cases g:(0≤a∧a<(ds.length:Int))∧1≤sz∧1≤st
 ·obtain ⟨g1,I,J⟩:=g
  rw [if_pos (fun _=>g1)]
  by_cases g6:sz≤ix ds a
  ·have u:lv ds a sz st:=⟨g1.1,g1.2,I,J,g6⟩
   obtain ⟨O,T,n3⟩:=np u
   obtain ⟨j,rfl⟩:=Int.eq_ofNat_of_zero_le g1.1
   have E:j<ds.length:=by omega
   have Z:=h.2.mem (bE E)
   have F:=fO h.2 _ (bE (xs:=eH ds) (k:=j) (by omega))
   rw [if_neg (by simp; omega),if_pos (by omega),if_pos g1,if_pos (by omega)]
   have e:aG (aG ((aG (ix ds (j:Int) - sz)).tdiv st)+1)=iQ ds (j:Int) sz st:=by
    rw [aZ (n:=ix ds (j:Int) - sz) (by omega) (by omega),Int.tdiv_eq_ediv_of_nonneg (by omega)]
    unfold iQ at O T ⊢
    rw [aZ (n:=(ix ds (j:Int) - sz) / st) (by omega) (by omega),aZ (by omega) (by omega)]
   have G:∀ z:Int,(z=if iQ ds (j:Int) sz st=1 then 0 else st)→Z1g_J3 ⟨ds,eH ds,0,pr ds⟩ (j:Int) sz st z=some (true,fI ds (j:Int) sz st,z):=by
    intro z s
    have b:0≤z∧z≤4096:=by
     by_cases q:iQ ds (j:Int) sz st=1
     ·rw [s,if_pos q]; omega
     ·have k2:1*st≤(iQ ds (j:Int) sz st - 1)*st:=Int.mul_le_mul_of_nonneg_right (by omega) (by omega)
      rw [s,if_neg q]; omega
    have U:0≤ix (eH ds) (j:Int)*z:=Int.mul_nonneg F.1 b.1
    have Y:=Int.mul_le_mul F.2 b.2 b.1 (show (0:Int)≤4096 by omega)
    simp only [Z1g_J3,e]
    rw [aZ (by omega) (by omega),sB (by simpa using E) (by simp; omega)]
    simp only [Option.bind_some]
    rw [zm (by simp; omega) (by simp; omega)]
    simp only [Option.bind_some,fI,Int.toNat_natCast]
    congr 6
    rw [s]; split<;>rfl
   have i:∀ z:Int,(bI (!(!((true,fI ds (j:Int) sz st,z):Bool×View×Int).1)) (Zh ((true,fI ds (j:Int) sz st,z):Bool×View×Int).2.1)).bind (fun B:Bool=>if ((!((true,fI ds (j:Int) sz st,z):Bool×View×Int).1)||(!B))=true then some ((⟨[],[],0,0⟩:View),z) else some (fI ds (j:Int) sz st,z))=some ((if lv ds (j:Int) sz st∧eD (fI ds (j:Int) sz st).Dims then fI ds (j:Int) sz st else dQ),z):=by
    intro z
    simp only [bI,Bool.not_true,Bool.not_false,cond_true,Bool.false_or]
    by_cases q:eD (fI ds (j:Int) sz st).Dims
    ·rw [kg (oZ h u q),if_pos ⟨u,q⟩]
     rfl
    ·rw [sy (by simp [fI,cA]; omega) q,if_neg (fun z=>q z.2)]
     rfl
   rw [e]
   by_cases q:iQ ds (j:Int) sz st=1
   ·rw [if_pos (by simp [q]),G 0 (by simp [q])]
    simp only [Option.bind_some]
    rw [i]
    rfl
   ·rw [if_neg (by simp [q]),G st (by simp [q])]
    simp only [Option.bind_some]
    rw [i]
    rfl
  ·rw [if_pos (by simp; omega),if_neg (fun q=>g6 q.1.2.2.2.2)]
   simp [bI,dQ]
 ·have D:(((!(decide (a≥0)&&decide (a<(ds.length:Int))))||decide (sz<1))||decide (st<1))=true:=by
   simp only [Bool.or_eq_true,Bool.not_eq_true',decide_eq_true_eq,Bool.and_eq_false_iff,decide_eq_false_iff_not]
   omega
  rw [if_pos (fun q=>by rw [D] at q; cases q),D,if_pos (by simp),if_neg (fun q=>g ⟨⟨q.1.1,q.1.2.1⟩,q.1.2.2.1,q.1.2.2.2.1⟩)]
  simp [bI,dQ]
def NR (x:Int):Prop:=0≤x∧x<2147483647
instance (x:Int):Decidable (NR x):=by unfold NR; infer_instance
def RG (n:Nat)(x:List Int):Prop:=x.length=n∧∀ y∈x,NR y
theorem RG.set {n:Nat}{x:List Int}(h:RG n x){y:Int}(a:NR y)(k:Nat):RG n (x.set k y):=⟨by simp [h.1],iH h.2 a⟩
theorem RG.rep (n:Nat):RG n (List.replicate n 0):=⟨by simp,fun y a=>by rw [(List.mem_replicate.1 a).2]; decide⟩
theorem RG.ix {n:Nat}{x:List Int}(h:RG n x){i:Int}(a:0≤i)(h1:i<(n:Int)):NR (ix x i):=by
 obtain ⟨k,rfl⟩:=Int.eq_ofNat_of_zero_le a
 exact h.2 _ (bE (by have:=h.1; omega))
theorem kC {R:Type}{f:List Int×Int→Option ((List Int×Int)⊕R)}{Post:R→Prop}(m n:Nat)(l:∀ j:Nat,j<n→∀ x,RG m x→∃ x',f (x,(j:Int))=some (.inl (x',((j+1:Nat):Int)))∧RG m x')(g:∀ x,RG m x→∃ r,f (x,(n:Int))=some (.inr r)∧Post r){x:List Int}(e:RG m x):∃ r,aU f (x,0)=some r∧Post r :=
 hD (f:=f) (fun j s=>s.2=(j:Int)∧RG m s.1) n (fun j s h a=>by
  obtain ⟨x,i⟩:=s
  obtain ⟨rfl,b⟩:=a
  obtain ⟨x',h1,h2⟩:=l j h x b
  exact ⟨_,h1,rfl,h2⟩) (fun s a=>by
  obtain ⟨x,i⟩:=s
  obtain ⟨rfl,b⟩:=a
  exact g x b) (s:=(x,0)) ⟨rfl,e⟩
theorem jt (p:Int):∃ m,Zp p=some m∧NR m:=by
 have h1:=Int.tmod_lt_of_pos p (show (0:Int)<2147483647 by omega)
 have h2 : -2147483647<p.tmod 2147483647:=by
  rcases Int.le_total 0 p with h | h
  ·have:=Int.tmod_nonneg 2147483647 h; omega
  ·have e:p.tmod 2147483647 = -((-p).tmod 2147483647):=by rw [Int.neg_tmod]; omega
   have:=Int.tmod_lt_of_pos (-p) (show (0:Int)<2147483647 by omega)
   omega
 unfold Zp
 by_cases c:p.tmod 2147483647<0
 ·rw [if_pos (by simpa using c)]
  exact ⟨_,rfl,by rw [aZ (by omega) (by omega)]; constructor<;>omega⟩
 ·rw [if_neg (by simpa using c)]
  exact ⟨_,rfl,by constructor<;>omega⟩
theorem jH (p:Int):∃ m,Z1b p=some m:=by
 obtain ⟨m,h,_⟩:=jt p
 unfold Z1b
 rw [h]
 simp only [Option.bind_some]
 split<;>exact ⟨_,rfl⟩
theorem nq (a b:Int):∃ m,Z1j a b=some m∧NR m:=by
 obtain ⟨x,h1,_⟩:=jt a
 obtain ⟨y,h2,_⟩:=jt b
 obtain ⟨z,e,g⟩:=jt (aG (x+y))
 exact ⟨z,by unfold Z1j; simp [h1,h2,e],g⟩
theorem pZ (a b:Int):∃ m,Z25 a b=some m∧NR m:=by
 obtain ⟨x,h1,_⟩:=jt a
 obtain ⟨y,h2,_⟩:=jt b
 obtain ⟨z,e,g⟩:=jt (aG (x - y))
 exact ⟨z,by unfold Z25; simp [h1,h2,e],g⟩
theorem lK (a b:Int):∃ m,Z1c a b=some m∧NR m:=by
 obtain ⟨x,h1,_⟩:=jt a
 obtain ⟨y,h2,_⟩:=jt b
 obtain ⟨z,e,g⟩:=jt (aG (x*y))
 exact ⟨z,by unfold Z1c; simp [h1,h2,e],g⟩
theorem uh (a:Int):∀ (f:Nat) (n:Int),0≤n→n<2 ^ f→n≤1099511627776→∃ m,Zs_R (f+1) a n=some m∧NR m:=by
 intro f
 induction f with
 | zero =>
  intro n b h1 _
  have:n=0:=by simp at h1; omega
  subst this
  exact ⟨1,rfl,by decide⟩
 | succ f ih =>
  intro n b h1 q
  show ∃ m,Zs_S (Zs_R (f+1)) a n=some m∧NR m
  unfold Zs_S
  by_cases c:n=0
  ·rw [if_pos (by simp [c])]; exact ⟨1,rfl,by decide⟩
  ·rw [if_neg (by simp [c])]
   have e:n.tdiv 2=n / 2:=Int.tdiv_eq_ediv_of_nonneg b
   have h2:n / 2<2 ^ f:=by rw [Int.pow_succ] at h1; omega
   rw [e,aZ (by omega) (by omega)]
   obtain ⟨x,g1,l⟩:=ih (n / 2) (by omega) h2 (by omega)
   obtain ⟨y,g,h⟩:=lK x x
   obtain ⟨z,i,j⟩:=lK y a
   rw [g1]
   simp only [Option.bind_some,g]
   split
   ·simp only [i,Option.bind_some]; exact ⟨z,rfl,j⟩
   ·exact ⟨y,rfl,h⟩
theorem qx (a:Int):∃ m,Z24 a=some m∧NR m:=by
 obtain ⟨x,h1,_⟩:=jt a
 unfold Z24 Zs
 rw [h1]
 simp only [Option.bind_some]
 obtain ⟨y,h2,i⟩:=uh x 31 2147483645 (by omega) (by decide) (by omega)
 have b:∀ f g:Nat,∀ n m,f≤g→Zs_R f x n=some m→Zs_R g x n=some m:=by
  intro f
  induction f with
  | zero=>intro g n m _ h; cases h
  | succ f ih =>
   intro g n m j h
   obtain ⟨g,rfl⟩:∃ k,g=k+1:=⟨g - 1,by omega⟩
   change Zs_S (Zs_R f) x n=some m at h
   show Zs_S (Zs_R g) x n=some m
   unfold Zs_S at h ⊢
   split
   ·rename_i c; rw [if_pos c] at h; exact h
   ·rename_i c
    rw [if_neg c] at h
    cases e:Zs_R f x (aG (n.tdiv 2)) with
    | none=>rw [e] at h; cases h
    | some r=>rw [e] at h; rw [ih g _ r (by omega) e]; exact h
 rw [b 32 nb _ y (by decide) h2]
 exact ⟨y,rfl,i⟩
theorem wy {op x:Int}(a:NR x):∃ m,Z2y op x=some m∧NR m:=by
 unfold Z2y
 split
 ·obtain ⟨m,h1,h2⟩:=pZ 0 x; rw [h1]; exact ⟨m,rfl,h2⟩
 ·split
  ·obtain ⟨m,h1,h2⟩:=qx x; rw [h1]; exact ⟨m,rfl,h2⟩
  ·obtain ⟨m,h1⟩:=jH x
   rw [h1]
   simp only [Option.bind_some]
   split
   ·exact ⟨0,rfl,by decide⟩
   ·split
    ·exact ⟨1,rfl,by decide⟩
    ·exact ⟨x,rfl,a⟩
theorem wz {op x y:Int}(h1:1≤op)(h2:op≤3):∃ m,Z1k op x y=some m∧NR m:=by
 obtain ⟨a,i⟩:=jH x
 obtain ⟨b,j⟩:=jH y
 unfold Z1k
 rw [i,j]
 simp only [Option.bind_some]
 split
 ·obtain ⟨m,h1,h2⟩:=nq x y; rw [h1]; exact ⟨m,rfl,h2⟩
 ·split
  ·obtain ⟨m,h1,h2⟩:=pZ x y; rw [h1]; exact ⟨m,rfl,h2⟩
  ·split
   ·obtain ⟨m,h1,h2⟩:=lK x y; rw [h1]; exact ⟨m,rfl,h2⟩
   ·rename_i e g h
    simp only [beq_iff_eq] at e g h
    omega
theorem gW {ds:List Int}{x:List Int}(h:eD ds)(a:RG (pr ds).toNat x):TOk ds x:=⟨h,by have:=a.1; have:=h.2.pos; omega,fun y b=>a.2 y b⟩
theorem oi {ds:List Int}{x:List Int}(h:TOk ds x):RG (pr ds).toNat x:=⟨by have:=h.l; omega,fun y a=>h.x y a⟩
theorem kh {ds x:List Int}(h:TOk ds x):x.length≤4096∧ds.length≤6:=⟨by have:=h.l; have:=h.d.2.2; omega,h.d.1⟩
def TT (t:Tensor):Prop:=TOk t.Dims t.Data
theorem p6 {t:Tensor}(h:TT t):Zq t=some true:=by
 have:=kh h
 rw [se (by unfold cA; omega) (by unfold cA; omega),decide_eq_true (show TOk t.Dims t.Data from h)]
theorem zn {op:Int}{t:Tensor}(h:TT t)(h1:1≤op)(h2:op≤4):∃ d,Z0z op t=some ⟨t.Dims,d⟩∧TOk t.Dims d:=by
 have q:=kh h
 unfold Z0z
 rw [p6 h]
 simp only [Option.bind_some]
 rw [if_neg (by simp; omega),kz h.d]
 simp only [Option.bind_some]
 have u:(pr t.Dims).toNat=t.Data.length:=(oi h).1.symm
 obtain ⟨r,b,e⟩:=kC (f:=fun s:List Int×Int=>Z0z_L1 op t ⟨t.Dims,List.replicate (pr t.Dims).toNat 0⟩ s.1 s.2) (Post:=fun r=>RG (pr t.Dims).toNat r) (pr t.Dims).toNat t.Data.length
  (fun j l x a=>by
   obtain ⟨m,g1,g⟩:=wy (op:=op) ((oi h).ix (i:=(j:Int)) (by omega) (by omega))
   simp only [Z0z_L1]
   rw [if_pos (by simp; omega),if_pos (by omega),g1]
   simp only [Option.bind_some]
   rw [if_pos (by simp; omega),bX (by unfold cA; omega)]
   exact ⟨_,rfl,a.set g _⟩)
  (fun x a=>by simp only [Z0z_L1]; rw [if_neg (by simp)]; exact ⟨x,rfl,a⟩) (RG.rep _)
 rw [b]
 exact ⟨r,rfl,gW h.d e⟩
theorem uk {ds:List Int}(h:eD ds):Zy ds ds=some ds:=by
 have u:=h.1
 unfold Zy
 rw [fX (by unfold cA; omega)]
 simp only [h,decide_true,Option.bind_some,bI,Bool.not_true,Bool.not_false,cond_true,Bool.or_self,Bool.false_eq_true,if_false]
 rw [if_neg (by simp)]
 unfold Zy_J1
 rw [if_pos (by omega)]
 have:=eR (f:=fun s:List Int×Int=>Zy_L1 ds ds (ds.length:Int) s.1 s.2) (r:=.inr ds) (fun j=>(List.replicate (ds.length - j) 0++ds.drop (ds.length - j),(j:Int))) ds.length
  (fun j q=>by
   obtain ⟨i,m⟩:∃ i,i=ds.length - (j+1):=⟨_,rfl⟩
   have e:ds.length - j=i+1:=by omega
   have a:i<ds.length:=by omega
   have b:aG (aG ((ds.length:Int) - 1) - (j:Int))=(i:Int):=by rw [aZ (n:=(ds.length:Int) - 1) (by omega) (by omega),aZ (by omega) (by omega)]; omega
   have g:Z27 ds (j:Int)=some (ix ds (i:Int)):=by
    unfold Z27
    rw [if_neg (by simp; omega),b,if_pos (by omega)]
   simp only [Zy_L1]
   rw [if_pos (by simp; omega),g]
   simp only [Option.bind_some]
   rw [if_neg (by simp),if_neg (by simp)]
   simp only [Zy_J3,b]
   rw [if_pos (by simp; omega),bX (by unfold cA; omega),e,← m,Int.toNat_natCast]
   congr 3
   have l:ds.drop i=ix ds (i:Int)::ds.drop (i+1):=by rw [List.drop_eq_getElem_cons a,bV a]
   rw [l,List.replicate_succ',List.set_append_left _ _ (by simp),List.set_append_right _ _ (by simp)]
   simp)
  (by simp only [Zy_L1,Nat.sub_self,List.replicate_zero,List.drop_zero,List.nil_append]; rw [if_neg (by simp)])
  (s:=(List.replicate (ds.length:Int).toNat 0,0)) (by simp)
 rw [this]
 simp only [Option.bind_some,Zy_J4]
 rw [fX (by unfold cA; omega)]
 simp [h]
theorem mU {t:Tensor}{is:List Int}(h:TT t)(a:IV t.Dims is):∃ x,Z06 t is=some x:=by
 have l:=kh h
 have b:=a.len
 unfold Z06
 have:=eR (f:=fun s:List Int×Int=>Z06_L1 t is s.1 s.2) (r:=is) (fun j=>(is.take j,(j:Int))) t.Dims.length
  (fun j i=>by
   have m:=a.mem (j:=j) (by omega)
   have e:aG (aG ((is.length:Int) - (t.Dims.length:Int))+(j:Int))=(j:Int):=by rw [aZ (n:=(is.length:Int) - (t.Dims.length:Int)) (by omega) (by omega),aZ (by omega) (by omega)]; omega
   simp only [Z06_L1,Z06_J2,e]
   rw [if_pos (by simp; omega),if_pos (by omega),if_pos (by omega),bX (by unfold cA; omega)]
   have tk:is.take (j+1)=is.take j++[ix is (j:Int)]:=by rw [List.take_succ_eq_append_getElem (by omega),bV (by omega)]
   by_cases c:ix t.Dims (j:Int)=1
   ·rw [if_pos (by simp [c]),if_pos (by simp; omega),tk,show ix is (j:Int)=0 by omega]
   ·rw [if_neg (by simp [c]),if_pos (by simp; omega),tk])
  (by simp only [Z06_L1]; rw [if_neg (by simp),List.take_of_length_le (by omega)])
  (s:=([],0)) rfl
 rw [this]
 simp only [Option.bind_some,Z06_J3]
 obtain ⟨x,g,_⟩:=mP h a
 rw [g]
 exact ⟨x,rfl⟩
theorem zo {op:Int}{t u:Tensor}(e:TT t)(l:TT u)(h:t.Dims=u.Dims)(h1:1≤op)(h2:op≤3):∃ d,Z10 op t u=some ⟨t.Dims,d⟩∧TOk t.Dims d:=by
 have I:=kh e
 have J:=e.d.2.2
 unfold Z10
 rw [p6 e,p6 l]
 simp only [Option.bind_some,bI,Bool.not_true,Bool.not_false,cond_true]
 rw [if_neg (by simp; omega),← h,uk e.d]
 simp only [Option.bind_some]
 rw [if_neg (by simp),kz e.d]
 simp only [Option.bind_some]
 obtain ⟨r,q,B⟩:=kC (f:=fun s:List Int×Int=>Z10_L1 op t u t.Dims ⟨t.Dims,List.replicate (pr t.Dims).toNat 0⟩ s.1 s.2) (Post:=fun r=>RG (pr t.Dims).toNat r) (pr t.Dims).toNat (pr t.Dims).toNat
  (fun j G x g=>by
   have i:=gV e.d.2.1 (j:Int)
   obtain ⟨a,E⟩:=mU e i
   obtain ⟨b,F⟩:=mU l (by rw [← h]; exact i)
   obtain ⟨m,g1,D⟩:=wz (op:=op) (x:=a) (y:=b) h1 h2
   simp only [Z10_L1]
   rw [if_pos (by simp; omega),jf e.d (by omega) (by omega)]
   simp only [Option.bind_some,E,F,g1]
   rw [if_pos (by simp; omega),bX (by unfold cA; omega)]
   exact ⟨_,rfl,g.set D _⟩)
  (fun x g=>by simp only [Z10_L1]; rw [if_neg (by simp)]; exact ⟨x,rfl,g⟩) (RG.rep _)
 rw [q]
 exact ⟨r,rfl,gW e.d B⟩
theorem wA {ds:List Int}(i:ds.length<cA):(eD ds→∃ d,Z0n ds 0=some ⟨ds,d⟩∧TOk ds d)∧(¬ eD ds→Z0n ds 0=some ⟨[],[]⟩):=by
 unfold Z0n
 rw [fX i]
 constructor
 ·intro h
  have u:=h.2.2
  simp only [h,decide_true,Option.bind_some,Bool.not_true,Bool.false_eq_true,if_false]
  rw [kz h]
  simp only [Option.bind_some]
  obtain ⟨m,l,a⟩:=jt 0
  obtain ⟨r,e,g⟩:=kC (f:=fun s:List Int×Int=>Z0n_L1 0 ⟨ds,List.replicate (pr ds).toNat 0⟩ s.1 s.2) (Post:=fun r=>RG (pr ds).toNat r) (pr ds).toNat (pr ds).toNat
   (fun j q x b=>by
    simp only [Z0n_L1]
    rw [if_pos (by simp; omega),l]
    simp only [Option.bind_some]
    rw [if_pos (by simp; omega),bX (by unfold cA; omega)]
    exact ⟨_,rfl,b.set a _⟩)
   (fun x b=>by simp only [Z0n_L1]; rw [if_neg (by simp)]; exact ⟨x,rfl,b⟩) (RG.rep _)
  rw [e]
  exact ⟨r,rfl,gW h g⟩
 ·intro h
  simp [h]
theorem ul (ds ss:List Int)(a:Int):(mQ ds ss a).length=(pr ds).toNat:=by simp [mQ]
theorem nr {t:Tensor}{v:View}(g:TT t)(a:VG v.Dims v.Strides v.Offset v.Base)(L:v.Base=pr t.Dims):∃ d,Z00 t v=some ⟨v.Dims,d⟩∧TOk v.Dims d:=by
 have O:=kh g
 have T:=a.d.1
 have U:=a.d.2.2
 have I:=g.l
 unfold Z00
 rw [p6 g,kf a]
 simp only [Option.bind_some,bI,Bool.not_true,Bool.not_false,cond_true]
 rw [if_neg (by simp; omega),hJ (by omega),pT a.d a.l a.s (by have:=a.o; have:=a.b; omega)]
 simp only [Option.bind_some]
 have D:=ul v.Dims v.Strides v.Offset
 obtain ⟨r,E,F⟩:=hD (f:=fun s:List Int×Int=>Z00_L1 t (mQ v.Dims v.Strides v.Offset) s.1 s.2) (fun j s=>s.2=(j:Int)∧RG j s.1) (pr v.Dims).toNat (Post:=fun r=>RG (pr v.Dims).toNat r)
  (fun j s M q=>by
   obtain ⟨x,i⟩:=s
   obtain ⟨e,m⟩:=q
   simp only at e
   subst e
   have J:0≤ix (mQ v.Dims v.Strides v.Offset) (j:Int)∧ix (mQ v.Dims v.Strides v.Offset) (j:Int)<v.Base:=by
    have:=bE (xs:=mQ v.Dims v.Strides v.Offset) (k:=j) (by omega)
    obtain ⟨k,_,G⟩:=List.mem_map.1 this
    rw [← G]
    exact a.place (gV a.d.2.1 (k:Int))
   have u:=(oi g).ix J.1 (by have:=(oi g).1; omega)
   have B:x.length=j:=m.1
   simp only [Z00_L1]
   rw [if_pos (by simp; omega),if_pos (by omega),if_pos (by omega),if_pos (by simp; omega),bX (by unfold cA; omega)]
   refine ⟨_,rfl,rfl,by simp [B],?_⟩
   intro y h
   rcases List.mem_append.1 h with h | h
   ·exact m.2 y h
   ·rw [List.mem_singleton.1 h]; exact u)
  (fun s q=>by
   obtain ⟨x,i⟩:=s
   obtain ⟨e,m⟩:=q
   simp only at e
   subst e
   simp only [Z00_L1]
   rw [if_neg (by simp; omega)]
   exact ⟨x,rfl,m⟩) (s:=([],0)) ⟨rfl,rfl,by simp⟩
 rw [E]
 exact ⟨r,rfl,gW a.d F⟩
theorem lL {t:Tensor}(a:TT t):Z00 t dQ=some ⟨[],[]⟩:=by
 unfold Z00
 rw [p6 a]
 simp only [Option.bind_some,bI,Bool.not_true,Bool.not_false,cond_true]
 rw [show Z8 dQ=some false from u7]
 simp
theorem qy {ds d:List Int}(h:eD ds)(D:d.length<cA):Z08 (bW ds) d=some (if eD d∧pr d=pr ds then bW d else dQ):=by
 have Y:=h.1
 have Z:=h.2.2
 have J:=h.2.pos
 have B:(bW ds).Dims=ds:=rfl
 have u:(bW ds).Base=pr ds:=rfl
 unfold Z08
 rw [kf (iK h)]
 simp only [Option.bind_some,bI,Bool.not_true,Bool.not_false,cond_true,Bool.false_or,fX D]
 by_cases hd:eD d
 ·have G:=hd.1
  have I:=hd.2.pos
  simp only [hd,decide_true,Bool.not_true,Bool.not_false,cond_true,Bool.false_or,true_and,B,Option.bind_some]
  rw [jd D,if_pos hd.2,jd (by unfold cA; omega),if_pos h.2]
  simp only [Option.bind_some]
  by_cases e:pr d=pr ds
  ·rw [if_neg (by simp [e]),if_pos e,pT (iK h).d (iK h).l (iK h).s ⟨Int.le_refl 0,by show (0:Int)≤4096; omega⟩,hJ (by omega)]
   simp only [Option.bind_some]
   have b:mQ (bW ds).Dims (bW ds).Strides (bW ds).Offset=(List.range (pr ds).toNat).map fun k:Nat=>(k:Int):=mR h.2
   obtain ⟨a,F⟩:∃ a,a=mQ (bW ds).Dims (bW ds).Strides (bW ds).Offset:=⟨_,rfl⟩
   rw [← F] at b ⊢
   have T:a.length=(pr ds).toNat:=by rw [b]; simp
   have q:∀ i:Int,0≤i→i<pr ds→ix a i=i:=by
    intro i E h1
    obtain ⟨k,rfl⟩:=Int.eq_ofNat_of_zero_le E
    rw [bV (by omega)]
    simp [b]
   rw [if_pos (by omega)]
   have:=eR (f:=fun s:List Int×Int=>Z08_L1 d a s.1 s.2) (r:=eH d) (fun j=>((eH d).take j,(j:Int))) d.length
    (fun j m=>by
     have L:=dC d
     have U:=hd.2.mem (bE m)
     have tk:(eH d).take (j+1)=(eH d).take j++[if ix d (j:Int)>1 then pr (d.drop (j+1)) else 0]:=by rw [List.take_succ_eq_append_getElem (by omega),← oW m,bV (by omega)]
     simp only [Z08_L1,Z08_J2]
     rw [if_pos (by simp; omega),if_pos (by omega)]
     by_cases c:ix d (j:Int)>1
     ·have q1:=(hd.2.drop (j+1)).pos
      have q2:pr (d.drop j)=ix d (j:Int)*pr (d.drop (j+1)):=by
       have:d.drop j=ix d (j:Int)::d.drop (j+1):=by rw [List.drop_eq_getElem_cons m,bV m]
       rw [this]; rfl
      have M:=gF d j
      have O:=(hd.2.take j).pos
      have q5:pr (d.drop j)≤pr d:=by rw [M]; exact ja O (by have:=(hd.2.drop j).pos; omega)
      have q6:2*pr (d.drop (j+1))≤ix d (j:Int)*pr (d.drop (j+1)):=Int.mul_le_mul_of_nonneg_right (by omega) (by omega)
      rw [if_pos (by simpa using c),bX (by unfold cA; omega),if_pos (by omega),gY,Int.toNat_natCast,jd (by simp [cA]; omega),if_pos (hd.2.drop (j+1))]
      simp only [Option.bind_some]
      rw [if_pos (by omega),if_pos (by simp; omega),q _ (by omega) (by omega),q 0 (by omega) (by omega),tk,if_pos c,aZ (by omega) (by omega),Int.sub_zero]
     ·rw [if_neg (by simpa using c),if_pos (by simp; omega),bX (by unfold cA; omega),tk,if_neg c])
    (by simp only [Z08_L1]; rw [if_neg (by simp),List.take_of_length_le (by rw [dC]; omega)])
    (s:=([],0)) rfl
   rw [this]
   simp only [Option.bind_some,Z08_J3]
   have hw:(⟨d,eH d,ix a 0,(bW ds).Base⟩:View)=bW d:=by rw [q 0 (by omega) (by omega),u,← e]; rfl
   rw [hw,kf (iK hd)]
   simp only [Option.bind_some,bI,Bool.not_true,Bool.not_false,cond_true]
   rw [pT (iK hd).d (iK hd).l (iK hd).s ⟨Int.le_refl 0,by show (0:Int)≤4096; omega⟩]
   simp only [Option.bind_some]
   have g:mQ (bW d).Dims (bW d).Strides (bW d).Offset=a:=by rw [b,← e]; exact mR hd.2
   rw [g,sf (by unfold cA; omega)]
   simp
  ·rw [if_pos (by simp [e]),if_neg e]
   rfl
 ·simp [hd,dQ]
theorem mq {n:Node}{ds:List Int}(h:eD ds)(l:n.Dims.length<cA):∃ ps,Z0x n ds=some (if eD n.Dims∧pr n.Dims=pr ds then (n.Dims,ps,true) else ([],[],false)):=by
 have u:=h.1
 have B:=h.2.2
 unfold Z0x
 rw [gT l]
 by_cases hd:eD n.Dims
 ·simp only [hd,decide_true,Option.bind_some,bI,Bool.not_true,Bool.not_false,cond_true,Bool.false_or,true_and]
  rw [kZ l hd.2,kZ (by unfold cA; omega) h.2]
  simp only [Option.bind_some]
  by_cases e:pr n.Dims=pr ds
  ·rw [if_neg (by simp [e])]
   obtain ⟨r,m,_⟩:=hD (f:=fun s:List pair×Int=>Z0x_L1 (pr ds) s.1 s.2) (fun j s=>s.2=(j:Int)∧s.1.length=j) (pr ds).toNat (Post:=fun _=>True)
    (fun j s q b=>by
     obtain ⟨x,i⟩:=s
     obtain ⟨a,g⟩:=b
     simp only at a g
     subst a
     simp only [Z0x_L1]
     rw [if_pos (by simp; omega),if_pos (by simp; omega),bX (by unfold cA; omega)]
     exact ⟨_,rfl,rfl,by simp [g]⟩)
    (fun s b=>by
     obtain ⟨x,i⟩:=s
     obtain ⟨a,g⟩:=b
     simp only at a
     subst a
     have:=h.2.pos
     simp only [Z0x_L1]
     rw [if_neg (by simp; omega)]
     exact ⟨x,rfl,trivial⟩) (s:=([],0)) ⟨rfl,rfl⟩
   rw [m]
   exact ⟨r,by rw [if_pos e]; rfl⟩
  ·rw [if_pos (by simp [e])]
   exact ⟨[],by rw [if_neg e]⟩
 ·simp [hd,bI]
end Go.Proofs.YtmpnollfdpdipaaGreat
