import Derived.Test.YthelanpdjajnbaaGreatMeF
import Derived.Test.YthelanpdjajnbaaGreatPL1
set_option linter.unusedVariables false
set_option linter.unusedSimpArgs false
namespace Go.Proofs.YthelanpdjajnbaaGreat
open Go Go.Pg
theorem j5 {a b:Int}(e:0≤a)(g:1≤b):a≤a*b:=by
 have:=Int.mul_le_mul_of_nonneg_left g e
 simpa using this
theorem jO {a b:Int}(e:1≤a)(g:0≤b):b≤a*b:=by rw [Int.mul_comm]; exact j5 g e
def pr:List Int→Int
 | []=>1
 | d::ds=>d*pr ds
def SZ (ds:List Int):Prop:=(∀ d∈ds,1≤d)∧pr ds≤4096
instance (ds:List Int):Decidable (SZ ds):=by unfold SZ; infer_instance
def eK (ds:List Int):Prop:=ds.length≤6∧SZ ds
instance (ds:List Int):Decidable (eK ds):=by unfold eK; infer_instance
theorem fV {ds:List Int}(h:∀ d∈ds,1≤d):1≤pr ds:=by
 induction ds with
 | nil=>exact Int.le_refl 1
 | cons d ds ih =>
  have h1:=h d (by simp)
  have h2:=ih fun x a=>h x (by simp [a])
  exact Int.le_trans h1 (j5 (by omega) h2)
theorem nd (a b:List Int):pr (a++b)=pr a*pr b:=by
 induction a with
 | nil=>simp [pr]
 | cons x a ih=>simp [pr,ih,Int.mul_assoc]
theorem hJ (ds:List Int)(k:Nat):pr ds=pr (ds.take k)*pr (ds.drop k):=by
 rw [← nd,List.take_append_drop]
theorem SZ.take {ds:List Int}(h:SZ ds)(k:Nat):SZ (ds.take k):=by
 refine ⟨fun d a=>h.1 d (List.mem_of_mem_take a),?_⟩
 have h1:=h.2
 rw [hJ ds k] at h1
 have h2:1≤pr (ds.drop k):=fV fun d a=>h.1 d (List.mem_of_mem_drop a)
 have b:1≤pr (ds.take k):=fV fun d a=>h.1 d (List.mem_of_mem_take a)
 exact Int.le_trans (j5 (by omega) h2) h1
theorem SZ.drop {ds:List Int}(h:SZ ds)(k:Nat):SZ (ds.drop k):=by
 refine ⟨fun d a=>h.1 d (List.mem_of_mem_drop a),?_⟩
 have h1:=h.2
 rw [hJ ds k] at h1
 have h2:1≤pr (ds.drop k):=fV fun d a=>h.1 d (List.mem_of_mem_drop a)
 have b:1≤pr (ds.take k):=fV fun d a=>h.1 d (List.mem_of_mem_take a)
 exact Int.le_trans (jO b (by omega)) h1
theorem SZ.tail {d:Int}{ds:List Int}(h:SZ (d::ds)):SZ ds:=h.drop 1
theorem SZ.pos {ds:List Int}(h:SZ ds):1≤pr ds:=fV h.1
theorem SZ.mem {ds:List Int}(h:SZ ds){d:Int}(e:d∈ds):1≤d∧d≤4096:=by
 refine ⟨h.1 d e,?_⟩
 obtain ⟨a,b,rfl⟩:=List.append_of_mem e
 have h2:=h.2
 rw [nd] at h2
 have j:1≤pr a:=fV fun x g=>h.1 x (by simp [g])
 have l:1≤pr b:=fV fun x g=>h.1 x (by simp [g])
 have m:=h.1 d e
 have i:d≤pr (d::b):=j5 (by omega) l
 exact Int.le_trans (Int.le_trans i (jO j (by omega))) h2
theorem tB {R:Type}(h:R)(i:Int→R)(ds:List Int)(k:Nat)(n:Int)(q:1≤n)(h1:n≤4096) :
  rf (fun (s:Int) (_:Nat) (x:Int)=>if (decide (x<1)||decide (x>4096))=true then .inr h else if decide (s*x>4096)=true then .inr h else .inl (s*x)) i ds k n
   = if (∀ d∈ds,1≤d)∧n*pr ds≤4096 then i (n*pr ds) else h:=by
 induction ds generalizing n k with
 | nil=>simp [rf,pr,h1]
 | cons d ds ih =>
  unfold rf
  by_cases c1:d<1
  ·have l:¬ ((∀ x∈d::ds,1≤x)∧n*pr (d::ds)≤4096):=fun ⟨a,_⟩=>by have:=a d (by simp); omega
   rw [if_neg l]
   simp [c1]
  ·have cJ:d>4096∨n*d>4096→¬ ((∀ x∈d::ds,1≤x)∧n*pr (d::ds)≤4096):=by
    rintro j ⟨a,b⟩
    have r:1≤pr ds:=fV fun x m=>a x (by simp [m])
    have e:n*pr (d::ds)=n*d*pr ds:=by simp [pr,Int.mul_assoc]
    rw [e] at b
    have h2:d≤n*d:=jO q (by omega)
    have u:n*d≤n*d*pr ds:=j5 (by omega) r
    rcases j with j | j<;>omega
   by_cases c2:d>4096
   ·rw [if_neg (cJ (.inl c2))]; simp [c2]
   ·by_cases c3:n*d>4096
    ·rw [if_neg (cJ (.inr c3))]; simp [c1,c2,c3]
    ·have B:d≤n*d:=jO q (by omega)
     simp only [c1,c2,c3,decide_false,Bool.or_self,Bool.false_eq_true,if_false]
     rw [ih (k+1) (n*d) (by omega) (by omega)]
     have e:n*pr (d::ds)=n*d*pr ds:=by simp [pr,Int.mul_assoc]
     by_cases g:(∀ x∈ds,1≤x)∧n*d*pr ds≤4096
     ·rw [if_pos g,if_pos ⟨List.forall_mem_cons.2 ⟨by omega,g.1⟩,by rw [e]; exact g.2⟩,e]
     ·rw [if_neg g,if_neg fun a=>g ⟨fun x m=>a.1 x (by simp [m]),by rw [← e]; exact a.2⟩]
theorem vt {R:Type}(a:Int→R)(ds:List Int)(k:Nat)(n:Int):rf (fun (s:Int) (_:Nat) (x:Int)=>.inl (s*x)) a ds k n=a (n*pr ds):=by
 induction ds generalizing n k with
 | nil=>simp [rf,pr]
 | cons d ds ih =>
  unfold rf
  simp only
  rw [ih]
  simp [pr,Int.mul_assoc]
theorem iS {a b:Int}(e:0≤a)(h1:a≤65536)(h2:0≤b)(g:b≤65536):aK (a*b)=a*b:=by
 have h:a*b≤65536*65536:=Int.mul_le_mul h1 g h2 (by omega)
 have i:0≤a*b:=Int.mul_nonneg e h2
 exact bG (by omega) (by omega)
theorem jP {ds:List Int}(q:ds.length<cJ):Zu ds=some (if SZ ds then pr ds else 0):=by
 have:=jD (S:=Int) ds (fun _ n=>1≤n∧n≤4096) (fun s:Int×Int=>Zu_L1 ds s.1 s.2) (fun n i=>(n,i)) (fun (s:Int) (_:Nat) (x:Int)=>if (decide (x<1)||decide (x>4096))=true then .inr (.inl (0:Int)) else if decide (s*x>4096)=true then .inr (.inl 0) else .inl (s*x)) (fun n=>.inr n)
  (fun n k l m=>by
   simp only [Zu_L1]
   rw [if_pos (by simp; omega),if_pos (by omega)]
   split
   ·rfl
   ·rename_i h
    simp only [Bool.or_eq_true,decide_eq_true_eq,not_or] at h
    rw [iS (by omega) (by omega) (by omega) (by omega),cA (by omega)]
    split<;>rfl)
  (fun n k s l m j=>by
   split at j
   ·cases j
   ·rename_i h
    simp only [Bool.or_eq_true,decide_eq_true_eq,not_or] at h
    split at j
    ·cases j
    ·rename_i h2
     simp only [decide_eq_true_eq] at h2
     cases j
     have:=jO (a:=n) (b:=ix ds (k:Int)) l.1 (by omega)
     omega)
  (fun n _=>by simp only [Zu_L1]; rw [if_neg (by simp)]) 1 ⟨by omega,by omega⟩
 unfold Zu
 rw [this,tB _ _ _ _ _ (by omega) (by omega)]
 simp only [Int.one_mul,Option.bind_some]
 have e:SZ ds↔(∀ d∈ds,1≤d)∧pr ds≤4096:=Iff.rfl
 by_cases h:SZ ds
 ·rw [if_pos (e.1 h),if_pos h]; rfl
 ·rw [if_neg (fun g=>h (e.2 g)),if_neg h]
theorem gY {ds:List Int}(a:ds.length<cJ):Zp ds=some (decide (eK ds)):=by
 unfold Zp
 by_cases h:ds.length≤6
 ·have e:decide ((ds.length:Int)≤6)=true:=by simp; omega
  rw [e]
  simp only [bT,jP a,cond_true,Option.bind_some,Bool.true_and]
  congr 1
  by_cases g:SZ ds
  ·have:=g.pos; simp [g,eK,h]; omega
  ·simp [g,eK]
 ·have e:decide ((ds.length:Int)≤6)=false:=by simp; omega
  rw [e]
  simp [bT,eK,h]
theorem iw {ds:List Int}(q:ds.length<cJ):Zf ds=some (decide (eK ds)):=by
 have:=jD (S:=Int) ds (fun _ n=>1≤n∧n≤4096) (fun s:Int×Int=>Zf_L1 ds s.1 s.2) (fun n i=>(n,i)) (fun (s:Int) (_:Nat) (x:Int)=>if (decide (x<1)||decide (x>4096))=true then .inr (.inl false) else if decide (s*x>4096)=true then .inr (.inl false) else .inl (s*x)) (fun n=>.inr ())
  (fun n k l m=>by
   simp only [Zf_L1]
   rw [if_pos (by simp; omega),if_pos (by omega)]
   split
   ·rfl
   ·rename_i h
    simp only [Bool.or_eq_true,decide_eq_true_eq,not_or] at h
    rw [iS (by omega) (by omega) (by omega) (by omega),cA (by omega)]
    split<;>rfl)
  (fun n k s l m j=>by
   split at j
   ·cases j
   ·rename_i h
    simp only [Bool.or_eq_true,decide_eq_true_eq,not_or] at h
    split at j
    ·cases j
    ·rename_i h2
     simp only [decide_eq_true_eq] at h2
     cases j
     have:=jO (a:=n) (b:=ix ds (k:Int)) l.1 (by omega)
     omega)
  (fun n _=>by simp only [Zf_L1]; rw [if_neg (by simp)]) 1 ⟨by omega,by omega⟩
 unfold Zf
 rw [this,tB _ _ _ _ _ (by omega) (by omega)]
 simp only [Int.one_mul,Option.bind_some]
 have e:SZ ds↔(∀ d∈ds,1≤d)∧pr ds≤4096:=Iff.rfl
 by_cases h:SZ ds
 ·rw [if_pos (e.1 h)]
  simp only [Zf_J1]
  congr 1
  simp [eK,h]; omega
 ·rw [if_neg (fun g=>h (e.2 g))]
  simp [eK,h]
theorem lU {ds:List Int}(j:ds.length<cJ)(h:SZ ds):Zo ds=some (pr ds):=by
 have:=jD (S:=Int) ds (fun k n=>n=pr (ds.take k)) (fun s:Int×Int=>Zo_L1 ds s.1 s.2) (fun n i=>(n,i)) (fun (s:Int) (_:Nat) (x:Int)=>.inl (s*x)) (fun n=>n)
  (fun n k b a=>by
   simp only [Zo_L1]
   have h1:=(h.take k)
   have h2:=h1.pos
   have g:=h.mem (bF a)
   rw [if_pos (by simp; omega),if_pos (by omega),iS (by omega) (by have:=h1.2; omega) (by omega) (by omega),cA (by omega)])
  (fun n k s b a e=>by
   simp only [Sum.inl.injEq] at e
   rw [← e,b,List.take_succ_eq_append_getElem a,nd,bV a]
   simp [pr])
  (fun n _=>by simp only [Zo_L1]; rw [if_neg (by simp)]) 1 rfl
 unfold Zo
 rw [this,vt]
 simp [Zo_J1]
def iy:List Int→Int→List Int
 | [],_=>[]
 | d::ds,k=>(k / pr ds) % d::iy ds k
def mD:List Int→List Int→Int
 | d::ds,i::is=>i*pr ds+mD ds is
 | _,_=>0
def IV:List Int→List Int→Prop
 | [],[]=>True
 | d::ds,i::is=>(0≤i∧i<d)∧IV ds is
 | _,_=>False
theorem jQ (ds:List Int)(k:Int):(iy ds k).length=ds.length:=by
 induction ds with
 | nil=>rfl
 | cons d ds ih=>simp [iy,ih]
theorem IV.len {ds is:List Int}(h:IV ds is):is.length=ds.length:=by
 induction ds generalizing is with
 | nil=>cases is with
  | nil=>rfl
  | cons=>exact h.elim
 | cons d ds ih=>cases is with
  | nil=>exact h.elim
  | cons i is=>simp [ih h.2]
theorem iz {ds:List Int}(h:∀ d∈ds,1≤d)(k:Int):IV ds (iy ds k):=by
 induction ds with
 | nil=>trivial
 | cons d ds ih =>
  have b:=h d (by simp)
  exact ⟨⟨Int.emod_nonneg _ (by omega),Int.emod_lt_of_pos _ (by omega)⟩,ih fun x a=>h x (by simp [a])⟩
theorem ne {ds is:List Int}(h:∀ d∈ds,1≤d)(e:IV ds is):0≤mD ds is∧mD ds is<pr ds:=by
 induction ds generalizing is with
 | nil=>cases is with
  | nil=>exact ⟨Int.le_refl 0,by decide⟩
  | cons=>exact e.elim
 | cons d ds ih=>cases is with
  | nil=>exact e.elim
  | cons i is =>
   obtain ⟨a,b⟩:=ih (fun x g=>h x (by simp [g])) e.2
   have l:1≤pr ds:=fV fun x g=>h x (by simp [g])
   have j:=Int.mul_nonneg e.1.1 (show 0≤pr ds by omega)
   have h1:(i+1)*pr ds≤d*pr ds:=Int.mul_le_mul_of_nonneg_right (by have:=e.1.2; omega) (by omega)
   rw [Int.add_mul] at h1
   show 0≤i*pr ds+mD ds is∧i*pr ds+mD ds is<d*pr ds
   omega
theorem tC {k p d:Int}(r:1≤p)(m:1≤d):k / (d*p)=k / p / d∧k % (d*p)=k / p % d*p+k % p:=by
 have a:=Int.emod_nonneg k (show p≠0 by omega)
 have b:=Int.emod_lt_of_pos k (show 0<p by omega)
 have c:=Int.emod_nonneg (k / p) (show d≠0 by omega)
 have e:=Int.emod_lt_of_pos (k / p) (show 0<d by omega)
 have h1:=Int.mul_nonneg c (show 0≤p by omega)
 have h2:(k / p % d+1)*p≤d*p:=Int.mul_le_mul_of_nonneg_right (by omega) (by omega)
 rw [Int.add_mul] at h2
 have i:0<d*p:=Int.mul_pos (by omega) (by omega)
 refine (Int.ediv_emod_unique (q:=k / p / d) i).2 ⟨?_,by omega,by omega⟩
 have j:=Int.mul_ediv_add_emod k p
 have g:=Int.mul_ediv_add_emod (k / p) d
 have h:d*p*(k / p / d)=p*(d*(k / p / d)):=by rw [Int.mul_comm d p,Int.mul_assoc]
 have l:p*(k / p)=p*(d*(k / p / d))+p*(k / p % d):=by rw [← Int.mul_add,g]
 rw [h,Int.mul_comm (k / p % d) p]
 omega
theorem vu {ds:List Int}(h:∀ d∈ds,1≤d)(k:Int):mD ds (iy ds k)=k % pr ds:=by
 induction ds generalizing k with
 | nil=>simp [mD,pr,Int.emod_one]
 | cons d ds ih =>
  have e:1≤pr ds:=fV fun x a=>h x (by simp [a])
  have b:=h d (by simp)
  show k / pr ds % d*pr ds+mD ds (iy ds k)=k % (d*pr ds)
  rw [ih fun x a=>h x (by simp [a])]
  exact (tC e b).2.symm
theorem rP {ds:List Int}(h:∀ d∈ds,1≤d){k:Int}(a:0≤k)(h1:k<pr ds):mD ds (iy ds k)=k:=by
 rw [vu h,Int.emod_eq_of_lt a h1]
theorem eR {S R:Type}{f:S→Option (S⊕R)}(st:Nat→S)(n:Nat){r:R}(h:∀ j,j<n→f (st j)=some (.inl (st (j+1))))(e:f (st n)=some (.inr r)){s:S}(b:s=st 0):aU f s=some r:=by
 have a:∀ m j,j+m=n→aU f (st j)=some r:=by
  intro m
  induction m with
  | zero=>intro j g; rw [show j=n by omega]; exact dB e
  | succ m ih=>intro j g; rw [eP (h j (by omega))]; exact ih (j+1) (by omega)
 rw [b]
 exact a n 0 (by omega)
theorem hO {S R:Type}{f:S→Option (S⊕R)}(I:Nat→S→Prop)(n:Nat){Post:R→Prop}(i:∀ j s,j<n→I j s→∃ s',f s=some (.inl s')∧I (j+1) s')(g:∀ s,I n s→∃ r,f s=some (.inr r)∧Post r){s:S}(e:I 0 s):∃ r,aU f s=some r∧Post r:=by
 have b:∀ m j s,j+m=n→I j s→∃ r,aU f s=some r∧Post r:=by
  intro m
  induction m with
  | zero =>
   intro j s h a
   rw [show j=n by omega] at a
   obtain ⟨r,h1,h2⟩:=g s a
   exact ⟨r,dB h1,h2⟩
  | succ m ih =>
   intro j s h a
   obtain ⟨s',h1,h2⟩:=i j s (by omega) a
   rw [eP h1]
   exact ih (j+1) s' (by omega) h2
 exact b n 0 s (by omega) e
structure TOk (dims data:List Int):Prop where
 d:eK dims
 l:(data.length:Int)=pr dims
 x:∀ x∈data,0≤x∧x<2147483647
instance (dims data:List Int):Decidable (TOk dims data):=decidable_of_iff (eK dims∧(data.length:Int)=pr dims∧∀ x∈data,0≤x∧x<2147483647) ⟨fun h=>⟨h.1,h.2.1,h.2.2⟩,fun h=>⟨h.d,h.l,h.x⟩⟩
theorem pw (xs:List Int):(xs.all fun x=>!(decide (x<0)||decide (x≥2147483647)))=decide (∀ x∈xs,0≤x∧x<2147483647):=by
 rw [Bool.eq_iff_iff]
 simp only [List.all_eq_true,decide_eq_true_eq,Bool.not_eq_true',Bool.or_eq_false_iff,decide_eq_false_iff_not]
 exact ⟨fun h x a=>by have:=h x a; omega,fun h x a=>by have:=h x a; omega⟩
theorem tD {t:Tensor}(a:t.Dims.length<cJ)(b:t.Data.length<cJ):Zs t=some (decide (TOk t.Dims t.Data)):=by
 unfold Zs
 rw [gY a]
 by_cases h:eK t.Dims
 ·simp only [h,decide_true,Option.bind_some,bT,Bool.not_true,Bool.not_false,cond_true,Bool.false_or,jP a,h.2,if_true]
  by_cases e:(t.Data.length:Int)=pr t.Dims
  ·rw [if_neg (by simp [e])]
   have:=fA t.Data (fun s:Int=>Zs_L1 t s) (fun i=>i) (fun x=>!(decide (x<0)||decide (x≥2147483647))) (.inl false) (.inr ())
    (fun k j=>by
     simp only [Zs_L1]
     rw [if_pos (by simp; omega),if_pos (by omega),cA (by omega)]
     cases (decide (ix t.Data (k:Int)<0)||decide (ix t.Data (k:Int)≥2147483647))<;>rfl)
    (by simp only [Zs_L1]; rw [if_neg (by simp)])
   rw [this,pw]
   by_cases g:∀ x∈t.Data,0≤x∧x<2147483647
   ·have:TOk t.Dims t.Data:=⟨h,e,g⟩
    simp only [decide_eq_true g,decide_eq_true this,if_true,Option.bind_some,Zs_J1]
   ·have:¬ TOk t.Dims t.Data:=fun q=>g q.x
    simp only [decide_eq_false g,decide_eq_false this,Bool.false_eq_true,if_false,Option.bind_some]
  ·rw [if_pos (by simp [e])]
   have:¬ TOk t.Dims t.Data:=fun q=>e q.l
   simp [this]
 ·have:¬ TOk t.Dims t.Data:=fun q=>h q.d
  simp [h,this,bT]
theorem xI {t:Tensor}(a:t.Dims.length<cJ)(j:t.Data.length<cJ):Z2t t=some (decide (TOk t.Dims t.Data)):=by
 unfold Z2t
 rw [iw a]
 by_cases h:eK t.Dims
 ·simp only [h,decide_true,Option.bind_some,bT,cond_true,Bool.true_and,lU a h.2]
  by_cases e:(t.Data.length:Int)=pr t.Dims
  ·have:=fA t.Data (fun s:Int=>Z1a_L1 t.Data s) (fun i=>i) (fun x=>!(decide (x<0)||decide (x≥2147483647))) (.inl false) (.inr ())
    (fun k m=>by
     simp only [Z1a_L1,Z3b,Option.bind_some]
     rw [if_pos (by simp; omega),if_pos (by omega),cA (by omega)]
     by_cases c1:ix t.Data (k:Int)<0
     ·have:¬ ix t.Data (k:Int)≥0:=by omega
      simp [c1,this]
     ·have h1:ix t.Data (k:Int)≥0:=by omega
      by_cases c2:ix t.Data (k:Int)<2147483647
      ·have h2:¬ ix t.Data (k:Int)≥2147483647:=by omega
       simp [c1,h1,c2,h2]
      ·have h2:ix t.Data (k:Int)≥2147483647:=by omega
       simp [c1,h1,c2,h2])
    (by simp only [Z1a_L1]; rw [if_neg (by simp)])
   simp only [e,beq_self_eq_true,cond_true,Z1a,this,pw]
   by_cases g:∀ x∈t.Data,0≤x∧x<2147483647
   ·have:TOk t.Dims t.Data:=⟨h,e,g⟩
    simp only [decide_eq_true g,decide_eq_true this,if_true,Option.bind_some,Z1a_J1,Bool.and_self]
   ·have:¬ TOk t.Dims t.Data:=fun q=>g q.x
    simp only [decide_eq_false g,decide_eq_false this,Bool.false_eq_true,if_false,Option.bind_some,Bool.and_false]
  ·have:¬ TOk t.Dims t.Data:=fun q=>e q.l
   have b:((t.Data.length:Int)==pr t.Dims)=false:=by simp [e]
   simp [this,b]
 ·have:¬ TOk t.Dims t.Data:=fun q=>h q.d
  simp [h,this,bT]
theorem gU {xs:List Int}(h:xs.length≤17592186044416):Ze xs=some xs:=by
 unfold Ze
 rw [if_pos (by simpa using h)]
 simp
theorem fO {xs:List Int}(h:xs.length≤17592186044416):Zc xs=some xs:=by
 unfold Zc; rw [if_pos h]
theorem rh (a b:List Int)(h:a.length=b.length):(List.range a.length).all (fun k=>!(ix a (k:Int) != ix b (k:Int)))=decide (a=b):=by
 rw [Bool.eq_iff_iff]
 simp only [List.all_eq_true,List.mem_range,decide_eq_true_eq,bne,Bool.not_not,beq_iff_eq]
 constructor
 ·intro q
  apply List.ext_getElem h
  intro i h1 h2
  have:=q i h1
  rwa [bV h1,bV h2] at this
 ·rintro rfl k _; rfl
theorem pZ {a b:List Int}(g:a.length<cJ):Zw a b=some (decide (a=b)):=by
 unfold Zw
 by_cases h:a.length=b.length
 ·rw [if_neg (by simp [h])]
  have:=iu a.length (fun s:Int=>Zw_L1 a b s) (fun i=>i) (fun k=>!(ix a (k:Int) != ix b (k:Int))) (.inl false) (.inr ())
   (fun k j=>by
    simp only [Zw_L1]
    rw [if_pos (by simp; omega),if_pos (by omega),if_pos (by omega),cA (by omega)]
    cases (ix a (k:Int) != ix b (k:Int))<;>rfl)
   (by simp only [Zw_L1]; rw [if_neg (by simp)])
  rw [this,rh a b h]
  by_cases e:a=b<;>simp [e,Zw_J1]
 ·rw [if_pos (by simp; omega)]
  have:a≠b:=fun e=>h (by rw [e])
  simp [this]
theorem ri {a b:List Int}(g:a.length<cJ):Z0u a b=some (decide (a=b)):=by
 unfold Z0u
 by_cases h:a.length=b.length
 ·rw [if_neg (by simp [h])]
  have:=iu a.length (fun s:Int=>Z0u_L1 a b s) (fun i=>i) (fun k=>!(ix a (k:Int) != ix b (k:Int))) (.inl false) (.inr ())
   (fun k j=>by
    simp only [Z0u_L1]
    rw [if_pos (by simp; omega),if_pos (by omega),if_pos (by omega),cA (by omega)]
    cases (ix a (k:Int) != ix b (k:Int))<;>rfl)
   (by simp only [Z0u_L1]; rw [if_neg (by simp)])
  rw [this,rh a b h]
  by_cases e:a=b<;>simp [e,Z0u_J1]
 ·rw [if_pos (by simp; omega)]
  have:a≠b:=fun e=>h (by rw [e])
  simp [this]
theorem ld {ds:List Int}(h:eK ds):Z0k ds=some ⟨ds,List.replicate (pr ds).toNat 0⟩:=by
 have h1:=h.1
 have h2:=h.2.pos
 have a:=h.2.2
 unfold Z0k
 rw [gU (by omega)]
 simp only [Option.bind_some,jP (ds:=ds) (by unfold cJ; omega),h.2,if_true]
 rw [if_pos (by omega)]
theorem jR {ds:List Int}{k:Int}(h:eK ds)(b:0≤k)(h1:k≤65536):Zl ds k=some (iy ds k):=by
 have L:=h.1
 unfold Zl
 rw [if_pos (by omega)]
 have:=eR (f:=fun s:Int×List Int×Int=>Zl_L1 ds s.1 s.2.1 s.2.2) (r:=iy ds k)
  (fun j=>(k / pr (ds.drop (ds.length - j)),List.replicate (ds.length - j) 0++iy (ds.drop (ds.length - j)) k,(ds.length:Int) - 1 - j)) ds.length
  (fun j J=>by
   obtain ⟨i,B⟩:∃ i,i=ds.length - (j+1):=⟨_,rfl⟩
   have l:ds.length - j=i+1:=by omega
   have m:(ds.length:Int) - 1 - (j:Int)=(i:Int):=by omega
   have a:i<ds.length:=by omega
   have D:=h.2.mem (bF a)
   have E:=(h.2.drop (i+1)).pos
   have e:ds.drop i=ix ds (i:Int)::ds.drop (i+1):=by rw [List.drop_eq_getElem_cons a,bV a]
   have g:0≤k / pr (ds.drop (i+1)):=Int.ediv_nonneg b (by omega)
   have F:k / pr (ds.drop (i+1))≤65536:=Int.le_trans (Int.ediv_le_self _ b) h1
   simp only [Zl_L1,l,m,← B]
   rw [if_pos (by simp),if_pos (by omega),if_pos (by omega),if_pos (by simp; omega)]
   have q:(k / pr (ds.drop (i+1))).tdiv (ix ds (i:Int))=k / pr (ds.drop i):=by
    rw [Int.tdiv_eq_ediv_of_nonneg g,e]; exact (tC E D.1).1.symm
   have u:(k / pr (ds.drop (i+1))).tmod (ix ds (i:Int))=k / pr (ds.drop (i+1)) % ix ds (i:Int):=Int.tmod_eq_emod_of_nonneg g
   have G:0≤k / pr (ds.drop i):=Int.ediv_nonneg b (by have:=(h.2.drop i).pos; omega)
   have I:k / pr (ds.drop i)≤65536:=Int.le_trans (Int.ediv_le_self _ b) h1
   rw [q,u,bG (by omega) (by omega),bG (by omega) (by omega)]
   congr 4
   ·rw [e,List.set_append_left _ _ (by simp),List.replicate_succ',List.set_append_right _ _ (by simp)]
    simp [iy]
   ·omega)
  (by
   simp only [Zl_L1,Nat.sub_self,List.drop_zero,List.replicate_zero,List.nil_append]
   rw [if_neg (by simp; omega)])
  (s:=(k,List.replicate (ds.length:Int).toNat 0,aK ((ds.length:Int) - 1))) (by
   rw [bG (by omega) (by omega)]
   simp [pr,iy])
 rw [this]
 rfl
theorem px {ds is:List Int}(g:IV ds is){k:Nat}(h:k<ds.length):IV (ds.take k) (is.take k)∧mD (ds.take (k+1)) (is.take (k+1))=mD (ds.take k) (is.take k)*ix ds (k:Int)+ix is (k:Int):=by
 induction ds generalizing is k with
 | nil=>simp at h
 | cons d ds ih=>cases is with
  | nil=>exact g.elim
  | cons i is =>
   cases k with
   | zero=>simp [IV,mD,pr,ix]
   | succ k =>
    obtain ⟨a,b⟩:=ih g.2 (k:=k) (by simpa using h)
    refine ⟨⟨g.1,a⟩,?_⟩
    have e:k<ds.length:=by simpa using h
    have j:ix (d::ds) ((k+1:Nat):Int)=ix ds (k:Int):=by simp [ix]
    have l:ix (i::is) ((k+1:Nat):Int)=ix is (k:Int):=by simp [ix]
    rw [j,l]
    have m:pr (ds.take (k+1))=pr (ds.take k)*ix ds (k:Int):=by rw [List.take_succ_eq_append_getElem e,nd,bV e]; simp [pr]
    show i*pr (ds.take (k+1))+mD (ds.take (k+1)) (is.take (k+1))=(i*pr (ds.take k)+mD (ds.take k) (is.take k))*ix ds (k:Int)+ix is (k:Int)
    rw [b,m,Int.add_mul,Int.mul_assoc,Int.add_assoc]
theorem oi {ds is:List Int}(h:eK ds)(g:IV ds is):Z0w ds is=some (mD ds is):=by
 have D:=h.1
 have q:=g.len
 unfold Z0w
 have:=eR (f:=fun s:Int×Int=>Z0w_L1 ds is s.1 s.2) (r:=mD ds is) (fun j=>(mD (ds.take j) (is.take j),(j:Int))) ds.length
  (fun j l=>by
   obtain ⟨a,b⟩:=px g l
   have B:=ne (fun d i=>h.2.1 d (List.mem_of_mem_take i)) a
   have F:=(h.2.take j).2
   have m:=ne (fun d i=>h.2.1 d (List.mem_of_mem_take i)) (ds:=ds.take (j+1)) (is:=is.take (j+1)) (by
    by_cases e:j+1<ds.length
    ·exact (px g e).1
    ·rw [List.take_of_length_le (by omega),List.take_of_length_le (by omega)]; exact g)
   have u:=(h.2.take (j+1)).2
   have E:=h.2.mem (bF l)
   simp only [Z0w_L1]
   rw [if_pos (by simp; omega),if_pos (by omega),if_pos (by omega),iS (by omega) (by omega) (by omega) (by omega),← b,bG (by omega) (by omega),cA (by unfold cJ; omega)])
  (by simp only [Z0w_L1]; rw [if_neg (by simp),List.take_length,List.take_of_length_le (by omega)])
  (s:=(0,0)) (by simp [mD])
 rw [this]
 rfl
theorem nQ {t:Tensor}{is:List Int}(h:TOk t.Dims t.Data)(a:IV t.Dims is):∃ x,Z1c t is=some x∧x∈t.Data:=by
 have b:=ne h.d.2.1 a
 have g:=h.l
 unfold Z1c
 rw [oi h.d a]
 simp only [Option.bind_some]
 rw [if_pos (by omega)]
 refine ⟨_,rfl,?_⟩
 have e:(((mD t.Dims is).toNat:Nat):Int)=mD t.Dims is:=by omega
 rw [← e]
 exact bF (by omega)
theorem tF {t:Tensor}{is:List Int}{x:Int}(h:eK t.Dims)(e:(t.Data.length:Int)=pr t.Dims)(a:IV t.Dims is):Z21 t is x=some (t.Data.set (mD t.Dims is).toNat x):=by
 have b:=ne h.2.1 a
 unfold Z21
 rw [oi h a]
 simp only [Option.bind_some]
 rw [if_pos (by omega)]
def zs (f:Int→Int→Int):List Int→List Int→Int
 | a::xs,b::ys=>f a b+zs f xs ys
 | _,_=>0
theorem lg (f:Int→Int→Int){xs ys:List Int}{j:Nat}(e:j<xs.length)(g:j<ys.length):zs f (xs.take (j+1)) (ys.take (j+1))=zs f (xs.take j) (ys.take j)+f (ix xs (j:Int)) (ix ys (j:Int)):=by
 induction xs generalizing ys j with
 | nil=>simp at e
 | cons a xs ih=>cases ys with
  | nil=>simp at g
  | cons b ys =>
   cases j with
   | zero=>simp [zs,ix]
   | succ j =>
    have h:ix (a::xs) ((j+1:Nat):Int)=ix xs (j:Int):=by simp [ix]
    have i:ix (b::ys) ((j+1:Nat):Int)=ix ys (j:Int):=by simp [ix]
    have:=ih (ys:=ys) (j:=j) (by simpa using e) (by simpa using g)
    rw [h,i]
    simp only [List.take_succ_cons,zs] at this ⊢
    omega
theorem wP (f:Int→Int→Int){xs ys:List Int}{M:Int}(g:xs.length=ys.length)(a:∀ j:Nat,j<xs.length → -M≤f (ix xs (j:Int)) (ix ys (j:Int))∧f (ix xs (j:Int)) (ix ys (j:Int))≤M){j:Nat}(b:j≤xs.length) :
  -(j*M)≤zs f (xs.take j) (ys.take j)∧zs f (xs.take j) (ys.take j)≤j*M:=by
 induction j with
 | zero=>simp [zs]
 | succ j ih =>
  have h1:=ih (by omega)
  have h2:=a j (by omega)
  rw [lg f (by omega) (by omega)]
  have e:((j+1:Nat):Int)*M=(j:Int)*M+M:=by rw [show ((j+1:Nat):Int)=(j:Int)+1 by omega,Int.add_mul]; omega
  rw [e]
  omega
def lw (d s:Int):Int:=if s*(d - 1)<0 then s*(d - 1) else 0
def hw (d s:Int):Int:=if s*(d - 1)>0 then s*(d - 1) else 0
theorem xJ {ds is ss:List Int}(e:IV ds is)(h:ss.length=ds.length):zs lw ds ss≤zs (·*·) is ss∧zs (·*·) is ss≤zs hw ds ss:=by
 induction ds generalizing is ss with
 | nil=>cases is with
  | nil=>simp [zs]
  | cons=>exact e.elim
 | cons d ds ih=>cases is with
  | nil=>exact e.elim
  | cons i is=>cases ss with
   | nil=>simp at h
   | cons s ss =>
    obtain ⟨a,b⟩:=ih e.2 (ss:=ss) (by simpa using h)
    have h1:0≤i∧i≤d - 1:=⟨e.1.1,by have:=e.1.2; omega⟩
    have j:lw d s≤i*s∧i*s≤hw d s:=by
     unfold lw hw
     rw [Int.mul_comm i s]
     rcases Int.le_total 0 s with g | g
     ·have l:0≤s*i:=Int.mul_nonneg g h1.1
      have m:s*i≤s*(d - 1):=Int.mul_le_mul_of_nonneg_left h1.2 g
      split<;>split<;>omega
     ·have l:s*i≤0:=Int.mul_nonpos_of_nonpos_of_nonneg g h1.1
      have m:s*(d - 1)≤s*i:=Int.mul_le_mul_of_nonpos_left g h1.2
      split<;>split<;>omega
    simp only [zs]
    omega
structure VG (dims ss:List Int)(off base:Int):Prop where
 d:eK dims
 l:ss.length=dims.length
 b:1≤base∧base≤4096
 o:0≤off∧off<base
 s:∀ s∈ss,-4096≤s∧s≤4096
 lo:0≤off+zs lw dims ss
 hi:off+zs hw dims ss<base
theorem VG.place {a ss:List Int}{b base:Int}(h:VG a ss b base){is:List Int}(e:IV a is):0≤b+zs (·*·) is ss∧b+zs (·*·) is ss<base:=by
 have h1:=xJ e h.l
 have h2:=h.lo
 have g:=h.hi
 omega
theorem IV.mem {ds is:List Int}(h:IV ds is){j:Nat}(a:j<is.length):0≤ix is (j:Int)∧ix is (j:Int)<ix ds (j:Int):=by
 induction ds generalizing is j with
 | nil=>cases is with
  | nil=>simp at a
  | cons=>exact h.elim
 | cons d ds ih=>cases is with
  | nil=>exact h.elim
  | cons i is=>cases j with
   | zero=>exact h.1
   | succ j =>
    have b:ix (i::is) ((j+1:Nat):Int)=ix is (j:Int):=by simp [ix]
    have e:ix (d::ds) ((j+1:Nat):Int)=ix ds (j:Int):=by simp [ix]
    rw [b,e]
    exact ih h.2 (by simpa using a)
theorem q8 {a b M N:Int}(e:0≤a)(h1:a≤M)(h2 : -N≤b)(g:b≤N)(h:0≤N) : -(M*N)≤a*b∧a*b≤M*N:=by
 have k1:a*b≤a*N:=Int.mul_le_mul_of_nonneg_left g e
 have j:a*N≤M*N:=Int.mul_le_mul_of_nonneg_right h1 h
 have i:a*(-N)≤a*b:=Int.mul_le_mul_of_nonneg_left h2 e
 rw [Int.mul_neg] at i
 omega
theorem iD {α:Type}(xs:List α){l:Int}:sub xs l (xs.length:Int)=xs.drop l.toNat:=by simp [sub]
theorem vv {v:View}{is:List Int}(h:eK v.Dims)(B:v.Strides.length=v.Dims.length)(q:∀ s∈v.Strides,-4096≤s∧s≤4096)(E:0≤v.Offset∧v.Offset≤4096)(i:IV v.Dims is):Z1b v is=some (v.Offset+zs (·*·) is v.Strides):=by
 have m:=i.len
 have D:=h.1
 unfold Z1b
 have a:∀ j:Nat,j<is.length → -(4096*4096)≤ix is (j:Int)*ix v.Strides (j:Int)∧ix is (j:Int)*ix v.Strides (j:Int)≤4096*4096:=by
  intro j b
  have h1:=i.mem b
  have h2:=h.2.mem (bF (xs:=v.Dims) (k:=j) (by omega))
  have g:=q _ (bF (xs:=v.Strides) (k:=j) (by omega))
  exact q8 h1.1 (by omega) g.1 g.2 (by omega)
 have bd:∀ j,j≤is.length → -(6*(4096*4096))≤zs (·*·) (is.take j) (v.Strides.take j)∧zs (·*·) (is.take j) (v.Strides.take j)≤6*(4096*4096):=by
  intro j b
  have:=wP (·*·) (xs:=is) (ys:=v.Strides) (M:=4096*4096) (by omega) a b
  have e:(j:Int)≤6:=by omega
  have:=Int.mul_le_mul_of_nonneg_right e (show (0:Int)≤4096*4096 by omega)
  omega
 have:=eR (f:=fun s:Int×Int=>Z1b_L1 v is s.1 s.2) (r:=v.Offset+zs (·*·) is v.Strides) (fun j=>(v.Offset+zs (·*·) (is.take j) (v.Strides.take j),(j:Int))) is.length
  (fun j b=>by
   have t:=a j b
   have l:=bd (j+1) (by omega)
   have u:=bd j (by omega)
   rw [lg (·*·) b (by omega)] at l
   simp only [Z1b_L1]
   rw [if_pos (by simp; omega),if_pos (by omega),if_pos (by omega),bG (n:=ix is (j:Int)*ix v.Strides (j:Int)) (by omega) (by omega),bG (by omega) (by omega),cA (by unfold cJ; omega),lg (·*·) b (by omega),Int.add_assoc])
  (by simp only [Z1b_L1]; rw [if_neg (by simp),List.take_length,List.take_of_length_le (by omega)])
  (s:=(v.Offset,0)) (by simp [zs])
 rw [this]
 rfl
def nR (a ss:List Int)(b:Int):List Int:=(List.range (pr a).toNat).map fun k:Nat=>b+zs (·*·) (iy a (k:Int)) ss
theorem rj {v:View}(h:eK v.Dims)(a:v.Strides.length=v.Dims.length)(g:∀ s∈v.Strides,-4096≤s∧s≤4096)(b:0≤v.Offset∧v.Offset≤4096):Z0e v=some (nR v.Dims v.Strides v.Offset):=by
 have l:=h.1
 have m:=h.2.pos
 have e:=h.2.2
 unfold Z0e
 rw [jP (by unfold cJ; omega),if_pos h.2]
 simp only [Option.bind_some]
 have:=eR (f:=fun s:List Int×Int=>Z0e_L1 v (pr v.Dims) s.1 s.2) (r:=nR v.Dims v.Strides v.Offset) (fun j=>((List.range j).map fun k:Nat=>v.Offset+zs (·*·) (iy v.Dims (k:Int)) v.Strides,(j:Int))) (pr v.Dims).toNat
  (fun j i=>by
   simp only [Z0e_L1]
   rw [if_pos (by simp; omega),jR h (by omega) (by omega)]
   simp only [Option.bind_some]
   rw [vv h a g b (iz h.2.1 _)]
   simp only [Option.bind_some]
   rw [if_pos (by simp; omega),cA (by unfold cJ; omega),List.range_succ,List.map_append]
   rfl)
  (by simp only [Z0e_L1]; rw [if_neg (by simp; omega)]; rfl)
  (s:=([],0)) rfl
 rw [this]
 rfl
theorem py (ss:List Int)(h:∀ s∈ss,-4096≤s∧s≤4096):(ss.all fun x=>!(decide (x < -4096)||decide (x>4096)))=true:=by
 rw [List.all_eq_true]
 intro x a
 have:=h x a
 simp; omega
theorem kP {v:View}(h:VG v.Dims v.Strides v.Offset v.Base):Zb v=some true:=by
 have B:=h.d.1
 have g:=h.l
 have u:=h.b
 have D:=h.o
 unfold Zb
 rw [gY (by unfold cJ; omega)]
 simp only [h.d,decide_true,Option.bind_some]
 rw [if_neg (by simp; omega)]
 have q:=fA v.Strides (fun s:Int=>Zb_L1 v s) (fun i=>i) (fun x=>!(decide (x < -4096)||decide (x>4096))) (.inl false) (.inr ())
  (fun k a=>by
   simp only [Zb_L1]
   rw [if_pos (by simp; omega),if_pos (by omega),cA (by unfold cJ; omega)]
   cases (decide (ix v.Strides (k:Int) < -4096)||decide (ix v.Strides (k:Int)>4096))<;>rfl)
  (by simp only [Zb_L1]; rw [if_neg (by simp)])
 rw [q,py _ h.s]
 simp only [if_true,Option.bind_some,Zb_J1]
 rw [rj h.d g h.s ⟨by omega,by omega⟩]
 simp only [Option.bind_some]
 have j:(nR v.Dims v.Strides v.Offset).length≤4096:=by have:=h.d.2.2; simp [nR]; omega
 have r:=fA (nR v.Dims v.Strides v.Offset) (fun s:Int=>Zb_L2 v (nR v.Dims v.Strides v.Offset) s) (fun i=>i) (fun x=>!(decide (x<0)||decide (x≥v.Base))) (.inl false) (.inr ())
  (fun k a=>by
   simp only [Zb_L2]
   rw [if_pos (by simp; omega),if_pos (by omega),cA (by unfold cJ; omega)]
   cases (decide (ix (nR v.Dims v.Strides v.Offset) (k:Int)<0)||decide (ix (nR v.Dims v.Strides v.Offset) (k:Int)≥v.Base))<;>rfl)
  (by simp only [Zb_L2]; rw [if_neg (by simp)])
 have e:((nR v.Dims v.Strides v.Offset).all fun x=>!(decide (x<0)||decide (x≥v.Base)))=true:=by
  rw [List.all_eq_true]
  intro x m
  obtain ⟨k,_,rfl⟩:=List.mem_map.1 m
  have:=h.place (iz h.d.2.1 (k:Int))
  simp; omega
 rw [r,e]
 rfl
theorem vw:Zb ⟨[],[],0,0⟩=some false:=by
 unfold Zb
 rw [gY (by simp [cJ])]
 rfl
theorem vx:Zk ⟨[],[],0,0⟩=some false:=by
 unfold Zk
 rw [iw (by simp [cJ])]
 rfl
theorem kQ {v:View}(h:VG v.Dims v.Strides v.Offset v.Base):Zk v=some true:=by
 have T:=h.d.1
 have L:=h.l
 have J:=h.b
 have U:=h.o
 unfold Zk
 rw [iw (by unfold cJ; omega)]
 simp only [h.d,decide_true,Option.bind_some]
 rw [if_neg (by simp; omega)]
 have e:∀ j:Nat,j<v.Dims.length → -(4096*4096)≤ix v.Strides (j:Int)*(ix v.Dims (j:Int) - 1)∧ix v.Strides (j:Int)*(ix v.Dims (j:Int) - 1)≤4096*4096:=by
  intro j a
  have h2:=h.d.2.mem (bF (xs:=v.Dims) (k:=j) a)
  have i:=h.s _ (bF (xs:=v.Strides) (k:=j) (by omega))
  rw [Int.mul_comm (ix v.Strides (j:Int))]
  exact q8 (by omega) (by omega) i.1 i.2 (by omega)
 have bd:∀ (f:Int→Int→Int),(f=lw∨f=hw)→∀ j,j≤v.Dims.length → -(6*(4096*4096))≤zs f (v.Dims.take j) (v.Strides.take j)∧zs f (v.Dims.take j) (v.Strides.take j)≤6*(4096*4096):=by
  intro f D j a
  have:=wP f (xs:=v.Dims) (ys:=v.Strides) (M:=4096*4096) (by omega) (fun j a=>by
   have:=e j a
   rcases D with rfl | rfl
   ·unfold lw; split<;>omega
   ·unfold hw; split<;>omega) a
  have g:(j:Int)≤6:=by omega
  have:=Int.mul_le_mul_of_nonneg_right g (show (0:Int)≤4096*4096 by omega)
  omega
 have:=eR (f:=fun s:Int×Int×Int=>Zk_L1 v s.1 s.2.1 s.2.2) (r:=.inr (v.Offset+zs lw v.Dims v.Strides,v.Offset+zs hw v.Dims v.Strides)) (fun j=>(v.Offset+zs lw (v.Dims.take j) (v.Strides.take j),v.Offset+zs hw (v.Dims.take j) (v.Strides.take j),(j:Int))) v.Dims.length
  (fun j a=>by
   have t:=e j a
   have a0:=bd lw (.inl rfl) j (by omega)
   have a1:=bd lw (.inl rfl) (j+1) (by omega)
   have G:=bd hw (.inr rfl) j (by omega)
   have I:=bd hw (.inr rfl) (j+1) (by omega)
   have E:=lg lw (xs:=v.Dims) (ys:=v.Strides) (j:=j) (by omega) (by omega)
   have F:=lg hw (xs:=v.Dims) (ys:=v.Strides) (j:=j) (by omega) (by omega)
   have Y:=h.s _ (bF (xs:=v.Strides) (k:=j) (by omega))
   have O:=h.d.2.mem (bF (xs:=v.Dims) (k:=j) a)
   simp only [Zk_L1]
   rw [if_pos (by simp; omega),if_pos (by omega),if_neg (by simp; omega),if_pos (by omega)]
   have m:aK (ix v.Dims (j:Int) - 1)=ix v.Dims (j:Int) - 1:=bG (by omega) (by omega)
   have q:aK (ix v.Strides (j:Int)*(ix v.Dims (j:Int) - 1))=ix v.Strides (j:Int)*(ix v.Dims (j:Int) - 1):=bG (by omega) (by omega)
   have u:lw (ix v.Dims (j:Int)) (ix v.Strides (j:Int))=if ix v.Strides (j:Int)*(ix v.Dims (j:Int) - 1)<0 then ix v.Strides (j:Int)*(ix v.Dims (j:Int) - 1) else 0:=rfl
   have B:hw (ix v.Dims (j:Int)) (ix v.Strides (j:Int))=if ix v.Strides (j:Int)*(ix v.Dims (j:Int) - 1)>0 then ix v.Strides (j:Int)*(ix v.Dims (j:Int) - 1) else 0:=rfl
   rw [m,q,← u,← B,bG (by omega) (by omega),bG (by omega) (by omega),cA (by unfold cJ; omega),E,F,Int.add_assoc,Int.add_assoc])
  (by simp only [Zk_L1]; rw [if_neg (by simp; omega),List.take_length,List.take_of_length_le (by omega)])
  (s:=(v.Offset,v.Offset,0)) (by simp [zs])
 rw [this]
 have:=h.lo
 have:=h.hi
 simp only [Option.bind_some,Zk_J1]
 congr 1
 simp; omega
def sj:List Int→List Int
 | []=>[]
 | _::ds=>pr ds::sj ds
def eU:List Int→List Int
 | []=>[]
 | d::ds=>(if d>1 then pr ds else 0)::eU ds
theorem iT (ds:List Int):(sj ds).length=ds.length:=by
 induction ds with
 | nil=>rfl
 | cons d ds ih=>simp [sj,ih]
theorem dO (ds:List Int):(eU ds).length=ds.length:=by
 induction ds with
 | nil=>rfl
 | cons d ds ih=>simp [eU,ih]
theorem dS {α:Type}[Inhabited α](x:α)(xs:List α)(j:Nat):ix (x::xs) ((j+1:Nat):Int)=ix xs (j:Int):=by simp [ix]
theorem tG {ds:List Int}{j:Nat}(h:j<ds.length):ix (sj ds) (j:Int)=pr (ds.drop (j+1)):=by
 induction ds generalizing j with
 | nil=>simp at h
 | cons d ds ih=>cases j with
  | zero=>rfl
  | succ j=>rw [sj,dS,ih (by simpa using h)]; rfl
theorem qa {ds:List Int}{j:Nat}(h:j<ds.length):ix (eU ds) (j:Int)=if ix ds (j:Int)>1 then pr (ds.drop (j+1)) else 0:=by
 induction ds generalizing j with
 | nil=>simp at h
 | cons d ds ih=>cases j with
  | zero=>rfl
  | succ j=>rw [eU,dS,dS,ih (by simpa using h)]; rfl
theorem tH {L xs:List Int}(b:L.length=xs.length){j:Nat}(a:j<xs.length):(L.take j++xs.drop j).set j (ix L (j:Int))=L.take (j+1)++xs.drop (j+1):=by
 rw [bV (by omega),List.set_append_right _ _ (by simp; omega),List.take_succ_eq_append_getElem (by omega)]
 have:j - (L.take j).length=0:=by simp; omega
 rw [this,List.drop_eq_getElem_cons a,List.set_cons_zero,List.append_assoc]
 rfl
theorem rk {L xs:List Int}(b:L.length=xs.length){j:Nat}(a:j<xs.length)(h:ix L (j:Int)=ix xs (j:Int)):L.take j++xs.drop j=L.take (j+1)++xs.drop (j+1):=by
 rw [bV (by omega),bV a] at h
 rw [List.take_succ_eq_append_getElem (by omega),List.drop_eq_getElem_cons a,h]
 simp
theorem gL {ds:List Int}(h:SZ ds):∀ s∈eU ds,0≤s∧s≤4096:=by
 induction ds with
 | nil=>intro s b; cases b
 | cons d ds ih =>
  have e:=h.tail.pos
  have a:=h.tail.2
  refine List.forall_mem_cons.2 ⟨?_,ih h.tail⟩
  split<;>omega
theorem tJ {ds:List Int}(h:SZ ds):zs lw ds (eU ds)=0:=by
 induction ds with
 | nil=>rfl
 | cons d ds ih =>
  have a:=h.1 d (by simp)
  have b:=h.tail.pos
  simp only [eU,zs,ih h.tail]
  unfold lw
  split
  ·have:=Int.mul_nonneg (show 0≤pr ds by omega) (show 0≤d - 1 by omega); split<;>omega
  ·simp
theorem ki {ds:List Int}(h:SZ ds):zs hw ds (eU ds)=pr ds - 1:=by
 induction ds with
 | nil=>rfl
 | cons d ds ih =>
  have a:=h.1 d (by simp)
  have b:=h.tail.pos
  simp only [eU,zs,ih h.tail]
  have e:pr (d::ds)=pr ds*(d - 1)+pr ds:=by simp only [pr]; rw [Int.mul_sub,Int.mul_comm (pr ds) d]; omega
  rw [e]
  unfold hw
  by_cases c:d>1
  ·have:0<pr ds*(d - 1):=Int.mul_pos (by omega) (by omega)
   rw [if_pos c,if_pos this]; omega
  ·have:d=1:=by omega
   subst this; simp
theorem tK {ds:List Int}(h:eK ds):VG ds (eU ds) 0 (pr ds):=by
 have b:=h.2.pos
 have a:=h.2.2
 refine ⟨h,dO ds,⟨b,a⟩,⟨by omega,by omega⟩,fun s e=>by have:=gL h.2 s e; omega,?_,?_⟩
 ·rw [tJ h.2]; decide
 ·rw [ki h.2]; omega
theorem rQ {ds is:List Int}(a:IV ds is):zs (·*·) is (eU ds)=mD ds is:=by
 induction ds generalizing is with
 | nil=>cases is with
  | nil=>rfl
  | cons=>exact a.elim
 | cons d ds ih=>cases is with
  | nil=>exact a.elim
  | cons i is =>
   have:=a.1
   simp only [eU,zs,mD,ih a.2]
   split
   ·rfl
   ·have:i=0:=by omega
    subst this; simp
theorem nS {ds:List Int}(h:SZ ds):nR ds (eU ds) 0=(List.range (pr ds).toNat).map fun k:Nat=>(k:Int):=by
 unfold nR
 refine List.map_congr_left fun k a=>?_
 have a:k<(pr ds).toNat:=by simpa using a
 have:=h.pos
 rw [rQ (iz h.1 _),rP h.1 (by omega) (by omega)]
 omega
def cC (ds:List Int):View:=⟨ds,eU ds,0,pr ds⟩
def eD:View:=⟨[],[],0,0⟩
theorem vy {ds:List Int}(h:eK ds):Z0j ⟨ds,sj ds,0,pr ds⟩=some (cC ds):=by
 have g:=h.1
 unfold Z0j
 have:=eR (f:=fun s:Int×List Int=>Z0j_L1 ⟨ds,sj ds,0,pr ds⟩ s.1 s.2) (r:=eU ds) (fun j=>((j:Int),(eU ds).take j++(sj ds).drop j)) ds.length
  (fun j a=>by
   have b:=h.2.mem (bF a)
   simp only [Z0j_L1,Z0j_J2]
   rw [if_pos (by simp; omega),if_pos (by omega)]
   by_cases c:ix ds (j:Int)=1
   ·rw [if_pos (by simp [c]),if_pos (by rw [iT]; omega),cA (by unfold cJ; omega)]
    have e:=tH (L:=eU ds) (xs:=sj ds) (by rw [dO,iT]) (j:=j) (by rw [iT]; omega)
    rw [qa a,if_neg (by omega)] at e
    simp only [Int.toNat_natCast]
    rw [e]
   ·rw [if_neg (by simp [c]),cA (by unfold cJ; omega),rk (by rw [dO,iT]) (by rw [iT]; omega) (by rw [qa a,tG a,if_pos (by omega)])])
  (by simp only [Z0j_L1]; rw [if_neg (by simp)]; rw [List.take_of_length_le (by rw [dO]; omega),List.drop_of_length_le (by rw [iT]; omega),List.append_nil])
  (s:=(0,sj ds)) (by simp)
 rw [this]
 rfl
theorem kw {ds:List Int}(h:eK ds):Zv ds=some (cC ds):=by
 have b:=h.1
 unfold Zv
 rw [gY (by unfold cJ; omega)]
 simp only [h,decide_true,Option.bind_some,Bool.not_true,Bool.false_eq_true,if_false]
 rw [gU (by omega),jP (by unfold cJ; omega),if_pos h.2]
 simp only [Option.bind_some]
 have:=eR (f:=fun s:List Int×Int=>Zv_L1 ds s.1 s.2) (r:=sj ds) (fun j=>((sj ds).take j,(j:Int))) ds.length
  (fun j a=>by
   simp only [Zv_L1]
   rw [if_pos (by simp; omega),cA (by unfold cJ; omega),if_pos (by omega),iD,Int.toNat_natCast,jP (by simp [cJ]; omega),if_pos (h.2.drop (j+1))]
   simp only [Option.bind_some]
   rw [if_pos (by simp; omega),List.take_succ_eq_append_getElem (by rw [iT]; omega),← tG a,bV (by rw [iT]; omega)])
  (by simp only [Zv_L1]; rw [if_neg (by simp),List.take_of_length_le (by rw [iT]; omega)])
  (s:=([],0)) rfl
 rw [this]
 simp only [Option.bind_some,Zv_J1]
 rw [vy h]
 rfl
theorem oj {ds:List Int}(h:eK ds):Z08 ds=some (eU ds):=by
 have E:=h.1
 unfold Z08
 rw [if_pos (by omega)]
 have:=eR (f:=fun s:List Int×Int×Int=>Z08_L1 ds s.1 s.2.1 s.2.2) (r:=eU ds)
  (fun j=>(List.replicate (ds.length - j) 0++eU (ds.drop (ds.length - j)),pr (ds.drop (ds.length - j)),(ds.length:Int) - 1 - j)) ds.length
  (fun j B=>by
   obtain ⟨i,q⟩:∃ i,i=ds.length - (j+1):=⟨_,rfl⟩
   have l:ds.length - j=i+1:=by omega
   have m:(ds.length:Int) - 1 - (j:Int)=(i:Int):=by omega
   have a:i<ds.length:=by omega
   have D:=h.2.mem (bF a)
   have F:=(h.2.drop (i+1)).pos
   have u:=(h.2.drop (i+1)).2
   have b:ds.drop i=ix ds (i:Int)::ds.drop (i+1):=by rw [List.drop_eq_getElem_cons a,bV a]
   have e:pr (ds.drop i)=pr (ds.drop (i+1))*ix ds (i:Int):=by rw [b]; simp [pr,Int.mul_comm]
   simp only [Z08_L1,Z08_J2,l,m,← q]
   rw [if_pos (by simp),if_pos (by omega)]
   have g:aK ((i:Int) - 1)=(ds.length:Int) - 1 - ((j+1:Nat):Int):=by rw [bG (by omega) (by omega)]; omega
   by_cases c:ix ds (i:Int)>1
   ·rw [if_pos (by simp; omega),if_pos (by simp; omega),if_pos (by omega),iS (by omega) (by omega) (by omega) (by omega),← e,g]
    congr 3
    rw [b,List.replicate_succ',List.set_append_left _ _ (by simp),List.set_append_right _ _ (by simp)]
    simp [eU,c]
   ·rw [if_neg (by simp; omega),if_pos (by omega),iS (by omega) (by omega) (by omega) (by omega),← e,g]
    congr 3
    rw [b,List.replicate_succ']
    simp [eU,c])
  (by
   simp only [Z08_L1,Nat.sub_self,List.drop_zero,List.replicate_zero,List.nil_append]
   rw [if_neg (by simp; omega)])
  (s:=(List.replicate (ds.length:Int).toNat 0,1,aK ((ds.length:Int) - 1))) (by
   rw [bG (by omega) (by omega)]
   simp [pr,eU])
 rw [this]
 rfl
theorem li {ds:List Int}(h:eK ds):Z2v ds=some (cC ds):=by
 have a:=h.1
 unfold Z2v
 rw [iw (by unfold cJ; omega)]
 simp only [h,decide_true,Option.bind_some,Bool.not_true,Bool.false_eq_true,if_false]
 rw [fO (by omega),oj h,lU (by unfold cJ; omega) h.2]
 rfl
def gM (n:Nat):List Int:=List.replicate n 0
def qb:List Int→List Int→Option (List Int)
 | d::ds,i::is=>match qb ds is with
  | some q=>some (i::q)
  | none=>if i+1<d then some ((i+1)::gM ds.length) else none
 | _,_=>none
theorem tL {ds is:List Int}(h:is.length=ds.length)(d i:Int):qb (ds++[d]) (is++[i])=if i+1<d then some (is++[i+1]) else (qb ds is).map (·++[0]):=by
 induction ds generalizing is with
 | nil=>cases is with
  | nil=>simp [qb,gM]
  | cons=>simp at h
 | cons e ds ih=>cases is with
  | nil=>simp at h
  | cons j is =>
   have:=ih (is:=is) (by simpa using h)
   simp only [List.cons_append,qb,this]
   by_cases c:i+1<d
   ·simp [c]
   ·simp only [c,if_false]
    cases qb ds is with
    | some q=>simp
    | none =>
     simp only [Option.map_none]
     split
     ·simp [gM,List.replicate_succ']
     ·simp
theorem rl {ds:List Int}(h:∀ d∈ds,1≤d){m:Int}(r:m % pr ds=0):iy ds m=gM ds.length:=by
 induction ds generalizing m with
 | nil=>rfl
 | cons d ds ih =>
  have i:1≤pr ds:=fV fun x g=>h x (by simp [g])
  have q:=h d (by simp)
  have e:=(tC (k:=m) i q).2
  have a:=Int.emod_nonneg m (show pr ds≠0 by omega)
  have c:=Int.emod_nonneg (m / pr ds) (show d≠0 by omega)
  have u:m % (d*pr ds)=0:=r
  have b:=Int.mul_nonneg c (show 0≤pr ds by omega)
  have s:=j5 c i
  have j:m % pr ds=0:=by omega
  have l:m / pr ds % d=0:=by omega
  simp only [iy,l,ih (fun x g=>h x (by simp [g])) j]
  simp [gM,List.replicate_succ]
theorem rp {ds:List Int}(h:∀ d∈ds,1≤d)(k:Int):qb ds (iy ds k)=if k % pr ds+1<pr ds then some (iy ds (k+1)) else none:=by
 induction ds generalizing k with
 | nil=>simp [qb,pr,Int.emod_one]
 | cons d ds ih =>
  have B:1≤pr ds:=fV fun x j=>h x (by simp [j])
  have u:=h d (by simp)
  have l:∀ x∈ds,1≤x:=fun x j=>h x (by simp [j])
  have e:=(tC (k:=k) B u).2
  have a:=Int.emod_nonneg k (show pr ds≠0 by omega)
  have D:=Int.emod_lt_of_pos k (show 0<pr ds by omega)
  have c:=Int.emod_nonneg (k / pr ds) (show d≠0 by omega)
  have F:=Int.emod_lt_of_pos (k / pr ds) (show 0<d by omega)
  have G:=Int.mul_ediv_add_emod k (pr ds)
  have i:pr (d::ds)=d*pr ds:=rfl
  have b:(k / pr ds % d+1)*pr ds≤d*pr ds:=Int.mul_le_mul_of_nonneg_right (by omega) (by omega)
  rw [Int.add_mul] at b
  simp only [iy,qb,ih l]
  by_cases q:k % pr ds+1<pr ds
  ·have f:=(Int.ediv_emod_unique (a:=k+1) (b:=pr ds) (r:=k % pr ds+1) (q:=k / pr ds) (by omega)).2 ⟨by omega,by omega,by omega⟩
   simp only [if_pos q,f.1]
   rw [if_pos (show k % pr (d::ds)+1<pr (d::ds) by rw [i,e]; omega)]
  ·have J:k % pr ds=pr ds - 1:=by omega
   have f:=(Int.ediv_emod_unique (a:=k+1) (b:=pr ds) (r:=0) (q:=k / pr ds+1) (by omega)).2 ⟨by rw [Int.mul_add]; omega,by omega,by omega⟩
   simp only [if_neg q,f.1]
   by_cases g:k / pr ds % d+1<d
   ·have I:=Int.mul_ediv_add_emod (k / pr ds) d
    have s:=(Int.ediv_emod_unique (a:=k / pr ds+1) (b:=d) (r:=k / pr ds % d+1) (q:=k / pr ds / d) (by omega)).2 ⟨by omega,by omega,by omega⟩
    have m:(k / pr ds % d+2)*pr ds≤d*pr ds:=Int.mul_le_mul_of_nonneg_right (by omega) (by omega)
    rw [Int.add_mul] at m
    rw [if_pos g,if_pos (show k % pr (d::ds)+1<pr (d::ds) by rw [i,e]; omega),s.2,rl l f.2]
   ·have g1:k / pr ds % d=d - 1:=by omega
    have E:k / pr ds % d*pr ds=d*pr ds - pr ds:=by rw [g1,Int.sub_mul]; omega
    rw [if_neg g,if_neg (show ¬ k % pr (d::ds)+1<pr (d::ds) by rw [i,e]; omega)]
theorem xK (f:Int→Int→Int){xs ys:List Int}{j:Nat}{a:Int}(b:j<xs.length)(e:j<ys.length):zs f (xs.set j a) ys=zs f xs ys - f (ix xs (j:Int)) (ix ys (j:Int))+f a (ix ys (j:Int)):=by
 induction xs generalizing ys j with
 | nil=>simp at b
 | cons x xs ih=>cases ys with
  | nil=>simp at e
  | cons y ys=>cases j with
   | zero=>simp [zs,ix]; omega
   | succ j =>
    rw [dS,dS,List.set_cons_succ]
    simp only [zs,ih (ys:=ys) (j:=j) (by simpa using b) (by simpa using e)]
    omega
theorem pz {J:Type}{YF:J→Int→Option (J×Bool)}{ds ss:List Int}{m base:Int}(h:VG ds ss m base){is:List Int}(E:IV ds is):∀ p,p≤ds.length →
  (∀ q,qb (ds.take p) (is.take p)=some q→∃ i:Int,0≤i∧aU (fun s:List Int×Int×Int=>Z07_L2 J YF ds ss s.1 s.2.1 s.2.2) (is.take p++gM (ds.length - p),m+zs (·*·) (is.take p++gM (ds.length - p)) ss,(p:Int) - 1)=some (q++gM (ds.length - p),m+zs (·*·) (q++gM (ds.length - p)) ss,i)) ∧
  (qb (ds.take p) (is.take p)=none→∃ x y,aU (fun s:List Int×Int×Int=>Z07_L2 J YF ds ss s.1 s.2.1 s.2.2) (is.take p++gM (ds.length - p),m+zs (·*·) (is.take p++gM (ds.length - p)) ss,(p:Int) - 1)=some (x,y,-1)):=by
 intro p
 have hn:=h.d.1
 have hl:=h.l
 have a6:=E.len
 induction p with
 | zero =>
  intro _
  refine ⟨fun q u=>by simp [qb] at u,fun _=>⟨is.take 0++gM (ds.length - 0),m+zs (·*·) (is.take 0++gM (ds.length - 0)) ss,dB ?_⟩⟩
  simp only [Z07_L2]
  rw [if_neg (by simp)]
  rfl
 | succ p ih =>
  intro F
  obtain ⟨a3,a4⟩:=ih (by omega)
  have hm:=E.mem (j:=p) (by omega)
  have a5:=h.d.2.mem (bF (xs:=ds) (k:=p) (by omega))
  have Y:=h.s _ (bF (xs:=ss) (k:=p) (by omega))
  have ti:is.take (p+1)=is.take p++[ix is (p:Int)]:=by rw [List.take_succ_eq_append_getElem (by omega),bV (by omega)]
  have td:ds.take (p+1)=ds.take p++[ix ds (p:Int)]:=by rw [List.take_succ_eq_append_getElem (by omega),bV (by omega)]
  have U:(is.take p).length=(ds.take p).length:=by simp; omega
  have G:=tL U (ix ds (p:Int)) (ix is (p:Int))
  rw [← ti,← td] at G
  obtain ⟨g,r⟩:∃ g,g=is.take (p+1)++gM (ds.length - (p+1)):=⟨_,rfl⟩
  have a1:g.length=ds.length:=by rw [r]; simp [gM]; omega
  have T:ix g (p:Int)=ix is (p:Int):=by
   have a2:p<g.length:=by omega
   rw [bV a2,bV (by omega)]
   subst r
   rw [List.getElem_append_left (by simp; omega)]
   simp
  have B:∀ a:Int,g.set p a=is.take p++a::gM (ds.length - (p+1)):=by
   intro a
   rw [r,ti,List.append_assoc,List.set_append_right _ _ (by simp; omega)]
   have:p - (is.take p).length=0:=by simp; omega
   rw [this]
   rfl
  have L:∀ a:Int,0≤a→a<ix ds (p:Int)→0≤m+zs (·*·) (g.set p a) ss∧m+zs (·*·) (g.set p a) ss≤4096:=by
   intro a h0 h1
   have a0:∀ (ds is:List Int),IV ds is→(∀ d∈ds,1≤d)→∀ p,p<ds.length→0≤a→a<ix ds (p:Int)→IV ds (is.take p++a::gM (ds.length - (p+1))):=by
    intro ds
    induction ds with
    | nil=>intro is _ _ p F; simp at F
    | cons d ds ihd =>
     intro is E D p F h0 h1
     cases is with
     | nil=>exact E.elim
     | cons i is =>
      cases p with
      | zero =>
       refine ⟨⟨h0,h1⟩,?_⟩
       have hz:∀ ds:List Int,(∀ d∈ds,1≤d)→IV ds (gM ds.length):=by
        intro ds
        induction ds with
        | nil=>intro _; trivial
        | cons d ds ihz=>intro F; exact ⟨⟨Int.le_refl 0,by have:=F d (by simp); omega⟩,ihz fun x Z=>F x (by simp [Z])⟩
       exact hz ds fun x Z=>D x (by simp [Z])
      | succ p =>
       rw [dS] at h1
       have:=ihd is E.2 (fun x Z=>D x (by simp [Z])) p (by simpa using F) h0 h1
       refine ⟨E.1,?_⟩
       simpa using this
   have:=h.place (a0 ds is E h.d.2.1 p (by omega) h0 h1)
   have:=h.b
   rw [B]
   omega
  have I:=fun a=>xK (·*·) (xs:=g) (ys:=ss) (j:=p) (a:=a) (by omega) (by omega)
  rw [T] at I
  have b0:=L (ix is (p:Int)) hm.1 hm.2
  have e0:g.set p (ix is (p:Int))=g:=by rw [B,r,ti]; simp
  rw [e0] at b0
  have O:Z07_L2 J YF ds ss g (m+zs (·*·) g ss) ((p+1:Nat) - 1:Int)=if ix is (p:Int)+1<ix ds (p:Int) then some (.inr (g.set p (ix is (p:Int)+1),m+zs (·*·) (g.set p (ix is (p:Int)+1)) ss,(p:Int))) else some (.inl (g.set p 0,m+zs (·*·) (g.set p 0) ss,(p:Int) - 1)):=by
   have ep:((p+1:Nat) - 1:Int)=(p:Int):=by omega
   have w1:aK (ix is (p:Int)+1)=ix is (p:Int)+1:=bG (by omega) (by omega)
   have w2:aK (m+zs (·*·) g ss+ix ss (p:Int))=m+zs (·*·) g ss+ix ss (p:Int):=bG (by omega) (by omega)
   have mb:=q8 (a:=ix ds (p:Int)) (b:=ix ss (p:Int)) (M:=4096) (N:=4096) (by omega) (by omega) Y.1 Y.2 (by omega)
   rw [Int.mul_comm (ix ds (p:Int))] at mb
   have w3:aK (ix ss (p:Int)*ix ds (p:Int))=ix ss (p:Int)*ix ds (p:Int):=bG (by omega) (by omega)
   have e1:ix (g.set p (ix is (p:Int)+1)) (p:Int)=ix is (p:Int)+1:=by rw [bV (by simp; omega)]; simp
   rw [ep]
   simp only [Z07_L2,Int.toNat_natCast,T,w1,w2,w3,e1]
   rw [if_pos (by simp),if_pos (by simp; omega),if_pos (by omega),if_pos (by omega)]
   by_cases c:ix is (p:Int)+1<ix ds (p:Int)
   ·rw [if_pos (by simpa using c),if_pos c,I (ix is (p:Int)+1),Int.add_mul]
    congr 4
    omega
   ·rw [if_neg (by simpa using c),if_neg c]
    have em:ix ss (p:Int)*ix ds (p:Int)=ix is (p:Int)*ix ss (p:Int)+ix ss (p:Int):=by
     rw [show ix ds (p:Int)=ix is (p:Int)+1 by omega,Int.mul_add,Int.mul_comm]; omega
    have bz:=L 0 (by omega) (by omega)
    have z0:=I 0
    simp only [Int.zero_mul] at z0
    rw [nm,Option.bind_some,List.set_set,bG (by omega) (by omega),bG (by omega) (by omega),z0]
    congr 4
    omega
  rw [← r]
  by_cases c:ix is (p:Int)+1<ix ds (p:Int)
  ·rw [if_pos c] at O G
   refine ⟨fun q u=>⟨(p:Int),by omega,?_⟩,fun u=>by rw [G] at u; cases u⟩
   rw [G] at u
   cases u
   rw [dB O,B]
   simp
  ·rw [if_neg c] at O G
   have e2:g.set p 0=is.take p++gM (ds.length - p):=by
    rw [B,show ds.length - p=(ds.length - (p+1))+1 by omega]; rfl
   rw [e2] at O
   rw [eP O]
   refine ⟨fun q u=>?_,fun u=>a4 (by rw [G] at u; simpa using u)⟩
   rw [G] at u
   cases e:qb (ds.take p) (is.take p) with
   | none=>rw [e] at u; cases u
   | some q' =>
    rw [e] at u
    cases u
    obtain ⟨i,h1,h2⟩:=a3 q' e
    refine ⟨i,h1,?_⟩
    rw [h2]
    have:gM (ds.length - p)=0::gM (ds.length - (p+1)):=by rw [show ds.length - p=(ds.length - (p+1))+1 by omega]; rfl
    rw [this]
    simp
theorem rR {g:Type}{YF:g→Int→Option (g×Bool)}{ds ss:List Int}{b base:Int}(h:VG ds ss b base)(I:Nat→g→Prop)
  (u:∀ (k:Nat) y,(k:Int)<pr ds→I k y→∃ a,YF y (b+zs (·*·) (iy ds (k:Int)) ss)=some (a,true)∧I (k+1) a) {y:g} (F:I 0 y) :
  ∃ a,Z07 g YF y ds b ss=some a∧I (pr ds).toNat a:=by
 have M:=h.d.1
 have O:=h.d.2.pos
 unfold Z07
 rw [if_pos (by omega)]
 have r:∀ m k y,k+1+m=(pr ds).toNat→I k y→∃ a,aU (fun s:List Int×Int×g=>Z07_L1 g YF ds ss s.1 s.2.1 s.2.2) (iy ds (k:Int),b+zs (·*·) (iy ds (k:Int)) ss,y)=some a∧I (pr ds).toNat a:=by
  intro m
  induction m with
  | zero =>
   intro k y G q
   obtain ⟨a,h1,h2⟩:=u k y (by omega) q
   obtain ⟨_,j⟩:=pz (YF:=YF) h (iz h.d.2.1 (k:Int)) ds.length (Nat.le_refl _)
   rw [List.take_length,List.take_of_length_le (by rw [jQ]; omega),Nat.sub_self] at j
   have e:qb ds (iy ds (k:Int))=none:=by
    rw [rp h.d.2.1,Int.emod_eq_of_lt (by omega) (by omega),if_neg (by omega)]
   obtain ⟨x,z,l⟩:=j e
   refine ⟨a,dB ?_,by rw [show (pr ds).toNat=k+1 by omega]; exact h2⟩
   simp only [Z07_L1,h1,Option.bind_some,Bool.not_true,Bool.false_eq_true,if_false]
   rw [bG (by omega) (by omega)]
   simp only [gM,List.replicate_zero,List.append_nil] at l
   rw [l]
   rfl
  | succ m ih =>
   intro k y G q
   obtain ⟨a,h1,h2⟩:=u k y (by omega) q
   obtain ⟨j,_⟩:=pz (YF:=YF) h (iz h.d.2.1 (k:Int)) ds.length (Nat.le_refl _)
   rw [List.take_length,List.take_of_length_le (by rw [jQ]; omega),Nat.sub_self] at j
   have e:qb ds (iy ds (k:Int))=some (iy ds ((k:Int)+1)):=by
    rw [rp h.d.2.1,Int.emod_eq_of_lt (by omega) (by omega),if_pos (by omega)]
   obtain ⟨i,L,l⟩:=j _ e
   have B:(k:Int)+1=((k+1:Nat):Int):=by omega
   have J:=eP (f:=fun s:List Int×Int×g=>Z07_L1 g YF ds ss s.1 s.2.1 s.2.2) (s:=(iy ds (k:Int),b+zs (·*·) (iy ds (k:Int)) ss,y)) (s':=(iy ds ((k+1:Nat):Int),b+zs (·*·) (iy ds ((k+1:Nat):Int)) ss,a)) (by
    simp only [Z07_L1,h1,Option.bind_some,Bool.not_true,Bool.false_eq_true,if_false]
    rw [bG (by omega) (by omega)]
    simp only [gM,List.replicate_zero,List.append_nil] at l
    rw [l,B]
    simp only [Option.bind_some,Z07_J2]
    rw [if_neg (by simp; omega)])
   rw [J]
   exact ih (k+1) a (by omega) h2
 obtain ⟨a,h1,h2⟩:=r ((pr ds).toNat - 1) 0 y (by omega) F
 refine ⟨a,?_,h2⟩
 have e:iy ds ((0:Nat):Int)=gM ds.length:=rl h.d.2.1 (by simp)
 have E:∀ (n:Nat) (ss:List Int),zs (·*·) (gM n) ss=0:=by
  intro n
  induction n with
  | zero=>intro ss; simp [gM,zs]
  | succ n ihn=>intro ss; cases ss with
   | nil=>simp [gM,zs]
   | cons s ss=>have:=ihn ss; simp only [gM,List.replicate_succ,zs] at this ⊢; rw [this]; simp
 rw [e,E] at h1
 have D:(ds.length:Int).toNat=ds.length:=by omega
 rw [D]
 simp only [Int.add_zero] at h1
 rw [show List.replicate ds.length (0:Int)=gM ds.length from rfl,h1]
 rfl
theorem vC {v:View}(h:VG v.Dims v.Strides v.Offset v.Base):∃ ps,Z2p v=some (v.Dims,ps,true):=by
 have b:=h.d.2.2
 unfold Z2p
 rw [kQ h]
 simp only [Option.bind_some,Bool.not_true,Bool.false_eq_true,if_false,Z3c]
 obtain ⟨ps,h1,_⟩:=rR (YF:=fun (s:List pair) (x:Int)=>Z40 s x) h (fun k (y:List pair)=>y.length=k) (fun k y e a=>by
  simp only [Z40]
  rw [if_pos (by simp; omega)]
  exact ⟨_,rfl,by simp [a]⟩) (y:=[]) rfl
 exact ⟨ps,by rw [h1]; rfl⟩
def mr:List Int→List Int→Bool
 | a::xs,b::ys=>(a==b||a==1)&&mr xs ys
 | _,_=>true
def oN:List Int→List Int→List Int→List Int
 | a::xs,b::ys,s::ss=>(if a=b then s else 0)::oN xs ys ss
 | _,_,_=>[]
theorem kx {xs ys ss:List Int}(h1:ys.length=xs.length)(h2:ss.length=xs.length):(oN xs ys ss).length=xs.length:=by
 induction xs generalizing ys ss with
 | nil=>rfl
 | cons a xs ih=>cases ys with
  | nil=>simp at h1
  | cons b ys=>cases ss with
   | nil=>simp at h2
   | cons s ss=>simp only [oN,List.length_cons]; rw [ih (by simpa using h1) (by simpa using h2)]
theorem xL {xs ys ss:List Int}(h1:ys.length=xs.length)(h2:ss.length=xs.length){j:Nat}(e:j<xs.length):ix (oN xs ys ss) (j:Int)=if ix xs (j:Int)=ix ys (j:Int) then ix ss (j:Int) else 0:=by
 induction xs generalizing ys ss j with
 | nil=>simp at e
 | cons a xs ih=>cases ys with
  | nil=>simp at h1
  | cons b ys=>cases ss with
   | nil=>simp at h2
   | cons s ss=>cases j with
    | zero=>rfl
    | succ j=>rw [oN,dS,dS,dS,dS,ih (by simpa using h1) (by simpa using h2) (by simpa using e)]
theorem rq {xs ys:List Int}(h1:ys.length=xs.length)(h:mr xs ys=true){j:Nat}(e:j<xs.length):ix xs (j:Int)=ix ys (j:Int)∨ix xs (j:Int)=1:=by
 induction xs generalizing ys j with
 | nil=>simp at e
 | cons a xs ih=>cases ys with
  | nil=>simp at h1
  | cons b ys =>
   simp only [mr,Bool.and_eq_true,Bool.or_eq_true,beq_iff_eq] at h
   cases j with
   | zero=>exact h.1
   | succ j=>rw [dS,dS]; exact ih (by simpa using h1) h.2 (by simpa using e)
theorem rr {xs ys:List Int}(h1:ys.length=xs.length)(h:mr xs ys=false):∃ m,m<xs.length∧ix xs (m:Int)≠ix ys (m:Int)∧ix xs (m:Int)≠1∧∀ j:Nat,j<m→ix xs (j:Int)=ix ys (j:Int)∨ix xs (j:Int)=1:=by
 induction xs generalizing ys with
 | nil=>simp [mr] at h
 | cons a xs ih=>cases ys with
  | nil=>simp at h1
  | cons b ys =>
   by_cases c:a=b∨a=1
   ·have:mr xs ys=false:=by
     simp only [mr] at h
     rcases c with c | c<;>simpa [c] using h
    obtain ⟨m,g,i,l,q⟩:=ih (by simpa using h1) this
    refine ⟨m+1,by simpa using g,by rw [dS,dS]; exact i,by rw [dS]; exact l,?_⟩
    intro j r
    cases j with
    | zero=>exact c
    | succ j=>rw [dS,dS]; exact q j (by omega)
   ·exact ⟨0,by simp,fun e=>c (.inl e),fun e=>c (.inr e),fun j r=>by omega⟩
theorem tM (f:Int→Int→Int){a b c e:List Int}(h:a.length=b.length):zs f (a++c) (b++e)=zs f a b+zs f c e:=by
 induction a generalizing b with
 | nil=>cases b with
  | nil=>simp [zs]
  | cons=>simp at h
 | cons x a ih=>cases b with
  | nil=>simp at h
  | cons y b=>simp only [List.cons_append,zs,ih (b:=b) (by simpa using h)]; omega
theorem xM (f:Int→Int→Int)(a:∀ d,f d 0=0)(ds:List Int)(n:Nat):zs f ds (gM n)=0:=by
 induction ds generalizing n with
 | nil=>simp [zs]
 | cons d ds ih=>cases n with
  | zero=>simp [gM,zs]
  | succ n=>have:=ih n; simp only [gM,List.replicate_succ,zs,a] at this ⊢; omega
theorem C9 (d:Int):hw d 0=0:=by simp [hw]
theorem xN {d s:Int}(b:1≤d)(a:0≤s):lw d s=0:=by
 have:=Int.mul_nonneg a (show 0≤d - 1 by omega)
 unfold lw; split<;>omega
theorem j6 {d s:Int}(b:1≤d)(a:0≤s):hw d s=s*(d - 1):=by
 have:=Int.mul_nonneg a (show 0≤d - 1 by omega)
 unfold hw; split<;>omega
theorem qc {ds ss:List Int}(b:∀ d∈ds,1≤d)(e:∀ s∈ss,0≤s):zs lw ds ss=0:=by
 induction ds generalizing ss with
 | nil=>simp [zs]
 | cons d ds ih=>cases ss with
  | nil=>simp [zs]
  | cons s ss =>
   simp only [zs,xN (b d (by simp)) (e s (by simp)),ih (ss:=ss) (fun x a=>b x (by simp [a])) (fun x a=>e x (by simp [a]))]
   omega
theorem xO {xs ys ss:List Int}(e:∀ d∈xs,1≤d)(l:∀ d∈ys,1≤d)(i:∀ s∈ss,0≤s):zs hw ys (oN xs ys ss)≤zs hw xs ss∧∀ s∈oN xs ys ss,0≤s:=by
 induction xs generalizing ys ss with
 | nil=>cases ys<;>simp [oN,zs]
 | cons a xs ih=>cases ys with
  | nil =>
   refine ⟨?_,by simp [oN]⟩
   have j:∀ (xs ss:List Int),(∀ d∈xs,1≤d)→(∀ s∈ss,0≤s)→0≤zs hw xs ss:=by
    intro xs
    induction xs with
    | nil=>intro ss _ _; simp [zs]
    | cons d ds ihh=>intro ss h1 h2; cases ss with
     | nil=>simp [zs]
     | cons s ss =>
      have:=ihh ss (fun x e=>h1 x (by simp [e])) (fun x e=>h2 x (by simp [e]))
      have u:=j6 (h1 d (by simp)) (h2 s (by simp))
      have B:=Int.mul_nonneg (h2 s (by simp)) (show 0≤d - 1 by have:=h1 d (by simp); omega)
      simp only [zs]; omega
   simpa [zs] using j (a::xs) ss e i
  | cons b ys=>cases ss with
   | nil=>simp [oN,zs]
   | cons s ss =>
    obtain ⟨h1,h2⟩:=ih (ys:=ys) (ss:=ss) (fun x h=>e x (by simp [h])) (fun x h=>l x (by simp [h])) (fun x h=>i x (by simp [h]))
    have m:=e a (by simp)
    have D:=l b (by simp)
    have g:=i s (by simp)
    have q:=j6 m g
    have r:=Int.mul_nonneg g (show 0≤a - 1 by omega)
    refine ⟨?_,?_⟩
    ·simp only [oN,zs]
     split
     ·rename_i c; subst c; omega
     ·rw [C9]; omega
    ·simp only [oN]
     refine List.forall_mem_cons.2 ⟨?_,h2⟩
     split<;>omega
theorem jd {ds:List Int}(h:eK ds):VG (cC ds).Dims (cC ds).Strides (cC ds).Offset (cC ds).Base:=tK h
def jZ (ds d:List Int):List Int:=gM (d.length - ds.length)++oN ds (d.drop (d.length - ds.length)) (eU ds)
theorem nU {ds d:List Int}(h:eK ds)(l:eK d)(G:ds.length≤d.length):VG d (jZ ds d) 0 (pr ds):=by
 have F:=h.2.pos
 have q:=h.2.2
 have m:(d.drop (d.length - ds.length)).length=ds.length:=by simp; omega
 have r:∀ s∈eU ds,0≤s:=fun s g=>(gL h.2 s g).1
 obtain ⟨h1,h2⟩:=xO (ys:=d.drop (d.length - ds.length)) h.2.1 (fun x u=>l.2.1 x (List.mem_of_mem_drop u)) r
 have i:∀ s∈jZ ds d,0≤s:=by
  intro s g
  rcases List.mem_append.1 g with g | g
  ·have:=(List.mem_replicate.1 g).2; omega
  ·exact h2 s g
 have E:d=d.take (d.length - ds.length)++d.drop (d.length - ds.length):=(List.take_append_drop _ _).symm
 have D:zs hw d (jZ ds d)≤pr ds - 1:=by
  have e:zs hw d (jZ ds d)=zs hw (d.take (d.length - ds.length)++d.drop (d.length - ds.length)) (jZ ds d):=by rw [List.take_append_drop]
  rw [e,jZ,tM _ (by simp [gM]),xM _ C9,← ki h.2]
  omega
 refine ⟨l,by simp only [jZ,List.length_append,kx m (dO ds)]; simp [gM]; omega,⟨F,q⟩,⟨by omega,by omega⟩,?_,?_,by omega⟩
 ·intro s g
  refine ⟨by have:=i s g; omega,?_⟩
  rcases List.mem_append.1 g with g | g
  ·have:=(List.mem_replicate.1 g).2; omega
  ·have B:∀ (xs ys ss:List Int),(∀ s∈ss,s≤4096)→∀ s∈oN xs ys ss,s≤4096:=by
    intro xs
    induction xs with
    | nil=>intro ys ss _ s g; cases ys<;>simp [oN] at g
    | cons a xs ih=>intro ys ss j; cases ys with
     | nil=>simp [oN]
     | cons b ys=>cases ss with
      | nil=>simp [oN]
      | cons t ss =>
       simp only [oN]
       refine List.forall_mem_cons.2 ⟨?_,ih ys ss fun x u=>j x (by simp [u])⟩
       have:=j t (by simp)
       split<;>omega
   exact B _ _ _ (fun s g=>(gL h.2 s g).2) s g
 ·rw [qc l.2.1 i]; omega
theorem mE {ds d:List Int}(e:ds.length≤d.length)(a:d.length≤6){j:Nat}(b:j<ds.length):aK (aK ((d.length:Int) - (ds.length:Int))+(j:Int))=((d.length - ds.length+j:Nat):Int)∧ix d ((d.length - ds.length+j:Nat):Int)=ix (d.drop (d.length - ds.length)) (j:Int):=by
 refine ⟨by rw [bG (n:=(d.length:Int) - ds.length) (by omega) (by omega),bG (by omega) (by omega)]; omega,?_⟩
 rw [bV (by omega),bV (by simp; omega)]
 simp
theorem xP {ds d:List Int}(e:ds.length≤d.length){j:Nat}(b:j<ds.length):ix (jZ ds d) ((d.length - ds.length+j:Nat):Int)=if ix ds (j:Int)=ix (d.drop (d.length - ds.length)) (j:Int) then ix (eU ds) (j:Int) else 0:=by
 have a:(d.drop (d.length - ds.length)).length=ds.length:=by simp; omega
 rw [← xL a (dO ds) b,bV (by simp only [jZ,List.length_append,kx a (dO ds)]; simp [gM]; omega),bV (by rw [kx a (dO ds)]; omega)]
 simp only [jZ]
 rw [List.getElem_append_right (by simp [gM])]
 simp [gM]
theorem nV {ds d:List Int}(h:eK ds)(i:ds.length≤d.length){j:Nat}(g:j<ds.length) :
  (ix ds (j:Int)=ix (d.drop (d.length - ds.length)) (j:Int)→((jZ ds d).take (d.length - ds.length+j)++(gM d.length).drop (d.length - ds.length+j)).set (d.length - ds.length+j) (ix (eU ds) (j:Int))=(jZ ds d).take (d.length - ds.length+(j+1))++(gM d.length).drop (d.length - ds.length+(j+1))) ∧
  (ix ds (j:Int)≠ix (d.drop (d.length - ds.length)) (j:Int)→(jZ ds d).take (d.length - ds.length+j)++(gM d.length).drop (d.length - ds.length+j)=(jZ ds d).take (d.length - ds.length+(j+1))++(gM d.length).drop (d.length - ds.length+(j+1))):=by
 have a:(d.drop (d.length - ds.length)).length=ds.length:=by simp; omega
 have b:(jZ ds d).length=(gM d.length).length:=by simp only [jZ,List.length_append,kx a (dO ds)]; simp [gM]; omega
 have l:(gM d.length).length=d.length:=by simp [gM]
 have e:=xP i g
 constructor
 ·intro c
  rw [if_pos c] at e
  have:=tH b (j:=d.length - ds.length+j) (by omega)
  rw [e] at this
  exact this
 ·intro c
  rw [if_neg c] at e
  refine rk b (by omega) ?_
  rw [e,bV (by omega)]
  simp [gM]
theorem tN {ds d:List Int}(h:eK ds)(l:d.length<cJ):Z05 (cC ds) d=some (if eK d∧ds.length≤d.length∧mr ds (d.drop (d.length - ds.length))=true then ⟨d,jZ ds d,0,pr ds⟩ else eD):=by
 have O:=h.1
 have b:(cC ds).Dims=ds:=rfl
 have q:(cC ds).Strides=eU ds:=rfl
 have J:=dO ds
 unfold Z05
 rw [kP (jd h)]
 simp only [Option.bind_some,bT,Bool.not_true,Bool.not_false,cond_true,Bool.false_or,gY l]
 by_cases hd:eK d
 ·have i:=hd.1
  simp only [hd,decide_true,Bool.not_true,Bool.false_or,b,true_and]
  by_cases hl:ds.length≤d.length
  ·rw [if_neg (by rw [bG (by omega) (by omega)]; simp; omega),gU (by omega)]
   simp only [Option.bind_some]
   rw [if_pos (by omega)]
   have e:(d.drop (d.length - ds.length)).length=ds.length:=by simp; omega
   have a:∀ j:Nat,j<ds.length→(ix ds (j:Int)=ix (d.drop (d.length - ds.length)) (j:Int)∨ix ds (j:Int)=1)→(fun s:List Int×Int=>Z05_L1 (cC ds) d s.1 s.2) ((jZ ds d).take (d.length - ds.length+j)++(gM d.length).drop (d.length - ds.length+j),(j:Int))=some (.inl ((jZ ds d).take (d.length - ds.length+(j+1))++(gM d.length).drop (d.length - ds.length+(j+1)),((j+1:Nat):Int))):=by
    intro j g I
    obtain ⟨u,B⟩:=mE (ds:=ds) hl i g
    obtain ⟨L,M⟩:=nV (d:=d) h hl g
    simp only [Z05_L1,Z05_J2,b,q,u,B]
    rw [if_pos (by simp; omega),if_pos (by omega),if_pos (by omega)]
    by_cases c:ix ds (j:Int)=ix (d.drop (d.length - ds.length)) (j:Int)
    ·rw [if_pos (by simp [c]),if_pos (by omega),if_pos (by simp; omega),Int.toNat_natCast,L c,cA (by unfold cJ; omega)]
     rfl
    ·rw [if_neg (by simp [c]),if_neg (by simp [I.resolve_left c]),M c,cA (by unfold cJ; omega)]
   have D:(List.replicate (d.length:Int).toNat (0:Int),(0:Int))=((jZ ds d).take (d.length - ds.length+0)++(gM d.length).drop (d.length - ds.length+0),((0:Nat):Int)):=by
    simp only [jZ,Nat.add_zero]
    rw [List.take_append_of_le_length (by simp [gM]),List.take_of_length_le (by simp [gM])]
    simp [gM]
   by_cases c:mr ds (d.drop (d.length - ds.length))=true
   ·have:=eR (f:=fun s:List Int×Int=>Z05_L1 (cC ds) d s.1 s.2) (r:=.inr (jZ ds d)) (fun j=>((jZ ds d).take (d.length - ds.length+j)++(gM d.length).drop (d.length - ds.length+j),(j:Int))) ds.length
     (fun j g=>a j g (rq e c g))
     (by
      simp only [Z05_L1,b]
      rw [if_neg (by simp),show d.length - ds.length+ds.length=d.length by omega,List.take_of_length_le (by simp only [jZ,List.length_append,kx e (dO ds)]; simp [gM]; omega),List.drop_of_length_le (by simp [gM])]
      simp) D
    rw [this]
    simp [c,hl,Z05_J3]
    exact ⟨rfl,rfl⟩
   ·obtain ⟨m,g1,E,F,G⟩:=rr e (by simpa using c)
    have:=eR (f:=fun s:List Int×Int=>Z05_L1 (cC ds) d s.1 s.2) (r:=.inl eD) (fun j=>((jZ ds d).take (d.length - ds.length+j)++(gM d.length).drop (d.length - ds.length+j),(j:Int))) m
     (fun j g=>a j (by omega) (G j g))
     (by
      obtain ⟨u,B⟩:=mE (ds:=ds) hl i g1
      simp only [Z05_L1,b,u,B]
      rw [if_pos (by simp; omega),if_pos (by omega),if_pos (by omega),if_neg (by simp [E]),if_pos (by simp [F])]
      rfl) D
    rw [this]
    simp [c]
  ·rw [if_pos (by rw [bG (by unfold cJ at l; omega) (by unfold cJ at l; omega)]; simp; omega)]
   simp [hl,eD]
 ·simp [hd,eD]
theorem tO {ds d:List Int}(h:eK ds)(I:d.length<cJ):Z2n (cC ds) d=some (if eK d∧ds.length≤d.length∧mr ds (d.drop (d.length - ds.length))=true then ⟨d,jZ ds d,0,pr ds⟩ else eD):=by
 have T:=h.1
 have a:(cC ds).Dims=ds:=rfl
 have l:(cC ds).Strides=eU ds:=rfl
 have L:=dO ds
 unfold Z2n Z3e
 rw [kQ (jd h)]
 simp only [Option.bind_some,Bool.not_true,Bool.false_eq_true,if_false]
 rw [fO (by rw [a]; omega),fO (by rw [l]; omega)]
 simp only [Option.bind_some]
 unfold Z0b
 rw [iw I]
 simp only [Option.bind_some]
 by_cases hd:eK d
 ·have i:=hd.1
  simp only [hd,decide_true,Bool.not_true,Bool.false_or,a,true_and]
  by_cases hl:ds.length≤d.length
  ·rw [if_neg (by simp; omega),fO (by omega)]
   simp only [Option.bind_some]
   rw [if_pos (by omega)]
   have e:(d.drop (d.length - ds.length)).length=ds.length:=by simp; omega
   have b:∀ j:Nat,j<ds.length→(ix ds (j:Int)=ix (d.drop (d.length - ds.length)) (j:Int)∨ix ds (j:Int)=1)→(fun s:List Int×Int=>Z0b_L1 ⟨ds,(cC ds).Strides,(cC ds).Offset,(cC ds).Base⟩ d (cC ds) d s.1 s.2) ((jZ ds d).take (d.length - ds.length+j)++(gM d.length).drop (d.length - ds.length+j),(j:Int))=some (.inl ((jZ ds d).take (d.length - ds.length+(j+1))++(gM d.length).drop (d.length - ds.length+(j+1)),((j+1:Nat):Int))):=by
    intro j g J
    obtain ⟨u,B⟩:=mE (ds:=ds) hl i g
    obtain ⟨M,O⟩:=nV (d:=d) h hl g
    simp only [Z0b_L1,Z0b_J2,a,l,u,B]
    rw [if_pos (by simp; omega),if_pos (by omega),if_pos (by omega)]
    by_cases c:ix ds (j:Int)=ix (d.drop (d.length - ds.length)) (j:Int)
    ·rw [if_pos (by simp [c]),if_pos (by omega),if_pos (by simp; omega),Int.toNat_natCast,M c,cA (by unfold cJ; omega)]
     rfl
    ·rw [if_neg (by simp [c]),if_neg (by simp [J.resolve_left c]),O c,cA (by unfold cJ; omega)]
   have D:(List.replicate (d.length:Int).toNat (0:Int),(0:Int))=((jZ ds d).take (d.length - ds.length+0)++(gM d.length).drop (d.length - ds.length+0),((0:Nat):Int)):=by
    simp only [jZ,Nat.add_zero]
    rw [List.take_append_of_le_length (by simp [gM]),List.take_of_length_le (by simp [gM])]
    simp [gM]
   by_cases c:mr ds (d.drop (d.length - ds.length))=true
   ·have:=eR (f:=fun s:List Int×Int=>Z0b_L1 ⟨ds,(cC ds).Strides,(cC ds).Offset,(cC ds).Base⟩ d (cC ds) d s.1 s.2) (r:=.inr (jZ ds d)) (fun j=>((jZ ds d).take (d.length - ds.length+j)++(gM d.length).drop (d.length - ds.length+j),(j:Int))) ds.length
     (fun j g=>b j g (rq e c g))
     (by
      simp only [Z0b_L1,a]
      rw [if_neg (by simp),show d.length - ds.length+ds.length=d.length by omega,List.take_of_length_le (by simp only [jZ,List.length_append,kx e (dO ds)]; simp [gM]; omega),List.drop_of_length_le (by simp [gM])]
      simp) D
    rw [this,if_pos ⟨hl,c⟩]
    simp only [Option.bind_some,Z0b_J3,bT,Bool.not_true,Bool.not_false,cond_true]
    rw [kQ (v:=⟨d,jZ ds d,(cC ds).Offset,(cC ds).Base⟩) (nU h hd hl)]
    rfl
   ·obtain ⟨m,g1,E,F,G⟩:=rr e (by simpa using c)
    have:=eR (f:=fun s:List Int×Int=>Z0b_L1 ⟨ds,(cC ds).Strides,(cC ds).Offset,(cC ds).Base⟩ d (cC ds) d s.1 s.2) (r:=.inl (false,⟨d,(jZ ds d).take (d.length - ds.length+m)++(gM d.length).drop (d.length - ds.length+m),(cC ds).Offset,(cC ds).Base⟩)) (fun j=>((jZ ds d).take (d.length - ds.length+j)++(gM d.length).drop (d.length - ds.length+j),(j:Int))) m
     (fun j g=>b j (by omega) (G j g))
     (by
      obtain ⟨u,B⟩:=mE (ds:=ds) hl i g1
      simp only [Z0b_L1,a,u,B]
      rw [if_pos (by simp; omega),if_pos (by omega),if_pos (by omega),if_neg (by simp [E]),if_pos (by simp [F])]) D
    rw [this,if_neg (fun q=>c q.2)]
    simp [bT,eD]
  ·rw [if_pos (by simp; omega),if_neg (fun q=>hl q.1)]
   simp [bT,eD]
 ·simp [hd,bT,eD]
theorem tP {v:View}(a:v.Dims.length<cJ)(h:¬ eK v.Dims):Zb v=some false:=by
 unfold Zb
 rw [gY a]
 simp [h]
theorem tQ {v:View}(a:v.Dims.length<cJ)(h:¬ eK v.Dims):Zk v=some false:=by
 unfold Zk
 rw [iw a]
 simp [h]
def ms (ds:List Int)(a fr c st:Int):Prop:=0≤a∧a<(ds.length:Int)∧1≤c∧c≤4096∧1≤st∧st≤4096∧0≤fr∧fr<ix ds a∧fr+(c - 1)*st<ix ds a
instance (ds:List Int)(a fr c st:Int):Decidable (ms ds a fr c st):=by unfold ms; infer_instance
theorem xQ {xs:List Int}{j:Nat}{a:Int}(h:j<xs.length):ix (xs.set j a) (j:Int)=a:=by rw [bV (by simpa using h)]; simp
theorem om (f:Int→Int→Int){xs ys:List Int}{j:Nat}{a b:Int}(e:j<xs.length)(g:j<ys.length):zs f (xs.set j a) (ys.set j b)=zs f xs ys - f (ix xs (j:Int)) (ix ys (j:Int))+f a b:=by
 induction xs generalizing ys j with
 | nil=>simp at e
 | cons x xs ih=>cases ys with
  | nil=>simp at g
  | cons y ys=>cases j with
   | zero=>simp [zs,ix]; omega
   | succ j =>
    rw [dS,dS,List.set_cons_succ,List.set_cons_succ]
    simp only [zs,ih (ys:=ys) (j:=j) (by simpa using e) (by simpa using g)]
    omega
theorem xR {ds:List Int}(h:∀ d∈ds,1≤d){j:Nat}(g:j<ds.length){c:Int}(h1:1≤c)(h2:c≤ix ds (j:Int)):pr (ds.set j c)≤pr ds∧∀ d∈ds.set j c,1≤d:=by
 induction ds generalizing j with
 | nil=>simp at g
 | cons d ds ih =>
  have l:1≤pr ds:=fV fun x e=>h x (by simp [e])
  cases j with
  | zero =>
   have h2:c≤d:=h2
   refine ⟨Int.mul_le_mul_of_nonneg_right h2 (by omega),List.forall_mem_cons.2 ⟨h1,fun x e=>h x (by simp [e])⟩⟩
  | succ j =>
   rw [dS] at h2
   obtain ⟨a,b⟩:=ih (fun x e=>h x (by simp [e])) (by simpa using g) h2
   have i:=h d (by simp)
   exact ⟨Int.mul_le_mul_of_nonneg_left a (by omega),List.forall_mem_cons.2 ⟨i,b⟩⟩
theorem j7 {xs:List Int}{j:Nat}{a:Int}{P:Int→Prop}(h:∀ x∈xs,P x)(e:P a):∀ x∈xs.set j a,P x:=by
 intro x b
 rcases List.mem_or_eq_of_mem_set b with b | rfl
 ·exact h x b
 ·exact e
theorem xS {ds:List Int}(h:eK ds){j:Nat}(r:j<ds.length){fr c st:Int}(Y:1≤c)(F:0≤st)(L:0≤fr)(hl:fr+(c - 1)*st<ix ds (j:Int))(J:c≤ix ds (j:Int))(T:c=1→st=0) :
  VG (ds.set j c) ((eU ds).set j (ix (eU ds) (j:Int)*st)) (0+fr*ix (eU ds) (j:Int)) (pr ds):=by
 have hp:=h.2.pos
 have O:=h.2.2
 obtain ⟨q1,Z⟩:=xR h.2.1 r Y J
 have hm:=h.2.mem (bF r)
 have D:=dO ds
 have E:=gL h.2 _ (bF (xs:=eU ds) (k:=j) (by omega))
 obtain ⟨s,q⟩:∃ s,s=ix (eU ds) (j:Int):=⟨_,rfl⟩
 rw [← q] at E ⊢
 have l:∀ x∈eU ds,0≤x∧x≤4096:=gL h.2
 have G:=ki h.2
 have k0:0≤(c - 1)*st:=Int.mul_nonneg (by omega) F
 have k1:s*(fr+(c - 1)*st)≤s*(ix ds (j:Int) - 1):=Int.mul_le_mul_of_nonneg_left (by omega) E.1
 have k2:s*(fr+(c - 1)*st)=fr*s+s*st*(c - 1):=by rw [Int.mul_add,Int.mul_comm s fr,Int.mul_comm (c - 1) st,Int.mul_assoc]
 have I:0≤s*st:=Int.mul_nonneg E.1 F
 have k4:0≤fr*s:=Int.mul_nonneg L E.1
 have k5:=j6 hm.1 E.1
 have k6:=j6 Y I
 have z:=om hw (xs:=ds) (ys:=eU ds) (a:=c) (b:=s*st) r (by omega)
 rw [← q,k5,k6] at z
 have k7:0≤s*st*(c - 1):=Int.mul_nonneg I (by omega)
 -- what the axis alone may come to
 have a1:s*(ix ds (j:Int) - 1)≤pr ds - 1:=by
  have hz:∀ (xs ys:List Int),(∀ d∈xs,1≤d)→(∀ y∈ys,0≤y)→∀ j:Nat,j<xs.length→j<ys.length→ix ys (j:Int)*(ix xs (j:Int) - 1)≤zs hw xs ys∧0≤zs hw xs ys:=by
   intro xs
   induction xs with
   | nil=>intro ys _ _ j r; simp at r
   | cons x xs ih =>
    intro ys i u j M B
    cases ys with
    | nil=>simp at B
    | cons y ys =>
     have e:=j6 (i x (by simp)) (u y (by simp))
     have e0:=Int.mul_nonneg (u y (by simp)) (show 0≤x - 1 by have:=i x (by simp); omega)
     have nn:∀ (xs ys:List Int),(∀ d∈xs,1≤d)→(∀ y∈ys,0≤y)→0≤zs hw xs ys:=by
      intro xs
      induction xs with
      | nil=>intro ys _ _; simp [zs]
      | cons d ds ihh=>intro ss h1 h2; cases ss with
       | nil=>simp [zs]
       | cons s ss =>
        have:=ihh ss (fun x i=>h1 x (by simp [i])) (fun x i=>h2 x (by simp [i]))
        have h3:=j6 (h1 d (by simp)) (h2 s (by simp))
        have h4:=Int.mul_nonneg (h2 s (by simp)) (show 0≤d - 1 by have:=h1 d (by simp); omega)
        simp only [zs]; omega
     have n1:=nn xs ys (fun d m=>i d (by simp [m])) (fun d m=>u d (by simp [m]))
     cases j with
     | zero =>
      simp only [zs,e]
      show y*(x - 1)≤_∧_
      omega
     | succ j =>
      rw [dS,dS]
      have:=ih ys (fun d m=>i d (by simp [m])) (fun d m=>u d (by simp [m])) j (by simpa using M) (by simpa using B)
      simp only [zs,e]
      omega
  have:=(hz ds (eU ds) h.2.1 (fun y u=>(l y u).1) j r (by omega)).1
  rw [G,← q] at this
  exact this
 have a0:s*st≤4096:=by
  by_cases g:c=1
  ·rw [T g]; omega
  ·have:s*st*1≤s*st*(c - 1):=Int.mul_le_mul_of_nonneg_left (by omega) I
   omega
 have U:SZ (ds.set j c):=⟨Z,by omega⟩
 refine ⟨⟨by simpa using h.1,U⟩,by simp [D],⟨hp,O⟩,⟨by omega,by omega⟩,?_,?_,by omega⟩
 ·exact j7 (fun x i=>by have:=l x i; omega) (by omega)
 ·rw [qc Z (j7 (fun x i=>(l x i).1) I)]; omega
def jE (ds:List Int)(a fr c st:Int):View:=⟨ds.set a.toNat c,(eU ds).set a.toNat (if c=1 then 0 else ix (eU ds) a*st),fr*ix (eU ds) a,pr ds⟩
theorem vD {ds:List Int}{a fr c st:Int}(h:ms ds a fr c st):c≤ix ds a∧0≤(c - 1)*st∧(c - 1)*st≤4096*4096:=by
 obtain ⟨h1,h2,i,j,e,g,l,m,q⟩:=h
 have:=j5 (a:=c - 1) (b:=st) (by omega) e
 have k:=Int.mul_le_mul (show c - 1≤4096 by omega) g (by omega) (show (0:Int)≤4096 by omega)
 exact ⟨by omega,by omega,k⟩
theorem oq {ds:List Int}(h:eK ds){a fr c st:Int}(g:ms ds a fr c st):VG (jE ds a fr c st).Dims (jE ds a fr c st).Strides (jE ds a fr c st).Offset (jE ds a fr c st).Base:=by
 obtain ⟨q,D,E⟩:=vD g
 obtain ⟨h1,h2,i,r,s,u,l,B,m⟩:=g
 obtain ⟨j,rfl⟩:=Int.eq_ofNat_of_zero_le h1
 have b:fr+(c - 1)*(if c=1 then 0 else st)<ix ds (j:Int):=by
  split
  ·omega
  ·exact m
 have:=xS h (j:=j) (by omega) (fr:=fr) (c:=c) (st:=if c=1 then 0 else st) i (by split<;>omega) l b q (fun e=>by simp [e])
 have e:ix (eU ds) (j:Int)*(if c=1 then 0 else st)=if c=1 then 0 else ix (eU ds) (j:Int)*st:=by split<;>simp
 rw [e,Int.zero_add] at this
 exact this
theorem tR {ds:List Int}(h:eK ds)(a:Int):Z2g (cC ds) a=some (decide (0≤a∧a<(ds.length:Int))):=by
 unfold Z2g
 rw [kP (jd h)]
 simp only [Option.bind_some,Bool.true_and]
 congr 1
 rw [Bool.eq_iff_iff]
 simp [cC]
 exact fun _=>decide_eq_true_iff
theorem vE {ds:List Int}(h:eK ds){a fr c st:Int}(D:1≤st):Z1f (cC ds) a fr c st=some (if ms ds a fr c st then jE ds a fr c st else eD):=by
 have hn:=h.1
 have L:=dO ds
 have b:(cC ds).Dims=ds:=rfl
 unfold Z1f
 rw [tR h]
 simp only [Option.bind_some,b]
 by_cases g:(0≤a∧a<(ds.length:Int))∧1≤c∧c≤4096∧st≤4096∧0≤fr
 ·obtain ⟨g1,G,I,r,E⟩:=g
  obtain ⟨j,rfl⟩:=Int.eq_ofNat_of_zero_le g1.1
  have J:j<ds.length:=by omega
  have Z:=h.2.mem (bF J)
  have l:=gL h.2 _ (bF (xs:=eU ds) (k:=j) (by omega))
  have m:(((((!decide (0≤(j:Int)∧(j:Int)<(ds.length:Int))||decide (c<1))||decide (c>4096))||decide (st < -4096))||decide (st>4096))||decide (fr<0))=false:=by simp; omega
  rw [if_pos (fun _=>g1),m,Bool.false_or]
  by_cases g6:fr<ix ds (j:Int)
  ·rw [if_neg (by simp; omega)]
   have k0:0≤(c - 1)*st:=Int.mul_nonneg (by omega) (by omega)
   have k1:=Int.mul_le_mul (show c - 1≤4096 by omega) r (by omega) (show (0:Int)≤4096 by omega)
   have e:aK (fr+aK (aK (c - 1)*st))=fr+(c - 1)*st:=by
    rw [bG (n:=c - 1) (by omega) (by omega),bG (n:=(c - 1)*st) (by omega) (by omega),bG (by omega) (by omega)]
   rw [e,if_pos (fun _=>g1)]
   by_cases g7:fr+(c - 1)*st<ix ds (j:Int)
   ·have F:ms ds (j:Int) fr c st:=⟨g1.1,g1.2,G,I,D,r,E,g6,g7⟩
    have O:=oq h F
    rw [if_neg (by simp; omega),if_pos F]
    unfold Z2i
    rw [gU (by rw [b]; omega),gU (by show (eU ds).length≤_; omega)]
    simp only [Option.bind_some,nm]
    have B:(cC ds).Strides=eU ds:=rfl
    have M:(cC ds).Offset=0:=rfl
    have s:(cC ds).Base=pr ds:=rfl
    simp only [B,M,s,b]
    rw [if_pos (by omega),if_pos (by omega)]
    have f1:0≤fr*ix (eU ds) (j:Int):=Int.mul_nonneg E l.1
    have T:=Int.mul_le_mul (show fr≤4096 by omega) l.2 l.1 (show (0:Int)≤4096 by omega)
    have U:0≤ix (eU ds) (j:Int)*st:=Int.mul_nonneg l.1 (by omega)
    have Y:=Int.mul_le_mul l.2 r (by omega) (show (0:Int)≤4096 by omega)
    rw [bG (n:=ix (eU ds) (j:Int)*st) (by omega) (by omega)]
    have i:∀ x:List Int,x=(jE ds (j:Int) fr c st).Strides→Z1f_J1 (j:Int) fr c ⟨ds,eU ds,0,pr ds⟩ x=some (jE ds (j:Int) fr c st):=by
     rintro x rfl
     have u:(⟨ds.set (j:Int).toNat c,(jE ds (j:Int) fr c st).Strides,0+fr*ix (eU ds) (j:Int),pr ds⟩:View)=jE ds (j:Int) fr c st:=by simp [jE]
     simp only [Z1f_J1]
     rw [bG (n:=fr*ix (eU ds) (j:Int)) (by omega) (by omega),bG (by omega) (by omega),u]
     unfold Z2j
     rw [kP O]
     rfl
    by_cases g8:c=1
    ·rw [if_pos (by simp [g8])]
     exact i _ (by simp [jE,g8])
    ·rw [if_neg (by simp [g8])]
     exact i _ (by simp [jE,g8])
   ·rw [if_pos (by simp; omega),if_neg (fun q=>g7 q.2.2.2.2.2.2.2.2)]
    rfl
  ·rw [if_pos (by simp; omega),if_neg (fun q=>g6 q.2.2.2.2.2.2.2.1)]
   rfl
 ·have m:(((((!decide (0≤a∧a<(ds.length:Int))||decide (c<1))||decide (c>4096))||decide (st < -4096))||decide (st>4096))||decide (fr<0))=true:=by
   simp only [Bool.or_eq_true,Bool.not_eq_true',decide_eq_true_eq,decide_eq_false_iff_not]
   omega
  rw [if_pos (fun q=>by rw [m] at q; cases q),m,if_pos (by simp),if_neg (fun q=>g ⟨⟨q.1,q.2.1⟩,q.2.2.1,q.2.2.2.1,q.2.2.2.2.2.1,q.2.2.2.2.2.2.1⟩)]
  rfl
theorem tS {v:View}{j:Nat}(e:j<v.Dims.length)(b:j<v.Strides.length)(a s:Int):Z16 v (j:Int) a s=some ⟨v.Dims.set j a,v.Strides.set j (if a=1 then 0 else s),v.Offset,v.Base⟩:=by
 unfold Z16
 by_cases g:a=1
 ·rw [if_pos (by simp [g])]
  simp only [Z16_J3]
  rw [if_pos (by omega),if_pos (by omega),if_pos g,Int.toNat_natCast]
 ·rw [if_neg (by simp [g])]
  simp only [Z16_J3]
  rw [if_pos (by omega),if_pos (by omega),if_neg g,Int.toNat_natCast]
theorem vF {ds:List Int}(h:eK ds){a fr c st:Int}(s:1≤st):Z2m (cC ds) a fr c st=some (if ms ds a fr c st then jE ds a fr c st else eD):=by
 have U:=h.1
 have I:=dO ds
 have l:(cC ds).Dims=ds:=rfl
 have r:(cC ds).Strides=eU ds:=rfl
 have J:(cC ds).Offset=0:=rfl
 have D:(cC ds).Base=pr ds:=rfl
 unfold Z2m Z3d
 rw [kQ (jd h)]
 simp only [Option.bind_some,Bool.not_true,Bool.false_eq_true,if_false]
 rw [fO (by rw [l]; omega),fO (by rw [r]; omega)]
 simp only [Option.bind_some,l,r,J,D]
 unfold Z1o
 simp only [Zn,Option.bind_some]
 have no:∀ (p:View) (z:Int),((bT (!(!((false,p,z):Bool×View×Int).1)) (Zk ((false,p,z):Bool×View×Int).2.1)).bind fun r32:Bool=>if ((!((false,p,z):Bool×View×Int).1)||(!r32))=true then some ((⟨[],[],0,0⟩:View),z) else some (p,z))=some (eD,z):=by
  intro p z; simp [bT,eD]
 by_cases g:(0≤a∧a<(ds.length:Int))∧1≤c∧c≤4096
 ·obtain ⟨g1,E,F⟩:=g
  obtain ⟨j,rfl⟩:=Int.eq_ofNat_of_zero_le g1.1
  have G:j<ds.length:=by omega
  have T:=h.2.mem (bF G)
  have m:=gL h.2 _ (bF (xs:=eU ds) (k:=j) (by omega))
  rw [if_neg (by simp; omega),if_pos g1]
  by_cases g6:st≤4096∧0≤fr∧fr<ix ds (j:Int)
  ·rw [if_neg (by simp; omega)]
   have Y:0≤(c - 1)*st:=Int.mul_nonneg (by omega) (by omega)
   have k1:=Int.mul_le_mul (show c - 1≤4096 by omega) g6.1 (by omega) (show (0:Int)≤4096 by omega)
   have e:aK (fr+aK (st*aK (c - 1)))=fr+(c - 1)*st:=by
    rw [bG (n:=c - 1) (by omega) (by omega),Int.mul_comm st,bG (n:=(c - 1)*st) (by omega) (by omega),bG (by omega) (by omega)]
   rw [e]
   have i:∀ z:Int,(z=if c=1 then 0 else st)→ms ds (j:Int) fr c st→Z1o_J3 ⟨ds,eU ds,0,pr ds⟩ (j:Int) c fr z=some (true,jE ds (j:Int) fr c st,z):=by
    intro z B b
    have f1:0≤fr*ix (eU ds) (j:Int):=Int.mul_nonneg g6.2.1 m.1
    have L:=Int.mul_le_mul (show fr≤4096 by omega) m.2 m.1 (show (0:Int)≤4096 by omega)
    have M:0≤ix (eU ds) (j:Int)*z:=Int.mul_nonneg m.1 (by rw [B]; split<;>omega)
    have O:=Int.mul_le_mul m.2 (show z≤4096 by rw [B]; split<;>omega) (by rw [B]; split<;>omega) (show (0:Int)≤4096 by omega)
    simp only [Z1o_J3]
    rw [if_pos (by omega),bG (n:=fr*ix (eU ds) (j:Int)) (by omega) (by omega),bG (n:=0+fr*ix (eU ds) (j:Int)) (by omega) (by omega),bG (by omega) (by omega),tS (by simpa using G) (by simp; omega)]
    simp only [Option.bind_some,jE,Int.toNat_natCast,Int.zero_add]
    congr 5
    rw [B]; split<;>rfl
   have u:∀ z:Int,ms ds (j:Int) fr c st→((bT (!(!((true,jE ds (j:Int) fr c st,z):Bool×View×Int).1)) (Zk ((true,jE ds (j:Int) fr c st,z):Bool×View×Int).2.1)).bind fun r32:Bool=>if ((!((true,jE ds (j:Int) fr c st,z):Bool×View×Int).1)||(!r32))=true then some ((⟨[],[],0,0⟩:View),z) else some (jE ds (j:Int) fr c st,z))=some (jE ds (j:Int) fr c st,z):=by
    intro z b
    simp only [bT,Bool.not_true,Bool.not_false,cond_true,Bool.false_or]
    rw [kQ (oq h b)]
    rfl
   by_cases g8:c=1
   ·have b:ms ds (j:Int) fr c st:=⟨g1.1,g1.2,E,F,s,g6.1,g6.2.1,g6.2.2,by rw [g8]; omega⟩
    rw [if_neg (by simp; omega),i 0 (by simp [g8]) b]
    simp only [Option.bind_some]
    rw [u 0 b,if_pos b]
    rfl
   ·rw [if_pos (by simp; omega)]
    by_cases g7:fr+(c - 1)*st<ix ds (j:Int)
    ·have b:ms ds (j:Int) fr c st:=⟨g1.1,g1.2,E,F,s,g6.1,g6.2.1,g6.2.2,g7⟩
     rw [if_neg (by simp; omega),i st (by simp [g8]) b]
     simp only [Option.bind_some]
     rw [u st b,if_pos b]
     rfl
    ·rw [if_pos (by simp; omega),if_neg (fun q=>g7 q.2.2.2.2.2.2.2.2)]
     simp only [Option.bind_some]
     rw [no]
     rfl
  ·rw [if_pos (by simp; omega),if_neg (fun q=>g6 ⟨q.2.2.2.2.2.1,q.2.2.2.2.2.2.1,q.2.2.2.2.2.2.2.1⟩)]
   simp only [Option.bind_some]
   rw [no]
   rfl
 ·rw [if_pos (by simp; omega),if_neg (fun q=>g ⟨⟨q.1,q.2.1⟩,q.2.2.1,q.2.2.2.1⟩)]
  simp only [Option.bind_some]
  rw [no]
  rfl
def js (ds:List Int)(a sz st:Int):Int:=(ix ds a - sz) / st+1
def gI (ds:List Int)(a sz st:Int):View:=⟨ds.set a.toNat (js ds a sz st)++[sz],(eU ds).set a.toNat (if js ds a sz st=1 then 0 else ix (eU ds) a*st)++[if sz=1 then 0 else ix (eU ds) a],0,pr ds⟩
def mt (ds:List Int)(a sz st:Int):Prop:=0≤a∧a<(ds.length:Int)∧1≤sz∧1≤st∧sz≤ix ds a
instance (ds:List Int)(a sz st:Int):Decidable (mt ds a sz st):=by unfold mt; infer_instance
theorem AI {xs ys:List Int}(a:∀ d∈xs,1≤d)(b:∀ y∈ys,0≤y):0≤zs hw xs ys:=by
 induction xs generalizing ys with
 | nil=>simp [zs]
 | cons d ds ih=>cases ys with
  | nil=>simp [zs]
  | cons s ss =>
   have:=ih (ys:=ss) (fun x h=>a x (by simp [h])) (fun x h=>b x (by simp [h]))
   have e:=j6 (a d (by simp)) (b s (by simp))
   have g:=Int.mul_nonneg (b s (by simp)) (show 0≤d - 1 by have:=a d (by simp); omega)
   simp only [zs]; omega
theorem vG {ds:List Int}(h:eK ds){j:Nat}(g:j<ds.length):ix (eU ds) (j:Int)*(ix ds (j:Int) - 1)≤pr ds - 1:=by
 have i:=dO ds
 have l:=h.2.mem (bF g)
 have m:=gL h.2 _ (bF (xs:=eU ds) (k:=j) (by omega))
 have z:=om hw (xs:=ds) (ys:=eU ds) (a:=ix ds (j:Int)) (b:=0) g (by omega)
 have e:ds.set j (ix ds (j:Int))=ds:=by rw [bV g]; simp
 rw [e,C9,j6 l.1 m.1,ki h.2] at z
 have:=AI (xs:=ds) (ys:=(eU ds).set j 0) h.2.1 (j7 (fun x q=>(gL h.2 x q).1) (by omega))
 omega
theorem ou {ds:List Int}{a sz st:Int}(h:mt ds a sz st):1≤js ds a sz st∧js ds a sz st≤ix ds a∧(js ds a sz st - 1)*st≤ix ds a - sz:=by
 obtain ⟨h1,h2,e,g,i⟩:=h
 unfold js
 have a1:0≤(ix ds a - sz) / st:=Int.ediv_nonneg (by omega) (by omega)
 have b:(ix ds a - sz) / st≤ix ds a - sz:=Int.ediv_le_self _ (by omega)
 have a3:=Int.ediv_mul_le (ix ds a - sz) (show st≠0 by omega)
 refine ⟨by omega,by omega,?_⟩
 rw [show (ix ds a - sz) / st+1 - 1=(ix ds a - sz) / st by omega]
 exact a3
theorem qd {ds:List Int}(h:eK ds){a sz st:Int}(D:mt ds a sz st)(G:eK (gI ds a sz st).Dims):VG (gI ds a sz st).Dims (gI ds a sz st).Strides (gI ds a sz st).Offset (gI ds a sz st).Base:=by
 obtain ⟨T,n2,n3⟩:=ou D
 obtain ⟨h1,h2,h3,h4,h5⟩:=D
 obtain ⟨j,rfl⟩:=Int.eq_ofNat_of_zero_le h1
 have I:j<ds.length:=by omega
 have l:=dO ds
 have hm:=h.2.mem (bF I)
 have u:=gL h.2 _ (bF (xs:=eU ds) (k:=j) (by omega))
 have Y:=vG h I
 have hp:=h.2.pos
 have L:=h.2.2
 have B:=ki h.2
 obtain ⟨n,J⟩:∃ n,n=js ds (j:Int) sz st:=⟨_,rfl⟩
 obtain ⟨s,r⟩:∃ s,s=ix (eU ds) (j:Int):=⟨_,rfl⟩
 have M:(gI ds (j:Int) sz st).Dims=ds.set j n++[sz]:=by rw [J]; simp [gI]
 have Z:(gI ds (j:Int) sz st).Strides=(eU ds).set j (if n=1 then 0 else s*st)++[if sz=1 then 0 else s]:=by rw [J,r]; simp [gI]
 rw [← J] at T n2 n3
 rw [← r] at u Y
 rw [M] at G
 have k0:0≤(n - 1)*st:=Int.mul_nonneg (by omega) (by omega)
 have O:0≤s*st:=Int.mul_nonneg u.1 (by omega)
 have k4:s*((n - 1)*st)=s*st*(n - 1):=by rw [Int.mul_comm (n - 1) st,Int.mul_assoc]
 have k5:s*((n - 1)*st+(sz - 1))≤s*(ix ds (j:Int) - 1):=Int.mul_le_mul_of_nonneg_left (by omega) u.1
 rw [Int.mul_add,k4] at k5
 have k6:0≤s*(sz - 1):=Int.mul_nonneg u.1 (by omega)
 have k7:0≤s*st*(n - 1):=Int.mul_nonneg O (by omega)
 obtain ⟨i,m⟩:∃ i,i=if n=1 then 0 else s*st:=⟨_,rfl⟩
 obtain ⟨g,q⟩:∃ g,g=if sz=1 then 0 else s:=⟨_,rfl⟩
 have E:0≤i∧i≤4096∧i*(n - 1)=s*st*(n - 1):=by
  by_cases c:n=1
  ·rw [m,if_pos c,c]; simp
  ·rw [m,if_neg c]
   have:s*st*1≤s*st*(n - 1):=Int.mul_le_mul_of_nonneg_left (by omega) O
   omega
 have F:0≤g∧g≤4096∧g*(sz - 1)=s*(sz - 1):=by
  by_cases c:sz=1
  ·rw [q,if_pos c,c]; simp
  ·rw [q,if_neg c]; omega
 have z:=om hw (xs:=ds) (ys:=eU ds) (a:=n) (b:=i) I (by omega)
 rw [← r,j6 hm.1 u.1,j6 T E.1,B,E.2.2] at z
 have z2:zs hw (ds.set j n++[sz]) ((eU ds).set j i++[g])=zs hw (ds.set j n) ((eU ds).set j i)+s*(sz - 1):=by
  rw [tM _ (by simp [l])]
  have:zs hw [sz] [g]=hw sz g:=by simp [zs]
  rw [this,j6 h3 F.1,F.2.2]
 have U:∀ x∈(eU ds).set j i++[g],0≤x∧x≤4096:=by
  intro x e
  rcases List.mem_append.1 e with e | e
  ·exact j7 (fun x e=>gL h.2 x e) ⟨E.1,E.2.1⟩ x e
  ·have:x=g:=by simpa using e
   subst this; exact ⟨F.1,F.2.1⟩
 rw [M,Z,← m,← q]
 refine ⟨G,by simp [l],⟨hp,L⟩,⟨Int.le_refl 0,by show 0<pr ds; omega⟩,fun x e=>by have:=U x e; omega,?_,?_⟩
 ·rw [qc G.2.1 fun x e=>(U x e).1]; show (0:Int)≤0+0; decide
 ·show 0+_<pr ds
  omega
theorem rS {ds:List Int}(h:eK ds){a sz st:Int}:Z0f (cC ds) a sz st=some (if mt ds a sz st∧eK (gI ds a sz st).Dims then gI ds a sz st else eD):=by
 have hn:=h.1
 have I:=dO ds
 have i:(cC ds).Dims=ds:=rfl
 have b:(cC ds).Strides=eU ds:=rfl
 have J:(cC ds).Offset=0:=rfl
 have m:(cC ds).Base=pr ds:=rfl
 unfold Z0f
 rw [tR h]
 simp only [Option.bind_some,i,b]
 by_cases g:(0≤a∧a<(ds.length:Int))∧1≤sz∧1≤st
 ·obtain ⟨g1,E,F⟩:=g
  have l:((!decide (0≤a∧a<(ds.length:Int))||decide (sz<1))||decide (st<1))=false:=by simp; omega
  rw [if_pos (fun _=>g1),l,Bool.false_or]
  by_cases g6:sz≤ix ds a
  ·have s:mt ds a sz st:=⟨g1.1,g1.2,E,F,g6⟩
   obtain ⟨O,T,n3⟩:=ou s
   obtain ⟨j,rfl⟩:=Int.eq_ofNat_of_zero_le g1.1
   have G:j<ds.length:=by omega
   have Z:=h.2.mem (bF G)
   have u:=gL h.2 _ (bF (xs:=eU ds) (k:=j) (by omega))
   rw [if_neg (by simp; omega)]
   unfold Z2i
   rw [gU (by rw [i]; omega),gU (by rw [b]; omega)]
   simp only [Option.bind_some,nm,i,b,J,m]
   have e:aK (aK ((aK (ix ds (j:Int) - sz)).tdiv st)+1)=js ds (j:Int) sz st:=by
    rw [bG (n:=ix ds (j:Int) - sz) (by omega) (by omega),Int.tdiv_eq_ediv_of_nonneg (by omega)]
    unfold js at O T ⊢
    rw [bG (n:=(ix ds (j:Int) - sz) / st) (by omega) (by omega),bG (by omega) (by omega)]
   simp only [e]
   rw [if_pos (by omega),if_pos (by omega),if_pos (by omega),if_pos (by omega),if_pos (by omega)]
   have B:∀ x:List Int,x++[if sz=1 then 0 else ix (eU ds) (j:Int)]=(gI ds (j:Int) sz st).Strides→x.length=ds.length→Z0f_J1 (cC ds) (j:Int) sz ⟨ds,eU ds,0,pr ds⟩ (ds.set (j:Int).toNat (js ds (j:Int) sz st)) x=some (if mt ds (j:Int) sz st∧eK (gI ds (j:Int) sz st).Dims then gI ds (j:Int) sz st else eD):=by
    intro x L M
    have D:∀ y,y=(if sz=1 then 0 else ix (eU ds) (j:Int))→Z0f_J2 sz ⟨ds,eU ds,0,pr ds⟩ (ds.set (j:Int).toNat (js ds (j:Int) sz st)) x y=some (if mt ds (j:Int) sz st∧eK (gI ds (j:Int) sz st).Dims then gI ds (j:Int) sz st else eD):=by
     rintro y rfl
     simp only [Z0f_J2]
     rw [if_pos (by simp; omega),L]
     have r:(⟨ds.set (j:Int).toNat (js ds (j:Int) sz st)++[sz],(gI ds (j:Int) sz st).Strides,0,pr ds⟩:View)=gI ds (j:Int) sz st:=rfl
     rw [r]
     unfold Z2j
     by_cases q:eK (gI ds (j:Int) sz st).Dims
     ·rw [kP (qd h s q),if_pos ⟨s,q⟩]
      rfl
     ·rw [tP (by simp [gI,cJ]; omega) q,if_neg (fun z=>q z.2)]
      rfl
    simp only [Z0f_J1]
    rw [if_pos (by simp; omega)]
    by_cases q:sz=1
    ·rw [if_pos (by simp [q])]; exact D _ (by simp [q])
    ·rw [if_neg (by simp [q])]; exact D _ (by simp [q,b])
   by_cases q:js ds (j:Int) sz st=1
   ·rw [if_neg (by simp; omega)]
    exact B _ (by simp [gI,q]) (by simp; omega)
   ·have k:(js ds (j:Int) sz st - 1)*st≤4096:=by omega
    have k2:1*st≤(js ds (j:Int) sz st - 1)*st:=Int.mul_le_mul_of_nonneg_right (by omega) (by omega)
    have U:0≤ix (eU ds) (j:Int)*st:=Int.mul_nonneg u.1 (by omega)
    have Y:=Int.mul_le_mul u.2 (show st≤4096 by omega) (by omega) (show (0:Int)≤4096 by omega)
    rw [if_pos (by simp; omega),bG (n:=ix (eU ds) (j:Int)*st) (by omega) (by omega),List.set_set]
    exact B _ (by simp [gI,q]) (by simp; omega)
  ·rw [if_pos (by simp; omega),if_neg (fun q=>g6 q.1.2.2.2.2)]
   rfl
 ·have l:((!decide (0≤a∧a<(ds.length:Int))||decide (sz<1))||decide (st<1))=true:=by
   simp only [Bool.or_eq_true,Bool.not_eq_true',decide_eq_true_eq,decide_eq_false_iff_not]
   omega
  rw [if_pos (fun q=>by rw [l] at q; cases q),l,if_pos (by simp),if_neg (fun q=>g ⟨⟨q.1.1,q.1.2.1⟩,q.1.2.2.1,q.1.2.2.2.1⟩)]
  rfl
theorem AJ {v:View}(i:v.Dims.length≤6)(h:v.Strides.length=v.Dims.length)(a s:Int):Z2u v a s=some ⟨v.Dims++[a],v.Strides++[if a=1 then 0 else s],v.Offset,v.Base⟩:=by
 unfold Z2u
 rw [if_pos (by simp; omega),if_pos (by simp; omega)]
 have e:aK (((v.Dims++[(0:Int)]).length:Int) - 1)=(v.Dims.length:Int):=by
  have:((v.Dims++[(0:Int)]).length:Int)=v.Dims.length+1:=by simp
  rw [this,bG (by omega) (by omega)]; omega
 rw [e,tS (by simp) (by simp; omega)]
 simp only [Option.bind_some]
 have b:(v.Dims++[0]).set v.Dims.length a=v.Dims++[a]:=by rw [List.set_append_right _ _ (Nat.le_refl _)]; simp
 have g:∀ x:Int,(v.Strides++[0]).set v.Dims.length x=v.Strides++[x]:=by intro x; rw [← h,List.set_append_right _ _ (Nat.le_refl _)]; simp
 rw [b,g]
theorem rT {ds:List Int}(h:eK ds){a sz st:Int}:Z2o (cC ds) a sz st=some (if mt ds a sz st∧eK (gI ds a sz st).Dims then gI ds a sz st else eD):=by
 have hn:=h.1
 have L:=dO ds
 have l:(cC ds).Dims=ds:=rfl
 have m:(cC ds).Strides=eU ds:=rfl
 have M:(cC ds).Offset=0:=rfl
 have r:(cC ds).Base=pr ds:=rfl
 unfold Z2o Z3f
 rw [kQ (jd h)]
 simp only [Option.bind_some,Bool.not_true,Bool.false_eq_true,if_false]
 rw [fO (by rw [l]; omega),fO (by rw [m]; omega)]
 simp only [Option.bind_some,l,m,M,r]
 unfold Z1p
 simp only [Zn,Option.bind_some]
 by_cases g:(0≤a∧a<(ds.length:Int))∧1≤sz∧1≤st
 ·obtain ⟨g1,I,J⟩:=g
  rw [if_pos (fun _=>g1)]
  by_cases g6:sz≤ix ds a
  ·have u:mt ds a sz st:=⟨g1.1,g1.2,I,J,g6⟩
   obtain ⟨O,T,n3⟩:=ou u
   obtain ⟨j,rfl⟩:=Int.eq_ofNat_of_zero_le g1.1
   have E:j<ds.length:=by omega
   have Z:=h.2.mem (bF E)
   have F:=gL h.2 _ (bF (xs:=eU ds) (k:=j) (by omega))
   rw [if_neg (by simp; omega),if_pos (by omega),if_pos g1,if_pos (by omega)]
   have e:aK (aK ((aK (ix ds (j:Int) - sz)).tdiv st)+1)=js ds (j:Int) sz st:=by
    rw [bG (n:=ix ds (j:Int) - sz) (by omega) (by omega),Int.tdiv_eq_ediv_of_nonneg (by omega)]
    unfold js at O T ⊢
    rw [bG (n:=(ix ds (j:Int) - sz) / st) (by omega) (by omega),bG (by omega) (by omega)]
   have G:∀ z:Int,(z=if js ds (j:Int) sz st=1 then 0 else st)→Z1p_J3 ⟨ds,eU ds,0,pr ds⟩ (j:Int) sz st z=some (true,gI ds (j:Int) sz st,z):=by
    intro z s
    have b:0≤z∧z≤4096:=by
     by_cases q:js ds (j:Int) sz st=1
     ·rw [s,if_pos q]; omega
     ·have k2:1*st≤(js ds (j:Int) sz st - 1)*st:=Int.mul_le_mul_of_nonneg_right (by omega) (by omega)
      rw [s,if_neg q]; omega
    have U:0≤ix (eU ds) (j:Int)*z:=Int.mul_nonneg F.1 b.1
    have Y:=Int.mul_le_mul F.2 b.2 b.1 (show (0:Int)≤4096 by omega)
    simp only [Z1p_J3,e]
    rw [bG (by omega) (by omega),tS (by simpa using E) (by simp; omega)]
    simp only [Option.bind_some]
    rw [AJ (by simp; omega) (by simp; omega)]
    simp only [Option.bind_some,gI,Int.toNat_natCast]
    congr 6
    rw [s]; split<;>rfl
   have i:∀ z:Int,(bT (!(!((true,gI ds (j:Int) sz st,z):Bool×View×Int).1)) (Zk ((true,gI ds (j:Int) sz st,z):Bool×View×Int).2.1)).bind (fun B:Bool=>if ((!((true,gI ds (j:Int) sz st,z):Bool×View×Int).1)||(!B))=true then some ((⟨[],[],0,0⟩:View),z) else some (gI ds (j:Int) sz st,z))=some ((if mt ds (j:Int) sz st∧eK (gI ds (j:Int) sz st).Dims then gI ds (j:Int) sz st else eD),z):=by
    intro z
    simp only [bT,Bool.not_true,Bool.not_false,cond_true,Bool.false_or]
    by_cases q:eK (gI ds (j:Int) sz st).Dims
    ·rw [kQ (qd h u q),if_pos ⟨u,q⟩]
     rfl
    ·rw [tQ (by simp [gI,cJ]; omega) q,if_neg (fun z=>q z.2)]
     rfl
   rw [e]
   by_cases q:js ds (j:Int) sz st=1
   ·rw [if_pos (by simp [q]),G 0 (by simp [q])]
    simp only [Option.bind_some]
    rw [i]
    rfl
   ·rw [if_neg (by simp [q]),G st (by simp [q])]
    simp only [Option.bind_some]
    rw [i]
    rfl
  ·rw [if_pos (by simp; omega),if_neg (fun q=>g6 q.1.2.2.2.2)]
   simp [bT,eD]
 ·have D:(((!(decide (a≥0)&&decide (a<(ds.length:Int))))||decide (sz<1))||decide (st<1))=true:=by
   simp only [Bool.or_eq_true,Bool.not_eq_true',decide_eq_true_eq,Bool.and_eq_false_iff,decide_eq_false_iff_not]
   omega
  rw [if_pos (fun q=>by rw [D] at q; cases q),D,if_pos (by simp),if_neg (fun q=>g ⟨⟨q.1.1,q.1.2.1⟩,q.1.2.2.1,q.1.2.2.2.1⟩)]
  simp [bT,eD]
def NR (x:Int):Prop:=0≤x∧x<2147483647
instance (x:Int):Decidable (NR x):=by unfold NR; infer_instance
def RG (n:Nat)(x:List Int):Prop:=x.length=n∧∀ y∈x,NR y
theorem RG.set {n:Nat}{x:List Int}(h:RG n x){y:Int}(a:NR y)(k:Nat):RG n (x.set k y):=⟨by simp [h.1],j7 h.2 a⟩
theorem RG.rep (n:Nat):RG n (List.replicate n 0):=⟨by simp,fun y a=>by rw [(List.mem_replicate.1 a).2]; decide⟩
theorem RG.ix {n:Nat}{x:List Int}(h:RG n x){i:Int}(a:0≤i)(h1:i<(n:Int)):NR (ix x i):=by
 obtain ⟨k,rfl⟩:=Int.eq_ofNat_of_zero_le a
 exact h.2 _ (bF (by have:=h.1; omega))
theorem lj {R:Type}{f:List Int×Int→Option ((List Int×Int)⊕R)}{Post:R→Prop}(m n:Nat)(l:∀ j:Nat,j<n→∀ x,RG m x→∃ x',f (x,(j:Int))=some (.inl (x',((j+1:Nat):Int)))∧RG m x')(g:∀ x,RG m x→∃ r,f (x,(n:Int))=some (.inr r)∧Post r){x:List Int}(e:RG m x):∃ r,aU f (x,0)=some r∧Post r :=
 hO (f:=f) (fun j s=>s.2=(j:Int)∧RG m s.1) n (fun j s h a=>by
  obtain ⟨x,i⟩:=s
  obtain ⟨rfl,b⟩:=a
  obtain ⟨x',h1,h2⟩:=l j h x b
  exact ⟨_,h1,rfl,h2⟩) (fun s a=>by
  obtain ⟨x,i⟩:=s
  obtain ⟨rfl,b⟩:=a
  exact g x b) (s:=(x,0)) ⟨rfl,e⟩
theorem k8 (p:Int):∃ m,Zq p=some m∧NR m:=by
 have h1:=Int.tmod_lt_of_pos p (show (0:Int)<2147483647 by omega)
 have h2 : -2147483647<p.tmod 2147483647:=by
  rcases Int.le_total 0 p with h | h
  ·have:=Int.tmod_nonneg 2147483647 h; omega
  ·have e:p.tmod 2147483647 = -((-p).tmod 2147483647):=by rw [Int.neg_tmod]; omega
   have:=Int.tmod_lt_of_pos (-p) (show (0:Int)<2147483647 by omega)
   omega
 unfold Zq
 by_cases c:p.tmod 2147483647<0
 ·rw [if_pos (by simpa using c)]
  exact ⟨_,rfl,by rw [bG (by omega) (by omega)]; constructor<;>omega⟩
 ·rw [if_neg (by simpa using c)]
  exact ⟨_,rfl,by constructor<;>omega⟩
theorem kj (p:Int):∃ m,Z1k p=some m:=by
 obtain ⟨m,h,_⟩:=k8 p
 unfold Z1k
 rw [h]
 simp only [Option.bind_some]
 split<;>exact ⟨_,rfl⟩
theorem ov (a b:Int):∃ m,Z1s a b=some m∧NR m:=by
 obtain ⟨x,h1,_⟩:=k8 a
 obtain ⟨y,h2,_⟩:=k8 b
 obtain ⟨z,e,g⟩:=k8 (aK (x+y))
 exact ⟨z,by unfold Z1s; simp [h1,h2,e],g⟩
theorem rt (a b:Int):∃ m,Z2f a b=some m∧NR m:=by
 obtain ⟨x,h1,_⟩:=k8 a
 obtain ⟨y,h2,_⟩:=k8 b
 obtain ⟨z,e,g⟩:=k8 (aK (x - y))
 exact ⟨z,by unfold Z2f; simp [h1,h2,e],g⟩
theorem mF (a b:Int):∃ m,Z1l a b=some m∧NR m:=by
 obtain ⟨x,h1,_⟩:=k8 a
 obtain ⟨y,h2,_⟩:=k8 b
 obtain ⟨z,e,g⟩:=k8 (aK (x*y))
 exact ⟨z,by unfold Z1l; simp [h1,h2,e],g⟩
theorem vH (a:Int):∀ (f:Nat) (n:Int),0≤n→n<2 ^ f→n≤1099511627776→∃ m,Zt_R (f+1) a n=some m∧NR m:=by
 intro f
 induction f with
 | zero =>
  intro n b h1 _
  have:n=0:=by simp at h1; omega
  subst this
  exact ⟨1,rfl,by decide⟩
 | succ f ih =>
  intro n b h1 q
  show ∃ m,Zt_S (Zt_R (f+1)) a n=some m∧NR m
  unfold Zt_S
  by_cases c:n=0
  ·rw [if_pos (by simp [c])]; exact ⟨1,rfl,by decide⟩
  ·rw [if_neg (by simp [c])]
   have e:n.tdiv 2=n / 2:=Int.tdiv_eq_ediv_of_nonneg b
   have h2:n / 2<2 ^ f:=by rw [Int.pow_succ] at h1; omega
   rw [e,bG (by omega) (by omega)]
   obtain ⟨x,g1,l⟩:=ih (n / 2) (by omega) h2 (by omega)
   obtain ⟨y,g,h⟩:=mF x x
   obtain ⟨z,i,j⟩:=mF y a
   rw [g1]
   simp only [Option.bind_some,g]
   split
   ·simp only [i,Option.bind_some]; exact ⟨z,rfl,j⟩
   ·exact ⟨y,rfl,h⟩
theorem rU (a:Int):∃ m,Z2e a=some m∧NR m:=by
 obtain ⟨x,h1,_⟩:=k8 a
 unfold Z2e Zt
 rw [h1]
 simp only [Option.bind_some]
 obtain ⟨y,h2,b⟩:=vH x 31 2147483645 (by omega) (by decide) (by omega)
 have mono:∀ f g:Nat,∀ n m,f≤g→Zt_R f x n=some m→Zt_R g x n=some m:=by
  intro f
  induction f with
  | zero=>intro g n m _ h; cases h
  | succ f ih =>
   intro g n m i h
   obtain ⟨g,rfl⟩:∃ k,g=k+1:=⟨g - 1,by omega⟩
   change Zt_S (Zt_R f) x n=some m at h
   show Zt_S (Zt_R g) x n=some m
   unfold Zt_S at h ⊢
   split
   ·rename_i c; rw [if_pos c] at h; exact h
   ·rename_i c
    rw [if_neg c] at h
    cases e:Zt_R f x (aK (n.tdiv 2)) with
    | none=>rw [e] at h; cases h
    | some r=>rw [e] at h; rw [ih g _ r (by omega) e]; exact h
 rw [mono 32 oa _ y (by decide) h2]
 exact ⟨y,rfl,b⟩
theorem xT {op x:Int}(a:NR x):∃ m,Z35 op x=some m∧NR m:=by
 unfold Z35
 split
 ·obtain ⟨m,h1,h2⟩:=rt 0 x; rw [h1]; exact ⟨m,rfl,h2⟩
 ·split
  ·obtain ⟨m,h1,h2⟩:=rU x; rw [h1]; exact ⟨m,rfl,h2⟩
  ·obtain ⟨m,h1⟩:=kj x
   rw [h1]
   simp only [Option.bind_some]
   split
   ·exact ⟨0,rfl,by decide⟩
   ·split
    ·exact ⟨1,rfl,by decide⟩
    ·exact ⟨x,rfl,a⟩
theorem xU {op x y:Int}(h1:1≤op)(h2:op≤3):∃ m,Z1t op x y=some m∧NR m:=by
 obtain ⟨a,i⟩:=kj x
 obtain ⟨b,j⟩:=kj y
 unfold Z1t
 rw [i,j]
 simp only [Option.bind_some]
 split
 ·obtain ⟨m,h1,h2⟩:=ov x y; rw [h1]; exact ⟨m,rfl,h2⟩
 ·split
  ·obtain ⟨m,h1,h2⟩:=rt x y; rw [h1]; exact ⟨m,rfl,h2⟩
  ·split
   ·obtain ⟨m,h1,h2⟩:=mF x y; rw [h1]; exact ⟨m,rfl,h2⟩
   ·rename_i e g h
    simp only [beq_iff_eq] at e g h
    omega
theorem iA {ds:List Int}{x:List Int}(h:eK ds)(a:RG (pr ds).toNat x):TOk ds x:=⟨h,by have:=a.1; have:=h.2.pos; omega,fun y b=>a.2 y b⟩
theorem pA {ds:List Int}{x:List Int}(h:TOk ds x):RG (pr ds).toNat x:=⟨by have:=h.l; omega,fun y a=>h.x y a⟩
theorem kR {ds x:List Int}(h:TOk ds x):x.length≤4096∧ds.length≤6:=⟨by have:=h.l; have:=h.d.2.2; omega,h.d.1⟩
def TT (t:Tensor):Prop:=TOk t.Dims t.Data
theorem qe {t:Tensor}(h:TT t):Zs t=some true:=by
 have:=kR h
 rw [tD (by unfold cJ; omega) (by unfold cJ; omega),decide_eq_true (show TOk t.Dims t.Data from h)]
theorem AK {op:Int}{t:Tensor}(h:TT t)(h1:1≤op)(h2:op≤4):∃ d,Z18 op t=some ⟨t.Dims,d⟩∧TOk t.Dims d:=by
 have q:=kR h
 unfold Z18
 rw [qe h]
 simp only [Option.bind_some]
 rw [if_neg (by simp; omega),ld h.d]
 simp only [Option.bind_some]
 have u:(pr t.Dims).toNat=t.Data.length:=(pA h).1.symm
 obtain ⟨r,b,e⟩:=lj (f:=fun s:List Int×Int=>Z18_L1 op t ⟨t.Dims,List.replicate (pr t.Dims).toNat 0⟩ s.1 s.2) (Post:=fun r=>RG (pr t.Dims).toNat r) (pr t.Dims).toNat t.Data.length
  (fun j l x a=>by
   obtain ⟨m,g1,g⟩:=xT (op:=op) ((pA h).ix (i:=(j:Int)) (by omega) (by omega))
   simp only [Z18_L1]
   rw [if_pos (by simp; omega),if_pos (by omega),g1]
   simp only [Option.bind_some]
   rw [if_pos (by simp; omega),cA (by unfold cJ; omega)]
   exact ⟨_,rfl,a.set g _⟩)
  (fun x a=>by simp only [Z18_L1]; rw [if_neg (by simp)]; exact ⟨x,rfl,a⟩) (RG.rep _)
 rw [b]
 exact ⟨r,rfl,iA h.d e⟩
theorem vJ {ds:List Int}(h:eK ds):Z01 ds ds=some ds:=by
 have u:=h.1
 unfold Z01
 rw [gY (by unfold cJ; omega)]
 simp only [h,decide_true,Option.bind_some,bT,Bool.not_true,Bool.not_false,cond_true,Bool.or_self,Bool.false_eq_true,if_false]
 rw [if_neg (by simp)]
 unfold Z01_J1
 rw [if_pos (by omega)]
 have:=eR (f:=fun s:List Int×Int=>Z01_L1 ds ds (ds.length:Int) s.1 s.2) (r:=.inr ds) (fun j=>(List.replicate (ds.length - j) 0++ds.drop (ds.length - j),(j:Int))) ds.length
  (fun j q=>by
   obtain ⟨i,m⟩:∃ i,i=ds.length - (j+1):=⟨_,rfl⟩
   have e:ds.length - j=i+1:=by omega
   have a:i<ds.length:=by omega
   have b:aK (aK ((ds.length:Int) - 1) - (j:Int))=(i:Int):=by rw [bG (n:=(ds.length:Int) - 1) (by omega) (by omega),bG (by omega) (by omega)]; omega
   have g:Z2h ds (j:Int)=some (ix ds (i:Int)):=by
    unfold Z2h
    rw [if_neg (by simp; omega),b,if_pos (by omega)]
   simp only [Z01_L1]
   rw [if_pos (by simp; omega),g]
   simp only [Option.bind_some]
   rw [if_neg (by simp),if_neg (by simp)]
   simp only [Z01_J3,b]
   rw [if_pos (by simp; omega),cA (by unfold cJ; omega),e,← m,Int.toNat_natCast]
   congr 3
   have l:ds.drop i=ix ds (i:Int)::ds.drop (i+1):=by rw [List.drop_eq_getElem_cons a,bV a]
   rw [l,List.replicate_succ',List.set_append_left _ _ (by simp),List.set_append_right _ _ (by simp)]
   simp)
  (by simp only [Z01_L1,Nat.sub_self,List.replicate_zero,List.drop_zero,List.nil_append]; rw [if_neg (by simp)])
  (s:=(List.replicate (ds.length:Int).toNat 0,0)) (by simp)
 rw [this]
 simp only [Option.bind_some,Z01_J4]
 rw [gY (by unfold cJ; omega)]
 simp [h]
theorem nW {t:Tensor}{is:List Int}(h:TT t)(a:IV t.Dims is):∃ x,Z0c t is=some x:=by
 have l:=kR h
 have b:=a.len
 unfold Z0c
 have:=eR (f:=fun s:List Int×Int=>Z0c_L1 t is s.1 s.2) (r:=is) (fun j=>(is.take j,(j:Int))) t.Dims.length
  (fun j i=>by
   have m:=a.mem (j:=j) (by omega)
   have e:aK (aK ((is.length:Int) - (t.Dims.length:Int))+(j:Int))=(j:Int):=by rw [bG (n:=(is.length:Int) - (t.Dims.length:Int)) (by omega) (by omega),bG (by omega) (by omega)]; omega
   simp only [Z0c_L1,Z0c_J2,e]
   rw [if_pos (by simp; omega),if_pos (by omega),if_pos (by omega),cA (by unfold cJ; omega)]
   have tk:is.take (j+1)=is.take j++[ix is (j:Int)]:=by rw [List.take_succ_eq_append_getElem (by omega),bV (by omega)]
   by_cases c:ix t.Dims (j:Int)=1
   ·rw [if_pos (by simp [c]),if_pos (by simp; omega),tk,show ix is (j:Int)=0 by omega]
   ·rw [if_neg (by simp [c]),if_pos (by simp; omega),tk])
  (by simp only [Z0c_L1]; rw [if_neg (by simp),List.take_of_length_le (by omega)])
  (s:=([],0)) rfl
 rw [this]
 simp only [Option.bind_some,Z0c_J3]
 obtain ⟨x,g,_⟩:=nQ h a
 rw [g]
 exact ⟨x,rfl⟩
theorem AL {op:Int}{t u:Tensor}(e:TT t)(l:TT u)(h:t.Dims=u.Dims)(h1:1≤op)(h2:op≤3):∃ d,Z19 op t u=some ⟨t.Dims,d⟩∧TOk t.Dims d:=by
 have I:=kR e
 have J:=e.d.2.2
 unfold Z19
 rw [qe e,qe l]
 simp only [Option.bind_some,bT,Bool.not_true,Bool.not_false,cond_true]
 rw [if_neg (by simp; omega),← h,vJ e.d]
 simp only [Option.bind_some]
 rw [if_neg (by simp),ld e.d]
 simp only [Option.bind_some]
 obtain ⟨r,q,B⟩:=lj (f:=fun s:List Int×Int=>Z19_L1 op t u t.Dims ⟨t.Dims,List.replicate (pr t.Dims).toNat 0⟩ s.1 s.2) (Post:=fun r=>RG (pr t.Dims).toNat r) (pr t.Dims).toNat (pr t.Dims).toNat
  (fun j G x g=>by
   have i:=iz e.d.2.1 (j:Int)
   obtain ⟨a,E⟩:=nW e i
   obtain ⟨b,F⟩:=nW l (by rw [← h]; exact i)
   obtain ⟨m,g1,D⟩:=xU (op:=op) (x:=a) (y:=b) h1 h2
   simp only [Z19_L1]
   rw [if_pos (by simp; omega),jR e.d (by omega) (by omega)]
   simp only [Option.bind_some,E,F,g1]
   rw [if_pos (by simp; omega),cA (by unfold cJ; omega)]
   exact ⟨_,rfl,g.set D _⟩)
  (fun x g=>by simp only [Z19_L1]; rw [if_neg (by simp)]; exact ⟨x,rfl,g⟩) (RG.rep _)
 rw [q]
 exact ⟨r,rfl,iA e.d B⟩
theorem tT {ds:List Int}(i:ds.length<cJ):(eK ds→∃ d,Z0y ds 0=some ⟨ds,d⟩∧TOk ds d)∧(¬ eK ds→Z0y ds 0=some ⟨[],[]⟩):=by
 unfold Z0y
 rw [gY i]
 constructor
 ·intro h
  have u:=h.2.2
  simp only [h,decide_true,Option.bind_some,Bool.not_true,Bool.false_eq_true,if_false]
  rw [ld h]
  simp only [Option.bind_some]
  obtain ⟨m,l,a⟩:=k8 0
  obtain ⟨r,e,g⟩:=lj (f:=fun s:List Int×Int=>Z0y_L1 0 ⟨ds,List.replicate (pr ds).toNat 0⟩ s.1 s.2) (Post:=fun r=>RG (pr ds).toNat r) (pr ds).toNat (pr ds).toNat
   (fun j q x b=>by
    simp only [Z0y_L1]
    rw [if_pos (by simp; omega),l]
    simp only [Option.bind_some]
    rw [if_pos (by simp; omega),cA (by unfold cJ; omega)]
    exact ⟨_,rfl,b.set a _⟩)
   (fun x b=>by simp only [Z0y_L1]; rw [if_neg (by simp)]; exact ⟨x,rfl,b⟩) (RG.rep _)
  rw [e]
  exact ⟨r,rfl,iA h g⟩
 ·intro h
  simp [h]
theorem vK (ds ss:List Int)(a:Int):(nR ds ss a).length=(pr ds).toNat:=by simp [nR]
theorem oy {t:Tensor}{v:View}(g:TT t)(a:VG v.Dims v.Strides v.Offset v.Base)(L:v.Base=pr t.Dims):∃ d,Z02 t v=some ⟨v.Dims,d⟩∧TOk v.Dims d:=by
 have O:=kR g
 have T:=a.d.1
 have U:=a.d.2.2
 have I:=g.l
 unfold Z02
 rw [qe g,kP a]
 simp only [Option.bind_some,bT,Bool.not_true,Bool.not_false,cond_true]
 rw [if_neg (by simp; omega),gU (by omega),rj a.d a.l a.s (by have:=a.o; have:=a.b; omega)]
 simp only [Option.bind_some]
 have D:=vK v.Dims v.Strides v.Offset
 obtain ⟨r,E,F⟩:=hO (f:=fun s:List Int×Int=>Z02_L1 t (nR v.Dims v.Strides v.Offset) s.1 s.2) (fun j s=>s.2=(j:Int)∧RG j s.1) (pr v.Dims).toNat (Post:=fun r=>RG (pr v.Dims).toNat r)
  (fun j s M q=>by
   obtain ⟨x,i⟩:=s
   obtain ⟨e,m⟩:=q
   simp only at e
   subst e
   have J:0≤ix (nR v.Dims v.Strides v.Offset) (j:Int)∧ix (nR v.Dims v.Strides v.Offset) (j:Int)<v.Base:=by
    have:=bF (xs:=nR v.Dims v.Strides v.Offset) (k:=j) (by omega)
    obtain ⟨k,_,G⟩:=List.mem_map.1 this
    rw [← G]
    exact a.place (iz a.d.2.1 (k:Int))
   have u:=(pA g).ix J.1 (by have:=(pA g).1; omega)
   have B:x.length=j:=m.1
   simp only [Z02_L1]
   rw [if_pos (by simp; omega),if_pos (by omega),if_pos (by omega),if_pos (by simp; omega),cA (by unfold cJ; omega)]
   refine ⟨_,rfl,rfl,by simp [B],?_⟩
   intro y h
   rcases List.mem_append.1 h with h | h
   ·exact m.2 y h
   ·rw [List.mem_singleton.1 h]; exact u)
  (fun s q=>by
   obtain ⟨x,i⟩:=s
   obtain ⟨e,m⟩:=q
   simp only at e
   subst e
   simp only [Z02_L1]
   rw [if_neg (by simp; omega)]
   exact ⟨x,rfl,m⟩) (s:=([],0)) ⟨rfl,rfl,by simp⟩
 rw [E]
 exact ⟨r,rfl,iA a.d F⟩
theorem mH {t:Tensor}(a:TT t):Z02 t eD=some ⟨[],[]⟩:=by
 unfold Z02
 rw [qe a]
 simp only [Option.bind_some,bT,Bool.not_true,Bool.not_false,cond_true]
 rw [show Zb eD=some false from vw]
 simp
theorem rV {ds d:List Int}(h:eK ds)(D:d.length<cJ):Z0d (cC ds) d=some (if eK d∧pr d=pr ds then cC d else eD):=by
 have Y:=h.1
 have Z:=h.2.2
 have J:=h.2.pos
 have B:(cC ds).Dims=ds:=rfl
 have u:(cC ds).Base=pr ds:=rfl
 unfold Z0d
 rw [kP (jd h)]
 simp only [Option.bind_some,bT,Bool.not_true,Bool.not_false,cond_true,Bool.false_or,gY D]
 by_cases hd:eK d
 ·have G:=hd.1
  have I:=hd.2.pos
  simp only [hd,decide_true,Bool.not_true,Bool.not_false,cond_true,Bool.false_or,true_and,B,Option.bind_some]
  rw [jP D,if_pos hd.2,jP (by unfold cJ; omega),if_pos h.2]
  simp only [Option.bind_some]
  by_cases e:pr d=pr ds
  ·rw [if_neg (by simp [e]),if_pos e,rj (jd h).d (jd h).l (jd h).s ⟨Int.le_refl 0,by show (0:Int)≤4096; omega⟩,gU (by omega)]
   simp only [Option.bind_some]
   have b:nR (cC ds).Dims (cC ds).Strides (cC ds).Offset=(List.range (pr ds).toNat).map fun k:Nat=>(k:Int):=nS h.2
   obtain ⟨a,F⟩:∃ a,a=nR (cC ds).Dims (cC ds).Strides (cC ds).Offset:=⟨_,rfl⟩
   rw [← F] at b ⊢
   have T:a.length=(pr ds).toNat:=by rw [b]; simp
   have q:∀ i:Int,0≤i→i<pr ds→ix a i=i:=by
    intro i E h1
    obtain ⟨k,rfl⟩:=Int.eq_ofNat_of_zero_le E
    rw [bV (by omega)]
    simp [b]
   rw [if_pos (by omega)]
   have:=eR (f:=fun s:List Int×Int=>Z0d_L1 d a s.1 s.2) (r:=eU d) (fun j=>((eU d).take j,(j:Int))) d.length
    (fun j m=>by
     have L:=dO d
     have U:=hd.2.mem (bF m)
     have tk:(eU d).take (j+1)=(eU d).take j++[if ix d (j:Int)>1 then pr (d.drop (j+1)) else 0]:=by rw [List.take_succ_eq_append_getElem (by omega),← qa m,bV (by omega)]
     simp only [Z0d_L1,Z0d_J2]
     rw [if_pos (by simp; omega),if_pos (by omega)]
     by_cases c:ix d (j:Int)>1
     ·have q1:=(hd.2.drop (j+1)).pos
      have q2:pr (d.drop j)=ix d (j:Int)*pr (d.drop (j+1)):=by
       have:d.drop j=ix d (j:Int)::d.drop (j+1):=by rw [List.drop_eq_getElem_cons m,bV m]
       rw [this]; rfl
      have M:=hJ d j
      have O:=(hd.2.take j).pos
      have q5:pr (d.drop j)≤pr d:=by rw [M]; exact jO O (by have:=(hd.2.drop j).pos; omega)
      have q6:2*pr (d.drop (j+1))≤ix d (j:Int)*pr (d.drop (j+1)):=Int.mul_le_mul_of_nonneg_right (by omega) (by omega)
      rw [if_pos (by simpa using c),cA (by unfold cJ; omega),if_pos (by omega),iD,Int.toNat_natCast,jP (by simp [cJ]; omega),if_pos (hd.2.drop (j+1))]
      simp only [Option.bind_some]
      rw [if_pos (by omega),if_pos (by simp; omega),q _ (by omega) (by omega),q 0 (by omega) (by omega),tk,if_pos c,bG (by omega) (by omega),Int.sub_zero]
     ·rw [if_neg (by simpa using c),if_pos (by simp; omega),cA (by unfold cJ; omega),tk,if_neg c])
    (by simp only [Z0d_L1]; rw [if_neg (by simp),List.take_of_length_le (by rw [dO]; omega)])
    (s:=([],0)) rfl
   rw [this]
   simp only [Option.bind_some,Z0d_J3]
   have hw:(⟨d,eU d,ix a 0,(cC ds).Base⟩:View)=cC d:=by rw [q 0 (by omega) (by omega),u,← e]; rfl
   rw [hw,kP (jd hd)]
   simp only [Option.bind_some,bT,Bool.not_true,Bool.not_false,cond_true]
   rw [rj (jd hd).d (jd hd).l (jd hd).s ⟨Int.le_refl 0,by show (0:Int)≤4096; omega⟩]
   simp only [Option.bind_some]
   have g:nR (cC d).Dims (cC d).Strides (cC d).Offset=a:=by rw [b,← e]; exact nS hd.2
   rw [g,pZ (by unfold cJ; omega)]
   simp
  ·rw [if_pos (by simp [e]),if_neg e]
   rfl
 ·simp [hd,eD]
theorem nf {n:Node}{ds:List Int}(h:eK ds)(l:n.Dims.length<cJ):∃ ps,Z17 n ds=some (if eK n.Dims∧pr n.Dims=pr ds then (n.Dims,ps,true) else ([],[],false)):=by
 have u:=h.1
 have B:=h.2.2
 unfold Z17
 rw [iw l]
 by_cases hd:eK n.Dims
 ·simp only [hd,decide_true,Option.bind_some,bT,Bool.not_true,Bool.not_false,cond_true,Bool.false_or,true_and]
  rw [lU l hd.2,lU (by unfold cJ; omega) h.2]
  simp only [Option.bind_some]
  by_cases e:pr n.Dims=pr ds
  ·rw [if_neg (by simp [e])]
   obtain ⟨r,m,_⟩:=hO (f:=fun s:List pair×Int=>Z17_L1 (pr ds) s.1 s.2) (fun j s=>s.2=(j:Int)∧s.1.length=j) (pr ds).toNat (Post:=fun _=>True)
    (fun j s q b=>by
     obtain ⟨x,i⟩:=s
     obtain ⟨a,g⟩:=b
     simp only at a g
     subst a
     simp only [Z17_L1]
     rw [if_pos (by simp; omega),if_pos (by simp; omega),cA (by unfold cJ; omega)]
     exact ⟨_,rfl,rfl,by simp [g]⟩)
    (fun s b=>by
     obtain ⟨x,i⟩:=s
     obtain ⟨a,g⟩:=b
     simp only at a
     subst a
     have:=h.2.pos
     simp only [Z17_L1]
     rw [if_neg (by simp; omega)]
     exact ⟨x,rfl,trivial⟩) (s:=([],0)) ⟨rfl,rfl⟩
   rw [m]
   exact ⟨r,by rw [if_pos e]; rfl⟩
  ·rw [if_pos (by simp [e])]
   exact ⟨[],by rw [if_neg e]⟩
 ·simp [hd,bT]
end Go.Proofs.YthelanpdjajnbaaGreat
