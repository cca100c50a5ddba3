import Derived.Test.YthelanpdjajnbaaGreatBnF
import Derived.Test.YthelanpdjajnbaaGreatPL1
set_option linter.unusedVariables false
set_option linter.unusedSimpArgs false
namespace Go.Proofs.YthelanpdjajnbaaGreat
open Go Go.Pg
theorem j0 {a b:Int}(e:0≤a)(g:1≤b):a≤a*b:=by
 have:=Int.mul_le_mul_of_nonneg_left g e
 simpa using this
theorem jH {a b:Int}(e:1≤a)(g:0≤b):b≤a*b:=by rw [Int.mul_comm]; exact j0 g e
def pr:List Int→Int
 | []=>1
 | d::ds=>d*pr ds
def SZ (ds:List Int):Prop:=(∀ d∈ds,1≤d)∧pr ds≤4096
instance (ds:List Int):Decidable (SZ ds):=by unfold SZ; infer_instance
def eK (ds:List Int):Prop:=ds.length≤6∧SZ ds
instance (ds:List Int):Decidable (eK ds):=by unfold eK; infer_instance
theorem fU {ds:List Int}(h:∀ d∈ds,1≤d):1≤pr ds:=by
 induction ds with
 | nil=>exact Int.le_refl 1
 | cons d ds ih =>
  have h1:=h d (by simp)
  have h2:=ih fun x a=>h x (by simp [a])
  exact Int.le_trans h1 (j0 (by omega) h2)
theorem mU (a b:List Int):pr (a++b)=pr a*pr b:=by
 induction a with
 | nil=>simp [pr]
 | cons x a ih=>simp [pr,ih,Int.mul_assoc]
theorem gY (ds:List Int)(k:Nat):pr ds=pr (ds.take k)*pr (ds.drop k):=by
 rw [← mU,List.take_append_drop]
theorem SZ.take {ds:List Int}(h:SZ ds)(k:Nat):SZ (ds.take k):=by
 refine ⟨fun d a=>h.1 d (List.mem_of_mem_take a),?_⟩
 have h1:=h.2
 rw [gY ds k] at h1
 have h2:1≤pr (ds.drop k):=fU fun d a=>h.1 d (List.mem_of_mem_drop a)
 have b:1≤pr (ds.take k):=fU fun d a=>h.1 d (List.mem_of_mem_take a)
 exact Int.le_trans (j0 (by omega) h2) h1
theorem SZ.drop {ds:List Int}(h:SZ ds)(k:Nat):SZ (ds.drop k):=by
 refine ⟨fun d a=>h.1 d (List.mem_of_mem_drop a),?_⟩
 have h1:=h.2
 rw [gY ds k] at h1
 have h2:1≤pr (ds.drop k):=fU fun d a=>h.1 d (List.mem_of_mem_drop a)
 have b:1≤pr (ds.take k):=fU fun d a=>h.1 d (List.mem_of_mem_take a)
 exact Int.le_trans (jH b (by omega)) h1
theorem SZ.tail {d:Int}{ds:List Int}(h:SZ (d::ds)):SZ ds:=h.drop 1
theorem SZ.pos {ds:List Int}(h:SZ ds):1≤pr ds:=fU h.1
theorem SZ.mem {ds:List Int}(h:SZ ds){d:Int}(e:d∈ds):1≤d∧d≤4096:=by
 refine ⟨h.1 d e,?_⟩
 obtain ⟨a,b,rfl⟩:=List.append_of_mem e
 have h2:=h.2
 rw [mU] at h2
 have j:1≤pr a:=fU fun x g=>h.1 x (by simp [g])
 have l:1≤pr b:=fU fun x g=>h.1 x (by simp [g])
 have m:=h.1 d e
 have i:d≤pr (d::b):=j0 (by omega) l
 exact Int.le_trans (Int.le_trans i (jH j (by omega))) h2
theorem tj {R:Type}(h:R)(i:Int→R)(ds:List Int)(k:Nat)(n:Int)(q:1≤n)(h1:n≤4096) :
  qQ (fun (s:Int) (_:Nat) (x:Int)=>if (decide (x<1)||decide (x>4096))=true then .inr h else if decide (s*x>4096)=true then .inr h else .inl (s*x)) i ds k n
   = if (∀ d∈ds,1≤d)∧n*pr ds≤4096 then i (n*pr ds) else h:=by
 induction ds generalizing n k with
 | nil=>simp [qQ,pr,h1]
 | cons d ds ih =>
  unfold qQ
  by_cases c1:d<1
  ·have l:¬ ((∀ x∈d::ds,1≤x)∧n*pr (d::ds)≤4096):=fun ⟨a,_⟩=>by have:=a d (by simp); omega
   rw [if_neg l]
   simp [c1]
  ·have cI:d>4096∨n*d>4096→¬ ((∀ x∈d::ds,1≤x)∧n*pr (d::ds)≤4096):=by
    rintro j ⟨a,b⟩
    have r:1≤pr ds:=fU fun x m=>a x (by simp [m])
    have e:n*pr (d::ds)=n*d*pr ds:=by simp [pr,Int.mul_assoc]
    rw [e] at b
    have h2:d≤n*d:=jH q (by omega)
    have u:n*d≤n*d*pr ds:=j0 (by omega) r
    rcases j with j | j<;>omega
   by_cases c2:d>4096
   ·rw [if_neg (cI (.inl c2))]; simp [c2]
   ·by_cases c3:n*d>4096
    ·rw [if_neg (cI (.inr c3))]; simp [c1,c2,c3]
    ·have B:d≤n*d:=jH q (by omega)
     simp only [c1,c2,c3,decide_false,Bool.or_self,Bool.false_eq_true,if_false]
     rw [ih (k+1) (n*d) (by omega) (by omega)]
     have e:n*pr (d::ds)=n*d*pr ds:=by simp [pr,Int.mul_assoc]
     by_cases g:(∀ x∈ds,1≤x)∧n*d*pr ds≤4096
     ·rw [if_pos g,if_pos ⟨List.forall_mem_cons.2 ⟨by omega,g.1⟩,by rw [e]; exact g.2⟩,e]
     ·rw [if_neg g,if_neg fun a=>g ⟨fun x m=>a.1 x (by simp [m]),by rw [← e]; exact a.2⟩]
theorem va {R:Type}(a:Int→R)(ds:List Int)(k:Nat)(n:Int):qQ (fun (s:Int) (_:Nat) (x:Int)=>.inl (s*x)) a ds k n=a (n*pr ds):=by
 induction ds generalizing n k with
 | nil=>simp [qQ,pr]
 | cons d ds ih =>
  unfold qQ
  simp only
  rw [ih]
  simp [pr,Int.mul_assoc]
theorem iR {a b:Int}(e:0≤a)(h1:a≤65536)(h2:0≤b)(g:b≤65536):aK (a*b)=a*b:=by
 have h:a*b≤65536*65536:=Int.mul_le_mul h1 g h2 (by omega)
 have i:0≤a*b:=Int.mul_nonneg e h2
 exact bD (by omega) (by omega)
theorem jI {ds:List Int}(q:ds.length<cI):Zt ds=some (if SZ ds then pr ds else 0):=by
 have:=jz (S:=Int) ds (fun _ n=>1≤n∧n≤4096) (fun s:Int×Int=>Zt_L1 ds s.1 s.2) (fun n i=>(n,i)) (fun (s:Int) (_:Nat) (x:Int)=>if (decide (x<1)||decide (x>4096))=true then .inr (.inl (0:Int)) else if decide (s*x>4096)=true then .inr (.inl 0) else .inl (s*x)) (fun n=>.inr n)
  (fun n k l m=>by
   simp only [Zt_L1]
   rw [if_pos (by simp; omega),if_pos (by omega)]
   split
   ·rfl
   ·rename_i h
    simp only [Bool.or_eq_true,decide_eq_true_eq,not_or] at h
    rw [iR (by omega) (by omega) (by omega) (by omega),cH (by omega)]
    split<;>rfl)
  (fun n k s l m j=>by
   split at j
   ·cases j
   ·rename_i h
    simp only [Bool.or_eq_true,decide_eq_true_eq,not_or] at h
    split at j
    ·cases j
    ·rename_i h2
     simp only [decide_eq_true_eq] at h2
     cases j
     have:=jH (a:=n) (b:=ix ds (k:Int)) l.1 (by omega)
     omega)
  (fun n _=>by simp only [Zt_L1]; rw [if_neg (by simp)]) 1 ⟨by omega,by omega⟩
 unfold Zt
 rw [this,tj _ _ _ _ _ (by omega) (by omega)]
 simp only [Int.one_mul,Option.bind_some]
 have e:SZ ds↔(∀ d∈ds,1≤d)∧pr ds≤4096:=Iff.rfl
 by_cases h:SZ ds
 ·rw [if_pos (e.1 h),if_pos h]; rfl
 ·rw [if_neg (fun g=>h (e.2 g)),if_neg h]
theorem gO {ds:List Int}(a:ds.length<cI):Zo ds=some (decide (eK ds)):=by
 unfold Zo
 by_cases h:ds.length≤6
 ·have e:decide ((ds.length:Int)≤6)=true:=by simp; omega
  rw [e]
  simp only [bR,jI a,cond_true,Option.bind_some,Bool.true_and]
  congr 1
  by_cases g:SZ ds
  ·have:=g.pos; simp [g,eK,h]; omega
  ·simp [g,eK]
 ·have e:decide ((ds.length:Int)≤6)=false:=by simp; omega
  rw [e]
  simp [bR,eK,h]
theorem hN {ds:List Int}(q:ds.length<cI):Zd ds=some (decide (eK ds)):=by
 have:=jz (S:=Int) ds (fun _ n=>1≤n∧n≤4096) (fun s:Int×Int=>Zd_L1 ds s.1 s.2) (fun n i=>(n,i)) (fun (s:Int) (_:Nat) (x:Int)=>if (decide (x<1)||decide (x>4096))=true then .inr (.inl false) else if decide (s*x>4096)=true then .inr (.inl false) else .inl (s*x)) (fun n=>.inr ())
  (fun n k l m=>by
   simp only [Zd_L1]
   rw [if_pos (by simp; omega),if_pos (by omega)]
   split
   ·rfl
   ·rename_i h
    simp only [Bool.or_eq_true,decide_eq_true_eq,not_or] at h
    rw [iR (by omega) (by omega) (by omega) (by omega),cH (by omega)]
    split<;>rfl)
  (fun n k s l m j=>by
   split at j
   ·cases j
   ·rename_i h
    simp only [Bool.or_eq_true,decide_eq_true_eq,not_or] at h
    split at j
    ·cases j
    ·rename_i h2
     simp only [decide_eq_true_eq] at h2
     cases j
     have:=jH (a:=n) (b:=ix ds (k:Int)) l.1 (by omega)
     omega)
  (fun n _=>by simp only [Zd_L1]; rw [if_neg (by simp)]) 1 ⟨by omega,by omega⟩
 unfold Zd
 rw [this,tj _ _ _ _ _ (by omega) (by omega)]
 simp only [Int.one_mul,Option.bind_some]
 have e:SZ ds↔(∀ d∈ds,1≤d)∧pr ds≤4096:=Iff.rfl
 by_cases h:SZ ds
 ·rw [if_pos (e.1 h)]
  simp only [Zd_J1]
  congr 1
  simp [eK,h]; omega
 ·rw [if_neg (fun g=>h (e.2 g))]
  simp [eK,h]
theorem lA {ds:List Int}(j:ds.length<cI)(h:SZ ds):Zn ds=some (pr ds):=by
 have:=jz (S:=Int) ds (fun k n=>n=pr (ds.take k)) (fun s:Int×Int=>Zn_L1 ds s.1 s.2) (fun n i=>(n,i)) (fun (s:Int) (_:Nat) (x:Int)=>.inl (s*x)) (fun n=>n)
  (fun n k b a=>by
   simp only [Zn_L1]
   have h1:=(h.take k)
   have h2:=h1.pos
   have g:=h.mem (bH a)
   rw [if_pos (by simp; omega),if_pos (by omega),iR (by omega) (by have:=h1.2; omega) (by omega) (by omega),cH (by omega)])
  (fun n k s b a e=>by
   simp only [Sum.inl.injEq] at e
   rw [← e,b,List.take_succ_eq_append_getElem a,mU,cD a]
   simp [pr])
  (fun n _=>by simp only [Zn_L1]; rw [if_neg (by simp)]) 1 rfl
 unfold Zn
 rw [this,va]
 simp [Zn_J1]
def hO:List Int→Int→List Int
 | [],_=>[]
 | d::ds,k=>(k / pr ds) % d::hO ds k
def ml:List Int→List Int→Int
 | d::ds,i::is=>i*pr ds+ml ds is
 | _,_=>0
def IV:List Int→List Int→Prop
 | [],[]=>True
 | d::ds,i::is=>(0≤i∧i<d)∧IV ds is
 | _,_=>False
theorem jK (ds:List Int)(k:Int):(hO ds k).length=ds.length:=by
 induction ds with
 | nil=>rfl
 | cons d ds ih=>simp [hO,ih]
theorem IV.len {ds is:List Int}(h:IV ds is):is.length=ds.length:=by
 induction ds generalizing is with
 | nil=>cases is with
  | nil=>rfl
  | cons=>exact h.elim
 | cons d ds ih=>cases is with
  | nil=>exact h.elim
  | cons i is=>simp [ih h.2]
theorem hR {ds:List Int}(h:∀ d∈ds,1≤d)(k:Int):IV ds (hO ds k):=by
 induction ds with
 | nil=>trivial
 | cons d ds ih =>
  have b:=h d (by simp)
  exact ⟨⟨Int.emod_nonneg _ (by omega),Int.emod_lt_of_pos _ (by omega)⟩,ih fun x a=>h x (by simp [a])⟩
theorem mV {ds is:List Int}(h:∀ d∈ds,1≤d)(e:IV ds is):0≤ml ds is∧ml ds is<pr ds:=by
 induction ds generalizing is with
 | nil=>cases is with
  | nil=>exact ⟨Int.le_refl 0,by decide⟩
  | cons=>exact e.elim
 | cons d ds ih=>cases is with
  | nil=>exact e.elim
  | cons i is =>
   obtain ⟨a,b⟩:=ih (fun x g=>h x (by simp [g])) e.2
   have l:1≤pr ds:=fU fun x g=>h x (by simp [g])
   have j:=Int.mul_nonneg e.1.1 (show 0≤pr ds by omega)
   have h1:(i+1)*pr ds≤d*pr ds:=Int.mul_le_mul_of_nonneg_right (by have:=e.1.2; omega) (by omega)
   rw [Int.add_mul] at h1
   show 0≤i*pr ds+ml ds is∧i*pr ds+ml ds is<d*pr ds
   omega
theorem tl {k p d:Int}(r:1≤p)(m:1≤d):k / (d*p)=k / p / d∧k % (d*p)=k / p % d*p+k % p:=by
 have a:=Int.emod_nonneg k (show p≠0 by omega)
 have b:=Int.emod_lt_of_pos k (show 0<p by omega)
 have c:=Int.emod_nonneg (k / p) (show d≠0 by omega)
 have e:=Int.emod_lt_of_pos (k / p) (show 0<d by omega)
 have h1:=Int.mul_nonneg c (show 0≤p by omega)
 have h2:(k / p % d+1)*p≤d*p:=Int.mul_le_mul_of_nonneg_right (by omega) (by omega)
 rw [Int.add_mul] at h2
 have i:0<d*p:=Int.mul_pos (by omega) (by omega)
 refine (Int.ediv_emod_unique (q:=k / p / d) i).2 ⟨?_,by omega,by omega⟩
 have j:=Int.mul_ediv_add_emod k p
 have g:=Int.mul_ediv_add_emod (k / p) d
 have h:d*p*(k / p / d)=p*(d*(k / p / d)):=by rw [Int.mul_comm d p,Int.mul_assoc]
 have l:p*(k / p)=p*(d*(k / p / d))+p*(k / p % d):=by rw [← Int.mul_add,g]
 rw [h,Int.mul_comm (k / p % d) p]
 omega
theorem vc {ds:List Int}(h:∀ d∈ds,1≤d)(k:Int):ml ds (hO ds k)=k % pr ds:=by
 induction ds generalizing k with
 | nil=>simp [ml,pr,Int.emod_one]
 | cons d ds ih =>
  have e:1≤pr ds:=fU fun x a=>h x (by simp [a])
  have b:=h d (by simp)
  show k / pr ds % d*pr ds+ml ds (hO ds k)=k % (d*pr ds)
  rw [ih fun x a=>h x (by simp [a])]
  exact (tl e b).2.symm
theorem rG {ds:List Int}(h:∀ d∈ds,1≤d){k:Int}(a:0≤k)(h1:k<pr ds):ml ds (hO ds k)=k:=by
 rw [vc h,Int.emod_eq_of_lt a h1]
theorem fD {S R:Type}{f:S→Option (S⊕R)}(st:Nat→S)(n:Nat){r:R}(h:∀ j,j<n→f (st j)=some (.inl (st (j+1))))(e:f (st n)=some (.inr r)){s:S}(b:s=st 0):aW f s=some r:=by
 have a:∀ m j,j+m=n→aW f (st j)=some r:=by
  intro m
  induction m with
  | zero=>intro j g; rw [show j=n by omega]; exact dE e
  | succ m ih=>intro j g; rw [eM (h j (by omega))]; exact ih (j+1) (by omega)
 rw [b]
 exact a n 0 (by omega)
theorem iK {S R:Type}{f:S→Option (S⊕R)}(I:Nat→S→Prop)(n:Nat){Post:R→Prop}(i:∀ j s,j<n→I j s→∃ s',f s=some (.inl s')∧I (j+1) s')(g:∀ s,I n s→∃ r,f s=some (.inr r)∧Post r){s:S}(e:I 0 s):∃ r,aW f s=some r∧Post r:=by
 have b:∀ m j s,j+m=n→I j s→∃ r,aW f s=some r∧Post r:=by
  intro m
  induction m with
  | zero =>
   intro j s h a
   rw [show j=n by omega] at a
   obtain ⟨r,h1,h2⟩:=g s a
   exact ⟨r,dE h1,h2⟩
  | succ m ih =>
   intro j s h a
   obtain ⟨s',h1,h2⟩:=i j s (by omega) a
   rw [eM h1]
   exact ih (j+1) s' (by omega) h2
 exact b n 0 s (by omega) e
structure TOk (dims data:List Int):Prop where
 d:eK dims
 l:(data.length:Int)=pr dims
 x:∀ x∈data,0≤x∧x<2147483647
instance (dims data:List Int):Decidable (TOk dims data):=decidable_of_iff (eK dims∧(data.length:Int)=pr dims∧∀ x∈data,0≤x∧x<2147483647) ⟨fun h=>⟨h.1,h.2.1,h.2.2⟩,fun h=>⟨h.d,h.l,h.x⟩⟩
theorem oX (xs:List Int):(xs.all fun x=>!(decide (x<0)||decide (x≥2147483647)))=decide (∀ x∈xs,0≤x∧x<2147483647):=by
 rw [Bool.eq_iff_iff]
 simp only [List.all_eq_true,decide_eq_true_eq,Bool.not_eq_true',Bool.or_eq_false_iff,decide_eq_false_iff_not]
 exact ⟨fun h x a=>by have:=h x a; omega,fun h x a=>by have:=h x a; omega⟩
theorem pL {t:Tensor}(a:t.Dims.length<cI)(b:t.Data.length<cI):Zi t=some (decide (TOk t.Dims t.Data)):=by
 unfold Zi
 rw [gO a]
 by_cases h:eK t.Dims
 ·simp only [h,decide_true,Option.bind_some,bR,Bool.not_true,Bool.not_false,cond_true,Bool.false_or,jI a,h.2,if_true]
  by_cases e:(t.Data.length:Int)=pr t.Dims
  ·rw [if_neg (by simp [e])]
   have:=eW t.Data (fun s:Int=>Zi_L1 t s) (fun i=>i) (fun x=>!(decide (x<0)||decide (x≥2147483647))) (.inl false) (.inr ())
    (fun k j=>by
     simp only [Zi_L1]
     rw [if_pos (by simp; omega),if_pos (by omega),cH (by omega)]
     cases (decide (ix t.Data (k:Int)<0)||decide (ix t.Data (k:Int)≥2147483647))<;>rfl)
    (by simp only [Zi_L1]; rw [if_neg (by simp)])
   rw [this,oX]
   by_cases g:∀ x∈t.Data,0≤x∧x<2147483647
   ·have:TOk t.Dims t.Data:=⟨h,e,g⟩
    simp only [decide_eq_true g,decide_eq_true this,if_true,Option.bind_some,Zi_J1]
   ·have:¬ TOk t.Dims t.Data:=fun q=>g q.x
    simp only [decide_eq_false g,decide_eq_false this,Bool.false_eq_true,if_false,Option.bind_some]
  ·rw [if_pos (by simp [e])]
   have:¬ TOk t.Dims t.Data:=fun q=>e q.l
   simp [this]
 ·have:¬ TOk t.Dims t.Data:=fun q=>h q.d
  simp [h,this,bR]
theorem tm {t:Tensor}(a:t.Dims.length<cI)(j:t.Data.length<cI):Z1y t=some (decide (TOk t.Dims t.Data)):=by
 unfold Z1y
 rw [hN a]
 by_cases h:eK t.Dims
 ·simp only [h,decide_true,Option.bind_some,bR,cond_true,Bool.true_and,lA a h.2]
  by_cases e:(t.Data.length:Int)=pr t.Dims
  ·have:=eW t.Data (fun s:Int=>Z13_L1 t.Data s) (fun i=>i) (fun x=>!(decide (x<0)||decide (x≥2147483647))) (.inl false) (.inr ())
    (fun k m=>by
     simp only [Z13_L1,Z38,Option.bind_some]
     rw [if_pos (by simp; omega),if_pos (by omega),cH (by omega)]
     by_cases c1:ix t.Data (k:Int)<0
     ·have:¬ ix t.Data (k:Int)≥0:=by omega
      simp [c1,this]
     ·have h1:ix t.Data (k:Int)≥0:=by omega
      by_cases c2:ix t.Data (k:Int)<2147483647
      ·have h2:¬ ix t.Data (k:Int)≥2147483647:=by omega
       simp [c1,h1,c2,h2]
      ·have h2:ix t.Data (k:Int)≥2147483647:=by omega
       simp [c1,h1,c2,h2])
    (by simp only [Z13_L1]; rw [if_neg (by simp)])
   simp only [e,beq_self_eq_true,cond_true,Z13,this,oX]
   by_cases g:∀ x∈t.Data,0≤x∧x<2147483647
   ·have:TOk t.Dims t.Data:=⟨h,e,g⟩
    simp only [decide_eq_true g,decide_eq_true this,if_true,Option.bind_some,Z13_J1,Bool.and_self]
   ·have:¬ TOk t.Dims t.Data:=fun q=>g q.x
    simp only [decide_eq_false g,decide_eq_false this,Bool.false_eq_true,if_false,Option.bind_some,Bool.and_false]
  ·have:¬ TOk t.Dims t.Data:=fun q=>e q.l
   have b:((t.Data.length:Int)==pr t.Dims)=false:=by simp [e]
   simp [this,b]
 ·have:¬ TOk t.Dims t.Data:=fun q=>h q.d
  simp [h,this,bR]
theorem fL {xs:List Int}(h:xs.length≤17592186044416):Z9 xs=some xs:=by
 unfold Z9
 rw [if_pos (by simpa using h)]
 simp
theorem eX {xs:List Int}(h:xs.length≤17592186044416):Z8 xs=some xs:=by
 unfold Z8; rw [if_pos h]
theorem qR (a b:List Int)(h:a.length=b.length):(List.range a.length).all (fun k=>!(ix a (k:Int) != ix b (k:Int)))=decide (a=b):=by
 rw [Bool.eq_iff_iff]
 simp only [List.all_eq_true,List.mem_range,decide_eq_true_eq,bne,Bool.not_not,beq_iff_eq]
 constructor
 ·intro q
  apply List.ext_getElem h
  intro i h1 h2
  have:=q i h1
  rwa [cD h1,cD h2] at this
 ·rintro rfl k _; rfl
theorem pM {a b:List Int}(g:a.length<cI):Zv a b=some (decide (a=b)):=by
 unfold Zv
 by_cases h:a.length=b.length
 ·rw [if_neg (by simp [h])]
  have:=jA a.length (fun s:Int=>Zv_L1 a b s) (fun i=>i) (fun k=>!(ix a (k:Int) != ix b (k:Int))) (.inl false) (.inr ())
   (fun k j=>by
    simp only [Zv_L1]
    rw [if_pos (by simp; omega),if_pos (by omega),if_pos (by omega),cH (by omega)]
    cases (ix a (k:Int) != ix b (k:Int))<;>rfl)
   (by simp only [Zv_L1]; rw [if_neg (by simp)])
  rw [this,qR a b h]
  by_cases e:a=b<;>simp [e,Zv_J1]
 ·rw [if_pos (by simp; omega)]
  have:a≠b:=fun e=>h (by rw [e])
  simp [this]
theorem qT {a b:List Int}(g:a.length<cI):Z0o a b=some (decide (a=b)):=by
 unfold Z0o
 by_cases h:a.length=b.length
 ·rw [if_neg (by simp [h])]
  have:=jA a.length (fun s:Int=>Z0o_L1 a b s) (fun i=>i) (fun k=>!(ix a (k:Int) != ix b (k:Int))) (.inl false) (.inr ())
   (fun k j=>by
    simp only [Z0o_L1]
    rw [if_pos (by simp; omega),if_pos (by omega),if_pos (by omega),cH (by omega)]
    cases (ix a (k:Int) != ix b (k:Int))<;>rfl)
   (by simp only [Z0o_L1]; rw [if_neg (by simp)])
  rw [this,qR a b h]
  by_cases e:a=b<;>simp [e,Z0o_J1]
 ·rw [if_pos (by simp; omega)]
  have:a≠b:=fun e=>h (by rw [e])
  simp [this]
theorem l2 {ds:List Int}(h:eK ds):Z0g ds=some ⟨ds,List.replicate (pr ds).toNat 0⟩:=by
 have h1:=h.1
 have h2:=h.2.pos
 have a:=h.2.2
 unfold Z0g
 rw [fL (by omega)]
 simp only [Option.bind_some,jI (ds:=ds) (by unfold cI; omega),h.2,if_true]
 rw [if_pos (by omega)]
theorem jL {ds:List Int}{k:Int}(h:eK ds)(b:0≤k)(h1:k≤65536):Zj ds k=some (hO ds k):=by
 have L:=h.1
 unfold Zj
 rw [if_pos (by omega)]
 have:=fD (f:=fun s:Int×List Int×Int=>Zj_L1 ds s.1 s.2.1 s.2.2) (r:=hO ds k)
  (fun j=>(k / pr (ds.drop (ds.length - j)),List.replicate (ds.length - j) 0++hO (ds.drop (ds.length - j)) k,(ds.length:Int) - 1 - j)) ds.length
  (fun j J=>by
   obtain ⟨i,B⟩:∃ i,i=ds.length - (j+1):=⟨_,rfl⟩
   have l:ds.length - j=i+1:=by omega
   have m:(ds.length:Int) - 1 - (j:Int)=(i:Int):=by omega
   have a:i<ds.length:=by omega
   have D:=h.2.mem (bH a)
   have E:=(h.2.drop (i+1)).pos
   have e:ds.drop i=ix ds (i:Int)::ds.drop (i+1):=by rw [List.drop_eq_getElem_cons a,cD a]
   have g:0≤k / pr (ds.drop (i+1)):=Int.ediv_nonneg b (by omega)
   have F:k / pr (ds.drop (i+1))≤65536:=Int.le_trans (Int.ediv_le_self _ b) h1
   simp only [Zj_L1,l,m,← B]
   rw [if_pos (by simp),if_pos (by omega),if_pos (by omega),if_pos (by simp; omega)]
   have q:(k / pr (ds.drop (i+1))).tdiv (ix ds (i:Int))=k / pr (ds.drop i):=by
    rw [Int.tdiv_eq_ediv_of_nonneg g,e]; exact (tl E D.1).1.symm
   have u:(k / pr (ds.drop (i+1))).tmod (ix ds (i:Int))=k / pr (ds.drop (i+1)) % ix ds (i:Int):=Int.tmod_eq_emod_of_nonneg g
   have G:0≤k / pr (ds.drop i):=Int.ediv_nonneg b (by have:=(h.2.drop i).pos; omega)
   have I:k / pr (ds.drop i)≤65536:=Int.le_trans (Int.ediv_le_self _ b) h1
   rw [q,u,bD (by omega) (by omega),bD (by omega) (by omega)]
   congr 4
   ·rw [e,List.set_append_left _ _ (by simp),List.replicate_succ',List.set_append_right _ _ (by simp)]
    simp [hO]
   ·omega)
  (by
   simp only [Zj_L1,Nat.sub_self,List.drop_zero,List.replicate_zero,List.nil_append]
   rw [if_neg (by simp; omega)])
  (s:=(k,List.replicate (ds.length:Int).toNat 0,aK ((ds.length:Int) - 1))) (by
   rw [bD (by omega) (by omega)]
   simp [pr,hO])
 rw [this]
 rfl
theorem oY {ds is:List Int}(g:IV ds is){k:Nat}(h:k<ds.length):IV (ds.take k) (is.take k)∧ml (ds.take (k+1)) (is.take (k+1))=ml (ds.take k) (is.take k)*ix ds (k:Int)+ix is (k:Int):=by
 induction ds generalizing is k with
 | nil=>simp at h
 | cons d ds ih=>cases is with
  | nil=>exact g.elim
  | cons i is =>
   cases k with
   | zero=>simp [IV,ml,pr,ix]
   | succ k =>
    obtain ⟨a,b⟩:=ih g.2 (k:=k) (by simpa using h)
    refine ⟨⟨g.1,a⟩,?_⟩
    have e:k<ds.length:=by simpa using h
    have j:ix (d::ds) ((k+1:Nat):Int)=ix ds (k:Int):=by simp [ix]
    have l:ix (i::is) ((k+1:Nat):Int)=ix is (k:Int):=by simp [ix]
    rw [j,l]
    have m:pr (ds.take (k+1))=pr (ds.take k)*ix ds (k:Int):=by rw [List.take_succ_eq_append_getElem e,mU,cD e]; simp [pr]
    show i*pr (ds.take (k+1))+ml (ds.take (k+1)) (is.take (k+1))=(i*pr (ds.take k)+ml (ds.take k) (is.take k))*ix ds (k:Int)+ix is (k:Int)
    rw [b,m,Int.add_mul,Int.mul_assoc,Int.add_assoc]
theorem nS {ds is:List Int}(h:eK ds)(g:IV ds is):Z0n ds is=some (ml ds is):=by
 have D:=h.1
 have q:=g.len
 unfold Z0n
 have:=fD (f:=fun s:Int×Int=>Z0n_L1 ds is s.1 s.2) (r:=ml ds is) (fun j=>(ml (ds.take j) (is.take j),(j:Int))) ds.length
  (fun j l=>by
   obtain ⟨a,b⟩:=oY g l
   have B:=mV (fun d i=>h.2.1 d (List.mem_of_mem_take i)) a
   have F:=(h.2.take j).2
   have m:=mV (fun d i=>h.2.1 d (List.mem_of_mem_take i)) (ds:=ds.take (j+1)) (is:=is.take (j+1)) (by
    by_cases e:j+1<ds.length
    ·exact (oY g e).1
    ·rw [List.take_of_length_le (by omega),List.take_of_length_le (by omega)]; exact g)
   have u:=(h.2.take (j+1)).2
   have E:=h.2.mem (bH l)
   simp only [Z0n_L1]
   rw [if_pos (by simp; omega),if_pos (by omega),if_pos (by omega),iR (by omega) (by omega) (by omega) (by omega),← b,bD (by omega) (by omega),cH (by unfold cI; omega)])
  (by simp only [Z0n_L1]; rw [if_neg (by simp),List.take_length,List.take_of_length_le (by omega)])
  (s:=(0,0)) (by simp [ml])
 rw [this]
 rfl
theorem nt {t:Tensor}{is:List Int}(h:TOk t.Dims t.Data)(a:IV t.Dims is):∃ x,Z16 t is=some x∧x∈t.Data:=by
 have b:=mV h.d.2.1 a
 have g:=h.l
 unfold Z16
 rw [nS h.d a]
 simp only [Option.bind_some]
 rw [if_pos (by omega)]
 refine ⟨_,rfl,?_⟩
 have e:(((ml t.Dims is).toNat:Nat):Int)=ml t.Dims is:=by omega
 rw [← e]
 exact bH (by omega)
theorem tn {t:Tensor}{is:List Int}{x:Int}(h:eK t.Dims)(e:(t.Data.length:Int)=pr t.Dims)(a:IV t.Dims is):Z1x t is x=some (t.Data.set (ml t.Dims is).toNat x):=by
 have b:=mV h.2.1 a
 unfold Z1x
 rw [nS h a]
 simp only [Option.bind_some]
 rw [if_pos (by omega)]
def zs (f:Int→Int→Int):List Int→List Int→Int
 | a::xs,b::ys=>f a b+zs f xs ys
 | _,_=>0
theorem l4 (f:Int→Int→Int){xs ys:List Int}{j:Nat}(e:j<xs.length)(g:j<ys.length):zs f (xs.take (j+1)) (ys.take (j+1))=zs f (xs.take j) (ys.take j)+f (ix xs (j:Int)) (ix ys (j:Int)):=by
 induction xs generalizing ys j with
 | nil=>simp at e
 | cons a xs ih=>cases ys with
  | nil=>simp at g
  | cons b ys =>
   cases j with
   | zero=>simp [zs,ix]
   | succ j =>
    have h:ix (a::xs) ((j+1:Nat):Int)=ix xs (j:Int):=by simp [ix]
    have i:ix (b::ys) ((j+1:Nat):Int)=ix ys (j:Int):=by simp [ix]
    have:=ih (ys:=ys) (j:=j) (by simpa using e) (by simpa using g)
    rw [h,i]
    simp only [List.take_succ_cons,zs] at this ⊢
    omega
theorem wA (f:Int→Int→Int){xs ys:List Int}{M:Int}(g:xs.length=ys.length)(a:∀ j:Nat,j<xs.length → -M≤f (ix xs (j:Int)) (ix ys (j:Int))∧f (ix xs (j:Int)) (ix ys (j:Int))≤M){j:Nat}(b:j≤xs.length) :
  -(j*M)≤zs f (xs.take j) (ys.take j)∧zs f (xs.take j) (ys.take j)≤j*M:=by
 induction j with
 | zero=>simp [zs]
 | succ j ih =>
  have h1:=ih (by omega)
  have h2:=a j (by omega)
  rw [l4 f (by omega) (by omega)]
  have e:((j+1:Nat):Int)*M=(j:Int)*M+M:=by rw [show ((j+1:Nat):Int)=(j:Int)+1 by omega,Int.add_mul]; omega
  rw [e]
  omega
def lw (d s:Int):Int:=if s*(d - 1)<0 then s*(d - 1) else 0
def hw (d s:Int):Int:=if s*(d - 1)>0 then s*(d - 1) else 0
theorem xt {ds is ss:List Int}(e:IV ds is)(h:ss.length=ds.length):zs lw ds ss≤zs (·*·) is ss∧zs (·*·) is ss≤zs hw ds ss:=by
 induction ds generalizing is ss with
 | nil=>cases is with
  | nil=>simp [zs]
  | cons=>exact e.elim
 | cons d ds ih=>cases is with
  | nil=>exact e.elim
  | cons i is=>cases ss with
   | nil=>simp at h
   | cons s ss =>
    obtain ⟨a,b⟩:=ih e.2 (ss:=ss) (by simpa using h)
    have h1:0≤i∧i≤d - 1:=⟨e.1.1,by have:=e.1.2; omega⟩
    have j:lw d s≤i*s∧i*s≤hw d s:=by
     unfold lw hw
     rw [Int.mul_comm i s]
     rcases Int.le_total 0 s with g | g
     ·have l:0≤s*i:=Int.mul_nonneg g h1.1
      have m:s*i≤s*(d - 1):=Int.mul_le_mul_of_nonneg_left h1.2 g
      split<;>split<;>omega
     ·have l:s*i≤0:=Int.mul_nonpos_of_nonpos_of_nonneg g h1.1
      have m:s*(d - 1)≤s*i:=Int.mul_le_mul_of_nonpos_left g h1.2
      split<;>split<;>omega
    simp only [zs]
    omega
structure VG (dims ss:List Int)(off base:Int):Prop where
 d:eK dims
 l:ss.length=dims.length
 b:1≤base∧base≤4096
 o:0≤off∧off<base
 s:∀ s∈ss,-4096≤s∧s≤4096
 lo:0≤off+zs lw dims ss
 hi:off+zs hw dims ss<base
theorem VG.place {a ss:List Int}{b base:Int}(h:VG a ss b base){is:List Int}(e:IV a is):0≤b+zs (·*·) is ss∧b+zs (·*·) is ss<base:=by
 have h1:=xt e h.l
 have h2:=h.lo
 have g:=h.hi
 omega
theorem IV.mem {ds is:List Int}(h:IV ds is){j:Nat}(a:j<is.length):0≤ix is (j:Int)∧ix is (j:Int)<ix ds (j:Int):=by
 induction ds generalizing is j with
 | nil=>cases is with
  | nil=>simp at a
  | cons=>exact h.elim
 | cons d ds ih=>cases is with
  | nil=>exact h.elim
  | cons i is=>cases j with
   | zero=>exact h.1
   | succ j =>
    have b:ix (i::is) ((j+1:Nat):Int)=ix is (j:Int):=by simp [ix]
    have e:ix (d::ds) ((j+1:Nat):Int)=ix ds (j:Int):=by simp [ix]
    rw [b,e]
    exact ih h.2 (by simpa using a)
theorem pN {a b M N:Int}(e:0≤a)(h1:a≤M)(h2 : -N≤b)(g:b≤N)(h:0≤N) : -(M*N)≤a*b∧a*b≤M*N:=by
 have k1:a*b≤a*N:=Int.mul_le_mul_of_nonneg_left g e
 have i:a*N≤M*N:=Int.mul_le_mul_of_nonneg_right h1 h
 have k3:a*(-N)≤a*b:=Int.mul_le_mul_of_nonneg_left h2 e
 rw [Int.mul_neg] at k3
 omega
theorem iw {α:Type}(xs:List α){l:Int}:sub xs l (xs.length:Int)=xs.drop l.toNat:=by simp [sub]
theorem vd {v:View}{is:List Int}(h:eK v.Dims)(B:v.Strides.length=v.Dims.length)(q:∀ s∈v.Strides,-4096≤s∧s≤4096)(E:0≤v.Offset∧v.Offset≤4096)(i:IV v.Dims is):Z15 v is=some (v.Offset+zs (·*·) is v.Strides):=by
 have m:=i.len
 have D:=h.1
 unfold Z15
 have a:∀ j:Nat,j<is.length → -(4096*4096)≤ix is (j:Int)*ix v.Strides (j:Int)∧ix is (j:Int)*ix v.Strides (j:Int)≤4096*4096:=by
  intro j b
  have h1:=i.mem b
  have h2:=h.2.mem (bH (xs:=v.Dims) (k:=j) (by omega))
  have g:=q _ (bH (xs:=v.Strides) (k:=j) (by omega))
  exact pN h1.1 (by omega) g.1 g.2 (by omega)
 have bd:∀ j,j≤is.length → -(6*(4096*4096))≤zs (·*·) (is.take j) (v.Strides.take j)∧zs (·*·) (is.take j) (v.Strides.take j)≤6*(4096*4096):=by
  intro j b
  have:=wA (·*·) (xs:=is) (ys:=v.Strides) (M:=4096*4096) (by omega) a b
  have e:(j:Int)≤6:=by omega
  have:=Int.mul_le_mul_of_nonneg_right e (show (0:Int)≤4096*4096 by omega)
  omega
 have:=fD (f:=fun s:Int×Int=>Z15_L1 v is s.1 s.2) (r:=v.Offset+zs (·*·) is v.Strides) (fun j=>(v.Offset+zs (·*·) (is.take j) (v.Strides.take j),(j:Int))) is.length
  (fun j b=>by
   have t:=a j b
   have l:=bd (j+1) (by omega)
   have u:=bd j (by omega)
   rw [l4 (·*·) b (by omega)] at l
   simp only [Z15_L1]
   rw [if_pos (by simp; omega),if_pos (by omega),if_pos (by omega),bD (n:=ix is (j:Int)*ix v.Strides (j:Int)) (by omega) (by omega),bD (by omega) (by omega),cH (by unfold cI; omega),l4 (·*·) b (by omega),Int.add_assoc])
  (by simp only [Z15_L1]; rw [if_neg (by simp),List.take_length,List.take_of_length_le (by omega)])
  (s:=(v.Offset,0)) (by simp [zs])
 rw [this]
 rfl
def nu (a ss:List Int)(b:Int):List Int:=(List.range (pr a).toNat).map fun k:Nat=>b+zs (·*·) (hO a (k:Int)) ss
theorem qU {v:View}(h:eK v.Dims)(a:v.Strides.length=v.Dims.length)(g:∀ s∈v.Strides,-4096≤s∧s≤4096)(b:0≤v.Offset∧v.Offset≤4096):Z0a v=some (nu v.Dims v.Strides v.Offset):=by
 have l:=h.1
 have m:=h.2.pos
 have e:=h.2.2
 unfold Z0a
 rw [jI (by unfold cI; omega),if_pos h.2]
 simp only [Option.bind_some]
 have:=fD (f:=fun s:List Int×Int=>Z0a_L1 v (pr v.Dims) s.1 s.2) (r:=nu v.Dims v.Strides v.Offset) (fun j=>((List.range j).map fun k:Nat=>v.Offset+zs (·*·) (hO v.Dims (k:Int)) v.Strides,(j:Int))) (pr v.Dims).toNat
  (fun j i=>by
   simp only [Z0a_L1]
   rw [if_pos (by simp; omega),jL h (by omega) (by omega)]
   simp only [Option.bind_some]
   rw [vd h a g b (hR h.2.1 _)]
   simp only [Option.bind_some]
   rw [if_pos (by simp; omega),cH (by unfold cI; omega),List.range_succ,List.map_append]
   rfl)
  (by simp only [Z0a_L1]; rw [if_neg (by simp; omega)]; rfl)
  (s:=([],0)) rfl
 rw [this]
 rfl
theorem oZ (ss:List Int)(h:∀ s∈ss,-4096≤s∧s≤4096):(ss.all fun x=>!(decide (x < -4096)||decide (x>4096)))=true:=by
 rw [List.all_eq_true]
 intro x a
 have:=h x a
 simp; omega
theorem kD {v:View}(h:VG v.Dims v.Strides v.Offset v.Base):Za v=some true:=by
 have B:=h.d.1
 have g:=h.l
 have u:=h.b
 have D:=h.o
 unfold Za
 rw [gO (by unfold cI; omega)]
 simp only [h.d,decide_true,Option.bind_some]
 rw [if_neg (by simp; omega)]
 have q:=eW v.Strides (fun s:Int=>Za_L1 v s) (fun i=>i) (fun x=>!(decide (x < -4096)||decide (x>4096))) (.inl false) (.inr ())
  (fun k a=>by
   simp only [Za_L1]
   rw [if_pos (by simp; omega),if_pos (by omega),cH (by unfold cI; omega)]
   cases (decide (ix v.Strides (k:Int) < -4096)||decide (ix v.Strides (k:Int)>4096))<;>rfl)
  (by simp only [Za_L1]; rw [if_neg (by simp)])
 rw [q,oZ _ h.s]
 simp only [if_true,Option.bind_some,Za_J1]
 rw [qU h.d g h.s ⟨by omega,by omega⟩]
 simp only [Option.bind_some]
 have j:(nu v.Dims v.Strides v.Offset).length≤4096:=by have:=h.d.2.2; simp [nu]; omega
 have r:=eW (nu v.Dims v.Strides v.Offset) (fun s:Int=>Za_L2 v (nu v.Dims v.Strides v.Offset) s) (fun i=>i) (fun x=>!(decide (x<0)||decide (x≥v.Base))) (.inl false) (.inr ())
  (fun k a=>by
   simp only [Za_L2]
   rw [if_pos (by simp; omega),if_pos (by omega),cH (by unfold cI; omega)]
   cases (decide (ix (nu v.Dims v.Strides v.Offset) (k:Int)<0)||decide (ix (nu v.Dims v.Strides v.Offset) (k:Int)≥v.Base))<;>rfl)
  (by simp only [Za_L2]; rw [if_neg (by simp)])
 have e:((nu v.Dims v.Strides v.Offset).all fun x=>!(decide (x<0)||decide (x≥v.Base)))=true:=by
  rw [List.all_eq_true]
  intro x m
  obtain ⟨k,_,rfl⟩:=List.mem_map.1 m
  have:=h.place (hR h.d.2.1 (k:Int))
  simp; omega
 rw [r,e]
 rfl
theorem ve:Za ⟨[],[],0,0⟩=some false:=by
 unfold Za
 rw [gO (by simp [cI])]
 rfl
theorem vf:Zh ⟨[],[],0,0⟩=some false:=by
 unfold Zh
 rw [hN (by simp [cI])]
 rfl
theorem kE {v:View}(h:VG v.Dims v.Strides v.Offset v.Base):Zh v=some true:=by
 have T:=h.d.1
 have L:=h.l
 have J:=h.b
 have U:=h.o
 unfold Zh
 rw [hN (by unfold cI; omega)]
 simp only [h.d,decide_true,Option.bind_some]
 rw [if_neg (by simp; omega)]
 have e:∀ j:Nat,j<v.Dims.length → -(4096*4096)≤ix v.Strides (j:Int)*(ix v.Dims (j:Int) - 1)∧ix v.Strides (j:Int)*(ix v.Dims (j:Int) - 1)≤4096*4096:=by
  intro j a
  have h2:=h.d.2.mem (bH (xs:=v.Dims) (k:=j) a)
  have i:=h.s _ (bH (xs:=v.Strides) (k:=j) (by omega))
  rw [Int.mul_comm (ix v.Strides (j:Int))]
  exact pN (by omega) (by omega) i.1 i.2 (by omega)
 have bd:∀ (f:Int→Int→Int),(f=lw∨f=hw)→∀ j,j≤v.Dims.length → -(6*(4096*4096))≤zs f (v.Dims.take j) (v.Strides.take j)∧zs f (v.Dims.take j) (v.Strides.take j)≤6*(4096*4096):=by
  intro f D j a
  have:=wA f (xs:=v.Dims) (ys:=v.Strides) (M:=4096*4096) (by omega) (fun j a=>by
   have:=e j a
   rcases D with rfl | rfl
   ·unfold lw; split<;>omega
   ·unfold hw; split<;>omega) a
  have g:(j:Int)≤6:=by omega
  have:=Int.mul_le_mul_of_nonneg_right g (show (0:Int)≤4096*4096 by omega)
  omega
 have:=fD (f:=fun s:Int×Int×Int=>Zh_L1 v s.1 s.2.1 s.2.2) (r:=.inr (v.Offset+zs lw v.Dims v.Strides,v.Offset+zs hw v.Dims v.Strides)) (fun j=>(v.Offset+zs lw (v.Dims.take j) (v.Strides.take j),v.Offset+zs hw (v.Dims.take j) (v.Strides.take j),(j:Int))) v.Dims.length
  (fun j a=>by
   have t:=e j a
   have a0:=bd lw (.inl rfl) j (by omega)
   have a1:=bd lw (.inl rfl) (j+1) (by omega)
   have G:=bd hw (.inr rfl) j (by omega)
   have I:=bd hw (.inr rfl) (j+1) (by omega)
   have E:=l4 lw (xs:=v.Dims) (ys:=v.Strides) (j:=j) (by omega) (by omega)
   have F:=l4 hw (xs:=v.Dims) (ys:=v.Strides) (j:=j) (by omega) (by omega)
   have Y:=h.s _ (bH (xs:=v.Strides) (k:=j) (by omega))
   have O:=h.d.2.mem (bH (xs:=v.Dims) (k:=j) a)
   simp only [Zh_L1]
   rw [if_pos (by simp; omega),if_pos (by omega),if_neg (by simp; omega),if_pos (by omega)]
   have m:aK (ix v.Dims (j:Int) - 1)=ix v.Dims (j:Int) - 1:=bD (by omega) (by omega)
   have q:aK (ix v.Strides (j:Int)*(ix v.Dims (j:Int) - 1))=ix v.Strides (j:Int)*(ix v.Dims (j:Int) - 1):=bD (by omega) (by omega)
   have u:lw (ix v.Dims (j:Int)) (ix v.Strides (j:Int))=if ix v.Strides (j:Int)*(ix v.Dims (j:Int) - 1)<0 then ix v.Strides (j:Int)*(ix v.Dims (j:Int) - 1) else 0:=rfl
   have B:hw (ix v.Dims (j:Int)) (ix v.Strides (j:Int))=if ix v.Strides (j:Int)*(ix v.Dims (j:Int) - 1)>0 then ix v.Strides (j:Int)*(ix v.Dims (j:Int) - 1) else 0:=rfl
   rw [m,q,← u,← B,bD (by omega) (by omega),bD (by omega) (by omega),cH (by unfold cI; omega),E,F,Int.add_assoc,Int.add_assoc])
  (by simp only [Zh_L1]; rw [if_neg (by simp; omega),List.take_length,List.take_of_length_le (by omega)])
  (s:=(v.Offset,v.Offset,0)) (by simp [zs])
 rw [this]
 have:=h.lo
 have:=h.hi
 simp only [Option.bind_some,Zh_J1]
 congr 1
 simp; omega
def s8:List Int→List Int
 | []=>[]
 | _::ds=>pr ds::s8 ds
def eQ:List Int→List Int
 | []=>[]
 | d::ds=>(if d>1 then pr ds else 0)::eQ ds
theorem iS (ds:List Int):(s8 ds).length=ds.length:=by
 induction ds with
 | nil=>rfl
 | cons d ds ih=>simp [s8,ih]
theorem dJ (ds:List Int):(eQ ds).length=ds.length:=by
 induction ds with
 | nil=>rfl
 | cons d ds ih=>simp [eQ,ih]
theorem dL {α:Type}[Inhabited α](x:α)(xs:List α)(j:Nat):ix (x::xs) ((j+1:Nat):Int)=ix xs (j:Int):=by simp [ix]
theorem tp {ds:List Int}{j:Nat}(h:j<ds.length):ix (s8 ds) (j:Int)=pr (ds.drop (j+1)):=by
 induction ds generalizing j with
 | nil=>simp at h
 | cons d ds ih=>cases j with
  | zero=>rfl
  | succ j=>rw [s8,dL,ih (by simpa using h)]; rfl
theorem pO {ds:List Int}{j:Nat}(h:j<ds.length):ix (eQ ds) (j:Int)=if ix ds (j:Int)>1 then pr (ds.drop (j+1)) else 0:=by
 induction ds generalizing j with
 | nil=>simp at h
 | cons d ds ih=>cases j with
  | zero=>rfl
  | succ j=>rw [eQ,dL,dL,ih (by simpa using h)]; rfl
theorem tq {L xs:List Int}(b:L.length=xs.length){j:Nat}(a:j<xs.length):(L.take j++xs.drop j).set j (ix L (j:Int))=L.take (j+1)++xs.drop (j+1):=by
 rw [cD (by omega),List.set_append_right _ _ (by simp; omega),List.take_succ_eq_append_getElem (by omega)]
 have:j - (L.take j).length=0:=by simp; omega
 rw [this,List.drop_eq_getElem_cons a,List.set_cons_zero,List.append_assoc]
 rfl
theorem qV {L xs:List Int}(b:L.length=xs.length){j:Nat}(a:j<xs.length)(h:ix L (j:Int)=ix xs (j:Int)):L.take j++xs.drop j=L.take (j+1)++xs.drop (j+1):=by
 rw [cD (by omega),cD a] at h
 rw [List.take_succ_eq_append_getElem (by omega),List.drop_eq_getElem_cons a,h]
 simp
theorem gF {ds:List Int}(h:SZ ds):∀ s∈eQ ds,0≤s∧s≤4096:=by
 induction ds with
 | nil=>intro s b; cases b
 | cons d ds ih =>
  have e:=h.tail.pos
  have a:=h.tail.2
  refine List.forall_mem_cons.2 ⟨?_,ih h.tail⟩
  split<;>omega
theorem ts {ds:List Int}(h:SZ ds):zs lw ds (eQ ds)=0:=by
 induction ds with
 | nil=>rfl
 | cons d ds ih =>
  have a:=h.1 d (by simp)
  have b:=h.tail.pos
  simp only [eQ,zs,ih h.tail]
  unfold lw
  split
  ·have:=Int.mul_nonneg (show 0≤pr ds by omega) (show 0≤d - 1 by omega); split<;>omega
  ·simp
theorem kb {ds:List Int}(h:SZ ds):zs hw ds (eQ ds)=pr ds - 1:=by
 induction ds with
 | nil=>rfl
 | cons d ds ih =>
  have a:=h.1 d (by simp)
  have b:=h.tail.pos
  simp only [eQ,zs,ih h.tail]
  have e:pr (d::ds)=pr ds*(d - 1)+pr ds:=by simp only [pr]; rw [Int.mul_sub,Int.mul_comm (pr ds) d]; omega
  rw [e]
  unfold hw
  by_cases c:d>1
  ·have:0<pr ds*(d - 1):=Int.mul_pos (by omega) (by omega)
   rw [if_pos c,if_pos this]; omega
  ·have:d=1:=by omega
   subst this; simp
theorem tt {ds:List Int}(h:eK ds):VG ds (eQ ds) 0 (pr ds):=by
 have b:=h.2.pos
 have a:=h.2.2
 refine ⟨h,dJ ds,⟨b,a⟩,⟨by omega,by omega⟩,fun s e=>by have:=gF h.2 s e; omega,?_,?_⟩
 ·rw [ts h.2]; decide
 ·rw [kb h.2]; omega
theorem rH {ds is:List Int}(a:IV ds is):zs (·*·) is (eQ ds)=ml ds is:=by
 induction ds generalizing is with
 | nil=>cases is with
  | nil=>rfl
  | cons=>exact a.elim
 | cons d ds ih=>cases is with
  | nil=>exact a.elim
  | cons i is =>
   have:=a.1
   simp only [eQ,zs,ml,ih a.2]
   split
   ·rfl
   ·have:i=0:=by omega
    subst this; simp
theorem nv {ds:List Int}(h:SZ ds):nu ds (eQ ds) 0=(List.range (pr ds).toNat).map fun k:Nat=>(k:Int):=by
 unfold nu
 refine List.map_congr_left fun k a=>?_
 have a:k<(pr ds).toNat:=by simpa using a
 have:=h.pos
 rw [rH (hR h.1 _),rG h.1 (by omega) (by omega)]
 omega
def b' (ds:List Int):View:=⟨ds,eQ ds,0,pr ds⟩
def dT:View:=⟨[],[],0,0⟩
theorem vg {ds:List Int}(h:eK ds):Z0f ⟨ds,s8 ds,0,pr ds⟩=some (b' ds):=by
 have g:=h.1
 unfold Z0f
 have:=fD (f:=fun s:Int×List Int=>Z0f_L1 ⟨ds,s8 ds,0,pr ds⟩ s.1 s.2) (r:=eQ ds) (fun j=>((j:Int),(eQ ds).take j++(s8 ds).drop j)) ds.length
  (fun j a=>by
   have b:=h.2.mem (bH a)
   simp only [Z0f_L1,Z0f_J2]
   rw [if_pos (by simp; omega),if_pos (by omega)]
   by_cases c:ix ds (j:Int)=1
   ·rw [if_pos (by simp [c]),if_pos (by rw [iS]; omega),cH (by unfold cI; omega)]
    have e:=tq (L:=eQ ds) (xs:=s8 ds) (by rw [dJ,iS]) (j:=j) (by rw [iS]; omega)
    rw [pO a,if_neg (by omega)] at e
    simp only [Int.toNat_natCast]
    rw [e]
   ·rw [if_neg (by simp [c]),cH (by unfold cI; omega),qV (by rw [dJ,iS]) (by rw [iS]; omega) (by rw [pO a,tp a,if_pos (by omega)])])
  (by simp only [Z0f_L1]; rw [if_neg (by simp)]; rw [List.take_of_length_le (by rw [dJ]; omega),List.drop_of_length_le (by rw [iS]; omega),List.append_nil])
  (s:=(0,s8 ds)) (by simp)
 rw [this]
 rfl
theorem kl {ds:List Int}(h:eK ds):Zu ds=some (b' ds):=by
 have b:=h.1
 unfold Zu
 rw [gO (by unfold cI; omega)]
 simp only [h,decide_true,Option.bind_some,Bool.not_true,Bool.false_eq_true,if_false]
 rw [fL (by omega),jI (by unfold cI; omega),if_pos h.2]
 simp only [Option.bind_some]
 have:=fD (f:=fun s:List Int×Int=>Zu_L1 ds s.1 s.2) (r:=s8 ds) (fun j=>((s8 ds).take j,(j:Int))) ds.length
  (fun j a=>by
   simp only [Zu_L1]
   rw [if_pos (by simp; omega),cH (by unfold cI; omega),if_pos (by omega),iw,Int.toNat_natCast,jI (by simp [cI]; omega),if_pos (h.2.drop (j+1))]
   simp only [Option.bind_some]
   rw [if_pos (by simp; omega),List.take_succ_eq_append_getElem (by rw [iS]; omega),← tp a,cD (by rw [iS]; omega)])
  (by simp only [Zu_L1]; rw [if_neg (by simp),List.take_of_length_le (by rw [iS]; omega)])
  (s:=([],0)) rfl
 rw [this]
 simp only [Option.bind_some,Zu_J1]
 rw [vg h]
 rfl
theorem nU {ds:List Int}(h:eK ds):Z05 ds=some (eQ ds):=by
 have E:=h.1
 unfold Z05
 rw [if_pos (by omega)]
 have:=fD (f:=fun s:List Int×Int×Int=>Z05_L1 ds s.1 s.2.1 s.2.2) (r:=eQ ds)
  (fun j=>(List.replicate (ds.length - j) 0++eQ (ds.drop (ds.length - j)),pr (ds.drop (ds.length - j)),(ds.length:Int) - 1 - j)) ds.length
  (fun j B=>by
   obtain ⟨i,q⟩:∃ i,i=ds.length - (j+1):=⟨_,rfl⟩
   have l:ds.length - j=i+1:=by omega
   have m:(ds.length:Int) - 1 - (j:Int)=(i:Int):=by omega
   have a:i<ds.length:=by omega
   have D:=h.2.mem (bH a)
   have F:=(h.2.drop (i+1)).pos
   have u:=(h.2.drop (i+1)).2
   have b:ds.drop i=ix ds (i:Int)::ds.drop (i+1):=by rw [List.drop_eq_getElem_cons a,cD a]
   have e:pr (ds.drop i)=pr (ds.drop (i+1))*ix ds (i:Int):=by rw [b]; simp [pr,Int.mul_comm]
   simp only [Z05_L1,Z05_J2,l,m,← q]
   rw [if_pos (by simp),if_pos (by omega)]
   have g:aK ((i:Int) - 1)=(ds.length:Int) - 1 - ((j+1:Nat):Int):=by rw [bD (by omega) (by omega)]; omega
   by_cases c:ix ds (i:Int)>1
   ·rw [if_pos (by simp; omega),if_pos (by simp; omega),if_pos (by omega),iR (by omega) (by omega) (by omega) (by omega),← e,g]
    congr 3
    rw [b,List.replicate_succ',List.set_append_left _ _ (by simp),List.set_append_right _ _ (by simp)]
    simp [eQ,c]
   ·rw [if_neg (by simp; omega),if_pos (by omega),iR (by omega) (by omega) (by omega) (by omega),← e,g]
    congr 3
    rw [b,List.replicate_succ']
    simp [eQ,c])
  (by
   simp only [Z05_L1,Nat.sub_self,List.drop_zero,List.replicate_zero,List.nil_append]
   rw [if_neg (by simp; omega)])
  (s:=(List.replicate (ds.length:Int).toNat 0,1,aK ((ds.length:Int) - 1))) (by
   rw [bD (by omega) (by omega)]
   simp [pr,eQ])
 rw [this]
 rfl
theorem l5 {ds:List Int}(h:eK ds):Z2o ds=some (b' ds):=by
 have a:=h.1
 unfold Z2o
 rw [hN (by unfold cI; omega)]
 simp only [h,decide_true,Option.bind_some,Bool.not_true,Bool.false_eq_true,if_false]
 rw [eX (by omega),nU h,lA (by unfold cI; omega) h.2]
 rfl
def gH (n:Nat):List Int:=List.replicate n 0
def pP:List Int→List Int→Option (List Int)
 | d::ds,i::is=>match pP ds is with
  | some q=>some (i::q)
  | none=>if i+1<d then some ((i+1)::gH ds.length) else none
 | _,_=>none
theorem tu {ds is:List Int}(h:is.length=ds.length)(d i:Int):pP (ds++[d]) (is++[i])=if i+1<d then some (is++[i+1]) else (pP ds is).map (·++[0]):=by
 induction ds generalizing is with
 | nil=>cases is with
  | nil=>simp [pP,gH]
  | cons=>simp at h
 | cons e ds ih=>cases is with
  | nil=>simp at h
  | cons j is =>
   have:=ih (is:=is) (by simpa using h)
   simp only [List.cons_append,pP,this]
   by_cases c:i+1<d
   ·simp [c]
   ·simp only [c,if_false]
    cases pP ds is with
    | some q=>simp
    | none =>
     simp only [Option.map_none]
     split
     ·simp [gH,List.replicate_succ']
     ·simp
theorem qW {ds:List Int}(h:∀ d∈ds,1≤d){m:Int}(r:m % pr ds=0):hO ds m=gH ds.length:=by
 induction ds generalizing m with
 | nil=>rfl
 | cons d ds ih =>
  have i:1≤pr ds:=fU fun x g=>h x (by simp [g])
  have q:=h d (by simp)
  have e:=(tl (k:=m) i q).2
  have a:=Int.emod_nonneg m (show pr ds≠0 by omega)
  have c:=Int.emod_nonneg (m / pr ds) (show d≠0 by omega)
  have u:m % (d*pr ds)=0:=r
  have b:=Int.mul_nonneg c (show 0≤pr ds by omega)
  have s:=j0 c i
  have j:m % pr ds=0:=by omega
  have l:m / pr ds % d=0:=by omega
  simp only [hO,l,ih (fun x g=>h x (by simp [g])) j]
  simp [gH,List.replicate_succ]
theorem qX {ds:List Int}(h:∀ d∈ds,1≤d)(k:Int):pP ds (hO ds k)=if k % pr ds+1<pr ds then some (hO ds (k+1)) else none:=by
 induction ds generalizing k with
 | nil=>simp [pP,pr,Int.emod_one]
 | cons d ds ih =>
  have B:1≤pr ds:=fU fun x j=>h x (by simp [j])
  have u:=h d (by simp)
  have l:∀ x∈ds,1≤x:=fun x j=>h x (by simp [j])
  have e:=(tl (k:=k) B u).2
  have a:=Int.emod_nonneg k (show pr ds≠0 by omega)
  have D:=Int.emod_lt_of_pos k (show 0<pr ds by omega)
  have c:=Int.emod_nonneg (k / pr ds) (show d≠0 by omega)
  have F:=Int.emod_lt_of_pos (k / pr ds) (show 0<d by omega)
  have G:=Int.mul_ediv_add_emod k (pr ds)
  have i:pr (d::ds)=d*pr ds:=rfl
  have b:(k / pr ds % d+1)*pr ds≤d*pr ds:=Int.mul_le_mul_of_nonneg_right (by omega) (by omega)
  rw [Int.add_mul] at b
  simp only [hO,pP,ih l]
  by_cases q:k % pr ds+1<pr ds
  ·have f:=(Int.ediv_emod_unique (a:=k+1) (b:=pr ds) (r:=k % pr ds+1) (q:=k / pr ds) (by omega)).2 ⟨by omega,by omega,by omega⟩
   simp only [if_pos q,f.1]
   rw [if_pos (show k % pr (d::ds)+1<pr (d::ds) by rw [i,e]; omega)]
  ·have J:k % pr ds=pr ds - 1:=by omega
   have f:=(Int.ediv_emod_unique (a:=k+1) (b:=pr ds) (r:=0) (q:=k / pr ds+1) (by omega)).2 ⟨by rw [Int.mul_add]; omega,by omega,by omega⟩
   simp only [if_neg q,f.1]
   by_cases g:k / pr ds % d+1<d
   ·have I:=Int.mul_ediv_add_emod (k / pr ds) d
    have s:=(Int.ediv_emod_unique (a:=k / pr ds+1) (b:=d) (r:=k / pr ds % d+1) (q:=k / pr ds / d) (by omega)).2 ⟨by omega,by omega,by omega⟩
    have m:(k / pr ds % d+2)*pr ds≤d*pr ds:=Int.mul_le_mul_of_nonneg_right (by omega) (by omega)
    rw [Int.add_mul] at m
    rw [if_pos g,if_pos (show k % pr (d::ds)+1<pr (d::ds) by rw [i,e]; omega),s.2,qW l f.2]
   ·have g1:k / pr ds % d=d - 1:=by omega
    have E:k / pr ds % d*pr ds=d*pr ds - pr ds:=by rw [g1,Int.sub_mul]; omega
    rw [if_neg g,if_neg (show ¬ k % pr (d::ds)+1<pr (d::ds) by rw [i,e]; omega)]
theorem xu (f:Int→Int→Int){xs ys:List Int}{j:Nat}{a:Int}(b:j<xs.length)(e:j<ys.length):zs f (xs.set j a) ys=zs f xs ys - f (ix xs (j:Int)) (ix ys (j:Int))+f a (ix ys (j:Int)):=by
 induction xs generalizing ys j with
 | nil=>simp at b
 | cons x xs ih=>cases ys with
  | nil=>simp at e
  | cons y ys=>cases j with
   | zero=>simp [zs,ix]; omega
   | succ j =>
    rw [dL,dL,List.set_cons_succ]
    simp only [zs,ih (ys:=ys) (j:=j) (by simpa using b) (by simpa using e)]
    omega
theorem p6 {J:Type}{YF:J→Int→Option (J×Bool)}{ds ss:List Int}{m base:Int}(h:VG ds ss m base){is:List Int}(E:IV ds is):∀ p,p≤ds.length →
  (∀ q,pP (ds.take p) (is.take p)=some q→∃ i:Int,0≤i∧aW (fun s:List Int×Int×Int=>Z04_L2 J YF ds ss s.1 s.2.1 s.2.2) (is.take p++gH (ds.length - p),m+zs (·*·) (is.take p++gH (ds.length - p)) ss,(p:Int) - 1)=some (q++gH (ds.length - p),m+zs (·*·) (q++gH (ds.length - p)) ss,i)) ∧
  (pP (ds.take p) (is.take p)=none→∃ x y,aW (fun s:List Int×Int×Int=>Z04_L2 J YF ds ss s.1 s.2.1 s.2.2) (is.take p++gH (ds.length - p),m+zs (·*·) (is.take p++gH (ds.length - p)) ss,(p:Int) - 1)=some (x,y,-1)):=by
 intro p
 have hn:=h.d.1
 have hl:=h.l
 have a6:=E.len
 induction p with
 | zero =>
  intro _
  refine ⟨fun q u=>by simp [pP] at u,fun _=>⟨is.take 0++gH (ds.length - 0),m+zs (·*·) (is.take 0++gH (ds.length - 0)) ss,dE ?_⟩⟩
  simp only [Z04_L2]
  rw [if_neg (by simp)]
  rfl
 | succ p ih =>
  intro F
  obtain ⟨a3,a4⟩:=ih (by omega)
  have hm:=E.mem (j:=p) (by omega)
  have a5:=h.d.2.mem (bH (xs:=ds) (k:=p) (by omega))
  have Y:=h.s _ (bH (xs:=ss) (k:=p) (by omega))
  have ti:is.take (p+1)=is.take p++[ix is (p:Int)]:=by rw [List.take_succ_eq_append_getElem (by omega),cD (by omega)]
  have td:ds.take (p+1)=ds.take p++[ix ds (p:Int)]:=by rw [List.take_succ_eq_append_getElem (by omega),cD (by omega)]
  have U:(is.take p).length=(ds.take p).length:=by simp; omega
  have G:=tu U (ix ds (p:Int)) (ix is (p:Int))
  rw [← ti,← td] at G
  obtain ⟨g,r⟩:∃ g,g=is.take (p+1)++gH (ds.length - (p+1)):=⟨_,rfl⟩
  have a1:g.length=ds.length:=by rw [r]; simp [gH]; omega
  have T:ix g (p:Int)=ix is (p:Int):=by
   have a2:p<g.length:=by omega
   rw [cD a2,cD (by omega)]
   subst r
   rw [List.getElem_append_left (by simp; omega)]
   simp
  have B:∀ a:Int,g.set p a=is.take p++a::gH (ds.length - (p+1)):=by
   intro a
   rw [r,ti,List.append_assoc,List.set_append_right _ _ (by simp; omega)]
   have:p - (is.take p).length=0:=by simp; omega
   rw [this]
   rfl
  have L:∀ a:Int,0≤a→a<ix ds (p:Int)→0≤m+zs (·*·) (g.set p a) ss∧m+zs (·*·) (g.set p a) ss≤4096:=by
   intro a h0 h1
   have a0:∀ (ds is:List Int),IV ds is→(∀ d∈ds,1≤d)→∀ p,p<ds.length→0≤a→a<ix ds (p:Int)→IV ds (is.take p++a::gH (ds.length - (p+1))):=by
    intro ds
    induction ds with
    | nil=>intro is _ _ p F; simp at F
    | cons d ds ihd =>
     intro is E D p F h0 h1
     cases is with
     | nil=>exact E.elim
     | cons i is =>
      cases p with
      | zero =>
       refine ⟨⟨h0,h1⟩,?_⟩
       have hz:∀ ds:List Int,(∀ d∈ds,1≤d)→IV ds (gH ds.length):=by
        intro ds
        induction ds with
        | nil=>intro _; trivial
        | cons d ds ihz=>intro F; exact ⟨⟨Int.le_refl 0,by have:=F d (by simp); omega⟩,ihz fun x Z=>F x (by simp [Z])⟩
       exact hz ds fun x Z=>D x (by simp [Z])
      | succ p =>
       rw [dL] at h1
       have:=ihd is E.2 (fun x Z=>D x (by simp [Z])) p (by simpa using F) h0 h1
       refine ⟨E.1,?_⟩
       simpa using this
   have:=h.place (a0 ds is E h.d.2.1 p (by omega) h0 h1)
   have:=h.b
   rw [B]
   omega
  have I:=fun a=>xu (·*·) (xs:=g) (ys:=ss) (j:=p) (a:=a) (by omega) (by omega)
  rw [T] at I
  have b0:=L (ix is (p:Int)) hm.1 hm.2
  have e0:g.set p (ix is (p:Int))=g:=by rw [B,r,ti]; simp
  rw [e0] at b0
  have O:Z04_L2 J YF ds ss g (m+zs (·*·) g ss) ((p+1:Nat) - 1:Int)=if ix is (p:Int)+1<ix ds (p:Int) then some (.inr (g.set p (ix is (p:Int)+1),m+zs (·*·) (g.set p (ix is (p:Int)+1)) ss,(p:Int))) else some (.inl (g.set p 0,m+zs (·*·) (g.set p 0) ss,(p:Int) - 1)):=by
   have ep:((p+1:Nat) - 1:Int)=(p:Int):=by omega
   have w1:aK (ix is (p:Int)+1)=ix is (p:Int)+1:=bD (by omega) (by omega)
   have w2:aK (m+zs (·*·) g ss+ix ss (p:Int))=m+zs (·*·) g ss+ix ss (p:Int):=bD (by omega) (by omega)
   have mb:=pN (a:=ix ds (p:Int)) (b:=ix ss (p:Int)) (M:=4096) (N:=4096) (by omega) (by omega) Y.1 Y.2 (by omega)
   rw [Int.mul_comm (ix ds (p:Int))] at mb
   have w3:aK (ix ss (p:Int)*ix ds (p:Int))=ix ss (p:Int)*ix ds (p:Int):=bD (by omega) (by omega)
   have e1:ix (g.set p (ix is (p:Int)+1)) (p:Int)=ix is (p:Int)+1:=by rw [cD (by simp; omega)]; simp
   rw [ep]
   simp only [Z04_L2,Int.toNat_natCast,T,w1,w2,w3,e1]
   rw [if_pos (by simp),if_pos (by simp; omega),if_pos (by omega),if_pos (by omega)]
   by_cases c:ix is (p:Int)+1<ix ds (p:Int)
   ·rw [if_pos (by simpa using c),if_pos c,I (ix is (p:Int)+1),Int.add_mul]
    congr 4
    omega
   ·rw [if_neg (by simpa using c),if_neg c]
    have em:ix ss (p:Int)*ix ds (p:Int)=ix is (p:Int)*ix ss (p:Int)+ix ss (p:Int):=by
     rw [show ix ds (p:Int)=ix is (p:Int)+1 by omega,Int.mul_add,Int.mul_comm]; omega
    have bz:=L 0 (by omega) (by omega)
    have z0:=I 0
    simp only [Int.zero_mul] at z0
    rw [nm,Option.bind_some,List.set_set,bD (by omega) (by omega),bD (by omega) (by omega),z0]
    congr 4
    omega
  rw [← r]
  by_cases c:ix is (p:Int)+1<ix ds (p:Int)
  ·rw [if_pos c] at O G
   refine ⟨fun q u=>⟨(p:Int),by omega,?_⟩,fun u=>by rw [G] at u; cases u⟩
   rw [G] at u
   cases u
   rw [dE O,B]
   simp
  ·rw [if_neg c] at O G
   have e2:g.set p 0=is.take p++gH (ds.length - p):=by
    rw [B,show ds.length - p=(ds.length - (p+1))+1 by omega]; rfl
   rw [e2] at O
   rw [eM O]
   refine ⟨fun q u=>?_,fun u=>a4 (by rw [G] at u; simpa using u)⟩
   rw [G] at u
   cases e:pP (ds.take p) (is.take p) with
   | none=>rw [e] at u; cases u
   | some q' =>
    rw [e] at u
    cases u
    obtain ⟨i,h1,h2⟩:=a3 q' e
    refine ⟨i,h1,?_⟩
    rw [h2]
    have:gH (ds.length - p)=0::gH (ds.length - (p+1)):=by rw [show ds.length - p=(ds.length - (p+1))+1 by omega]; rfl
    rw [this]
    simp
theorem rI {g:Type}{YF:g→Int→Option (g×Bool)}{ds ss:List Int}{b base:Int}(h:VG ds ss b base)(I:Nat→g→Prop)
  (u:∀ (k:Nat) y,(k:Int)<pr ds→I k y→∃ a,YF y (b+zs (·*·) (hO ds (k:Int)) ss)=some (a,true)∧I (k+1) a) {y:g} (F:I 0 y) :
  ∃ a,Z04 g YF y ds b ss=some a∧I (pr ds).toNat a:=by
 have M:=h.d.1
 have O:=h.d.2.pos
 unfold Z04
 rw [if_pos (by omega)]
 have r:∀ m k y,k+1+m=(pr ds).toNat→I k y→∃ a,aW (fun s:List Int×Int×g=>Z04_L1 g YF ds ss s.1 s.2.1 s.2.2) (hO ds (k:Int),b+zs (·*·) (hO ds (k:Int)) ss,y)=some a∧I (pr ds).toNat a:=by
  intro m
  induction m with
  | zero =>
   intro k y G q
   obtain ⟨a,h1,h2⟩:=u k y (by omega) q
   obtain ⟨_,j⟩:=p6 (YF:=YF) h (hR h.d.2.1 (k:Int)) ds.length (Nat.le_refl _)
   rw [List.take_length,List.take_of_length_le (by rw [jK]; omega),Nat.sub_self] at j
   have e:pP ds (hO ds (k:Int))=none:=by
    rw [qX h.d.2.1,Int.emod_eq_of_lt (by omega) (by omega),if_neg (by omega)]
   obtain ⟨x,z,l⟩:=j e
   refine ⟨a,dE ?_,by rw [show (pr ds).toNat=k+1 by omega]; exact h2⟩
   simp only [Z04_L1,h1,Option.bind_some,Bool.not_true,Bool.false_eq_true,if_false]
   rw [bD (by omega) (by omega)]
   simp only [gH,List.replicate_zero,List.append_nil] at l
   rw [l]
   rfl
  | succ m ih =>
   intro k y G q
   obtain ⟨a,h1,h2⟩:=u k y (by omega) q
   obtain ⟨j,_⟩:=p6 (YF:=YF) h (hR h.d.2.1 (k:Int)) ds.length (Nat.le_refl _)
   rw [List.take_length,List.take_of_length_le (by rw [jK]; omega),Nat.sub_self] at j
   have e:pP ds (hO ds (k:Int))=some (hO ds ((k:Int)+1)):=by
    rw [qX h.d.2.1,Int.emod_eq_of_lt (by omega) (by omega),if_pos (by omega)]
   obtain ⟨i,L,l⟩:=j _ e
   have B:(k:Int)+1=((k+1:Nat):Int):=by omega
   have J:=eM (f:=fun s:List Int×Int×g=>Z04_L1 g YF ds ss s.1 s.2.1 s.2.2) (s:=(hO ds (k:Int),b+zs (·*·) (hO ds (k:Int)) ss,y)) (s':=(hO ds ((k+1:Nat):Int),b+zs (·*·) (hO ds ((k+1:Nat):Int)) ss,a)) (by
    simp only [Z04_L1,h1,Option.bind_some,Bool.not_true,Bool.false_eq_true,if_false]
    rw [bD (by omega) (by omega)]
    simp only [gH,List.replicate_zero,List.append_nil] at l
    rw [l,B]
    simp only [Option.bind_some,Z04_J2]
    rw [if_neg (by simp; omega)])
   rw [J]
   exact ih (k+1) a (by omega) h2
 obtain ⟨a,h1,h2⟩:=r ((pr ds).toNat - 1) 0 y (by omega) F
 refine ⟨a,?_,h2⟩
 have e:hO ds ((0:Nat):Int)=gH ds.length:=qW h.d.2.1 (by simp)
 have E:∀ (n:Nat) (ss:List Int),zs (·*·) (gH n) ss=0:=by
  intro n
  induction n with
  | zero=>intro ss; simp [gH,zs]
  | succ n ihn=>intro ss; cases ss with
   | nil=>simp [gH,zs]
   | cons s ss=>have:=ihn ss; simp only [gH,List.replicate_succ,zs] at this ⊢; rw [this]; simp
 rw [e,E] at h1
 have D:(ds.length:Int).toNat=ds.length:=by omega
 rw [D]
 simp only [Int.add_zero] at h1
 rw [show List.replicate ds.length (0:Int)=gH ds.length from rfl,h1]
 rfl
theorem vh {v:View}(h:VG v.Dims v.Strides v.Offset v.Base):∃ ps,Z2k v=some (v.Dims,ps,true):=by
 have b:=h.d.2.2
 unfold Z2k
 rw [kE h]
 simp only [Option.bind_some,Bool.not_true,Bool.false_eq_true,if_false,Z39]
 obtain ⟨ps,h1,_⟩:=rI (YF:=fun (s:List pair) (x:Int)=>Z3x s x) h (fun k (y:List pair)=>y.length=k) (fun k y e a=>by
  simp only [Z3x]
  rw [if_pos (by simp; omega)]
  exact ⟨_,rfl,by simp [a]⟩) (y:=[]) rfl
 exact ⟨ps,by rw [h1]; rfl⟩
def m7:List Int→List Int→Bool
 | a::xs,b::ys=>(a==b||a==1)&&m7 xs ys
 | _,_=>true
def og:List Int→List Int→List Int→List Int
 | a::xs,b::ys,s::ss=>(if a=b then s else 0)::og xs ys ss
 | _,_,_=>[]
theorem km {xs ys ss:List Int}(h1:ys.length=xs.length)(h2:ss.length=xs.length):(og xs ys ss).length=xs.length:=by
 induction xs generalizing ys ss with
 | nil=>rfl
 | cons a xs ih=>cases ys with
  | nil=>simp at h1
  | cons b ys=>cases ss with
   | nil=>simp at h2
   | cons s ss=>simp only [og,List.length_cons]; rw [ih (by simpa using h1) (by simpa using h2)]
theorem xv {xs ys ss:List Int}(h1:ys.length=xs.length)(h2:ss.length=xs.length){j:Nat}(e:j<xs.length):ix (og xs ys ss) (j:Int)=if ix xs (j:Int)=ix ys (j:Int) then ix ss (j:Int) else 0:=by
 induction xs generalizing ys ss j with
 | nil=>simp at e
 | cons a xs ih=>cases ys with
  | nil=>simp at h1
  | cons b ys=>cases ss with
   | nil=>simp at h2
   | cons s ss=>cases j with
    | zero=>rfl
    | succ j=>rw [og,dL,dL,dL,dL,ih (by simpa using h1) (by simpa using h2) (by simpa using e)]
theorem qY {xs ys:List Int}(h1:ys.length=xs.length)(h:m7 xs ys=true){j:Nat}(e:j<xs.length):ix xs (j:Int)=ix ys (j:Int)∨ix xs (j:Int)=1:=by
 induction xs generalizing ys j with
 | nil=>simp at e
 | cons a xs ih=>cases ys with
  | nil=>simp at h1
  | cons b ys =>
   simp only [m7,Bool.and_eq_true,Bool.or_eq_true,beq_iff_eq] at h
   cases j with
   | zero=>exact h.1
   | succ j=>rw [dL,dL]; exact ih (by simpa using h1) h.2 (by simpa using e)
theorem qZ {xs ys:List Int}(h1:ys.length=xs.length)(h:m7 xs ys=false):∃ m,m<xs.length∧ix xs (m:Int)≠ix ys (m:Int)∧ix xs (m:Int)≠1∧∀ j:Nat,j<m→ix xs (j:Int)=ix ys (j:Int)∨ix xs (j:Int)=1:=by
 induction xs generalizing ys with
 | nil=>simp [m7] at h
 | cons a xs ih=>cases ys with
  | nil=>simp at h1
  | cons b ys =>
   by_cases c:a=b∨a=1
   ·have:m7 xs ys=false:=by
     simp only [m7] at h
     rcases c with c | c<;>simpa [c] using h
    obtain ⟨m,g,i,l,q⟩:=ih (by simpa using h1) this
    refine ⟨m+1,by simpa using g,by rw [dL,dL]; exact i,by rw [dL]; exact l,?_⟩
    intro j r
    cases j with
    | zero=>exact c
    | succ j=>rw [dL,dL]; exact q j (by omega)
   ·exact ⟨0,by simp,fun e=>c (.inl e),fun e=>c (.inr e),fun j r=>by omega⟩
theorem tv (f:Int→Int→Int){a b c e:List Int}(h:a.length=b.length):zs f (a++c) (b++e)=zs f a b+zs f c e:=by
 induction a generalizing b with
 | nil=>cases b with
  | nil=>simp [zs]
  | cons=>simp at h
 | cons x a ih=>cases b with
  | nil=>simp at h
  | cons y b=>simp only [List.cons_append,zs,ih (b:=b) (by simpa using h)]; omega
theorem xw (f:Int→Int→Int)(a:∀ d,f d 0=0)(ds:List Int)(n:Nat):zs f ds (gH n)=0:=by
 induction ds generalizing n with
 | nil=>simp [zs]
 | cons d ds ih=>cases n with
  | zero=>simp [gH,zs]
  | succ n=>have:=ih n; simp only [gH,List.replicate_succ,zs,a] at this ⊢; omega
theorem BI (d:Int):hw d 0=0:=by simp [hw]
theorem xx {d s:Int}(b:1≤d)(a:0≤s):lw d s=0:=by
 have:=Int.mul_nonneg a (show 0≤d - 1 by omega)
 unfold lw; split<;>omega
theorem j3 {d s:Int}(b:1≤d)(a:0≤s):hw d s=s*(d - 1):=by
 have:=Int.mul_nonneg a (show 0≤d - 1 by omega)
 unfold hw; split<;>omega
theorem pQ {ds ss:List Int}(b:∀ d∈ds,1≤d)(e:∀ s∈ss,0≤s):zs lw ds ss=0:=by
 induction ds generalizing ss with
 | nil=>simp [zs]
 | cons d ds ih=>cases ss with
  | nil=>simp [zs]
  | cons s ss =>
   simp only [zs,xx (b d (by simp)) (e s (by simp)),ih (ss:=ss) (fun x a=>b x (by simp [a])) (fun x a=>e x (by simp [a]))]
   omega
theorem xy {xs ys ss:List Int}(e:∀ d∈xs,1≤d)(l:∀ d∈ys,1≤d)(i:∀ s∈ss,0≤s):zs hw ys (og xs ys ss)≤zs hw xs ss∧∀ s∈og xs ys ss,0≤s:=by
 induction xs generalizing ys ss with
 | nil=>cases ys<;>simp [og,zs]
 | cons a xs ih=>cases ys with
  | nil =>
   refine ⟨?_,by simp [og]⟩
   have j:∀ (xs ss:List Int),(∀ d∈xs,1≤d)→(∀ s∈ss,0≤s)→0≤zs hw xs ss:=by
    intro xs
    induction xs with
    | nil=>intro ss _ _; simp [zs]
    | cons d ds ihh=>intro ss h1 h2; cases ss with
     | nil=>simp [zs]
     | cons s ss =>
      have:=ihh ss (fun x e=>h1 x (by simp [e])) (fun x e=>h2 x (by simp [e]))
      have u:=j3 (h1 d (by simp)) (h2 s (by simp))
      have B:=Int.mul_nonneg (h2 s (by simp)) (show 0≤d - 1 by have:=h1 d (by simp); omega)
      simp only [zs]; omega
   simpa [zs] using j (a::xs) ss e i
  | cons b ys=>cases ss with
   | nil=>simp [og,zs]
   | cons s ss =>
    obtain ⟨h1,h2⟩:=ih (ys:=ys) (ss:=ss) (fun x h=>e x (by simp [h])) (fun x h=>l x (by simp [h])) (fun x h=>i x (by simp [h]))
    have m:=e a (by simp)
    have D:=l b (by simp)
    have g:=i s (by simp)
    have q:=j3 m g
    have r:=Int.mul_nonneg g (show 0≤a - 1 by omega)
    refine ⟨?_,?_⟩
    ·simp only [og,zs]
     split
     ·rename_i c; subst c; omega
     ·rw [BI]; omega
    ·simp only [og]
     refine List.forall_mem_cons.2 ⟨?_,h2⟩
     split<;>omega
theorem j8 {ds:List Int}(h:eK ds):VG (b' ds).Dims (b' ds).Strides (b' ds).Offset (b' ds).Base:=tt h
def jT (ds d:List Int):List Int:=gH (d.length - ds.length)++og ds (d.drop (d.length - ds.length)) (eQ ds)
theorem nw {ds d:List Int}(h:eK ds)(l:eK d)(G:ds.length≤d.length):VG d (jT ds d) 0 (pr ds):=by
 have F:=h.2.pos
 have q:=h.2.2
 have m:(d.drop (d.length - ds.length)).length=ds.length:=by simp; omega
 have r:∀ s∈eQ ds,0≤s:=fun s g=>(gF h.2 s g).1
 obtain ⟨h1,h2⟩:=xy (ys:=d.drop (d.length - ds.length)) h.2.1 (fun x u=>l.2.1 x (List.mem_of_mem_drop u)) r
 have i:∀ s∈jT ds d,0≤s:=by
  intro s g
  rcases List.mem_append.1 g with g | g
  ·have:=(List.mem_replicate.1 g).2; omega
  ·exact h2 s g
 have E:d=d.take (d.length - ds.length)++d.drop (d.length - ds.length):=(List.take_append_drop _ _).symm
 have D:zs hw d (jT ds d)≤pr ds - 1:=by
  have e:zs hw d (jT ds d)=zs hw (d.take (d.length - ds.length)++d.drop (d.length - ds.length)) (jT ds d):=by rw [List.take_append_drop]
  rw [e,jT,tv _ (by simp [gH]),xw _ BI,← kb h.2]
  omega
 refine ⟨l,by simp only [jT,List.length_append,km m (dJ ds)]; simp [gH]; omega,⟨F,q⟩,⟨by omega,by omega⟩,?_,?_,by omega⟩
 ·intro s g
  refine ⟨by have:=i s g; omega,?_⟩
  rcases List.mem_append.1 g with g | g
  ·have:=(List.mem_replicate.1 g).2; omega
  ·have B:∀ (xs ys ss:List Int),(∀ s∈ss,s≤4096)→∀ s∈og xs ys ss,s≤4096:=by
    intro xs
    induction xs with
    | nil=>intro ys ss _ s g; cases ys<;>simp [og] at g
    | cons a xs ih=>intro ys ss j; cases ys with
     | nil=>simp [og]
     | cons b ys=>cases ss with
      | nil=>simp [og]
      | cons t ss =>
       simp only [og]
       refine List.forall_mem_cons.2 ⟨?_,ih ys ss fun x u=>j x (by simp [u])⟩
       have:=j t (by simp)
       split<;>omega
   exact B _ _ _ (fun s g=>(gF h.2 s g).2) s g
 ·rw [pQ l.2.1 i]; omega
theorem mm {ds d:List Int}(e:ds.length≤d.length)(a:d.length≤6){j:Nat}(b:j<ds.length):aK (aK ((d.length:Int) - (ds.length:Int))+(j:Int))=((d.length - ds.length+j:Nat):Int)∧ix d ((d.length - ds.length+j:Nat):Int)=ix (d.drop (d.length - ds.length)) (j:Int):=by
 refine ⟨by rw [bD (n:=(d.length:Int) - ds.length) (by omega) (by omega),bD (by omega) (by omega)]; omega,?_⟩
 rw [cD (by omega),cD (by simp; omega)]
 simp
theorem xz {ds d:List Int}(e:ds.length≤d.length){j:Nat}(b:j<ds.length):ix (jT ds d) ((d.length - ds.length+j:Nat):Int)=if ix ds (j:Int)=ix (d.drop (d.length - ds.length)) (j:Int) then ix (eQ ds) (j:Int) else 0:=by
 have a:(d.drop (d.length - ds.length)).length=ds.length:=by simp; omega
 rw [← xv a (dJ ds) b,cD (by simp only [jT,List.length_append,km a (dJ ds)]; simp [gH]; omega),cD (by rw [km a (dJ ds)]; omega)]
 simp only [jT]
 rw [List.getElem_append_right (by simp [gH])]
 simp [gH]
theorem nx {ds d:List Int}(h:eK ds)(i:ds.length≤d.length){j:Nat}(g:j<ds.length) :
  (ix ds (j:Int)=ix (d.drop (d.length - ds.length)) (j:Int)→((jT ds d).take (d.length - ds.length+j)++(gH d.length).drop (d.length - ds.length+j)).set (d.length - ds.length+j) (ix (eQ ds) (j:Int))=(jT ds d).take (d.length - ds.length+(j+1))++(gH d.length).drop (d.length - ds.length+(j+1))) ∧
  (ix ds (j:Int)≠ix (d.drop (d.length - ds.length)) (j:Int)→(jT ds d).take (d.length - ds.length+j)++(gH d.length).drop (d.length - ds.length+j)=(jT ds d).take (d.length - ds.length+(j+1))++(gH d.length).drop (d.length - ds.length+(j+1))):=by
 have a:(d.drop (d.length - ds.length)).length=ds.length:=by simp; omega
 have b:(jT ds d).length=(gH d.length).length:=by simp only [jT,List.length_append,km a (dJ ds)]; simp [gH]; omega
 have l:(gH d.length).length=d.length:=by simp [gH]
 have e:=xz i g
 constructor
 ·intro c
  rw [if_pos c] at e
  have:=tq b (j:=d.length - ds.length+j) (by omega)
  rw [e] at this
  exact this
 ·intro c
  rw [if_neg c] at e
  refine qV b (by omega) ?_
  rw [e,cD (by omega)]
  simp [gH]
theorem tw {ds d:List Int}(h:eK ds)(l:d.length<cI):Z03 (b' ds) d=some (if eK d∧ds.length≤d.length∧m7 ds (d.drop (d.length - ds.length))=true then ⟨d,jT ds d,0,pr ds⟩ else dT):=by
 have O:=h.1
 have b:(b' ds).Dims=ds:=rfl
 have q:(b' ds).Strides=eQ ds:=rfl
 have J:=dJ ds
 unfold Z03
 rw [kD (j8 h)]
 simp only [Option.bind_some,bR,Bool.not_true,Bool.not_false,cond_true,Bool.false_or,gO l]
 by_cases hd:eK d
 ·have i:=hd.1
  simp only [hd,decide_true,Bool.not_true,Bool.false_or,b,true_and]
  by_cases hl:ds.length≤d.length
  ·rw [if_neg (by rw [bD (by omega) (by omega)]; simp; omega),fL (by omega)]
   simp only [Option.bind_some]
   rw [if_pos (by omega)]
   have e:(d.drop (d.length - ds.length)).length=ds.length:=by simp; omega
   have a:∀ j:Nat,j<ds.length→(ix ds (j:Int)=ix (d.drop (d.length - ds.length)) (j:Int)∨ix ds (j:Int)=1)→(fun s:List Int×Int=>Z03_L1 (b' ds) d s.1 s.2) ((jT ds d).take (d.length - ds.length+j)++(gH d.length).drop (d.length - ds.length+j),(j:Int))=some (.inl ((jT ds d).take (d.length - ds.length+(j+1))++(gH d.length).drop (d.length - ds.length+(j+1)),((j+1:Nat):Int))):=by
    intro j g I
    obtain ⟨u,B⟩:=mm (ds:=ds) hl i g
    obtain ⟨L,M⟩:=nx (d:=d) h hl g
    simp only [Z03_L1,Z03_J2,b,q,u,B]
    rw [if_pos (by simp; omega),if_pos (by omega),if_pos (by omega)]
    by_cases c:ix ds (j:Int)=ix (d.drop (d.length - ds.length)) (j:Int)
    ·rw [if_pos (by simp [c]),if_pos (by omega),if_pos (by simp; omega),Int.toNat_natCast,L c,cH (by unfold cI; omega)]
     rfl
    ·rw [if_neg (by simp [c]),if_neg (by simp [I.resolve_left c]),M c,cH (by unfold cI; omega)]
   have D:(List.replicate (d.length:Int).toNat (0:Int),(0:Int))=((jT ds d).take (d.length - ds.length+0)++(gH d.length).drop (d.length - ds.length+0),((0:Nat):Int)):=by
    simp only [jT,Nat.add_zero]
    rw [List.take_append_of_le_length (by simp [gH]),List.take_of_length_le (by simp [gH])]
    simp [gH]
   by_cases c:m7 ds (d.drop (d.length - ds.length))=true
   ·have:=fD (f:=fun s:List Int×Int=>Z03_L1 (b' ds) d s.1 s.2) (r:=.inr (jT ds d)) (fun j=>((jT ds d).take (d.length - ds.length+j)++(gH d.length).drop (d.length - ds.length+j),(j:Int))) ds.length
     (fun j g=>a j g (qY e c g))
     (by
      simp only [Z03_L1,b]
      rw [if_neg (by simp),show d.length - ds.length+ds.length=d.length by omega,List.take_of_length_le (by simp only [jT,List.length_append,km e (dJ ds)]; simp [gH]; omega),List.drop_of_length_le (by simp [gH])]
      simp) D
    rw [this]
    simp [c,hl,Z03_J3]
    exact ⟨rfl,rfl⟩
   ·obtain ⟨m,g1,E,F,G⟩:=qZ e (by simpa using c)
    have:=fD (f:=fun s:List Int×Int=>Z03_L1 (b' ds) d s.1 s.2) (r:=.inl dT) (fun j=>((jT ds d).take (d.length - ds.length+j)++(gH d.length).drop (d.length - ds.length+j),(j:Int))) m
     (fun j g=>a j (by omega) (G j g))
     (by
      obtain ⟨u,B⟩:=mm (ds:=ds) hl i g1
      simp only [Z03_L1,b,u,B]
      rw [if_pos (by simp; omega),if_pos (by omega),if_pos (by omega),if_neg (by simp [E]),if_pos (by simp [F])]
      rfl) D
    rw [this]
    simp [c]
  ·rw [if_pos (by rw [bD (by unfold cI at l; omega) (by unfold cI at l; omega)]; simp; omega)]
   simp [hl,dT]
 ·simp [hd,dT]
theorem tx {ds d:List Int}(h:eK ds)(I:d.length<cI):Z2i (b' ds) d=some (if eK d∧ds.length≤d.length∧m7 ds (d.drop (d.length - ds.length))=true then ⟨d,jT ds d,0,pr ds⟩ else dT):=by
 have T:=h.1
 have a:(b' ds).Dims=ds:=rfl
 have l:(b' ds).Strides=eQ ds:=rfl
 have L:=dJ ds
 unfold Z2i Z3b
 rw [kE (j8 h)]
 simp only [Option.bind_some,Bool.not_true,Bool.false_eq_true,if_false]
 rw [eX (by rw [a]; omega),eX (by rw [l]; omega)]
 simp only [Option.bind_some]
 unfold Z07
 rw [hN I]
 simp only [Option.bind_some]
 by_cases hd:eK d
 ·have i:=hd.1
  simp only [hd,decide_true,Bool.not_true,Bool.false_or,a,true_and]
  by_cases hl:ds.length≤d.length
  ·rw [if_neg (by simp; omega),eX (by omega)]
   simp only [Option.bind_some]
   rw [if_pos (by omega)]
   have e:(d.drop (d.length - ds.length)).length=ds.length:=by simp; omega
   have b:∀ j:Nat,j<ds.length→(ix ds (j:Int)=ix (d.drop (d.length - ds.length)) (j:Int)∨ix ds (j:Int)=1)→(fun s:List Int×Int=>Z07_L1 ⟨ds,(b' ds).Strides,(b' ds).Offset,(b' ds).Base⟩ d (b' ds) d s.1 s.2) ((jT ds d).take (d.length - ds.length+j)++(gH d.length).drop (d.length - ds.length+j),(j:Int))=some (.inl ((jT ds d).take (d.length - ds.length+(j+1))++(gH d.length).drop (d.length - ds.length+(j+1)),((j+1:Nat):Int))):=by
    intro j g J
    obtain ⟨u,B⟩:=mm (ds:=ds) hl i g
    obtain ⟨M,O⟩:=nx (d:=d) h hl g
    simp only [Z07_L1,Z07_J2,a,l,u,B]
    rw [if_pos (by simp; omega),if_pos (by omega),if_pos (by omega)]
    by_cases c:ix ds (j:Int)=ix (d.drop (d.length - ds.length)) (j:Int)
    ·rw [if_pos (by simp [c]),if_pos (by omega),if_pos (by simp; omega),Int.toNat_natCast,M c,cH (by unfold cI; omega)]
     rfl
    ·rw [if_neg (by simp [c]),if_neg (by simp [J.resolve_left c]),O c,cH (by unfold cI; omega)]
   have D:(List.replicate (d.length:Int).toNat (0:Int),(0:Int))=((jT ds d).take (d.length - ds.length+0)++(gH d.length).drop (d.length - ds.length+0),((0:Nat):Int)):=by
    simp only [jT,Nat.add_zero]
    rw [List.take_append_of_le_length (by simp [gH]),List.take_of_length_le (by simp [gH])]
    simp [gH]
   by_cases c:m7 ds (d.drop (d.length - ds.length))=true
   ·have:=fD (f:=fun s:List Int×Int=>Z07_L1 ⟨ds,(b' ds).Strides,(b' ds).Offset,(b' ds).Base⟩ d (b' ds) d s.1 s.2) (r:=.inr (jT ds d)) (fun j=>((jT ds d).take (d.length - ds.length+j)++(gH d.length).drop (d.length - ds.length+j),(j:Int))) ds.length
     (fun j g=>b j g (qY e c g))
     (by
      simp only [Z07_L1,a]
      rw [if_neg (by simp),show d.length - ds.length+ds.length=d.length by omega,List.take_of_length_le (by simp only [jT,List.length_append,km e (dJ ds)]; simp [gH]; omega),List.drop_of_length_le (by simp [gH])]
      simp) D
    rw [this,if_pos ⟨hl,c⟩]
    simp only [Option.bind_some,Z07_J3,bR,Bool.not_true,Bool.not_false,cond_true]
    rw [kE (v:=⟨d,jT ds d,(b' ds).Offset,(b' ds).Base⟩) (nw h hd hl)]
    rfl
   ·obtain ⟨m,g1,E,F,G⟩:=qZ e (by simpa using c)
    have:=fD (f:=fun s:List Int×Int=>Z07_L1 ⟨ds,(b' ds).Strides,(b' ds).Offset,(b' ds).Base⟩ d (b' ds) d s.1 s.2) (r:=.inl (false,⟨d,(jT ds d).take (d.length - ds.length+m)++(gH d.length).drop (d.length - ds.length+m),(b' ds).Offset,(b' ds).Base⟩)) (fun j=>((jT ds d).take (d.length - ds.length+j)++(gH d.length).drop (d.length - ds.length+j),(j:Int))) m
     (fun j g=>b j (by omega) (G j g))
     (by
      obtain ⟨u,B⟩:=mm (ds:=ds) hl i g1
      simp only [Z07_L1,a,u,B]
      rw [if_pos (by simp; omega),if_pos (by omega),if_pos (by omega),if_neg (by simp [E]),if_pos (by simp [F])]) D
    rw [this,if_neg (fun q=>c q.2)]
    simp [bR,dT]
  ·rw [if_pos (by simp; omega),if_neg (fun q=>hl q.1)]
   simp [bR,dT]
 ·simp [hd,bR,dT]
theorem tz {v:View}(a:v.Dims.length<cI)(h:¬ eK v.Dims):Za v=some false:=by
 unfold Za
 rw [gO a]
 simp [h]
theorem tA {v:View}(a:v.Dims.length<cI)(h:¬ eK v.Dims):Zh v=some false:=by
 unfold Zh
 rw [hN a]
 simp [h]
def m8 (ds:List Int)(a fr c st:Int):Prop:=0≤a∧a<(ds.length:Int)∧1≤c∧c≤4096∧1≤st∧st≤4096∧0≤fr∧fr<ix ds a∧fr+(c - 1)*st<ix ds a
instance (ds:List Int)(a fr c st:Int):Decidable (m8 ds a fr c st):=by unfold m8; infer_instance
theorem xA {xs:List Int}{j:Nat}{a:Int}(h:j<xs.length):ix (xs.set j a) (j:Int)=a:=by rw [cD (by simpa using h)]; simp
theorem nV (f:Int→Int→Int){xs ys:List Int}{j:Nat}{a b:Int}(e:j<xs.length)(g:j<ys.length):zs f (xs.set j a) (ys.set j b)=zs f xs ys - f (ix xs (j:Int)) (ix ys (j:Int))+f a b:=by
 induction xs generalizing ys j with
 | nil=>simp at e
 | cons x xs ih=>cases ys with
  | nil=>simp at g
  | cons y ys=>cases j with
   | zero=>simp [zs,ix]; omega
   | succ j =>
    rw [dL,dL,List.set_cons_succ,List.set_cons_succ]
    simp only [zs,ih (ys:=ys) (j:=j) (by simpa using e) (by simpa using g)]
    omega
theorem xB {ds:List Int}(h:∀ d∈ds,1≤d){j:Nat}(g:j<ds.length){c:Int}(h1:1≤c)(h2:c≤ix ds (j:Int)):pr (ds.set j c)≤pr ds∧∀ d∈ds.set j c,1≤d:=by
 induction ds generalizing j with
 | nil=>simp at g
 | cons d ds ih =>
  have l:1≤pr ds:=fU fun x e=>h x (by simp [e])
  cases j with
  | zero =>
   have h2:c≤d:=h2
   refine ⟨Int.mul_le_mul_of_nonneg_right h2 (by omega),List.forall_mem_cons.2 ⟨h1,fun x e=>h x (by simp [e])⟩⟩
  | succ j =>
   rw [dL] at h2
   obtain ⟨a,b⟩:=ih (fun x e=>h x (by simp [e])) (by simpa using g) h2
   have i:=h d (by simp)
   exact ⟨Int.mul_le_mul_of_nonneg_left a (by omega),List.forall_mem_cons.2 ⟨i,b⟩⟩
theorem j4 {xs:List Int}{j:Nat}{a:Int}{P:Int→Prop}(h:∀ x∈xs,P x)(e:P a):∀ x∈xs.set j a,P x:=by
 intro x b
 rcases List.mem_or_eq_of_mem_set b with b | rfl
 ·exact h x b
 ·exact e
theorem xC {ds:List Int}(h:eK ds){j:Nat}(r:j<ds.length){fr c st:Int}(U:1≤c)(F:0≤st)(J:0≤fr)(hl:fr+(c - 1)*st<ix ds (j:Int))(I:c≤ix ds (j:Int))(O:c=1→st=0) :
  VG (ds.set j c) ((eQ ds).set j (ix (eQ ds) (j:Int)*st)) (0+fr*ix (eQ ds) (j:Int)) (pr ds):=by
 have hp:=h.2.pos
 have M:=h.2.2
 obtain ⟨q1,Y⟩:=xB h.2.1 r U I
 have hm:=h.2.mem (bH r)
 have D:=dJ ds
 have E:=gF h.2 _ (bH (xs:=eQ ds) (k:=j) (by omega))
 obtain ⟨s,q⟩:∃ s,s=ix (eQ ds) (j:Int):=⟨_,rfl⟩
 rw [← q] at E ⊢
 have l:∀ x∈eQ ds,0≤x∧x≤4096:=gF h.2
 have G:=kb h.2
 have k0:0≤(c - 1)*st:=Int.mul_nonneg (by omega) F
 have k1:s*(fr+(c - 1)*st)≤s*(ix ds (j:Int) - 1):=Int.mul_le_mul_of_nonneg_left (by omega) E.1
 have k2:s*(fr+(c - 1)*st)=fr*s+s*st*(c - 1):=by rw [Int.mul_add,Int.mul_comm s fr,Int.mul_comm (c - 1) st,Int.mul_assoc]
 have k3:0≤s*st:=Int.mul_nonneg E.1 F
 have k4:0≤fr*s:=Int.mul_nonneg J E.1
 have k5:=j3 hm.1 E.1
 have k6:=j3 U k3
 have z:=nV hw (xs:=ds) (ys:=eQ ds) (a:=c) (b:=s*st) r (by omega)
 rw [← q,k5,k6] at z
 have k7:0≤s*st*(c - 1):=Int.mul_nonneg k3 (by omega)
 -- what the axis alone may come to
 have a0:s*(ix ds (j:Int) - 1)≤pr ds - 1:=by
  have hz:∀ (xs ys:List Int),(∀ d∈xs,1≤d)→(∀ y∈ys,0≤y)→∀ j:Nat,j<xs.length→j<ys.length→ix ys (j:Int)*(ix xs (j:Int) - 1)≤zs hw xs ys∧0≤zs hw xs ys:=by
   intro xs
   induction xs with
   | nil=>intro ys _ _ j r; simp at r
   | cons x xs ih =>
    intro ys i u j L B
    cases ys with
    | nil=>simp at B
    | cons y ys =>
     have e:=j3 (i x (by simp)) (u y (by simp))
     have e0:=Int.mul_nonneg (u y (by simp)) (show 0≤x - 1 by have:=i x (by simp); omega)
     have nn:∀ (xs ys:List Int),(∀ d∈xs,1≤d)→(∀ y∈ys,0≤y)→0≤zs hw xs ys:=by
      intro xs
      induction xs with
      | nil=>intro ys _ _; simp [zs]
      | cons d ds ihh=>intro ss h1 h2; cases ss with
       | nil=>simp [zs]
       | cons s ss =>
        have:=ihh ss (fun x i=>h1 x (by simp [i])) (fun x i=>h2 x (by simp [i]))
        have h3:=j3 (h1 d (by simp)) (h2 s (by simp))
        have h4:=Int.mul_nonneg (h2 s (by simp)) (show 0≤d - 1 by have:=h1 d (by simp); omega)
        simp only [zs]; omega
     have n1:=nn xs ys (fun d m=>i d (by simp [m])) (fun d m=>u d (by simp [m]))
     cases j with
     | zero =>
      simp only [zs,e]
      show y*(x - 1)≤_∧_
      omega
     | succ j =>
      rw [dL,dL]
      have:=ih ys (fun d m=>i d (by simp [m])) (fun d m=>u d (by simp [m])) j (by simpa using L) (by simpa using B)
      simp only [zs,e]
      omega
  have:=(hz ds (eQ ds) h.2.1 (fun y u=>(l y u).1) j r (by omega)).1
  rw [G,← q] at this
  exact this
 have Z:s*st≤4096:=by
  by_cases g:c=1
  ·rw [O g]; omega
  ·have:s*st*1≤s*st*(c - 1):=Int.mul_le_mul_of_nonneg_left (by omega) k3
   omega
 have T:SZ (ds.set j c):=⟨Y,by omega⟩
 refine ⟨⟨by simpa using h.1,T⟩,by simp [D],⟨hp,M⟩,⟨by omega,by omega⟩,?_,?_,by omega⟩
 ·exact j4 (fun x i=>by have:=l x i; omega) (by omega)
 ·rw [pQ Y (j4 (fun x i=>(l x i).1) k3)]; omega
def jB (ds:List Int)(a fr c st:Int):View:=⟨ds.set a.toNat c,(eQ ds).set a.toNat (if c=1 then 0 else ix (eQ ds) a*st),fr*ix (eQ ds) a,pr ds⟩
theorem vi {ds:List Int}{a fr c st:Int}(h:m8 ds a fr c st):c≤ix ds a∧0≤(c - 1)*st∧(c - 1)*st≤4096*4096:=by
 obtain ⟨h1,h2,i,j,e,g,l,m,q⟩:=h
 have:=j0 (a:=c - 1) (b:=st) (by omega) e
 have k:=Int.mul_le_mul (show c - 1≤4096 by omega) g (by omega) (show (0:Int)≤4096 by omega)
 exact ⟨by omega,by omega,k⟩
theorem nW {ds:List Int}(h:eK ds){a fr c st:Int}(g:m8 ds a fr c st):VG (jB ds a fr c st).Dims (jB ds a fr c st).Strides (jB ds a fr c st).Offset (jB ds a fr c st).Base:=by
 obtain ⟨q,D,l3⟩:=vi g
 obtain ⟨h1,h2,i,r,s,u,l,B,m⟩:=g
 obtain ⟨j,rfl⟩:=Int.eq_ofNat_of_zero_le h1
 have b:fr+(c - 1)*(if c=1 then 0 else st)<ix ds (j:Int):=by
  split
  ·omega
  ·exact m
 have:=xC h (j:=j) (by omega) (fr:=fr) (c:=c) (st:=if c=1 then 0 else st) i (by split<;>omega) l b q (fun e=>by simp [e])
 have e:ix (eQ ds) (j:Int)*(if c=1 then 0 else st)=if c=1 then 0 else ix (eQ ds) (j:Int)*st:=by split<;>simp
 rw [e,Int.zero_add] at this
 exact this
theorem tB {ds:List Int}(h:eK ds)(a:Int):Z2c (b' ds) a=some (decide (0≤a∧a<(ds.length:Int))):=by
 unfold Z2c
 rw [kD (j8 h)]
 simp only [Option.bind_some,Bool.true_and]
 congr 1
 rw [Bool.eq_iff_iff]
 simp [b']
 exact fun _=>decide_eq_true_iff
theorem vj {ds:List Int}(h:eK ds){a fr c st:Int}(D:1≤st):Z19 (b' ds) a fr c st=some (if m8 ds a fr c st then jB ds a fr c st else dT):=by
 have hn:=h.1
 have L:=dJ ds
 have b:(b' ds).Dims=ds:=rfl
 unfold Z19
 rw [tB h]
 simp only [Option.bind_some,b]
 by_cases g:(0≤a∧a<(ds.length:Int))∧1≤c∧c≤4096∧st≤4096∧0≤fr
 ·obtain ⟨g1,G,I,r,E⟩:=g
  obtain ⟨j,rfl⟩:=Int.eq_ofNat_of_zero_le g1.1
  have J:j<ds.length:=by omega
  have Z:=h.2.mem (bH J)
  have l:=gF h.2 _ (bH (xs:=eQ ds) (k:=j) (by omega))
  have m:(((((!decide (0≤(j:Int)∧(j:Int)<(ds.length:Int))||decide (c<1))||decide (c>4096))||decide (st < -4096))||decide (st>4096))||decide (fr<0))=false:=by simp; omega
  rw [if_pos (fun _=>g1),m,Bool.false_or]
  by_cases g6:fr<ix ds (j:Int)
  ·rw [if_neg (by simp; omega)]
   have k0:0≤(c - 1)*st:=Int.mul_nonneg (by omega) (by omega)
   have k1:=Int.mul_le_mul (show c - 1≤4096 by omega) r (by omega) (show (0:Int)≤4096 by omega)
   have e:aK (fr+aK (aK (c - 1)*st))=fr+(c - 1)*st:=by
    rw [bD (n:=c - 1) (by omega) (by omega),bD (n:=(c - 1)*st) (by omega) (by omega),bD (by omega) (by omega)]
   rw [e,if_pos (fun _=>g1)]
   by_cases g7:fr+(c - 1)*st<ix ds (j:Int)
   ·have F:m8 ds (j:Int) fr c st:=⟨g1.1,g1.2,G,I,D,r,E,g6,g7⟩
    have O:=nW h F
    rw [if_neg (by simp; omega),if_pos F]
    unfold Z2e
    rw [fL (by rw [b]; omega),fL (by show (eQ ds).length≤_; omega)]
    simp only [Option.bind_some,nm]
    have B:(b' ds).Strides=eQ ds:=rfl
    have M:(b' ds).Offset=0:=rfl
    have s:(b' ds).Base=pr ds:=rfl
    simp only [B,M,s,b]
    rw [if_pos (by omega),if_pos (by omega)]
    have f1:0≤fr*ix (eQ ds) (j:Int):=Int.mul_nonneg E l.1
    have T:=Int.mul_le_mul (show fr≤4096 by omega) l.2 l.1 (show (0:Int)≤4096 by omega)
    have U:0≤ix (eQ ds) (j:Int)*st:=Int.mul_nonneg l.1 (by omega)
    have Y:=Int.mul_le_mul l.2 r (by omega) (show (0:Int)≤4096 by omega)
    rw [bD (n:=ix (eQ ds) (j:Int)*st) (by omega) (by omega)]
    have i:∀ x:List Int,x=(jB ds (j:Int) fr c st).Strides→Z19_J1 (j:Int) fr c ⟨ds,eQ ds,0,pr ds⟩ x=some (jB ds (j:Int) fr c st):=by
     rintro x rfl
     have u:(⟨ds.set (j:Int).toNat c,(jB ds (j:Int) fr c st).Strides,0+fr*ix (eQ ds) (j:Int),pr ds⟩:View)=jB ds (j:Int) fr c st:=by simp [jB]
     simp only [Z19_J1]
     rw [bD (n:=fr*ix (eQ ds) (j:Int)) (by omega) (by omega),bD (by omega) (by omega),u]
     unfold Z2f
     rw [kD O]
     rfl
    by_cases g8:c=1
    ·rw [if_pos (by simp [g8])]
     exact i _ (by simp [jB,g8])
    ·rw [if_neg (by simp [g8])]
     exact i _ (by simp [jB,g8])
   ·rw [if_pos (by simp; omega),if_neg (fun q=>g7 q.2.2.2.2.2.2.2.2)]
    rfl
  ·rw [if_pos (by simp; omega),if_neg (fun q=>g6 q.2.2.2.2.2.2.2.1)]
   rfl
 ·have m:(((((!decide (0≤a∧a<(ds.length:Int))||decide (c<1))||decide (c>4096))||decide (st < -4096))||decide (st>4096))||decide (fr<0))=true:=by
   simp only [Bool.or_eq_true,Bool.not_eq_true',decide_eq_true_eq,decide_eq_false_iff_not]
   omega
  rw [if_pos (fun q=>by rw [m] at q; cases q),m,if_pos (by simp),if_neg (fun q=>g ⟨⟨q.1,q.2.1⟩,q.2.2.1,q.2.2.2.1,q.2.2.2.2.2.1,q.2.2.2.2.2.2.1⟩)]
  rfl
theorem tC {v:View}{j:Nat}(e:j<v.Dims.length)(b:j<v.Strides.length)(a s:Int):Z0y v (j:Int) a s=some ⟨v.Dims.set j a,v.Strides.set j (if a=1 then 0 else s),v.Offset,v.Base⟩:=by
 unfold Z0y
 by_cases g:a=1
 ·rw [if_pos (by simp [g])]
  simp only [Z0y_J3]
  rw [if_pos (by omega),if_pos (by omega),if_pos g,Int.toNat_natCast]
 ·rw [if_neg (by simp [g])]
  simp only [Z0y_J3]
  rw [if_pos (by omega),if_pos (by omega),if_neg g,Int.toNat_natCast]
theorem vk {ds:List Int}(h:eK ds){a fr c st:Int}(s:1≤st):Z2h (b' ds) a fr c st=some (if m8 ds a fr c st then jB ds a fr c st else dT):=by
 have U:=h.1
 have I:=dJ ds
 have l:(b' ds).Dims=ds:=rfl
 have r:(b' ds).Strides=eQ ds:=rfl
 have J:(b' ds).Offset=0:=rfl
 have D:(b' ds).Base=pr ds:=rfl
 unfold Z2h Z3a
 rw [kE (j8 h)]
 simp only [Option.bind_some,Bool.not_true,Bool.false_eq_true,if_false]
 rw [eX (by rw [l]; omega),eX (by rw [r]; omega)]
 simp only [Option.bind_some,l,r,J,D]
 unfold Z1h
 simp only [Zm,Option.bind_some]
 have no:∀ (p:View) (z:Int),((bR (!(!((false,p,z):Bool×View×Int).1)) (Zh ((false,p,z):Bool×View×Int).2.1)).bind fun r32:Bool=>if ((!((false,p,z):Bool×View×Int).1)||(!r32))=true then some ((⟨[],[],0,0⟩:View),z) else some (p,z))=some (dT,z):=by
  intro p z; simp [bR,dT]
 by_cases g:(0≤a∧a<(ds.length:Int))∧1≤c∧c≤4096
 ·obtain ⟨g1,E,F⟩:=g
  obtain ⟨j,rfl⟩:=Int.eq_ofNat_of_zero_le g1.1
  have G:j<ds.length:=by omega
  have T:=h.2.mem (bH G)
  have m:=gF h.2 _ (bH (xs:=eQ ds) (k:=j) (by omega))
  rw [if_neg (by simp; omega),if_pos g1]
  by_cases g6:st≤4096∧0≤fr∧fr<ix ds (j:Int)
  ·rw [if_neg (by simp; omega)]
   have Y:0≤(c - 1)*st:=Int.mul_nonneg (by omega) (by omega)
   have k1:=Int.mul_le_mul (show c - 1≤4096 by omega) g6.1 (by omega) (show (0:Int)≤4096 by omega)
   have e:aK (fr+aK (st*aK (c - 1)))=fr+(c - 1)*st:=by
    rw [bD (n:=c - 1) (by omega) (by omega),Int.mul_comm st,bD (n:=(c - 1)*st) (by omega) (by omega),bD (by omega) (by omega)]
   rw [e]
   have i:∀ z:Int,(z=if c=1 then 0 else st)→m8 ds (j:Int) fr c st→Z1h_J3 ⟨ds,eQ ds,0,pr ds⟩ (j:Int) c fr z=some (true,jB ds (j:Int) fr c st,z):=by
    intro z B b
    have f1:0≤fr*ix (eQ ds) (j:Int):=Int.mul_nonneg g6.2.1 m.1
    have L:=Int.mul_le_mul (show fr≤4096 by omega) m.2 m.1 (show (0:Int)≤4096 by omega)
    have M:0≤ix (eQ ds) (j:Int)*z:=Int.mul_nonneg m.1 (by rw [B]; split<;>omega)
    have O:=Int.mul_le_mul m.2 (show z≤4096 by rw [B]; split<;>omega) (by rw [B]; split<;>omega) (show (0:Int)≤4096 by omega)
    simp only [Z1h_J3]
    rw [if_pos (by omega),bD (n:=fr*ix (eQ ds) (j:Int)) (by omega) (by omega),bD (n:=0+fr*ix (eQ ds) (j:Int)) (by omega) (by omega),bD (by omega) (by omega),tC (by simpa using G) (by simp; omega)]
    simp only [Option.bind_some,jB,Int.toNat_natCast,Int.zero_add]
    congr 5
    rw [B]; split<;>rfl
   have u:∀ z:Int,m8 ds (j:Int) fr c st→((bR (!(!((true,jB ds (j:Int) fr c st,z):Bool×View×Int).1)) (Zh ((true,jB ds (j:Int) fr c st,z):Bool×View×Int).2.1)).bind fun r32:Bool=>if ((!((true,jB ds (j:Int) fr c st,z):Bool×View×Int).1)||(!r32))=true then some ((⟨[],[],0,0⟩:View),z) else some (jB ds (j:Int) fr c st,z))=some (jB ds (j:Int) fr c st,z):=by
    intro z b
    simp only [bR,Bool.not_true,Bool.not_false,cond_true,Bool.false_or]
    rw [kE (nW h b)]
    rfl
   by_cases g8:c=1
   ·have b:m8 ds (j:Int) fr c st:=⟨g1.1,g1.2,E,F,s,g6.1,g6.2.1,g6.2.2,by rw [g8]; omega⟩
    rw [if_neg (by simp; omega),i 0 (by simp [g8]) b]
    simp only [Option.bind_some]
    rw [u 0 b,if_pos b]
    rfl
   ·rw [if_pos (by simp; omega)]
    by_cases g7:fr+(c - 1)*st<ix ds (j:Int)
    ·have b:m8 ds (j:Int) fr c st:=⟨g1.1,g1.2,E,F,s,g6.1,g6.2.1,g6.2.2,g7⟩
     rw [if_neg (by simp; omega),i st (by simp [g8]) b]
     simp only [Option.bind_some]
     rw [u st b,if_pos b]
     rfl
    ·rw [if_pos (by simp; omega),if_neg (fun q=>g7 q.2.2.2.2.2.2.2.2)]
     simp only [Option.bind_some]
     rw [no]
     rfl
  ·rw [if_pos (by simp; omega),if_neg (fun q=>g6 ⟨q.2.2.2.2.2.1,q.2.2.2.2.2.2.1,q.2.2.2.2.2.2.2.1⟩)]
   simp only [Option.bind_some]
   rw [no]
   rfl
 ·rw [if_pos (by simp; omega),if_neg (fun q=>g ⟨⟨q.1,q.2.1⟩,q.2.2.1,q.2.2.2.1⟩)]
  simp only [Option.bind_some]
  rw [no]
  rfl
def jl (ds:List Int)(a sz st:Int):Int:=(ix ds a - sz) / st+1
def gC (ds:List Int)(a sz st:Int):View:=⟨ds.set a.toNat (jl ds a sz st)++[sz],(eQ ds).set a.toNat (if jl ds a sz st=1 then 0 else ix (eQ ds) a*st)++[if sz=1 then 0 else ix (eQ ds) a],0,pr ds⟩
def m9 (ds:List Int)(a sz st:Int):Prop:=0≤a∧a<(ds.length:Int)∧1≤sz∧1≤st∧sz≤ix ds a
instance (ds:List Int)(a sz st:Int):Decidable (m9 ds a sz st):=by unfold m9; infer_instance
theorem An {xs ys:List Int}(a:∀ d∈xs,1≤d)(b:∀ y∈ys,0≤y):0≤zs hw xs ys:=by
 induction xs generalizing ys with
 | nil=>simp [zs]
 | cons d ds ih=>cases ys with
  | nil=>simp [zs]
  | cons s ss =>
   have:=ih (ys:=ss) (fun x h=>a x (by simp [h])) (fun x h=>b x (by simp [h]))
   have e:=j3 (a d (by simp)) (b s (by simp))
   have g:=Int.mul_nonneg (b s (by simp)) (show 0≤d - 1 by have:=a d (by simp); omega)
   simp only [zs]; omega
theorem vl {ds:List Int}(h:eK ds){j:Nat}(g:j<ds.length):ix (eQ ds) (j:Int)*(ix ds (j:Int) - 1)≤pr ds - 1:=by
 have i:=dJ ds
 have l:=h.2.mem (bH g)
 have m:=gF h.2 _ (bH (xs:=eQ ds) (k:=j) (by omega))
 have z:=nV hw (xs:=ds) (ys:=eQ ds) (a:=ix ds (j:Int)) (b:=0) g (by omega)
 have e:ds.set j (ix ds (j:Int))=ds:=by rw [cD g]; simp
 rw [e,BI,j3 l.1 m.1,kb h.2] at z
 have:=An (xs:=ds) (ys:=(eQ ds).set j 0) h.2.1 (j4 (fun x q=>(gF h.2 x q).1) (by omega))
 omega
theorem nX {ds:List Int}{a sz st:Int}(h:m9 ds a sz st):1≤jl ds a sz st∧jl ds a sz st≤ix ds a∧(jl ds a sz st - 1)*st≤ix ds a - sz:=by
 obtain ⟨h1,h2,e,g,i⟩:=h
 unfold jl
 have a1:0≤(ix ds a - sz) / st:=Int.ediv_nonneg (by omega) (by omega)
 have b:(ix ds a - sz) / st≤ix ds a - sz:=Int.ediv_le_self _ (by omega)
 have a3:=Int.ediv_mul_le (ix ds a - sz) (show st≠0 by omega)
 refine ⟨by omega,by omega,?_⟩
 rw [show (ix ds a - sz) / st+1 - 1=(ix ds a - sz) / st by omega]
 exact a3
theorem pR {ds:List Int}(h:eK ds){a sz st:Int}(D:m9 ds a sz st)(G:eK (gC ds a sz st).Dims):VG (gC ds a sz st).Dims (gC ds a sz st).Strides (gC ds a sz st).Offset (gC ds a sz st).Base:=by
 obtain ⟨O,n2,n3⟩:=nX D
 obtain ⟨h1,h2,Z,h4,h5⟩:=D
 obtain ⟨j,rfl⟩:=Int.eq_ofNat_of_zero_le h1
 have I:j<ds.length:=by omega
 have l:=dJ ds
 have hm:=h.2.mem (bH I)
 have u:=gF h.2 _ (bH (xs:=eQ ds) (k:=j) (by omega))
 have U:=vl h I
 have hp:=h.2.pos
 have L:=h.2.2
 have B:=kb h.2
 obtain ⟨n,J⟩:∃ n,n=jl ds (j:Int) sz st:=⟨_,rfl⟩
 obtain ⟨s,r⟩:∃ s,s=ix (eQ ds) (j:Int):=⟨_,rfl⟩
 have M:(gC ds (j:Int) sz st).Dims=ds.set j n++[sz]:=by rw [J]; simp [gC]
 have Y:(gC ds (j:Int) sz st).Strides=(eQ ds).set j (if n=1 then 0 else s*st)++[if sz=1 then 0 else s]:=by rw [J,r]; simp [gC]
 rw [← J] at O n2 n3
 rw [← r] at u U
 rw [M] at G
 have k0:0≤(n - 1)*st:=Int.mul_nonneg (by omega) (by omega)
 have k3:0≤s*st:=Int.mul_nonneg u.1 (by omega)
 have k4:s*((n - 1)*st)=s*st*(n - 1):=by rw [Int.mul_comm (n - 1) st,Int.mul_assoc]
 have k5:s*((n - 1)*st+(sz - 1))≤s*(ix ds (j:Int) - 1):=Int.mul_le_mul_of_nonneg_left (by omega) u.1
 rw [Int.mul_add,k4] at k5
 have k6:0≤s*(sz - 1):=Int.mul_nonneg u.1 (by omega)
 have k7:0≤s*st*(n - 1):=Int.mul_nonneg k3 (by omega)
 obtain ⟨i,m⟩:∃ i,i=if n=1 then 0 else s*st:=⟨_,rfl⟩
 obtain ⟨g,q⟩:∃ g,g=if sz=1 then 0 else s:=⟨_,rfl⟩
 have E:0≤i∧i≤4096∧i*(n - 1)=s*st*(n - 1):=by
  by_cases c:n=1
  ·rw [m,if_pos c,c]; simp
  ·rw [m,if_neg c]
   have:s*st*1≤s*st*(n - 1):=Int.mul_le_mul_of_nonneg_left (by omega) k3
   omega
 have F:0≤g∧g≤4096∧g*(sz - 1)=s*(sz - 1):=by
  by_cases c:sz=1
  ·rw [q,if_pos c,c]; simp
  ·rw [q,if_neg c]; omega
 have z:=nV hw (xs:=ds) (ys:=eQ ds) (a:=n) (b:=i) I (by omega)
 rw [← r,j3 hm.1 u.1,j3 O E.1,B,E.2.2] at z
 have z2:zs hw (ds.set j n++[sz]) ((eQ ds).set j i++[g])=zs hw (ds.set j n) ((eQ ds).set j i)+s*(sz - 1):=by
  rw [tv _ (by simp [l])]
  have:zs hw [sz] [g]=hw sz g:=by simp [zs]
  rw [this,j3 Z F.1,F.2.2]
 have T:∀ x∈(eQ ds).set j i++[g],0≤x∧x≤4096:=by
  intro x e
  rcases List.mem_append.1 e with e | e
  ·exact j4 (fun x e=>gF h.2 x e) ⟨E.1,E.2.1⟩ x e
  ·have:x=g:=by simpa using e
   subst this; exact ⟨F.1,F.2.1⟩
 rw [M,Y,← m,← q]
 refine ⟨G,by simp [l],⟨hp,L⟩,⟨Int.le_refl 0,by show 0<pr ds; omega⟩,fun x e=>by have:=T x e; omega,?_,?_⟩
 ·rw [pQ G.2.1 fun x e=>(T x e).1]; show (0:Int)≤0+0; decide
 ·show 0+_<pr ds
  omega
theorem rJ {ds:List Int}(h:eK ds){a sz st:Int}:Z0c (b' ds) a sz st=some (if m9 ds a sz st∧eK (gC ds a sz st).Dims then gC ds a sz st else dT):=by
 have hn:=h.1
 have I:=dJ ds
 have i:(b' ds).Dims=ds:=rfl
 have b:(b' ds).Strides=eQ ds:=rfl
 have J:(b' ds).Offset=0:=rfl
 have m:(b' ds).Base=pr ds:=rfl
 unfold Z0c
 rw [tB h]
 simp only [Option.bind_some,i,b]
 by_cases g:(0≤a∧a<(ds.length:Int))∧1≤sz∧1≤st
 ·obtain ⟨g1,E,F⟩:=g
  have l:((!decide (0≤a∧a<(ds.length:Int))||decide (sz<1))||decide (st<1))=false:=by simp; omega
  rw [if_pos (fun _=>g1),l,Bool.false_or]
  by_cases g6:sz≤ix ds a
  ·have s:m9 ds a sz st:=⟨g1.1,g1.2,E,F,g6⟩
   obtain ⟨O,T,n3⟩:=nX s
   obtain ⟨j,rfl⟩:=Int.eq_ofNat_of_zero_le g1.1
   have G:j<ds.length:=by omega
   have Z:=h.2.mem (bH G)
   have u:=gF h.2 _ (bH (xs:=eQ ds) (k:=j) (by omega))
   rw [if_neg (by simp; omega)]
   unfold Z2e
   rw [fL (by rw [i]; omega),fL (by rw [b]; omega)]
   simp only [Option.bind_some,nm,i,b,J,m]
   have e:aK (aK ((aK (ix ds (j:Int) - sz)).tdiv st)+1)=jl ds (j:Int) sz st:=by
    rw [bD (n:=ix ds (j:Int) - sz) (by omega) (by omega),Int.tdiv_eq_ediv_of_nonneg (by omega)]
    unfold jl at O T ⊢
    rw [bD (n:=(ix ds (j:Int) - sz) / st) (by omega) (by omega),bD (by omega) (by omega)]
   simp only [e]
   rw [if_pos (by omega),if_pos (by omega),if_pos (by omega),if_pos (by omega),if_pos (by omega)]
   have B:∀ x:List Int,x++[if sz=1 then 0 else ix (eQ ds) (j:Int)]=(gC ds (j:Int) sz st).Strides→x.length=ds.length→Z0c_J1 (b' ds) (j:Int) sz ⟨ds,eQ ds,0,pr ds⟩ (ds.set (j:Int).toNat (jl ds (j:Int) sz st)) x=some (if m9 ds (j:Int) sz st∧eK (gC ds (j:Int) sz st).Dims then gC ds (j:Int) sz st else dT):=by
    intro x L M
    have D:∀ y,y=(if sz=1 then 0 else ix (eQ ds) (j:Int))→Z0c_J2 sz ⟨ds,eQ ds,0,pr ds⟩ (ds.set (j:Int).toNat (jl ds (j:Int) sz st)) x y=some (if m9 ds (j:Int) sz st∧eK (gC ds (j:Int) sz st).Dims then gC ds (j:Int) sz st else dT):=by
     rintro y rfl
     simp only [Z0c_J2]
     rw [if_pos (by simp; omega),L]
     have r:(⟨ds.set (j:Int).toNat (jl ds (j:Int) sz st)++[sz],(gC ds (j:Int) sz st).Strides,0,pr ds⟩:View)=gC ds (j:Int) sz st:=rfl
     rw [r]
     unfold Z2f
     by_cases q:eK (gC ds (j:Int) sz st).Dims
     ·rw [kD (pR h s q),if_pos ⟨s,q⟩]
      rfl
     ·rw [tz (by simp [gC,cI]; omega) q,if_neg (fun z=>q z.2)]
      rfl
    simp only [Z0c_J1]
    rw [if_pos (by simp; omega)]
    by_cases q:sz=1
    ·rw [if_pos (by simp [q])]; exact D _ (by simp [q])
    ·rw [if_neg (by simp [q])]; exact D _ (by simp [q,b])
   by_cases q:jl ds (j:Int) sz st=1
   ·rw [if_neg (by simp; omega)]
    exact B _ (by simp [gC,q]) (by simp; omega)
   ·have k:(jl ds (j:Int) sz st - 1)*st≤4096:=by omega
    have k2:1*st≤(jl ds (j:Int) sz st - 1)*st:=Int.mul_le_mul_of_nonneg_right (by omega) (by omega)
    have U:0≤ix (eQ ds) (j:Int)*st:=Int.mul_nonneg u.1 (by omega)
    have Y:=Int.mul_le_mul u.2 (show st≤4096 by omega) (by omega) (show (0:Int)≤4096 by omega)
    rw [if_pos (by simp; omega),bD (n:=ix (eQ ds) (j:Int)*st) (by omega) (by omega),List.set_set]
    exact B _ (by simp [gC,q]) (by simp; omega)
  ·rw [if_pos (by simp; omega),if_neg (fun q=>g6 q.1.2.2.2.2)]
   rfl
 ·have l:((!decide (0≤a∧a<(ds.length:Int))||decide (sz<1))||decide (st<1))=true:=by
   simp only [Bool.or_eq_true,Bool.not_eq_true',decide_eq_true_eq,decide_eq_false_iff_not]
   omega
  rw [if_pos (fun q=>by rw [l] at q; cases q),l,if_pos (by simp),if_neg (fun q=>g ⟨⟨q.1.1,q.1.2.1⟩,q.1.2.2.1,q.1.2.2.2.1⟩)]
  rfl
theorem Ao {v:View}(i:v.Dims.length≤6)(h:v.Strides.length=v.Dims.length)(a s:Int):Z2n v a s=some ⟨v.Dims++[a],v.Strides++[if a=1 then 0 else s],v.Offset,v.Base⟩:=by
 unfold Z2n
 rw [if_pos (by simp; omega),if_pos (by simp; omega)]
 have e:aK (((v.Dims++[(0:Int)]).length:Int) - 1)=(v.Dims.length:Int):=by
  have:((v.Dims++[(0:Int)]).length:Int)=v.Dims.length+1:=by simp
  rw [this,bD (by omega) (by omega)]; omega
 rw [e,tC (by simp) (by simp; omega)]
 simp only [Option.bind_some]
 have b:(v.Dims++[0]).set v.Dims.length a=v.Dims++[a]:=by rw [List.set_append_right _ _ (Nat.le_refl _)]; simp
 have g:∀ x:Int,(v.Strides++[0]).set v.Dims.length x=v.Strides++[x]:=by intro x; rw [← h,List.set_append_right _ _ (Nat.le_refl _)]; simp
 rw [b,g]
theorem rK {ds:List Int}(h:eK ds){a sz st:Int}:Z2j (b' ds) a sz st=some (if m9 ds a sz st∧eK (gC ds a sz st).Dims then gC ds a sz st else dT):=by
 have hn:=h.1
 have L:=dJ ds
 have l:(b' ds).Dims=ds:=rfl
 have m:(b' ds).Strides=eQ ds:=rfl
 have M:(b' ds).Offset=0:=rfl
 have r:(b' ds).Base=pr ds:=rfl
 unfold Z2j Z3c
 rw [kE (j8 h)]
 simp only [Option.bind_some,Bool.not_true,Bool.false_eq_true,if_false]
 rw [eX (by rw [l]; omega),eX (by rw [m]; omega)]
 simp only [Option.bind_some,l,m,M,r]
 unfold Z1i
 simp only [Zm,Option.bind_some]
 by_cases g:(0≤a∧a<(ds.length:Int))∧1≤sz∧1≤st
 ·obtain ⟨g1,I,J⟩:=g
  rw [if_pos (fun _=>g1)]
  by_cases g6:sz≤ix ds a
  ·have u:m9 ds a sz st:=⟨g1.1,g1.2,I,J,g6⟩
   obtain ⟨O,T,n3⟩:=nX u
   obtain ⟨j,rfl⟩:=Int.eq_ofNat_of_zero_le g1.1
   have E:j<ds.length:=by omega
   have Z:=h.2.mem (bH E)
   have F:=gF h.2 _ (bH (xs:=eQ ds) (k:=j) (by omega))
   rw [if_neg (by simp; omega),if_pos (by omega),if_pos g1,if_pos (by omega)]
   have e:aK (aK ((aK (ix ds (j:Int) - sz)).tdiv st)+1)=jl ds (j:Int) sz st:=by
    rw [bD (n:=ix ds (j:Int) - sz) (by omega) (by omega),Int.tdiv_eq_ediv_of_nonneg (by omega)]
    unfold jl at O T ⊢
    rw [bD (n:=(ix ds (j:Int) - sz) / st) (by omega) (by omega),bD (by omega) (by omega)]
   have G:∀ z:Int,(z=if jl ds (j:Int) sz st=1 then 0 else st)→Z1i_J3 ⟨ds,eQ ds,0,pr ds⟩ (j:Int) sz st z=some (true,gC ds (j:Int) sz st,z):=by
    intro z s
    have b:0≤z∧z≤4096:=by
     by_cases q:jl ds (j:Int) sz st=1
     ·rw [s,if_pos q]; omega
     ·have k2:1*st≤(jl ds (j:Int) sz st - 1)*st:=Int.mul_le_mul_of_nonneg_right (by omega) (by omega)
      rw [s,if_neg q]; omega
    have U:0≤ix (eQ ds) (j:Int)*z:=Int.mul_nonneg F.1 b.1
    have Y:=Int.mul_le_mul F.2 b.2 b.1 (show (0:Int)≤4096 by omega)
    simp only [Z1i_J3,e]
    rw [bD (by omega) (by omega),tC (by simpa using E) (by simp; omega)]
    simp only [Option.bind_some]
    rw [Ao (by simp; omega) (by simp; omega)]
    simp only [Option.bind_some,gC,Int.toNat_natCast]
    congr 6
    rw [s]; split<;>rfl
   have i:∀ z:Int,(bR (!(!((true,gC ds (j:Int) sz st,z):Bool×View×Int).1)) (Zh ((true,gC ds (j:Int) sz st,z):Bool×View×Int).2.1)).bind (fun B:Bool=>if ((!((true,gC ds (j:Int) sz st,z):Bool×View×Int).1)||(!B))=true then some ((⟨[],[],0,0⟩:View),z) else some (gC ds (j:Int) sz st,z))=some ((if m9 ds (j:Int) sz st∧eK (gC ds (j:Int) sz st).Dims then gC ds (j:Int) sz st else dT),z):=by
    intro z
    simp only [bR,Bool.not_true,Bool.not_false,cond_true,Bool.false_or]
    by_cases q:eK (gC ds (j:Int) sz st).Dims
    ·rw [kE (pR h u q),if_pos ⟨u,q⟩]
     rfl
    ·rw [tA (by simp [gC,cI]; omega) q,if_neg (fun z=>q z.2)]
     rfl
   rw [e]
   by_cases q:jl ds (j:Int) sz st=1
   ·rw [if_pos (by simp [q]),G 0 (by simp [q])]
    simp only [Option.bind_some]
    rw [i]
    rfl
   ·rw [if_neg (by simp [q]),G st (by simp [q])]
    simp only [Option.bind_some]
    rw [i]
    rfl
  ·rw [if_pos (by simp; omega),if_neg (fun q=>g6 q.1.2.2.2.2)]
   simp [bR,dT]
 ·have D:(((!(decide (a≥0)&&decide (a<(ds.length:Int))))||decide (sz<1))||decide (st<1))=true:=by
   simp only [Bool.or_eq_true,Bool.not_eq_true',decide_eq_true_eq,Bool.and_eq_false_iff,decide_eq_false_iff_not]
   omega
  rw [if_pos (fun q=>by rw [D] at q; cases q),D,if_pos (by simp),if_neg (fun q=>g ⟨⟨q.1.1,q.1.2.1⟩,q.1.2.2.1,q.1.2.2.2.1⟩)]
  simp [bR,dT]
def NR (x:Int):Prop:=0≤x∧x<2147483647
instance (x:Int):Decidable (NR x):=by unfold NR; infer_instance
def RG (n:Nat)(x:List Int):Prop:=x.length=n∧∀ y∈x,NR y
theorem RG.set {n:Nat}{x:List Int}(h:RG n x){y:Int}(a:NR y)(k:Nat):RG n (x.set k y):=⟨by simp [h.1],j4 h.2 a⟩
theorem RG.rep (n:Nat):RG n (List.replicate n 0):=⟨by simp,fun y a=>by rw [(List.mem_replicate.1 a).2]; decide⟩
theorem RG.ix {n:Nat}{x:List Int}(h:RG n x){i:Int}(a:0≤i)(h1:i<(n:Int)):NR (ix x i):=by
 obtain ⟨k,rfl⟩:=Int.eq_ofNat_of_zero_le a
 exact h.2 _ (bH (by have:=h.1; omega))
theorem l6 {R:Type}{f:List Int×Int→Option ((List Int×Int)⊕R)}{Post:R→Prop}(m n:Nat)(l:∀ j:Nat,j<n→∀ x,RG m x→∃ x',f (x,(j:Int))=some (.inl (x',((j+1:Nat):Int)))∧RG m x')(g:∀ x,RG m x→∃ r,f (x,(n:Int))=some (.inr r)∧Post r){x:List Int}(e:RG m x):∃ r,aW f (x,0)=some r∧Post r :=
 iK (f:=f) (fun j s=>s.2=(j:Int)∧RG m s.1) n (fun j s h a=>by
  obtain ⟨x,i⟩:=s
  obtain ⟨rfl,b⟩:=a
  obtain ⟨x',h1,h2⟩:=l j h x b
  exact ⟨_,h1,rfl,h2⟩) (fun s a=>by
  obtain ⟨x,i⟩:=s
  obtain ⟨rfl,b⟩:=a
  exact g x b) (s:=(x,0)) ⟨rfl,e⟩
theorem jU (p:Int):∃ m,Zq p=some m∧NR m:=by
 have h1:=Int.tmod_lt_of_pos p (show (0:Int)<2147483647 by omega)
 have h2 : -2147483647<p.tmod 2147483647:=by
  rcases Int.le_total 0 p with h | h
  ·have:=Int.tmod_nonneg 2147483647 h; omega
  ·have e:p.tmod 2147483647 = -((-p).tmod 2147483647):=by rw [Int.neg_tmod]; omega
   have:=Int.tmod_lt_of_pos (-p) (show (0:Int)<2147483647 by omega)
   omega
 unfold Zq
 by_cases c:p.tmod 2147483647<0
 ·rw [if_pos (by simpa using c)]
  exact ⟨_,rfl,by rw [bD (by omega) (by omega)]; constructor<;>omega⟩
 ·rw [if_neg (by simpa using c)]
  exact ⟨_,rfl,by constructor<;>omega⟩
theorem kc (p:Int):∃ m,Z1e p=some m:=by
 obtain ⟨m,h,_⟩:=jU p
 unfold Z1e
 rw [h]
 simp only [Option.bind_some]
 split<;>exact ⟨_,rfl⟩
theorem nY (a b:Int):∃ m,Z1m a b=some m∧NR m:=by
 obtain ⟨x,h1,_⟩:=jU a
 obtain ⟨y,h2,_⟩:=jU b
 obtain ⟨z,e,g⟩:=jU (aK (x+y))
 exact ⟨z,by unfold Z1m; simp [h1,h2,e],g⟩
theorem r0 (a b:Int):∃ m,Z2b a b=some m∧NR m:=by
 obtain ⟨x,h1,_⟩:=jU a
 obtain ⟨y,h2,_⟩:=jU b
 obtain ⟨z,e,g⟩:=jU (aK (x - y))
 exact ⟨z,by unfold Z2b; simp [h1,h2,e],g⟩
theorem mn (a b:Int):∃ m,Z1f a b=some m∧NR m:=by
 obtain ⟨x,h1,_⟩:=jU a
 obtain ⟨y,h2,_⟩:=jU b
 obtain ⟨z,e,g⟩:=jU (aK (x*y))
 exact ⟨z,by unfold Z1f; simp [h1,h2,e],g⟩
theorem vm (a:Int):∀ (f:Nat) (n:Int),0≤n→n<2 ^ f→n≤1099511627776→∃ m,Zs_R (f+1) a n=some m∧NR m:=by
 intro f
 induction f with
 | zero =>
  intro n b h1 _
  have:n=0:=by simp at h1; omega
  subst this
  exact ⟨1,rfl,by decide⟩
 | succ f ih =>
  intro n b h1 q
  show ∃ m,Zs_S (Zs_R (f+1)) a n=some m∧NR m
  unfold Zs_S
  by_cases c:n=0
  ·rw [if_pos (by simp [c])]; exact ⟨1,rfl,by decide⟩
  ·rw [if_neg (by simp [c])]
   have e:n.tdiv 2=n / 2:=Int.tdiv_eq_ediv_of_nonneg b
   have h2:n / 2<2 ^ f:=by rw [Int.pow_succ] at h1; omega
   rw [e,bD (by omega) (by omega)]
   obtain ⟨x,g1,l⟩:=ih (n / 2) (by omega) h2 (by omega)
   obtain ⟨y,g,h⟩:=mn x x
   obtain ⟨z,i,j⟩:=mn y a
   rw [g1]
   simp only [Option.bind_some,g]
   split
   ·simp only [i,Option.bind_some]; exact ⟨z,rfl,j⟩
   ·exact ⟨y,rfl,h⟩
theorem rL (a:Int):∃ m,Z2a a=some m∧NR m:=by
 obtain ⟨x,h1,_⟩:=jU a
 unfold Z2a Zs
 rw [h1]
 simp only [Option.bind_some]
 obtain ⟨y,h2,b⟩:=vm x 31 2147483645 (by omega) (by decide) (by omega)
 have mono:∀ f g:Nat,∀ n m,f≤g→Zs_R f x n=some m→Zs_R g x n=some m:=by
  intro f
  induction f with
  | zero=>intro g n m _ h; cases h
  | succ f ih =>
   intro g n m i h
   obtain ⟨g,rfl⟩:∃ k,g=k+1:=⟨g - 1,by omega⟩
   change Zs_S (Zs_R f) x n=some m at h
   show Zs_S (Zs_R g) x n=some m
   unfold Zs_S at h ⊢
   split
   ·rename_i c; rw [if_pos c] at h; exact h
   ·rename_i c
    rw [if_neg c] at h
    cases e:Zs_R f x (aK (n.tdiv 2)) with
    | none=>rw [e] at h; cases h
    | some r=>rw [e] at h; rw [ih g _ r (by omega) e]; exact h
 rw [mono 32 nM _ y (by decide) h2]
 exact ⟨y,rfl,b⟩
theorem xD {op x:Int}(a:NR x):∃ m,Z33 op x=some m∧NR m:=by
 unfold Z33
 split
 ·obtain ⟨m,h1,h2⟩:=r0 0 x; rw [h1]; exact ⟨m,rfl,h2⟩
 ·split
  ·obtain ⟨m,h1,h2⟩:=rL x; rw [h1]; exact ⟨m,rfl,h2⟩
  ·obtain ⟨m,h1⟩:=kc x
   rw [h1]
   simp only [Option.bind_some]
   split
   ·exact ⟨0,rfl,by decide⟩
   ·split
    ·exact ⟨1,rfl,by decide⟩
    ·exact ⟨x,rfl,a⟩
theorem xE {op x y:Int}(h1:1≤op)(h2:op≤3):∃ m,Z1n op x y=some m∧NR m:=by
 obtain ⟨a,i⟩:=kc x
 obtain ⟨b,j⟩:=kc y
 unfold Z1n
 rw [i,j]
 simp only [Option.bind_some]
 split
 ·obtain ⟨m,h1,h2⟩:=nY x y; rw [h1]; exact ⟨m,rfl,h2⟩
 ·split
  ·obtain ⟨m,h1,h2⟩:=r0 x y; rw [h1]; exact ⟨m,rfl,h2⟩
  ·split
   ·obtain ⟨m,h1,h2⟩:=mn x y; rw [h1]; exact ⟨m,rfl,h2⟩
   ·rename_i e g h
    simp only [beq_iff_eq] at e g h
    omega
theorem hT {ds:List Int}{x:List Int}(h:eK ds)(a:RG (pr ds).toNat x):TOk ds x:=⟨h,by have:=a.1; have:=h.2.pos; omega,fun y b=>a.2 y b⟩
theorem p7 {ds:List Int}{x:List Int}(h:TOk ds x):RG (pr ds).toNat x:=⟨by have:=h.l; omega,fun y a=>h.x y a⟩
theorem kF {ds x:List Int}(h:TOk ds x):x.length≤4096∧ds.length≤6:=⟨by have:=h.l; have:=h.d.2.2; omega,h.d.1⟩
def TT (t:Tensor):Prop:=TOk t.Dims t.Data
theorem pS {t:Tensor}(h:TT t):Zi t=some true:=by
 have:=kF h
 rw [pL (by unfold cI; omega) (by unfold cI; omega),decide_eq_true (show TOk t.Dims t.Data from h)]
theorem Ap {op:Int}{t:Tensor}(h:TT t)(h1:1≤op)(h2:op≤4):∃ d,Z11 op t=some ⟨t.Dims,d⟩∧TOk t.Dims d:=by
 have q:=kF h
 unfold Z11
 rw [pS h]
 simp only [Option.bind_some]
 rw [if_neg (by simp; omega),l2 h.d]
 simp only [Option.bind_some]
 have u:(pr t.Dims).toNat=t.Data.length:=(p7 h).1.symm
 obtain ⟨r,b,e⟩:=l6 (f:=fun s:List Int×Int=>Z11_L1 op t ⟨t.Dims,List.replicate (pr t.Dims).toNat 0⟩ s.1 s.2) (Post:=fun r=>RG (pr t.Dims).toNat r) (pr t.Dims).toNat t.Data.length
  (fun j l x a=>by
   obtain ⟨m,g1,g⟩:=xD (op:=op) ((p7 h).ix (i:=(j:Int)) (by omega) (by omega))
   simp only [Z11_L1]
   rw [if_pos (by simp; omega),if_pos (by omega),g1]
   simp only [Option.bind_some]
   rw [if_pos (by simp; omega),cH (by unfold cI; omega)]
   exact ⟨_,rfl,a.set g _⟩)
  (fun x a=>by simp only [Z11_L1]; rw [if_neg (by simp)]; exact ⟨x,rfl,a⟩) (RG.rep _)
 rw [b]
 exact ⟨r,rfl,hT h.d e⟩
theorem vn {ds:List Int}(h:eK ds):Zz ds ds=some ds:=by
 have u:=h.1
 unfold Zz
 rw [gO (by unfold cI; omega)]
 simp only [h,decide_true,Option.bind_some,bR,Bool.not_true,Bool.not_false,cond_true,Bool.or_self,Bool.false_eq_true,if_false]
 rw [if_neg (by simp)]
 unfold Zz_J1
 rw [if_pos (by omega)]
 have:=fD (f:=fun s:List Int×Int=>Zz_L1 ds ds (ds.length:Int) s.1 s.2) (r:=.inr ds) (fun j=>(List.replicate (ds.length - j) 0++ds.drop (ds.length - j),(j:Int))) ds.length
  (fun j q=>by
   obtain ⟨i,m⟩:∃ i,i=ds.length - (j+1):=⟨_,rfl⟩
   have e:ds.length - j=i+1:=by omega
   have a:i<ds.length:=by omega
   have b:aK (aK ((ds.length:Int) - 1) - (j:Int))=(i:Int):=by rw [bD (n:=(ds.length:Int) - 1) (by omega) (by omega),bD (by omega) (by omega)]; omega
   have g:Z2d ds (j:Int)=some (ix ds (i:Int)):=by
    unfold Z2d
    rw [if_neg (by simp; omega),b,if_pos (by omega)]
   simp only [Zz_L1]
   rw [if_pos (by simp; omega),g]
   simp only [Option.bind_some]
   rw [if_neg (by simp),if_neg (by simp)]
   simp only [Zz_J3,b]
   rw [if_pos (by simp; omega),cH (by unfold cI; omega),e,← m,Int.toNat_natCast]
   congr 3
   have l:ds.drop i=ix ds (i:Int)::ds.drop (i+1):=by rw [List.drop_eq_getElem_cons a,cD a]
   rw [l,List.replicate_succ',List.set_append_left _ _ (by simp),List.set_append_right _ _ (by simp)]
   simp)
  (by simp only [Zz_L1,Nat.sub_self,List.replicate_zero,List.drop_zero,List.nil_append]; rw [if_neg (by simp)])
  (s:=(List.replicate (ds.length:Int).toNat 0,0)) (by simp)
 rw [this]
 simp only [Option.bind_some,Zz_J4]
 rw [gO (by unfold cI; omega)]
 simp [h]
theorem ny {t:Tensor}{is:List Int}(h:TT t)(a:IV t.Dims is):∃ x,Z08 t is=some x:=by
 have l:=kF h
 have b:=a.len
 unfold Z08
 have:=fD (f:=fun s:List Int×Int=>Z08_L1 t is s.1 s.2) (r:=is) (fun j=>(is.take j,(j:Int))) t.Dims.length
  (fun j i=>by
   have m:=a.mem (j:=j) (by omega)
   have e:aK (aK ((is.length:Int) - (t.Dims.length:Int))+(j:Int))=(j:Int):=by rw [bD (n:=(is.length:Int) - (t.Dims.length:Int)) (by omega) (by omega),bD (by omega) (by omega)]; omega
   simp only [Z08_L1,Z08_J2,e]
   rw [if_pos (by simp; omega),if_pos (by omega),if_pos (by omega),cH (by unfold cI; omega)]
   have tk:is.take (j+1)=is.take j++[ix is (j:Int)]:=by rw [List.take_succ_eq_append_getElem (by omega),cD (by omega)]
   by_cases c:ix t.Dims (j:Int)=1
   ·rw [if_pos (by simp [c]),if_pos (by simp; omega),tk,show ix is (j:Int)=0 by omega]
   ·rw [if_neg (by simp [c]),if_pos (by simp; omega),tk])
  (by simp only [Z08_L1]; rw [if_neg (by simp),List.take_of_length_le (by omega)])
  (s:=([],0)) rfl
 rw [this]
 simp only [Option.bind_some,Z08_J3]
 obtain ⟨x,g,_⟩:=nt h a
 rw [g]
 exact ⟨x,rfl⟩
theorem Aq {op:Int}{t u:Tensor}(e:TT t)(l:TT u)(h:t.Dims=u.Dims)(h1:1≤op)(h2:op≤3):∃ d,Z12 op t u=some ⟨t.Dims,d⟩∧TOk t.Dims d:=by
 have I:=kF e
 have J:=e.d.2.2
 unfold Z12
 rw [pS e,pS l]
 simp only [Option.bind_some,bR,Bool.not_true,Bool.not_false,cond_true]
 rw [if_neg (by simp; omega),← h,vn e.d]
 simp only [Option.bind_some]
 rw [if_neg (by simp),l2 e.d]
 simp only [Option.bind_some]
 obtain ⟨r,q,B⟩:=l6 (f:=fun s:List Int×Int=>Z12_L1 op t u t.Dims ⟨t.Dims,List.replicate (pr t.Dims).toNat 0⟩ s.1 s.2) (Post:=fun r=>RG (pr t.Dims).toNat r) (pr t.Dims).toNat (pr t.Dims).toNat
  (fun j G x g=>by
   have i:=hR e.d.2.1 (j:Int)
   obtain ⟨a,E⟩:=ny e i
   obtain ⟨b,F⟩:=ny l (by rw [← h]; exact i)
   obtain ⟨m,g1,D⟩:=xE (op:=op) (x:=a) (y:=b) h1 h2
   simp only [Z12_L1]
   rw [if_pos (by simp; omega),jL e.d (by omega) (by omega)]
   simp only [Option.bind_some,E,F,g1]
   rw [if_pos (by simp; omega),cH (by unfold cI; omega)]
   exact ⟨_,rfl,g.set D _⟩)
  (fun x g=>by simp only [Z12_L1]; rw [if_neg (by simp)]; exact ⟨x,rfl,g⟩) (RG.rep _)
 rw [q]
 exact ⟨r,rfl,hT e.d B⟩
theorem xF {ds:List Int}(i:ds.length<cI):(eK ds→∃ d,Z0q ds 0=some ⟨ds,d⟩∧TOk ds d)∧(¬ eK ds→Z0q ds 0=some ⟨[],[]⟩):=by
 unfold Z0q
 rw [gO i]
 constructor
 ·intro h
  have u:=h.2.2
  simp only [h,decide_true,Option.bind_some,Bool.not_true,Bool.false_eq_true,if_false]
  rw [l2 h]
  simp only [Option.bind_some]
  obtain ⟨m,l,a⟩:=jU 0
  obtain ⟨r,e,g⟩:=l6 (f:=fun s:List Int×Int=>Z0q_L1 0 ⟨ds,List.replicate (pr ds).toNat 0⟩ s.1 s.2) (Post:=fun r=>RG (pr ds).toNat r) (pr ds).toNat (pr ds).toNat
   (fun j q x b=>by
    simp only [Z0q_L1]
    rw [if_pos (by simp; omega),l]
    simp only [Option.bind_some]
    rw [if_pos (by simp; omega),cH (by unfold cI; omega)]
    exact ⟨_,rfl,b.set a _⟩)
   (fun x b=>by simp only [Z0q_L1]; rw [if_neg (by simp)]; exact ⟨x,rfl,b⟩) (RG.rep _)
  rw [e]
  exact ⟨r,rfl,hT h g⟩
 ·intro h
  simp [h]
theorem vo (ds ss:List Int)(a:Int):(nu ds ss a).length=(pr ds).toNat:=by simp [nu]
theorem nZ {t:Tensor}{v:View}(g:TT t)(a:VG v.Dims v.Strides v.Offset v.Base)(L:v.Base=pr t.Dims):∃ d,Z00 t v=some ⟨v.Dims,d⟩∧TOk v.Dims d:=by
 have O:=kF g
 have T:=a.d.1
 have U:=a.d.2.2
 have I:=g.l
 unfold Z00
 rw [pS g,kD a]
 simp only [Option.bind_some,bR,Bool.not_true,Bool.not_false,cond_true]
 rw [if_neg (by simp; omega),fL (by omega),qU a.d a.l a.s (by have:=a.o; have:=a.b; omega)]
 simp only [Option.bind_some]
 have D:=vo v.Dims v.Strides v.Offset
 obtain ⟨r,E,F⟩:=iK (f:=fun s:List Int×Int=>Z00_L1 t (nu v.Dims v.Strides v.Offset) s.1 s.2) (fun j s=>s.2=(j:Int)∧RG j s.1) (pr v.Dims).toNat (Post:=fun r=>RG (pr v.Dims).toNat r)
  (fun j s M q=>by
   obtain ⟨x,i⟩:=s
   obtain ⟨e,m⟩:=q
   simp only at e
   subst e
   have J:0≤ix (nu v.Dims v.Strides v.Offset) (j:Int)∧ix (nu v.Dims v.Strides v.Offset) (j:Int)<v.Base:=by
    have:=bH (xs:=nu v.Dims v.Strides v.Offset) (k:=j) (by omega)
    obtain ⟨k,_,G⟩:=List.mem_map.1 this
    rw [← G]
    exact a.place (hR a.d.2.1 (k:Int))
   have u:=(p7 g).ix J.1 (by have:=(p7 g).1; omega)
   have B:x.length=j:=m.1
   simp only [Z00_L1]
   rw [if_pos (by simp; omega),if_pos (by omega),if_pos (by omega),if_pos (by simp; omega),cH (by unfold cI; omega)]
   refine ⟨_,rfl,rfl,by simp [B],?_⟩
   intro y h
   rcases List.mem_append.1 h with h | h
   ·exact m.2 y h
   ·rw [List.mem_singleton.1 h]; exact u)
  (fun s q=>by
   obtain ⟨x,i⟩:=s
   obtain ⟨e,m⟩:=q
   simp only at e
   subst e
   simp only [Z00_L1]
   rw [if_neg (by simp; omega)]
   exact ⟨x,rfl,m⟩) (s:=([],0)) ⟨rfl,rfl,by simp⟩
 rw [E]
 exact ⟨r,rfl,hT a.d F⟩
theorem mo {t:Tensor}(a:TT t):Z00 t dT=some ⟨[],[]⟩:=by
 unfold Z00
 rw [pS a]
 simp only [Option.bind_some,bR,Bool.not_true,Bool.not_false,cond_true]
 rw [show Za dT=some false from ve]
 simp
theorem rM {ds d:List Int}(h:eK ds)(D:d.length<cI):Z09 (b' ds) d=some (if eK d∧pr d=pr ds then b' d else dT):=by
 have Y:=h.1
 have Z:=h.2.2
 have J:=h.2.pos
 have B:(b' ds).Dims=ds:=rfl
 have u:(b' ds).Base=pr ds:=rfl
 unfold Z09
 rw [kD (j8 h)]
 simp only [Option.bind_some,bR,Bool.not_true,Bool.not_false,cond_true,Bool.false_or,gO D]
 by_cases hd:eK d
 ·have G:=hd.1
  have I:=hd.2.pos
  simp only [hd,decide_true,Bool.not_true,Bool.not_false,cond_true,Bool.false_or,true_and,B,Option.bind_some]
  rw [jI D,if_pos hd.2,jI (by unfold cI; omega),if_pos h.2]
  simp only [Option.bind_some]
  by_cases e:pr d=pr ds
  ·rw [if_neg (by simp [e]),if_pos e,qU (j8 h).d (j8 h).l (j8 h).s ⟨Int.le_refl 0,by show (0:Int)≤4096; omega⟩,fL (by omega)]
   simp only [Option.bind_some]
   have b:nu (b' ds).Dims (b' ds).Strides (b' ds).Offset=(List.range (pr ds).toNat).map fun k:Nat=>(k:Int):=nv h.2
   obtain ⟨a,F⟩:∃ a,a=nu (b' ds).Dims (b' ds).Strides (b' ds).Offset:=⟨_,rfl⟩
   rw [← F] at b ⊢
   have T:a.length=(pr ds).toNat:=by rw [b]; simp
   have q:∀ i:Int,0≤i→i<pr ds→ix a i=i:=by
    intro i E h1
    obtain ⟨k,rfl⟩:=Int.eq_ofNat_of_zero_le E
    rw [cD (by omega)]
    simp [b]
   rw [if_pos (by omega)]
   have:=fD (f:=fun s:List Int×Int=>Z09_L1 d a s.1 s.2) (r:=eQ d) (fun j=>((eQ d).take j,(j:Int))) d.length
    (fun j m=>by
     have L:=dJ d
     have U:=hd.2.mem (bH m)
     have tk:(eQ d).take (j+1)=(eQ d).take j++[if ix d (j:Int)>1 then pr (d.drop (j+1)) else 0]:=by rw [List.take_succ_eq_append_getElem (by omega),← pO m,cD (by omega)]
     simp only [Z09_L1,Z09_J2]
     rw [if_pos (by simp; omega),if_pos (by omega)]
     by_cases c:ix d (j:Int)>1
     ·have q1:=(hd.2.drop (j+1)).pos
      have q2:pr (d.drop j)=ix d (j:Int)*pr (d.drop (j+1)):=by
       have:d.drop j=ix d (j:Int)::d.drop (j+1):=by rw [List.drop_eq_getElem_cons m,cD m]
       rw [this]; rfl
      have M:=gY d j
      have O:=(hd.2.take j).pos
      have q5:pr (d.drop j)≤pr d:=by rw [M]; exact jH O (by have:=(hd.2.drop j).pos; omega)
      have q6:2*pr (d.drop (j+1))≤ix d (j:Int)*pr (d.drop (j+1)):=Int.mul_le_mul_of_nonneg_right (by omega) (by omega)
      rw [if_pos (by simpa using c),cH (by unfold cI; omega),if_pos (by omega),iw,Int.toNat_natCast,jI (by simp [cI]; omega),if_pos (hd.2.drop (j+1))]
      simp only [Option.bind_some]
      rw [if_pos (by omega),if_pos (by simp; omega),q _ (by omega) (by omega),q 0 (by omega) (by omega),tk,if_pos c,bD (by omega) (by omega),Int.sub_zero]
     ·rw [if_neg (by simpa using c),if_pos (by simp; omega),cH (by unfold cI; omega),tk,if_neg c])
    (by simp only [Z09_L1]; rw [if_neg (by simp),List.take_of_length_le (by rw [dJ]; omega)])
    (s:=([],0)) rfl
   rw [this]
   simp only [Option.bind_some,Z09_J3]
   have hw:(⟨d,eQ d,ix a 0,(b' ds).Base⟩:View)=b' d:=by rw [q 0 (by omega) (by omega),u,← e]; rfl
   rw [hw,kD (j8 hd)]
   simp only [Option.bind_some,bR,Bool.not_true,Bool.not_false,cond_true]
   rw [qU (j8 hd).d (j8 hd).l (j8 hd).s ⟨Int.le_refl 0,by show (0:Int)≤4096; omega⟩]
   simp only [Option.bind_some]
   have g:nu (b' d).Dims (b' d).Strides (b' d).Offset=a:=by rw [b,← e]; exact nv hd.2
   rw [g,pM (by unfold cI; omega)]
   simp
  ·rw [if_pos (by simp [e]),if_neg e]
   rfl
 ·simp [hd,dT]
theorem mW {n:Node}{ds:List Int}(h:eK ds)(l:n.Dims.length<cI):∃ ps,Z0z n ds=some (if eK n.Dims∧pr n.Dims=pr ds then (n.Dims,ps,true) else ([],[],false)):=by
 have u:=h.1
 have B:=h.2.2
 unfold Z0z
 rw [hN l]
 by_cases hd:eK n.Dims
 ·simp only [hd,decide_true,Option.bind_some,bR,Bool.not_true,Bool.not_false,cond_true,Bool.false_or,true_and]
  rw [lA l hd.2,lA (by unfold cI; omega) h.2]
  simp only [Option.bind_some]
  by_cases e:pr n.Dims=pr ds
  ·rw [if_neg (by simp [e])]
   obtain ⟨r,m,_⟩:=iK (f:=fun s:List pair×Int=>Z0z_L1 (pr ds) s.1 s.2) (fun j s=>s.2=(j:Int)∧s.1.length=j) (pr ds).toNat (Post:=fun _=>True)
    (fun j s q b=>by
     obtain ⟨x,i⟩:=s
     obtain ⟨a,g⟩:=b
     simp only at a g
     subst a
     simp only [Z0z_L1]
     rw [if_pos (by simp; omega),if_pos (by simp; omega),cH (by unfold cI; omega)]
     exact ⟨_,rfl,rfl,by simp [g]⟩)
    (fun s b=>by
     obtain ⟨x,i⟩:=s
     obtain ⟨a,g⟩:=b
     simp only at a
     subst a
     have:=h.2.pos
     simp only [Z0z_L1]
     rw [if_neg (by simp; omega)]
     exact ⟨x,rfl,trivial⟩) (s:=([],0)) ⟨rfl,rfl⟩
   rw [m]
   exact ⟨r,by rw [if_pos e]; rfl⟩
  ·rw [if_pos (by simp [e])]
   exact ⟨[],by rw [if_neg e]⟩
 ·simp [hd,bR]
end Go.Proofs.YthelanpdjajnbaaGreat
