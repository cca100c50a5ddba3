import Derived.Test.YtoffdamdpmeoiaaGreatDoorBkF
import Derived.Test.YtoffdamdpmeoiaaGreatDoorPL1
set_option linter.unusedVariables false
set_option linter.unusedSimpArgs false
namespace Go.Proofs.YtoffdamdpmeoiaaGreatDoor
open Go Go.Pg
theorem ja {a b:Int}(e:0≤a)(h:1≤b):a≤a*b:=by
 have:=Int.mul_le_mul_of_nonneg_left h e
 simpa using this
theorem jX {a b:Int}(e:1≤a)(h:0≤b):b≤a*b:=by rw [Int.mul_comm]; exact ja h e
def pr:List Int→Int
 | []=>1
 | d::ds=>d*pr ds
def SZ (ds:List Int):Prop:=(∀ d∈ds,1≤d)∧pr ds≤4096
instance (ds:List Int):Decidable (SZ ds):=by unfold SZ; infer_instance
def eL (ds:List Int):Prop:=ds.length≤6∧SZ ds
instance (ds:List Int):Decidable (eL ds):=by unfold eL; infer_instance
theorem fP {ds:List Int}(h:∀ d∈ds,1≤d):1≤pr ds:=by
 induction ds with
 | nil=>exact Int.le_refl 1
 | cons d ds ih =>
  have h1:=h d (by simp)
  have h2:=ih fun x a=>h x (by simp [a])
  exact Int.le_trans h1 (ja (by omega) h2)
theorem nt (a b:List Int):pr (a++b)=pr a*pr b:=by
 induction a with
 | nil=>simp [pr]
 | cons x a ih=>simp [pr,ih,Int.mul_assoc]
theorem gW (ds:List Int)(k:Nat):pr ds=pr (ds.take k)*pr (ds.drop k):=by
 rw [← nt,List.take_append_drop]
theorem SZ.take {ds:List Int}(h:SZ ds)(k:Nat):SZ (ds.take k):=by
 refine ⟨fun d a=>h.1 d (List.mem_of_mem_take a),?_⟩
 have h1:=h.2
 rw [gW ds k] at h1
 have h2:1≤pr (ds.drop k):=fP fun d a=>h.1 d (List.mem_of_mem_drop a)
 have b:1≤pr (ds.take k):=fP fun d a=>h.1 d (List.mem_of_mem_take a)
 exact Int.le_trans (ja (by omega) h2) h1
theorem SZ.drop {ds:List Int}(h:SZ ds)(k:Nat):SZ (ds.drop k):=by
 refine ⟨fun d a=>h.1 d (List.mem_of_mem_drop a),?_⟩
 have h1:=h.2
 rw [gW ds k] at h1
 have h2:1≤pr (ds.drop k):=fP fun d a=>h.1 d (List.mem_of_mem_drop a)
 have b:1≤pr (ds.take k):=fP fun d a=>h.1 d (List.mem_of_mem_take a)
 exact Int.le_trans (jX b (by omega)) h1
theorem SZ.tail {d:Int}{ds:List Int}(h:SZ (d::ds)):SZ ds:=h.drop 1
theorem SZ.pos {ds:List Int}(h:SZ ds):1≤pr ds:=fP h.1
theorem SZ.mem {ds:List Int}(h:SZ ds){d:Int}(e:d∈ds):1≤d∧d≤4096:=by
 refine ⟨h.1 d e,?_⟩
 obtain ⟨a,b,rfl⟩:=List.append_of_mem e
 have h2:=h.2
 rw [nt] at h2
 have l:1≤pr a:=fP fun x i=>h.1 x (by simp [i])
 have q:1≤pr b:=fP fun x i=>h.1 x (by simp [i])
 have r:=h.1 d e
 have j:d≤pr (d::b):=ja (by omega) q
 exact Int.le_trans (Int.le_trans j (jX l (by omega))) h2
theorem ug {R:Type}(h:R)(i:Int→R)(ds:List Int)(k:Nat)(n:Int)(r:1≤n)(h1:n≤4096) :
  rW (fun (s:Int) (_:Nat) (x:Int)=>if (decide (x<1)||decide (x>4096))=true then .inr h else if decide (s*x>4096)=true then .inr h else .inl (s*x)) i ds k n
   = if (∀ d∈ds,1≤d)∧n*pr ds≤4096 then i (n*pr ds) else h:=by
 induction ds generalizing n k with
 | nil=>simp [rW,pr,h1]
 | cons d ds ih =>
  unfold rW
  by_cases c1:d<1
  ·have l:¬ ((∀ x∈d::ds,1≤x)∧n*pr (d::ds)≤4096):=fun ⟨a,_⟩=>by have:=a d (by simp); omega
   rw [if_neg l]
   simp [c1]
  ·have cS:d>4096∨n*d>4096→¬ ((∀ x∈d::ds,1≤x)∧n*pr (d::ds)≤4096):=by
    rintro j ⟨a,b⟩
    have u:1≤pr ds:=fP fun x q=>a x (by simp [q])
    have e:n*pr (d::ds)=n*d*pr ds:=by simp [pr,Int.mul_assoc]
    rw [e] at b
    have h2:d≤n*d:=jX r (by omega)
    have B:n*d≤n*d*pr ds:=ja (by omega) u
    rcases j with j | j<;>omega
   by_cases c2:d>4096
   ·rw [if_neg (cS (.inl c2))]; simp [c2]
   ·by_cases c3:n*d>4096
    ·rw [if_neg (cS (.inr c3))]; simp [c1,c2,c3]
    ·have D:d≤n*d:=jX r (by omega)
     simp only [c1,c2,c3,decide_false,Bool.or_self,Bool.false_eq_true,if_false]
     rw [ih (k+1) (n*d) (by omega) (by omega)]
     have e:n*pr (d::ds)=n*d*pr ds:=by simp [pr,Int.mul_assoc]
     by_cases g:(∀ x∈ds,1≤x)∧n*d*pr ds≤4096
     ·rw [if_pos g,if_pos ⟨List.forall_mem_cons.2 ⟨by omega,g.1⟩,by rw [e]; exact g.2⟩,e]
     ·rw [if_neg g,if_neg fun a=>g ⟨fun x q=>a.1 x (by simp [q]),by rw [← e]; exact a.2⟩]
theorem w8 {R:Type}(a:Int→R)(ds:List Int)(k:Nat)(n:Int):rW (fun (s:Int) (_:Nat) (x:Int)=>.inl (s*x)) a ds k n=a (n*pr ds):=by
 induction ds generalizing n k with
 | nil=>simp [rW,pr]
 | cons d ds ih =>
  unfold rW
  simp only
  rw [ih]
  simp [pr,Int.mul_assoc]
theorem iY {a b:Int}(e:0≤a)(h1:a≤65536)(h2:0≤b)(h:b≤65536):aI (a*b)=a*b:=by
 have i:a*b≤65536*65536:=Int.mul_le_mul h1 h h2 (by omega)
 have j:0≤a*b:=Int.mul_nonneg e h2
 exact aX (by omega) (by omega)
theorem jz {ds:List Int}(q:ds.length<cS):Zs ds=some (if SZ ds then pr ds else 0):=by
 have:=jL (S:=Int) ds (fun _ n=>1≤n∧n≤4096) (fun s:Int×Int=>Zs_L1 ds s.1 s.2) (fun n i=>(n,i)) (fun (s:Int) (_:Nat) (x:Int)=>if (decide (x<1)||decide (x>4096))=true then .inr (.inl (0:Int)) else if decide (s*x>4096)=true then .inr (.inl 0) else .inl (s*x)) (fun n=>.inr n)
  (fun n k l hk=>by
   simp only [Zs_L1]
   rw [if_pos (by simp; omega),if_pos (by omega)]
   split
   ·rfl
   ·rename_i h
    simp only [Bool.or_eq_true,decide_eq_true_eq,not_or] at h
    rw [iY (by omega) (by omega) (by omega) (by omega),cA (by omega)]
    split<;>rfl)
  (fun n k s l hk j=>by
   split at j
   ·cases j
   ·rename_i h
    simp only [Bool.or_eq_true,decide_eq_true_eq,not_or] at h
    split at j
    ·cases j
    ·rename_i h2
     simp only [decide_eq_true_eq] at h2
     cases j
     have:=jX (a:=n) (b:=ix ds (k:Int)) l.1 (by omega)
     omega)
  (fun n _=>by simp only [Zs_L1]; rw [if_neg (by simp)]) 1 ⟨by omega,by omega⟩
 unfold Zs
 rw [this,ug _ _ _ _ _ (by omega) (by omega)]
 simp only [Int.one_mul,Option.bind_some]
 have e:SZ ds↔(∀ d∈ds,1≤d)∧pr ds≤4096:=Iff.rfl
 by_cases h:SZ ds
 ·rw [if_pos (e.1 h),if_pos h]; rfl
 ·rw [if_neg (fun g=>h (e.2 g)),if_neg h]
theorem gO {ds:List Int}(a:ds.length<cS):Zq ds=some (decide (eL ds)):=by
 unfold Zq
 by_cases h:ds.length≤6
 ·have e:decide ((ds.length:Int)≤6)=true:=by simp; omega
  rw [e]
  simp only [bP,jz a,cond_true,Option.bind_some,Bool.true_and]
  congr 1
  by_cases g:SZ ds
  ·have:=g.pos; simp [g,eL,h]; omega
  ·simp [g,eL]
 ·have e:decide ((ds.length:Int)≤6)=false:=by simp; omega
  rw [e]
  simp [bP,eL,h]
theorem hY {ds:List Int}(q:ds.length<cS):Zf ds=some (decide (eL ds)):=by
 have:=jL (S:=Int) ds (fun _ n=>1≤n∧n≤4096) (fun s:Int×Int=>Zf_L1 ds s.1 s.2) (fun n i=>(n,i)) (fun (s:Int) (_:Nat) (x:Int)=>if (decide (x<1)||decide (x>4096))=true then .inr (.inl false) else if decide (s*x>4096)=true then .inr (.inl false) else .inl (s*x)) (fun n=>.inr ())
  (fun n k l hk=>by
   simp only [Zf_L1]
   rw [if_pos (by simp; omega),if_pos (by omega)]
   split
   ·rfl
   ·rename_i h
    simp only [Bool.or_eq_true,decide_eq_true_eq,not_or] at h
    rw [iY (by omega) (by omega) (by omega) (by omega),cA (by omega)]
    split<;>rfl)
  (fun n k s l hk j=>by
   split at j
   ·cases j
   ·rename_i h
    simp only [Bool.or_eq_true,decide_eq_true_eq,not_or] at h
    split at j
    ·cases j
    ·rename_i h2
     simp only [decide_eq_true_eq] at h2
     cases j
     have:=jX (a:=n) (b:=ix ds (k:Int)) l.1 (by omega)
     omega)
  (fun n _=>by simp only [Zf_L1]; rw [if_neg (by simp)]) 1 ⟨by omega,by omega⟩
 unfold Zf
 rw [this,ug _ _ _ _ _ (by omega) (by omega)]
 simp only [Int.one_mul,Option.bind_some]
 have e:SZ ds↔(∀ d∈ds,1≤d)∧pr ds≤4096:=Iff.rfl
 by_cases h:SZ ds
 ·rw [if_pos (e.1 h)]
  simp only [Zf_J1]
  congr 1
  simp [eL,h]; omega
 ·rw [if_neg (fun g=>h (e.2 g))]
  simp [eL,h]
theorem kZ {ds:List Int}(j:ds.length<cS)(h:SZ ds):Zl ds=some (pr ds):=by
 have:=jL (S:=Int) ds (fun k n=>n=pr (ds.take k)) (fun s:Int×Int=>Zl_L1 ds s.1 s.2) (fun n i=>(n,i)) (fun (s:Int) (_:Nat) (x:Int)=>.inl (s*x)) (fun n=>n)
  (fun n k a hk=>by
   simp only [Zl_L1]
   have h1:=(h.take k)
   have h2:=h1.pos
   have e:=h.mem (bI hk)
   rw [if_pos (by simp; omega),if_pos (by omega),iY (by omega) (by have:=h1.2; omega) (by omega) (by omega),cA (by omega)])
  (fun n k s a hk b=>by
   simp only [Sum.inl.injEq] at b
   rw [← b,a,List.take_succ_eq_append_getElem hk,nt,cC hk]
   simp [pr])
  (fun n _=>by simp only [Zl_L1]; rw [if_neg (by simp)]) 1 rfl
 unfold Zl
 rw [this,w8]
 simp [Zl_J1]
def iA:List Int→Int→List Int
 | [],_=>[]
 | d::ds,k=>(k / pr ds) % d::iA ds k
def mP:List Int→List Int→Int
 | d::ds,i::is=>i*pr ds+mP ds is
 | _,_=>0
def IV:List Int→List Int→Prop
 | [],[]=>True
 | d::ds,i::is=>(0≤i∧i<d)∧IV ds is
 | _,_=>False
theorem jY (ds:List Int)(k:Int):(iA ds k).length=ds.length:=by
 induction ds with
 | nil=>rfl
 | cons d ds ih=>simp [iA,ih]
theorem IV.len {ds is:List Int}(h:IV ds is):is.length=ds.length:=by
 induction ds generalizing is with
 | nil=>cases is with
  | nil=>rfl
  | cons=>exact h.elim
 | cons d ds ih=>cases is with
  | nil=>exact h.elim
  | cons i is=>simp [ih h.2]
theorem iB {ds:List Int}(h:∀ d∈ds,1≤d)(k:Int):IV ds (iA ds k):=by
 induction ds with
 | nil=>trivial
 | cons d ds ih =>
  have b:=h d (by simp)
  exact ⟨⟨Int.emod_nonneg _ (by omega),Int.emod_lt_of_pos _ (by omega)⟩,ih fun x a=>h x (by simp [a])⟩
theorem nu {ds is:List Int}(h:∀ d∈ds,1≤d)(e:IV ds is):0≤mP ds is∧mP ds is<pr ds:=by
 induction ds generalizing is with
 | nil=>cases is with
  | nil=>exact ⟨Int.le_refl 0,by decide⟩
  | cons=>exact e.elim
 | cons d ds ih=>cases is with
  | nil=>exact e.elim
  | cons i is =>
   obtain ⟨a,b⟩:=ih (fun x j=>h x (by simp [j])) e.2
   have q:1≤pr ds:=fP fun x j=>h x (by simp [j])
   have l:=Int.mul_nonneg e.1.1 (show 0≤pr ds by omega)
   have h1:(i+1)*pr ds≤d*pr ds:=Int.mul_le_mul_of_nonneg_right (by have:=e.1.2; omega) (by omega)
   rw [Int.add_mul] at h1
   show 0≤i*pr ds+mP ds is∧i*pr ds+mP ds is<d*pr ds
   omega
theorem uh {k p d:Int}(u:1≤p)(s:1≤d):k / (d*p)=k / p / d∧k % (d*p)=k / p % d*p+k % p:=by
 have a:=Int.emod_nonneg k (show p≠0 by omega)
 have b:=Int.emod_lt_of_pos k (show 0<p by omega)
 have c:=Int.emod_nonneg (k / p) (show d≠0 by omega)
 have e:=Int.emod_lt_of_pos (k / p) (show 0<d by omega)
 have h1:=Int.mul_nonneg c (show 0≤p by omega)
 have h2:(k / p % d+1)*p≤d*p:=Int.mul_le_mul_of_nonneg_right (by omega) (by omega)
 rw [Int.add_mul] at h2
 have j:0<d*p:=Int.mul_pos (by omega) (by omega)
 refine (Int.ediv_emod_unique (q:=k / p / d) j).2 ⟨?_,by omega,by omega⟩
 have l:=Int.mul_ediv_add_emod k p
 have h:=Int.mul_ediv_add_emod (k / p) d
 have i:d*p*(k / p / d)=p*(d*(k / p / d)):=by rw [Int.mul_comm d p,Int.mul_assoc]
 have r:p*(k / p)=p*(d*(k / p / d))+p*(k / p % d):=by rw [← Int.mul_add,h]
 rw [i,Int.mul_comm (k / p % d) p]
 omega
theorem w9 {ds:List Int}(h:∀ d∈ds,1≤d)(k:Int):mP ds (iA ds k)=k % pr ds:=by
 induction ds generalizing k with
 | nil=>simp [mP,pr,Int.emod_one]
 | cons d ds ih =>
  have e:1≤pr ds:=fP fun x a=>h x (by simp [a])
  have b:=h d (by simp)
  show k / pr ds % d*pr ds+mP ds (iA ds k)=k % (d*pr ds)
  rw [ih fun x a=>h x (by simp [a])]
  exact (uh e b).2.symm
theorem sM {ds:List Int}(h:∀ d∈ds,1≤d){k:Int}(a:0≤k)(h1:k<pr ds):mP ds (iA ds k)=k:=by
 rw [w9 h,Int.emod_eq_of_lt a h1]
theorem eV {S R:Type}{f:S→Option (S⊕R)}(st:Nat→S)(n:Nat){r:R}(i:∀ j,j<n→f (st j)=some (.inl (st (j+1))))(e:f (st n)=some (.inr r)){s:S}(b:s=st 0):aQ f s=some r:=by
 have a:∀ m j,j+m=n→aQ f (st j)=some r:=by
  intro m
  induction m with
  | zero=>intro j h; rw [show j=n by omega]; exact cT e
  | succ m ih=>intro j h; rw [eH (i j (by omega))]; exact ih (j+1) (by omega)
 rw [b]
 exact a n 0 (by omega)
theorem gX {S R:Type}{f:S→Option (S⊕R)}(I:Nat→S→Prop)(n:Nat){Post:R→Prop}(l:∀ j s,j<n→I j s→∃ s',f s=some (.inl s')∧I (j+1) s')(h:∀ s,I n s→∃ r,f s=some (.inr r)∧Post r){s:S}(e:I 0 s):∃ r,aQ f s=some r∧Post r:=by
 have b:∀ m j s,j+m=n→I j s→∃ r,aQ f s=some r∧Post r:=by
  intro m
  induction m with
  | zero =>
   intro j s i a
   rw [show j=n by omega] at a
   obtain ⟨r,h1,h2⟩:=h s a
   exact ⟨r,cT h1,h2⟩
  | succ m ih =>
   intro j s i a
   obtain ⟨s',h1,h2⟩:=l j s (by omega) a
   rw [eH h1]
   exact ih (j+1) s' (by omega) h2
 exact b n 0 s (by omega) e
structure TOk (dims data:List Int):Prop where
 d:eL dims
 l:(data.length:Int)=pr dims
 x:∀ x∈data,0≤x∧x<2147483647
instance (dims data:List Int):Decidable (TOk dims data):=decidable_of_iff (eL dims∧(data.length:Int)=pr dims∧∀ x∈data,0≤x∧x<2147483647) ⟨fun h=>⟨h.1,h.2.1,h.2.2⟩,fun h=>⟨h.d,h.l,h.x⟩⟩
theorem pP (xs:List Int):(xs.all fun x=>!(decide (x<0)||decide (x≥2147483647)))=decide (∀ x∈xs,0≤x∧x<2147483647):=by
 rw [Bool.eq_iff_iff]
 simp only [List.all_eq_true,decide_eq_true_eq,Bool.not_eq_true',Bool.or_eq_false_iff,decide_eq_false_iff_not]
 exact ⟨fun h x a=>by have:=h x a; omega,fun h x a=>by have:=h x a; omega⟩
theorem uk {t:Tensor}(a:t.Dims.length<cS)(b:t.Data.length<cS):Zv t=some (decide (TOk t.Dims t.Data)):=by
 unfold Zv
 rw [gO a]
 by_cases h:eL t.Dims
 ·simp only [h,decide_true,Option.bind_some,bP,Bool.not_true,Bool.not_false,cond_true,Bool.false_or,jz a,h.2,if_true]
  by_cases e:(t.Data.length:Int)=pr t.Dims
  ·rw [if_neg (by simp [e])]
   have:=eP t.Data (fun s:Int=>Zv_L1 t s) (fun i=>i) (fun x=>!(decide (x<0)||decide (x≥2147483647))) (.inl false) (.inr ())
    (fun k hk=>by
     simp only [Zv_L1]
     rw [if_pos (by simp; omega),if_pos (by omega),cA (by omega)]
     cases (decide (ix t.Data (k:Int)<0)||decide (ix t.Data (k:Int)≥2147483647))<;>rfl)
    (by simp only [Zv_L1]; rw [if_neg (by simp)])
   rw [this,pP]
   by_cases g:∀ x∈t.Data,0≤x∧x<2147483647
   ·have:TOk t.Dims t.Data:=⟨h,e,g⟩
    simp only [decide_eq_true g,decide_eq_true this,if_true,Option.bind_some,Zv_J1]
   ·have:¬ TOk t.Dims t.Data:=fun q=>g q.x
    simp only [decide_eq_false g,decide_eq_false this,Bool.false_eq_true,if_false,Option.bind_some]
  ·rw [if_pos (by simp [e])]
   have:¬ TOk t.Dims t.Data:=fun q=>e q.l
   simp [this]
 ·have:¬ TOk t.Dims t.Data:=fun q=>h q.d
  simp [h,this,bP]
theorem yC {t:Tensor}(a:t.Dims.length<cS)(j:t.Data.length<cS):Z2w t=some (decide (TOk t.Dims t.Data)):=by
 unfold Z2w
 rw [hY a]
 by_cases h:eL t.Dims
 ·simp only [h,decide_true,Option.bind_some,bP,cond_true,Bool.true_and,kZ a h.2]
  by_cases e:(t.Data.length:Int)=pr t.Dims
  ·have:=eP t.Data (fun s:Int=>Z1b_L1 t.Data s) (fun i=>i) (fun x=>!(decide (x<0)||decide (x≥2147483647))) (.inl false) (.inr ())
    (fun k hk=>by
     simp only [Z1b_L1,Z3d,Option.bind_some]
     rw [if_pos (by simp; omega),if_pos (by omega),cA (by omega)]
     by_cases c1:ix t.Data (k:Int)<0
     ·have:¬ ix t.Data (k:Int)≥0:=by omega
      simp [c1,this]
     ·have h1:ix t.Data (k:Int)≥0:=by omega
      by_cases c2:ix t.Data (k:Int)<2147483647
      ·have h2:¬ ix t.Data (k:Int)≥2147483647:=by omega
       simp [c1,h1,c2,h2]
      ·have h2:ix t.Data (k:Int)≥2147483647:=by omega
       simp [c1,h1,c2,h2])
    (by simp only [Z1b_L1]; rw [if_neg (by simp)])
   simp only [e,beq_self_eq_true,cond_true,Z1b,this,pP]
   by_cases g:∀ x∈t.Data,0≤x∧x<2147483647
   ·have:TOk t.Dims t.Data:=⟨h,e,g⟩
    simp only [decide_eq_true g,decide_eq_true this,if_true,Option.bind_some,Z1b_J1,Bool.and_self]
   ·have:¬ TOk t.Dims t.Data:=fun q=>g q.x
    simp only [decide_eq_false g,decide_eq_false this,Bool.false_eq_true,if_false,Option.bind_some,Bool.and_false]
  ·have:¬ TOk t.Dims t.Data:=fun q=>e q.l
   have b:((t.Data.length:Int)==pr t.Dims)=false:=by simp [e]
   simp [this,b]
 ·have:¬ TOk t.Dims t.Data:=fun q=>h q.d
  simp [h,this,bP]
theorem iN {xs:List Int}(h:xs.length≤17592186044416):Zx xs=some xs:=by
 unfold Zx
 rw [if_pos (by simpa using h)]
 simp
theorem iF {xs:List Int}(h:xs.length≤17592186044416):Zt xs=some xs:=by
 unfold Zt; rw [if_pos h]
theorem rX (a b:List Int)(h:a.length=b.length):(List.range a.length).all (fun k=>!(ix a (k:Int) != ix b (k:Int)))=decide (a=b):=by
 rw [Bool.eq_iff_iff]
 simp only [List.all_eq_true,List.mem_range,decide_eq_true_eq,bne,Bool.not_not,beq_iff_eq]
 constructor
 ·intro q
  apply List.ext_getElem h
  intro i h1 h2
  have:=q i h1
  rwa [cC h1,cC h2] at this
 ·rintro rfl k _; rfl
theorem ul {a b:List Int}(j:a.length<cS):Z06 a b=some (decide (a=b)):=by
 unfold Z06
 by_cases h:a.length=b.length
 ·rw [if_neg (by simp [h])]
  have:=gR a.length (fun s:Int=>Z06_L1 a b s) (fun i=>i) (fun k=>!(ix a (k:Int) != ix b (k:Int))) (.inl false) (.inr ())
   (fun k hk=>by
    simp only [Z06_L1]
    rw [if_pos (by simp; omega),if_pos (by omega),if_pos (by omega),cA (by omega)]
    cases (ix a (k:Int) != ix b (k:Int))<;>rfl)
   (by simp only [Z06_L1]; rw [if_neg (by simp)])
  rw [this,rX a b h]
  by_cases e:a=b<;>simp [e,Z06_J1]
 ·rw [if_pos (by simp; omega)]
  have:a≠b:=fun e=>h (by rw [e])
  simp [this]
theorem wc {a b:List Int}(j:a.length<cS):Z18 a b=some (decide (a=b)):=by
 unfold Z18
 by_cases h:a.length=b.length
 ·rw [if_neg (by simp [h])]
  have:=gR a.length (fun s:Int=>Z18_L1 a b s) (fun i=>i) (fun k=>!(ix a (k:Int) != ix b (k:Int))) (.inl false) (.inr ())
   (fun k hk=>by
    simp only [Z18_L1]
    rw [if_pos (by simp; omega),if_pos (by omega),if_pos (by omega),cA (by omega)]
    cases (ix a (k:Int) != ix b (k:Int))<;>rfl)
   (by simp only [Z18_L1]; rw [if_neg (by simp)])
  rw [this,rX a b h]
  by_cases e:a=b<;>simp [e,Z18_J1]
 ·rw [if_pos (by simp; omega)]
  have:a≠b:=fun e=>h (by rw [e])
  simp [this]
theorem lz {ds:List Int}(h:eL ds):Z0q ds=some ⟨ds,List.replicate (pr ds).toNat 0⟩:=by
 have h1:=h.1
 have h2:=h.2.pos
 have a:=h.2.2
 unfold Z0q
 rw [iN (by omega)]
 simp only [Option.bind_some,jz (ds:=ds) (by unfold cS; omega),h.2,if_true]
 rw [if_pos (by omega)]
theorem jZ {ds:List Int}{k:Int}(h:eL ds)(b:0≤k)(h1:k≤65536):Zm ds k=some (iA ds k):=by
 have O:=h.1
 unfold Zm
 rw [if_pos (by omega)]
 have:=eV (f:=fun s:Int×List Int×Int=>Zm_L1 ds s.1 s.2.1 s.2.2) (r:=iA ds k)
  (fun j=>(k / pr (ds.drop (ds.length - j)),List.replicate (ds.length - j) 0++iA (ds.drop (ds.length - j)) k,(ds.length:Int) - 1 - j)) ds.length
  (fun j M=>by
   obtain ⟨i,E⟩:∃ i,i=ds.length - (j+1):=⟨_,rfl⟩
   have q:ds.length - j=i+1:=by omega
   have u:(ds.length:Int) - 1 - (j:Int)=(i:Int):=by omega
   have a:i<ds.length:=by omega
   have F:=h.2.mem (bI a)
   have G:=(h.2.drop (i+1)).pos
   have e:ds.drop i=ix ds (i:Int)::ds.drop (i+1):=by rw [List.drop_eq_getElem_cons a,cC a]
   have l:0≤k / pr (ds.drop (i+1)):=Int.ediv_nonneg b (by omega)
   have I:k / pr (ds.drop (i+1))≤65536:=Int.le_trans (Int.ediv_le_self _ b) h1
   simp only [Zm_L1,q,u,← E]
   rw [if_pos (by simp),if_pos (by omega),if_pos (by omega),if_pos (by simp; omega)]
   have B:(k / pr (ds.drop (i+1))).tdiv (ix ds (i:Int))=k / pr (ds.drop i):=by
    rw [Int.tdiv_eq_ediv_of_nonneg l,e]; exact (uh G F.1).1.symm
   have D:(k / pr (ds.drop (i+1))).tmod (ix ds (i:Int))=k / pr (ds.drop (i+1)) % ix ds (i:Int):=Int.tmod_eq_emod_of_nonneg l
   have J:0≤k / pr (ds.drop i):=Int.ediv_nonneg b (by have:=(h.2.drop i).pos; omega)
   have L:k / pr (ds.drop i)≤65536:=Int.le_trans (Int.ediv_le_self _ b) h1
   rw [B,D,aX (by omega) (by omega),aX (by omega) (by omega)]
   congr 4
   ·rw [e,List.set_append_left _ _ (by simp),List.replicate_succ',List.set_append_right _ _ (by simp)]
    simp [iA]
   ·omega)
  (by
   simp only [Zm_L1,Nat.sub_self,List.drop_zero,List.replicate_zero,List.nil_append]
   rw [if_neg (by simp; omega)])
  (s:=(k,List.replicate (ds.length:Int).toNat 0,aI ((ds.length:Int) - 1))) (by
   rw [aX (by omega) (by omega)]
   simp [pr,iA])
 rw [this]
 rfl
theorem pQ {ds is:List Int}(h:IV ds is){k:Nat}(hk:k<ds.length):IV (ds.take k) (is.take k)∧mP (ds.take (k+1)) (is.take (k+1))=mP (ds.take k) (is.take k)*ix ds (k:Int)+ix is (k:Int):=by
 induction ds generalizing is k with
 | nil=>simp at hk
 | cons d ds ih=>cases is with
  | nil=>exact h.elim
  | cons i is =>
   cases k with
   | zero=>simp [IV,mP,pr,ix]
   | succ k =>
    obtain ⟨a,b⟩:=ih h.2 (k:=k) (by simpa using hk)
    refine ⟨⟨h.1,a⟩,?_⟩
    have e:k<ds.length:=by simpa using hk
    have j:ix (d::ds) ((k+1:Nat):Int)=ix ds (k:Int):=by simp [ix]
    have l:ix (i::is) ((k+1:Nat):Int)=ix is (k:Int):=by simp [ix]
    rw [j,l]
    have q:pr (ds.take (k+1))=pr (ds.take k)*ix ds (k:Int):=by rw [List.take_succ_eq_append_getElem e,nt,cC e]; simp [pr]
    show i*pr (ds.take (k+1))+mP (ds.take (k+1)) (is.take (k+1))=(i*pr (ds.take k)+mP (ds.take k) (is.take k))*ix ds (k:Int)+ix is (k:Int)
    rw [b,q,Int.add_mul,Int.mul_assoc,Int.add_assoc]
theorem oJ {ds is:List Int}(h:eL ds)(i:IV ds is):Z0t ds is=some (mP ds is):=by
 have F:=h.1
 have B:=i.len
 unfold Z0t
 have:=eV (f:=fun s:Int×Int=>Z0t_L1 ds is s.1 s.2) (r:=mP ds is) (fun j=>(mP (ds.take j) (is.take j),(j:Int))) ds.length
  (fun j q=>by
   obtain ⟨a,b⟩:=pQ i q
   have E:=nu (fun d l=>h.2.1 d (List.mem_of_mem_take l)) a
   have I:=(h.2.take j).2
   have u:=nu (fun d l=>h.2.1 d (List.mem_of_mem_take l)) (ds:=ds.take (j+1)) (is:=is.take (j+1)) (by
    by_cases e:j+1<ds.length
    ·exact (pQ i e).1
    ·rw [List.take_of_length_le (by omega),List.take_of_length_le (by omega)]; exact i)
   have D:=(h.2.take (j+1)).2
   have G:=h.2.mem (bI q)
   simp only [Z0t_L1]
   rw [if_pos (by simp; omega),if_pos (by omega),if_pos (by omega),iY (by omega) (by omega) (by omega) (by omega),← b,aX (by omega) (by omega),cA (by unfold cS; omega)])
  (by simp only [Z0t_L1]; rw [if_neg (by simp),List.take_length,List.take_of_length_le (by omega)])
  (s:=(0,0)) (by simp [mP])
 rw [this]
 rfl
theorem o4 {t:Tensor}{is:List Int}(h:TOk t.Dims t.Data)(a:IV t.Dims is):∃ x,Z1e t is=some x∧x∈t.Data:=by
 have b:=nu h.d.2.1 a
 have i:=h.l
 unfold Z1e
 rw [oJ h.d a]
 simp only [Option.bind_some]
 rw [if_pos (by omega)]
 refine ⟨_,rfl,?_⟩
 have e:(((mP t.Dims is).toNat:Nat):Int)=mP t.Dims is:=by omega
 rw [← e]
 exact bI (by omega)
theorem um {t:Tensor}{is:List Int}{x:Int}(h:eL t.Dims)(e:(t.Data.length:Int)=pr t.Dims)(a:IV t.Dims is):Z23 t is x=some (t.Data.set (mP t.Dims is).toNat x):=by
 have b:=nu h.2.1 a
 unfold Z23
 rw [oJ h a]
 simp only [Option.bind_some]
 rw [if_pos (by omega)]
def zs (f:Int→Int→Int):List Int→List Int→Int
 | a::xs,b::ys=>f a b+zs f xs ys
 | _,_=>0
theorem lA (f:Int→Int→Int){xs ys:List Int}{j:Nat}(e:j<xs.length)(h:j<ys.length):zs f (xs.take (j+1)) (ys.take (j+1))=zs f (xs.take j) (ys.take j)+f (ix xs (j:Int)) (ix ys (j:Int)):=by
 induction xs generalizing ys j with
 | nil=>simp at e
 | cons a xs ih=>cases ys with
  | nil=>simp at h
  | cons b ys =>
   cases j with
   | zero=>simp [zs,ix]
   | succ j =>
    have i:ix (a::xs) ((j+1:Nat):Int)=ix xs (j:Int):=by simp [ix]
    have l:ix (b::ys) ((j+1:Nat):Int)=ix ys (j:Int):=by simp [ix]
    have:=ih (ys:=ys) (j:=j) (by simpa using e) (by simpa using h)
    rw [i,l]
    simp only [List.take_succ_cons,zs] at this ⊢
    omega
theorem xD (f:Int→Int→Int){xs ys:List Int}{M:Int}(h:xs.length=ys.length)(a:∀ j:Nat,j<xs.length → -M≤f (ix xs (j:Int)) (ix ys (j:Int))∧f (ix xs (j:Int)) (ix ys (j:Int))≤M){j:Nat}(b:j≤xs.length) :
  -(j*M)≤zs f (xs.take j) (ys.take j)∧zs f (xs.take j) (ys.take j)≤j*M:=by
 induction j with
 | zero=>simp [zs]
 | succ j ih =>
  have h1:=ih (by omega)
  have h2:=a j (by omega)
  rw [lA f (by omega) (by omega)]
  have e:((j+1:Nat):Int)*M=(j:Int)*M+M:=by rw [show ((j+1:Nat):Int)=(j:Int)+1 by omega,Int.add_mul]; omega
  rw [e]
  omega
def lw (d s:Int):Int:=if s*(d - 1)<0 then s*(d - 1) else 0
def hw (d s:Int):Int:=if s*(d - 1)>0 then s*(d - 1) else 0
theorem yD {ds is ss:List Int}(e:IV ds is)(j:ss.length=ds.length):zs lw ds ss≤zs (·*·) is ss∧zs (·*·) is ss≤zs hw ds ss:=by
 induction ds generalizing is ss with
 | nil=>cases is with
  | nil=>simp [zs]
  | cons=>exact e.elim
 | cons d ds ih=>cases is with
  | nil=>exact e.elim
  | cons i is=>cases ss with
   | nil=>simp at j
   | cons s ss =>
    obtain ⟨a,b⟩:=ih e.2 (ss:=ss) (by simpa using j)
    have h1:0≤i∧i≤d - 1:=⟨e.1.1,by have:=e.1.2; omega⟩
    have l:lw d s≤i*s∧i*s≤hw d s:=by
     unfold lw hw
     rw [Int.mul_comm i s]
     rcases Int.le_total 0 s with h | h
     ·have q:0≤s*i:=Int.mul_nonneg h h1.1
      have r:s*i≤s*(d - 1):=Int.mul_le_mul_of_nonneg_left h1.2 h
      split<;>split<;>omega
     ·have q:s*i≤0:=Int.mul_nonpos_of_nonpos_of_nonneg h h1.1
      have r:s*(d - 1)≤s*i:=Int.mul_le_mul_of_nonpos_left h h1.2
      split<;>split<;>omega
    simp only [zs]
    omega
structure VG (dims ss:List Int)(off base:Int):Prop where
 d:eL dims
 l:ss.length=dims.length
 b:1≤base∧base≤4096
 o:0≤off∧off<base
 s:∀ s∈ss,-4096≤s∧s≤4096
 lo:0≤off+zs lw dims ss
 hi:off+zs hw dims ss<base
theorem VG.place {a ss:List Int}{b base:Int}(h:VG a ss b base){is:List Int}(e:IV a is):0≤b+zs (·*·) is ss∧b+zs (·*·) is ss<base:=by
 have h1:=yD e h.l
 have h2:=h.lo
 have i:=h.hi
 omega
theorem IV.mem {ds is:List Int}(h:IV ds is){j:Nat}(a:j<is.length):0≤ix is (j:Int)∧ix is (j:Int)<ix ds (j:Int):=by
 induction ds generalizing is j with
 | nil=>cases is with
  | nil=>simp at a
  | cons=>exact h.elim
 | cons d ds ih=>cases is with
  | nil=>exact h.elim
  | cons i is=>cases j with
   | zero=>exact h.1
   | succ j =>
    have b:ix (i::is) ((j+1:Nat):Int)=ix is (j:Int):=by simp [ix]
    have e:ix (d::ds) ((j+1:Nat):Int)=ix ds (j:Int):=by simp [ix]
    rw [b,e]
    exact ih h.2 (by simpa using a)
theorem qH {a b M N:Int}(e:0≤a)(h1:a≤M)(h2 : -N≤b)(h:b≤N)(i:0≤N) : -(M*N)≤a*b∧a*b≤M*N:=by
 have k1:a*b≤a*N:=Int.mul_le_mul_of_nonneg_left h e
 have j:a*N≤M*N:=Int.mul_le_mul_of_nonneg_right h1 i
 have k3:a*(-N)≤a*b:=Int.mul_le_mul_of_nonneg_left h2 e
 rw [Int.mul_neg] at k3
 omega
theorem iG {α:Type}(xs:List α){l:Int}:sub xs l (xs.length:Int)=xs.drop l.toNat:=by simp [sub]
theorem wd {v:View}{is:List Int}(h:eL v.Dims)(E:v.Strides.length=v.Dims.length)(B:∀ s∈v.Strides,-4096≤s∧s≤4096)(G:0≤v.Offset∧v.Offset≤4096)(l:IV v.Dims is):Z1d v is=some (v.Offset+zs (·*·) is v.Strides):=by
 have u:=l.len
 have F:=h.1
 unfold Z1d
 have a:∀ j:Nat,j<is.length → -(4096*4096)≤ix is (j:Int)*ix v.Strides (j:Int)∧ix is (j:Int)*ix v.Strides (j:Int)≤4096*4096:=by
  intro j b
  have h1:=l.mem b
  have h2:=h.2.mem (bI (xs:=v.Dims) (k:=j) (by omega))
  have i:=B _ (bI (xs:=v.Strides) (k:=j) (by omega))
  exact qH h1.1 (by omega) i.1 i.2 (by omega)
 have bd:∀ j,j≤is.length → -(6*(4096*4096))≤zs (·*·) (is.take j) (v.Strides.take j)∧zs (·*·) (is.take j) (v.Strides.take j)≤6*(4096*4096):=by
  intro j b
  have:=xD (·*·) (xs:=is) (ys:=v.Strides) (M:=4096*4096) (by omega) a b
  have e:(j:Int)≤6:=by omega
  have:=Int.mul_le_mul_of_nonneg_right e (show (0:Int)≤4096*4096 by omega)
  omega
 have:=eV (f:=fun s:Int×Int=>Z1d_L1 v is s.1 s.2) (r:=v.Offset+zs (·*·) is v.Strides) (fun j=>(v.Offset+zs (·*·) (is.take j) (v.Strides.take j),(j:Int))) is.length
  (fun j b=>by
   have t:=a j b
   have q:=bd (j+1) (by omega)
   have D:=bd j (by omega)
   rw [lA (·*·) b (by omega)] at q
   simp only [Z1d_L1]
   rw [if_pos (by simp; omega),if_pos (by omega),if_pos (by omega),aX (n:=ix is (j:Int)*ix v.Strides (j:Int)) (by omega) (by omega),aX (by omega) (by omega),cA (by unfold cS; omega),lA (·*·) b (by omega),Int.add_assoc])
  (by simp only [Z1d_L1]; rw [if_neg (by simp),List.take_length,List.take_of_length_le (by omega)])
  (s:=(v.Offset,0)) (by simp [zs])
 rw [this]
 rfl
def o5 (a ss:List Int)(b:Int):List Int:=(List.range (pr a).toNat).map fun k:Nat=>b+zs (·*·) (iA a (k:Int)) ss
theorem rY {v:View}(h:eL v.Dims)(a:v.Strides.length=v.Dims.length)(i:∀ s∈v.Strides,-4096≤s∧s≤4096)(b:0≤v.Offset∧v.Offset≤4096):Z0j v=some (o5 v.Dims v.Strides v.Offset):=by
 have q:=h.1
 have u:=h.2.pos
 have e:=h.2.2
 unfold Z0j
 rw [jz (by unfold cS; omega),if_pos h.2]
 simp only [Option.bind_some]
 have:=eV (f:=fun s:List Int×Int=>Z0j_L1 v (pr v.Dims) s.1 s.2) (r:=o5 v.Dims v.Strides v.Offset) (fun j=>((List.range j).map fun k:Nat=>v.Offset+zs (·*·) (iA v.Dims (k:Int)) v.Strides,(j:Int))) (pr v.Dims).toNat
  (fun j l=>by
   simp only [Z0j_L1]
   rw [if_pos (by simp; omega),jZ h (by omega) (by omega)]
   simp only [Option.bind_some]
   rw [wd h a i b (iB h.2.1 _)]
   simp only [Option.bind_some]
   rw [if_pos (by simp; omega),cA (by unfold cS; omega),List.range_succ,List.map_append]
   rfl)
  (by simp only [Z0j_L1]; rw [if_neg (by simp; omega)]; rfl)
  (s:=([],0)) rfl
 rw [this]
 rfl
theorem pR (ss:List Int)(h:∀ s∈ss,-4096≤s∧s≤4096):(ss.all fun x=>!(decide (x < -4096)||decide (x>4096)))=true:=by
 rw [List.all_eq_true]
 intro x a
 have:=h x a
 simp; omega
theorem l2 {v:View}(h:VG v.Dims v.Strides v.Offset v.Base):Zb v=some true:=by
 have D:=h.d.1
 have a:=h.l
 have B:=h.b
 have E:=h.o
 unfold Zb
 rw [gO (by unfold cS; omega)]
 simp only [h.d,decide_true,Option.bind_some]
 rw [if_neg (by simp; omega)]
 have r:=eP v.Strides (fun s:Int=>Zb_L1 v s) (fun i=>i) (fun x=>!(decide (x < -4096)||decide (x>4096))) (.inl false) (.inr ())
  (fun k hk=>by
   simp only [Zb_L1]
   rw [if_pos (by simp; omega),if_pos (by omega),cA (by unfold cS; omega)]
   cases (decide (ix v.Strides (k:Int) < -4096)||decide (ix v.Strides (k:Int)>4096))<;>rfl)
  (by simp only [Zb_L1]; rw [if_neg (by simp)])
 rw [r,pR _ h.s]
 simp only [if_true,Option.bind_some,Zb_J1]
 rw [rY h.d a h.s ⟨by omega,by omega⟩]
 simp only [Option.bind_some]
 have j:(o5 v.Dims v.Strides v.Offset).length≤4096:=by have:=h.d.2.2; simp [o5]; omega
 have u:=eP (o5 v.Dims v.Strides v.Offset) (fun s:Int=>Zb_L2 v (o5 v.Dims v.Strides v.Offset) s) (fun i=>i) (fun x=>!(decide (x<0)||decide (x≥v.Base))) (.inl false) (.inr ())
  (fun k hk=>by
   simp only [Zb_L2]
   rw [if_pos (by simp; omega),if_pos (by omega),cA (by unfold cS; omega)]
   cases (decide (ix (o5 v.Dims v.Strides v.Offset) (k:Int)<0)||decide (ix (o5 v.Dims v.Strides v.Offset) (k:Int)≥v.Base))<;>rfl)
  (by simp only [Zb_L2]; rw [if_neg (by simp)])
 have e:((o5 v.Dims v.Strides v.Offset).all fun x=>!(decide (x<0)||decide (x≥v.Base)))=true:=by
  rw [List.all_eq_true]
  intro x q
  obtain ⟨k,_,rfl⟩:=List.mem_map.1 q
  have:=h.place (iB h.d.2.1 (k:Int))
  simp; omega
 rw [u,e]
 rfl
theorem wf:Zb ⟨[],[],0,0⟩=some false:=by
 unfold Zb
 rw [gO (by simp [cS])]
 rfl
theorem wg:Zk ⟨[],[],0,0⟩=some false:=by
 unfold Zk
 rw [hY (by simp [cS])]
 rfl
theorem l4 {v:View}(h:VG v.Dims v.Strides v.Offset v.Base):Zk v=some true:=by
 have Z:=h.d.1
 have U:=h.l
 have T:=h.b
 have ho:=h.o
 unfold Zk
 rw [hY (by unfold cS; omega)]
 simp only [h.d,decide_true,Option.bind_some]
 rw [if_neg (by simp; omega)]
 have e:∀ j:Nat,j<v.Dims.length → -(4096*4096)≤ix v.Strides (j:Int)*(ix v.Dims (j:Int) - 1)∧ix v.Strides (j:Int)*(ix v.Dims (j:Int) - 1)≤4096*4096:=by
  intro j a
  have h2:=h.d.2.mem (bI (xs:=v.Dims) (k:=j) a)
  have q:=h.s _ (bI (xs:=v.Strides) (k:=j) (by omega))
  rw [Int.mul_comm (ix v.Strides (j:Int))]
  exact qH (by omega) (by omega) q.1 q.2 (by omega)
 have bd:∀ (f:Int→Int→Int),(f=lw∨f=hw)→∀ j,j≤v.Dims.length → -(6*(4096*4096))≤zs f (v.Dims.take j) (v.Strides.take j)∧zs f (v.Dims.take j) (v.Strides.take j)≤6*(4096*4096):=by
  intro f F j a
  have:=xD f (xs:=v.Dims) (ys:=v.Strides) (M:=4096*4096) (by omega) (fun j a=>by
   have:=e j a
   rcases F with rfl | rfl
   ·unfold lw; split<;>omega
   ·unfold hw; split<;>omega) a
  have i:(j:Int)≤6:=by omega
  have:=Int.mul_le_mul_of_nonneg_right i (show (0:Int)≤4096*4096 by omega)
  omega
 have:=eV (f:=fun s:Int×Int×Int=>Zk_L1 v s.1 s.2.1 s.2.2) (r:=.inr (v.Offset+zs lw v.Dims v.Strides,v.Offset+zs hw v.Dims v.Strides)) (fun j=>(v.Offset+zs lw (v.Dims.take j) (v.Strides.take j),v.Offset+zs hw (v.Dims.take j) (v.Strides.take j),(j:Int))) v.Dims.length
  (fun j a=>by
   have t:=e j a
   have a0:=bd lw (.inl rfl) j (by omega)
   have J:=bd lw (.inl rfl) (j+1) (by omega)
   have L:=bd hw (.inr rfl) j (by omega)
   have O:=bd hw (.inr rfl) (j+1) (by omega)
   have G:=lA lw (xs:=v.Dims) (ys:=v.Strides) (j:=j) (by omega) (by omega)
   have I:=lA hw (xs:=v.Dims) (ys:=v.Strides) (j:=j) (by omega) (by omega)
   have hs:=h.s _ (bI (xs:=v.Strides) (k:=j) (by omega))
   have Y:=h.d.2.mem (bI (xs:=v.Dims) (k:=j) a)
   simp only [Zk_L1]
   rw [if_pos (by simp; omega),if_pos (by omega),if_neg (by simp; omega),if_pos (by omega)]
   have u:aI (ix v.Dims (j:Int) - 1)=ix v.Dims (j:Int) - 1:=aX (by omega) (by omega)
   have B:aI (ix v.Strides (j:Int)*(ix v.Dims (j:Int) - 1))=ix v.Strides (j:Int)*(ix v.Dims (j:Int) - 1):=aX (by omega) (by omega)
   have D:lw (ix v.Dims (j:Int)) (ix v.Strides (j:Int))=if ix v.Strides (j:Int)*(ix v.Dims (j:Int) - 1)<0 then ix v.Strides (j:Int)*(ix v.Dims (j:Int) - 1) else 0:=rfl
   have E:hw (ix v.Dims (j:Int)) (ix v.Strides (j:Int))=if ix v.Strides (j:Int)*(ix v.Dims (j:Int) - 1)>0 then ix v.Strides (j:Int)*(ix v.Dims (j:Int) - 1) else 0:=rfl
   rw [u,B,← D,← E,aX (by omega) (by omega),aX (by omega) (by omega),cA (by unfold cS; omega),G,I,Int.add_assoc,Int.add_assoc])
  (by simp only [Zk_L1]; rw [if_neg (by simp; omega),List.take_length,List.take_of_length_le (by omega)])
  (s:=(v.Offset,v.Offset,0)) (by simp [zs])
 rw [this]
 have:=h.lo
 have:=h.hi
 simp only [Option.bind_some,Zk_J1]
 congr 1
 simp; omega
def tm:List Int→List Int
 | []=>[]
 | _::ds=>pr ds::tm ds
def eY:List Int→List Int
 | []=>[]
 | d::ds=>(if d>1 then pr ds else 0)::eY ds
theorem iZ (ds:List Int):(tm ds).length=ds.length:=by
 induction ds with
 | nil=>rfl
 | cons d ds ih=>simp [tm,ih]
theorem dT (ds:List Int):(eY ds).length=ds.length:=by
 induction ds with
 | nil=>rfl
 | cons d ds ih=>simp [eY,ih]
theorem dZ {α:Type}[Inhabited α](x:α)(xs:List α)(j:Nat):ix (x::xs) ((j+1:Nat):Int)=ix xs (j:Int):=by simp [ix]
theorem un {ds:List Int}{j:Nat}(h:j<ds.length):ix (tm ds) (j:Int)=pr (ds.drop (j+1)):=by
 induction ds generalizing j with
 | nil=>simp at h
 | cons d ds ih=>cases j with
  | zero=>rfl
  | succ j=>rw [tm,dZ,ih (by simpa using h)]; rfl
theorem qK {ds:List Int}{j:Nat}(h:j<ds.length):ix (eY ds) (j:Int)=if ix ds (j:Int)>1 then pr (ds.drop (j+1)) else 0:=by
 induction ds generalizing j with
 | nil=>simp at h
 | cons d ds ih=>cases j with
  | zero=>rfl
  | succ j=>rw [eY,dZ,dZ,ih (by simpa using h)]; rfl
theorem uo {L xs:List Int}(b:L.length=xs.length){j:Nat}(a:j<xs.length):(L.take j++xs.drop j).set j (ix L (j:Int))=L.take (j+1)++xs.drop (j+1):=by
 rw [cC (by omega),List.set_append_right _ _ (by simp; omega),List.take_succ_eq_append_getElem (by omega)]
 have:j - (L.take j).length=0:=by simp; omega
 rw [this,List.drop_eq_getElem_cons a,List.set_cons_zero,List.append_assoc]
 rfl
theorem rZ {L xs:List Int}(b:L.length=xs.length){j:Nat}(a:j<xs.length)(h:ix L (j:Int)=ix xs (j:Int)):L.take j++xs.drop j=L.take (j+1)++xs.drop (j+1):=by
 rw [cC (by omega),cC a] at h
 rw [List.take_succ_eq_append_getElem (by omega),List.drop_eq_getElem_cons a,h]
 simp
theorem gD {ds:List Int}(h:SZ ds):∀ s∈eY ds,0≤s∧s≤4096:=by
 induction ds with
 | nil=>intro s b; cases b
 | cons d ds ih =>
  have e:=h.tail.pos
  have a:=h.tail.2
  refine List.forall_mem_cons.2 ⟨?_,ih h.tail⟩
  split<;>omega
theorem uq {ds:List Int}(h:SZ ds):zs lw ds (eY ds)=0:=by
 induction ds with
 | nil=>rfl
 | cons d ds ih =>
  have a:=h.1 d (by simp)
  have b:=h.tail.pos
  simp only [eY,zs,ih h.tail]
  unfold lw
  split
  ·have:=Int.mul_nonneg (show 0≤pr ds by omega) (show 0≤d - 1 by omega); split<;>omega
  ·simp
theorem ku {ds:List Int}(h:SZ ds):zs hw ds (eY ds)=pr ds - 1:=by
 induction ds with
 | nil=>rfl
 | cons d ds ih =>
  have a:=h.1 d (by simp)
  have b:=h.tail.pos
  simp only [eY,zs,ih h.tail]
  have e:pr (d::ds)=pr ds*(d - 1)+pr ds:=by simp only [pr]; rw [Int.mul_sub,Int.mul_comm (pr ds) d]; omega
  rw [e]
  unfold hw
  by_cases c:d>1
  ·have:0<pr ds*(d - 1):=Int.mul_pos (by omega) (by omega)
   rw [if_pos c,if_pos this]; omega
  ·have:d=1:=by omega
   subst this; simp
theorem ur {ds:List Int}(h:eL ds):VG ds (eY ds) 0 (pr ds):=by
 have b:=h.2.pos
 have a:=h.2.2
 refine ⟨h,dT ds,⟨b,a⟩,⟨by omega,by omega⟩,fun s e=>by have:=gD h.2 s e; omega,?_,?_⟩
 ·rw [uq h.2]; decide
 ·rw [ku h.2]; omega
theorem sN {ds is:List Int}(a:IV ds is):zs (·*·) is (eY ds)=mP ds is:=by
 induction ds generalizing is with
 | nil=>cases is with
  | nil=>rfl
  | cons=>exact a.elim
 | cons d ds ih=>cases is with
  | nil=>exact a.elim
  | cons i is =>
   have:=a.1
   simp only [eY,zs,mP,ih a.2]
   split
   ·rfl
   ·have:i=0:=by omega
    subst this; simp
theorem o8 {ds:List Int}(h:SZ ds):o5 ds (eY ds) 0=(List.range (pr ds).toNat).map fun k:Nat=>(k:Int):=by
 unfold o5
 refine List.map_congr_left fun k hk=>?_
 have hk:k<(pr ds).toNat:=by simpa using hk
 have:=h.pos
 rw [sN (iB h.1 _),sM h.1 (by omega) (by omega)]
 omega
def whole (ds:List Int):View:=⟨ds,eY ds,0,pr ds⟩
def eI:View:=⟨[],[],0,0⟩
theorem wh {ds:List Int}(h:eL ds):Z0p ⟨ds,tm ds,0,pr ds⟩=some (whole ds):=by
 have i:=h.1
 unfold Z0p
 have:=eV (f:=fun s:Int×List Int=>Z0p_L1 ⟨ds,tm ds,0,pr ds⟩ s.1 s.2) (r:=eY ds) (fun j=>((j:Int),(eY ds).take j++(tm ds).drop j)) ds.length
  (fun j a=>by
   have b:=h.2.mem (bI a)
   simp only [Z0p_L1,Z0p_J2]
   rw [if_pos (by simp; omega),if_pos (by omega)]
   by_cases c:ix ds (j:Int)=1
   ·rw [if_pos (by simp [c]),if_pos (by rw [iZ]; omega),cA (by unfold cS; omega)]
    have e:=uo (L:=eY ds) (xs:=tm ds) (by rw [dT,iZ]) (j:=j) (by rw [iZ]; omega)
    rw [qK a,if_neg (by omega)] at e
    simp only [Int.toNat_natCast]
    rw [e]
   ·rw [if_neg (by simp [c]),cA (by unfold cS; omega),rZ (by rw [dT,iZ]) (by rw [iZ]; omega) (by rw [qK a,un a,if_pos (by omega)])])
  (by simp only [Z0p_L1]; rw [if_neg (by simp)]; rw [List.take_of_length_le (by rw [dT]; omega),List.drop_of_length_le (by rw [iZ]; omega),List.append_nil])
  (s:=(0,tm ds)) (by simp)
 rw [this]
 rfl
theorem kG {ds:List Int}(h:eL ds):Z00 ds=some (whole ds):=by
 have b:=h.1
 unfold Z00
 rw [gO (by unfold cS; omega)]
 simp only [h,decide_true,Option.bind_some,Bool.not_true,Bool.false_eq_true,if_false]
 rw [iN (by omega),jz (by unfold cS; omega),if_pos h.2]
 simp only [Option.bind_some]
 have:=eV (f:=fun s:List Int×Int=>Z00_L1 ds s.1 s.2) (r:=tm ds) (fun j=>((tm ds).take j,(j:Int))) ds.length
  (fun j a=>by
   simp only [Z00_L1]
   rw [if_pos (by simp; omega),cA (by unfold cS; omega),if_pos (by omega),iG,Int.toNat_natCast,jz (by simp [cS]; omega),if_pos (h.2.drop (j+1))]
   simp only [Option.bind_some]
   rw [if_pos (by simp; omega),List.take_succ_eq_append_getElem (by rw [iZ]; omega),← un a,cC (by rw [iZ]; omega)])
  (by simp only [Z00_L1]; rw [if_neg (by simp),List.take_of_length_le (by rw [iZ]; omega)])
  (s:=([],0)) rfl
 rw [this]
 simp only [Option.bind_some,Z00_J1]
 rw [wh h]
 rfl
theorem oK {ds:List Int}(h:eL ds):Z0c ds=some (eY ds):=by
 have G:=h.1
 unfold Z0c
 rw [if_pos (by omega)]
 have:=eV (f:=fun s:List Int×Int×Int=>Z0c_L1 ds s.1 s.2.1 s.2.2) (r:=eY ds)
  (fun j=>(List.replicate (ds.length - j) 0++eY (ds.drop (ds.length - j)),pr (ds.drop (ds.length - j)),(ds.length:Int) - 1 - j)) ds.length
  (fun j E=>by
   obtain ⟨i,B⟩:∃ i,i=ds.length - (j+1):=⟨_,rfl⟩
   have q:ds.length - j=i+1:=by omega
   have u:(ds.length:Int) - 1 - (j:Int)=(i:Int):=by omega
   have a:i<ds.length:=by omega
   have F:=h.2.mem (bI a)
   have I:=(h.2.drop (i+1)).pos
   have D:=(h.2.drop (i+1)).2
   have b:ds.drop i=ix ds (i:Int)::ds.drop (i+1):=by rw [List.drop_eq_getElem_cons a,cC a]
   have e:pr (ds.drop i)=pr (ds.drop (i+1))*ix ds (i:Int):=by rw [b]; simp [pr,Int.mul_comm]
   simp only [Z0c_L1,Z0c_J2,q,u,← B]
   rw [if_pos (by simp),if_pos (by omega)]
   have l:aI ((i:Int) - 1)=(ds.length:Int) - 1 - ((j+1:Nat):Int):=by rw [aX (by omega) (by omega)]; omega
   by_cases c:ix ds (i:Int)>1
   ·rw [if_pos (by simp; omega),if_pos (by simp; omega),if_pos (by omega),iY (by omega) (by omega) (by omega) (by omega),← e,l]
    congr 3
    rw [b,List.replicate_succ',List.set_append_left _ _ (by simp),List.set_append_right _ _ (by simp)]
    simp [eY,c]
   ·rw [if_neg (by simp; omega),if_pos (by omega),iY (by omega) (by omega) (by omega) (by omega),← e,l]
    congr 3
    rw [b,List.replicate_succ']
    simp [eY,c])
  (by
   simp only [Z0c_L1,Nat.sub_self,List.drop_zero,List.replicate_zero,List.nil_append]
   rw [if_neg (by simp; omega)])
  (s:=(List.replicate (ds.length:Int).toNat 0,1,aI ((ds.length:Int) - 1))) (by
   rw [aX (by omega) (by omega)]
   simp [pr,eY])
 rw [this]
 rfl
theorem lD {ds:List Int}(h:eL ds):Z2y ds=some (whole ds):=by
 have a:=h.1
 unfold Z2y
 rw [hY (by unfold cS; omega)]
 simp only [h,decide_true,Option.bind_some,Bool.not_true,Bool.false_eq_true,if_false]
 rw [iF (by omega),oK h,kZ (by unfold cS; omega) h.2]
 rfl
def gF (n:Nat):List Int:=List.replicate n 0
def qL:List Int→List Int→Option (List Int)
 | d::ds,i::is=>match qL ds is with
  | some q=>some (i::q)
  | none=>if i+1<d then some ((i+1)::gF ds.length) else none
 | _,_=>none
theorem us {ds is:List Int}(h:is.length=ds.length)(d i:Int):qL (ds++[d]) (is++[i])=if i+1<d then some (is++[i+1]) else (qL ds is).map (·++[0]):=by
 induction ds generalizing is with
 | nil=>cases is with
  | nil=>simp [qL,gF]
  | cons=>simp at h
 | cons e ds ih=>cases is with
  | nil=>simp at h
  | cons j is =>
   have:=ih (is:=is) (by simpa using h)
   simp only [List.cons_append,qL,this]
   by_cases c:i+1<d
   ·simp [c]
   ·simp only [c,if_false]
    cases qL ds is with
    | some q=>simp
    | none =>
     simp only [Option.map_none]
     split
     ·simp [gF,List.replicate_succ']
     ·simp
theorem r' {ds:List Int}(h:∀ d∈ds,1≤d){m:Int}(s:m % pr ds=0):iA ds m=gF ds.length:=by
 induction ds generalizing m with
 | nil=>rfl
 | cons d ds ih =>
  have j:1≤pr ds:=fP fun x i=>h x (by simp [i])
  have r:=h d (by simp)
  have e:=(uh (k:=m) j r).2
  have a:=Int.emod_nonneg m (show pr ds≠0 by omega)
  have c:=Int.emod_nonneg (m / pr ds) (show d≠0 by omega)
  have B:m % (d*pr ds)=0:=s
  have b:=Int.mul_nonneg c (show 0≤pr ds by omega)
  have u:=ja c j
  have l:m % pr ds=0:=by omega
  have q:m / pr ds % d=0:=by omega
  simp only [iA,q,ih (fun x i=>h x (by simp [i])) l]
  simp [gF,List.replicate_succ]
theorem s6 {ds:List Int}(h:∀ d∈ds,1≤d)(k:Int):qL ds (iA ds k)=if k % pr ds+1<pr ds then some (iA ds (k+1)) else none:=by
 induction ds generalizing k with
 | nil=>simp [qL,pr,Int.emod_one]
 | cons d ds ih =>
  have D:1≤pr ds:=fP fun x j=>h x (by simp [j])
  have B:=h d (by simp)
  have l:∀ x∈ds,1≤x:=fun x j=>h x (by simp [j])
  have e:=(uh (k:=k) D B).2
  have a:=Int.emod_nonneg k (show pr ds≠0 by omega)
  have E:=Int.emod_lt_of_pos k (show 0<pr ds by omega)
  have c:=Int.emod_nonneg (k / pr ds) (show d≠0 by omega)
  have G:=Int.emod_lt_of_pos (k / pr ds) (show 0<d by omega)
  have I:=Int.mul_ediv_add_emod k (pr ds)
  have i:pr (d::ds)=d*pr ds:=rfl
  have b:(k / pr ds % d+1)*pr ds≤d*pr ds:=Int.mul_le_mul_of_nonneg_right (by omega) (by omega)
  rw [Int.add_mul] at b
  simp only [iA,qL,ih l]
  by_cases q:k % pr ds+1<pr ds
  ·have f:=(Int.ediv_emod_unique (a:=k+1) (b:=pr ds) (r:=k % pr ds+1) (q:=k / pr ds) (by omega)).2 ⟨by omega,by omega,by omega⟩
   simp only [if_pos q,f.1]
   rw [if_pos (show k % pr (d::ds)+1<pr (d::ds) by rw [i,e]; omega)]
  ·have L:k % pr ds=pr ds - 1:=by omega
   have f:=(Int.ediv_emod_unique (a:=k+1) (b:=pr ds) (r:=0) (q:=k / pr ds+1) (by omega)).2 ⟨by rw [Int.mul_add]; omega,by omega,by omega⟩
   simp only [if_neg q,f.1]
   by_cases g:k / pr ds % d+1<d
   ·have J:=Int.mul_ediv_add_emod (k / pr ds) d
    have u:=(Int.ediv_emod_unique (a:=k / pr ds+1) (b:=d) (r:=k / pr ds % d+1) (q:=k / pr ds / d) (by omega)).2 ⟨by omega,by omega,by omega⟩
    have s:(k / pr ds % d+2)*pr ds≤d*pr ds:=Int.mul_le_mul_of_nonneg_right (by omega) (by omega)
    rw [Int.add_mul] at s
    rw [if_pos g,if_pos (show k % pr (d::ds)+1<pr (d::ds) by rw [i,e]; omega),u.2,r' l f.2]
   ·have g1:k / pr ds % d=d - 1:=by omega
    have F:k / pr ds % d*pr ds=d*pr ds - pr ds:=by rw [g1,Int.sub_mul]; omega
    rw [if_neg g,if_neg (show ¬ k % pr (d::ds)+1<pr (d::ds) by rw [i,e]; omega)]
theorem yE (f:Int→Int→Int){xs ys:List Int}{j:Nat}{a:Int}(b:j<xs.length)(e:j<ys.length):zs f (xs.set j a) ys=zs f xs ys - f (ix xs (j:Int)) (ix ys (j:Int))+f a (ix ys (j:Int)):=by
 induction xs generalizing ys j with
 | nil=>simp at b
 | cons x xs ih=>cases ys with
  | nil=>simp at e
  | cons y ys=>cases j with
   | zero=>simp [zs,ix]; omega
   | succ j =>
    rw [dZ,dZ,List.set_cons_succ]
    simp only [zs,ih (ys:=ys) (j:=j) (by simpa using b) (by simpa using e)]
    omega
theorem pS {O:Type}{YF:O→Int→Option (O×Bool)}{ds ss:List Int}{u base:Int}(h:VG ds ss u base){is:List Int}(G:IV ds is):∀ p,p≤ds.length →
  (∀ q,qL (ds.take p) (is.take p)=some q→∃ i:Int,0≤i∧aQ (fun s:List Int×Int×Int=>Z04_L2 O YF ds ss s.1 s.2.1 s.2.2) (is.take p++gF (ds.length - p),u+zs (·*·) (is.take p++gF (ds.length - p)) ss,(p:Int) - 1)=some (q++gF (ds.length - p),u+zs (·*·) (q++gF (ds.length - p)) ss,i)) ∧
  (qL (ds.take p) (is.take p)=none→∃ x y,aQ (fun s:List Int×Int×Int=>Z04_L2 O YF ds ss s.1 s.2.1 s.2.2) (is.take p++gF (ds.length - p),u+zs (·*·) (is.take p++gF (ds.length - p)) ss,(p:Int) - 1)=some (x,y,-1)):=by
 intro p
 have hn:=h.d.1
 have hl:=h.l
 have a7:=G.len
 induction p with
 | zero =>
  intro _
  refine ⟨fun q D=>by simp [qL] at D,fun _=>⟨is.take 0++gF (ds.length - 0),u+zs (·*·) (is.take 0++gF (ds.length - 0)) ss,cT ?_⟩⟩
  simp only [Z04_L2]
  rw [if_neg (by simp)]
  rfl
 | succ p ih =>
  intro I
  obtain ⟨a4,a5⟩:=ih (by omega)
  have hm:=G.mem (j:=p) (by omega)
  have a6:=h.d.2.mem (bI (xs:=ds) (k:=p) (by omega))
  have a0:=h.s _ (bI (xs:=ss) (k:=p) (by omega))
  have ti:is.take (p+1)=is.take p++[ix is (p:Int)]:=by rw [List.take_succ_eq_append_getElem (by omega),cC (by omega)]
  have td:ds.take (p+1)=ds.take p++[ix ds (p:Int)]:=by rw [List.take_succ_eq_append_getElem (by omega),cC (by omega)]
  have Z:(is.take p).length=(ds.take p).length:=by simp; omega
  have J:=us Z (ix ds (p:Int)) (ix is (p:Int))
  rw [← ti,← td] at J
  obtain ⟨r,B⟩:∃ r,r=is.take (p+1)++gF (ds.length - (p+1)):=⟨_,rfl⟩
  have a2:r.length=ds.length:=by rw [B]; simp [gF]; omega
  have Y:ix r (p:Int)=ix is (p:Int):=by
   have a3:p<r.length:=by omega
   rw [cC a3,cC (by omega)]
   subst B
   rw [List.getElem_append_left (by simp; omega)]
   simp
  have E:∀ a:Int,r.set p a=is.take p++a::gF (ds.length - (p+1)):=by
   intro a
   rw [B,ti,List.append_assoc,List.set_append_right _ _ (by simp; omega)]
   have:p - (is.take p).length=0:=by simp; omega
   rw [this]
   rfl
  have T:∀ a:Int,0≤a→a<ix ds (p:Int)→0≤u+zs (·*·) (r.set p a) ss∧u+zs (·*·) (r.set p a) ss≤4096:=by
   intro a h0 h1
   have a1:∀ (ds is:List Int),IV ds is→(∀ d∈ds,1≤d)→∀ p,p<ds.length→0≤a→a<ix ds (p:Int)→IV ds (is.take p++a::gF (ds.length - (p+1))):=by
    intro ds
    induction ds with
    | nil=>intro is _ _ p I; simp at I
    | cons d ds ihd =>
     intro is G F p I h0 h1
     cases is with
     | nil=>exact G.elim
     | cons i is =>
      cases p with
      | zero =>
       refine ⟨⟨h0,h1⟩,?_⟩
       have hz:∀ ds:List Int,(∀ d∈ds,1≤d)→IV ds (gF ds.length):=by
        intro ds
        induction ds with
        | nil=>intro _; trivial
        | cons d ds ihz=>intro I; exact ⟨⟨Int.le_refl 0,by have:=I d (by simp); omega⟩,ihz fun x hx=>I x (by simp [hx])⟩
       exact hz ds fun x hx=>F x (by simp [hx])
      | succ p =>
       rw [dZ] at h1
       have:=ihd is G.2 (fun x hx=>F x (by simp [hx])) p (by simpa using I) h0 h1
       refine ⟨G.1,?_⟩
       simpa using this
   have:=h.place (a1 ds is G h.d.2.1 p (by omega) h0 h1)
   have:=h.b
   rw [E]
   omega
  have L:=fun a=>yE (·*·) (xs:=r) (ys:=ss) (j:=p) (a:=a) (by omega) (by omega)
  rw [Y] at L
  have b0:=T (ix is (p:Int)) hm.1 hm.2
  have e0:r.set p (ix is (p:Int))=r:=by rw [E,B,ti]; simp
  rw [e0] at b0
  have U:Z04_L2 O YF ds ss r (u+zs (·*·) r ss) ((p+1:Nat) - 1:Int)=if ix is (p:Int)+1<ix ds (p:Int) then some (.inr (r.set p (ix is (p:Int)+1),u+zs (·*·) (r.set p (ix is (p:Int)+1)) ss,(p:Int))) else some (.inl (r.set p 0,u+zs (·*·) (r.set p 0) ss,(p:Int) - 1)):=by
   have ep:((p+1:Nat) - 1:Int)=(p:Int):=by omega
   have w1:aI (ix is (p:Int)+1)=ix is (p:Int)+1:=aX (by omega) (by omega)
   have w2:aI (u+zs (·*·) r ss+ix ss (p:Int))=u+zs (·*·) r ss+ix ss (p:Int):=aX (by omega) (by omega)
   have mb:=qH (a:=ix ds (p:Int)) (b:=ix ss (p:Int)) (M:=4096) (N:=4096) (by omega) (by omega) a0.1 a0.2 (by omega)
   rw [Int.mul_comm (ix ds (p:Int))] at mb
   have w3:aI (ix ss (p:Int)*ix ds (p:Int))=ix ss (p:Int)*ix ds (p:Int):=aX (by omega) (by omega)
   have e1:ix (r.set p (ix is (p:Int)+1)) (p:Int)=ix is (p:Int)+1:=by rw [cC (by simp; omega)]; simp
   rw [ep]
   simp only [Z04_L2,Int.toNat_natCast,Y,w1,w2,w3,e1]
   rw [if_pos (by simp),if_pos (by simp; omega),if_pos (by omega),if_pos (by omega)]
   by_cases c:ix is (p:Int)+1<ix ds (p:Int)
   ·rw [if_pos (by simpa using c),if_pos c,L (ix is (p:Int)+1),Int.add_mul]
    congr 4
    omega
   ·rw [if_neg (by simpa using c),if_neg c]
    have em:ix ss (p:Int)*ix ds (p:Int)=ix is (p:Int)*ix ss (p:Int)+ix ss (p:Int):=by
     rw [show ix ds (p:Int)=ix is (p:Int)+1 by omega,Int.mul_add,Int.mul_comm]; omega
    have bz:=T 0 (by omega) (by omega)
    have z0:=L 0
    simp only [Int.zero_mul] at z0
    rw [nm,Option.bind_some,List.set_set,aX (by omega) (by omega),aX (by omega) (by omega),z0]
    congr 4
    omega
  rw [← B]
  by_cases c:ix is (p:Int)+1<ix ds (p:Int)
  ·rw [if_pos c] at U J
   refine ⟨fun q D=>⟨(p:Int),by omega,?_⟩,fun D=>by rw [J] at D; cases D⟩
   rw [J] at D
   cases D
   rw [cT U,E]
   simp
  ·rw [if_neg c] at U J
   have e2:r.set p 0=is.take p++gF (ds.length - p):=by
    rw [E,show ds.length - p=(ds.length - (p+1))+1 by omega]; rfl
   rw [e2] at U
   rw [eH U]
   refine ⟨fun q D=>?_,fun D=>a5 (by rw [J] at D; simpa using D)⟩
   rw [J] at D
   cases e:qL (ds.take p) (is.take p) with
   | none=>rw [e] at D; cases D
   | some q' =>
    rw [e] at D
    cases D
    obtain ⟨i,h1,h2⟩:=a4 q' e
    refine ⟨i,h1,?_⟩
    rw [h2]
    have:gF (ds.length - p)=0::gF (ds.length - (p+1)):=by rw [show ds.length - p=(ds.length - (p+1))+1 by omega]; rfl
    rw [this]
    simp
theorem sO {j:Type}{YF:j→Int→Option (j×Bool)}{ds ss:List Int}{b base:Int}(h:VG ds ss b base)(I:Nat→j→Prop)
  (B:∀ (k:Nat) y,(k:Int)<pr ds→I k y→∃ a,YF y (b+zs (·*·) (iA ds (k:Int)) ss)=some (a,true)∧I (k+1) a) {y:j} (G:I 0 y) :
  ∃ a,Z04 j YF y ds b ss=some a∧I (pr ds).toNat a:=by
 have M:=h.d.1
 have O:=h.d.2.pos
 unfold Z04
 rw [if_pos (by omega)]
 have u:∀ m k y,k+1+m=(pr ds).toNat→I k y→∃ a,aQ (fun s:List Int×Int×j=>Z04_L1 j YF ds ss s.1 s.2.1 s.2.2) (iA ds (k:Int),b+zs (·*·) (iA ds (k:Int)) ss,y)=some a∧I (pr ds).toNat a:=by
  intro m
  induction m with
  | zero =>
   intro k y hk r
   obtain ⟨a,h1,h2⟩:=B k y (by omega) r
   obtain ⟨_,l⟩:=pS (YF:=YF) h (iB h.d.2.1 (k:Int)) ds.length (Nat.le_refl _)
   rw [List.take_length,List.take_of_length_le (by rw [jY]; omega),Nat.sub_self] at l
   have e:qL ds (iA ds (k:Int))=none:=by
    rw [s6 h.d.2.1,Int.emod_eq_of_lt (by omega) (by omega),if_neg (by omega)]
   obtain ⟨x,z,q⟩:=l e
   refine ⟨a,cT ?_,by rw [show (pr ds).toNat=k+1 by omega]; exact h2⟩
   simp only [Z04_L1,h1,Option.bind_some,Bool.not_true,Bool.false_eq_true,if_false]
   rw [aX (by omega) (by omega)]
   simp only [gF,List.replicate_zero,List.append_nil] at q
   rw [q]
   rfl
  | succ m ih =>
   intro k y hk r
   obtain ⟨a,h1,h2⟩:=B k y (by omega) r
   obtain ⟨l,_⟩:=pS (YF:=YF) h (iB h.d.2.1 (k:Int)) ds.length (Nat.le_refl _)
   rw [List.take_length,List.take_of_length_le (by rw [jY]; omega),Nat.sub_self] at l
   have e:qL ds (iA ds (k:Int))=some (iA ds ((k:Int)+1)):=by
    rw [s6 h.d.2.1,Int.emod_eq_of_lt (by omega) (by omega),if_pos (by omega)]
   obtain ⟨i,L,q⟩:=l _ e
   have D:(k:Int)+1=((k+1:Nat):Int):=by omega
   have J:=eH (f:=fun s:List Int×Int×j=>Z04_L1 j YF ds ss s.1 s.2.1 s.2.2) (s:=(iA ds (k:Int),b+zs (·*·) (iA ds (k:Int)) ss,y)) (s':=(iA ds ((k+1:Nat):Int),b+zs (·*·) (iA ds ((k+1:Nat):Int)) ss,a)) (by
    simp only [Z04_L1,h1,Option.bind_some,Bool.not_true,Bool.false_eq_true,if_false]
    rw [aX (by omega) (by omega)]
    simp only [gF,List.replicate_zero,List.append_nil] at q
    rw [q,D]
    simp only [Option.bind_some,Z04_J2]
    rw [if_neg (by simp; omega)])
   rw [J]
   exact ih (k+1) a (by omega) h2
 obtain ⟨a,h1,h2⟩:=u ((pr ds).toNat - 1) 0 y (by omega) G
 refine ⟨a,?_,h2⟩
 have e:iA ds ((0:Nat):Int)=gF ds.length:=r' h.d.2.1 (by simp)
 have F:∀ (n:Nat) (ss:List Int),zs (·*·) (gF n) ss=0:=by
  intro n
  induction n with
  | zero=>intro ss; simp [gF,zs]
  | succ n ihn=>intro ss; cases ss with
   | nil=>simp [gF,zs]
   | cons s ss=>have:=ihn ss; simp only [gF,List.replicate_succ,zs] at this ⊢; rw [this]; simp
 rw [e,F] at h1
 have E:(ds.length:Int).toNat=ds.length:=by omega
 rw [E]
 simp only [Int.add_zero] at h1
 rw [show List.replicate ds.length (0:Int)=gF ds.length from rfl,h1]
 rfl
theorem wj {v:View}(h:VG v.Dims v.Strides v.Offset v.Base):∃ ps,Z2r v=some (v.Dims,ps,true):=by
 have b:=h.d.2.2
 unfold Z2r
 rw [l4 h]
 simp only [Option.bind_some,Bool.not_true,Bool.false_eq_true,if_false,Z3e]
 obtain ⟨ps,h1,_⟩:=sO (YF:=fun (s:List pair) (x:Int)=>Z43 s x) h (fun k (y:List pair)=>y.length=k) (fun k y hk a=>by
  simp only [Z43]
  rw [if_pos (by simp; omega)]
  exact ⟨_,rfl,by simp [a]⟩) (y:=[]) rfl
 exact ⟨ps,by rw [h1]; rfl⟩
def mA:List Int→List Int→Bool
 | a::xs,b::ys=>(a==b||a==1)&&mA xs ys
 | _,_=>true
def pc:List Int→List Int→List Int→List Int
 | a::xs,b::ys,s::ss=>(if a=b then s else 0)::pc xs ys ss
 | _,_,_=>[]
theorem kH {xs ys ss:List Int}(h1:ys.length=xs.length)(h2:ss.length=xs.length):(pc xs ys ss).length=xs.length:=by
 induction xs generalizing ys ss with
 | nil=>rfl
 | cons a xs ih=>cases ys with
  | nil=>simp at h1
  | cons b ys=>cases ss with
   | nil=>simp at h2
   | cons s ss=>simp only [pc,List.length_cons]; rw [ih (by simpa using h1) (by simpa using h2)]
theorem yF {xs ys ss:List Int}(h1:ys.length=xs.length)(h2:ss.length=xs.length){j:Nat}(e:j<xs.length):ix (pc xs ys ss) (j:Int)=if ix xs (j:Int)=ix ys (j:Int) then ix ss (j:Int) else 0:=by
 induction xs generalizing ys ss j with
 | nil=>simp at e
 | cons a xs ih=>cases ys with
  | nil=>simp at h1
  | cons b ys=>cases ss with
   | nil=>simp at h2
   | cons s ss=>cases j with
    | zero=>rfl
    | succ j=>rw [pc,dZ,dZ,dZ,dZ,ih (by simpa using h1) (by simpa using h2) (by simpa using e)]
theorem s7 {xs ys:List Int}(h1:ys.length=xs.length)(h:mA xs ys=true){j:Nat}(e:j<xs.length):ix xs (j:Int)=ix ys (j:Int)∨ix xs (j:Int)=1:=by
 induction xs generalizing ys j with
 | nil=>simp at e
 | cons a xs ih=>cases ys with
  | nil=>simp at h1
  | cons b ys =>
   simp only [mA,Bool.and_eq_true,Bool.or_eq_true,beq_iff_eq] at h
   cases j with
   | zero=>exact h.1
   | succ j=>rw [dZ,dZ]; exact ih (by simpa using h1) h.2 (by simpa using e)
theorem s8 {xs ys:List Int}(h1:ys.length=xs.length)(h:mA xs ys=false):∃ m,m<xs.length∧ix xs (m:Int)≠ix ys (m:Int)∧ix xs (m:Int)≠1∧∀ j:Nat,j<m→ix xs (j:Int)=ix ys (j:Int)∨ix xs (j:Int)=1:=by
 induction xs generalizing ys with
 | nil=>simp [mA] at h
 | cons a xs ih=>cases ys with
  | nil=>simp at h1
  | cons b ys =>
   by_cases c:a=b∨a=1
   ·have:mA xs ys=false:=by
     simp only [mA] at h
     rcases c with c | c<;>simpa [c] using h
    obtain ⟨m,i,l,q,r⟩:=ih (by simpa using h1) this
    refine ⟨m+1,by simpa using i,by rw [dZ,dZ]; exact l,by rw [dZ]; exact q,?_⟩
    intro j s
    cases j with
    | zero=>exact c
    | succ j=>rw [dZ,dZ]; exact r j (by omega)
   ·exact ⟨0,by simp,fun e=>c (.inl e),fun e=>c (.inr e),fun j s=>by omega⟩
theorem ut (f:Int→Int→Int){a b c e:List Int}(h:a.length=b.length):zs f (a++c) (b++e)=zs f a b+zs f c e:=by
 induction a generalizing b with
 | nil=>cases b with
  | nil=>simp [zs]
  | cons=>simp at h
 | cons x a ih=>cases b with
  | nil=>simp at h
  | cons y b=>simp only [List.cons_append,zs,ih (b:=b) (by simpa using h)]; omega
theorem yG (f:Int→Int→Int)(a:∀ d,f d 0=0)(ds:List Int)(n:Nat):zs f ds (gF n)=0:=by
 induction ds generalizing n with
 | nil=>simp [zs]
 | cons d ds ih=>cases n with
  | zero=>simp [gF,zs]
  | succ n=>have:=ih n; simp only [gF,List.replicate_succ,zs,a] at this ⊢; omega
theorem DA (d:Int):hw d 0=0:=by simp [hw]
theorem yH {d s:Int}(b:1≤d)(a:0≤s):lw d s=0:=by
 have:=Int.mul_nonneg a (show 0≤d - 1 by omega)
 unfold lw; split<;>omega
theorem jd {d s:Int}(b:1≤d)(a:0≤s):hw d s=s*(d - 1):=by
 have:=Int.mul_nonneg a (show 0≤d - 1 by omega)
 unfold hw; split<;>omega
theorem qO {ds ss:List Int}(b:∀ d∈ds,1≤d)(e:∀ s∈ss,0≤s):zs lw ds ss=0:=by
 induction ds generalizing ss with
 | nil=>simp [zs]
 | cons d ds ih=>cases ss with
  | nil=>simp [zs]
  | cons s ss =>
   simp only [zs,yH (b d (by simp)) (e s (by simp)),ih (ss:=ss) (fun x a=>b x (by simp [a])) (fun x a=>e x (by simp [a]))]
   omega
theorem yI {xs ys ss:List Int}(e:∀ d∈xs,1≤d)(q:∀ d∈ys,1≤d)(j:∀ s∈ss,0≤s):zs hw ys (pc xs ys ss)≤zs hw xs ss∧∀ s∈pc xs ys ss,0≤s:=by
 induction xs generalizing ys ss with
 | nil=>cases ys<;>simp [pc,zs]
 | cons a xs ih=>cases ys with
  | nil =>
   refine ⟨?_,by simp [pc]⟩
   have l:∀ (xs ss:List Int),(∀ d∈xs,1≤d)→(∀ s∈ss,0≤s)→0≤zs hw xs ss:=by
    intro xs
    induction xs with
    | nil=>intro ss _ _; simp [zs]
    | cons d ds ihh=>intro ss h1 h2; cases ss with
     | nil=>simp [zs]
     | cons s ss =>
      have:=ihh ss (fun x e=>h1 x (by simp [e])) (fun x e=>h2 x (by simp [e]))
      have D:=jd (h1 d (by simp)) (h2 s (by simp))
      have E:=Int.mul_nonneg (h2 s (by simp)) (show 0≤d - 1 by have:=h1 d (by simp); omega)
      simp only [zs]; omega
   simpa [zs] using l (a::xs) ss e j
  | cons b ys=>cases ss with
   | nil=>simp [pc,zs]
   | cons s ss =>
    obtain ⟨h1,h2⟩:=ih (ys:=ys) (ss:=ss) (fun x h=>e x (by simp [h])) (fun x h=>q x (by simp [h])) (fun x h=>j x (by simp [h]))
    have r:=e a (by simp)
    have F:=q b (by simp)
    have i:=j s (by simp)
    have u:=jd r i
    have B:=Int.mul_nonneg i (show 0≤a - 1 by omega)
    refine ⟨?_,?_⟩
    ·simp only [pc,zs]
     split
     ·rename_i c; subst c; omega
     ·rw [DA]; omega
    ·simp only [pc]
     refine List.forall_mem_cons.2 ⟨?_,h2⟩
     split<;>omega
theorem jr {ds:List Int}(h:eL ds):VG (whole ds).Dims (whole ds).Strides (whole ds).Offset (whole ds).Base:=ur h
def kf (ds d:List Int):List Int:=gF (d.length - ds.length)++pc ds (d.drop (d.length - ds.length)) (eY ds)
theorem o9 {ds d:List Int}(h:eL ds)(q:eL d)(J:ds.length≤d.length):VG d (kf ds d) 0 (pr ds):=by
 have I:=h.2.pos
 have u:=h.2.2
 have r:(d.drop (d.length - ds.length)).length=ds.length:=by simp; omega
 have B:∀ s∈eY ds,0≤s:=fun s i=>(gD h.2 s i).1
 obtain ⟨h1,h2⟩:=yI (ys:=d.drop (d.length - ds.length)) h.2.1 (fun x D=>q.2.1 x (List.mem_of_mem_drop D)) B
 have j:∀ s∈kf ds d,0≤s:=by
  intro s i
  rcases List.mem_append.1 i with i | i
  ·have:=(List.mem_replicate.1 i).2; omega
  ·exact h2 s i
 have G:d=d.take (d.length - ds.length)++d.drop (d.length - ds.length):=(List.take_append_drop _ _).symm
 have F:zs hw d (kf ds d)≤pr ds - 1:=by
  have e:zs hw d (kf ds d)=zs hw (d.take (d.length - ds.length)++d.drop (d.length - ds.length)) (kf ds d):=by rw [List.take_append_drop]
  rw [e,kf,ut _ (by simp [gF]),yG _ DA,← ku h.2]
  omega
 refine ⟨q,by simp only [kf,List.length_append,kH r (dT ds)]; simp [gF]; omega,⟨I,u⟩,⟨by omega,by omega⟩,?_,?_,by omega⟩
 ·intro s i
  refine ⟨by have:=j s i; omega,?_⟩
  rcases List.mem_append.1 i with i | i
  ·have:=(List.mem_replicate.1 i).2; omega
  ·have E:∀ (xs ys ss:List Int),(∀ s∈ss,s≤4096)→∀ s∈pc xs ys ss,s≤4096:=by
    intro xs
    induction xs with
    | nil=>intro ys ss _ s i; cases ys<;>simp [pc] at i
    | cons a xs ih=>intro ys ss l; cases ys with
     | nil=>simp [pc]
     | cons b ys=>cases ss with
      | nil=>simp [pc]
      | cons t ss =>
       simp only [pc]
       refine List.forall_mem_cons.2 ⟨?_,ih ys ss fun x D=>l x (by simp [D])⟩
       have:=l t (by simp)
       split<;>omega
   exact E _ _ _ (fun s i=>(gD h.2 s i).2) s i
 ·rw [qO q.2.1 j]; omega
theorem mQ {ds d:List Int}(e:ds.length≤d.length)(a:d.length≤6){j:Nat}(b:j<ds.length):aI (aI ((d.length:Int) - (ds.length:Int))+(j:Int))=((d.length - ds.length+j:Nat):Int)∧ix d ((d.length - ds.length+j:Nat):Int)=ix (d.drop (d.length - ds.length)) (j:Int):=by
 refine ⟨by rw [aX (n:=(d.length:Int) - ds.length) (by omega) (by omega),aX (by omega) (by omega)]; omega,?_⟩
 rw [cC (by omega),cC (by simp; omega)]
 simp
theorem yJ {ds d:List Int}(e:ds.length≤d.length){j:Nat}(b:j<ds.length):ix (kf ds d) ((d.length - ds.length+j:Nat):Int)=if ix ds (j:Int)=ix (d.drop (d.length - ds.length)) (j:Int) then ix (eY ds) (j:Int) else 0:=by
 have a:(d.drop (d.length - ds.length)).length=ds.length:=by simp; omega
 rw [← yF a (dT ds) b,cC (by simp only [kf,List.length_append,kH a (dT ds)]; simp [gF]; omega),cC (by rw [kH a (dT ds)]; omega)]
 simp only [kf]
 rw [List.getElem_append_right (by simp [gF])]
 simp [gF]
theorem oa {ds d:List Int}(h:eL ds)(l:ds.length≤d.length){j:Nat}(i:j<ds.length) :
  (ix ds (j:Int)=ix (d.drop (d.length - ds.length)) (j:Int)→((kf ds d).take (d.length - ds.length+j)++(gF d.length).drop (d.length - ds.length+j)).set (d.length - ds.length+j) (ix (eY ds) (j:Int))=(kf ds d).take (d.length - ds.length+(j+1))++(gF d.length).drop (d.length - ds.length+(j+1))) ∧
  (ix ds (j:Int)≠ix (d.drop (d.length - ds.length)) (j:Int)→(kf ds d).take (d.length - ds.length+j)++(gF d.length).drop (d.length - ds.length+j)=(kf ds d).take (d.length - ds.length+(j+1))++(gF d.length).drop (d.length - ds.length+(j+1))):=by
 have a:(d.drop (d.length - ds.length)).length=ds.length:=by simp; omega
 have b:(kf ds d).length=(gF d.length).length:=by simp only [kf,List.length_append,kH a (dT ds)]; simp [gF]; omega
 have q:(gF d.length).length=d.length:=by simp [gF]
 have e:=yJ l i
 constructor
 ·intro c
  rw [if_pos c] at e
  have:=uo b (j:=d.length - ds.length+j) (by omega)
  rw [e] at this
  exact this
 ·intro c
  rw [if_neg c] at e
  refine rZ b (by omega) ?_
  rw [e,cC (by omega)]
  simp [gF]
theorem uu {ds d:List Int}(h:eL ds)(q:d.length<cS):Z03 (whole ds) d=some (if eL d∧ds.length≤d.length∧mA ds (d.drop (d.length - ds.length))=true then ⟨d,kf ds d,0,pr ds⟩ else eI):=by
 have T:=h.1
 have b:(whole ds).Dims=ds:=rfl
 have u:(whole ds).Strides=eY ds:=rfl
 have L:=dT ds
 unfold Z03
 rw [l2 (jr h)]
 simp only [Option.bind_some,bP,Bool.not_true,Bool.not_false,cond_true,Bool.false_or,gO q]
 by_cases hd:eL d
 ·have l:=hd.1
  simp only [hd,decide_true,Bool.not_true,Bool.false_or,b,true_and]
  by_cases hl:ds.length≤d.length
  ·rw [if_neg (by rw [aX (by omega) (by omega)]; simp; omega),iN (by omega)]
   simp only [Option.bind_some]
   rw [if_pos (by omega)]
   have e:(d.drop (d.length - ds.length)).length=ds.length:=by simp; omega
   have a:∀ j:Nat,j<ds.length→(ix ds (j:Int)=ix (d.drop (d.length - ds.length)) (j:Int)∨ix ds (j:Int)=1)→(fun s:List Int×Int=>Z03_L1 (whole ds) d s.1 s.2) ((kf ds d).take (d.length - ds.length+j)++(gF d.length).drop (d.length - ds.length+j),(j:Int))=some (.inl ((kf ds d).take (d.length - ds.length+(j+1))++(gF d.length).drop (d.length - ds.length+(j+1)),((j+1:Nat):Int))):=by
    intro j i J
    obtain ⟨B,D⟩:=mQ (ds:=ds) hl l i
    obtain ⟨M,O⟩:=oa (d:=d) h hl i
    simp only [Z03_L1,Z03_J2,b,u,B,D]
    rw [if_pos (by simp; omega),if_pos (by omega),if_pos (by omega)]
    by_cases c:ix ds (j:Int)=ix (d.drop (d.length - ds.length)) (j:Int)
    ·rw [if_pos (by simp [c]),if_pos (by omega),if_pos (by simp; omega),Int.toNat_natCast,M c,cA (by unfold cS; omega)]
     rfl
    ·rw [if_neg (by simp [c]),if_neg (by simp [J.resolve_left c]),O c,cA (by unfold cS; omega)]
   have E:(List.replicate (d.length:Int).toNat (0:Int),(0:Int))=((kf ds d).take (d.length - ds.length+0)++(gF d.length).drop (d.length - ds.length+0),((0:Nat):Int)):=by
    simp only [kf,Nat.add_zero]
    rw [List.take_append_of_le_length (by simp [gF]),List.take_of_length_le (by simp [gF])]
    simp [gF]
   by_cases c:mA ds (d.drop (d.length - ds.length))=true
   ·have:=eV (f:=fun s:List Int×Int=>Z03_L1 (whole ds) d s.1 s.2) (r:=.inr (kf ds d)) (fun j=>((kf ds d).take (d.length - ds.length+j)++(gF d.length).drop (d.length - ds.length+j),(j:Int))) ds.length
     (fun j i=>a j i (s7 e c i))
     (by
      simp only [Z03_L1,b]
      rw [if_neg (by simp),show d.length - ds.length+ds.length=d.length by omega,List.take_of_length_le (by simp only [kf,List.length_append,kH e (dT ds)]; simp [gF]; omega),List.drop_of_length_le (by simp [gF])]
      simp) E
    rw [this]
    simp [c,hl,Z03_J3]
    exact ⟨rfl,rfl⟩
   ·obtain ⟨m,g1,F,G,I⟩:=s8 e (by simpa using c)
    have:=eV (f:=fun s:List Int×Int=>Z03_L1 (whole ds) d s.1 s.2) (r:=.inl eI) (fun j=>((kf ds d).take (d.length - ds.length+j)++(gF d.length).drop (d.length - ds.length+j),(j:Int))) m
     (fun j i=>a j (by omega) (I j i))
     (by
      obtain ⟨B,D⟩:=mQ (ds:=ds) hl l g1
      simp only [Z03_L1,b,B,D]
      rw [if_pos (by simp; omega),if_pos (by omega),if_pos (by omega),if_neg (by simp [F]),if_pos (by simp [G])]
      rfl) E
    rw [this]
    simp [c]
  ·rw [if_pos (by rw [aX (by unfold cS at q; omega) (by unfold cS at q; omega)]; simp; omega)]
   simp [hl,eI]
 ·simp [hd,eI]
theorem uv {ds d:List Int}(h:eL ds)(J:d.length<cS):Z2p (whole ds) d=some (if eL d∧ds.length≤d.length∧mA ds (d.drop (d.length - ds.length))=true then ⟨d,kf ds d,0,pr ds⟩ else eI):=by
 have U:=h.1
 have a:(whole ds).Dims=ds:=rfl
 have u:(whole ds).Strides=eY ds:=rfl
 have M:=dT ds
 unfold Z2p Z3g
 rw [l4 (jr h)]
 simp only [Option.bind_some,Bool.not_true,Bool.false_eq_true,if_false]
 rw [iF (by rw [a]; omega),iF (by rw [u]; omega)]
 simp only [Option.bind_some]
 unfold Z08
 rw [hY J]
 simp only [Option.bind_some]
 by_cases hd:eL d
 ·have l:=hd.1
  simp only [hd,decide_true,Bool.not_true,Bool.false_or,a,true_and]
  by_cases hl:ds.length≤d.length
  ·rw [if_neg (by simp; omega),iF (by omega)]
   simp only [Option.bind_some]
   rw [if_pos (by omega)]
   have e:(d.drop (d.length - ds.length)).length=ds.length:=by simp; omega
   have b:∀ j:Nat,j<ds.length→(ix ds (j:Int)=ix (d.drop (d.length - ds.length)) (j:Int)∨ix ds (j:Int)=1)→(fun s:List Int×Int=>Z08_L1 ⟨ds,(whole ds).Strides,(whole ds).Offset,(whole ds).Base⟩ d (whole ds) d s.1 s.2) ((kf ds d).take (d.length - ds.length+j)++(gF d.length).drop (d.length - ds.length+j),(j:Int))=some (.inl ((kf ds d).take (d.length - ds.length+(j+1))++(gF d.length).drop (d.length - ds.length+(j+1)),((j+1:Nat):Int))):=by
    intro j i L
    obtain ⟨B,D⟩:=mQ (ds:=ds) hl l i
    obtain ⟨O,T⟩:=oa (d:=d) h hl i
    simp only [Z08_L1,Z08_J2,a,u,B,D]
    rw [if_pos (by simp; omega),if_pos (by omega),if_pos (by omega)]
    by_cases c:ix ds (j:Int)=ix (d.drop (d.length - ds.length)) (j:Int)
    ·rw [if_pos (by simp [c]),if_pos (by omega),if_pos (by simp; omega),Int.toNat_natCast,O c,cA (by unfold cS; omega)]
     rfl
    ·rw [if_neg (by simp [c]),if_neg (by simp [L.resolve_left c]),T c,cA (by unfold cS; omega)]
   have E:(List.replicate (d.length:Int).toNat (0:Int),(0:Int))=((kf ds d).take (d.length - ds.length+0)++(gF d.length).drop (d.length - ds.length+0),((0:Nat):Int)):=by
    simp only [kf,Nat.add_zero]
    rw [List.take_append_of_le_length (by simp [gF]),List.take_of_length_le (by simp [gF])]
    simp [gF]
   by_cases c:mA ds (d.drop (d.length - ds.length))=true
   ·have:=eV (f:=fun s:List Int×Int=>Z08_L1 ⟨ds,(whole ds).Strides,(whole ds).Offset,(whole ds).Base⟩ d (whole ds) d s.1 s.2) (r:=.inr (kf ds d)) (fun j=>((kf ds d).take (d.length - ds.length+j)++(gF d.length).drop (d.length - ds.length+j),(j:Int))) ds.length
     (fun j i=>b j i (s7 e c i))
     (by
      simp only [Z08_L1,a]
      rw [if_neg (by simp),show d.length - ds.length+ds.length=d.length by omega,List.take_of_length_le (by simp only [kf,List.length_append,kH e (dT ds)]; simp [gF]; omega),List.drop_of_length_le (by simp [gF])]
      simp) E
    rw [this,if_pos ⟨hl,c⟩]
    simp only [Option.bind_some,Z08_J3,bP,Bool.not_true,Bool.not_false,cond_true]
    rw [l4 (v:=⟨d,kf ds d,(whole ds).Offset,(whole ds).Base⟩) (o9 h hd hl)]
    rfl
   ·obtain ⟨m,g1,F,G,I⟩:=s8 e (by simpa using c)
    have:=eV (f:=fun s:List Int×Int=>Z08_L1 ⟨ds,(whole ds).Strides,(whole ds).Offset,(whole ds).Base⟩ d (whole ds) d s.1 s.2) (r:=.inl (false,⟨d,(kf ds d).take (d.length - ds.length+m)++(gF d.length).drop (d.length - ds.length+m),(whole ds).Offset,(whole ds).Base⟩)) (fun j=>((kf ds d).take (d.length - ds.length+j)++(gF d.length).drop (d.length - ds.length+j),(j:Int))) m
     (fun j i=>b j (by omega) (I j i))
     (by
      obtain ⟨B,D⟩:=mQ (ds:=ds) hl l g1
      simp only [Z08_L1,a,B,D]
      rw [if_pos (by simp; omega),if_pos (by omega),if_pos (by omega),if_neg (by simp [F]),if_pos (by simp [G])]) E
    rw [this,if_neg (fun q=>c q.2)]
    simp [bP,eI]
  ·rw [if_pos (by simp; omega),if_neg (fun q=>hl q.1)]
   simp [bP,eI]
 ·simp [hd,bP,eI]
theorem uw {v:View}(a:v.Dims.length<cS)(h:¬ eL v.Dims):Zb v=some false:=by
 unfold Zb
 rw [gO a]
 simp [h]
theorem ux {v:View}(a:v.Dims.length<cS)(h:¬ eL v.Dims):Zk v=some false:=by
 unfold Zk
 rw [hY a]
 simp [h]
def mB (ds:List Int)(a fr c st:Int):Prop:=0≤a∧a<(ds.length:Int)∧1≤c∧c≤4096∧1≤st∧st≤4096∧0≤fr∧fr<ix ds a∧fr+(c - 1)*st<ix ds a
instance (ds:List Int)(a fr c st:Int):Decidable (mB ds a fr c st):=by unfold mB; infer_instance
theorem yK {xs:List Int}{j:Nat}{a:Int}(h:j<xs.length):ix (xs.set j a) (j:Int)=a:=by rw [cC (by simpa using h)]; simp
theorem oL (f:Int→Int→Int){xs ys:List Int}{j:Nat}{a b:Int}(e:j<xs.length)(h:j<ys.length):zs f (xs.set j a) (ys.set j b)=zs f xs ys - f (ix xs (j:Int)) (ix ys (j:Int))+f a b:=by
 induction xs generalizing ys j with
 | nil=>simp at e
 | cons x xs ih=>cases ys with
  | nil=>simp at h
  | cons y ys=>cases j with
   | zero=>simp [zs,ix]; omega
   | succ j =>
    rw [dZ,dZ,List.set_cons_succ,List.set_cons_succ]
    simp only [zs,ih (ys:=ys) (j:=j) (by simpa using e) (by simpa using h)]
    omega
theorem yL {ds:List Int}(h:∀ d∈ds,1≤d){j:Nat}(i:j<ds.length){c:Int}(h1:1≤c)(h2:c≤ix ds (j:Int)):pr (ds.set j c)≤pr ds∧∀ d∈ds.set j c,1≤d:=by
 induction ds generalizing j with
 | nil=>simp at i
 | cons d ds ih =>
  have q:1≤pr ds:=fP fun x e=>h x (by simp [e])
  cases j with
  | zero =>
   have h2:c≤d:=h2
   refine ⟨Int.mul_le_mul_of_nonneg_right h2 (by omega),List.forall_mem_cons.2 ⟨h1,fun x e=>h x (by simp [e])⟩⟩
  | succ j =>
   rw [dZ] at h2
   obtain ⟨a,b⟩:=ih (fun x e=>h x (by simp [e])) (by simpa using i) h2
   have l:=h d (by simp)
   exact ⟨Int.mul_le_mul_of_nonneg_left a (by omega),List.forall_mem_cons.2 ⟨l,b⟩⟩
theorem je {xs:List Int}{j:Nat}{a:Int}{P:Int→Prop}(h:∀ x∈xs,P x)(e:P a):∀ x∈xs.set j a,P x:=by
 intro x b
 rcases List.mem_or_eq_of_mem_set b with b | rfl
 ·exact h x b
 ·exact e
theorem yM {ds:List Int}(h:eL ds){j:Nat}(u:j<ds.length){fr c st:Int}(Y:1≤c)(G:0≤st)(L:0≤fr)(hl:fr+(c - 1)*st<ix ds (j:Int))(J:c≤ix ds (j:Int))(T:c=1→st=0) :
  VG (ds.set j c) ((eY ds).set j (ix (eY ds) (j:Int)*st)) (0+fr*ix (eY ds) (j:Int)) (pr ds):=by
 have hp:=h.2.pos
 have O:=h.2.2
 obtain ⟨q1,Z⟩:=yL h.2.1 u Y J
 have hm:=h.2.mem (bI u)
 have E:=dT ds
 have F:=gD h.2 _ (bI (xs:=eY ds) (k:=j) (by omega))
 obtain ⟨s,r⟩:∃ s,s=ix (eY ds) (j:Int):=⟨_,rfl⟩
 rw [← r] at F ⊢
 have l:∀ x∈eY ds,0≤x∧x≤4096:=gD h.2
 have I:=ku h.2
 have k0:0≤(c - 1)*st:=Int.mul_nonneg (by omega) G
 have k1:s*(fr+(c - 1)*st)≤s*(ix ds (j:Int) - 1):=Int.mul_le_mul_of_nonneg_left (by omega) F.1
 have k2:s*(fr+(c - 1)*st)=fr*s+s*st*(c - 1):=by rw [Int.mul_add,Int.mul_comm s fr,Int.mul_comm (c - 1) st,Int.mul_assoc]
 have k3:0≤s*st:=Int.mul_nonneg F.1 G
 have k4:0≤fr*s:=Int.mul_nonneg L F.1
 have k5:=jd hm.1 F.1
 have k6:=jd Y k3
 have z:=oL hw (xs:=ds) (ys:=eY ds) (a:=c) (b:=s*st) u (by omega)
 rw [← r,k5,k6] at z
 have k7:0≤s*st*(c - 1):=Int.mul_nonneg k3 (by omega)
 -- what the axis alone may come to
 have a1:s*(ix ds (j:Int) - 1)≤pr ds - 1:=by
  have hz:∀ (xs ys:List Int),(∀ d∈xs,1≤d)→(∀ y∈ys,0≤y)→∀ j:Nat,j<xs.length→j<ys.length→ix ys (j:Int)*(ix xs (j:Int) - 1)≤zs hw xs ys∧0≤zs hw xs ys:=by
   intro xs
   induction xs with
   | nil=>intro ys _ _ j u; simp at u
   | cons x xs ih =>
    intro ys i B j M D
    cases ys with
    | nil=>simp at D
    | cons y ys =>
     have e:=jd (i x (by simp)) (B y (by simp))
     have e0:=Int.mul_nonneg (B y (by simp)) (show 0≤x - 1 by have:=i x (by simp); omega)
     have nn:∀ (xs ys:List Int),(∀ d∈xs,1≤d)→(∀ y∈ys,0≤y)→0≤zs hw xs ys:=by
      intro xs
      induction xs with
      | nil=>intro ys _ _; simp [zs]
      | cons d ds ihh=>intro ss h1 h2; cases ss with
       | nil=>simp [zs]
       | cons s ss =>
        have:=ihh ss (fun x i=>h1 x (by simp [i])) (fun x i=>h2 x (by simp [i]))
        have h3:=jd (h1 d (by simp)) (h2 s (by simp))
        have h4:=Int.mul_nonneg (h2 s (by simp)) (show 0≤d - 1 by have:=h1 d (by simp); omega)
        simp only [zs]; omega
     have n1:=nn xs ys (fun d q=>i d (by simp [q])) (fun d q=>B d (by simp [q]))
     cases j with
     | zero =>
      simp only [zs,e]
      show y*(x - 1)≤_∧_
      omega
     | succ j =>
      rw [dZ,dZ]
      have:=ih ys (fun d q=>i d (by simp [q])) (fun d q=>B d (by simp [q])) j (by simpa using M) (by simpa using D)
      simp only [zs,e]
      omega
  have:=(hz ds (eY ds) h.2.1 (fun y B=>(l y B).1) j u (by omega)).1
  rw [I,← r] at this
  exact this
 have a0:s*st≤4096:=by
  by_cases g:c=1
  ·rw [T g]; omega
  ·have:s*st*1≤s*st*(c - 1):=Int.mul_le_mul_of_nonneg_left (by omega) k3
   omega
 have U:SZ (ds.set j c):=⟨Z,by omega⟩
 refine ⟨⟨by simpa using h.1,U⟩,by simp [E],⟨hp,O⟩,⟨by omega,by omega⟩,?_,?_,by omega⟩
 ·exact je (fun x i=>by have:=l x i; omega) (by omega)
 ·rw [qO Z (je (fun x i=>(l x i).1) k3)]; omega
def jM (ds:List Int)(a fr c st:Int):View:=⟨ds.set a.toNat c,(eY ds).set a.toNat (if c=1 then 0 else ix (eY ds) a*st),fr*ix (eY ds) a,pr ds⟩
theorem wl {ds:List Int}{a fr c st:Int}(h:mB ds a fr c st):c≤ix ds a∧0≤(c - 1)*st∧(c - 1)*st≤4096*4096:=by
 obtain ⟨h1,h2,j,l,e,i,q,r,s⟩:=h
 have:=ja (a:=c - 1) (b:=st) (by omega) e
 have k:=Int.mul_le_mul (show c - 1≤4096 by omega) i (by omega) (show (0:Int)≤4096 by omega)
 exact ⟨by omega,by omega,k⟩
theorem oM {ds:List Int}(h:eL ds){a fr c st:Int}(i:mB ds a fr c st):VG (jM ds a fr c st).Dims (jM ds a fr c st).Strides (jM ds a fr c st).Offset (jM ds a fr c st).Base:=by
 obtain ⟨s,F,l3⟩:=wl i
 obtain ⟨h1,h2,l,u,B,D,q,E,r⟩:=i
 obtain ⟨j,rfl⟩:=Int.eq_ofNat_of_zero_le h1
 have b:fr+(c - 1)*(if c=1 then 0 else st)<ix ds (j:Int):=by
  split
  ·omega
  ·exact r
 have:=yM h (j:=j) (by omega) (fr:=fr) (c:=c) (st:=if c=1 then 0 else st) l (by split<;>omega) q b s (fun e=>by simp [e])
 have e:ix (eY ds) (j:Int)*(if c=1 then 0 else st)=if c=1 then 0 else ix (eY ds) (j:Int)*st:=by split<;>simp
 rw [e,Int.zero_add] at this
 exact this
theorem uy {ds:List Int}(h:eL ds)(a:Int):Z2i (whole ds) a=some (decide (0≤a∧a<(ds.length:Int))):=by
 unfold Z2i
 rw [l2 (jr h)]
 simp only [Option.bind_some,Bool.true_and]
 congr 1
 rw [Bool.eq_iff_iff]
 simp [whole]
 exact fun _=>decide_eq_true_iff
theorem wm {ds:List Int}(h:eL ds){a fr c st:Int}(E:1≤st):Z1j (whole ds) a fr c st=some (if mB ds a fr c st then jM ds a fr c st else eI):=by
 have hn:=h.1
 have M:=dT ds
 have b:(whole ds).Dims=ds:=rfl
 unfold Z1j
 rw [uy h]
 simp only [Option.bind_some,b]
 by_cases g:(0≤a∧a<(ds.length:Int))∧1≤c∧c≤4096∧st≤4096∧0≤fr
 ·obtain ⟨g1,I,J,s,F⟩:=g
  obtain ⟨j,rfl⟩:=Int.eq_ofNat_of_zero_le g1.1
  have L:j<ds.length:=by omega
  have hm:=h.2.mem (bI L)
  have l:=gD h.2 _ (bI (xs:=eY ds) (k:=j) (by omega))
  have r:(((((!decide (0≤(j:Int)∧(j:Int)<(ds.length:Int))||decide (c<1))||decide (c>4096))||decide (st < -4096))||decide (st>4096))||decide (fr<0))=false:=by simp; omega
  rw [if_pos (fun _=>g1),r,Bool.false_or]
  by_cases g6:fr<ix ds (j:Int)
  ·rw [if_neg (by simp; omega)]
   have k0:0≤(c - 1)*st:=Int.mul_nonneg (by omega) (by omega)
   have k1:=Int.mul_le_mul (show c - 1≤4096 by omega) s (by omega) (show (0:Int)≤4096 by omega)
   have e:aI (fr+aI (aI (c - 1)*st))=fr+(c - 1)*st:=by
    rw [aX (n:=c - 1) (by omega) (by omega),aX (n:=(c - 1)*st) (by omega) (by omega),aX (by omega) (by omega)]
   rw [e,if_pos (fun _=>g1)]
   by_cases g7:fr+(c - 1)*st<ix ds (j:Int)
   ·have G:mB ds (j:Int) fr c st:=⟨g1.1,g1.2,I,J,E,s,F,g6,g7⟩
    have T:=oM h G
    rw [if_neg (by simp; omega),if_pos G]
    unfold Z2k
    rw [iN (by rw [b]; omega),iN (by show (eY ds).length≤_; omega)]
    simp only [Option.bind_some,nm]
    have D:(whole ds).Strides=eY ds:=rfl
    have O:(whole ds).Offset=0:=rfl
    have u:(whole ds).Base=pr ds:=rfl
    simp only [D,O,u,b]
    rw [if_pos (by omega),if_pos (by omega)]
    have f1:0≤fr*ix (eY ds) (j:Int):=Int.mul_nonneg F l.1
    have U:=Int.mul_le_mul (show fr≤4096 by omega) l.2 l.1 (show (0:Int)≤4096 by omega)
    have Y:0≤ix (eY ds) (j:Int)*st:=Int.mul_nonneg l.1 (by omega)
    have Z:=Int.mul_le_mul l.2 s (by omega) (show (0:Int)≤4096 by omega)
    rw [aX (n:=ix (eY ds) (j:Int)*st) (by omega) (by omega)]
    have i:∀ x:List Int,x=(jM ds (j:Int) fr c st).Strides→Z1j_J1 (j:Int) fr c ⟨ds,eY ds,0,pr ds⟩ x=some (jM ds (j:Int) fr c st):=by
     rintro x rfl
     have B:(⟨ds.set (j:Int).toNat c,(jM ds (j:Int) fr c st).Strides,0+fr*ix (eY ds) (j:Int),pr ds⟩:View)=jM ds (j:Int) fr c st:=by simp [jM]
     simp only [Z1j_J1]
     rw [aX (n:=fr*ix (eY ds) (j:Int)) (by omega) (by omega),aX (by omega) (by omega),B]
     unfold Z2l
     rw [l2 T]
     rfl
    by_cases g8:c=1
    ·rw [if_pos (by simp [g8])]
     exact i _ (by simp [jM,g8])
    ·rw [if_neg (by simp [g8])]
     exact i _ (by simp [jM,g8])
   ·rw [if_pos (by simp; omega),if_neg (fun q=>g7 q.2.2.2.2.2.2.2.2)]
    rfl
  ·rw [if_pos (by simp; omega),if_neg (fun q=>g6 q.2.2.2.2.2.2.2.1)]
   rfl
 ·have r:(((((!decide (0≤a∧a<(ds.length:Int))||decide (c<1))||decide (c>4096))||decide (st < -4096))||decide (st>4096))||decide (fr<0))=true:=by
   simp only [Bool.or_eq_true,Bool.not_eq_true',decide_eq_true_eq,decide_eq_false_iff_not]
   omega
  rw [if_pos (fun q=>by rw [r] at q; cases q),r,if_pos (by simp),if_neg (fun q=>g ⟨⟨q.1,q.2.1⟩,q.2.2.1,q.2.2.2.1,q.2.2.2.2.2.1,q.2.2.2.2.2.2.1⟩)]
  rfl
theorem uz {v:View}{j:Nat}(e:j<v.Dims.length)(b:j<v.Strides.length)(a s:Int):Z16 v (j:Int) a s=some ⟨v.Dims.set j a,v.Strides.set j (if a=1 then 0 else s),v.Offset,v.Base⟩:=by
 unfold Z16
 by_cases g:a=1
 ·rw [if_pos (by simp [g])]
  simp only [Z16_J3]
  rw [if_pos (by omega),if_pos (by omega),if_pos g,Int.toNat_natCast]
 ·rw [if_neg (by simp [g])]
  simp only [Z16_J3]
  rw [if_pos (by omega),if_pos (by omega),if_neg g,Int.toNat_natCast]
theorem wo {ds:List Int}(h:eL ds){a fr c st:Int}(u:1≤st):Z2o (whole ds) a fr c st=some (if mB ds a fr c st then jM ds a fr c st else eI):=by
 have Y:=h.1
 have J:=dT ds
 have l:(whole ds).Dims=ds:=rfl
 have s:(whole ds).Strides=eY ds:=rfl
 have L:(whole ds).Offset=0:=rfl
 have E:(whole ds).Base=pr ds:=rfl
 unfold Z2o Z3f
 rw [l4 (jr h)]
 simp only [Option.bind_some,Bool.not_true,Bool.false_eq_true,if_false]
 rw [iF (by rw [l]; omega),iF (by rw [s]; omega)]
 simp only [Option.bind_some,l,s,L,E]
 unfold Z1r
 simp only [Zp,Option.bind_some]
 have no:∀ (p:View) (z:Int),((bP (!(!((false,p,z):Bool×View×Int).1)) (Zk ((false,p,z):Bool×View×Int).2.1)).bind fun r32:Bool=>if ((!((false,p,z):Bool×View×Int).1)||(!r32))=true then some ((⟨[],[],0,0⟩:View),z) else some (p,z))=some (eI,z):=by
  intro p z; simp [bP,eI]
 by_cases g:(0≤a∧a<(ds.length:Int))∧1≤c∧c≤4096
 ·obtain ⟨g1,F,G⟩:=g
  obtain ⟨j,rfl⟩:=Int.eq_ofNat_of_zero_le g1.1
  have I:j<ds.length:=by omega
  have U:=h.2.mem (bI I)
  have r:=gD h.2 _ (bI (xs:=eY ds) (k:=j) (by omega))
  rw [if_neg (by simp; omega),if_pos g1]
  by_cases g6:st≤4096∧0≤fr∧fr<ix ds (j:Int)
  ·rw [if_neg (by simp; omega)]
   have Z:0≤(c - 1)*st:=Int.mul_nonneg (by omega) (by omega)
   have k1:=Int.mul_le_mul (show c - 1≤4096 by omega) g6.1 (by omega) (show (0:Int)≤4096 by omega)
   have e:aI (fr+aI (st*aI (c - 1)))=fr+(c - 1)*st:=by
    rw [aX (n:=c - 1) (by omega) (by omega),Int.mul_comm st,aX (n:=(c - 1)*st) (by omega) (by omega),aX (by omega) (by omega)]
   rw [e]
   have i:∀ z:Int,(z=if c=1 then 0 else st)→mB ds (j:Int) fr c st→Z1r_J3 ⟨ds,eY ds,0,pr ds⟩ (j:Int) c fr z=some (true,jM ds (j:Int) fr c st,z):=by
    intro z D b
    have f1:0≤fr*ix (eY ds) (j:Int):=Int.mul_nonneg g6.2.1 r.1
    have M:=Int.mul_le_mul (show fr≤4096 by omega) r.2 r.1 (show (0:Int)≤4096 by omega)
    have O:0≤ix (eY ds) (j:Int)*z:=Int.mul_nonneg r.1 (by rw [D]; split<;>omega)
    have T:=Int.mul_le_mul r.2 (show z≤4096 by rw [D]; split<;>omega) (by rw [D]; split<;>omega) (show (0:Int)≤4096 by omega)
    simp only [Z1r_J3]
    rw [if_pos (by omega),aX (n:=fr*ix (eY ds) (j:Int)) (by omega) (by omega),aX (n:=0+fr*ix (eY ds) (j:Int)) (by omega) (by omega),aX (by omega) (by omega),uz (by simpa using I) (by simp; omega)]
    simp only [Option.bind_some,jM,Int.toNat_natCast,Int.zero_add]
    congr 5
    rw [D]; split<;>rfl
   have B:∀ z:Int,mB ds (j:Int) fr c st→((bP (!(!((true,jM ds (j:Int) fr c st,z):Bool×View×Int).1)) (Zk ((true,jM ds (j:Int) fr c st,z):Bool×View×Int).2.1)).bind fun r32:Bool=>if ((!((true,jM ds (j:Int) fr c st,z):Bool×View×Int).1)||(!r32))=true then some ((⟨[],[],0,0⟩:View),z) else some (jM ds (j:Int) fr c st,z))=some (jM ds (j:Int) fr c st,z):=by
    intro z b
    simp only [bP,Bool.not_true,Bool.not_false,cond_true,Bool.false_or]
    rw [l4 (oM h b)]
    rfl
   by_cases g8:c=1
   ·have b:mB ds (j:Int) fr c st:=⟨g1.1,g1.2,F,G,u,g6.1,g6.2.1,g6.2.2,by rw [g8]; omega⟩
    rw [if_neg (by simp; omega),i 0 (by simp [g8]) b]
    simp only [Option.bind_some]
    rw [B 0 b,if_pos b]
    rfl
   ·rw [if_pos (by simp; omega)]
    by_cases g7:fr+(c - 1)*st<ix ds (j:Int)
    ·have b:mB ds (j:Int) fr c st:=⟨g1.1,g1.2,F,G,u,g6.1,g6.2.1,g6.2.2,g7⟩
     rw [if_neg (by simp; omega),i st (by simp [g8]) b]
     simp only [Option.bind_some]
     rw [B st b,if_pos b]
     rfl
    ·rw [if_pos (by simp; omega),if_neg (fun q=>g7 q.2.2.2.2.2.2.2.2)]
     simp only [Option.bind_some]
     rw [no]
     rfl
  ·rw [if_pos (by simp; omega),if_neg (fun q=>g6 ⟨q.2.2.2.2.2.1,q.2.2.2.2.2.2.1,q.2.2.2.2.2.2.2.1⟩)]
   simp only [Option.bind_some]
   rw [no]
   rfl
 ·rw [if_pos (by simp; omega),if_neg (fun q=>g ⟨⟨q.1,q.2.1⟩,q.2.2.1,q.2.2.2.1⟩)]
  simp only [Option.bind_some]
  rw [no]
  rfl
def jA (ds:List Int)(a sz st:Int):Int:=(ix ds a - sz) / st+1
def gA (ds:List Int)(a sz st:Int):View:=⟨ds.set a.toNat (jA ds a sz st)++[sz],(eY ds).set a.toNat (if jA ds a sz st=1 then 0 else ix (eY ds) a*st)++[if sz=1 then 0 else ix (eY ds) a],0,pr ds⟩
def mC (ds:List Int)(a sz st:Int):Prop:=0≤a∧a<(ds.length:Int)∧1≤sz∧1≤st∧sz≤ix ds a
instance (ds:List Int)(a sz st:Int):Decidable (mC ds a sz st):=by unfold mC; infer_instance
theorem BN {xs ys:List Int}(a:∀ d∈xs,1≤d)(b:∀ y∈ys,0≤y):0≤zs hw xs ys:=by
 induction xs generalizing ys with
 | nil=>simp [zs]
 | cons d ds ih=>cases ys with
  | nil=>simp [zs]
  | cons s ss =>
   have:=ih (ys:=ss) (fun x h=>a x (by simp [h])) (fun x h=>b x (by simp [h]))
   have e:=jd (a d (by simp)) (b s (by simp))
   have i:=Int.mul_nonneg (b s (by simp)) (show 0≤d - 1 by have:=a d (by simp); omega)
   simp only [zs]; omega
theorem wq {ds:List Int}(h:eL ds){j:Nat}(i:j<ds.length):ix (eY ds) (j:Int)*(ix ds (j:Int) - 1)≤pr ds - 1:=by
 have l:=dT ds
 have q:=h.2.mem (bI i)
 have r:=gD h.2 _ (bI (xs:=eY ds) (k:=j) (by omega))
 have z:=oL hw (xs:=ds) (ys:=eY ds) (a:=ix ds (j:Int)) (b:=0) i (by omega)
 have e:ds.set j (ix ds (j:Int))=ds:=by rw [cC i]; simp
 rw [e,DA,jd q.1 r.1,ku h.2] at z
 have:=BN (xs:=ds) (ys:=(eY ds).set j 0) h.2.1 (je (fun x s=>(gD h.2 x s).1) (by omega))
 omega
theorem oN {ds:List Int}{a sz st:Int}(h:mC ds a sz st):1≤jA ds a sz st∧jA ds a sz st≤ix ds a∧(jA ds a sz st - 1)*st≤ix ds a - sz:=by
 obtain ⟨h1,h2,i,j,l⟩:=h
 unfold jA
 have b:0≤(ix ds a - sz) / st:=Int.ediv_nonneg (by omega) (by omega)
 have e:(ix ds a - sz) / st≤ix ds a - sz:=Int.ediv_le_self _ (by omega)
 have a3:=Int.ediv_mul_le (ix ds a - sz) (show st≠0 by omega)
 refine ⟨by omega,by omega,?_⟩
 rw [show (ix ds a - sz) / st+1 - 1=(ix ds a - sz) / st by omega]
 exact a3
theorem qP {ds:List Int}(h:eL ds){a sz st:Int}(F:mC ds a sz st)(J:eL (gA ds a sz st).Dims):VG (gA ds a sz st).Dims (gA ds a sz st).Strides (gA ds a sz st).Offset (gA ds a sz st).Base:=by
 obtain ⟨U,n2,n3⟩:=oN F
 obtain ⟨h1,h2,h3,h4,h5⟩:=F
 obtain ⟨j,rfl⟩:=Int.eq_ofNat_of_zero_le h1
 have L:j<ds.length:=by omega
 have q:=dT ds
 have hm:=h.2.mem (bI L)
 have D:=gD h.2 _ (bI (xs:=eY ds) (k:=j) (by omega))
 have Y:=wq h L
 have hp:=h.2.pos
 have O:=h.2.2
 have E:=ku h.2
 obtain ⟨n,M⟩:∃ n,n=jA ds (j:Int) sz st:=⟨_,rfl⟩
 obtain ⟨s,B⟩:∃ s,s=ix (eY ds) (j:Int):=⟨_,rfl⟩
 have T:(gA ds (j:Int) sz st).Dims=ds.set j n++[sz]:=by rw [M]; simp [gA]
 have Z:(gA ds (j:Int) sz st).Strides=(eY ds).set j (if n=1 then 0 else s*st)++[if sz=1 then 0 else s]:=by rw [M,B]; simp [gA]
 rw [← M] at U n2 n3
 rw [← B] at D Y
 rw [T] at J
 have k0:0≤(n - 1)*st:=Int.mul_nonneg (by omega) (by omega)
 have k3:0≤s*st:=Int.mul_nonneg D.1 (by omega)
 have k4:s*((n - 1)*st)=s*st*(n - 1):=by rw [Int.mul_comm (n - 1) st,Int.mul_assoc]
 have k5:s*((n - 1)*st+(sz - 1))≤s*(ix ds (j:Int) - 1):=Int.mul_le_mul_of_nonneg_left (by omega) D.1
 rw [Int.mul_add,k4] at k5
 have k6:0≤s*(sz - 1):=Int.mul_nonneg D.1 (by omega)
 have k7:0≤s*st*(n - 1):=Int.mul_nonneg k3 (by omega)
 obtain ⟨l,r⟩:∃ l,l=if n=1 then 0 else s*st:=⟨_,rfl⟩
 obtain ⟨i,u⟩:∃ i,i=if sz=1 then 0 else s:=⟨_,rfl⟩
 have G:0≤l∧l≤4096∧l*(n - 1)=s*st*(n - 1):=by
  by_cases c:n=1
  ·rw [r,if_pos c,c]; simp
  ·rw [r,if_neg c]
   have:s*st*1≤s*st*(n - 1):=Int.mul_le_mul_of_nonneg_left (by omega) k3
   omega
 have I:0≤i∧i≤4096∧i*(sz - 1)=s*(sz - 1):=by
  by_cases c:sz=1
  ·rw [u,if_pos c,c]; simp
  ·rw [u,if_neg c]; omega
 have z:=oL hw (xs:=ds) (ys:=eY ds) (a:=n) (b:=l) L (by omega)
 rw [← B,jd hm.1 D.1,jd U G.1,E,G.2.2] at z
 have z2:zs hw (ds.set j n++[sz]) ((eY ds).set j l++[i])=zs hw (ds.set j n) ((eY ds).set j l)+s*(sz - 1):=by
  rw [ut _ (by simp [q])]
  have:zs hw [sz] [i]=hw sz i:=by simp [zs]
  rw [this,jd h3 I.1,I.2.2]
 have nn:∀ x∈(eY ds).set j l++[i],0≤x∧x≤4096:=by
  intro x e
  rcases List.mem_append.1 e with e | e
  ·exact je (fun x e=>gD h.2 x e) ⟨G.1,G.2.1⟩ x e
  ·have:x=i:=by simpa using e
   subst this; exact ⟨I.1,I.2.1⟩
 rw [T,Z,← r,← u]
 refine ⟨J,by simp [q],⟨hp,O⟩,⟨Int.le_refl 0,by show 0<pr ds; omega⟩,fun x e=>by have:=nn x e; omega,?_,?_⟩
 ·rw [qO J.2.1 fun x e=>(nn x e).1]; show (0:Int)≤0+0; decide
 ·show 0+_<pr ds
  omega
theorem sQ {ds:List Int}(h:eL ds){a sz st:Int}:Z0l (whole ds) a sz st=some (if mC ds a sz st∧eL (gA ds a sz st).Dims then gA ds a sz st else eI):=by
 have hn:=h.1
 have J:=dT ds
 have i:(whole ds).Dims=ds:=rfl
 have b:(whole ds).Strides=eY ds:=rfl
 have L:(whole ds).Offset=0:=rfl
 have r:(whole ds).Base=pr ds:=rfl
 unfold Z0l
 rw [uy h]
 simp only [Option.bind_some,i,b]
 by_cases g:(0≤a∧a<(ds.length:Int))∧1≤sz∧1≤st
 ·obtain ⟨g1,F,G⟩:=g
  have l:((!decide (0≤a∧a<(ds.length:Int))||decide (sz<1))||decide (st<1))=false:=by simp; omega
  rw [if_pos (fun _=>g1),l,Bool.false_or]
  by_cases g6:sz≤ix ds a
  ·have u:mC ds a sz st:=⟨g1.1,g1.2,F,G,g6⟩
   obtain ⟨T,U,n3⟩:=oN u
   obtain ⟨j,rfl⟩:=Int.eq_ofNat_of_zero_le g1.1
   have I:j<ds.length:=by omega
   have hm:=h.2.mem (bI I)
   have B:=gD h.2 _ (bI (xs:=eY ds) (k:=j) (by omega))
   rw [if_neg (by simp; omega)]
   unfold Z2k
   rw [iN (by rw [i]; omega),iN (by rw [b]; omega)]
   simp only [Option.bind_some,nm,i,b,L,r]
   have e:aI (aI ((aI (ix ds (j:Int) - sz)).tdiv st)+1)=jA ds (j:Int) sz st:=by
    rw [aX (n:=ix ds (j:Int) - sz) (by omega) (by omega),Int.tdiv_eq_ediv_of_nonneg (by omega)]
    unfold jA at T U ⊢
    rw [aX (n:=(ix ds (j:Int) - sz) / st) (by omega) (by omega),aX (by omega) (by omega)]
   simp only [e]
   rw [if_pos (by omega),if_pos (by omega),if_pos (by omega),if_pos (by omega),if_pos (by omega)]
   have D:∀ x:List Int,x++[if sz=1 then 0 else ix (eY ds) (j:Int)]=(gA ds (j:Int) sz st).Strides→x.length=ds.length→Z0l_J1 (whole ds) (j:Int) sz ⟨ds,eY ds,0,pr ds⟩ (ds.set (j:Int).toNat (jA ds (j:Int) sz st)) x=some (if mC ds (j:Int) sz st∧eL (gA ds (j:Int) sz st).Dims then gA ds (j:Int) sz st else eI):=by
    intro x M O
    have E:∀ y,y=(if sz=1 then 0 else ix (eY ds) (j:Int))→Z0l_J2 sz ⟨ds,eY ds,0,pr ds⟩ (ds.set (j:Int).toNat (jA ds (j:Int) sz st)) x y=some (if mC ds (j:Int) sz st∧eL (gA ds (j:Int) sz st).Dims then gA ds (j:Int) sz st else eI):=by
     rintro y rfl
     simp only [Z0l_J2]
     rw [if_pos (by simp; omega),M]
     have s:(⟨ds.set (j:Int).toNat (jA ds (j:Int) sz st)++[sz],(gA ds (j:Int) sz st).Strides,0,pr ds⟩:View)=gA ds (j:Int) sz st:=rfl
     rw [s]
     unfold Z2l
     by_cases q:eL (gA ds (j:Int) sz st).Dims
     ·rw [l2 (qP h u q),if_pos ⟨u,q⟩]
      rfl
     ·rw [uw (by simp [gA,cS]; omega) q,if_neg (fun z=>q z.2)]
      rfl
    simp only [Z0l_J1]
    rw [if_pos (by simp; omega)]
    by_cases q:sz=1
    ·rw [if_pos (by simp [q])]; exact E _ (by simp [q])
    ·rw [if_neg (by simp [q])]; exact E _ (by simp [q,b])
   by_cases q:jA ds (j:Int) sz st=1
   ·rw [if_neg (by simp; omega)]
    exact D _ (by simp [gA,q]) (by simp; omega)
   ·have k:(jA ds (j:Int) sz st - 1)*st≤4096:=by omega
    have k2:1*st≤(jA ds (j:Int) sz st - 1)*st:=Int.mul_le_mul_of_nonneg_right (by omega) (by omega)
    have Y:0≤ix (eY ds) (j:Int)*st:=Int.mul_nonneg B.1 (by omega)
    have Z:=Int.mul_le_mul B.2 (show st≤4096 by omega) (by omega) (show (0:Int)≤4096 by omega)
    rw [if_pos (by simp; omega),aX (n:=ix (eY ds) (j:Int)*st) (by omega) (by omega),List.set_set]
    exact D _ (by simp [gA,q]) (by simp; omega)
  ·rw [if_pos (by simp; omega),if_neg (fun q=>g6 q.1.2.2.2.2)]
   rfl
 ·have l:((!decide (0≤a∧a<(ds.length:Int))||decide (sz<1))||decide (st<1))=true:=by
   simp only [Bool.or_eq_true,Bool.not_eq_true',decide_eq_true_eq,decide_eq_false_iff_not]
   omega
  rw [if_pos (fun q=>by rw [l] at q; cases q),l,if_pos (by simp),if_neg (fun q=>g ⟨⟨q.1.1,q.1.2.1⟩,q.1.2.2.1,q.1.2.2.2.1⟩)]
  rfl
theorem BO {v:View}(j:v.Dims.length≤6)(i:v.Strides.length=v.Dims.length)(a s:Int):Z2x v a s=some ⟨v.Dims++[a],v.Strides++[if a=1 then 0 else s],v.Offset,v.Base⟩:=by
 unfold Z2x
 rw [if_pos (by simp; omega),if_pos (by simp; omega)]
 have e:aI (((v.Dims++[(0:Int)]).length:Int) - 1)=(v.Dims.length:Int):=by
  have:((v.Dims++[(0:Int)]).length:Int)=v.Dims.length+1:=by simp
  rw [this,aX (by omega) (by omega)]; omega
 rw [e,uz (by simp) (by simp; omega)]
 simp only [Option.bind_some]
 have b:(v.Dims++[0]).set v.Dims.length a=v.Dims++[a]:=by rw [List.set_append_right _ _ (Nat.le_refl _)]; simp
 have h:∀ x:Int,(v.Strides++[0]).set v.Dims.length x=v.Strides++[x]:=by intro x; rw [← i,List.set_append_right _ _ (Nat.le_refl _)]; simp
 rw [b,h]
theorem sS {ds:List Int}(h:eL ds){a sz st:Int}:Z2q (whole ds) a sz st=some (if mC ds a sz st∧eL (gA ds a sz st).Dims then gA ds a sz st else eI):=by
 have hn:=h.1
 have M:=dT ds
 have l:(whole ds).Dims=ds:=rfl
 have r:(whole ds).Strides=eY ds:=rfl
 have O:(whole ds).Offset=0:=rfl
 have s:(whole ds).Base=pr ds:=rfl
 unfold Z2q Z3h
 rw [l4 (jr h)]
 simp only [Option.bind_some,Bool.not_true,Bool.false_eq_true,if_false]
 rw [iF (by rw [l]; omega),iF (by rw [r]; omega)]
 simp only [Option.bind_some,l,r,O,s]
 unfold Z1s
 simp only [Zp,Option.bind_some]
 by_cases g:(0≤a∧a<(ds.length:Int))∧1≤sz∧1≤st
 ·obtain ⟨g1,J,L⟩:=g
  rw [if_pos (fun _=>g1)]
  by_cases g6:sz≤ix ds a
  ·have B:mC ds a sz st:=⟨g1.1,g1.2,J,L,g6⟩
   obtain ⟨T,U,n3⟩:=oN B
   obtain ⟨j,rfl⟩:=Int.eq_ofNat_of_zero_le g1.1
   have F:j<ds.length:=by omega
   have hm:=h.2.mem (bI F)
   have G:=gD h.2 _ (bI (xs:=eY ds) (k:=j) (by omega))
   rw [if_neg (by simp; omega),if_pos (by omega),if_pos g1,if_pos (by omega)]
   have e:aI (aI ((aI (ix ds (j:Int) - sz)).tdiv st)+1)=jA ds (j:Int) sz st:=by
    rw [aX (n:=ix ds (j:Int) - sz) (by omega) (by omega),Int.tdiv_eq_ediv_of_nonneg (by omega)]
    unfold jA at T U ⊢
    rw [aX (n:=(ix ds (j:Int) - sz) / st) (by omega) (by omega),aX (by omega) (by omega)]
   have I:∀ z:Int,(z=if jA ds (j:Int) sz st=1 then 0 else st)→Z1s_J3 ⟨ds,eY ds,0,pr ds⟩ (j:Int) sz st z=some (true,gA ds (j:Int) sz st,z):=by
    intro z u
    have b:0≤z∧z≤4096:=by
     by_cases q:jA ds (j:Int) sz st=1
     ·rw [u,if_pos q]; omega
     ·have k2:1*st≤(jA ds (j:Int) sz st - 1)*st:=Int.mul_le_mul_of_nonneg_right (by omega) (by omega)
      rw [u,if_neg q]; omega
    have Y:0≤ix (eY ds) (j:Int)*z:=Int.mul_nonneg G.1 b.1
    have Z:=Int.mul_le_mul G.2 b.2 b.1 (show (0:Int)≤4096 by omega)
    simp only [Z1s_J3,e]
    rw [aX (by omega) (by omega),uz (by simpa using F) (by simp; omega)]
    simp only [Option.bind_some]
    rw [BO (by simp; omega) (by simp; omega)]
    simp only [Option.bind_some,gA,Int.toNat_natCast]
    congr 6
    rw [u]; split<;>rfl
   have i:∀ z:Int,(bP (!(!((true,gA ds (j:Int) sz st,z):Bool×View×Int).1)) (Zk ((true,gA ds (j:Int) sz st,z):Bool×View×Int).2.1)).bind (fun D:Bool=>if ((!((true,gA ds (j:Int) sz st,z):Bool×View×Int).1)||(!D))=true then some ((⟨[],[],0,0⟩:View),z) else some (gA ds (j:Int) sz st,z))=some ((if mC ds (j:Int) sz st∧eL (gA ds (j:Int) sz st).Dims then gA ds (j:Int) sz st else eI),z):=by
    intro z
    simp only [bP,Bool.not_true,Bool.not_false,cond_true,Bool.false_or]
    by_cases q:eL (gA ds (j:Int) sz st).Dims
    ·rw [l4 (qP h B q),if_pos ⟨B,q⟩]
     rfl
    ·rw [ux (by simp [gA,cS]; omega) q,if_neg (fun z=>q z.2)]
     rfl
   rw [e]
   by_cases q:jA ds (j:Int) sz st=1
   ·rw [if_pos (by simp [q]),I 0 (by simp [q])]
    simp only [Option.bind_some]
    rw [i]
    rfl
   ·rw [if_neg (by simp [q]),I st (by simp [q])]
    simp only [Option.bind_some]
    rw [i]
    rfl
  ·rw [if_pos (by simp; omega),if_neg (fun q=>g6 q.1.2.2.2.2)]
   simp [bP,eI]
 ·have E:(((!(decide (a≥0)&&decide (a<(ds.length:Int))))||decide (sz<1))||decide (st<1))=true:=by
   simp only [Bool.or_eq_true,Bool.not_eq_true',decide_eq_true_eq,Bool.and_eq_false_iff,decide_eq_false_iff_not]
   omega
  rw [if_pos (fun q=>by rw [E] at q; cases q),E,if_pos (by simp),if_neg (fun q=>g ⟨⟨q.1.1,q.1.2.1⟩,q.1.2.2.1,q.1.2.2.2.1⟩)]
  simp [bP,eI]
def NR (x:Int):Prop:=0≤x∧x<2147483647
instance (x:Int):Decidable (NR x):=by unfold NR; infer_instance
def RG (n:Nat)(x:List Int):Prop:=x.length=n∧∀ y∈x,NR y
theorem RG.set {n:Nat}{x:List Int}(h:RG n x){y:Int}(a:NR y)(k:Nat):RG n (x.set k y):=⟨by simp [h.1],je h.2 a⟩
theorem RG.rep (n:Nat):RG n (List.replicate n 0):=⟨by simp,fun y a=>by rw [(List.mem_replicate.1 a).2]; decide⟩
theorem RG.ix {n:Nat}{x:List Int}(h:RG n x){i:Int}(a:0≤i)(h1:i<(n:Int)):NR (ix x i):=by
 obtain ⟨k,rfl⟩:=Int.eq_ofNat_of_zero_le a
 exact h.2 _ (bI (by have:=h.1; omega))
theorem lE {R:Type}{f:List Int×Int→Option ((List Int×Int)⊕R)}{Post:R→Prop}(m n:Nat)(q:∀ j:Nat,j<n→∀ x,RG m x→∃ x',f (x,(j:Int))=some (.inl (x',((j+1:Nat):Int)))∧RG m x')(h:∀ x,RG m x→∃ r,f (x,(n:Int))=some (.inr r)∧Post r){x:List Int}(e:RG m x):∃ r,aQ f (x,0)=some r∧Post r :=
 gX (f:=f) (fun j s=>s.2=(j:Int)∧RG m s.1) n (fun j s l a=>by
  obtain ⟨x,i⟩:=s
  obtain ⟨rfl,b⟩:=a
  obtain ⟨x',h1,h2⟩:=q j l x b
  exact ⟨_,h1,rfl,h2⟩) (fun s a=>by
  obtain ⟨x,i⟩:=s
  obtain ⟨rfl,b⟩:=a
  exact h x b) (s:=(x,0)) ⟨rfl,e⟩
theorem kg (p:Int):∃ m,Zu p=some m∧NR m:=by
 have h1:=Int.tmod_lt_of_pos p (show (0:Int)<2147483647 by omega)
 have h2 : -2147483647<p.tmod 2147483647:=by
  rcases Int.le_total 0 p with h | h
  ·have:=Int.tmod_nonneg 2147483647 h; omega
  ·have e:p.tmod 2147483647 = -((-p).tmod 2147483647):=by rw [Int.neg_tmod]; omega
   have:=Int.tmod_lt_of_pos (-p) (show (0:Int)<2147483647 by omega)
   omega
 unfold Zu
 by_cases c:p.tmod 2147483647<0
 ·rw [if_pos (by simpa using c)]
  exact ⟨_,rfl,by rw [aX (by omega) (by omega)]; constructor<;>omega⟩
 ·rw [if_neg (by simpa using c)]
  exact ⟨_,rfl,by constructor<;>omega⟩
theorem kv (p:Int):∃ m,Z1n p=some m:=by
 obtain ⟨m,h,_⟩:=kg p
 unfold Z1n
 rw [h]
 simp only [Option.bind_some]
 split<;>exact ⟨_,rfl⟩
theorem oO (a b:Int):∃ m,Z1v a b=some m∧NR m:=by
 obtain ⟨x,h1,_⟩:=kg a
 obtain ⟨y,h2,_⟩:=kg b
 obtain ⟨z,e,h⟩:=kg (aI (x+y))
 exact ⟨z,by unfold Z1v; simp [h1,h2,e],h⟩
theorem s9 (a b:Int):∃ m,Z2h a b=some m∧NR m:=by
 obtain ⟨x,h1,_⟩:=kg a
 obtain ⟨y,h2,_⟩:=kg b
 obtain ⟨z,e,h⟩:=kg (aI (x - y))
 exact ⟨z,by unfold Z2h; simp [h1,h2,e],h⟩
theorem mR (a b:Int):∃ m,Z1o a b=some m∧NR m:=by
 obtain ⟨x,h1,_⟩:=kg a
 obtain ⟨y,h2,_⟩:=kg b
 obtain ⟨z,e,h⟩:=kg (aI (x*y))
 exact ⟨z,by unfold Z1o; simp [h1,h2,e],h⟩
theorem wr (a:Int):∀ (f:Nat) (n:Int),0≤n→n<2 ^ f→n≤1099511627776→∃ m,Zw_R (f+1) a n=some m∧NR m:=by
 intro f
 induction f with
 | zero =>
  intro n b h1 _
  have:n=0:=by simp at h1; omega
  subst this
  exact ⟨1,rfl,by decide⟩
 | succ f ih =>
  intro n b h1 r
  show ∃ m,Zw_S (Zw_R (f+1)) a n=some m∧NR m
  unfold Zw_S
  by_cases c:n=0
  ·rw [if_pos (by simp [c])]; exact ⟨1,rfl,by decide⟩
  ·rw [if_neg (by simp [c])]
   have e:n.tdiv 2=n / 2:=Int.tdiv_eq_ediv_of_nonneg b
   have h2:n / 2<2 ^ f:=by rw [Int.pow_succ] at h1; omega
   rw [e,aX (by omega) (by omega)]
   obtain ⟨x,g1,q⟩:=ih (n / 2) (by omega) h2 (by omega)
   obtain ⟨y,h,i⟩:=mR x x
   obtain ⟨z,j,l⟩:=mR y a
   rw [g1]
   simp only [Option.bind_some,h]
   split
   ·simp only [j,Option.bind_some]; exact ⟨z,rfl,l⟩
   ·exact ⟨y,rfl,i⟩
theorem sT (a:Int):∃ m,Z2g a=some m∧NR m:=by
 obtain ⟨x,h1,_⟩:=kg a
 unfold Z2g Zw
 rw [h1]
 simp only [Option.bind_some]
 obtain ⟨y,h2,b⟩:=wr x 31 2147483645 (by omega) (by decide) (by omega)
 have mono:∀ f g:Nat,∀ n m,f≤g→Zw_R f x n=some m→Zw_R g x n=some m:=by
  intro f
  induction f with
  | zero=>intro g n m _ h; cases h
  | succ f ih =>
   intro g n m i h
   obtain ⟨g,rfl⟩:∃ k,g=k+1:=⟨g - 1,by omega⟩
   change Zw_S (Zw_R f) x n=some m at h
   show Zw_S (Zw_R g) x n=some m
   unfold Zw_S at h ⊢
   split
   ·rename_i c; rw [if_pos c] at h; exact h
   ·rename_i c
    rw [if_neg c] at h
    cases e:Zw_R f x (aI (n.tdiv 2)) with
    | none=>rw [e] at h; cases h
    | some r=>rw [e] at h; rw [ih g _ r (by omega) e]; exact h
 rw [mono 32 oA _ y (by decide) h2]
 exact ⟨y,rfl,b⟩
theorem yN {op x:Int}(a:NR x):∃ m,Z39 op x=some m∧NR m:=by
 unfold Z39
 split
 ·obtain ⟨m,h1,h2⟩:=s9 0 x; rw [h1]; exact ⟨m,rfl,h2⟩
 ·split
  ·obtain ⟨m,h1,h2⟩:=sT x; rw [h1]; exact ⟨m,rfl,h2⟩
  ·obtain ⟨m,h1⟩:=kv x
   rw [h1]
   simp only [Option.bind_some]
   split
   ·exact ⟨0,rfl,by decide⟩
   ·split
    ·exact ⟨1,rfl,by decide⟩
    ·exact ⟨x,rfl,a⟩
theorem yO {op x y:Int}(h1:1≤op)(h2:op≤3):∃ m,Z1w op x y=some m∧NR m:=by
 obtain ⟨a,j⟩:=kv x
 obtain ⟨b,l⟩:=kv y
 unfold Z1w
 rw [j,l]
 simp only [Option.bind_some]
 split
 ·obtain ⟨m,h1,h2⟩:=oO x y; rw [h1]; exact ⟨m,rfl,h2⟩
 ·split
  ·obtain ⟨m,h1,h2⟩:=s9 x y; rw [h1]; exact ⟨m,rfl,h2⟩
  ·split
   ·obtain ⟨m,h1,h2⟩:=mR x y; rw [h1]; exact ⟨m,rfl,h2⟩
   ·rename_i e h i
    simp only [beq_iff_eq] at e h i
    omega
theorem iC {ds:List Int}{x:List Int}(h:eL ds)(a:RG (pr ds).toNat x):TOk ds x:=⟨h,by have:=a.1; have:=h.2.pos; omega,fun y b=>a.2 y b⟩
theorem pT {ds:List Int}{x:List Int}(h:TOk ds x):RG (pr ds).toNat x:=⟨by have:=h.l; omega,fun y a=>h.x y a⟩
theorem l5 {ds x:List Int}(h:TOk ds x):x.length≤4096∧ds.length≤6:=⟨by have:=h.l; have:=h.d.2.2; omega,h.d.1⟩
def TT (t:Tensor):Prop:=TOk t.Dims t.Data
theorem qQ {t:Tensor}(h:TT t):Zv t=some true:=by
 have:=l5 h
 rw [uk (by unfold cS; omega) (by unfold cS; omega),decide_eq_true (show TOk t.Dims t.Data from h)]
theorem BP {op:Int}{t:Tensor}(h:TT t)(h1:1≤op)(h2:op≤4):∃ d,Z19 op t=some ⟨t.Dims,d⟩∧TOk t.Dims d:=by
 have u:=l5 h
 unfold Z19
 rw [qQ h]
 simp only [Option.bind_some]
 rw [if_neg (by simp; omega),lz h.d]
 simp only [Option.bind_some]
 have B:(pr t.Dims).toNat=t.Data.length:=(pT h).1.symm
 obtain ⟨r,b,e⟩:=lE (f:=fun s:List Int×Int=>Z19_L1 op t ⟨t.Dims,List.replicate (pr t.Dims).toNat 0⟩ s.1 s.2) (Post:=fun r=>RG (pr t.Dims).toNat r) (pr t.Dims).toNat t.Data.length
  (fun j q x a=>by
   obtain ⟨m,g1,l⟩:=yN (op:=op) ((pT h).ix (i:=(j:Int)) (by omega) (by omega))
   simp only [Z19_L1]
   rw [if_pos (by simp; omega),if_pos (by omega),g1]
   simp only [Option.bind_some]
   rw [if_pos (by simp; omega),cA (by unfold cS; omega)]
   exact ⟨_,rfl,a.set l _⟩)
  (fun x a=>by simp only [Z19_L1]; rw [if_neg (by simp)]; exact ⟨x,rfl,a⟩) (RG.rep _)
 rw [b]
 exact ⟨r,rfl,iC h.d e⟩
theorem ws {ds:List Int}(h:eL ds):Z05 ds ds=some ds:=by
 have D:=h.1
 unfold Z05
 rw [gO (by unfold cS; omega)]
 simp only [h,decide_true,Option.bind_some,bP,Bool.not_true,Bool.not_false,cond_true,Bool.or_self,Bool.false_eq_true,if_false]
 rw [if_neg (by simp)]
 unfold Z05_J1
 rw [if_pos (by omega)]
 have:=eV (f:=fun s:List Int×Int=>Z05_L1 ds ds (ds.length:Int) s.1 s.2) (r:=.inr ds) (fun j=>(List.replicate (ds.length - j) 0++ds.drop (ds.length - j),(j:Int))) ds.length
  (fun j B=>by
   obtain ⟨i,u⟩:∃ i,i=ds.length - (j+1):=⟨_,rfl⟩
   have e:ds.length - j=i+1:=by omega
   have a:i<ds.length:=by omega
   have b:aI (aI ((ds.length:Int) - 1) - (j:Int))=(i:Int):=by rw [aX (n:=(ds.length:Int) - 1) (by omega) (by omega),aX (by omega) (by omega)]; omega
   have l:Z2j ds (j:Int)=some (ix ds (i:Int)):=by
    unfold Z2j
    rw [if_neg (by simp; omega),b,if_pos (by omega)]
   simp only [Z05_L1]
   rw [if_pos (by simp; omega),l]
   simp only [Option.bind_some]
   rw [if_neg (by simp),if_neg (by simp)]
   simp only [Z05_J3,b]
   rw [if_pos (by simp; omega),cA (by unfold cS; omega),e,← u,Int.toNat_natCast]
   congr 3
   have q:ds.drop i=ix ds (i:Int)::ds.drop (i+1):=by rw [List.drop_eq_getElem_cons a,cC a]
   rw [q,List.replicate_succ',List.set_append_left _ _ (by simp),List.set_append_right _ _ (by simp)]
   simp)
  (by simp only [Z05_L1,Nat.sub_self,List.replicate_zero,List.drop_zero,List.nil_append]; rw [if_neg (by simp)])
  (s:=(List.replicate (ds.length:Int).toNat 0,0)) (by simp)
 rw [this]
 simp only [Option.bind_some,Z05_J4]
 rw [gO (by unfold cS; omega)]
 simp [h]
theorem oc {t:Tensor}{is:List Int}(h:TT t)(a:IV t.Dims is):∃ x,Z0f t is=some x:=by
 have l:=l5 h
 have b:=a.len
 unfold Z0f
 have:=eV (f:=fun s:List Int×Int=>Z0f_L1 t is s.1 s.2) (r:=is) (fun j=>(is.take j,(j:Int))) t.Dims.length
  (fun j i=>by
   have q:=a.mem (j:=j) (by omega)
   have e:aI (aI ((is.length:Int) - (t.Dims.length:Int))+(j:Int))=(j:Int):=by rw [aX (n:=(is.length:Int) - (t.Dims.length:Int)) (by omega) (by omega),aX (by omega) (by omega)]; omega
   simp only [Z0f_L1,Z0f_J2,e]
   rw [if_pos (by simp; omega),if_pos (by omega),if_pos (by omega),cA (by unfold cS; omega)]
   have tk:is.take (j+1)=is.take j++[ix is (j:Int)]:=by rw [List.take_succ_eq_append_getElem (by omega),cC (by omega)]
   by_cases c:ix t.Dims (j:Int)=1
   ·rw [if_pos (by simp [c]),if_pos (by simp; omega),tk,show ix is (j:Int)=0 by omega]
   ·rw [if_neg (by simp [c]),if_pos (by simp; omega),tk])
  (by simp only [Z0f_L1]; rw [if_neg (by simp),List.take_of_length_le (by omega)])
  (s:=([],0)) rfl
 rw [this]
 simp only [Option.bind_some,Z0f_J3]
 obtain ⟨x,g,_⟩:=o4 h a
 rw [g]
 exact ⟨x,rfl⟩
theorem BQ {op:Int}{t u:Tensor}(e:TT t)(q:TT u)(i:t.Dims=u.Dims)(h1:1≤op)(h2:op≤3):∃ d,Z1a op t u=some ⟨t.Dims,d⟩∧TOk t.Dims d:=by
 have J:=l5 e
 have L:=e.d.2.2
 unfold Z1a
 rw [qQ e,qQ q]
 simp only [Option.bind_some,bP,Bool.not_true,Bool.not_false,cond_true]
 rw [if_neg (by simp; omega),← i,ws e.d]
 simp only [Option.bind_some]
 rw [if_neg (by simp),lz e.d]
 simp only [Option.bind_some]
 obtain ⟨r,B,D⟩:=lE (f:=fun s:List Int×Int=>Z1a_L1 op t u t.Dims ⟨t.Dims,List.replicate (pr t.Dims).toNat 0⟩ s.1 s.2) (Post:=fun r=>RG (pr t.Dims).toNat r) (pr t.Dims).toNat (pr t.Dims).toNat
  (fun j I x h=>by
   have l:=iB e.d.2.1 (j:Int)
   obtain ⟨a,F⟩:=oc e l
   obtain ⟨b,G⟩:=oc q (by rw [← i]; exact l)
   obtain ⟨m,g1,E⟩:=yO (op:=op) (x:=a) (y:=b) h1 h2
   simp only [Z1a_L1]
   rw [if_pos (by simp; omega),jZ e.d (by omega) (by omega)]
   simp only [Option.bind_some,F,G,g1]
   rw [if_pos (by simp; omega),cA (by unfold cS; omega)]
   exact ⟨_,rfl,h.set E _⟩)
  (fun x h=>by simp only [Z1a_L1]; rw [if_neg (by simp)]; exact ⟨x,rfl,h⟩) (RG.rep _)
 rw [B]
 exact ⟨r,rfl,iC e.d D⟩
theorem yP {ds:List Int}(l:ds.length<cS):(eL ds→∃ d,Z0x ds 0=some ⟨ds,d⟩∧TOk ds d)∧(¬ eL ds→Z0x ds 0=some ⟨[],[]⟩):=by
 unfold Z0x
 rw [gO l]
 constructor
 ·intro h
  have B:=h.2.2
  simp only [h,decide_true,Option.bind_some,Bool.not_true,Bool.false_eq_true,if_false]
  rw [lz h]
  simp only [Option.bind_some]
  obtain ⟨m,q,a⟩:=kg 0
  obtain ⟨r,e,i⟩:=lE (f:=fun s:List Int×Int=>Z0x_L1 0 ⟨ds,List.replicate (pr ds).toNat 0⟩ s.1 s.2) (Post:=fun r=>RG (pr ds).toNat r) (pr ds).toNat (pr ds).toNat
   (fun j u x b=>by
    simp only [Z0x_L1]
    rw [if_pos (by simp; omega),q]
    simp only [Option.bind_some]
    rw [if_pos (by simp; omega),cA (by unfold cS; omega)]
    exact ⟨_,rfl,b.set a _⟩)
   (fun x b=>by simp only [Z0x_L1]; rw [if_neg (by simp)]; exact ⟨x,rfl,b⟩) (RG.rep _)
  rw [e]
  exact ⟨r,rfl,iC h i⟩
 ·intro h
  simp [h]
theorem wt (ds ss:List Int)(a:Int):(o5 ds ss a).length=(pr ds).toNat:=by simp [o5]
theorem oP {t:Tensor}{v:View}(h:TT t)(a:VG v.Dims v.Strides v.Offset v.Base)(M:v.Base=pr t.Dims):∃ d,Z09 t v=some ⟨v.Dims,d⟩∧TOk v.Dims d:=by
 have T:=l5 h
 have U:=a.d.1
 have Y:=a.d.2.2
 have J:=h.l
 unfold Z09
 rw [qQ h,l2 a]
 simp only [Option.bind_some,bP,Bool.not_true,Bool.not_false,cond_true]
 rw [if_neg (by simp; omega),iN (by omega),rY a.d a.l a.s (by have:=a.o; have:=a.b; omega)]
 simp only [Option.bind_some]
 have F:=wt v.Dims v.Strides v.Offset
 obtain ⟨r,G,I⟩:=gX (f:=fun s:List Int×Int=>Z09_L1 t (o5 v.Dims v.Strides v.Offset) s.1 s.2) (fun j s=>s.2=(j:Int)∧RG j s.1) (pr v.Dims).toNat (Post:=fun r=>RG (pr v.Dims).toNat r)
  (fun j s O B=>by
   obtain ⟨x,i⟩:=s
   obtain ⟨e,u⟩:=B
   simp only at e
   subst e
   have L:0≤ix (o5 v.Dims v.Strides v.Offset) (j:Int)∧ix (o5 v.Dims v.Strides v.Offset) (j:Int)<v.Base:=by
    have:=bI (xs:=o5 v.Dims v.Strides v.Offset) (k:=j) (by omega)
    obtain ⟨k,_,hk⟩:=List.mem_map.1 this
    rw [← hk]
    exact a.place (iB a.d.2.1 (k:Int))
   have D:=(pT h).ix L.1 (by have:=(pT h).1; omega)
   have E:x.length=j:=u.1
   simp only [Z09_L1]
   rw [if_pos (by simp; omega),if_pos (by omega),if_pos (by omega),if_pos (by simp; omega),cA (by unfold cS; omega)]
   refine ⟨_,rfl,rfl,by simp [E],?_⟩
   intro y q
   rcases List.mem_append.1 q with q | q
   ·exact u.2 y q
   ·rw [List.mem_singleton.1 q]; exact D)
  (fun s B=>by
   obtain ⟨x,i⟩:=s
   obtain ⟨e,u⟩:=B
   simp only at e
   subst e
   simp only [Z09_L1]
   rw [if_neg (by simp; omega)]
   exact ⟨x,rfl,u⟩) (s:=([],0)) ⟨rfl,rfl,by simp⟩
 rw [G]
 exact ⟨r,rfl,iC a.d I⟩
theorem mS {t:Tensor}(a:TT t):Z09 t eI=some ⟨[],[]⟩:=by
 unfold Z09
 rw [qQ a]
 simp only [Option.bind_some,bP,Bool.not_true,Bool.not_false,cond_true]
 rw [show Zb eI=some false from wf]
 simp
theorem sU {ds d:List Int}(h:eL ds)(F:d.length<cS):Z0i (whole ds) d=some (if eL d∧pr d=pr ds then whole d else eI):=by
 have hn:=h.1
 have hp:=h.2.2
 have M:=h.2.pos
 have E:(whole ds).Dims=ds:=rfl
 have D:(whole ds).Base=pr ds:=rfl
 unfold Z0i
 rw [l2 (jr h)]
 simp only [Option.bind_some,bP,Bool.not_true,Bool.not_false,cond_true,Bool.false_or,gO F]
 by_cases hd:eL d
 ·have J:=hd.1
  have L:=hd.2.pos
  simp only [hd,decide_true,Bool.not_true,Bool.not_false,cond_true,Bool.false_or,true_and,E,Option.bind_some]
  rw [jz F,if_pos hd.2,jz (by unfold cS; omega),if_pos h.2]
  simp only [Option.bind_some]
  by_cases e:pr d=pr ds
  ·rw [if_neg (by simp [e]),if_pos e,rY (jr h).d (jr h).l (jr h).s ⟨Int.le_refl 0,by show (0:Int)≤4096; omega⟩,iN (by omega)]
   simp only [Option.bind_some]
   have b:o5 (whole ds).Dims (whole ds).Strides (whole ds).Offset=(List.range (pr ds).toNat).map fun k:Nat=>(k:Int):=o8 h.2
   obtain ⟨a,I⟩:∃ a,a=o5 (whole ds).Dims (whole ds).Strides (whole ds).Offset:=⟨_,rfl⟩
   rw [← I] at b ⊢
   have Y:a.length=(pr ds).toNat:=by rw [b]; simp
   have B:∀ i:Int,0≤i→i<pr ds→ix a i=i:=by
    intro i G h1
    obtain ⟨k,rfl⟩:=Int.eq_ofNat_of_zero_le G
    rw [cC (by omega)]
    simp [b]
   rw [if_pos (by omega)]
   have:=eV (f:=fun s:List Int×Int=>Z0i_L1 d a s.1 s.2) (r:=eY d) (fun j=>((eY d).take j,(j:Int))) d.length
    (fun j u=>by
     have O:=dT d
     have Z:=hd.2.mem (bI u)
     have tk:(eY d).take (j+1)=(eY d).take j++[if ix d (j:Int)>1 then pr (d.drop (j+1)) else 0]:=by rw [List.take_succ_eq_append_getElem (by omega),← qK u,cC (by omega)]
     simp only [Z0i_L1,Z0i_J2]
     rw [if_pos (by simp; omega),if_pos (by omega)]
     by_cases c:ix d (j:Int)>1
     ·have q1:=(hd.2.drop (j+1)).pos
      have q2:pr (d.drop j)=ix d (j:Int)*pr (d.drop (j+1)):=by
       have:d.drop j=ix d (j:Int)::d.drop (j+1):=by rw [List.drop_eq_getElem_cons u,cC u]
       rw [this]; rfl
      have T:=gW d j
      have U:=(hd.2.take j).pos
      have q5:pr (d.drop j)≤pr d:=by rw [T]; exact jX U (by have:=(hd.2.drop j).pos; omega)
      have q6:2*pr (d.drop (j+1))≤ix d (j:Int)*pr (d.drop (j+1)):=Int.mul_le_mul_of_nonneg_right (by omega) (by omega)
      rw [if_pos (by simpa using c),cA (by unfold cS; omega),if_pos (by omega),iG,Int.toNat_natCast,jz (by simp [cS]; omega),if_pos (hd.2.drop (j+1))]
      simp only [Option.bind_some]
      rw [if_pos (by omega),if_pos (by simp; omega),B _ (by omega) (by omega),B 0 (by omega) (by omega),tk,if_pos c,aX (by omega) (by omega),Int.sub_zero]
     ·rw [if_neg (by simpa using c),if_pos (by simp; omega),cA (by unfold cS; omega),tk,if_neg c])
    (by simp only [Z0i_L1]; rw [if_neg (by simp),List.take_of_length_le (by rw [dT]; omega)])
    (s:=([],0)) rfl
   rw [this]
   simp only [Option.bind_some,Z0i_J3]
   have hw:(⟨d,eY d,ix a 0,(whole ds).Base⟩:View)=whole d:=by rw [B 0 (by omega) (by omega),D,← e]; rfl
   rw [hw,l2 (jr hd)]
   simp only [Option.bind_some,bP,Bool.not_true,Bool.not_false,cond_true]
   rw [rY (jr hd).d (jr hd).l (jr hd).s ⟨Int.le_refl 0,by show (0:Int)≤4096; omega⟩]
   simp only [Option.bind_some]
   have q:o5 (whole d).Dims (whole d).Strides (whole d).Offset=a:=by rw [b,← e]; exact o8 hd.2
   rw [q,ul (by unfold cS; omega)]
   simp
  ·rw [if_pos (by simp [e]),if_neg e]
   rfl
 ·simp [hd,eI]
theorem nv {n:Node}{ds:List Int}(h:eL ds)(q:n.Dims.length<cS):∃ ps,Z17 n ds=some (if eL n.Dims∧pr n.Dims=pr ds then (n.Dims,ps,true) else ([],[],false)):=by
 have D:=h.1
 have E:=h.2.2
 unfold Z17
 rw [hY q]
 by_cases hd:eL n.Dims
 ·simp only [hd,decide_true,Option.bind_some,bP,Bool.not_true,Bool.not_false,cond_true,Bool.false_or,true_and]
  rw [kZ q hd.2,kZ (by unfold cS; omega) h.2]
  simp only [Option.bind_some]
  by_cases e:pr n.Dims=pr ds
  ·rw [if_neg (by simp [e])]
   obtain ⟨r,u,_⟩:=gX (f:=fun s:List pair×Int=>Z17_L1 (pr ds) s.1 s.2) (fun j s=>s.2=(j:Int)∧s.1.length=j) (pr ds).toNat (Post:=fun _=>True)
    (fun j s B b=>by
     obtain ⟨x,i⟩:=s
     obtain ⟨a,l⟩:=b
     simp only at a l
     subst a
     simp only [Z17_L1]
     rw [if_pos (by simp; omega),if_pos (by simp; omega),cA (by unfold cS; omega)]
     exact ⟨_,rfl,rfl,by simp [l]⟩)
    (fun s b=>by
     obtain ⟨x,i⟩:=s
     obtain ⟨a,l⟩:=b
     simp only at a
     subst a
     have:=h.2.pos
     simp only [Z17_L1]
     rw [if_neg (by simp; omega)]
     exact ⟨x,rfl,trivial⟩) (s:=([],0)) ⟨rfl,rfl⟩
   rw [u]
   exact ⟨r,by rw [if_pos e]; rfl⟩
  ·rw [if_pos (by simp [e])]
   exact ⟨[],by rw [if_neg e]⟩
 ·simp [hd,bP]
end Go.Proofs.YtoffdamdpmeoiaaGreatDoor
