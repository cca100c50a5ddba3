import Derived.Test.YtmpnollfdpdipaaGreatGkF
import Derived.Test.YtmpnollfdpdipaaGreatPL1
set_option linter.unusedVariables false
set_option linter.unusedSimpArgs false
namespace Go.Proofs.YtmpnollfdpdipaaGreat
open Go Go.Pg
theorem iI {a b:Int}(g:0≤a)(e:1≤b):a≤a*b:=by
 have:=Int.mul_le_mul_of_nonneg_left e g
 simpa using this
theorem jl {a b:Int}(g:1≤a)(e:0≤b):b≤a*b:=by rw [Int.mul_comm]; exact iI e g
def pr:List Int→Int
 | []=>1
 | d::ds=>d*pr ds
def SZ (ds:List Int):Prop:=(∀ d∈ds,1≤d)∧pr ds≤4096
instance (ds:List Int):Decidable (SZ ds):=by unfold SZ; infer_instance
def eG (ds:List Int):Prop:=ds.length≤6∧SZ ds
instance (ds:List Int):Decidable (eG ds):=by unfold eG; infer_instance
theorem fE {ds:List Int}(h:∀ d∈ds,1≤d):1≤pr ds:=by
 induction ds with
 | nil=>exact Int.le_refl 1
 | cons d ds ih =>
  have h1:=h d (by simp)
  have h2:=ih fun x a=>h x (by simp [a])
  exact Int.le_trans h1 (iI (by omega) h2)
theorem mw (a b:List Int):pr (a++b)=pr a*pr b:=by
 induction a with
 | nil=>simp [pr]
 | cons x a ih=>simp [pr,ih,Int.mul_assoc]
theorem gK (ds:List Int)(k:Nat):pr ds=pr (ds.take k)*pr (ds.drop k):=by
 rw [← mw,List.take_append_drop]
theorem SZ.take {ds:List Int}(h:SZ ds)(k:Nat):SZ (ds.take k):=by
 refine ⟨fun d a=>h.1 d (List.mem_of_mem_take a),?_⟩
 have h1:=h.2
 rw [gK ds k] at h1
 have h2:1≤pr (ds.drop k):=fE fun d a=>h.1 d (List.mem_of_mem_drop a)
 have b:1≤pr (ds.take k):=fE fun d a=>h.1 d (List.mem_of_mem_take a)
 exact Int.le_trans (iI (by omega) h2) h1
theorem SZ.drop {ds:List Int}(h:SZ ds)(k:Nat):SZ (ds.drop k):=by
 refine ⟨fun d a=>h.1 d (List.mem_of_mem_drop a),?_⟩
 have h1:=h.2
 rw [gK ds k] at h1
 have h2:1≤pr (ds.drop k):=fE fun d a=>h.1 d (List.mem_of_mem_drop a)
 have b:1≤pr (ds.take k):=fE fun d a=>h.1 d (List.mem_of_mem_take a)
 exact Int.le_trans (jl b (by omega)) h1
theorem SZ.tail {d:Int}{ds:List Int}(h:SZ (d::ds)):SZ ds:=h.drop 1
theorem SZ.pos {ds:List Int}(h:SZ ds):1≤pr ds:=fE h.1
theorem SZ.mem {ds:List Int}(h:SZ ds){d:Int}(e:d∈ds):1≤d∧d≤4096:=by
 refine ⟨h.1 d e,?_⟩
 obtain ⟨a,b,rfl⟩:=List.append_of_mem e
 have h2:=h.2
 rw [mw] at h2
 have j:1≤pr a:=fE fun x g=>h.1 x (by simp [g])
 have i:1≤pr b:=fE fun x g=>h.1 x (by simp [g])
 have m:=h.1 d e
 have l:d≤pr (d::b):=iI (by omega) i
 exact Int.le_trans (Int.le_trans l (jl j (by omega))) h2
theorem sG {R:Type}(h:R)(i:Int→R)(ds:List Int)(k:Nat)(n:Int)(q:1≤n)(h1:n≤4096) :
  qn (fun (s:Int) (_:Nat) (x:Int)=>if (decide (x<1)||decide (x>4096))=true then .inr h else if decide (s*x>4096)=true then .inr h else .inl (s*x)) i ds k n
   = if (∀ d∈ds,1≤d)∧n*pr ds≤4096 then i (n*pr ds) else h:=by
 induction ds generalizing n k with
 | nil=>simp [qn,pr,h1]
 | cons d ds ih =>
  unfold qn
  by_cases c1:d<1
  ·have j:¬ ((∀ x∈d::ds,1≤x)∧n*pr (d::ds)≤4096):=fun ⟨a,_⟩=>by have:=a d (by simp); omega
   rw [if_neg j]
   simp [c1]
  ·have b':d>4096∨n*d>4096→¬ ((∀ x∈d::ds,1≤x)∧n*pr (d::ds)≤4096):=by
    rintro l ⟨a,b⟩
    have r:1≤pr ds:=fE fun x m=>a x (by simp [m])
    have e:n*pr (d::ds)=n*d*pr ds:=by simp [pr,Int.mul_assoc]
    rw [e] at b
    have h2:d≤n*d:=jl q (by omega)
    have u:n*d≤n*d*pr ds:=iI (by omega) r
    rcases l with l | l<;>omega
   by_cases c2:d>4096
   ·rw [if_neg (b' (.inl c2))]; simp [c2]
   ·by_cases c3:n*d>4096
    ·rw [if_neg (b' (.inr c3))]; simp [c1,c2,c3]
    ·have B:d≤n*d:=jl q (by omega)
     simp only [c1,c2,c3,decide_false,Bool.or_self,Bool.false_eq_true,if_false]
     rw [ih (k+1) (n*d) (by omega) (by omega)]
     have e:n*pr (d::ds)=n*d*pr ds:=by simp [pr,Int.mul_assoc]
     by_cases g:(∀ x∈ds,1≤x)∧n*d*pr ds≤4096
     ·rw [if_pos g,if_pos ⟨List.forall_mem_cons.2 ⟨by omega,g.1⟩,by rw [e]; exact g.2⟩,e]
     ·rw [if_neg g,if_neg fun a=>g ⟨fun x m=>a.1 x (by simp [m]),by rw [← e]; exact a.2⟩]
theorem uy {R:Type}(a:Int→R)(ds:List Int)(k:Nat)(n:Int):qn (fun (s:Int) (_:Nat) (x:Int)=>.inl (s*x)) a ds k n=a (n*pr ds):=by
 induction ds generalizing n k with
 | nil=>simp [qn,pr]
 | cons d ds ih =>
  unfold qn
  simp only
  rw [ih]
  simp [pr,Int.mul_assoc]
theorem iz {a b:Int}(g:0≤a)(h1:a≤65536)(h2:0≤b)(e:b≤65536):aH (a*b)=a*b:=by
 have i:a*b≤65536*65536:=Int.mul_le_mul h1 e h2 (by omega)
 have h:0≤a*b:=Int.mul_nonneg g h2
 exact bC (by omega) (by omega)
theorem jp {ds:List Int}(q:ds.length<b'):Zw ds=some (if SZ ds then pr ds else 0):=by
 have:=j0 (S:=Int) ds (fun _ n=>1≤n∧n≤4096) (fun s:Int×Int=>Zw_L1 ds s.1 s.2) (fun n i=>(n,i)) (fun (s:Int) (_:Nat) (x:Int)=>if (decide (x<1)||decide (x>4096))=true then .inr (.inl (0:Int)) else if decide (s*x>4096)=true then .inr (.inl 0) else .inl (s*x)) (fun n=>.inr n)
  (fun n k l m=>by
   simp only [Zw_L1]
   rw [if_pos (by simp; omega),if_pos (by omega)]
   split
   ·rfl
   ·rename_i h
    simp only [Bool.or_eq_true,decide_eq_true_eq,not_or] at h
    rw [iz (by omega) (by omega) (by omega) (by omega),bW (by omega)]
    split<;>rfl)
  (fun n k s l m j=>by
   split at j
   ·cases j
   ·rename_i h
    simp only [Bool.or_eq_true,decide_eq_true_eq,not_or] at h
    split at j
    ·cases j
    ·rename_i h2
     simp only [decide_eq_true_eq] at h2
     cases j
     have:=jl (a:=n) (b:=ix ds (k:Int)) l.1 (by omega)
     omega)
  (fun n _=>by simp only [Zw_L1]; rw [if_neg (by simp)]) 1 ⟨by omega,by omega⟩
 unfold Zw
 rw [this,sG _ _ _ _ _ (by omega) (by omega)]
 simp only [Int.one_mul,Option.bind_some]
 have e:SZ ds↔(∀ d∈ds,1≤d)∧pr ds≤4096:=Iff.rfl
 by_cases h:SZ ds
 ·rw [if_pos (e.1 h),if_pos h]; rfl
 ·rw [if_neg (fun g=>h (e.2 g)),if_neg h]
theorem gB {ds:List Int}(a:ds.length<b'):Zo ds=some (decide (eG ds)):=by
 unfold Zo
 by_cases h:ds.length≤6
 ·have e:decide ((ds.length:Int)≤6)=true:=by simp; omega
  rw [e]
  simp only [bQ,jp a,cond_true,Option.bind_some,Bool.true_and]
  congr 1
  by_cases g:SZ ds
  ·have:=g.pos; simp [g,eG,h]; omega
  ·simp [g,eG]
 ·have e:decide ((ds.length:Int)≤6)=false:=by simp; omega
  rw [e]
  simp [bQ,eG,h]
theorem gV {ds:List Int}(q:ds.length<b'):Zd ds=some (decide (eG ds)):=by
 have:=j0 (S:=Int) ds (fun _ n=>1≤n∧n≤4096) (fun s:Int×Int=>Zd_L1 ds s.1 s.2) (fun n i=>(n,i)) (fun (s:Int) (_:Nat) (x:Int)=>if (decide (x<1)||decide (x>4096))=true then .inr (.inl false) else if decide (s*x>4096)=true then .inr (.inl false) else .inl (s*x)) (fun n=>.inr ())
  (fun n k l m=>by
   simp only [Zd_L1]
   rw [if_pos (by simp; omega),if_pos (by omega)]
   split
   ·rfl
   ·rename_i h
    simp only [Bool.or_eq_true,decide_eq_true_eq,not_or] at h
    rw [iz (by omega) (by omega) (by omega) (by omega),bW (by omega)]
    split<;>rfl)
  (fun n k s l m j=>by
   split at j
   ·cases j
   ·rename_i h
    simp only [Bool.or_eq_true,decide_eq_true_eq,not_or] at h
    split at j
    ·cases j
    ·rename_i h2
     simp only [decide_eq_true_eq] at h2
     cases j
     have:=jl (a:=n) (b:=ix ds (k:Int)) l.1 (by omega)
     omega)
  (fun n _=>by simp only [Zd_L1]; rw [if_neg (by simp)]) 1 ⟨by omega,by omega⟩
 unfold Zd
 rw [this,sG _ _ _ _ _ (by omega) (by omega)]
 simp only [Int.one_mul,Option.bind_some]
 have e:SZ ds↔(∀ d∈ds,1≤d)∧pr ds≤4096:=Iff.rfl
 by_cases h:SZ ds
 ·rw [if_pos (e.1 h)]
  simp only [Zd_J1]
  congr 1
  simp [eG,h]; omega
 ·rw [if_neg (fun g=>h (e.2 g))]
  simp [eG,h]
theorem l6 {ds:List Int}(g:ds.length<b')(h:SZ ds):Zn ds=some (pr ds):=by
 have:=j0 (S:=Int) ds (fun k n=>n=pr (ds.take k)) (fun s:Int×Int=>Zn_L1 ds s.1 s.2) (fun n i=>(n,i)) (fun (s:Int) (_:Nat) (x:Int)=>.inl (s*x)) (fun n=>n)
  (fun n k e a=>by
   simp only [Zn_L1]
   have h1:=(h.take k)
   have h2:=h1.pos
   have j:=h.mem (bE a)
   rw [if_pos (by simp; omega),if_pos (by omega),iz (by omega) (by have:=h1.2; omega) (by omega) (by omega),bW (by omega)])
  (fun n k s e a b=>by
   simp only [Sum.inl.injEq] at b
   rw [← b,e,List.take_succ_eq_append_getElem a,mw,bS a]
   simp [pr])
  (fun n _=>by simp only [Zn_L1]; rw [if_neg (by simp)]) 1 rfl
 unfold Zn
 rw [this,uy]
 simp [Zn_J1]
def gW:List Int→Int→List Int
 | [],_=>[]
 | d::ds,k=>(k / pr ds) % d::gW ds k
def lV:List Int→List Int→Int
 | d::ds,i::is=>i*pr ds+lV ds is
 | _,_=>0
def IV:List Int→List Int→Prop
 | [],[]=>True
 | d::ds,i::is=>(0≤i∧i<d)∧IV ds is
 | _,_=>False
theorem jr (ds:List Int)(k:Int):(gW ds k).length=ds.length:=by
 induction ds with
 | nil=>rfl
 | cons d ds ih=>simp [gW,ih]
theorem IV.len {ds is:List Int}(h:IV ds is):is.length=ds.length:=by
 induction ds generalizing is with
 | nil=>cases is with
  | nil=>rfl
  | cons=>exact h.elim
 | cons d ds ih=>cases is with
  | nil=>exact h.elim
  | cons i is=>simp [ih h.2]
theorem gX {ds:List Int}(h:∀ d∈ds,1≤d)(k:Int):IV ds (gW ds k):=by
 induction ds with
 | nil=>trivial
 | cons d ds ih =>
  have b:=h d (by simp)
  exact ⟨⟨Int.emod_nonneg _ (by omega),Int.emod_lt_of_pos _ (by omega)⟩,ih fun x a=>h x (by simp [a])⟩
theorem mx {ds is:List Int}(h:∀ d∈ds,1≤d)(e:IV ds is):0≤lV ds is∧lV ds is<pr ds:=by
 induction ds generalizing is with
 | nil=>cases is with
  | nil=>exact ⟨Int.le_refl 0,by decide⟩
  | cons=>exact e.elim
 | cons d ds ih=>cases is with
  | nil=>exact e.elim
  | cons i is =>
   obtain ⟨a,b⟩:=ih (fun x g=>h x (by simp [g])) e.2
   have j:1≤pr ds:=fE fun x g=>h x (by simp [g])
   have l:=Int.mul_nonneg e.1.1 (show 0≤pr ds by omega)
   have h1:(i+1)*pr ds≤d*pr ds:=Int.mul_le_mul_of_nonneg_right (by have:=e.1.2; omega) (by omega)
   rw [Int.add_mul] at h1
   show 0≤i*pr ds+lV ds is∧i*pr ds+lV ds is<d*pr ds
   omega
theorem sH {k p d:Int}(j:1≤p)(r:1≤d):k / (d*p)=k / p / d∧k % (d*p)=k / p % d*p+k % p:=by
 have a:=Int.emod_nonneg k (show p≠0 by omega)
 have b:=Int.emod_lt_of_pos k (show 0<p by omega)
 have c:=Int.emod_nonneg (k / p) (show d≠0 by omega)
 have e:=Int.emod_lt_of_pos (k / p) (show 0<d by omega)
 have h1:=Int.mul_nonneg c (show 0≤p by omega)
 have h2:(k / p % d+1)*p≤d*p:=Int.mul_le_mul_of_nonneg_right (by omega) (by omega)
 rw [Int.add_mul] at h2
 have i:0<d*p:=Int.mul_pos (by omega) (by omega)
 refine (Int.ediv_emod_unique (q:=k / p / d) i).2 ⟨?_,by omega,by omega⟩
 have m:=Int.mul_ediv_add_emod k p
 have h:=Int.mul_ediv_add_emod (k / p) d
 have g:d*p*(k / p / d)=p*(d*(k / p / d)):=by rw [Int.mul_comm d p,Int.mul_assoc]
 have l:p*(k / p)=p*(d*(k / p / d))+p*(k / p % d):=by rw [← Int.mul_add,h]
 rw [g,Int.mul_comm (k / p % d) p]
 omega
theorem uz {ds:List Int}(h:∀ d∈ds,1≤d)(k:Int):lV ds (gW ds k)=k % pr ds:=by
 induction ds generalizing k with
 | nil=>simp [lV,pr,Int.emod_one]
 | cons d ds ih =>
  have e:1≤pr ds:=fE fun x a=>h x (by simp [a])
  have b:=h d (by simp)
  show k / pr ds % d*pr ds+lV ds (gW ds k)=k % (d*pr ds)
  rw [ih fun x a=>h x (by simp [a])]
  exact (sH e b).2.symm
theorem ra {ds:List Int}(h:∀ d∈ds,1≤d){k:Int}(a:0≤k)(h1:k<pr ds):lV ds (gW ds k)=k:=by
 rw [uz h,Int.emod_eq_of_lt a h1]
theorem eC {S R:Type}{f:S→Option (S⊕R)}(st:Nat→S)(n:Nat){r:R}(b:∀ j,j<n→f (st j)=some (.inl (st (j+1))))(g:f (st n)=some (.inr r)){s:S}(e:s=st 0):aR f s=some r:=by
 have a:∀ m j,j+m=n→aR f (st j)=some r:=by
  intro m
  induction m with
  | zero=>intro j h; rw [show j=n by omega]; exact cR g
  | succ m ih=>intro j h; rw [dU (b j (by omega))]; exact ih (j+1) (by omega)
 rw [e]
 exact a n 0 (by omega)
theorem hY {S R:Type}{f:S→Option (S⊕R)}(I:Nat→S→Prop)(n:Nat){Post:R→Prop}(e:∀ j s,j<n→I j s→∃ s',f s=some (.inl s')∧I (j+1) s')(h:∀ s,I n s→∃ r,f s=some (.inr r)∧Post r){s:S}(g:I 0 s):∃ r,aR f s=some r∧Post r:=by
 have b:∀ m j s,j+m=n→I j s→∃ r,aR f s=some r∧Post r:=by
  intro m
  induction m with
  | zero =>
   intro j s i a
   rw [show j=n by omega] at a
   obtain ⟨r,h1,h2⟩:=h s a
   exact ⟨r,cR h1,h2⟩
  | succ m ih =>
   intro j s i a
   obtain ⟨s',h1,h2⟩:=e j s (by omega) a
   rw [dU h1]
   exact ih (j+1) s' (by omega) h2
 exact b n 0 s (by omega) g
structure TOk (dims data:List Int):Prop where
 d:eG dims
 l:(data.length:Int)=pr dims
 x:∀ x∈data,0≤x∧x<2147483647
instance (dims data:List Int):Decidable (TOk dims data):=decidable_of_iff (eG dims∧(data.length:Int)=pr dims∧∀ x∈data,0≤x∧x<2147483647) ⟨fun h=>⟨h.1,h.2.1,h.2.2⟩,fun h=>⟨h.d,h.l,h.x⟩⟩
theorem oK (xs:List Int):(xs.all fun x=>!(decide (x<0)||decide (x≥2147483647)))=decide (∀ x∈xs,0≤x∧x<2147483647):=by
 rw [Bool.eq_iff_iff]
 simp only [List.all_eq_true,decide_eq_true_eq,Bool.not_eq_true',Bool.or_eq_false_iff,decide_eq_false_iff_not]
 exact ⟨fun h x a=>by have:=h x a; omega,fun h x a=>by have:=h x a; omega⟩
theorem sI {t:Tensor}(a:t.Dims.length<b')(j:t.Data.length<b'):Zs t=some (decide (TOk t.Dims t.Data)):=by
 unfold Zs
 rw [gB a]
 by_cases h:eG t.Dims
 ·simp only [h,decide_true,Option.bind_some,bQ,Bool.not_true,Bool.not_false,cond_true,Bool.false_or,jp a,h.2,if_true]
  by_cases e:(t.Data.length:Int)=pr t.Dims
  ·rw [if_neg (by simp [e])]
   have:=eP t.Data (fun s:Int=>Zs_L1 t s) (fun i=>i) (fun x=>!(decide (x<0)||decide (x≥2147483647))) (.inl false) (.inr ())
    (fun k b=>by
     simp only [Zs_L1]
     rw [if_pos (by simp; omega),if_pos (by omega),bW (by omega)]
     cases (decide (ix t.Data (k:Int)<0)||decide (ix t.Data (k:Int)≥2147483647))<;>rfl)
    (by simp only [Zs_L1]; rw [if_neg (by simp)])
   rw [this,oK]
   by_cases g:∀ x∈t.Data,0≤x∧x<2147483647
   ·have:TOk t.Dims t.Data:=⟨h,e,g⟩
    simp only [decide_eq_true g,decide_eq_true this,if_true,Option.bind_some,Zs_J1]
   ·have:¬ TOk t.Dims t.Data:=fun q=>g q.x
    simp only [decide_eq_false g,decide_eq_false this,Bool.false_eq_true,if_false,Option.bind_some]
  ·rw [if_pos (by simp [e])]
   have:¬ TOk t.Dims t.Data:=fun q=>e q.l
   simp [this]
 ·have:¬ TOk t.Dims t.Data:=fun q=>h q.d
  simp [h,this,bQ]
theorem wS {t:Tensor}(a:t.Dims.length<b')(m:t.Data.length<b'):Z2n t=some (decide (TOk t.Dims t.Data)):=by
 unfold Z2n
 rw [gV a]
 by_cases h:eG t.Dims
 ·simp only [h,decide_true,Option.bind_some,bQ,cond_true,Bool.true_and,l6 a h.2]
  by_cases e:(t.Data.length:Int)=pr t.Dims
  ·have:=eP t.Data (fun s:Int=>Z16_L1 t.Data s) (fun i=>i) (fun x=>!(decide (x<0)||decide (x≥2147483647))) (.inl false) (.inr ())
    (fun k j=>by
     simp only [Z16_L1,Z35,Option.bind_some]
     rw [if_pos (by simp; omega),if_pos (by omega),bW (by omega)]
     by_cases c1:ix t.Data (k:Int)<0
     ·have:¬ ix t.Data (k:Int)≥0:=by omega
      simp [c1,this]
     ·have h1:ix t.Data (k:Int)≥0:=by omega
      by_cases c2:ix t.Data (k:Int)<2147483647
      ·have h2:¬ ix t.Data (k:Int)≥2147483647:=by omega
       simp [c1,h1,c2,h2]
      ·have h2:ix t.Data (k:Int)≥2147483647:=by omega
       simp [c1,h1,c2,h2])
    (by simp only [Z16_L1]; rw [if_neg (by simp)])
   simp only [e,beq_self_eq_true,cond_true,Z16,this,oK]
   by_cases g:∀ x∈t.Data,0≤x∧x<2147483647
   ·have:TOk t.Dims t.Data:=⟨h,e,g⟩
    simp only [decide_eq_true g,decide_eq_true this,if_true,Option.bind_some,Z16_J1,Bool.and_self]
   ·have:¬ TOk t.Dims t.Data:=fun q=>g q.x
    simp only [decide_eq_false g,decide_eq_false this,Bool.false_eq_true,if_false,Option.bind_some,Bool.and_false]
  ·have:¬ TOk t.Dims t.Data:=fun q=>e q.l
   have b:((t.Data.length:Int)==pr t.Dims)=false:=by simp [e]
   simp [this,b]
 ·have:¬ TOk t.Dims t.Data:=fun q=>h q.d
  simp [h,this,bQ]
theorem hO {xs:List Int}(h:xs.length≤17592186044416):Zu xs=some xs:=by
 unfold Zu
 rw [if_pos (by simpa using h)]
 simp
theorem hB {xs:List Int}(h:xs.length≤17592186044416):Zp xs=some xs:=by
 unfold Zp; rw [if_pos h]
theorem qo (a b:List Int)(h:a.length=b.length):(List.range a.length).all (fun k=>!(ix a (k:Int) != ix b (k:Int)))=decide (a=b):=by
 rw [Bool.eq_iff_iff]
 simp only [List.all_eq_true,List.mem_range,decide_eq_true_eq,bne,Bool.not_not,beq_iff_eq]
 constructor
 ·intro q
  apply List.ext_getElem h
  intro i h1 h2
  have:=q i h1
  rwa [bS h1,bS h2] at this
 ·rintro rfl k _; rfl
theorem sJ {a b:List Int}(j:a.length<b'):Z02 a b=some (decide (a=b)):=by
 unfold Z02
 by_cases h:a.length=b.length
 ·rw [if_neg (by simp [h])]
  have:=j1 a.length (fun s:Int=>Z02_L1 a b s) (fun i=>i) (fun k=>!(ix a (k:Int) != ix b (k:Int))) (.inl false) (.inr ())
   (fun k g=>by
    simp only [Z02_L1]
    rw [if_pos (by simp; omega),if_pos (by omega),if_pos (by omega),bW (by omega)]
    cases (ix a (k:Int) != ix b (k:Int))<;>rfl)
   (by simp only [Z02_L1]; rw [if_neg (by simp)])
  rw [this,qo a b h]
  by_cases e:a=b<;>simp [e,Z02_J1]
 ·rw [if_pos (by simp; omega)]
  have:a≠b:=fun e=>h (by rw [e])
  simp [this]
theorem uA {a b:List Int}(j:a.length<b'):Z13 a b=some (decide (a=b)):=by
 unfold Z13
 by_cases h:a.length=b.length
 ·rw [if_neg (by simp [h])]
  have:=j1 a.length (fun s:Int=>Z13_L1 a b s) (fun i=>i) (fun k=>!(ix a (k:Int) != ix b (k:Int))) (.inl false) (.inr ())
   (fun k g=>by
    simp only [Z13_L1]
    rw [if_pos (by simp; omega),if_pos (by omega),if_pos (by omega),bW (by omega)]
    cases (ix a (k:Int) != ix b (k:Int))<;>rfl)
   (by simp only [Z13_L1]; rw [if_neg (by simp)])
  rw [this,qo a b h]
  by_cases e:a=b<;>simp [e,Z13_J1]
 ·rw [if_pos (by simp; omega)]
  have:a≠b:=fun e=>h (by rw [e])
  simp [this]
theorem kH {ds:List Int}(h:eG ds):Z0i ds=some ⟨ds,List.replicate (pr ds).toNat 0⟩:=by
 have h1:=h.1
 have h2:=h.2.pos
 have a:=h.2.2
 unfold Z0i
 rw [hO (by omega)]
 simp only [Option.bind_some,jp (ds:=ds) (by unfold b'; omega),h.2,if_true]
 rw [if_pos (by omega)]
theorem js {ds:List Int}{k:Int}(h:eG ds)(b:0≤k)(h1:k≤65536):Zj ds k=some (gW ds k):=by
 have J:=h.1
 unfold Zj
 rw [if_pos (by omega)]
 have:=eC (f:=fun s:Int×List Int×Int=>Zj_L1 ds s.1 s.2.1 s.2.2) (r:=gW ds k)
  (fun j=>(k / pr (ds.drop (ds.length - j)),List.replicate (ds.length - j) 0++gW (ds.drop (ds.length - j)) k,(ds.length:Int) - 1 - j)) ds.length
  (fun j L=>by
   obtain ⟨i,D⟩:∃ i,i=ds.length - (j+1):=⟨_,rfl⟩
   have G:ds.length - j=i+1:=by omega
   have I:(ds.length:Int) - 1 - (j:Int)=(i:Int):=by omega
   have a:i<ds.length:=by omega
   have q:=h.2.mem (bE a)
   have l:=(h.2.drop (i+1)).pos
   have g:ds.drop i=ix ds (i:Int)::ds.drop (i+1):=by rw [List.drop_eq_getElem_cons a,bS a]
   have e:0≤k / pr (ds.drop (i+1)):=Int.ediv_nonneg b (by omega)
   have E:k / pr (ds.drop (i+1))≤65536:=Int.le_trans (Int.ediv_le_self _ b) h1
   simp only [Zj_L1,G,I,← D]
   rw [if_pos (by simp),if_pos (by omega),if_pos (by omega),if_pos (by simp; omega)]
   have m:(k / pr (ds.drop (i+1))).tdiv (ix ds (i:Int))=k / pr (ds.drop i):=by
    rw [Int.tdiv_eq_ediv_of_nonneg e,g]; exact (sH l q.1).1.symm
   have u:(k / pr (ds.drop (i+1))).tmod (ix ds (i:Int))=k / pr (ds.drop (i+1)) % ix ds (i:Int):=Int.tmod_eq_emod_of_nonneg e
   have B:0≤k / pr (ds.drop i):=Int.ediv_nonneg b (by have:=(h.2.drop i).pos; omega)
   have F:k / pr (ds.drop i)≤65536:=Int.le_trans (Int.ediv_le_self _ b) h1
   rw [m,u,bC (by omega) (by omega),bC (by omega) (by omega)]
   congr 4
   ·rw [g,List.set_append_left _ _ (by simp),List.replicate_succ',List.set_append_right _ _ (by simp)]
    simp [gW]
   ·omega)
  (by
   simp only [Zj_L1,Nat.sub_self,List.drop_zero,List.replicate_zero,List.nil_append]
   rw [if_neg (by simp; omega)])
  (s:=(k,List.replicate (ds.length:Int).toNat 0,aH ((ds.length:Int) - 1))) (by
   rw [bC (by omega) (by omega)]
   simp [pr,gW])
 rw [this]
 rfl
theorem oL {ds is:List Int}(h:IV ds is){k:Nat}(g:k<ds.length):IV (ds.take k) (is.take k)∧lV (ds.take (k+1)) (is.take (k+1))=lV (ds.take k) (is.take k)*ix ds (k:Int)+ix is (k:Int):=by
 induction ds generalizing is k with
 | nil=>simp at g
 | cons d ds ih=>cases is with
  | nil=>exact h.elim
  | cons i is =>
   cases k with
   | zero=>simp [IV,lV,pr,ix]
   | succ k =>
    obtain ⟨a,b⟩:=ih h.2 (k:=k) (by simpa using g)
    refine ⟨⟨h.1,a⟩,?_⟩
    have e:k<ds.length:=by simpa using g
    have l:ix (d::ds) ((k+1:Nat):Int)=ix ds (k:Int):=by simp [ix]
    have m:ix (i::is) ((k+1:Nat):Int)=ix is (k:Int):=by simp [ix]
    rw [l,m]
    have j:pr (ds.take (k+1))=pr (ds.take k)*ix ds (k:Int):=by rw [List.take_succ_eq_append_getElem e,mw,bS e]; simp [pr]
    show i*pr (ds.take (k+1))+lV (ds.take (k+1)) (is.take (k+1))=(i*pr (ds.take k)+lV (ds.take k) (is.take k))*ix ds (k:Int)+ix is (k:Int)
    rw [b,j,Int.add_mul,Int.mul_assoc,Int.add_assoc]
theorem nC {ds is:List Int}(h:eG ds)(g:IV ds is):Z0n ds is=some (lV ds is):=by
 have B:=h.1
 have q:=g.len
 unfold Z0n
 have:=eC (f:=fun s:Int×Int=>Z0n_L1 ds is s.1 s.2) (r:=lV ds is) (fun j=>(lV (ds.take j) (is.take j),(j:Int))) ds.length
  (fun j l=>by
   obtain ⟨a,b⟩:=oL g l
   have E:=mx (fun d i=>h.2.1 d (List.mem_of_mem_take i)) a
   have D:=(h.2.take j).2
   have m:=mx (fun d i=>h.2.1 d (List.mem_of_mem_take i)) (ds:=ds.take (j+1)) (is:=is.take (j+1)) (by
    by_cases e:j+1<ds.length
    ·exact (oL g e).1
    ·rw [List.take_of_length_le (by omega),List.take_of_length_le (by omega)]; exact g)
   have u:=(h.2.take (j+1)).2
   have F:=h.2.mem (bE l)
   simp only [Z0n_L1]
   rw [if_pos (by simp; omega),if_pos (by omega),if_pos (by omega),iz (by omega) (by omega) (by omega) (by omega),← b,bC (by omega) (by omega),bW (by unfold b'; omega)])
  (by simp only [Z0n_L1]; rw [if_neg (by simp),List.take_length,List.take_of_length_le (by omega)])
  (s:=(0,0)) (by simp [lV])
 rw [this]
 rfl
theorem n6 {t:Tensor}{is:List Int}(h:TOk t.Dims t.Data)(a:IV t.Dims is):∃ x,Z19 t is=some x∧x∈t.Data:=by
 have g:=mx h.d.2.1 a
 have b:=h.l
 unfold Z19
 rw [nC h.d a]
 simp only [Option.bind_some]
 rw [if_pos (by omega)]
 refine ⟨_,rfl,?_⟩
 have e:(((lV t.Dims is).toNat:Nat):Int)=lV t.Dims is:=by omega
 rw [← e]
 exact bE (by omega)
theorem sK {t:Tensor}{is:List Int}{x:Int}(h:eG t.Dims)(b:(t.Data.length:Int)=pr t.Dims)(a:IV t.Dims is):Z1w t is x=some (t.Data.set (lV t.Dims is).toNat x):=by
 have e:=mx h.2.1 a
 unfold Z1w
 rw [nC h a]
 simp only [Option.bind_some]
 rw [if_pos (by omega)]
def zs (f:Int→Int→Int):List Int→List Int→Int
 | a::xs,b::ys=>f a b+zs f xs ys
 | _,_=>0
theorem kI (f:Int→Int→Int){xs ys:List Int}{j:Nat}(g:j<xs.length)(e:j<ys.length):zs f (xs.take (j+1)) (ys.take (j+1))=zs f (xs.take j) (ys.take j)+f (ix xs (j:Int)) (ix ys (j:Int)):=by
 induction xs generalizing ys j with
 | nil=>simp at g
 | cons a xs ih=>cases ys with
  | nil=>simp at e
  | cons b ys =>
   cases j with
   | zero=>simp [zs,ix]
   | succ j =>
    have h:ix (a::xs) ((j+1:Nat):Int)=ix xs (j:Int):=by simp [ix]
    have i:ix (b::ys) ((j+1:Nat):Int)=ix ys (j:Int):=by simp [ix]
    have:=ih (ys:=ys) (j:=j) (by simpa using g) (by simpa using e)
    rw [h,i]
    simp only [List.take_succ_cons,zs] at this ⊢
    omega
theorem vU (f:Int→Int→Int){xs ys:List Int}{M:Int}(b:xs.length=ys.length)(a:∀ j:Nat,j<xs.length → -M≤f (ix xs (j:Int)) (ix ys (j:Int))∧f (ix xs (j:Int)) (ix ys (j:Int))≤M){j:Nat}(g:j≤xs.length) :
  -(j*M)≤zs f (xs.take j) (ys.take j)∧zs f (xs.take j) (ys.take j)≤j*M:=by
 induction j with
 | zero=>simp [zs]
 | succ j ih =>
  have h1:=ih (by omega)
  have h2:=a j (by omega)
  rw [kI f (by omega) (by omega)]
  have e:((j+1:Nat):Int)*M=(j:Int)*M+M:=by rw [show ((j+1:Nat):Int)=(j:Int)+1 by omega,Int.add_mul]; omega
  rw [e]
  omega
def lw (d s:Int):Int:=if s*(d - 1)<0 then s*(d - 1) else 0
def hw (d s:Int):Int:=if s*(d - 1)>0 then s*(d - 1) else 0
theorem wT {ds is ss:List Int}(g:IV ds is)(h:ss.length=ds.length):zs lw ds ss≤zs (·*·) is ss∧zs (·*·) is ss≤zs hw ds ss:=by
 induction ds generalizing is ss with
 | nil=>cases is with
  | nil=>simp [zs]
  | cons=>exact g.elim
 | cons d ds ih=>cases is with
  | nil=>exact g.elim
  | cons i is=>cases ss with
   | nil=>simp at h
   | cons s ss =>
    obtain ⟨a,b⟩:=ih g.2 (ss:=ss) (by simpa using h)
    have h1:0≤i∧i≤d - 1:=⟨g.1.1,by have:=g.1.2; omega⟩
    have j:lw d s≤i*s∧i*s≤hw d s:=by
     unfold lw hw
     rw [Int.mul_comm i s]
     rcases Int.le_total 0 s with e | e
     ·have l:0≤s*i:=Int.mul_nonneg e h1.1
      have m:s*i≤s*(d - 1):=Int.mul_le_mul_of_nonneg_left h1.2 e
      split<;>split<;>omega
     ·have l:s*i≤0:=Int.mul_nonpos_of_nonpos_of_nonneg e h1.1
      have m:s*(d - 1)≤s*i:=Int.mul_le_mul_of_nonpos_left e h1.2
      split<;>split<;>omega
    simp only [zs]
    omega
structure VG (dims ss:List Int)(off base:Int):Prop where
 d:eG dims
 l:ss.length=dims.length
 b:1≤base∧base≤4096
 o:0≤off∧off<base
 s:∀ s∈ss,-4096≤s∧s≤4096
 lo:0≤off+zs lw dims ss
 hi:off+zs hw dims ss<base
theorem VG.place {a ss:List Int}{b base:Int}(h:VG a ss b base){is:List Int}(e:IV a is):0≤b+zs (·*·) is ss∧b+zs (·*·) is ss<base:=by
 have h1:=wT e h.l
 have h2:=h.lo
 have g:=h.hi
 omega
theorem IV.mem {ds is:List Int}(h:IV ds is){j:Nat}(a:j<is.length):0≤ix is (j:Int)∧ix is (j:Int)<ix ds (j:Int):=by
 induction ds generalizing is j with
 | nil=>cases is with
  | nil=>simp at a
  | cons=>exact h.elim
 | cons d ds ih=>cases is with
  | nil=>exact h.elim
  | cons i is=>cases j with
   | zero=>exact h.1
   | succ j =>
    have b:ix (i::is) ((j+1:Nat):Int)=ix is (j:Int):=by simp [ix]
    have e:ix (d::ds) ((j+1:Nat):Int)=ix ds (j:Int):=by simp [ix]
    rw [b,e]
    exact ih h.2 (by simpa using a)
theorem pn {a b M N:Int}(e:0≤a)(h1:a≤M)(h2 : -N≤b)(i:b≤N)(h:0≤N) : -(M*N)≤a*b∧a*b≤M*N:=by
 have k1:a*b≤a*N:=Int.mul_le_mul_of_nonneg_left i e
 have j:a*N≤M*N:=Int.mul_le_mul_of_nonneg_right h1 h
 have g:a*(-N)≤a*b:=Int.mul_le_mul_of_nonneg_left h2 e
 rw [Int.mul_neg] at g
 omega
theorem hD {α:Type}(xs:List α){l:Int}:sub xs l (xs.length:Int)=xs.drop l.toNat:=by simp [sub]
theorem uB {v:View}{is:List Int}(h:eG v.Dims)(B:v.Strides.length=v.Dims.length)(q:∀ s∈v.Strides,-4096≤s∧s≤4096)(D:0≤v.Offset∧v.Offset≤4096)(g:IV v.Dims is):Z18 v is=some (v.Offset+zs (·*·) is v.Strides):=by
 have m:=g.len
 have u:=h.1
 unfold Z18
 have a:∀ j:Nat,j<is.length → -(4096*4096)≤ix is (j:Int)*ix v.Strides (j:Int)∧ix is (j:Int)*ix v.Strides (j:Int)≤4096*4096:=by
  intro j b
  have h1:=g.mem b
  have h2:=h.2.mem (bE (xs:=v.Dims) (k:=j) (by omega))
  have i:=q _ (bE (xs:=v.Strides) (k:=j) (by omega))
  exact pn h1.1 (by omega) i.1 i.2 (by omega)
 have bd:∀ j,j≤is.length → -(6*(4096*4096))≤zs (·*·) (is.take j) (v.Strides.take j)∧zs (·*·) (is.take j) (v.Strides.take j)≤6*(4096*4096):=by
  intro j b
  have:=vU (·*·) (xs:=is) (ys:=v.Strides) (M:=4096*4096) (by omega) a b
  have e:(j:Int)≤6:=by omega
  have:=Int.mul_le_mul_of_nonneg_right e (show (0:Int)≤4096*4096 by omega)
  omega
 have:=eC (f:=fun s:Int×Int=>Z18_L1 v is s.1 s.2) (r:=v.Offset+zs (·*·) is v.Strides) (fun j=>(v.Offset+zs (·*·) (is.take j) (v.Strides.take j),(j:Int))) is.length
  (fun j b=>by
   have t:=a j b
   have l:=bd (j+1) (by omega)
   have E:=bd j (by omega)
   rw [kI (·*·) b (by omega)] at l
   simp only [Z18_L1]
   rw [if_pos (by simp; omega),if_pos (by omega),if_pos (by omega),bC (n:=ix is (j:Int)*ix v.Strides (j:Int)) (by omega) (by omega),bC (by omega) (by omega),bW (by unfold b'; omega),kI (·*·) b (by omega),Int.add_assoc])
  (by simp only [Z18_L1]; rw [if_neg (by simp),List.take_length,List.take_of_length_le (by omega)])
  (s:=(v.Offset,0)) (by simp [zs])
 rw [this]
 rfl
def n8 (a ss:List Int)(b:Int):List Int:=(List.range (pr a).toNat).map fun k:Nat=>b+zs (·*·) (gW a (k:Int)) ss
theorem qp {v:View}(h:eG v.Dims)(b:v.Strides.length=v.Dims.length)(a:∀ s∈v.Strides,-4096≤s∧s≤4096)(e:0≤v.Offset∧v.Offset≤4096):Z0b v=some (n8 v.Dims v.Strides v.Offset):=by
 have i:=h.1
 have l:=h.2.pos
 have g:=h.2.2
 unfold Z0b
 rw [jp (by unfold b'; omega),if_pos h.2]
 simp only [Option.bind_some]
 have:=eC (f:=fun s:List Int×Int=>Z0b_L1 v (pr v.Dims) s.1 s.2) (r:=n8 v.Dims v.Strides v.Offset) (fun j=>((List.range j).map fun k:Nat=>v.Offset+zs (·*·) (gW v.Dims (k:Int)) v.Strides,(j:Int))) (pr v.Dims).toNat
  (fun j m=>by
   simp only [Z0b_L1]
   rw [if_pos (by simp; omega),js h (by omega) (by omega)]
   simp only [Option.bind_some]
   rw [uB h b a e (gX h.2.1 _)]
   simp only [Option.bind_some]
   rw [if_pos (by simp; omega),bW (by unfold b'; omega),List.range_succ,List.map_append]
   rfl)
  (by simp only [Z0b_L1]; rw [if_neg (by simp; omega)]; rfl)
  (s:=([],0)) rfl
 rw [this]
 rfl
theorem oM (ss:List Int)(h:∀ s∈ss,-4096≤s∧s≤4096):(ss.all fun x=>!(decide (x < -4096)||decide (x>4096)))=true:=by
 rw [List.all_eq_true]
 intro x a
 have:=h x a
 simp; omega
theorem kn {v:View}(h:VG v.Dims v.Strides v.Offset v.Base):Z9 v=some true:=by
 have u:=h.d.1
 have m:=h.l
 have D:=h.b
 have B:=h.o
 unfold Z9
 rw [gB (by unfold b'; omega)]
 simp only [h.d,decide_true,Option.bind_some]
 rw [if_neg (by simp; omega)]
 have j:=eP v.Strides (fun s:Int=>Z9_L1 v s) (fun i=>i) (fun x=>!(decide (x < -4096)||decide (x>4096))) (.inl false) (.inr ())
  (fun k a=>by
   simp only [Z9_L1]
   rw [if_pos (by simp; omega),if_pos (by omega),bW (by unfold b'; omega)]
   cases (decide (ix v.Strides (k:Int) < -4096)||decide (ix v.Strides (k:Int)>4096))<;>rfl)
  (by simp only [Z9_L1]; rw [if_neg (by simp)])
 rw [j,oM _ h.s]
 simp only [if_true,Option.bind_some,Z9_J1]
 rw [qp h.d m h.s ⟨by omega,by omega⟩]
 simp only [Option.bind_some]
 have r:(n8 v.Dims v.Strides v.Offset).length≤4096:=by have:=h.d.2.2; simp [n8]; omega
 have q:=eP (n8 v.Dims v.Strides v.Offset) (fun s:Int=>Z9_L2 v (n8 v.Dims v.Strides v.Offset) s) (fun i=>i) (fun x=>!(decide (x<0)||decide (x≥v.Base))) (.inl false) (.inr ())
  (fun k a=>by
   simp only [Z9_L2]
   rw [if_pos (by simp; omega),if_pos (by omega),bW (by unfold b'; omega)]
   cases (decide (ix (n8 v.Dims v.Strides v.Offset) (k:Int)<0)||decide (ix (n8 v.Dims v.Strides v.Offset) (k:Int)≥v.Base))<;>rfl)
  (by simp only [Z9_L2]; rw [if_neg (by simp)])
 have e:((n8 v.Dims v.Strides v.Offset).all fun x=>!(decide (x<0)||decide (x≥v.Base)))=true:=by
  rw [List.all_eq_true]
  intro x g
  obtain ⟨k,_,rfl⟩:=List.mem_map.1 g
  have:=h.place (gX h.d.2.1 (k:Int))
  simp; omega
 rw [q,e]
 rfl
theorem uC:Z9 ⟨[],[],0,0⟩=some false:=by
 unfold Z9
 rw [gB (by simp [b'])]
 rfl
theorem uD:Zh ⟨[],[],0,0⟩=some false:=by
 unfold Zh
 rw [gV (by simp [b'])]
 rfl
theorem ko {v:View}(h:VG v.Dims v.Strides v.Offset v.Base):Zh v=some true:=by
 have J:=h.d.1
 have L:=h.l
 have Z:=h.b
 have O:=h.o
 unfold Zh
 rw [gV (by unfold b'; omega)]
 simp only [h.d,decide_true,Option.bind_some]
 rw [if_neg (by simp; omega)]
 have a:∀ j:Nat,j<v.Dims.length → -(4096*4096)≤ix v.Strides (j:Int)*(ix v.Dims (j:Int) - 1)∧ix v.Strides (j:Int)*(ix v.Dims (j:Int) - 1)≤4096*4096:=by
  intro j e
  have h2:=h.d.2.mem (bE (xs:=v.Dims) (k:=j) e)
  have i:=h.s _ (bE (xs:=v.Strides) (k:=j) (by omega))
  rw [Int.mul_comm (ix v.Strides (j:Int))]
  exact pn (by omega) (by omega) i.1 i.2 (by omega)
 have bd:∀ (f:Int→Int→Int),(f=lw∨f=hw)→∀ j,j≤v.Dims.length → -(6*(4096*4096))≤zs f (v.Dims.take j) (v.Strides.take j)∧zs f (v.Dims.take j) (v.Strides.take j)≤6*(4096*4096):=by
  intro f D j e
  have:=vU f (xs:=v.Dims) (ys:=v.Strides) (M:=4096*4096) (by omega) (fun j e=>by
   have:=a j e
   rcases D with rfl | rfl
   ·unfold lw; split<;>omega
   ·unfold hw; split<;>omega) e
  have g:(j:Int)≤6:=by omega
  have:=Int.mul_le_mul_of_nonneg_right g (show (0:Int)≤4096*4096 by omega)
  omega
 have:=eC (f:=fun s:Int×Int×Int=>Zh_L1 v s.1 s.2.1 s.2.2) (r:=.inr (v.Offset+zs lw v.Dims v.Strides,v.Offset+zs hw v.Dims v.Strides)) (fun j=>(v.Offset+zs lw (v.Dims.take j) (v.Strides.take j),v.Offset+zs hw (v.Dims.take j) (v.Strides.take j),(j:Int))) v.Dims.length
  (fun j e=>by
   have t:=a j e
   have a0:=bd lw (.inl rfl) j (by omega)
   have U:=bd lw (.inl rfl) (j+1) (by omega)
   have Y:=bd hw (.inr rfl) j (by omega)
   have G:=bd hw (.inr rfl) (j+1) (by omega)
   have E:=kI lw (xs:=v.Dims) (ys:=v.Strides) (j:=j) (by omega) (by omega)
   have B:=kI hw (xs:=v.Dims) (ys:=v.Strides) (j:=j) (by omega) (by omega)
   have T:=h.s _ (bE (xs:=v.Strides) (k:=j) (by omega))
   have I:=h.d.2.mem (bE (xs:=v.Dims) (k:=j) e)
   simp only [Zh_L1]
   rw [if_pos (by simp; omega),if_pos (by omega),if_neg (by simp; omega),if_pos (by omega)]
   have u:aH (ix v.Dims (j:Int) - 1)=ix v.Dims (j:Int) - 1:=bC (by omega) (by omega)
   have F:aH (ix v.Strides (j:Int)*(ix v.Dims (j:Int) - 1))=ix v.Strides (j:Int)*(ix v.Dims (j:Int) - 1):=bC (by omega) (by omega)
   have m:lw (ix v.Dims (j:Int)) (ix v.Strides (j:Int))=if ix v.Strides (j:Int)*(ix v.Dims (j:Int) - 1)<0 then ix v.Strides (j:Int)*(ix v.Dims (j:Int) - 1) else 0:=rfl
   have q:hw (ix v.Dims (j:Int)) (ix v.Strides (j:Int))=if ix v.Strides (j:Int)*(ix v.Dims (j:Int) - 1)>0 then ix v.Strides (j:Int)*(ix v.Dims (j:Int) - 1) else 0:=rfl
   rw [u,F,← m,← q,bC (by omega) (by omega),bC (by omega) (by omega),bW (by unfold b'; omega),E,B,Int.add_assoc,Int.add_assoc])
  (by simp only [Zh_L1]; rw [if_neg (by simp; omega),List.take_length,List.take_of_length_le (by omega)])
  (s:=(v.Offset,v.Offset,0)) (by simp [zs])
 rw [this]
 have:=h.lo
 have:=h.hi
 simp only [Option.bind_some,Zh_J1]
 congr 1
 simp; omega
def rC:List Int→List Int
 | []=>[]
 | _::ds=>pr ds::rC ds
def eK:List Int→List Int
 | []=>[]
 | d::ds=>(if d>1 then pr ds else 0)::eK ds
theorem iA (ds:List Int):(rC ds).length=ds.length:=by
 induction ds with
 | nil=>rfl
 | cons d ds ih=>simp [rC,ih]
theorem dH (ds:List Int):(eK ds).length=ds.length:=by
 induction ds with
 | nil=>rfl
 | cons d ds ih=>simp [eK,ih]
theorem dK {α:Type}[Inhabited α](x:α)(xs:List α)(j:Nat):ix (x::xs) ((j+1:Nat):Int)=ix xs (j:Int):=by simp [ix]
theorem sM {ds:List Int}{j:Nat}(h:j<ds.length):ix (rC ds) (j:Int)=pr (ds.drop (j+1)):=by
 induction ds generalizing j with
 | nil=>simp at h
 | cons d ds ih=>cases j with
  | zero=>rfl
  | succ j=>rw [rC,dK,ih (by simpa using h)]; rfl
theorem po {ds:List Int}{j:Nat}(h:j<ds.length):ix (eK ds) (j:Int)=if ix ds (j:Int)>1 then pr (ds.drop (j+1)) else 0:=by
 induction ds generalizing j with
 | nil=>simp at h
 | cons d ds ih=>cases j with
  | zero=>rfl
  | succ j=>rw [eK,dK,dK,ih (by simpa using h)]; rfl
theorem sN {L xs:List Int}(b:L.length=xs.length){j:Nat}(a:j<xs.length):(L.take j++xs.drop j).set j (ix L (j:Int))=L.take (j+1)++xs.drop (j+1):=by
 rw [bS (by omega),List.set_append_right _ _ (by simp; omega),List.take_succ_eq_append_getElem (by omega)]
 have:j - (L.take j).length=0:=by simp; omega
 rw [this,List.drop_eq_getElem_cons a,List.set_cons_zero,List.append_assoc]
 rfl
theorem qq {L xs:List Int}(b:L.length=xs.length){j:Nat}(a:j<xs.length)(h:ix L (j:Int)=ix xs (j:Int)):L.take j++xs.drop j=L.take (j+1)++xs.drop (j+1):=by
 rw [bS (by omega),bS a] at h
 rw [List.take_succ_eq_append_getElem (by omega),List.drop_eq_getElem_cons a,h]
 simp
theorem fO {ds:List Int}(h:SZ ds):∀ s∈eK ds,0≤s∧s≤4096:=by
 induction ds with
 | nil=>intro s a; cases a
 | cons d ds ih =>
  have e:=h.tail.pos
  have b:=h.tail.2
  refine List.forall_mem_cons.2 ⟨?_,ih h.tail⟩
  split<;>omega
theorem sO {ds:List Int}(h:SZ ds):zs lw ds (eK ds)=0:=by
 induction ds with
 | nil=>rfl
 | cons d ds ih =>
  have a:=h.1 d (by simp)
  have b:=h.tail.pos
  simp only [eK,zs,ih h.tail]
  unfold lw
  split
  ·have:=Int.mul_nonneg (show 0≤pr ds by omega) (show 0≤d - 1 by omega); split<;>omega
  ·simp
theorem jO {ds:List Int}(h:SZ ds):zs hw ds (eK ds)=pr ds - 1:=by
 induction ds with
 | nil=>rfl
 | cons d ds ih =>
  have b:=h.1 d (by simp)
  have a:=h.tail.pos
  simp only [eK,zs,ih h.tail]
  have e:pr (d::ds)=pr ds*(d - 1)+pr ds:=by simp only [pr]; rw [Int.mul_sub,Int.mul_comm (pr ds) d]; omega
  rw [e]
  unfold hw
  by_cases c:d>1
  ·have:0<pr ds*(d - 1):=Int.mul_pos (by omega) (by omega)
   rw [if_pos c,if_pos this]; omega
  ·have:d=1:=by omega
   subst this; simp
theorem sP {ds:List Int}(h:eG ds):VG ds (eK ds) 0 (pr ds):=by
 have e:=h.2.pos
 have a:=h.2.2
 refine ⟨h,dH ds,⟨e,a⟩,⟨by omega,by omega⟩,fun s b=>by have:=fO h.2 s b; omega,?_,?_⟩
 ·rw [sO h.2]; decide
 ·rw [jO h.2]; omega
theorem rb {ds is:List Int}(a:IV ds is):zs (·*·) is (eK ds)=lV ds is:=by
 induction ds generalizing is with
 | nil=>cases is with
  | nil=>rfl
  | cons=>exact a.elim
 | cons d ds ih=>cases is with
  | nil=>exact a.elim
  | cons i is =>
   have:=a.1
   simp only [eK,zs,lV,ih a.2]
   split
   ·rfl
   ·have:i=0:=by omega
    subst this; simp
theorem n9 {ds:List Int}(h:SZ ds):n8 ds (eK ds) 0=(List.range (pr ds).toNat).map fun k:Nat=>(k:Int):=by
 unfold n8
 refine List.map_congr_left fun k a=>?_
 have a:k<(pr ds).toNat:=by simpa using a
 have:=h.pos
 rw [rb (gX h.1 _),ra h.1 (by omega) (by omega)]
 omega
def bV (ds:List Int):View:=⟨ds,eK ds,0,pr ds⟩
def dS:View:=⟨[],[],0,0⟩
theorem uE {ds:List Int}(h:eG ds):Z0h ⟨ds,rC ds,0,pr ds⟩=some (bV ds):=by
 have b:=h.1
 unfold Z0h
 have:=eC (f:=fun s:Int×List Int=>Z0h_L1 ⟨ds,rC ds,0,pr ds⟩ s.1 s.2) (r:=eK ds) (fun j=>((j:Int),(eK ds).take j++(rC ds).drop j)) ds.length
  (fun j a=>by
   have g:=h.2.mem (bE a)
   simp only [Z0h_L1,Z0h_J2]
   rw [if_pos (by simp; omega),if_pos (by omega)]
   by_cases c:ix ds (j:Int)=1
   ·rw [if_pos (by simp [c]),if_pos (by rw [iA]; omega),bW (by unfold b'; omega)]
    have e:=sN (L:=eK ds) (xs:=rC ds) (by rw [dH,iA]) (j:=j) (by rw [iA]; omega)
    rw [po a,if_neg (by omega)] at e
    simp only [Int.toNat_natCast]
    rw [e]
   ·rw [if_neg (by simp [c]),bW (by unfold b'; omega),qq (by rw [dH,iA]) (by rw [iA]; omega) (by rw [po a,sM a,if_pos (by omega)])])
  (by simp only [Z0h_L1]; rw [if_neg (by simp)]; rw [List.take_of_length_le (by rw [dH]; omega),List.drop_of_length_le (by rw [iA]; omega),List.append_nil])
  (s:=(0,rC ds)) (by simp)
 rw [this]
 rfl
theorem k8 {ds:List Int}(h:eG ds):Zy ds=some (bV ds):=by
 have b:=h.1
 unfold Zy
 rw [gB (by unfold b'; omega)]
 simp only [h,decide_true,Option.bind_some,Bool.not_true,Bool.false_eq_true,if_false]
 rw [hO (by omega),jp (by unfold b'; omega),if_pos h.2]
 simp only [Option.bind_some]
 have:=eC (f:=fun s:List Int×Int=>Zy_L1 ds s.1 s.2) (r:=rC ds) (fun j=>((rC ds).take j,(j:Int))) ds.length
  (fun j a=>by
   simp only [Zy_L1]
   rw [if_pos (by simp; omega),bW (by unfold b'; omega),if_pos (by omega),hD,Int.toNat_natCast,jp (by simp [b']; omega),if_pos (h.2.drop (j+1))]
   simp only [Option.bind_some]
   rw [if_pos (by simp; omega),List.take_succ_eq_append_getElem (by rw [iA]; omega),← sM a,bS (by rw [iA]; omega)])
  (by simp only [Zy_L1]; rw [if_neg (by simp),List.take_of_length_le (by rw [iA]; omega)])
  (s:=([],0)) rfl
 rw [this]
 simp only [Option.bind_some,Zy_J1]
 rw [uE h]
 rfl
theorem nD {ds:List Int}(h:eG ds):Z06 ds=some (eK ds):=by
 have E:=h.1
 unfold Z06
 rw [if_pos (by omega)]
 have:=eC (f:=fun s:List Int×Int×Int=>Z06_L1 ds s.1 s.2.1 s.2.2) (r:=eK ds)
  (fun j=>(List.replicate (ds.length - j) 0++eK (ds.drop (ds.length - j)),pr (ds.drop (ds.length - j)),(ds.length:Int) - 1 - j)) ds.length
  (fun j F=>by
   obtain ⟨i,q⟩:∃ i,i=ds.length - (j+1):=⟨_,rfl⟩
   have l:ds.length - j=i+1:=by omega
   have u:(ds.length:Int) - 1 - (j:Int)=(i:Int):=by omega
   have a:i<ds.length:=by omega
   have D:=h.2.mem (bE a)
   have B:=(h.2.drop (i+1)).pos
   have m:=(h.2.drop (i+1)).2
   have b:ds.drop i=ix ds (i:Int)::ds.drop (i+1):=by rw [List.drop_eq_getElem_cons a,bS a]
   have e:pr (ds.drop i)=pr (ds.drop (i+1))*ix ds (i:Int):=by rw [b]; simp [pr,Int.mul_comm]
   simp only [Z06_L1,Z06_J2,l,u,← q]
   rw [if_pos (by simp),if_pos (by omega)]
   have g:aH ((i:Int) - 1)=(ds.length:Int) - 1 - ((j+1:Nat):Int):=by rw [bC (by omega) (by omega)]; omega
   by_cases c:ix ds (i:Int)>1
   ·rw [if_pos (by simp; omega),if_pos (by simp; omega),if_pos (by omega),iz (by omega) (by omega) (by omega) (by omega),← e,g]
    congr 3
    rw [b,List.replicate_succ',List.set_append_left _ _ (by simp),List.set_append_right _ _ (by simp)]
    simp [eK,c]
   ·rw [if_neg (by simp; omega),if_pos (by omega),iz (by omega) (by omega) (by omega) (by omega),← e,g]
    congr 3
    rw [b,List.replicate_succ']
    simp [eK,c])
  (by
   simp only [Z06_L1,Nat.sub_self,List.drop_zero,List.replicate_zero,List.nil_append]
   rw [if_neg (by simp; omega)])
  (s:=(List.replicate (ds.length:Int).toNat 0,1,aH ((ds.length:Int) - 1))) (by
   rw [bC (by omega) (by omega)]
   simp [pr,eK])
 rw [this]
 rfl
theorem kJ {ds:List Int}(h:eG ds):Z2p ds=some (bV ds):=by
 have a:=h.1
 unfold Z2p
 rw [gV (by unfold b'; omega)]
 simp only [h,decide_true,Option.bind_some,Bool.not_true,Bool.false_eq_true,if_false]
 rw [hB (by omega),nD h,l6 (by unfold b'; omega) h.2]
 rfl
def fR (n:Nat):List Int:=List.replicate n 0
def pq:List Int→List Int→Option (List Int)
 | d::ds,i::is=>match pq ds is with
  | some q=>some (i::q)
  | none=>if i+1<d then some ((i+1)::fR ds.length) else none
 | _,_=>none
theorem sQ {ds is:List Int}(h:is.length=ds.length)(d i:Int):pq (ds++[d]) (is++[i])=if i+1<d then some (is++[i+1]) else (pq ds is).map (·++[0]):=by
 induction ds generalizing is with
 | nil=>cases is with
  | nil=>simp [pq,fR]
  | cons=>simp at h
 | cons e ds ih=>cases is with
  | nil=>simp at h
  | cons j is =>
   have:=ih (is:=is) (by simpa using h)
   simp only [List.cons_append,pq,this]
   by_cases c:i+1<d
   ·simp [c]
   ·simp only [c,if_false]
    cases pq ds is with
    | some q=>simp
    | none =>
     simp only [Option.map_none]
     split
     ·simp [fR,List.replicate_succ']
     ·simp
theorem qr {ds:List Int}(h:∀ d∈ds,1≤d){m:Int}(j:m % pr ds=0):gW ds m=fR ds.length:=by
 induction ds generalizing m with
 | nil=>rfl
 | cons d ds ih =>
  have i:1≤pr ds:=fE fun x g=>h x (by simp [g])
  have q:=h d (by simp)
  have e:=(sH (k:=m) i q).2
  have a:=Int.emod_nonneg m (show pr ds≠0 by omega)
  have c:=Int.emod_nonneg (m / pr ds) (show d≠0 by omega)
  have u:m % (d*pr ds)=0:=j
  have b:=Int.mul_nonneg c (show 0≤pr ds by omega)
  have s:=iI c i
  have l:m % pr ds=0:=by omega
  have r:m / pr ds % d=0:=by omega
  simp only [gW,r,ih (fun x g=>h x (by simp [g])) l]
  simp [fR,List.replicate_succ]
theorem qt {ds:List Int}(h:∀ d∈ds,1≤d)(k:Int):pq ds (gW ds k)=if k % pr ds+1<pr ds then some (gW ds (k+1)) else none:=by
 induction ds generalizing k with
 | nil=>simp [pq,pr,Int.emod_one]
 | cons d ds ih =>
  have s:1≤pr ds:=fE fun x j=>h x (by simp [j])
  have B:=h d (by simp)
  have l:∀ x∈ds,1≤x:=fun x j=>h x (by simp [j])
  have e:=(sH (k:=k) s B).2
  have a:=Int.emod_nonneg k (show pr ds≠0 by omega)
  have G:=Int.emod_lt_of_pos k (show 0<pr ds by omega)
  have c:=Int.emod_nonneg (k / pr ds) (show d≠0 by omega)
  have I:=Int.emod_lt_of_pos (k / pr ds) (show 0<d by omega)
  have F:=Int.mul_ediv_add_emod k (pr ds)
  have i:pr (d::ds)=d*pr ds:=rfl
  have b:(k / pr ds % d+1)*pr ds≤d*pr ds:=Int.mul_le_mul_of_nonneg_right (by omega) (by omega)
  rw [Int.add_mul] at b
  simp only [gW,pq,ih l]
  by_cases q:k % pr ds+1<pr ds
  ·have f:=(Int.ediv_emod_unique (a:=k+1) (b:=pr ds) (r:=k % pr ds+1) (q:=k / pr ds) (by omega)).2 ⟨by omega,by omega,by omega⟩
   simp only [if_pos q,f.1]
   rw [if_pos (show k % pr (d::ds)+1<pr (d::ds) by rw [i,e]; omega)]
  ·have J:k % pr ds=pr ds - 1:=by omega
   have f:=(Int.ediv_emod_unique (a:=k+1) (b:=pr ds) (r:=0) (q:=k / pr ds+1) (by omega)).2 ⟨by rw [Int.mul_add]; omega,by omega,by omega⟩
   simp only [if_neg q,f.1]
   by_cases g:k / pr ds % d+1<d
   ·have E:=Int.mul_ediv_add_emod (k / pr ds) d
    have u:=(Int.ediv_emod_unique (a:=k / pr ds+1) (b:=d) (r:=k / pr ds % d+1) (q:=k / pr ds / d) (by omega)).2 ⟨by omega,by omega,by omega⟩
    have m:(k / pr ds % d+2)*pr ds≤d*pr ds:=Int.mul_le_mul_of_nonneg_right (by omega) (by omega)
    rw [Int.add_mul] at m
    rw [if_pos g,if_pos (show k % pr (d::ds)+1<pr (d::ds) by rw [i,e]; omega),u.2,qr l f.2]
   ·have g1:k / pr ds % d=d - 1:=by omega
    have D:k / pr ds % d*pr ds=d*pr ds - pr ds:=by rw [g1,Int.sub_mul]; omega
    rw [if_neg g,if_neg (show ¬ k % pr (d::ds)+1<pr (d::ds) by rw [i,e]; omega)]
theorem wU (f:Int→Int→Int){xs ys:List Int}{j:Nat}{a:Int}(e:j<xs.length)(b:j<ys.length):zs f (xs.set j a) ys=zs f xs ys - f (ix xs (j:Int)) (ix ys (j:Int))+f a (ix ys (j:Int)):=by
 induction xs generalizing ys j with
 | nil=>simp at e
 | cons x xs ih=>cases ys with
  | nil=>simp at b
  | cons y ys=>cases j with
   | zero=>simp [zs,ix]; omega
   | succ j =>
    rw [dK,dK,List.set_cons_succ]
    simp only [zs,ih (ys:=ys) (j:=j) (by simpa using e) (by simpa using b)]
    omega
theorem oN {Y:Type}{YF:Y→Int→Option (Y×Bool)}{ds ss:List Int}{m base:Int}(h:VG ds ss m base){is:List Int}(G:IV ds is):∀ p,p≤ds.length →
  (∀ q,pq (ds.take p) (is.take p)=some q→∃ i:Int,0≤i∧aR (fun s:List Int×Int×Int=>Z05_L2 Y YF ds ss s.1 s.2.1 s.2.2) (is.take p++fR (ds.length - p),m+zs (·*·) (is.take p++fR (ds.length - p)) ss,(p:Int) - 1)=some (q++fR (ds.length - p),m+zs (·*·) (q++fR (ds.length - p)) ss,i)) ∧
  (pq (ds.take p) (is.take p)=none→∃ x y,aR (fun s:List Int×Int×Int=>Z05_L2 Y YF ds ss s.1 s.2.1 s.2.2) (is.take p++fR (ds.length - p),m+zs (·*·) (is.take p++fR (ds.length - p)) ss,(p:Int) - 1)=some (x,y,-1)):=by
 intro p
 have hn:=h.d.1
 have hl:=h.l
 have a5:=G.len
 induction p with
 | zero =>
  intro _
  refine ⟨fun q u=>by simp [pq] at u,fun _=>⟨is.take 0++fR (ds.length - 0),m+zs (·*·) (is.take 0++fR (ds.length - 0)) ss,cR ?_⟩⟩
  simp only [Z05_L2]
  rw [if_neg (by simp)]
  rfl
 | succ p ih =>
  intro F
  obtain ⟨a2,a0⟩:=ih (by omega)
  have hm:=G.mem (j:=p) (by omega)
  have a6:=h.d.2.mem (bE (xs:=ds) (k:=p) (by omega))
  have T:=h.s _ (bE (xs:=ss) (k:=p) (by omega))
  have ti:is.take (p+1)=is.take p++[ix is (p:Int)]:=by rw [List.take_succ_eq_append_getElem (by omega),bS (by omega)]
  have td:ds.take (p+1)=ds.take p++[ix ds (p:Int)]:=by rw [List.take_succ_eq_append_getElem (by omega),bS (by omega)]
  have Z:(is.take p).length=(ds.take p).length:=by simp; omega
  have E:=sQ Z (ix ds (p:Int)) (ix is (p:Int))
  rw [← ti,← td] at E
  obtain ⟨g,r⟩:∃ g,g=is.take (p+1)++fR (ds.length - (p+1)):=⟨_,rfl⟩
  have a1:g.length=ds.length:=by rw [r]; simp [fR]; omega
  have L:ix g (p:Int)=ix is (p:Int):=by
   have a4:p<g.length:=by omega
   rw [bS a4,bS (by omega)]
   subst r
   rw [List.getElem_append_left (by simp; omega)]
   simp
  have B:∀ a:Int,g.set p a=is.take p++a::fR (ds.length - (p+1)):=by
   intro a
   rw [r,ti,List.append_assoc,List.set_append_right _ _ (by simp; omega)]
   have:p - (is.take p).length=0:=by simp; omega
   rw [this]
   rfl
  have O:∀ a:Int,0≤a→a<ix ds (p:Int)→0≤m+zs (·*·) (g.set p a) ss∧m+zs (·*·) (g.set p a) ss≤4096:=by
   intro a h0 h1
   have a3:∀ (ds is:List Int),IV ds is→(∀ d∈ds,1≤d)→∀ p,p<ds.length→0≤a→a<ix ds (p:Int)→IV ds (is.take p++a::fR (ds.length - (p+1))):=by
    intro ds
    induction ds with
    | nil=>intro is _ _ p F; simp at F
    | cons d ds ihd =>
     intro is G D p F h0 h1
     cases is with
     | nil=>exact G.elim
     | cons i is =>
      cases p with
      | zero =>
       refine ⟨⟨h0,h1⟩,?_⟩
       have hz:∀ ds:List Int,(∀ d∈ds,1≤d)→IV ds (fR ds.length):=by
        intro ds
        induction ds with
        | nil=>intro _; trivial
        | cons d ds ihz=>intro F; exact ⟨⟨Int.le_refl 0,by have:=F d (by simp); omega⟩,ihz fun x U=>F x (by simp [U])⟩
       exact hz ds fun x U=>D x (by simp [U])
      | succ p =>
       rw [dK] at h1
       have:=ihd is G.2 (fun x U=>D x (by simp [U])) p (by simpa using F) h0 h1
       refine ⟨G.1,?_⟩
       simpa using this
   have:=h.place (a3 ds is G h.d.2.1 p (by omega) h0 h1)
   have:=h.b
   rw [B]
   omega
  have I:=fun a=>wU (·*·) (xs:=g) (ys:=ss) (j:=p) (a:=a) (by omega) (by omega)
  rw [L] at I
  have b0:=O (ix is (p:Int)) hm.1 hm.2
  have e0:g.set p (ix is (p:Int))=g:=by rw [B,r,ti]; simp
  rw [e0] at b0
  have J:Z05_L2 Y YF ds ss g (m+zs (·*·) g ss) ((p+1:Nat) - 1:Int)=if ix is (p:Int)+1<ix ds (p:Int) then some (.inr (g.set p (ix is (p:Int)+1),m+zs (·*·) (g.set p (ix is (p:Int)+1)) ss,(p:Int))) else some (.inl (g.set p 0,m+zs (·*·) (g.set p 0) ss,(p:Int) - 1)):=by
   have ep:((p+1:Nat) - 1:Int)=(p:Int):=by omega
   have w1:aH (ix is (p:Int)+1)=ix is (p:Int)+1:=bC (by omega) (by omega)
   have w2:aH (m+zs (·*·) g ss+ix ss (p:Int))=m+zs (·*·) g ss+ix ss (p:Int):=bC (by omega) (by omega)
   have mb:=pn (a:=ix ds (p:Int)) (b:=ix ss (p:Int)) (M:=4096) (N:=4096) (by omega) (by omega) T.1 T.2 (by omega)
   rw [Int.mul_comm (ix ds (p:Int))] at mb
   have w3:aH (ix ss (p:Int)*ix ds (p:Int))=ix ss (p:Int)*ix ds (p:Int):=bC (by omega) (by omega)
   have e1:ix (g.set p (ix is (p:Int)+1)) (p:Int)=ix is (p:Int)+1:=by rw [bS (by simp; omega)]; simp
   rw [ep]
   simp only [Z05_L2,Int.toNat_natCast,L,w1,w2,w3,e1]
   rw [if_pos (by simp),if_pos (by simp; omega),if_pos (by omega),if_pos (by omega)]
   by_cases c:ix is (p:Int)+1<ix ds (p:Int)
   ·rw [if_pos (by simpa using c),if_pos c,I (ix is (p:Int)+1),Int.add_mul]
    congr 4
    omega
   ·rw [if_neg (by simpa using c),if_neg c]
    have em:ix ss (p:Int)*ix ds (p:Int)=ix is (p:Int)*ix ss (p:Int)+ix ss (p:Int):=by
     rw [show ix ds (p:Int)=ix is (p:Int)+1 by omega,Int.mul_add,Int.mul_comm]; omega
    have bz:=O 0 (by omega) (by omega)
    have z0:=I 0
    simp only [Int.zero_mul] at z0
    rw [nm,Option.bind_some,List.set_set,bC (by omega) (by omega),bC (by omega) (by omega),z0]
    congr 4
    omega
  rw [← r]
  by_cases c:ix is (p:Int)+1<ix ds (p:Int)
  ·rw [if_pos c] at J E
   refine ⟨fun q u=>⟨(p:Int),by omega,?_⟩,fun u=>by rw [E] at u; cases u⟩
   rw [E] at u
   cases u
   rw [cR J,B]
   simp
  ·rw [if_neg c] at J E
   have e2:g.set p 0=is.take p++fR (ds.length - p):=by
    rw [B,show ds.length - p=(ds.length - (p+1))+1 by omega]; rfl
   rw [e2] at J
   rw [dU J]
   refine ⟨fun q u=>?_,fun u=>a0 (by rw [E] at u; simpa using u)⟩
   rw [E] at u
   cases e:pq (ds.take p) (is.take p) with
   | none=>rw [e] at u; cases u
   | some q' =>
    rw [e] at u
    cases u
    obtain ⟨i,h1,h2⟩:=a2 q' e
    refine ⟨i,h1,?_⟩
    rw [h2]
    have:fR (ds.length - p)=0::fR (ds.length - (p+1)):=by rw [show ds.length - p=(ds.length - (p+1))+1 by omega]; rfl
    rw [this]
    simp
theorem re {g:Type}{YF:g→Int→Option (g×Bool)}{ds ss:List Int}{b base:Int}(h:VG ds ss b base)(I:Nat→g→Prop)
  (u:∀ (k:Nat) y,(k:Int)<pr ds→I k y→∃ a,YF y (b+zs (·*·) (gW ds (k:Int)) ss)=some (a,true)∧I (k+1) a) {y:g} (G:I 0 y) :
  ∃ a,Z05 g YF y ds b ss=some a∧I (pr ds).toNat a:=by
 have M:=h.d.1
 have L:=h.d.2.pos
 unfold Z05
 rw [if_pos (by omega)]
 have r:∀ m k y,k+1+m=(pr ds).toNat→I k y→∃ a,aR (fun s:List Int×Int×g=>Z05_L1 g YF ds ss s.1 s.2.1 s.2.2) (gW ds (k:Int),b+zs (·*·) (gW ds (k:Int)) ss,y)=some a∧I (pr ds).toNat a:=by
  intro m
  induction m with
  | zero =>
   intro k y D q
   obtain ⟨a,h1,h2⟩:=u k y (by omega) q
   obtain ⟨_,l⟩:=oN (YF:=YF) h (gX h.d.2.1 (k:Int)) ds.length (Nat.le_refl _)
   rw [List.take_length,List.take_of_length_le (by rw [jr]; omega),Nat.sub_self] at l
   have e:pq ds (gW ds (k:Int))=none:=by
    rw [qt h.d.2.1,Int.emod_eq_of_lt (by omega) (by omega),if_neg (by omega)]
   obtain ⟨x,z,j⟩:=l e
   refine ⟨a,cR ?_,by rw [show (pr ds).toNat=k+1 by omega]; exact h2⟩
   simp only [Z05_L1,h1,Option.bind_some,Bool.not_true,Bool.false_eq_true,if_false]
   rw [bC (by omega) (by omega)]
   simp only [fR,List.replicate_zero,List.append_nil] at j
   rw [j]
   rfl
  | succ m ih =>
   intro k y D q
   obtain ⟨a,h1,h2⟩:=u k y (by omega) q
   obtain ⟨l,_⟩:=oN (YF:=YF) h (gX h.d.2.1 (k:Int)) ds.length (Nat.le_refl _)
   rw [List.take_length,List.take_of_length_le (by rw [jr]; omega),Nat.sub_self] at l
   have e:pq ds (gW ds (k:Int))=some (gW ds ((k:Int)+1)):=by
    rw [qt h.d.2.1,Int.emod_eq_of_lt (by omega) (by omega),if_pos (by omega)]
   obtain ⟨i,O,j⟩:=l _ e
   have E:(k:Int)+1=((k+1:Nat):Int):=by omega
   have B:=dU (f:=fun s:List Int×Int×g=>Z05_L1 g YF ds ss s.1 s.2.1 s.2.2) (s:=(gW ds (k:Int),b+zs (·*·) (gW ds (k:Int)) ss,y)) (s':=(gW ds ((k+1:Nat):Int),b+zs (·*·) (gW ds ((k+1:Nat):Int)) ss,a)) (by
    simp only [Z05_L1,h1,Option.bind_some,Bool.not_true,Bool.false_eq_true,if_false]
    rw [bC (by omega) (by omega)]
    simp only [fR,List.replicate_zero,List.append_nil] at j
    rw [j,E]
    simp only [Option.bind_some,Z05_J2]
    rw [if_neg (by simp; omega)])
   rw [B]
   exact ih (k+1) a (by omega) h2
 obtain ⟨a,h1,h2⟩:=r ((pr ds).toNat - 1) 0 y (by omega) G
 refine ⟨a,?_,h2⟩
 have e:gW ds ((0:Nat):Int)=fR ds.length:=qr h.d.2.1 (by simp)
 have F:∀ (n:Nat) (ss:List Int),zs (·*·) (fR n) ss=0:=by
  intro n
  induction n with
  | zero=>intro ss; simp [fR,zs]
  | succ n ihn=>intro ss; cases ss with
   | nil=>simp [fR,zs]
   | cons s ss=>have:=ihn ss; simp only [fR,List.replicate_succ,zs] at this ⊢; rw [this]; simp
 rw [e,F] at h1
 have J:(ds.length:Int).toNat=ds.length:=by omega
 rw [J]
 simp only [Int.add_zero] at h1
 rw [show List.replicate ds.length (0:Int)=fR ds.length from rfl,h1]
 rfl
theorem uF {v:View}(h:VG v.Dims v.Strides v.Offset v.Base):∃ ps,Z2h v=some (v.Dims,ps,true):=by
 have b:=h.d.2.2
 unfold Z2h
 rw [ko h]
 simp only [Option.bind_some,Bool.not_true,Bool.false_eq_true,if_false,Z36]
 obtain ⟨ps,h1,_⟩:=re (YF:=fun (s:List pair) (x:Int)=>Z3u s x) h (fun k (y:List pair)=>y.length=k) (fun k y e a=>by
  simp only [Z3u]
  rw [if_pos (by simp; omega)]
  exact ⟨_,rfl,by simp [a]⟩) (y:=[]) rfl
 exact ⟨ps,by rw [h1]; rfl⟩
def lD:List Int→List Int→Bool
 | a::xs,b::ys=>(a==b||a==1)&&lD xs ys
 | _,_=>true
def nW:List Int→List Int→List Int→List Int
 | a::xs,b::ys,s::ss=>(if a=b then s else 0)::nW xs ys ss
 | _,_,_=>[]
theorem k9 {xs ys ss:List Int}(h1:ys.length=xs.length)(h2:ss.length=xs.length):(nW xs ys ss).length=xs.length:=by
 induction xs generalizing ys ss with
 | nil=>rfl
 | cons a xs ih=>cases ys with
  | nil=>simp at h1
  | cons b ys=>cases ss with
   | nil=>simp at h2
   | cons s ss=>simp only [nW,List.length_cons]; rw [ih (by simpa using h1) (by simpa using h2)]
theorem wV {xs ys ss:List Int}(h1:ys.length=xs.length)(h2:ss.length=xs.length){j:Nat}(e:j<xs.length):ix (nW xs ys ss) (j:Int)=if ix xs (j:Int)=ix ys (j:Int) then ix ss (j:Int) else 0:=by
 induction xs generalizing ys ss j with
 | nil=>simp at e
 | cons a xs ih=>cases ys with
  | nil=>simp at h1
  | cons b ys=>cases ss with
   | nil=>simp at h2
   | cons s ss=>cases j with
    | zero=>rfl
    | succ j=>rw [nW,dK,dK,dK,dK,ih (by simpa using h1) (by simpa using h2) (by simpa using e)]
theorem qu {xs ys:List Int}(h1:ys.length=xs.length)(h:lD xs ys=true){j:Nat}(e:j<xs.length):ix xs (j:Int)=ix ys (j:Int)∨ix xs (j:Int)=1:=by
 induction xs generalizing ys j with
 | nil=>simp at e
 | cons a xs ih=>cases ys with
  | nil=>simp at h1
  | cons b ys =>
   simp only [lD,Bool.and_eq_true,Bool.or_eq_true,beq_iff_eq] at h
   cases j with
   | zero=>exact h.1
   | succ j=>rw [dK,dK]; exact ih (by simpa using h1) h.2 (by simpa using e)
theorem qv {xs ys:List Int}(h1:ys.length=xs.length)(h:lD xs ys=false):∃ m,m<xs.length∧ix xs (m:Int)≠ix ys (m:Int)∧ix xs (m:Int)≠1∧∀ j:Nat,j<m→ix xs (j:Int)=ix ys (j:Int)∨ix xs (j:Int)=1:=by
 induction xs generalizing ys with
 | nil=>simp [lD] at h
 | cons a xs ih=>cases ys with
  | nil=>simp at h1
  | cons b ys =>
   by_cases c:a=b∨a=1
   ·have:lD xs ys=false:=by
     simp only [lD] at h
     rcases c with c | c<;>simpa [c] using h
    obtain ⟨m,l,g,i,r⟩:=ih (by simpa using h1) this
    refine ⟨m+1,by simpa using l,by rw [dK,dK]; exact g,by rw [dK]; exact i,?_⟩
    intro j q
    cases j with
    | zero=>exact c
    | succ j=>rw [dK,dK]; exact r j (by omega)
   ·exact ⟨0,by simp,fun e=>c (.inl e),fun e=>c (.inr e),fun j q=>by omega⟩
theorem sS (f:Int→Int→Int){a b c e:List Int}(h:a.length=b.length):zs f (a++c) (b++e)=zs f a b+zs f c e:=by
 induction a generalizing b with
 | nil=>cases b with
  | nil=>simp [zs]
  | cons=>simp at h
 | cons x a ih=>cases b with
  | nil=>simp at h
  | cons y b=>simp only [List.cons_append,zs,ih (b:=b) (by simpa using h)]; omega
theorem wW (f:Int→Int→Int)(a:∀ d,f d 0=0)(ds:List Int)(n:Nat):zs f ds (fR n)=0:=by
 induction ds generalizing n with
 | nil=>simp [zs]
 | cons d ds ih=>cases n with
  | zero=>simp [fR,zs]
  | succ n=>have:=ih n; simp only [fR,List.replicate_succ,zs,a] at this ⊢; omega
theorem Br (d:Int):hw d 0=0:=by simp [hw]
theorem wX {d s:Int}(b:1≤d)(a:0≤s):lw d s=0:=by
 have:=Int.mul_nonneg a (show 0≤d - 1 by omega)
 unfold lw; split<;>omega
theorem iJ {d s:Int}(b:1≤d)(a:0≤s):hw d s=s*(d - 1):=by
 have:=Int.mul_nonneg a (show 0≤d - 1 by omega)
 unfold hw; split<;>omega
theorem pu {ds ss:List Int}(e:∀ d∈ds,1≤d)(b:∀ s∈ss,0≤s):zs lw ds ss=0:=by
 induction ds generalizing ss with
 | nil=>simp [zs]
 | cons d ds ih=>cases ss with
  | nil=>simp [zs]
  | cons s ss =>
   simp only [zs,wX (e d (by simp)) (b s (by simp)),ih (ss:=ss) (fun x a=>e x (by simp [a])) (fun x a=>b x (by simp [a]))]
   omega
theorem wY {xs ys ss:List Int}(e:∀ d∈xs,1≤d)(l:∀ d∈ys,1≤d)(j:∀ s∈ss,0≤s):zs hw ys (nW xs ys ss)≤zs hw xs ss∧∀ s∈nW xs ys ss,0≤s:=by
 induction xs generalizing ys ss with
 | nil=>cases ys<;>simp [nW,zs]
 | cons a xs ih=>cases ys with
  | nil =>
   refine ⟨?_,by simp [nW]⟩
   have i:∀ (xs ss:List Int),(∀ d∈xs,1≤d)→(∀ s∈ss,0≤s)→0≤zs hw xs ss:=by
    intro xs
    induction xs with
    | nil=>intro ss _ _; simp [zs]
    | cons d ds ihh=>intro ss h1 h2; cases ss with
     | nil=>simp [zs]
     | cons s ss =>
      have:=ihh ss (fun x e=>h1 x (by simp [e])) (fun x e=>h2 x (by simp [e]))
      have q:=iJ (h1 d (by simp)) (h2 s (by simp))
      have r:=Int.mul_nonneg (h2 s (by simp)) (show 0≤d - 1 by have:=h1 d (by simp); omega)
      simp only [zs]; omega
   simpa [zs] using i (a::xs) ss e j
  | cons b ys=>cases ss with
   | nil=>simp [nW,zs]
   | cons s ss =>
    obtain ⟨h1,h2⟩:=ih (ys:=ys) (ss:=ss) (fun x h=>e x (by simp [h])) (fun x h=>l x (by simp [h])) (fun x h=>j x (by simp [h]))
    have m:=e a (by simp)
    have B:=l b (by simp)
    have g:=j s (by simp)
    have u:=iJ m g
    have D:=Int.mul_nonneg g (show 0≤a - 1 by omega)
    refine ⟨?_,?_⟩
    ·simp only [nW,zs]
     split
     ·rename_i c; subst c; omega
     ·rw [Br]; omega
    ·simp only [nW]
     refine List.forall_mem_cons.2 ⟨?_,h2⟩
     split<;>omega
theorem iN {ds:List Int}(h:eG ds):VG (bV ds).Dims (bV ds).Strides (bV ds).Offset (bV ds).Base:=sP h
def jA (ds d:List Int):List Int:=fR (d.length - ds.length)++nW ds (d.drop (d.length - ds.length)) (eK ds)
theorem na {ds d:List Int}(h:eG ds)(u:eG d)(G:ds.length≤d.length):VG d (jA ds d) 0 (pr ds):=by
 have E:=h.2.pos
 have l:=h.2.2
 have m:(d.drop (d.length - ds.length)).length=ds.length:=by simp; omega
 have r:∀ s∈eK ds,0≤s:=fun s g=>(fO h.2 s g).1
 obtain ⟨h1,h2⟩:=wY (ys:=d.drop (d.length - ds.length)) h.2.1 (fun x B=>u.2.1 x (List.mem_of_mem_drop B)) r
 have j:∀ s∈jA ds d,0≤s:=by
  intro s g
  rcases List.mem_append.1 g with g | g
  ·have:=(List.mem_replicate.1 g).2; omega
  ·exact h2 s g
 have F:d=d.take (d.length - ds.length)++d.drop (d.length - ds.length):=(List.take_append_drop _ _).symm
 have D:zs hw d (jA ds d)≤pr ds - 1:=by
  have e:zs hw d (jA ds d)=zs hw (d.take (d.length - ds.length)++d.drop (d.length - ds.length)) (jA ds d):=by rw [List.take_append_drop]
  rw [e,jA,sS _ (by simp [fR]),wW _ Br,← jO h.2]
  omega
 refine ⟨u,by simp only [jA,List.length_append,k9 m (dH ds)]; simp [fR]; omega,⟨E,l⟩,⟨by omega,by omega⟩,?_,?_,by omega⟩
 ·intro s g
  refine ⟨by have:=j s g; omega,?_⟩
  rcases List.mem_append.1 g with g | g
  ·have:=(List.mem_replicate.1 g).2; omega
  ·have q:∀ (xs ys ss:List Int),(∀ s∈ss,s≤4096)→∀ s∈nW xs ys ss,s≤4096:=by
    intro xs
    induction xs with
    | nil=>intro ys ss _ s g; cases ys<;>simp [nW] at g
    | cons a xs ih=>intro ys ss i; cases ys with
     | nil=>simp [nW]
     | cons b ys=>cases ss with
      | nil=>simp [nW]
      | cons t ss =>
       simp only [nW]
       refine List.forall_mem_cons.2 ⟨?_,ih ys ss fun x B=>i x (by simp [B])⟩
       have:=i t (by simp)
       split<;>omega
   exact q _ _ _ (fun s g=>(fO h.2 s g).2) s g
 ·rw [pu u.2.1 j]; omega
theorem lX {ds d:List Int}(b:ds.length≤d.length)(a:d.length≤6){j:Nat}(e:j<ds.length):aH (aH ((d.length:Int) - (ds.length:Int))+(j:Int))=((d.length - ds.length+j:Nat):Int)∧ix d ((d.length - ds.length+j:Nat):Int)=ix (d.drop (d.length - ds.length)) (j:Int):=by
 refine ⟨by rw [bC (n:=(d.length:Int) - ds.length) (by omega) (by omega),bC (by omega) (by omega)]; omega,?_⟩
 rw [bS (by omega),bS (by simp; omega)]
 simp
theorem wZ {ds d:List Int}(e:ds.length≤d.length){j:Nat}(b:j<ds.length):ix (jA ds d) ((d.length - ds.length+j:Nat):Int)=if ix ds (j:Int)=ix (d.drop (d.length - ds.length)) (j:Int) then ix (eK ds) (j:Int) else 0:=by
 have a:(d.drop (d.length - ds.length)).length=ds.length:=by simp; omega
 rw [← wV a (dH ds) b,bS (by simp only [jA,List.length_append,k9 a (dH ds)]; simp [fR]; omega),bS (by rw [k9 a (dH ds)]; omega)]
 simp only [jA]
 rw [List.getElem_append_right (by simp [fR])]
 simp [fR]
theorem nb {ds d:List Int}(h:eG ds)(g:ds.length≤d.length){j:Nat}(i:j<ds.length) :
  (ix ds (j:Int)=ix (d.drop (d.length - ds.length)) (j:Int)→((jA ds d).take (d.length - ds.length+j)++(fR d.length).drop (d.length - ds.length+j)).set (d.length - ds.length+j) (ix (eK ds) (j:Int))=(jA ds d).take (d.length - ds.length+(j+1))++(fR d.length).drop (d.length - ds.length+(j+1))) ∧
  (ix ds (j:Int)≠ix (d.drop (d.length - ds.length)) (j:Int)→(jA ds d).take (d.length - ds.length+j)++(fR d.length).drop (d.length - ds.length+j)=(jA ds d).take (d.length - ds.length+(j+1))++(fR d.length).drop (d.length - ds.length+(j+1))):=by
 have a:(d.drop (d.length - ds.length)).length=ds.length:=by simp; omega
 have b:(jA ds d).length=(fR d.length).length:=by simp only [jA,List.length_append,k9 a (dH ds)]; simp [fR]; omega
 have l:(fR d.length).length=d.length:=by simp [fR]
 have e:=wZ g i
 constructor
 ·intro c
  rw [if_pos c] at e
  have:=sN b (j:=d.length - ds.length+j) (by omega)
  rw [e] at this
  exact this
 ·intro c
  rw [if_neg c] at e
  refine qq b (by omega) ?_
  rw [e,bS (by omega)]
  simp [fR]
theorem sT {ds d:List Int}(h:eG ds)(u:d.length<b'):Z04 (bV ds) d=some (if eG d∧ds.length≤d.length∧lD ds (d.drop (d.length - ds.length))=true then ⟨d,jA ds d,0,pr ds⟩ else dS):=by
 have O:=h.1
 have b:(bV ds).Dims=ds:=rfl
 have q:(bV ds).Strides=eK ds:=rfl
 have E:=dH ds
 unfold Z04
 rw [kn (iN h)]
 simp only [Option.bind_some,bQ,Bool.not_true,Bool.not_false,cond_true,Bool.false_or,gB u]
 by_cases hd:eG d
 ·have i:=hd.1
  simp only [hd,decide_true,Bool.not_true,Bool.false_or,b,true_and]
  by_cases hl:ds.length≤d.length
  ·rw [if_neg (by rw [bC (by omega) (by omega)]; simp; omega),hO (by omega)]
   simp only [Option.bind_some]
   rw [if_pos (by omega)]
   have e:(d.drop (d.length - ds.length)).length=ds.length:=by simp; omega
   have a:∀ j:Nat,j<ds.length→(ix ds (j:Int)=ix (d.drop (d.length - ds.length)) (j:Int)∨ix ds (j:Int)=1)→(fun s:List Int×Int=>Z04_L1 (bV ds) d s.1 s.2) ((jA ds d).take (d.length - ds.length+j)++(fR d.length).drop (d.length - ds.length+j),(j:Int))=some (.inl ((jA ds d).take (d.length - ds.length+(j+1))++(fR d.length).drop (d.length - ds.length+(j+1)),((j+1:Nat):Int))):=by
    intro j g L
    obtain ⟨B,l⟩:=lX (ds:=ds) hl i g
    obtain ⟨F,J⟩:=nb (d:=d) h hl g
    simp only [Z04_L1,Z04_J2,b,q,B,l]
    rw [if_pos (by simp; omega),if_pos (by omega),if_pos (by omega)]
    by_cases c:ix ds (j:Int)=ix (d.drop (d.length - ds.length)) (j:Int)
    ·rw [if_pos (by simp [c]),if_pos (by omega),if_pos (by simp; omega),Int.toNat_natCast,F c,bW (by unfold b'; omega)]
     rfl
    ·rw [if_neg (by simp [c]),if_neg (by simp [L.resolve_left c]),J c,bW (by unfold b'; omega)]
   have D:(List.replicate (d.length:Int).toNat (0:Int),(0:Int))=((jA ds d).take (d.length - ds.length+0)++(fR d.length).drop (d.length - ds.length+0),((0:Nat):Int)):=by
    simp only [jA,Nat.add_zero]
    rw [List.take_append_of_le_length (by simp [fR]),List.take_of_length_le (by simp [fR])]
    simp [fR]
   by_cases c:lD ds (d.drop (d.length - ds.length))=true
   ·have:=eC (f:=fun s:List Int×Int=>Z04_L1 (bV ds) d s.1 s.2) (r:=.inr (jA ds d)) (fun j=>((jA ds d).take (d.length - ds.length+j)++(fR d.length).drop (d.length - ds.length+j),(j:Int))) ds.length
     (fun j g=>a j g (qu e c g))
     (by
      simp only [Z04_L1,b]
      rw [if_neg (by simp),show d.length - ds.length+ds.length=d.length by omega,List.take_of_length_le (by simp only [jA,List.length_append,k9 e (dH ds)]; simp [fR]; omega),List.drop_of_length_le (by simp [fR])]
      simp) D
    rw [this]
    simp [c,hl,Z04_J3]
    exact ⟨rfl,rfl⟩
   ·obtain ⟨m,g1,M,G,I⟩:=qv e (by simpa using c)
    have:=eC (f:=fun s:List Int×Int=>Z04_L1 (bV ds) d s.1 s.2) (r:=.inl dS) (fun j=>((jA ds d).take (d.length - ds.length+j)++(fR d.length).drop (d.length - ds.length+j),(j:Int))) m
     (fun j g=>a j (by omega) (I j g))
     (by
      obtain ⟨B,l⟩:=lX (ds:=ds) hl i g1
      simp only [Z04_L1,b,B,l]
      rw [if_pos (by simp; omega),if_pos (by omega),if_pos (by omega),if_neg (by simp [M]),if_pos (by simp [G])]
      rfl) D
    rw [this]
    simp [c]
  ·rw [if_pos (by rw [bC (by unfold b' at u; omega) (by unfold b' at u; omega)]; simp; omega)]
   simp [hl,dS]
 ·simp [hd,dS]
theorem sU {ds d:List Int}(h:eG ds)(O:d.length<b'):Z2f (bV ds) d=some (if eG d∧ds.length≤d.length∧lD ds (d.drop (d.length - ds.length))=true then ⟨d,jA ds d,0,pr ds⟩ else dS):=by
 have T:=h.1
 have a:(bV ds).Dims=ds:=rfl
 have l:(bV ds).Strides=eK ds:=rfl
 have E:=dH ds
 unfold Z2f Z38
 rw [ko (iN h)]
 simp only [Option.bind_some,Bool.not_true,Bool.false_eq_true,if_false]
 rw [hB (by rw [a]; omega),hB (by rw [l]; omega)]
 simp only [Option.bind_some]
 unfold Z08
 rw [gV O]
 simp only [Option.bind_some]
 by_cases hd:eG d
 ·have i:=hd.1
  simp only [hd,decide_true,Bool.not_true,Bool.false_or,a,true_and]
  by_cases hl:ds.length≤d.length
  ·rw [if_neg (by simp; omega),hB (by omega)]
   simp only [Option.bind_some]
   rw [if_pos (by omega)]
   have e:(d.drop (d.length - ds.length)).length=ds.length:=by simp; omega
   have b:∀ j:Nat,j<ds.length→(ix ds (j:Int)=ix (d.drop (d.length - ds.length)) (j:Int)∨ix ds (j:Int)=1)→(fun s:List Int×Int=>Z08_L1 ⟨ds,(bV ds).Strides,(bV ds).Offset,(bV ds).Base⟩ d (bV ds) d s.1 s.2) ((jA ds d).take (d.length - ds.length+j)++(fR d.length).drop (d.length - ds.length+j),(j:Int))=some (.inl ((jA ds d).take (d.length - ds.length+(j+1))++(fR d.length).drop (d.length - ds.length+(j+1)),((j+1:Nat):Int))):=by
    intro j g L
    obtain ⟨B,u⟩:=lX (ds:=ds) hl i g
    obtain ⟨F,J⟩:=nb (d:=d) h hl g
    simp only [Z08_L1,Z08_J2,a,l,B,u]
    rw [if_pos (by simp; omega),if_pos (by omega),if_pos (by omega)]
    by_cases c:ix ds (j:Int)=ix (d.drop (d.length - ds.length)) (j:Int)
    ·rw [if_pos (by simp [c]),if_pos (by omega),if_pos (by simp; omega),Int.toNat_natCast,F c,bW (by unfold b'; omega)]
     rfl
    ·rw [if_neg (by simp [c]),if_neg (by simp [L.resolve_left c]),J c,bW (by unfold b'; omega)]
   have D:(List.replicate (d.length:Int).toNat (0:Int),(0:Int))=((jA ds d).take (d.length - ds.length+0)++(fR d.length).drop (d.length - ds.length+0),((0:Nat):Int)):=by
    simp only [jA,Nat.add_zero]
    rw [List.take_append_of_le_length (by simp [fR]),List.take_of_length_le (by simp [fR])]
    simp [fR]
   by_cases c:lD ds (d.drop (d.length - ds.length))=true
   ·have:=eC (f:=fun s:List Int×Int=>Z08_L1 ⟨ds,(bV ds).Strides,(bV ds).Offset,(bV ds).Base⟩ d (bV ds) d s.1 s.2) (r:=.inr (jA ds d)) (fun j=>((jA ds d).take (d.length - ds.length+j)++(fR d.length).drop (d.length - ds.length+j),(j:Int))) ds.length
     (fun j g=>b j g (qu e c g))
     (by
      simp only [Z08_L1,a]
      rw [if_neg (by simp),show d.length - ds.length+ds.length=d.length by omega,List.take_of_length_le (by simp only [jA,List.length_append,k9 e (dH ds)]; simp [fR]; omega),List.drop_of_length_le (by simp [fR])]
      simp) D
    rw [this,if_pos ⟨hl,c⟩]
    simp only [Option.bind_some,Z08_J3,bQ,Bool.not_true,Bool.not_false,cond_true]
    rw [ko (v:=⟨d,jA ds d,(bV ds).Offset,(bV ds).Base⟩) (na h hd hl)]
    rfl
   ·obtain ⟨m,g1,M,G,I⟩:=qv e (by simpa using c)
    have:=eC (f:=fun s:List Int×Int=>Z08_L1 ⟨ds,(bV ds).Strides,(bV ds).Offset,(bV ds).Base⟩ d (bV ds) d s.1 s.2) (r:=.inl (false,⟨d,(jA ds d).take (d.length - ds.length+m)++(fR d.length).drop (d.length - ds.length+m),(bV ds).Offset,(bV ds).Base⟩)) (fun j=>((jA ds d).take (d.length - ds.length+j)++(fR d.length).drop (d.length - ds.length+j),(j:Int))) m
     (fun j g=>b j (by omega) (I j g))
     (by
      obtain ⟨B,u⟩:=lX (ds:=ds) hl i g1
      simp only [Z08_L1,a,B,u]
      rw [if_pos (by simp; omega),if_pos (by omega),if_pos (by omega),if_neg (by simp [M]),if_pos (by simp [G])]) D
    rw [this,if_neg (fun q=>c q.2)]
    simp [bQ,dS]
  ·rw [if_pos (by simp; omega),if_neg (fun q=>hl q.1)]
   simp [bQ,dS]
 ·simp [hd,bQ,dS]
theorem sW {v:View}(a:v.Dims.length<b')(h:¬ eG v.Dims):Z9 v=some false:=by
 unfold Z9
 rw [gB a]
 simp [h]
theorem sX {v:View}(a:v.Dims.length<b')(h:¬ eG v.Dims):Zh v=some false:=by
 unfold Zh
 rw [gV a]
 simp [h]
def lE (ds:List Int)(a fr c st:Int):Prop:=0≤a∧a<(ds.length:Int)∧1≤c∧c≤4096∧1≤st∧st≤4096∧0≤fr∧fr<ix ds a∧fr+(c - 1)*st<ix ds a
instance (ds:List Int)(a fr c st:Int):Decidable (lE ds a fr c st):=by unfold lE; infer_instance
theorem x0 {xs:List Int}{j:Nat}{a:Int}(h:j<xs.length):ix (xs.set j a) (j:Int)=a:=by rw [bS (by simpa using h)]; simp
theorem nE (f:Int→Int→Int){xs ys:List Int}{j:Nat}{a b:Int}(g:j<xs.length)(e:j<ys.length):zs f (xs.set j a) (ys.set j b)=zs f xs ys - f (ix xs (j:Int)) (ix ys (j:Int))+f a b:=by
 induction xs generalizing ys j with
 | nil=>simp at g
 | cons x xs ih=>cases ys with
  | nil=>simp at e
  | cons y ys=>cases j with
   | zero=>simp [zs,ix]; omega
   | succ j =>
    rw [dK,dK,List.set_cons_succ,List.set_cons_succ]
    simp only [zs,ih (ys:=ys) (j:=j) (by simpa using g) (by simpa using e)]
    omega
theorem x5 {ds:List Int}(h:∀ d∈ds,1≤d){j:Nat}(g:j<ds.length){c:Int}(h1:1≤c)(h2:c≤ix ds (j:Int)):pr (ds.set j c)≤pr ds∧∀ d∈ds.set j c,1≤d:=by
 induction ds generalizing j with
 | nil=>simp at g
 | cons d ds ih =>
  have l:1≤pr ds:=fE fun x e=>h x (by simp [e])
  cases j with
  | zero =>
   have h2:c≤d:=h2
   refine ⟨Int.mul_le_mul_of_nonneg_right h2 (by omega),List.forall_mem_cons.2 ⟨h1,fun x e=>h x (by simp [e])⟩⟩
  | succ j =>
   rw [dK] at h2
   obtain ⟨a,b⟩:=ih (fun x e=>h x (by simp [e])) (by simpa using g) h2
   have i:=h d (by simp)
   exact ⟨Int.mul_le_mul_of_nonneg_left a (by omega),List.forall_mem_cons.2 ⟨i,b⟩⟩
theorem iK {xs:List Int}{j:Nat}{a:Int}{P:Int→Prop}(h:∀ x∈xs,P x)(e:P a):∀ x∈xs.set j a,P x:=by
 intro x b
 rcases List.mem_or_eq_of_mem_set b with b | rfl
 ·exact h x b
 ·exact e
theorem x7 {ds:List Int}(h:eG ds){j:Nat}(u:j<ds.length){fr c st:Int}(Y:1≤c)(F:0≤st)(T:0≤fr)(hl:fr+(c - 1)*st<ix ds (j:Int))(J:c≤ix ds (j:Int))(L:c=1→st=0) :
  VG (ds.set j c) ((eK ds).set j (ix (eK ds) (j:Int)*st)) (0+fr*ix (eK ds) (j:Int)) (pr ds):=by
 have hp:=h.2.pos
 have U:=h.2.2
 obtain ⟨q1,Z⟩:=x5 h.2.1 u Y J
 have hm:=h.2.mem (bE u)
 have G:=dH ds
 have D:=fO h.2 _ (bE (xs:=eK ds) (k:=j) (by omega))
 obtain ⟨s,q⟩:∃ s,s=ix (eK ds) (j:Int):=⟨_,rfl⟩
 rw [← q] at D ⊢
 have l:∀ x∈eK ds,0≤x∧x≤4096:=fO h.2
 have E:=jO h.2
 have k0:0≤(c - 1)*st:=Int.mul_nonneg (by omega) F
 have k1:s*(fr+(c - 1)*st)≤s*(ix ds (j:Int) - 1):=Int.mul_le_mul_of_nonneg_left (by omega) D.1
 have k2:s*(fr+(c - 1)*st)=fr*s+s*st*(c - 1):=by rw [Int.mul_add,Int.mul_comm s fr,Int.mul_comm (c - 1) st,Int.mul_assoc]
 have I:0≤s*st:=Int.mul_nonneg D.1 F
 have k4:0≤fr*s:=Int.mul_nonneg T D.1
 have k5:=iJ hm.1 D.1
 have k6:=iJ Y I
 have z:=nE hw (xs:=ds) (ys:=eK ds) (a:=c) (b:=s*st) u (by omega)
 rw [← q,k5,k6] at z
 have k7:0≤s*st*(c - 1):=Int.mul_nonneg I (by omega)
 -- what the axis alone may come to
 have a1:s*(ix ds (j:Int) - 1)≤pr ds - 1:=by
  have hz:∀ (xs ys:List Int),(∀ d∈xs,1≤d)→(∀ y∈ys,0≤y)→∀ j:Nat,j<xs.length→j<ys.length→ix ys (j:Int)*(ix xs (j:Int) - 1)≤zs hw xs ys∧0≤zs hw xs ys:=by
   intro xs
   induction xs with
   | nil=>intro ys _ _ j u; simp at u
   | cons x xs ih =>
    intro ys i r j O B
    cases ys with
    | nil=>simp at B
    | cons y ys =>
     have e:=iJ (i x (by simp)) (r y (by simp))
     have e0:=Int.mul_nonneg (r y (by simp)) (show 0≤x - 1 by have:=i x (by simp); omega)
     have nn:∀ (xs ys:List Int),(∀ d∈xs,1≤d)→(∀ y∈ys,0≤y)→0≤zs hw xs ys:=by
      intro xs
      induction xs with
      | nil=>intro ys _ _; simp [zs]
      | cons d ds ihh=>intro ss h1 h2; cases ss with
       | nil=>simp [zs]
       | cons s ss =>
        have:=ihh ss (fun x i=>h1 x (by simp [i])) (fun x i=>h2 x (by simp [i]))
        have h3:=iJ (h1 d (by simp)) (h2 s (by simp))
        have h4:=Int.mul_nonneg (h2 s (by simp)) (show 0≤d - 1 by have:=h1 d (by simp); omega)
        simp only [zs]; omega
     have n1:=nn xs ys (fun d m=>i d (by simp [m])) (fun d m=>r d (by simp [m]))
     cases j with
     | zero =>
      simp only [zs,e]
      show y*(x - 1)≤_∧_
      omega
     | succ j =>
      rw [dK,dK]
      have:=ih ys (fun d m=>i d (by simp [m])) (fun d m=>r d (by simp [m])) j (by simpa using O) (by simpa using B)
      simp only [zs,e]
      omega
  have:=(hz ds (eK ds) h.2.1 (fun y r=>(l y r).1) j u (by omega)).1
  rw [E,← q] at this
  exact this
 have a0:s*st≤4096:=by
  by_cases g:c=1
  ·rw [L g]; omega
  ·have:s*st*1≤s*st*(c - 1):=Int.mul_le_mul_of_nonneg_left (by omega) I
   omega
 have M:SZ (ds.set j c):=⟨Z,by omega⟩
 refine ⟨⟨by simpa using h.1,M⟩,by simp [G],⟨hp,U⟩,⟨by omega,by omega⟩,?_,?_,by omega⟩
 ·exact iK (fun x i=>by have:=l x i; omega) (by omega)
 ·rw [pu Z (iK (fun x i=>(l x i).1) I)]; omega
def j3 (ds:List Int)(a fr c st:Int):View:=⟨ds.set a.toNat c,(eK ds).set a.toNat (if c=1 then 0 else ix (eK ds) a*st),fr*ix (eK ds) a,pr ds⟩
theorem uG {ds:List Int}{a fr c st:Int}(h:lE ds a fr c st):c≤ix ds a∧0≤(c - 1)*st∧(c - 1)*st≤4096*4096:=by
 obtain ⟨h1,h2,m,l,e,g,q,i,j⟩:=h
 have:=iI (a:=c - 1) (b:=st) (by omega) e
 have k:=Int.mul_le_mul (show c - 1≤4096 by omega) g (by omega) (show (0:Int)≤4096 by omega)
 exact ⟨by omega,by omega,k⟩
theorem nG {ds:List Int}(h:eG ds){a fr c st:Int}(g:lE ds a fr c st):VG (j3 ds a fr c st).Dims (j3 ds a fr c st).Strides (j3 ds a fr c st).Offset (j3 ds a fr c st).Base:=by
 obtain ⟨l,u,D⟩:=uG g
 obtain ⟨h1,h2,q,s,B,E,i,r,m⟩:=g
 obtain ⟨j,rfl⟩:=Int.eq_ofNat_of_zero_le h1
 have b:fr+(c - 1)*(if c=1 then 0 else st)<ix ds (j:Int):=by
  split
  ·omega
  ·exact m
 have:=x7 h (j:=j) (by omega) (fr:=fr) (c:=c) (st:=if c=1 then 0 else st) q (by split<;>omega) i b l (fun e=>by simp [e])
 have e:ix (eK ds) (j:Int)*(if c=1 then 0 else st)=if c=1 then 0 else ix (eK ds) (j:Int)*st:=by split<;>simp
 rw [e,Int.zero_add] at this
 exact this
theorem sY {ds:List Int}(h:eG ds)(a:Int):Z29 (bV ds) a=some (decide (0≤a∧a<(ds.length:Int))):=by
 unfold Z29
 rw [kn (iN h)]
 simp only [Option.bind_some,Bool.true_and]
 congr 1
 rw [Bool.eq_iff_iff]
 simp [bV]
 exact fun _=>decide_eq_true_iff
theorem uH {ds:List Int}(h:eG ds){a fr c st:Int}(D:1≤st):Z1c (bV ds) a fr c st=some (if lE ds a fr c st then j3 ds a fr c st else dS):=by
 have Y:=h.1
 have O:=dH ds
 have b:(bV ds).Dims=ds:=rfl
 unfold Z1c
 rw [sY h]
 simp only [Option.bind_some,b]
 by_cases g:(0≤a∧a<(ds.length:Int))∧1≤c∧c≤4096∧st≤4096∧0≤fr
 ·obtain ⟨g1,I,G,r,F⟩:=g
  obtain ⟨j,rfl⟩:=Int.eq_ofNat_of_zero_le g1.1
  have L:j<ds.length:=by omega
  have U:=h.2.mem (bE L)
  have l:=fO h.2 _ (bE (xs:=eK ds) (k:=j) (by omega))
  have m:(((((!decide (0≤(j:Int)∧(j:Int)<(ds.length:Int))||decide (c<1))||decide (c>4096))||decide (st < -4096))||decide (st>4096))||decide (fr<0))=false:=by simp; omega
  rw [if_pos (fun _=>g1),m,Bool.false_or]
  by_cases g6:fr<ix ds (j:Int)
  ·rw [if_neg (by simp; omega)]
   have k0:0≤(c - 1)*st:=Int.mul_nonneg (by omega) (by omega)
   have k1:=Int.mul_le_mul (show c - 1≤4096 by omega) r (by omega) (show (0:Int)≤4096 by omega)
   have e:aH (fr+aH (aH (c - 1)*st))=fr+(c - 1)*st:=by
    rw [bC (n:=c - 1) (by omega) (by omega),bC (n:=(c - 1)*st) (by omega) (by omega),bC (by omega) (by omega)]
   rw [e,if_pos (fun _=>g1)]
   by_cases g7:fr+(c - 1)*st<ix ds (j:Int)
   ·have E:lE ds (j:Int) fr c st:=⟨g1.1,g1.2,I,G,D,r,F,g6,g7⟩
    have M:=nG h E
    rw [if_neg (by simp; omega),if_pos E]
    unfold Z2b
    rw [hO (by rw [b]; omega),hO (by show (eK ds).length≤_; omega)]
    simp only [Option.bind_some,nm]
    have u:(bV ds).Strides=eK ds:=rfl
    have J:(bV ds).Offset=0:=rfl
    have B:(bV ds).Base=pr ds:=rfl
    simp only [u,J,B,b]
    rw [if_pos (by omega),if_pos (by omega)]
    have f1:0≤fr*ix (eK ds) (j:Int):=Int.mul_nonneg F l.1
    have T:=Int.mul_le_mul (show fr≤4096 by omega) l.2 l.1 (show (0:Int)≤4096 by omega)
    have f3:0≤ix (eK ds) (j:Int)*st:=Int.mul_nonneg l.1 (by omega)
    have Z:=Int.mul_le_mul l.2 r (by omega) (show (0:Int)≤4096 by omega)
    rw [bC (n:=ix (eK ds) (j:Int)*st) (by omega) (by omega)]
    have i:∀ x:List Int,x=(j3 ds (j:Int) fr c st).Strides→Z1c_J1 (j:Int) fr c ⟨ds,eK ds,0,pr ds⟩ x=some (j3 ds (j:Int) fr c st):=by
     rintro x rfl
     have s:(⟨ds.set (j:Int).toNat c,(j3 ds (j:Int) fr c st).Strides,0+fr*ix (eK ds) (j:Int),pr ds⟩:View)=j3 ds (j:Int) fr c st:=by simp [j3]
     simp only [Z1c_J1]
     rw [bC (n:=fr*ix (eK ds) (j:Int)) (by omega) (by omega),bC (by omega) (by omega),s]
     unfold Z2c
     rw [kn M]
     rfl
    by_cases g8:c=1
    ·rw [if_pos (by simp [g8])]
     exact i _ (by simp [j3,g8])
    ·rw [if_neg (by simp [g8])]
     exact i _ (by simp [j3,g8])
   ·rw [if_pos (by simp; omega),if_neg (fun q=>g7 q.2.2.2.2.2.2.2.2)]
    rfl
  ·rw [if_pos (by simp; omega),if_neg (fun q=>g6 q.2.2.2.2.2.2.2.1)]
   rfl
 ·have m:(((((!decide (0≤a∧a<(ds.length:Int))||decide (c<1))||decide (c>4096))||decide (st < -4096))||decide (st>4096))||decide (fr<0))=true:=by
   simp only [Bool.or_eq_true,Bool.not_eq_true',decide_eq_true_eq,decide_eq_false_iff_not]
   omega
  rw [if_pos (fun q=>by rw [m] at q; cases q),m,if_pos (by simp),if_neg (fun q=>g ⟨⟨q.1,q.2.1⟩,q.2.2.1,q.2.2.2.1,q.2.2.2.2.2.1,q.2.2.2.2.2.2.1⟩)]
  rfl
theorem sZ {v:View}{j:Nat}(e:j<v.Dims.length)(b:j<v.Strides.length)(a s:Int):Z11 v (j:Int) a s=some ⟨v.Dims.set j a,v.Strides.set j (if a=1 then 0 else s),v.Offset,v.Base⟩:=by
 unfold Z11
 by_cases g:a=1
 ·rw [if_pos (by simp [g])]
  simp only [Z11_J3]
  rw [if_pos (by omega),if_pos (by omega),if_pos g,Int.toNat_natCast]
 ·rw [if_neg (by simp [g])]
  simp only [Z11_J3]
  rw [if_pos (by omega),if_pos (by omega),if_neg g,Int.toNat_natCast]
theorem uI {ds:List Int}(h:eG ds){a fr c st:Int}(u:1≤st):Z2e (bV ds) a fr c st=some (if lE ds a fr c st then j3 ds a fr c st else dS):=by
 have O:=h.1
 have J:=dH ds
 have i:(bV ds).Dims=ds:=rfl
 have r:(bV ds).Strides=eK ds:=rfl
 have I:(bV ds).Offset=0:=rfl
 have D:(bV ds).Base=pr ds:=rfl
 unfold Z2e Z37
 rw [ko (iN h)]
 simp only [Option.bind_some,Bool.not_true,Bool.false_eq_true,if_false]
 rw [hB (by rw [i]; omega),hB (by rw [r]; omega)]
 simp only [Option.bind_some,i,r,I,D]
 unfold Z1k
 simp only [Zm,Option.bind_some]
 have no:∀ (p:View) (z:Int),((bQ (!(!((false,p,z):Bool×View×Int).1)) (Zh ((false,p,z):Bool×View×Int).2.1)).bind fun r32:Bool=>if ((!((false,p,z):Bool×View×Int).1)||(!r32))=true then some ((⟨[],[],0,0⟩:View),z) else some (p,z))=some (dS,z):=by
  intro p z; simp [bQ,dS]
 by_cases g:(0≤a∧a<(ds.length:Int))∧1≤c∧c≤4096
 ·obtain ⟨g1,F,E⟩:=g
  obtain ⟨j,rfl⟩:=Int.eq_ofNat_of_zero_le g1.1
  have G:j<ds.length:=by omega
  have M:=h.2.mem (bE G)
  have s:=fO h.2 _ (bE (xs:=eK ds) (k:=j) (by omega))
  rw [if_neg (by simp; omega),if_pos g1]
  by_cases g6:st≤4096∧0≤fr∧fr<ix ds (j:Int)
  ·rw [if_neg (by simp; omega)]
   have U:0≤(c - 1)*st:=Int.mul_nonneg (by omega) (by omega)
   have k1:=Int.mul_le_mul (show c - 1≤4096 by omega) g6.1 (by omega) (show (0:Int)≤4096 by omega)
   have e:aH (fr+aH (st*aH (c - 1)))=fr+(c - 1)*st:=by
    rw [bC (n:=c - 1) (by omega) (by omega),Int.mul_comm st,bC (n:=(c - 1)*st) (by omega) (by omega),bC (by omega) (by omega)]
   rw [e]
   have l:∀ z:Int,(z=if c=1 then 0 else st)→lE ds (j:Int) fr c st→Z1k_J3 ⟨ds,eK ds,0,pr ds⟩ (j:Int) c fr z=some (true,j3 ds (j:Int) fr c st,z):=by
    intro z B b
    have f1:0≤fr*ix (eK ds) (j:Int):=Int.mul_nonneg g6.2.1 s.1
    have L:=Int.mul_le_mul (show fr≤4096 by omega) s.2 s.1 (show (0:Int)≤4096 by omega)
    have Y:0≤ix (eK ds) (j:Int)*z:=Int.mul_nonneg s.1 (by rw [B]; split<;>omega)
    have T:=Int.mul_le_mul s.2 (show z≤4096 by rw [B]; split<;>omega) (by rw [B]; split<;>omega) (show (0:Int)≤4096 by omega)
    simp only [Z1k_J3]
    rw [if_pos (by omega),bC (n:=fr*ix (eK ds) (j:Int)) (by omega) (by omega),bC (n:=0+fr*ix (eK ds) (j:Int)) (by omega) (by omega),bC (by omega) (by omega),sZ (by simpa using G) (by simp; omega)]
    simp only [Option.bind_some,j3,Int.toNat_natCast,Int.zero_add]
    congr 5
    rw [B]; split<;>rfl
   have m:∀ z:Int,lE ds (j:Int) fr c st→((bQ (!(!((true,j3 ds (j:Int) fr c st,z):Bool×View×Int).1)) (Zh ((true,j3 ds (j:Int) fr c st,z):Bool×View×Int).2.1)).bind fun r32:Bool=>if ((!((true,j3 ds (j:Int) fr c st,z):Bool×View×Int).1)||(!r32))=true then some ((⟨[],[],0,0⟩:View),z) else some (j3 ds (j:Int) fr c st,z))=some (j3 ds (j:Int) fr c st,z):=by
    intro z b
    simp only [bQ,Bool.not_true,Bool.not_false,cond_true,Bool.false_or]
    rw [ko (nG h b)]
    rfl
   by_cases g8:c=1
   ·have b:lE ds (j:Int) fr c st:=⟨g1.1,g1.2,F,E,u,g6.1,g6.2.1,g6.2.2,by rw [g8]; omega⟩
    rw [if_neg (by simp; omega),l 0 (by simp [g8]) b]
    simp only [Option.bind_some]
    rw [m 0 b,if_pos b]
    rfl
   ·rw [if_pos (by simp; omega)]
    by_cases g7:fr+(c - 1)*st<ix ds (j:Int)
    ·have b:lE ds (j:Int) fr c st:=⟨g1.1,g1.2,F,E,u,g6.1,g6.2.1,g6.2.2,g7⟩
     rw [if_neg (by simp; omega),l st (by simp [g8]) b]
     simp only [Option.bind_some]
     rw [m st b,if_pos b]
     rfl
    ·rw [if_pos (by simp; omega),if_neg (fun q=>g7 q.2.2.2.2.2.2.2.2)]
     simp only [Option.bind_some]
     rw [no]
     rfl
  ·rw [if_pos (by simp; omega),if_neg (fun q=>g6 ⟨q.2.2.2.2.2.1,q.2.2.2.2.2.2.1,q.2.2.2.2.2.2.2.1⟩)]
   simp only [Option.bind_some]
   rw [no]
   rfl
 ·rw [if_pos (by simp; omega),if_neg (fun q=>g ⟨⟨q.1,q.2.1⟩,q.2.2.1,q.2.2.2.1⟩)]
  simp only [Option.bind_some]
  rw [no]
  rfl
def iT (ds:List Int)(a sz st:Int):Int:=(ix ds a - sz) / st+1
def fL (ds:List Int)(a sz st:Int):View:=⟨ds.set a.toNat (iT ds a sz st)++[sz],(eK ds).set a.toNat (if iT ds a sz st=1 then 0 else ix (eK ds) a*st)++[if sz=1 then 0 else ix (eK ds) a],0,pr ds⟩
def lF (ds:List Int)(a sz st:Int):Prop:=0≤a∧a<(ds.length:Int)∧1≤sz∧1≤st∧sz≤ix ds a
instance (ds:List Int)(a sz st:Int):Decidable (lF ds a sz st):=by unfold lF; infer_instance
theorem zO {xs ys:List Int}(b:∀ d∈xs,1≤d)(a:∀ y∈ys,0≤y):0≤zs hw xs ys:=by
 induction xs generalizing ys with
 | nil=>simp [zs]
 | cons d ds ih=>cases ys with
  | nil=>simp [zs]
  | cons s ss =>
   have:=ih (ys:=ss) (fun x h=>b x (by simp [h])) (fun x h=>a x (by simp [h]))
   have g:=iJ (b d (by simp)) (a s (by simp))
   have e:=Int.mul_nonneg (a s (by simp)) (show 0≤d - 1 by have:=b d (by simp); omega)
   simp only [zs]; omega
theorem uJ {ds:List Int}(h:eG ds){j:Nat}(g:j<ds.length):ix (eK ds) (j:Int)*(ix ds (j:Int) - 1)≤pr ds - 1:=by
 have i:=dH ds
 have m:=h.2.mem (bE g)
 have l:=fO h.2 _ (bE (xs:=eK ds) (k:=j) (by omega))
 have z:=nE hw (xs:=ds) (ys:=eK ds) (a:=ix ds (j:Int)) (b:=0) g (by omega)
 have e:ds.set j (ix ds (j:Int))=ds:=by rw [bS g]; simp
 rw [e,Br,iJ m.1 l.1,jO h.2] at z
 have:=zO (xs:=ds) (ys:=(eK ds).set j 0) h.2.1 (iK (fun x q=>(fO h.2 x q).1) (by omega))
 omega
theorem nH {ds:List Int}{a sz st:Int}(h:lF ds a sz st):1≤iT ds a sz st∧iT ds a sz st≤ix ds a∧(iT ds a sz st - 1)*st≤ix ds a - sz:=by
 obtain ⟨h1,h2,j,e,i⟩:=h
 unfold iT
 have b:0≤(ix ds a - sz) / st:=Int.ediv_nonneg (by omega) (by omega)
 have g:(ix ds a - sz) / st≤ix ds a - sz:=Int.ediv_le_self _ (by omega)
 have a3:=Int.ediv_mul_le (ix ds a - sz) (show st≠0 by omega)
 refine ⟨by omega,by omega,?_⟩
 rw [show (ix ds a - sz) / st+1 - 1=(ix ds a - sz) / st by omega]
 exact a3
theorem pw {ds:List Int}(h:eG ds){a sz st:Int}(B:lF ds a sz st)(I:eG (fL ds a sz st).Dims):VG (fL ds a sz st).Dims (fL ds a sz st).Strides (fL ds a sz st).Offset (fL ds a sz st).Base:=by
 obtain ⟨O,n2,n3⟩:=nH B
 obtain ⟨h1,h2,h3,h4,h5⟩:=B
 obtain ⟨j,rfl⟩:=Int.eq_ofNat_of_zero_le h1
 have G:j<ds.length:=by omega
 have l:=dH ds
 have U:=h.2.mem (bE G)
 have u:=fO h.2 _ (bE (xs:=eK ds) (k:=j) (by omega))
 have ax:=uJ h G
 have hp:=h.2.pos
 have J:=h.2.2
 have D:=jO h.2
 obtain ⟨n,L⟩:∃ n,n=iT ds (j:Int) sz st:=⟨_,rfl⟩
 obtain ⟨s,r⟩:∃ s,s=ix (eK ds) (j:Int):=⟨_,rfl⟩
 have T:(fL ds (j:Int) sz st).Dims=ds.set j n++[sz]:=by rw [L]; simp [fL]
 have e2:(fL ds (j:Int) sz st).Strides=(eK ds).set j (if n=1 then 0 else s*st)++[if sz=1 then 0 else s]:=by rw [L,r]; simp [fL]
 rw [← L] at O n2 n3
 rw [← r] at u ax
 rw [T] at I
 have k0:0≤(n - 1)*st:=Int.mul_nonneg (by omega) (by omega)
 have M:0≤s*st:=Int.mul_nonneg u.1 (by omega)
 have Z:s*((n - 1)*st)=s*st*(n - 1):=by rw [Int.mul_comm (n - 1) st,Int.mul_assoc]
 have Y:s*((n - 1)*st+(sz - 1))≤s*(ix ds (j:Int) - 1):=Int.mul_le_mul_of_nonneg_left (by omega) u.1
 rw [Int.mul_add,Z] at Y
 have k6:0≤s*(sz - 1):=Int.mul_nonneg u.1 (by omega)
 have k7:0≤s*st*(n - 1):=Int.mul_nonneg M (by omega)
 obtain ⟨i,q⟩:∃ i,i=if n=1 then 0 else s*st:=⟨_,rfl⟩
 obtain ⟨g,m⟩:∃ g,g=if sz=1 then 0 else s:=⟨_,rfl⟩
 have E:0≤i∧i≤4096∧i*(n - 1)=s*st*(n - 1):=by
  by_cases c:n=1
  ·rw [q,if_pos c,c]; simp
  ·rw [q,if_neg c]
   have:s*st*1≤s*st*(n - 1):=Int.mul_le_mul_of_nonneg_left (by omega) M
   omega
 have F:0≤g∧g≤4096∧g*(sz - 1)=s*(sz - 1):=by
  by_cases c:sz=1
  ·rw [m,if_pos c,c]; simp
  ·rw [m,if_neg c]; omega
 have z:=nE hw (xs:=ds) (ys:=eK ds) (a:=n) (b:=i) G (by omega)
 rw [← r,iJ U.1 u.1,iJ O E.1,D,E.2.2] at z
 have z2:zs hw (ds.set j n++[sz]) ((eK ds).set j i++[g])=zs hw (ds.set j n) ((eK ds).set j i)+s*(sz - 1):=by
  rw [sS _ (by simp [l])]
  have:zs hw [sz] [g]=hw sz g:=by simp [zs]
  rw [this,iJ h3 F.1,F.2.2]
 have nn:∀ x∈(eK ds).set j i++[g],0≤x∧x≤4096:=by
  intro x e
  rcases List.mem_append.1 e with e | e
  ·exact iK (fun x e=>fO h.2 x e) ⟨E.1,E.2.1⟩ x e
  ·have:x=g:=by simpa using e
   subst this; exact ⟨F.1,F.2.1⟩
 rw [T,e2,← q,← m]
 refine ⟨I,by simp [l],⟨hp,J⟩,⟨Int.le_refl 0,by show 0<pr ds; omega⟩,fun x e=>by have:=nn x e; omega,?_,?_⟩
 ·rw [pu I.2.1 fun x e=>(nn x e).1]; show (0:Int)≤0+0; decide
 ·show 0+_<pr ds
  omega
theorem rf {ds:List Int}(h:eG ds){a sz st:Int}:Z0e (bV ds) a sz st=some (if lF ds a sz st∧eG (fL ds a sz st).Dims then fL ds a sz st else dS):=by
 have hn:=h.1
 have I:=dH ds
 have i:(bV ds).Dims=ds:=rfl
 have b:(bV ds).Strides=eK ds:=rfl
 have E:(bV ds).Offset=0:=rfl
 have s:(bV ds).Base=pr ds:=rfl
 unfold Z0e
 rw [sY h]
 simp only [Option.bind_some,i,b]
 by_cases g:(0≤a∧a<(ds.length:Int))∧1≤sz∧1≤st
 ·obtain ⟨g1,O,L⟩:=g
  have l:((!decide (0≤a∧a<(ds.length:Int))||decide (sz<1))||decide (st<1))=false:=by simp; omega
  rw [if_pos (fun _=>g1),l,Bool.false_or]
  by_cases g6:sz≤ix ds a
  ·have r:lF ds a sz st:=⟨g1.1,g1.2,O,L,g6⟩
   obtain ⟨T,M,n3⟩:=nH r
   obtain ⟨j,rfl⟩:=Int.eq_ofNat_of_zero_le g1.1
   have F:j<ds.length:=by omega
   have U:=h.2.mem (bE F)
   have u:=fO h.2 _ (bE (xs:=eK ds) (k:=j) (by omega))
   rw [if_neg (by simp; omega)]
   unfold Z2b
   rw [hO (by rw [i]; omega),hO (by rw [b]; omega)]
   simp only [Option.bind_some,nm,i,b,E,s]
   have e:aH (aH ((aH (ix ds (j:Int) - sz)).tdiv st)+1)=iT ds (j:Int) sz st:=by
    rw [bC (n:=ix ds (j:Int) - sz) (by omega) (by omega),Int.tdiv_eq_ediv_of_nonneg (by omega)]
    unfold iT at T M ⊢
    rw [bC (n:=(ix ds (j:Int) - sz) / st) (by omega) (by omega),bC (by omega) (by omega)]
   simp only [e]
   rw [if_pos (by omega),if_pos (by omega),if_pos (by omega),if_pos (by omega),if_pos (by omega)]
   have B:∀ x:List Int,x++[if sz=1 then 0 else ix (eK ds) (j:Int)]=(fL ds (j:Int) sz st).Strides→x.length=ds.length→Z0e_J1 (bV ds) (j:Int) sz ⟨ds,eK ds,0,pr ds⟩ (ds.set (j:Int).toNat (iT ds (j:Int) sz st)) x=some (if lF ds (j:Int) sz st∧eG (fL ds (j:Int) sz st).Dims then fL ds (j:Int) sz st else dS):=by
    intro x J G
    have D:∀ y,y=(if sz=1 then 0 else ix (eK ds) (j:Int))→Z0e_J2 sz ⟨ds,eK ds,0,pr ds⟩ (ds.set (j:Int).toNat (iT ds (j:Int) sz st)) x y=some (if lF ds (j:Int) sz st∧eG (fL ds (j:Int) sz st).Dims then fL ds (j:Int) sz st else dS):=by
     rintro y rfl
     simp only [Z0e_J2]
     rw [if_pos (by simp; omega),J]
     have m:(⟨ds.set (j:Int).toNat (iT ds (j:Int) sz st)++[sz],(fL ds (j:Int) sz st).Strides,0,pr ds⟩:View)=fL ds (j:Int) sz st:=rfl
     rw [m]
     unfold Z2c
     by_cases q:eG (fL ds (j:Int) sz st).Dims
     ·rw [kn (pw h r q),if_pos ⟨r,q⟩]
      rfl
     ·rw [sW (by simp [fL,b']; omega) q,if_neg (fun z=>q z.2)]
      rfl
    simp only [Z0e_J1]
    rw [if_pos (by simp; omega)]
    by_cases q:sz=1
    ·rw [if_pos (by simp [q])]; exact D _ (by simp [q])
    ·rw [if_neg (by simp [q])]; exact D _ (by simp [q,b])
   by_cases q:iT ds (j:Int) sz st=1
   ·rw [if_neg (by simp; omega)]
    exact B _ (by simp [fL,q]) (by simp; omega)
   ·have k:(iT ds (j:Int) sz st - 1)*st≤4096:=by omega
    have Y:1*st≤(iT ds (j:Int) sz st - 1)*st:=Int.mul_le_mul_of_nonneg_right (by omega) (by omega)
    have f3:0≤ix (eK ds) (j:Int)*st:=Int.mul_nonneg u.1 (by omega)
    have Z:=Int.mul_le_mul u.2 (show st≤4096 by omega) (by omega) (show (0:Int)≤4096 by omega)
    rw [if_pos (by simp; omega),bC (n:=ix (eK ds) (j:Int)*st) (by omega) (by omega),List.set_set]
    exact B _ (by simp [fL,q]) (by simp; omega)
  ·rw [if_pos (by simp; omega),if_neg (fun q=>g6 q.1.2.2.2.2)]
   rfl
 ·have l:((!decide (0≤a∧a<(ds.length:Int))||decide (sz<1))||decide (st<1))=true:=by
   simp only [Bool.or_eq_true,Bool.not_eq_true',decide_eq_true_eq,decide_eq_false_iff_not]
   omega
  rw [if_pos (fun q=>by rw [l] at q; cases q),l,if_pos (by simp),if_neg (fun q=>g ⟨⟨q.1.1,q.1.2.1⟩,q.1.2.2.1,q.1.2.2.2.1⟩)]
  rfl
theorem zP {v:View}(i:v.Dims.length≤6)(b:v.Strides.length=v.Dims.length)(a s:Int):Z2o v a s=some ⟨v.Dims++[a],v.Strides++[if a=1 then 0 else s],v.Offset,v.Base⟩:=by
 unfold Z2o
 rw [if_pos (by simp; omega),if_pos (by simp; omega)]
 have e:aH (((v.Dims++[(0:Int)]).length:Int) - 1)=(v.Dims.length:Int):=by
  have:((v.Dims++[(0:Int)]).length:Int)=v.Dims.length+1:=by simp
  rw [this,bC (by omega) (by omega)]; omega
 rw [e,sZ (by simp) (by simp; omega)]
 simp only [Option.bind_some]
 have g:(v.Dims++[0]).set v.Dims.length a=v.Dims++[a]:=by rw [List.set_append_right _ _ (Nat.le_refl _)]; simp
 have h:∀ x:Int,(v.Strides++[0]).set v.Dims.length x=v.Strides++[x]:=by intro x; rw [← b,List.set_append_right _ _ (Nat.le_refl _)]; simp
 rw [g,h]
theorem rh {ds:List Int}(h:eG ds){a sz st:Int}:Z2g (bV ds) a sz st=some (if lF ds a sz st∧eG (fL ds a sz st).Dims then fL ds a sz st else dS):=by
 have hn:=h.1
 have I:=dH ds
 have i:(bV ds).Dims=ds:=rfl
 have m:(bV ds).Strides=eK ds:=rfl
 have T:(bV ds).Offset=0:=rfl
 have r:(bV ds).Base=pr ds:=rfl
 unfold Z2g Z39
 rw [ko (iN h)]
 simp only [Option.bind_some,Bool.not_true,Bool.false_eq_true,if_false]
 rw [hB (by rw [i]; omega),hB (by rw [m]; omega)]
 simp only [Option.bind_some,i,m,T,r]
 unfold Z1l
 simp only [Zm,Option.bind_some]
 by_cases g:(0≤a∧a<(ds.length:Int))∧1≤sz∧1≤st
 ·obtain ⟨g1,O,J⟩:=g
  rw [if_pos (fun _=>g1)]
  by_cases g6:sz≤ix ds a
  ·have u:lF ds a sz st:=⟨g1.1,g1.2,O,J,g6⟩
   obtain ⟨L,M,n3⟩:=nH u
   obtain ⟨j,rfl⟩:=Int.eq_ofNat_of_zero_le g1.1
   have G:j<ds.length:=by omega
   have U:=h.2.mem (bE G)
   have D:=fO h.2 _ (bE (xs:=eK ds) (k:=j) (by omega))
   rw [if_neg (by simp; omega),if_pos (by omega),if_pos g1,if_pos (by omega)]
   have e:aH (aH ((aH (ix ds (j:Int) - sz)).tdiv st)+1)=iT ds (j:Int) sz st:=by
    rw [bC (n:=ix ds (j:Int) - sz) (by omega) (by omega),Int.tdiv_eq_ediv_of_nonneg (by omega)]
    unfold iT at L M ⊢
    rw [bC (n:=(ix ds (j:Int) - sz) / st) (by omega) (by omega),bC (by omega) (by omega)]
   have F:∀ z:Int,(z=if iT ds (j:Int) sz st=1 then 0 else st)→Z1l_J3 ⟨ds,eK ds,0,pr ds⟩ (j:Int) sz st z=some (true,fL ds (j:Int) sz st,z):=by
    intro z s
    have b:0≤z∧z≤4096:=by
     by_cases q:iT ds (j:Int) sz st=1
     ·rw [s,if_pos q]; omega
     ·have Y:1*st≤(iT ds (j:Int) sz st - 1)*st:=Int.mul_le_mul_of_nonneg_right (by omega) (by omega)
      rw [s,if_neg q]; omega
    have Z:0≤ix (eK ds) (j:Int)*z:=Int.mul_nonneg D.1 b.1
    have f4:=Int.mul_le_mul D.2 b.2 b.1 (show (0:Int)≤4096 by omega)
    simp only [Z1l_J3,e]
    rw [bC (by omega) (by omega),sZ (by simpa using G) (by simp; omega)]
    simp only [Option.bind_some]
    rw [zP (by simp; omega) (by simp; omega)]
    simp only [Option.bind_some,fL,Int.toNat_natCast]
    congr 6
    rw [s]; split<;>rfl
   have l:∀ z:Int,(bQ (!(!((true,fL ds (j:Int) sz st,z):Bool×View×Int).1)) (Zh ((true,fL ds (j:Int) sz st,z):Bool×View×Int).2.1)).bind (fun B:Bool=>if ((!((true,fL ds (j:Int) sz st,z):Bool×View×Int).1)||(!B))=true then some ((⟨[],[],0,0⟩:View),z) else some (fL ds (j:Int) sz st,z))=some ((if lF ds (j:Int) sz st∧eG (fL ds (j:Int) sz st).Dims then fL ds (j:Int) sz st else dS),z):=by
    intro z
    simp only [bQ,Bool.not_true,Bool.not_false,cond_true,Bool.false_or]
    by_cases q:eG (fL ds (j:Int) sz st).Dims
    ·rw [ko (pw h u q),if_pos ⟨u,q⟩]
     rfl
    ·rw [sX (by simp [fL,b']; omega) q,if_neg (fun z=>q z.2)]
     rfl
   rw [e]
   by_cases q:iT ds (j:Int) sz st=1
   ·rw [if_pos (by simp [q]),F 0 (by simp [q])]
    simp only [Option.bind_some]
    rw [l]
    rfl
   ·rw [if_neg (by simp [q]),F st (by simp [q])]
    simp only [Option.bind_some]
    rw [l]
    rfl
  ·rw [if_pos (by simp; omega),if_neg (fun q=>g6 q.1.2.2.2.2)]
   simp [bQ,dS]
 ·have E:(((!(decide (a≥0)&&decide (a<(ds.length:Int))))||decide (sz<1))||decide (st<1))=true:=by
   simp only [Bool.or_eq_true,Bool.not_eq_true',decide_eq_true_eq,Bool.and_eq_false_iff,decide_eq_false_iff_not]
   omega
  rw [if_pos (fun q=>by rw [E] at q; cases q),E,if_pos (by simp),if_neg (fun q=>g ⟨⟨q.1.1,q.1.2.1⟩,q.1.2.2.1,q.1.2.2.2.1⟩)]
  simp [bQ,dS]
def NR (x:Int):Prop:=0≤x∧x<2147483647
instance (x:Int):Decidable (NR x):=by unfold NR; infer_instance
def RG (n:Nat)(x:List Int):Prop:=x.length=n∧∀ y∈x,NR y
theorem RG.set {n:Nat}{x:List Int}(h:RG n x){y:Int}(a:NR y)(k:Nat):RG n (x.set k y):=⟨by simp [h.1],iK h.2 a⟩
theorem RG.rep (n:Nat):RG n (List.replicate n 0):=⟨by simp,fun y a=>by rw [(List.mem_replicate.1 a).2]; decide⟩
theorem RG.ix {n:Nat}{x:List Int}(h:RG n x){i:Int}(a:0≤i)(h1:i<(n:Int)):NR (ix x i):=by
 obtain ⟨k,rfl⟩:=Int.eq_ofNat_of_zero_le a
 exact h.2 _ (bE (by have:=h.1; omega))
theorem kK {R:Type}{f:List Int×Int→Option ((List Int×Int)⊕R)}{Post:R→Prop}(m n:Nat)(e:∀ j:Nat,j<n→∀ x,RG m x→∃ x',f (x,(j:Int))=some (.inl (x',((j+1:Nat):Int)))∧RG m x')(h:∀ x,RG m x→∃ r,f (x,(n:Int))=some (.inr r)∧Post r){x:List Int}(g:RG m x):∃ r,aR f (x,0)=some r∧Post r :=
 hY (f:=f) (fun j s=>s.2=(j:Int)∧RG m s.1) n (fun j s l a=>by
  obtain ⟨x,i⟩:=s
  obtain ⟨rfl,b⟩:=a
  obtain ⟨x',h1,h2⟩:=e j l x b
  exact ⟨_,h1,rfl,h2⟩) (fun s a=>by
  obtain ⟨x,i⟩:=s
  obtain ⟨rfl,b⟩:=a
  exact h x b) (s:=(x,0)) ⟨rfl,g⟩
theorem jB (p:Int):∃ m,Zq p=some m∧NR m:=by
 have h1:=Int.tmod_lt_of_pos p (show (0:Int)<2147483647 by omega)
 have h2 : -2147483647<p.tmod 2147483647:=by
  rcases Int.le_total 0 p with h | h
  ·have:=Int.tmod_nonneg 2147483647 h; omega
  ·have e:p.tmod 2147483647 = -((-p).tmod 2147483647):=by rw [Int.neg_tmod]; omega
   have:=Int.tmod_lt_of_pos (-p) (show (0:Int)<2147483647 by omega)
   omega
 unfold Zq
 by_cases c:p.tmod 2147483647<0
 ·rw [if_pos (by simpa using c)]
  exact ⟨_,rfl,by rw [bC (by omega) (by omega)]; constructor<;>omega⟩
 ·rw [if_neg (by simpa using c)]
  exact ⟨_,rfl,by constructor<;>omega⟩
theorem jP (p:Int):∃ m,Z1g p=some m:=by
 obtain ⟨m,h,_⟩:=jB p
 unfold Z1g
 rw [h]
 simp only [Option.bind_some]
 split<;>exact ⟨_,rfl⟩
theorem nI (a b:Int):∃ m,Z1o a b=some m∧NR m:=by
 obtain ⟨x,h1,_⟩:=jB a
 obtain ⟨y,h2,_⟩:=jB b
 obtain ⟨z,g,e⟩:=jB (aH (x+y))
 exact ⟨z,by unfold Z1o; simp [h1,h2,g],e⟩
theorem qw (a b:Int):∃ m,Z28 a b=some m∧NR m:=by
 obtain ⟨x,h1,_⟩:=jB a
 obtain ⟨y,h2,_⟩:=jB b
 obtain ⟨z,g,e⟩:=jB (aH (x - y))
 exact ⟨z,by unfold Z28; simp [h1,h2,g],e⟩
theorem lY (a b:Int):∃ m,Z1h a b=some m∧NR m:=by
 obtain ⟨x,h1,_⟩:=jB a
 obtain ⟨y,h2,_⟩:=jB b
 obtain ⟨z,g,e⟩:=jB (aH (x*y))
 exact ⟨z,by unfold Z1h; simp [h1,h2,g],e⟩
theorem uK (a:Int):∀ (f:Nat) (n:Int),0≤n→n<2 ^ f→n≤1099511627776→∃ m,Zt_R (f+1) a n=some m∧NR m:=by
 intro f
 induction f with
 | zero =>
  intro n b h1 _
  have:n=0:=by simp at h1; omega
  subst this
  exact ⟨1,rfl,by decide⟩
 | succ f ih =>
  intro n b h1 q
  show ∃ m,Zt_S (Zt_R (f+1)) a n=some m∧NR m
  unfold Zt_S
  by_cases c:n=0
  ·rw [if_pos (by simp [c])]; exact ⟨1,rfl,by decide⟩
  ·rw [if_neg (by simp [c])]
   have e:n.tdiv 2=n / 2:=Int.tdiv_eq_ediv_of_nonneg b
   have h2:n / 2<2 ^ f:=by rw [Int.pow_succ] at h1; omega
   rw [e,bC (by omega) (by omega)]
   obtain ⟨x,g1,l⟩:=ih (n / 2) (by omega) h2 (by omega)
   obtain ⟨y,g,h⟩:=lY x x
   obtain ⟨z,i,j⟩:=lY y a
   rw [g1]
   simp only [Option.bind_some,g]
   split
   ·simp only [i,Option.bind_some]; exact ⟨z,rfl,j⟩
   ·exact ⟨y,rfl,h⟩
theorem ri (a:Int):∃ m,Z27 a=some m∧NR m:=by
 obtain ⟨x,h1,_⟩:=jB a
 unfold Z27 Zt
 rw [h1]
 simp only [Option.bind_some]
 obtain ⟨y,h2,b⟩:=uK x 31 2147483645 (by omega) (by decide) (by omega)
 have mono:∀ f g:Nat,∀ n m,f≤g→Zt_R f x n=some m→Zt_R g x n=some m:=by
  intro f
  induction f with
  | zero=>intro g n m _ h; cases h
  | succ f ih =>
   intro g n m i h
   obtain ⟨g,rfl⟩:∃ k,g=k+1:=⟨g - 1,by omega⟩
   change Zt_S (Zt_R f) x n=some m at h
   show Zt_S (Zt_R g) x n=some m
   unfold Zt_S at h ⊢
   split
   ·rename_i c; rw [if_pos c] at h; exact h
   ·rename_i c
    rw [if_neg c] at h
    cases e:Zt_R f x (aH (n.tdiv 2)) with
    | none=>rw [e] at h; cases h
    | some r=>rw [e] at h; rw [ih g _ r (by omega) e]; exact h
 rw [mono 32 nu _ y (by decide) h2]
 exact ⟨y,rfl,b⟩
theorem x8 {op x:Int}(a:NR x):∃ m,Z31 op x=some m∧NR m:=by
 unfold Z31
 split
 ·obtain ⟨m,h1,h2⟩:=qw 0 x; rw [h1]; exact ⟨m,rfl,h2⟩
 ·split
  ·obtain ⟨m,h1,h2⟩:=ri x; rw [h1]; exact ⟨m,rfl,h2⟩
  ·obtain ⟨m,h1⟩:=jP x
   rw [h1]
   simp only [Option.bind_some]
   split
   ·exact ⟨0,rfl,by decide⟩
   ·split
    ·exact ⟨1,rfl,by decide⟩
    ·exact ⟨x,rfl,a⟩
theorem x9 {op x y:Int}(h1:1≤op)(h2:op≤3):∃ m,Z1p op x y=some m∧NR m:=by
 obtain ⟨a,i⟩:=jP x
 obtain ⟨b,h⟩:=jP y
 unfold Z1p
 rw [i,h]
 simp only [Option.bind_some]
 split
 ·obtain ⟨m,h1,h2⟩:=nI x y; rw [h1]; exact ⟨m,rfl,h2⟩
 ·split
  ·obtain ⟨m,h1,h2⟩:=qw x y; rw [h1]; exact ⟨m,rfl,h2⟩
  ·split
   ·obtain ⟨m,h1,h2⟩:=lY x y; rw [h1]; exact ⟨m,rfl,h2⟩
   ·rename_i e j g
    simp only [beq_iff_eq] at e j g
    omega
theorem gY {ds:List Int}{x:List Int}(h:eG ds)(a:RG (pr ds).toNat x):TOk ds x:=⟨h,by have:=a.1; have:=h.2.pos; omega,fun y b=>a.2 y b⟩
theorem oO {ds:List Int}{x:List Int}(h:TOk ds x):RG (pr ds).toNat x:=⟨by have:=h.l; omega,fun y a=>h.x y a⟩
theorem kp {ds x:List Int}(h:TOk ds x):x.length≤4096∧ds.length≤6:=⟨by have:=h.l; have:=h.d.2.2; omega,h.d.1⟩
def TT (t:Tensor):Prop:=TOk t.Dims t.Data
theorem px {t:Tensor}(h:TT t):Zs t=some true:=by
 have:=kp h
 rw [sI (by unfold b'; omega) (by unfold b'; omega),decide_eq_true (show TOk t.Dims t.Data from h)]
theorem zQ {op:Int}{t:Tensor}(h:TT t)(h1:1≤op)(h2:op≤4):∃ d,Z14 op t=some ⟨t.Dims,d⟩∧TOk t.Dims d:=by
 have q:=kp h
 unfold Z14
 rw [px h]
 simp only [Option.bind_some]
 rw [if_neg (by simp; omega),kH h.d]
 simp only [Option.bind_some]
 have l:(pr t.Dims).toNat=t.Data.length:=(oO h).1.symm
 obtain ⟨r,e,g⟩:=kK (f:=fun s:List Int×Int=>Z14_L1 op t ⟨t.Dims,List.replicate (pr t.Dims).toNat 0⟩ s.1 s.2) (Post:=fun r=>RG (pr t.Dims).toNat r) (pr t.Dims).toNat t.Data.length
  (fun j u x a=>by
   obtain ⟨m,g1,b⟩:=x8 (op:=op) ((oO h).ix (i:=(j:Int)) (by omega) (by omega))
   simp only [Z14_L1]
   rw [if_pos (by simp; omega),if_pos (by omega),g1]
   simp only [Option.bind_some]
   rw [if_pos (by simp; omega),bW (by unfold b'; omega)]
   exact ⟨_,rfl,a.set b _⟩)
  (fun x a=>by simp only [Z14_L1]; rw [if_neg (by simp)]; exact ⟨x,rfl,a⟩) (RG.rep _)
 rw [e]
 exact ⟨r,rfl,gY h.d g⟩
theorem uL {ds:List Int}(h:eG ds):Z01 ds ds=some ds:=by
 have q:=h.1
 unfold Z01
 rw [gB (by unfold b'; omega)]
 simp only [h,decide_true,Option.bind_some,bQ,Bool.not_true,Bool.not_false,cond_true,Bool.or_self,Bool.false_eq_true,if_false]
 rw [if_neg (by simp)]
 unfold Z01_J1
 rw [if_pos (by omega)]
 have:=eC (f:=fun s:List Int×Int=>Z01_L1 ds ds (ds.length:Int) s.1 s.2) (r:=.inr ds) (fun j=>(List.replicate (ds.length - j) 0++ds.drop (ds.length - j),(j:Int))) ds.length
  (fun j u=>by
   obtain ⟨i,m⟩:∃ i,i=ds.length - (j+1):=⟨_,rfl⟩
   have e:ds.length - j=i+1:=by omega
   have a:i<ds.length:=by omega
   have b:aH (aH ((ds.length:Int) - 1) - (j:Int))=(i:Int):=by rw [bC (n:=(ds.length:Int) - 1) (by omega) (by omega),bC (by omega) (by omega)]; omega
   have g:Z2a ds (j:Int)=some (ix ds (i:Int)):=by
    unfold Z2a
    rw [if_neg (by simp; omega),b,if_pos (by omega)]
   simp only [Z01_L1]
   rw [if_pos (by simp; omega),g]
   simp only [Option.bind_some]
   rw [if_neg (by simp),if_neg (by simp)]
   simp only [Z01_J3,b]
   rw [if_pos (by simp; omega),bW (by unfold b'; omega),e,← m,Int.toNat_natCast]
   congr 3
   have l:ds.drop i=ix ds (i:Int)::ds.drop (i+1):=by rw [List.drop_eq_getElem_cons a,bS a]
   rw [l,List.replicate_succ',List.set_append_left _ _ (by simp),List.set_append_right _ _ (by simp)]
   simp)
  (by simp only [Z01_L1,Nat.sub_self,List.replicate_zero,List.drop_zero,List.nil_append]; rw [if_neg (by simp)])
  (s:=(List.replicate (ds.length:Int).toNat 0,0)) (by simp)
 rw [this]
 simp only [Option.bind_some,Z01_J4]
 rw [gB (by unfold b'; omega)]
 simp [h]
theorem nc {t:Tensor}{is:List Int}(h:TT t)(a:IV t.Dims is):∃ x,Z09 t is=some x:=by
 have i:=kp h
 have b:=a.len
 unfold Z09
 have:=eC (f:=fun s:List Int×Int=>Z09_L1 t is s.1 s.2) (r:=is) (fun j=>(is.take j,(j:Int))) t.Dims.length
  (fun j m=>by
   have l:=a.mem (j:=j) (by omega)
   have e:aH (aH ((is.length:Int) - (t.Dims.length:Int))+(j:Int))=(j:Int):=by rw [bC (n:=(is.length:Int) - (t.Dims.length:Int)) (by omega) (by omega),bC (by omega) (by omega)]; omega
   simp only [Z09_L1,Z09_J2,e]
   rw [if_pos (by simp; omega),if_pos (by omega),if_pos (by omega),bW (by unfold b'; omega)]
   have tk:is.take (j+1)=is.take j++[ix is (j:Int)]:=by rw [List.take_succ_eq_append_getElem (by omega),bS (by omega)]
   by_cases c:ix t.Dims (j:Int)=1
   ·rw [if_pos (by simp [c]),if_pos (by simp; omega),tk,show ix is (j:Int)=0 by omega]
   ·rw [if_neg (by simp [c]),if_pos (by simp; omega),tk])
  (by simp only [Z09_L1]; rw [if_neg (by simp),List.take_of_length_le (by omega)])
  (s:=([],0)) rfl
 rw [this]
 simp only [Option.bind_some,Z09_J3]
 obtain ⟨x,g,_⟩:=n6 h a
 rw [g]
 exact ⟨x,rfl⟩
theorem zR {op:Int}{t u:Tensor}(e:TT t)(h:TT u)(i:t.Dims=u.Dims)(h1:1≤op)(h2:op≤3):∃ d,Z15 op t u=some ⟨t.Dims,d⟩∧TOk t.Dims d:=by
 have I:=kp e
 have G:=e.d.2.2
 unfold Z15
 rw [px e,px h]
 simp only [Option.bind_some,bQ,Bool.not_true,Bool.not_false,cond_true]
 rw [if_neg (by simp; omega),← i,uL e.d]
 simp only [Option.bind_some]
 rw [if_neg (by simp),kH e.d]
 simp only [Option.bind_some]
 obtain ⟨r,B,F⟩:=kK (f:=fun s:List Int×Int=>Z15_L1 op t u t.Dims ⟨t.Dims,List.replicate (pr t.Dims).toNat 0⟩ s.1 s.2) (Post:=fun r=>RG (pr t.Dims).toNat r) (pr t.Dims).toNat (pr t.Dims).toNat
  (fun j J x g=>by
   have l:=gX e.d.2.1 (j:Int)
   obtain ⟨a,q⟩:=nc e l
   obtain ⟨b,E⟩:=nc h (by rw [← i]; exact l)
   obtain ⟨m,g1,D⟩:=x9 (op:=op) (x:=a) (y:=b) h1 h2
   simp only [Z15_L1]
   rw [if_pos (by simp; omega),js e.d (by omega) (by omega)]
   simp only [Option.bind_some,q,E,g1]
   rw [if_pos (by simp; omega),bW (by unfold b'; omega)]
   exact ⟨_,rfl,g.set D _⟩)
  (fun x g=>by simp only [Z15_L1]; rw [if_neg (by simp)]; exact ⟨x,rfl,g⟩) (RG.rep _)
 rw [B]
 exact ⟨r,rfl,gY e.d F⟩
theorem xa {ds:List Int}(e:ds.length<b'):(eG ds→∃ d,Z0s ds 0=some ⟨ds,d⟩∧TOk ds d)∧(¬ eG ds→Z0s ds 0=some ⟨[],[]⟩):=by
 unfold Z0s
 rw [gB e]
 constructor
 ·intro h
  have q:=h.2.2
  simp only [h,decide_true,Option.bind_some,Bool.not_true,Bool.false_eq_true,if_false]
  rw [kH h]
  simp only [Option.bind_some]
  obtain ⟨m,g,a⟩:=jB 0
  obtain ⟨r,i,l⟩:=kK (f:=fun s:List Int×Int=>Z0s_L1 0 ⟨ds,List.replicate (pr ds).toNat 0⟩ s.1 s.2) (Post:=fun r=>RG (pr ds).toNat r) (pr ds).toNat (pr ds).toNat
   (fun j u x b=>by
    simp only [Z0s_L1]
    rw [if_pos (by simp; omega),g]
    simp only [Option.bind_some]
    rw [if_pos (by simp; omega),bW (by unfold b'; omega)]
    exact ⟨_,rfl,b.set a _⟩)
   (fun x b=>by simp only [Z0s_L1]; rw [if_neg (by simp)]; exact ⟨x,rfl,b⟩) (RG.rep _)
  rw [i]
  exact ⟨r,rfl,gY h l⟩
 ·intro h
  simp [h]
theorem uM (ds ss:List Int)(a:Int):(n8 ds ss a).length=(pr ds).toNat:=by simp [n8]
theorem nJ {t:Tensor}{v:View}(g:TT t)(a:VG v.Dims v.Strides v.Offset v.Base)(U:v.Base=pr t.Dims):∃ d,Z03 t v=some ⟨v.Dims,d⟩∧TOk v.Dims d:=by
 have T:=kp g
 have M:=a.d.1
 have L:=a.d.2.2
 have J:=g.l
 unfold Z03
 rw [px g,kn a]
 simp only [Option.bind_some,bQ,Bool.not_true,Bool.not_false,cond_true]
 rw [if_neg (by simp; omega),hO (by omega),qp a.d a.l a.s (by have:=a.o; have:=a.b; omega)]
 simp only [Option.bind_some]
 have D:=uM v.Dims v.Strides v.Offset
 obtain ⟨r,G,I⟩:=hY (f:=fun s:List Int×Int=>Z03_L1 t (n8 v.Dims v.Strides v.Offset) s.1 s.2) (fun j s=>s.2=(j:Int)∧RG j s.1) (pr v.Dims).toNat (Post:=fun r=>RG (pr v.Dims).toNat r)
  (fun j s O u=>by
   obtain ⟨x,i⟩:=s
   obtain ⟨h,m⟩:=u
   simp only at h
   subst h
   have F:0≤ix (n8 v.Dims v.Strides v.Offset) (j:Int)∧ix (n8 v.Dims v.Strides v.Offset) (j:Int)<v.Base:=by
    have:=bE (xs:=n8 v.Dims v.Strides v.Offset) (k:=j) (by omega)
    obtain ⟨k,_,E⟩:=List.mem_map.1 this
    rw [← E]
    exact a.place (gX a.d.2.1 (k:Int))
   have B:=(oO g).ix F.1 (by have:=(oO g).1; omega)
   have q:x.length=j:=m.1
   simp only [Z03_L1]
   rw [if_pos (by simp; omega),if_pos (by omega),if_pos (by omega),if_pos (by simp; omega),bW (by unfold b'; omega)]
   refine ⟨_,rfl,rfl,by simp [q],?_⟩
   intro y e
   rcases List.mem_append.1 e with e | e
   ·exact m.2 y e
   ·rw [List.mem_singleton.1 e]; exact B)
  (fun s u=>by
   obtain ⟨x,i⟩:=s
   obtain ⟨h,m⟩:=u
   simp only at h
   subst h
   simp only [Z03_L1]
   rw [if_neg (by simp; omega)]
   exact ⟨x,rfl,m⟩) (s:=([],0)) ⟨rfl,rfl,by simp⟩
 rw [G]
 exact ⟨r,rfl,gY a.d I⟩
theorem lZ {t:Tensor}(a:TT t):Z03 t dS=some ⟨[],[]⟩:=by
 unfold Z03
 rw [px a]
 simp only [Option.bind_some,bQ,Bool.not_true,Bool.not_false,cond_true]
 rw [show Z9 dS=some false from uC]
 simp
theorem rj {ds d:List Int}(h:eG ds)(D:d.length<b'):Z0a (bV ds) d=some (if eG d∧pr d=pr ds then bV d else dS):=by
 have Y:=h.1
 have T:=h.2.2
 have E:=h.2.pos
 have q:(bV ds).Dims=ds:=rfl
 have B:(bV ds).Base=pr ds:=rfl
 unfold Z0a
 rw [kn (iN h)]
 simp only [Option.bind_some,bQ,Bool.not_true,Bool.not_false,cond_true,Bool.false_or,gB D]
 by_cases hd:eG d
 ·have G:=hd.1
  have L:=hd.2.pos
  simp only [hd,decide_true,Bool.not_true,Bool.not_false,cond_true,Bool.false_or,true_and,q,Option.bind_some]
  rw [jp D,if_pos hd.2,jp (by unfold b'; omega),if_pos h.2]
  simp only [Option.bind_some]
  by_cases e:pr d=pr ds
  ·rw [if_neg (by simp [e]),if_pos e,qp (iN h).d (iN h).l (iN h).s ⟨Int.le_refl 0,by show (0:Int)≤4096; omega⟩,hO (by omega)]
   simp only [Option.bind_some]
   have b:n8 (bV ds).Dims (bV ds).Strides (bV ds).Offset=(List.range (pr ds).toNat).map fun k:Nat=>(k:Int):=n9 h.2
   obtain ⟨a,I⟩:∃ a,a=n8 (bV ds).Dims (bV ds).Strides (bV ds).Offset:=⟨_,rfl⟩
   rw [← I] at b ⊢
   have al:a.length=(pr ds).toNat:=by rw [b]; simp
   have u:∀ i:Int,0≤i→i<pr ds→ix a i=i:=by
    intro i J h1
    obtain ⟨k,rfl⟩:=Int.eq_ofNat_of_zero_le J
    rw [bS (by omega)]
    simp [b]
   rw [if_pos (by omega)]
   have:=eC (f:=fun s:List Int×Int=>Z0a_L1 d a s.1 s.2) (r:=eK d) (fun j=>((eK d).take j,(j:Int))) d.length
    (fun j m=>by
     have F:=dH d
     have U:=hd.2.mem (bE m)
     have tk:(eK d).take (j+1)=(eK d).take j++[if ix d (j:Int)>1 then pr (d.drop (j+1)) else 0]:=by rw [List.take_succ_eq_append_getElem (by omega),← po m,bS (by omega)]
     simp only [Z0a_L1,Z0a_J2]
     rw [if_pos (by simp; omega),if_pos (by omega)]
     by_cases c:ix d (j:Int)>1
     ·have q1:=(hd.2.drop (j+1)).pos
      have Z:pr (d.drop j)=ix d (j:Int)*pr (d.drop (j+1)):=by
       have:d.drop j=ix d (j:Int)::d.drop (j+1):=by rw [List.drop_eq_getElem_cons m,bS m]
       rw [this]; rfl
      have O:=gK d j
      have M:=(hd.2.take j).pos
      have q5:pr (d.drop j)≤pr d:=by rw [O]; exact jl M (by have:=(hd.2.drop j).pos; omega)
      have q6:2*pr (d.drop (j+1))≤ix d (j:Int)*pr (d.drop (j+1)):=Int.mul_le_mul_of_nonneg_right (by omega) (by omega)
      rw [if_pos (by simpa using c),bW (by unfold b'; omega),if_pos (by omega),hD,Int.toNat_natCast,jp (by simp [b']; omega),if_pos (hd.2.drop (j+1))]
      simp only [Option.bind_some]
      rw [if_pos (by omega),if_pos (by simp; omega),u _ (by omega) (by omega),u 0 (by omega) (by omega),tk,if_pos c,bC (by omega) (by omega),Int.sub_zero]
     ·rw [if_neg (by simpa using c),if_pos (by simp; omega),bW (by unfold b'; omega),tk,if_neg c])
    (by simp only [Z0a_L1]; rw [if_neg (by simp),List.take_of_length_le (by rw [dH]; omega)])
    (s:=([],0)) rfl
   rw [this]
   simp only [Option.bind_some,Z0a_J3]
   have hw:(⟨d,eK d,ix a 0,(bV ds).Base⟩:View)=bV d:=by rw [u 0 (by omega) (by omega),B,← e]; rfl
   rw [hw,kn (iN hd)]
   simp only [Option.bind_some,bQ,Bool.not_true,Bool.not_false,cond_true]
   rw [qp (iN hd).d (iN hd).l (iN hd).s ⟨Int.le_refl 0,by show (0:Int)≤4096; omega⟩]
   simp only [Option.bind_some]
   have g:n8 (bV d).Dims (bV d).Strides (bV d).Offset=a:=by rw [b,← e]; exact n9 hd.2
   rw [g,sJ (by unfold b'; omega)]
   simp
  ·rw [if_pos (by simp [e]),if_neg e]
   rfl
 ·simp [hd,dS]
theorem my {n:Node}{ds:List Int}(h:eG ds)(l:n.Dims.length<b'):∃ ps,Z12 n ds=some (if eG n.Dims∧pr n.Dims=pr ds then (n.Dims,ps,true) else ([],[],false)):=by
 have q:=h.1
 have u:=h.2.2
 unfold Z12
 rw [gV l]
 by_cases hd:eG n.Dims
 ·simp only [hd,decide_true,Option.bind_some,bQ,Bool.not_true,Bool.not_false,cond_true,Bool.false_or,true_and]
  rw [l6 l hd.2,l6 (by unfold b'; omega) h.2]
  simp only [Option.bind_some]
  by_cases e:pr n.Dims=pr ds
  ·rw [if_neg (by simp [e])]
   obtain ⟨r,m,_⟩:=hY (f:=fun s:List pair×Int=>Z12_L1 (pr ds) s.1 s.2) (fun j s=>s.2=(j:Int)∧s.1.length=j) (pr ds).toNat (Post:=fun _=>True)
    (fun j s B g=>by
     obtain ⟨x,i⟩:=s
     obtain ⟨a,b⟩:=g
     simp only at a b
     subst a
     simp only [Z12_L1]
     rw [if_pos (by simp; omega),if_pos (by simp; omega),bW (by unfold b'; omega)]
     exact ⟨_,rfl,rfl,by simp [b]⟩)
    (fun s g=>by
     obtain ⟨x,i⟩:=s
     obtain ⟨a,b⟩:=g
     simp only at a
     subst a
     have:=h.2.pos
     simp only [Z12_L1]
     rw [if_neg (by simp; omega)]
     exact ⟨x,rfl,trivial⟩) (s:=([],0)) ⟨rfl,rfl⟩
   rw [m]
   exact ⟨r,by rw [if_pos e]; rfl⟩
  ·rw [if_pos (by simp [e])]
   exact ⟨[],by rw [if_neg e]⟩
 ·simp [hd,bQ]
end Go.Proofs.YtmpnollfdpdipaaGreat
