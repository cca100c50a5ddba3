import Derived.Test.YtmpnollfdpdipaaGreatPg2
set_option linter.unusedVariables false
set_option linter.unusedSimpArgs false
namespace Go.Pg
def cellH (g:Hp)(b k:Nat):Option Value :=
 match g b with
 | some (.cells c _ _)=>c[k]?
 | _=>none
theorem cellH_mono {g g':Hp}(l:Hp.le g g'){b k:Nat}{v:Value}(h:cellH g b k=some v):cellH g' b k=some v:=by
 unfold cellH at *
 cases e:g b with
 | none=>rw [e] at h; cases h
 | some o=>rw [l b o e]; rw [e] at h; exact h
theorem cell_of_H {g:Hp}{w:World}(l:Le g w){b k:Nat}{v:Value}(h:cellH g b k=some v):w.cell? ⟨b,k,none⟩=some v:=by
 unfold cellH at h
 cases e:g b with
 | none=>rw [e] at h; cases h
 | some o =>
  have:=l b o e
  rw [e] at h
  cases o<;>simp at h
  simp [World.cell?,this,h]
structure Kind (α:Type) where
 sz:Nat
 rd:Hp→α→List Value→Prop
 own:Hp→Hp→α→List Value→Prop
 rd_mono:∀ {I J x cs},Hp.le I J→rd I x cs→rd J x cs
 own_mono:∀ {I J h x cs},Hp.le I J→own I h x cs→own J h x cs
 own_rd:∀ {I J h x cs},Hp.le I J→Hp.le h J→own I h x cs→rd J x cs
 rd_len:∀ {I x cs},rd I x cs→cs.length=sz
 own_len:∀ {I h x cs},own I h x cs→cs.length=sz
 rd_one:∀ {I x cs},rd I x cs→∀ u∈cs,u.oneCell'=true
 own_one:∀ {I h x cs},own I h x cs→∀ u∈cs,u.oneCell'=true
def Kind.Closed {α:Type}(K:Kind α):Prop:=∀ I J h x cs,K.own I h x cs→K.own J h x cs
def Kind.Flat {α:Type}(K:Kind α):Prop:=∀ I x cs,K.rd I x cs→K.own I Hp.none x cs
section
variable {α:Type}(K:Kind α)
def ownL (I:Hp):Hp→List α→List Value→Prop
 | h,[],cs=>h=Hp.none∧cs=[]
 | h,x::xs,cs=>∃ h1 h2 c1 c2,Join h1 h2 h∧cs=c1++c2∧K.own I h1 x c1∧ownL I h2 xs c2
theorem ownL_mono {K:Kind α}{I J:Hp}(l:Hp.le I J){h:Hp}{xs:List α}{cs:List Value}(o:ownL K I h xs cs):ownL K J h xs cs:=by
 induction xs generalizing h cs with
 | nil=>exact o
 | cons x xs ih =>
  obtain ⟨h1,h2,c1,c2,j,e,a,b⟩:=o
  exact ⟨h1,h2,c1,c2,j,e,K.own_mono l a,ih b⟩
theorem ownL_closed {K:Kind α}(hc:K.Closed){I J:Hp}{h:Hp}{xs:List α}{cs:List Value}(o:ownL K I h xs cs):ownL K J h xs cs:=by
 induction xs generalizing h cs with
 | nil=>exact o
 | cons x xs ih =>
  obtain ⟨h1,h2,c1,c2,j,e,a,b⟩:=o
  exact ⟨h1,h2,c1,c2,j,e,hc _ _ _ _ _ a,ih b⟩
theorem ownL_len {K:Kind α}{I h:Hp}{xs:List α}{cs:List Value}(o:ownL K I h xs cs):cs.length=xs.length*K.sz:=by
 induction xs generalizing h cs with
 | nil=>rw [o.2]; simp
 | cons x xs ih =>
  obtain ⟨h1,h2,c1,c2,j,e,a,b⟩:=o
  rw [e,List.length_append,K.own_len a,ih b,List.length_cons,Nat.succ_mul,Nat.add_comm]
theorem ownL_one {K:Kind α}{I h:Hp}{xs:List α}{cs:List Value}(o:ownL K I h xs cs):∀ u∈cs,u.oneCell'=true:=by
 induction xs generalizing h cs with
 | nil=>intro u hu; rw [o.2] at hu; cases hu
 | cons x xs ih =>
  obtain ⟨h1,h2,c1,c2,j,e,a,b⟩:=o
  intro u hu
  rw [e] at hu
  rcases List.mem_append.1 hu with hu | hu
  ·exact K.own_one a u hu
  ·exact ih b u hu
theorem ownL_app {K:Kind α}{I h h1 h2:Hp}{xs ys:List α}{c1 c2:List Value}(j:Join h1 h2 h)(a:ownL K I h1 xs c1)(b:ownL K I h2 ys c2):ownL K I h (xs++ys) (c1++c2):=by
 induction xs generalizing h h1 c1 with
 | nil =>
  obtain ⟨e1,e2⟩:=a
  subst e1; subst e2
  rw [j.eq_of_none]
  exact b
 | cons x xs ih =>
  obtain ⟨g1,g2,d1,d2,j',e,p,q⟩:=a
  obtain ⟨k,k1,k2⟩:=Join.assoc j' j
  exact ⟨g1,k,d1,d2++c2,k2,by rw [e,List.append_assoc],p,ih k1 q⟩
theorem ownL_split {K:Kind α}{I h:Hp}{xs ys:List α}{cs:List Value}(o:ownL K I h (xs++ys) cs):∃ h1 h2 c1 c2,Join h1 h2 h∧cs=c1++c2∧ownL K I h1 xs c1∧ownL K I h2 ys c2:=by
 induction xs generalizing h cs with
 | nil=>exact ⟨Hp.none,h,[],cs,Join.none h,rfl,⟨rfl,rfl⟩,o⟩
 | cons x xs ih =>
  obtain ⟨h1,h2,c1,c2,j,e,a,b⟩:=o
  obtain ⟨g1,g2,d1,d2,j',e',p,q⟩:=ih b
  obtain ⟨k,k1,k2⟩:=Join.assoc' j' j
  exact ⟨k,g2,c1++d1,d2,k2,by rw [e,e',List.append_assoc],⟨h1,g1,c1,d1,k1,rfl,a,p⟩,q⟩
theorem ownL_at {K:Kind α}{I h:Hp}{xs:List α}{cs:List Value}(o:ownL K I h xs cs){i:Nat}{x:α}(hx:xs[i]?=some x) :
  ∃ a c b h1 h2,cs=a++c++b∧a.length=i*K.sz∧Join h1 h2 h∧K.own I h1 x c ∧
   ∀ I' h' x' c' g',Hp.le I I'→Join h' h2 g'→K.own I' h' x' c'→ownL K I' g' (xs.set i x') (a++c'++b):=by
 have hi:i<xs.length:=(List.getElem?_eq_some_iff.1 hx).1
 have hsplit:xs=xs.take i++(x::xs.drop (i+1)):=by
  have:xs.drop i=x::xs.drop (i+1):=by
   rw [List.drop_eq_getElem_cons hi]
   congr 1
   rw [List.getElem?_eq_getElem hi] at hx
   exact Option.some.inj hx
  rw [← this,List.take_append_drop]
 rw [hsplit] at o
 obtain ⟨h1,h2,c1,c2,j,e,oa,g1,g2,d1,d2,j',e',p,q⟩:=ownL_split o
 obtain ⟨k,k1,k2⟩:=Join.assoc' j' j
 obtain ⟨m,m1,m2⟩:=Join.assoc k1.symm k2
 refine ⟨c1,d1,d2,g1,m,by rw [e,e',List.append_assoc],?_,m2,p,?_⟩
 ·rw [ownL_len oa,List.length_take,Nat.min_eq_left (Nat.le_of_lt hi)]
 ·intro I' h' x' c' g' l jj ox
  have hset:xs.set i x'=xs.take i++(x'::xs.drop (i+1)):=by
   rw [List.set_eq_take_append_cons_drop,if_pos hi]
  rw [hset,List.append_assoc]
  obtain ⟨n,n1,n2⟩:=Join.assoc' m1 jj
  obtain ⟨q1,q2,q3⟩:=Join.assoc n1.symm n2
  exact ownL_app q3 (ownL_mono l oa) ⟨h',g2,c',d2,q2,rfl,ox,ownL_mono l q⟩
theorem ownL_rd {K:Kind α}{I J h:Hp}{xs:List α}{cs:List Value}(o:ownL K I h xs cs)(lI:Hp.le I J)(lh:Hp.le h J){i:Nat}{x:α}(hx:xs[i]?=some x) :
  ∃ c,K.rd J x c∧∀ k u,c[k]?=some u→cs[i*K.sz+k]?=some u:=by
 obtain ⟨a,c,b,h1,h2,e,ha,j,p,_⟩:=ownL_at o hx
 refine ⟨c,K.own_rd lI (Hp.le_trans j.left lh) p,fun k u hu=>?_⟩
 have hk:=(List.getElem?_eq_some_iff.1 hu).1
 rw [e,List.append_assoc,List.getElem?_append_right (by omega),ha,Nat.add_sub_cancel_left,List.getElem?_append_left hk]
 exact hu
def rdS (I:Hp)(v:Value)(xs:List α):Prop :=
 ∃ A c,v=.slice A xs.length c∧xs.length≤c∧xs.length≤maxLen ∧
  (0<xs.length→∃ g off,A=some ⟨g,off,none⟩∧∀ j x,xs[j]?=some x→∃ cs,K.rd I x cs∧∀ i u,cs[i]?=some u→cellH I g (off+j*K.sz+i)=some u)
def owS (e:Nat)(I h:Hp)(v:Value)(xs:List α):Prop :=
 (∃ A,v=.slice A 0 0∧xs=[]∧h=Hp.none) ∨
 ∃ g c pre used spare fr h1,v=.slice (some ⟨g,pre.length,none⟩) xs.length c∧xs.length≤c∧c≤maxLen∧spare.length=(c - xs.length)*K.sz ∧
  (fr=(0,0)∨pre.length+used.length+spare.length≤fr.1)∧Join (Hp.one g (.cells (pre++used++spare).toArray e fr)) h1 h∧ownL K I h1 xs used
theorem rdS_mono {K:Kind α}{I J:Hp}(l:Hp.le I J){v:Value}{xs:List α}(h:rdS K I v xs):rdS K J v xs:=by
 obtain ⟨A,c,e,h1,h2,h3⟩:=h
 refine ⟨A,c,e,h1,h2,fun hp=>?_⟩
 obtain ⟨g,off,ea,hc⟩:=h3 hp
 refine ⟨g,off,ea,fun j x hx=>?_⟩
 obtain ⟨cs,a,b⟩:=hc j x hx
 exact ⟨cs,K.rd_mono l a,fun i u hu=>cellH_mono l (b i u hu)⟩
theorem owS_mono {K:Kind α}{e:Nat}{I J h:Hp}(l:Hp.le I J){v:Value}{xs:List α}(o:owS K e I h v xs):owS K e J h v xs:=by
 rcases o with o | ⟨g,c,pre,used,spare,fr,h1,a,b,d,s,f,j,o⟩
 ·exact .inl o
 ·exact   .inr ⟨g,c,pre,used,spare,fr,h1,a,b,d,s,f,j,ownL_mono l o⟩
theorem owS_closed {K:Kind α}(hc:K.Closed){e:Nat}{I J h:Hp}{v:Value}{xs:List α}(o:owS K e I h v xs):owS K e J h v xs:=by
 rcases o with o | ⟨g,c,pre,used,spare,fr,h1,a,b,d,s,f,j,o⟩
 ·exact .inl o
 ·exact   .inr ⟨g,c,pre,used,spare,fr,h1,a,b,d,s,f,j,ownL_closed hc o⟩
theorem owS_rdS {K:Kind α}{e:Nat}{I J h:Hp}{v:Value}{xs:List α}(lI:Hp.le I J)(lh:Hp.le h J)(o:owS K e I h v xs):rdS K J v xs:=by
 rcases o with ⟨A,rfl,rfl,rfl⟩|⟨g,c,pre,used,spare,fr,h1,a,b,d,s,f,j,o⟩
 ·exact ⟨A,0,rfl,Nat.le_refl _,Nat.zero_le _,fun h=>absurd h (Nat.lt_irrefl _)⟩
 ·refine ⟨_,c,a,b,Nat.le_trans b d,fun _=>⟨g,pre.length,rfl,fun k x hx=>?_⟩⟩
  obtain ⟨cs,p,q⟩:=ownL_rd o lI (Hp.le_trans j.right lh) hx
  refine ⟨cs,p,fun i u hu=>?_⟩
  have hb:J g=some (.cells (pre++used++spare).toArray e fr):=lh _ _ (j.left g _ (by simp [Hp.one]))
  unfold cellH
  rw [hb]
  show (pre++used++spare).toArray[pre.length+k*K.sz+i]?=some u
  have hq:=q i u hu
  have hlt:=(List.getElem?_eq_some_iff.1 hq).1
  rw [List.getElem?_toArray,List.append_assoc,List.getElem?_append_right (by omega),show pre.length+k*K.sz+i - pre.length=k*K.sz+i by omega,List.getElem?_append_left hlt]
  exact hq
end
def Kind.scal {α:Type}(enc:α→Value)(h1:∀ x,(enc x).oneCell'=true):Kind α where
 sz:=1
 rd _ x cs:=cs=[enc x]
 own _ h x cs:=h=Hp.none∧cs=[enc x]
 rd_mono _ h:=h
 own_mono _ h:=h
 own_rd _ _ h:=h.2
 rd_len h:=by rw [h]; rfl
 own_len h:=by rw [h.2]; rfl
 rd_one h u hu:=by rw [h] at hu; rw [List.mem_singleton.1 hu]; exact h1 _
 own_one h u hu:=by rw [h.2] at hu; rw [List.mem_singleton.1 hu]; exact h1 _
def vstr (s:Str):Value:=.string ⟨s.toArray⟩
def Kind.int (k:IntKind):Kind Int:=Kind.scal (Value.int k) (fun _=>rfl)
def Kind.bool:Kind Bool:=Kind.scal Value.bool (fun _=>rfl)
def Kind.str:Kind Str:=Kind.scal vstr (fun _=>rfl)
def Kind.sl {α:Type}(e:Nat)(K:Kind α):Kind (List α) where
 sz:=1
 rd I xs cs:=∃ v,cs=[v]∧rdS K I v xs
 own I h xs cs:=∃ v,cs=[v]∧owS K e I h v xs
 rd_mono l h:=by obtain ⟨v,e,a⟩:=h; exact ⟨v,e,rdS_mono l a⟩
 own_mono l h:=by obtain ⟨v,e,a⟩:=h; exact ⟨v,e,owS_mono l a⟩
 own_rd l m h:=by obtain ⟨v,e,a⟩:=h; exact ⟨v,e,owS_rdS l m a⟩
 rd_len h:=by obtain ⟨v,e,a⟩:=h; rw [e]; rfl
 own_len h:=by obtain ⟨v,e,a⟩:=h; rw [e]; rfl
 rd_one h u hu:=by
  obtain ⟨v,e,A,c,rfl,_⟩:=h
  rw [e] at hu; rw [List.mem_singleton.1 hu]; rfl
 own_one h u hu:=by
  obtain ⟨v,e,a⟩:=h
  rw [e] at hu; rw [List.mem_singleton.1 hu]
  rcases a with ⟨A,rfl,_⟩|⟨g,c,pre,used,spare,fr,h1,rfl,_⟩<;>rfl
def Kind.pair {α β:Type}(A:Kind α)(B:Kind β):Kind (α×β) where
 sz:=A.sz+B.sz
 rd I x cs:=∃ c1 c2,cs=c1++c2∧A.rd I x.1 c1∧B.rd I x.2 c2
 own I h x cs:=∃ h1 h2 c1 c2,Join h1 h2 h∧cs=c1++c2∧A.own I h1 x.1 c1∧B.own I h2 x.2 c2
 rd_mono l h:=by obtain ⟨c1,c2,e,a,b⟩:=h; exact ⟨c1,c2,e,A.rd_mono l a,B.rd_mono l b⟩
 own_mono l h:=by obtain ⟨h1,h2,c1,c2,j,e,a,b⟩:=h; exact ⟨h1,h2,c1,c2,j,e,A.own_mono l a,B.own_mono l b⟩
 own_rd l m h:=by
  obtain ⟨h1,h2,c1,c2,j,e,a,b⟩:=h
  exact ⟨c1,c2,e,A.own_rd l (Hp.le_trans j.left m) a,B.own_rd l (Hp.le_trans j.right m) b⟩
 rd_len h:=by obtain ⟨c1,c2,e,a,b⟩:=h; rw [e,List.length_append,A.rd_len a,B.rd_len b]
 own_len h:=by obtain ⟨h1,h2,c1,c2,j,e,a,b⟩:=h; rw [e,List.length_append,A.own_len a,B.own_len b]
 rd_one h u hu:=by
  obtain ⟨c1,c2,e,a,b⟩:=h
  rw [e] at hu
  rcases List.mem_append.1 hu with hu | hu
  ·exact A.rd_one a u hu
  ·exact B.rd_one b u hu
 own_one h u hu:=by
  obtain ⟨h1,h2,c1,c2,j,e,a,b⟩:=h
  rw [e] at hu
  rcases List.mem_append.1 hu with hu | hu
  ·exact A.own_one a u hu
  ·exact B.own_one b u hu
def Kind.iso {α β:Type}(K:Kind α)(f:β→α):Kind β where
 sz:=K.sz
 rd I x cs:=K.rd I (f x) cs
 own I h x cs:=K.own I h (f x) cs
 rd_mono:=K.rd_mono
 own_mono:=K.own_mono
 own_rd:=K.own_rd
 rd_len:=K.rd_len
 own_len:=K.own_len
 rd_one:=K.rd_one
 own_one:=K.own_one
def Kind.share {α:Type}(K:Kind α):Kind α where
 sz:=K.sz
 rd:=K.rd
 own I h x cs:=h=Hp.none∧K.rd I x cs
 rd_mono:=K.rd_mono
 own_mono l h:=⟨h.1,K.rd_mono l h.2⟩
 own_rd l _ h:=K.rd_mono l h.2
 rd_len:=K.rd_len
 own_len h:=K.rd_len h.2
 rd_one:=K.rd_one
 own_one h:=K.rd_one h.2
theorem Kind.scal_closed {α:Type}(enc:α→Value)(h1:∀ x,(enc x).oneCell'=true):(Kind.scal enc h1).Closed:=fun _ _ _ _ _ h=>h
theorem Kind.pair_closed {α β:Type}{A:Kind α}{B:Kind β}(a:A.Closed)(b:B.Closed):(Kind.pair A B).Closed :=
 fun _ _ _ _ _ ⟨h1,h2,c1,c2,j,e,p,q⟩=>⟨h1,h2,c1,c2,j,e,a _ _ _ _ _ p,b _ _ _ _ _ q⟩
theorem Kind.iso_closed {α β:Type}{K:Kind α}(h:K.Closed)(f:β→α):(Kind.iso K f).Closed:=fun _ _ _ _ _ o=>h _ _ _ _ _ o
theorem Kind.scal_flat {α:Type}(enc:α→Value)(h1:∀ x,(enc x).oneCell'=true):(Kind.scal enc h1).Flat:=fun _ _ _ h=>⟨rfl,h⟩
def bx (b:Nat)(cs:Array Value)(T:Nat):HP:=⟨fun _ h=>h=Hp.one b (.cells cs T (0,0)),fun _ e=>e⟩
def ow {α:Type}(K:Kind α)(e:Nat)(v:Value)(xs:List α):HP:=⟨fun I h=>owS K e I h v xs,fun l o=>owS_mono l o⟩
def rds {α:Type}(K:Kind α)(v:Value)(xs:List α):HP:=⟨fun I h=>h=Hp.none∧rdS K I v xs,fun l o=>⟨o.1,rdS_mono l o.2⟩⟩
end Go.Pg
