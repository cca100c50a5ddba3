import Derived.Test.YtmpnollfdpdipaaGreatPg14
set_option linter.unusedVariables false
set_option linter.unusedSimpArgs false
namespace Go.Pg
structure DecK {α:Type}(K:Kind α) where
 A:Type
 cells:A→α→List Value
 ents:A→α→List HP
 dec:Dec K cells ents
section
variable {α β:Type}
def DecK.scal (enc:α→Value)(h1:∀ x,(enc x).oneCell'=true):DecK (Kind.scal enc h1):=⟨Unit,fun _ x=>[enc x],fun _ _=>[],fun I x cs h=>⟨(),h,rfl⟩⟩
def DecK.sl (e:Nat)(K:Kind α):DecK (Kind.sl e K):=⟨Option Addr×Nat,fun a xs=>[.slice a.1 xs.length a.2],fun a xs=>[rds K (.slice a.1 xs.length a.2) xs],fun I x cs h=>by
 obtain ⟨v,rfl,r⟩:=h
 obtain ⟨a,c,rfl⟩:=rdS_form r
 exact ⟨(a,c),rfl,Hp.none,Hp.none,Join.none _,⟨rfl,r⟩,rfl⟩⟩
def DecK.pair {A:Kind α}{B:Kind β}(a:DecK A)(b:DecK B):DecK (Kind.pair A B):=⟨a.A×b.A,fun p x=>a.cells p.1 x.1++b.cells p.2 x.2,fun p x=>a.ents p.1 x.1++b.ents p.2 x.2,fun I x cs h=>by
 obtain ⟨c1,c2,rfl,h1,h2⟩:=h
 obtain ⟨p,rfl,s1⟩:=a.dec _ _ _ h1
 obtain ⟨q,rfl,s2⟩:=b.dec _ _ _ h2
 exact ⟨(p,q),rfl,star_app.2 ⟨Hp.none,Hp.none,Join.none _,s1,s2⟩⟩⟩
def DecK.iso {K:Kind α}(a:DecK K)(f:β→α):DecK (Kind.iso K f):=⟨a.A,fun p x=>a.cells p (f x),fun p x=>a.ents p (f x),fun I x cs h=>a.dec I (f x) cs h⟩
theorem DecK.own {K:Kind α}(a:DecK K):OwnDec K.share a.cells a.ents:=fun I h x cs o=>a.dec I x cs o.2
theorem DecK.leaf {K:Kind α}(a:DecK K){fo:Nat}{pr:α→Value}(h:∀ p x,nth (a.cells p x) fo=some (pr x)):Leaf K fo pr:=fun I x cs hr=>by
 obtain ⟨p,rfl,_⟩:=a.dec I x cs hr
 exact h p x
structure MkS {α:Type}(K:Kind α) where
 A:Type
 cells:A→α→List Value
 ents:A→α→List HP
 put:∀ I h a x,star (ents a x) I h→h=Hp.none∧K.rd I x (cells a x)
structure MkO {α:Type}(K:Kind α) where
 A:Type
 cells:A→α→List Value
 ents:A→α→List HP
 put:∀ I h a x,star (ents a x) I h→K.own I h x (cells a x)
def MkS.scal (enc:α→Value)(h1:∀ x,(enc x).oneCell'=true):MkS (Kind.scal enc h1):=⟨Unit,fun _ x=>[enc x],fun _ _=>[],fun I h a x s=>⟨s,rfl⟩⟩
def MkS.sl (e:Nat)(K:Kind α):MkS (Kind.sl e K):=⟨Value,fun v _=>[v],fun v xs=>[rds K v xs],fun I h a x s=>by
 obtain ⟨h1,h2,j,⟨rfl,r⟩,e⟩:=s
 have e:h2=Hp.none:=e
 subst e
 exact ⟨j.eq_of_none,a,rfl,r⟩⟩
def MkS.pair {A:Kind α}{B:Kind β}(a:MkS A)(b:MkS B):MkS (Kind.pair A B):=⟨a.A×b.A,fun p x=>a.cells p.1 x.1++b.cells p.2 x.2,fun p x=>a.ents p.1 x.1++b.ents p.2 x.2,fun I h p x s=>by
 obtain ⟨h1,h2,j,s1,s2⟩:=star_app.1 s
 obtain ⟨e1,r1⟩:=a.put _ _ _ _ s1
 obtain ⟨e2,r2⟩:=b.put _ _ _ _ s2
 subst e1; subst e2
 exact ⟨j.eq_of_none,_,_,rfl,r1,r2⟩⟩
def MkS.iso {K:Kind α}(a:MkS K)(f:β→α):MkS (Kind.iso K f):=⟨a.A,fun p x=>a.cells p (f x),fun p x=>a.ents p (f x),fun I h p x s=>a.put I h p (f x) s⟩
def MkO.scal (enc:α→Value)(h1:∀ x,(enc x).oneCell'=true):MkO (Kind.scal enc h1):=⟨Unit,fun _ x=>[enc x],fun _ _=>[],fun I h a x s=>⟨s,rfl⟩⟩
def MkO.sl (e:Nat)(K:Kind α):MkO (Kind.sl e K):=⟨Value,fun v _=>[v],fun v xs=>[ow K e v xs],fun I h a x s=>by
 obtain ⟨h1,h2,j,o,e2⟩:=s
 have e2:h2=Hp.none:=e2
 subst e2
 rw [j.symm.eq_of_none]
 exact ⟨a,rfl,o⟩⟩
def MkO.pair {A:Kind α}{B:Kind β}(a:MkO A)(b:MkO B):MkO (Kind.pair A B):=⟨a.A×b.A,fun p x=>a.cells p.1 x.1++b.cells p.2 x.2,fun p x=>a.ents p.1 x.1++b.ents p.2 x.2,fun I h p x s=>by
 obtain ⟨h1,h2,j,s1,s2⟩:=star_app.1 s
 exact ⟨h1,h2,_,_,j,rfl,a.put _ _ _ _ s1,b.put _ _ _ _ s2⟩⟩
def MkO.iso {K:Kind α}(a:MkO K)(f:β→α):MkO (Kind.iso K f):=⟨a.A,fun p x=>a.cells p (f x),fun p x=>a.ents p (f x),fun I h p x s=>a.put I h p (f x) s⟩
structure SpO {α:Type}(K:Kind α) where
 A:Type
 cells:A→α→List Value
 ents:A→α→List HP
 sp:∀ I h x cs,K.own I h x cs→∃ a,cs=cells a x∧star (ents a x) I h
theorem owS_form {L:Kind β}{e:Nat}{I h:Hp}{v:Value}{ys:List β}(r:owS L e I h v ys):∃ a c,v=.slice a ys.length c:=by
 rcases r with ⟨A,rfl,rfl,_⟩|⟨g,c,pre,used,spare,fr,h1,rfl,_⟩
 ·exact ⟨A,0,rfl⟩
 ·exact ⟨_,c,rfl⟩
def SpO.scal (enc:α→Value)(h1:∀ x,(enc x).oneCell'=true):SpO (Kind.scal enc h1):=⟨Unit,fun _ x=>[enc x],fun _ _=>[],fun I h x cs o=>⟨(),o.2,o.1⟩⟩
def SpO.sl (e:Nat)(K:Kind α):SpO (Kind.sl e K):=⟨Option Addr×Nat,fun a xs=>[.slice a.1 xs.length a.2],fun a xs=>[ow K e (.slice a.1 xs.length a.2) xs],fun I h x cs o=>by
 obtain ⟨v,rfl,r⟩:=o
 obtain ⟨a,c,rfl⟩:=owS_form r
 exact ⟨(a,c),rfl,h,Hp.none,Join.none' _,r,rfl⟩⟩
def SpO.pair {A:Kind α}{B:Kind β}(a:SpO A)(b:SpO B):SpO (Kind.pair A B):=⟨a.A×b.A,fun p x=>a.cells p.1 x.1++b.cells p.2 x.2,fun p x=>a.ents p.1 x.1++b.ents p.2 x.2,fun I h x cs o=>by
 obtain ⟨h1,h2,c1,c2,j,rfl,o1,o2⟩:=o
 obtain ⟨p,rfl,s1⟩:=a.sp _ _ _ _ o1
 obtain ⟨q,rfl,s2⟩:=b.sp _ _ _ _ o2
 exact ⟨(p,q),rfl,star_app.2 ⟨h1,h2,j,s1,s2⟩⟩⟩
def SpO.iso {K:Kind α}(a:SpO K)(f:β→α):SpO (Kind.iso K f):=⟨a.A,fun p x=>a.cells p (f x),fun p x=>a.ents p (f x),fun I h x cs o=>a.sp I h (f x) cs o⟩
structure Zr {α:Type}(K:Kind α) where
 z:α
 cs:List Value
 len:cs.length=K.sz
 own:∀ I,K.own I Hp.none z cs
def Zr.scal (enc:α→Value)(h1:∀ x,(enc x).oneCell'=true)(z:α):Zr (Kind.scal enc h1):=⟨z,[enc z],rfl,fun I=>⟨rfl,rfl⟩⟩
def Zr.sl (e:Nat)(K:Kind α):Zr (Kind.sl e K):=⟨[],[.slice none 0 0],rfl,fun I=>⟨_,rfl,.inl ⟨none,rfl,rfl,rfl⟩⟩⟩
def Zr.pair {A:Kind α}{B:Kind β}(a:Zr A)(b:Zr B):Zr (Kind.pair A B):=⟨(a.z,b.z),a.cs++b.cs,by rw [List.length_append,a.len,b.len]; rfl,fun I=>⟨Hp.none,Hp.none,_,_,Join.none _,rfl,a.own I,b.own I⟩⟩
def Zr.iso {K:Kind α}(a:Zr K)(f:β→α)(z:β)(h:f z=a.z):Zr (Kind.iso K f):=⟨z,a.cs,a.len,fun I=>by show K.own I Hp.none (f z) a.cs; rw [h]; exact a.own I⟩
def Zr.share {K:Kind α}(a:Zr K):Zr K.share:=⟨a.z,a.cs,a.len,fun I=>⟨rfl,K.own_rd (Hp.le_refl I) (Hp.none_le I) (a.own I)⟩⟩
theorem Zr.zk {P:Program}{K:Kind α}{e:TypeId}(a:Zr K)(h:zcB P e=some a.cs):ZeroK P K e a.z:=⟨a.cs,h,a.len,a.own⟩
theorem ownL_share {K:Kind α}{I J:Hp}(l:Hp.le I J):∀ (xs:List α) (h:Hp) (cs:List Value),Hp.le h J→ownL K I h xs cs→ownL K.share J Hp.none xs cs:=by
 intro xs
 induction xs with
 | nil=>intro h cs _ o; exact ⟨rfl,o.2⟩
 | cons x xs ih =>
  rintro h cs lh ⟨h1,h2,c1,c2,j,e,a,b⟩
  exact ⟨Hp.none,Hp.none,c1,c2,Join.none _,e,⟨rfl,K.own_rd l (Hp.le_trans j.left lh) a⟩,ih h2 c2 (Hp.le_trans j.right lh) b⟩
theorem St.wk {C w:World}{V:List HP}{K:Kind α}{e:Nat}{v:Value}{xs:List α}(s:St C w V)(i:Nat)(hV:lk V i=ow K e v xs):St C w (ow K.share e v xs::Pg.rm V i):=by
 obtain ⟨a,I,h,g,j,l,s⟩:=s.mv i
 obtain ⟨h1,h2,j',p,s'⟩:=s
 rw [hV] at p
 have p:owS K e I h1 v xs:=p
 rcases p with ⟨A,rfl,rfl,rfl⟩|⟨b,c,pre,used,spare,fr,hb,rfl,q2,q3,q4,q5,jo,ol⟩
 ·exact ⟨a,I,h,g,j,l,Hp.none,h2,j',.inl ⟨A,rfl,rfl,rfl⟩,s'⟩
 ·obtain ⟨k,k1,k2⟩:=Join.assoc' j' j
  obtain ⟨J,jJ⟩:=Join.of_disj (h1:=I) (h2:=hb) (fun x=>by
   rcases k1.disj x with f | f
   ·exact .inl f
   ·exact .inr ((jo.is_none x).1 f).2)
  obtain ⟨hh,jh⟩:=Join.of_disj (h1:=Hp.one b (.cells (pre++used++spare).toArray e fr)) (h2:=h2) (fun x=>by
   rcases j'.disj x with f | f
   ·exact .inl ((jo.is_none x).1 f).1
   ·exact .inr f)
  obtain ⟨G,jG⟩:=Join.of_disj (h1:=J) (h2:=hh) (fun x=>by
   by_cases hx:J x=Option.none
   ·exact .inl hx
   ·refine .inr ((jh.is_none x).2 ?_)
    cases hI:I x with
    | some o =>
     have:h x=Option.none:=by
      rcases j.disj x with f | f
      ·rw [hI] at f; cases f
      ·exact f
     have:=(j'.is_none x).1 this
     exact ⟨((jo.is_none x).1 this.1).1,this.2⟩
    | none =>
     have hb':hb x≠Option.none:=fun hn=>hx ((jJ.is_none x).2 ⟨hI,hn⟩)
     refine ⟨?_,?_⟩
     ·rcases jo.disj x with f | f
      ·exact f
      ·exact absurd f hb'
     ·rcases j'.disj x with f | f
      ·exact absurd ((jo.is_none x).1 f).2 hb'
      ·exact f)
  refine ⟨a,J,hh,G,jG,?_,_,h2,jh,.inr ⟨b,c,pre,used,spare,fr,Hp.none,rfl,q2,q3,q4,q5,Join.none' _,ownL_share jJ.left xs hb used jJ.right ol⟩,star_mono jJ.left s'⟩
  intro x o e1
  rcases jG.cases e1 with ⟨e1,_⟩|⟨e1,_⟩
  ·rcases jJ.cases e1 with ⟨e1,_⟩|⟨e1,_⟩
   ·exact l x o (j.left x o e1)
   ·exact l x o (j.right x o (j'.left x o (jo.right x o e1)))
  ·rcases jh.cases e1 with ⟨e1,_⟩|⟨e1,_⟩
   ·exact l x o (j.right x o (j'.left x o (jo.left x o e1)))
   ·exact l x o (j.right x o (j'.right x o e1))
end
section
variable {X:Cx}{V:List HP}{σ:Env}{Q:Exit→Env→World→Prop}{ops:Array Oper}{rest:List Oper}
variable {d:Option Nat}{ty:TypeId}{pos:String}{af:Array Edge}{gd:Option (Nat×Bool)}
theorem v_loadw {T:TypeId}{x:Operand}{b k n:Nat}{cs ds:List Value}{T0:Nat}(i:Nat)(ha:aggB X.P T=some true)(hs:szB X.P T=some n)
  (hV:lk V i=bxl b cs T0) (hx:ev σ x=.pointer (some ⟨b,k,none⟩)) (hd:(cs.drop k).take n=ds) (hn:ds.length=n):VO X V σ ⟨d,.load T x,ty,pos,af,gd⟩ (.agg ds.toArray):=by
 subst hd
 exact v_loads i ha hs hV hx hn
end
section
variable {α:Type}
theorem MkO.list {K:Kind α}(M:MkO K):∀ (ps:List (M.A×α)) (I h:Hp),star (ps.flatMap fun p=>M.ents p.1 p.2) I h→ownL K I h (ps.map (·.2)) (ps.flatMap fun p=>M.cells p.1 p.2):=by
 intro ps
 induction ps with
 | nil=>intro I h s; exact ⟨s,rfl⟩
 | cons p ps ih =>
  intro I h s
  rw [List.flatMap_cons] at s
  obtain ⟨h1,h2,j,a,b⟩:=star_app.1 s
  exact ⟨h1,h2,_,_,j,by rw [List.flatMap_cons],M.put _ _ _ _ a,ih I h2 b⟩
theorem MkS.list {K:Kind α}(M:MkS K):∀ (ps:List (M.A×α)) (I h:Hp),star (ps.flatMap fun p=>M.ents p.1 p.2) I h→ownL K.share I h (ps.map (·.2)) (ps.flatMap fun p=>M.cells p.1 p.2):=by
 intro ps
 induction ps with
 | nil=>intro I h s; exact ⟨s,rfl⟩
 | cons p ps ih =>
  intro I h s
  rw [List.flatMap_cons] at s
  obtain ⟨h1,h2,j,a,b⟩:=star_app.1 s
  exact ⟨h1,h2,_,_,j,by rw [List.flatMap_cons],M.put _ _ _ _ a,ih I h2 b⟩
theorem DecK.flat {K:Kind α}(a:DecK K){cs':α→List Value}(h:∀ p x,a.cells p x=cs' x):∀ I x cs,K.rd I x cs→cs=cs' x:=fun I x cs r=>by
 obtain ⟨p,rfl,_⟩:=a.dec I x cs r
 exact h p x
end
theorem and_tt {a b:Bool}(ha:a=true)(hb:b=true):(a&&b)=true:=by rw [ha,hb]; rfl
theorem not_ff {a:Bool}(ha:a=false):(!a)=true:=by rw [ha]; rfl
theorem vb {a b:Bool}(h:a=b):Value.bool a=Value.bool b:=by rw [h]
def gcall {α:Type}[Inhabited α](c:Bool)(x:Option α):Option α:=cond c x (some default)
theorem gcall_t {α:Type}[Inhabited α]{c:Bool}{x:Option α}{r:α}(h:gcall c x=some r)(hc:c=true):x=some r:=by
 rw [hc] at h
 exact h
section
variable {X:Cx}{V:List HP}{σ:Env}{Q:Exit→Env→World→Prop}{ops:Array Oper}{rest:List Oper}
variable {d:Option Nat}{ty:TypeId}{pos:String}{af:Array Edge}{gd:Option (Nat×Bool)}
theorem v_fa {S:TypeId}{x:Operand}{f fo b k k2:Nat}(hf:fieldB X.P S f=some fo)(hx:ev σ x=.pointer (some ⟨b,k,none⟩))(he:k+fo=k2):VO X V σ ⟨d,.fieldAddr S x f,ty,pos,af,gd⟩ (.pointer (some ⟨b,k2,none⟩)):=by
 have h:=v_faddr (X:=X) (V:=V) (d:=d) (ty:=ty) (pos:=pos) (af:=af) (gd:=gd) hf hx
 rw [add_eq,he] at h
 exact h
theorem c_cutq {A:Type}{x:Code}(pf:A→Prop)(sl:A→List (Nat×Value))(Vf:A→List HP)(hx:TC X V σ x (Then (Jn X pf sl Vf) Q))(hy:∀ a σ',pf a→TQ X (Vf a) (updl σ' (sl a)) .normal Q):TC X V σ x Q:=by
 intro w s
 refine W.mono (hx w s) ?_
 intro e σ' w' q
 cases e with
 | normal =>
  obtain ⟨a,h0,h1,h2⟩:=q
  have:=hy a σ' h0 w' h2
  rw [allS_updl h1] at this
  exact this
 | _=>exact q
theorem v_clf {T:TypeId}{x:Operand}{g k fo:Nat}{v:Value}{cs:List Value}(i:Nat)(ha:aggB X.P T=some false)(hV:lk V i=cl g k cs)(hx:ev σ x=.pointer (some ⟨g,k+fo,none⟩))(hc:nth cs fo=some v):VO X V σ ⟨d,.load T x,ty,pos,af,gd⟩ v:=by
 intro w s
 have:=look_cl s i hV fo v (by rw [← nth_eq]; exact hc)
 simp only [execOp,Instr.loadAt,hx,Instr.sureAddr,Sem.run_bind,Sem.run_pure,Result.andThen_ok,run_loadVar_one ha this]
theorem v_clfs {T:TypeId}{x:Operand}{g k fo n:Nat}{cs ds:List Value}(i:Nat)(ha:aggB X.P T=some true)(hs:szB X.P T=some n)(hV:lk V i=cl g k cs)(hx:ev σ x=.pointer (some ⟨g,k+fo,none⟩))(hd:(cs.drop fo).take n=ds)(hn:ds.length=n) :
  VO X V σ ⟨d,.load T x,ty,pos,af,gd⟩ (.agg ds.toArray):=by
 intro w s
 have:=look_cl s i hV
 have h2:=run_loadVar_agg (P:=X.P) (w:=w) (a:=⟨g,k+fo,none⟩) (cs:=ds) ha (by rw [hn]; exact hs) (fun j u hu=>by
  rw [add_eq,Nat.add_assoc]
  refine this _ _ ?_
  rw [← hd,List.getElem?_take] at hu
  split at hu
  ·rwa [List.getElem?_drop] at hu
  ·cases hu)
 simp only [execOp,Instr.loadAt,hx,Instr.sureAddr,Sem.run_bind,Sem.run_pure,Result.andThen_ok,h2]
end
section
variable {α:Type}{P:Program}{f:FuncId}{args:List Value}
def Lends:List HP→List HP→Prop
 | [],[]=>True
 | p::A',q::A=>(∀ I J h,Hp.le I J→Hp.le h J→p.p I h→q.p J Hp.none)∧Lends A' A
 | _,_=>False
theorem lend_ow {K:Kind α}{e:Nat}{v:Value}{xs:List α}:∀ I J h,Hp.le I J→Hp.le h J→(ow K e v xs).p I h→(rds K v xs).p J Hp.none:=fun I J h l m p=>⟨rfl,owS_rdS l m p⟩
theorem lend_sh {K:Kind α}{e:Nat}{v:Value}{xs:List α}:∀ I J h,Hp.le I J→Hp.le h J→(ow K.share e v xs).p I h→(rds K v xs).p J Hp.none:=fun I J h l m p=>⟨rfl,owS_rdS (K:=K.share) l m p⟩
theorem sees_sh {K:Kind α}{e:Nat}{v:Value}{xs:List α}:Sees (ow K.share e v xs) K v xs:=sees_ow (K:=K.share)
theorem St.shs {C w:World}{V:List HP}{K:Kind α}{e:Nat}{v:Value}{xs:List α}(s:St C w V)(i:Nat)(hV:lk V i=ow K.share e v xs):St C w (rds K v xs::Pg.rm V i):=St.shr (K:=K.share) s i hV
theorem lends_star:∀ (A' A:List HP),Lends A' A→∀ I J h,Hp.le I J→Hp.le h J→star A' I h→star A J Hp.none:=by
 intro A'
 induction A' with
 | nil =>
  intro A hl I J h _ _ s
  cases A with
  | nil=>rfl
  | cons q A=>exact hl.elim
 | cons p A' ih =>
  intro A hl I J h lI lh s
  cases A with
  | nil=>exact hl.elim
  | cons q A =>
   obtain ⟨h1,h2,j,a,b⟩:=s
   exact ⟨Hp.none,Hp.none,Join.none _,hl.1 I J h1 lI (Hp.le_trans j.left lh) a,ih A hl.2 I J h2 lI (Hp.le_trans j.right lh) b⟩
theorem FnOk.lends {T:Type}{A' A B:List HP}{post:T→Value×List HP}(hc:FnOk P f args (A++B) post)(hl:Lends A' A)(hp:∀ x,AllC (post x).2):FnOk P f args (A'++B) (fun x=>((post x).1,A'++(post x).2)):=by
 rintro C w V ⟨sm,I,hh,g,j,lw,s0⟩
 rw [List.append_assoc] at s0
 obtain ⟨h1,h2,j',p,s⟩:=star_app.1 s0
 obtain ⟨s1,s2,j2,sP,sV⟩:=star_app.1 s
 obtain ⟨k,k1,k2⟩:=Join.assoc' j' j
 have st:St C w (A++B++(has I::has h1::V.map (at_ I))):=by
  refine ⟨sm,k,h2,g,k2,lw,?_⟩
  rw [List.append_assoc]
  exact star_app.2 ⟨Hp.none,h2,Join.none h2,lends_star A' A hl I k h1 k1.left k1.right p,star_app.2 ⟨s1,s2,j2,star_mono k1.left sP,Hp.none,s2,Join.none s2,⟨rfl,k1.left⟩,Hp.none,s2,Join.none s2,⟨rfl,k1.right⟩,star_at k1.left sV⟩⟩
 refine Calls.mono' (hc C w _ st) ?_
 rintro e' w' ⟨x,rfl,sm',I',hh',g',jg,lw',st'⟩
 refine ⟨x,rfl,sm',?_⟩
 obtain ⟨q1,q2,jq,sR,b1,b2,jb,⟨rfl,lI⟩,c1,c2,jc,⟨rfl,lh⟩,sV'⟩:=star_app.1 st'
 have e1:=jb.eq_of_none
 have e2:=jc.eq_of_none
 subst e2; subst e1
 have dj:∀ b,h1 b=Option.none∨hh' b=Option.none:=fun b=>by
  cases hb:h1 b with
  | none=>exact .inl rfl
  | some o =>
   refine .inr ?_
   rcases jg.disj b with f | f
   ·rw [lh b o hb] at f; cases f
   ·exact f
 obtain ⟨m,jm⟩:=Join.of_disj dj
 obtain ⟨g2,jg2⟩:=Join.of_disj (h1:=I) (h2:=m) (fun b=>by
  cases hb:I b with
  | none=>exact .inl rfl
  | some o =>
   refine .inr ((jm.is_none b).2 ⟨?_,?_⟩)
   ·rcases k1.disj b with f | f
    ·rw [hb] at f; cases f
    ·exact f
   ·rcases jg.disj b with f | f
    ·rw [lI b o hb] at f; cases f
    ·exact f)
 refine ⟨I,m,g2,jg2,?_,?_⟩
 ·intro b o eb
  rcases jg2.cases eb with ⟨eb,_⟩|⟨eb,_⟩
  ·exact lw' b o (jg.left b o (lI b o eb))
  ·rcases jm.cases eb with ⟨eb,_⟩|⟨eb,_⟩
   ·exact lw' b o (jg.left b o (lh b o eb))
   ·exact lw' b o (jg.right b o eb)
 ·rw [List.append_assoc]
  exact star_app.2 ⟨h1,hh',jm,p,star_app.2 ⟨q1,q2,jq,star_closed (allC (hp x)) sR,at_star sV'⟩⟩
end
end Go.Pg
