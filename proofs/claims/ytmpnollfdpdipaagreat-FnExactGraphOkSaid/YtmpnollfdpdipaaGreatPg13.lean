import Derived.Test.YtmpnollfdpdipaaGreatPg12
set_option linter.unusedVariables false
set_option linter.unusedSimpArgs false
namespace Go.Pg
section
variable {α:Type}{K:Kind α}{C w:World}{V:List HP}
theorem St.len {a:Option Addr}{n c:Nat}{xs:List α}(s:St C w V)(i:Nat)(h:Sees (lk V i) K (.slice a n c) xs):n=xs.length:=by
 obtain ⟨J,lw,A,c',hv,h2,h3,h4⟩:=s.reads h
 injection hv
theorem St.cap {a:Option Addr}{n c:Nat}{xs:List α}(s:St C w V)(i:Nat)(h:Sees (lk V i) K (.slice a n c) xs):n≤9223372036854775807:=by
 obtain ⟨J,lw,A,c',hv,h2,h3,h4⟩:=s.reads h
 have:n=xs.length:=by injection hv
 simp only [maxLen] at h3
 omega
theorem St.dup {v:Value}{xs:List α}(s:St C w V)(i:Nat)(hV:lk V i=rds K v xs):St C w (rds K v xs::V):=by
 obtain ⟨a,I,hh,g,j,l,s⟩:=s
 obtain ⟨h1,h2,j',p,s'⟩:=star_take i s
 rw [hV] at p
 exact ⟨a,I,hh,g,j,l,Hp.none,hh,Join.none hh,⟨rfl,p.2⟩,s⟩
theorem St.shr {e:Nat}{v:Value}{xs:List α}(s:St C w V)(i:Nat)(hV:lk V i=ow K e v xs):St C w (rds K v xs::Pg.rm V i):=by
 have:=s.mv i
 unfold Pg.mv at this
 rw [hV] at this
 exact St.share this (fun I J hh l m p=>⟨rfl,owS_rdS l m p⟩)
theorem St.nilo (s:St C w V)(K:Kind α)(e:Nat):St C w (ow K e (.slice none 0 0) []::V) :=
 St.new s id (fun I _=>⟨Hp.none,.inl ⟨none,rfl,rfl,rfl⟩,fun _ _ e=>(by cases e),fun _ h=>absurd rfl h⟩) (fun _ _ h=>h)
theorem St.nilr (s:St C w V)(K:Kind α):St C w (rds K (.slice none 0 0) []::V) :=
 St.new s id (fun I _=>⟨Hp.none,⟨rfl,none,0,rfl,Nat.le_refl _,Nat.zero_le _,fun h=>absurd h (Nat.lt_irrefl _)⟩,fun _ _ e=>(by cases e),fun _ h=>absurd rfl h⟩) (fun _ _ h=>h)
end
section
variable {X:Cx}{V:List HP}{σ:Env}{Q:Exit→Env→World→Prop}{ops:Array Oper}{rest:List Oper}{o:Oper}{cd:Code}{ex:Exit}
variable {d:Option Nat}{ty:TypeId}{pos:String}{af:Array Edge}{gd:Option (Nat×Bool)}
variable {α β:Type}
theorem l_len {K:Kind α}{a:Option Addr}{n c:Nat}{xs:List α}(i:Nat)(hV:Sees (lk V i) K (.slice a n c) xs)(h:n=xs.length→TL X ops V σ rest Q):TL X ops V σ rest Q:=fun w s=>h (s.len i hV) w s
theorem c_len {K:Kind α}{a:Option Addr}{n c:Nat}{xs:List α}(i:Nat)(hV:Sees (lk V i) K (.slice a n c) xs)(h:n=xs.length→TC X V σ cd Q):TC X V σ cd Q:=fun w s=>h (s.len i hV) w s
theorem q_len {K:Kind α}{a:Option Addr}{n c:Nat}{xs:List α}(i:Nat)(hV:Sees (lk V i) K (.slice a n c) xs)(h:n=xs.length→TQ X V σ ex Q):TQ X V σ ex Q:=fun w s=>h (s.len i hV) w s
theorem l_st {V':List HP}(f:∀ w,St X.C w V→St X.C w V')(h:TL X ops V' σ rest Q):TL X ops V σ rest Q:=fun w s=>h w (f w s)
theorem c_st {V':List HP}(f:∀ w,St X.C w V→St X.C w V')(h:TC X V' σ cd Q):TC X V σ cd Q:=fun w s=>h w (f w s)
theorem q_st {V':List HP}(f:∀ w,St X.C w V→St X.C w V')(h:TQ X V' σ ex Q):TQ X V σ ex Q:=fun w s=>h w (f w s)
theorem l_calln {A:Type}{f:FuncId}{xs:Array Operand}{ats:Array TypeId}{as:List Value}{Pre:List HP}{post:A→Value×List HP}(m:Nat)(hd:dok X.n d=true)(hw:want ops σ ⟨d,.call ⟨.value (.func f),xs,ats⟩,ty,pos,af,gd⟩=true)
  (hf:callB X.P f=true) (ha:xs.toList.map (ev σ)=as) (hc:FnOk X.P f as Pre post) (hV:tk m V=Pre) (k:∀ x,TL X ops ((post x).2++dp m V) (updo σ d (post x).1) rest Q):TL X ops V σ (⟨d,.call ⟨.value (.func f),xs,ats⟩,ty,pos,af,gd⟩::rest) Q :=
 l_call hd hw hf ha hc (by rw [← hV,tk_dp]) k
theorem l_callvn {A:Type}{f:FuncId}{fv:Operand}{fs cs:List Value}{xs:Array Operand}{ats:Array TypeId}{as:List Value}{Pre:List HP}{post:A→Value×List HP}(m:Nat)(hd:dok X.n d=true)(hw:want ops σ ⟨d,.call ⟨.value fv,xs,ats⟩,ty,pos,af,gd⟩=true)
  (hf:callB X.P f=true) (hv:ev σ fv=.func (.func f) fs.toArray cs.toArray) (ha:fs++xs.toList.map (ev σ)++cs=as) (hc:FnOk X.P f as Pre post) (hV:tk m V=Pre) (k:∀ x,TL X ops ((post x).2++dp m V) (updo σ d (post x).1) rest Q):TL X ops V σ (⟨d,.call ⟨.value fv,xs,ats⟩,ty,pos,af,gd⟩::rest) Q :=
 l_callv hd hw hf hv ha hc (by rw [← hV,tk_dp]) k
theorem AllC.append {A B:List HP}(a:AllC A)(b:AllC B):AllC (A++B):=by
 induction A with
 | nil=>exact b
 | cons p A ih=>exact ⟨a.1,ih a.2⟩
theorem v_pickT {c a b:Operand}{k:Bool}{v v':Value}(hc:ev σ c=.bool k)(hk:k=true)(ha:ev σ a=v')(he:v'=v):VO X V σ ⟨d,.pick c a b,ty,pos,af,gd⟩ v:=v_pv (by
 simp only [pv,hc,hk,ha,he,cond_true])
theorem v_pickF {c a b:Operand}{k:Bool}{v v':Value}(hc:ev σ c=.bool k)(hk:k=false)(ha:ev σ b=v')(he:v'=v):VO X V σ ⟨d,.pick c a b,ty,pos,af,gd⟩ v:=v_pv (by
 simp only [pv,hc,hk,ha,he,cond_false])
theorem v_snil {t yt:TypeId}{x y:Operand}{a:Option Addr}{n c:Nat}{e:TypeId}(ht:slB X.P t=some e)(hx:ev σ x=.slice a n c)(hy:ev σ y=.slice none 0 0):VO X V σ ⟨d,.binOp .eql t x y yt,ty,pos,af,gd⟩ (.bool a.isNone):=by
 intro w _
 have hu:=slB_eq ht
 have he:(Op.equal t (.slice a n c) (.slice none 0 0)).run X.P w=.ok a.isNone w:=by
  unfold Op.equal
  rw [show Op.maxDepth=9999+1 from rfl]
  unfold Op.equalIn
  rw [Sem.run_bind,run_underlying hu]
  cases a<;>rfl
 cases a<;>simp [execOp,hx,hy,eqGuard,binOp,he]
end
end Go.Pg
