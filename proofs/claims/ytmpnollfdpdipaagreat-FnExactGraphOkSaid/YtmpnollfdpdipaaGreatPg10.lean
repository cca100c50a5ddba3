import Derived.Test.YtmpnollfdpdipaaGreatPg9
set_option linter.unusedVariables false
set_option linter.unusedSimpArgs false
namespace Go.Pg
section
variable {X:Cx}{V:List HP}{σ:Env}{Q:Exit→Env→World→Prop}{ops:Array Oper}{rest:List Oper}
variable {d:Option Nat}{ty:TypeId}{pos:String}{af:Array Edge}{gd:Option (Nat×Bool)}
variable {α β:Type}
def bound (σ:Env)(o:Option Operand)(other l:Int):Prop:=match o with
 | some x=>ev σ x=.int .i64 l
 | none=>l=other
theorem run_sbound {P:Program}{w:World}{l:Int}{y:Nat}{code:BoundsCode}(h0:0≤l)(h1:l≤y):(Instr.sliceBound (.int .i64 l) y code).run P w=.ok l.toNat w:=by
 simp [Instr.sliceBound,asIntOf,h0,h1]
theorem run_sbounds {P:Program}{w:World}{is:Bool}{n c:Nat}{lo hi:Option Operand}{l h:Int}(hlo:bound σ lo 0 l)(hhi:bound σ hi n h)(h0:0≤l)(h1:l≤h)(h2:h≤n)(hc:n≤c) :
  (Instr.sliceBounds is n c (lo.map (ev σ)) (hi.map (ev σ)) none).run P w=.ok (l.toNat,h.toNat,c) w:=by
 have el:∀ y:Nat,l≤y→(Instr.sliceBound (.int .i64 l) y .sliceB).run P w=.ok l.toNat w:=fun y hy=>run_sbound h0 hy
 cases hi with
 | none =>
  have:h=n:=hhi
  subst this
  cases lo with
  | none =>
   have:l=0:=hlo
   subst this
   simp [Instr.sliceBounds]
  | some x =>
   have hx:ev σ x=.int .i64 l:=hlo
   simp [Instr.sliceBounds,hx,el n h1]
 | some y =>
  have hy:ev σ y=.int .i64 h:=hhi
  have eh:∀ code,(Instr.sliceBound (.int .i64 h) c code).run P w=.ok h.toNat w:=fun code=>run_sbound (by omega) (by omega)
  cases lo with
  | none =>
   have:l=0:=hlo
   subst this
   simp [Instr.sliceBounds,hy,eh]
  | some x =>
   have hx:ev σ x=.int .i64 l:=hlo
   simp [Instr.sliceBounds,hx,hy,eh,el h.toNat (by omega)]
theorem bsize (s:Str):(⟨s.toArray⟩:ByteArray).size=s.length:=by show s.toArray.size=_; simp
def cutA (a:Option Addr)(c l sz:Nat):Option Addr:=if c=l then a else a.map (·.add (l*sz))
theorem run_slice {P:Program}{w:World}{t e:TypeId}{x:Operand}{a:Option Addr}{n c sz:Nat}{lo hi:Option Operand}{l h:Int}(ht:slB P t=some e)(hs:szB P e=some sz)(hx:ev σ x=.slice a n c)
  (hlo:bound σ lo 0 l) (hhi:bound σ hi n h) (h0:0≤l) (h1:l≤h) (h2:h≤n) (hc:n≤c) :
  (execOp (ev σ) ⟨d,.slice t x lo hi none,ty,pos,af,gd⟩).run P w=.ok (.value (.slice (cutA a c l.toNat sz) (h.toNat - l.toNat) (c - l.toNat))) w:=by
 have hu:=slB_eq ht
 have hb:=run_sbounds (P:=P) (w:=w) (is:=true) hlo hhi h0 h1 h2 hc
 simp only [execOp,Instr.sliceAt,hx,Sem.run_bind,run_underlying hu,Result.andThen_ok,Instr.slice,Option.map_none,hb,run_sizeOf hs,Sem.run_pure,cutA]
theorem sub_len {xs:List α}{l h:Int}(h0:0≤l)(h1:l≤h)(h2:h≤xs.length):(sub xs l h).length=h.toNat - l.toNat:=by
 simp [sub]; omega
theorem sub_get {xs:List α}{l h:Int}(h0:0≤l)(h1:l≤h)(h2:h≤xs.length){j:Nat}{x:α}(hx:(sub xs l h)[j]?=some x):xs[l.toNat+j]?=some x:=by
 simp only [sub,List.getElem?_drop,List.getElem?_take] at hx
 split at hx
 ·exact hx
 ·cases hx
theorem rdS_sub {K:Kind α}{I:Hp}{a:Option Addr}{n c:Nat}{xs:List α}{l h:Int}(r:rdS K I (.slice a n c) xs)(h0:0≤l)(h1:l≤h)(h2:h≤n):rdS K I (.slice (cutA a c l.toNat K.sz) (h.toNat - l.toNat) (c - l.toNat)) (sub xs l h):=by
 obtain ⟨A,c',hv,hn,hm,hc⟩:=r
 injection hv with e1 e2 e3
 subst e1; subst e3; subst e2
 have hl:=sub_len h0 h1 h2
 refine ⟨_,_,by rw [hl],by rw [hl]; omega,by rw [hl]; omega,fun hp=>?_⟩
 rw [hl] at hp
 obtain ⟨g,o,rfl,hcell⟩:=hc (by omega)
 refine ⟨g,o+l.toNat*K.sz,?_,fun j x hx=>?_⟩
 ·unfold cutA
  rw [if_neg (by omega)]
  simp [add_eq]
 ·obtain ⟨cs,p,q⟩:=hcell _ x (sub_get h0 h1 h2 hx)
  refine ⟨cs,p,fun i u hu=>?_⟩
  have:=q i u hu
  rw [Nat.add_mul] at this
  rw [show o+l.toNat*K.sz+j*K.sz+i=o+(l.toNat*K.sz+j*K.sz)+i by omega]
  exact this
theorem l_cut {K:Kind α}{t e:TypeId}{x:Operand}{a:Option Addr}{n c:Nat}{lo hi:Option Operand}{xs:List α}(l h:Int)(i:Nat)(hd:dok X.n d=true)(hw:want ops σ ⟨d,.slice t x lo hi none,ty,pos,af,gd⟩=true)
  (ht:slB X.P t=some e) (hs:szB X.P e=some K.sz) (hV:lk V i=rds K (.slice a n c) xs) (hx:ev σ x=.slice a n c) (hlo:bound σ lo 0 l) (hhi:bound σ hi n h) (h0:0≤l) (h1:l≤h) (h2:h≤n)
  (k:∀ a' c',TL X ops (rds K (.slice a' (sub xs l h).length c') (sub xs l h)::V) (updo σ d (.slice a' (sub xs l h).length c')) rest Q):TL X ops V σ (⟨d,.slice t x lo hi none,ty,pos,af,gd⟩::rest) Q:=by
 rintro w ⟨sm,I,hh,g,j,lw,s⟩
 obtain ⟨g1,g2,j',p,s'⟩:=star_take i s
 rw [hV] at p
 have hn:n=xs.length:=by obtain ⟨_,A,c',hv,_⟩:=p; injection hv
 have hnc:n≤c:=by
  obtain ⟨_,A,c',hv,hq,_⟩:=p
  injection hv with _ _ e3
  omega
 refine WL_step hd hw ?_
 rw [run_slice ht hs hx hlo hhi h0 h1 h2 hnc]
 have r:=rdS_sub p.2 h0 h1 h2
 have:=k (cutA a c l.toNat K.sz) (c - l.toNat)
 rw [sub_len h0 h1 (by omega)] at this
 exact this w ⟨sm,I,hh,g,j,lw,Hp.none,hh,Join.none hh,⟨rfl,r⟩,s⟩
theorem v_slen {t:TypeId}{x:Operand}{s:Str}(ht:X.P.underlying t=some .string)
  (hx:ev σ x=vstr s):VO X V σ ⟨d,.call ⟨.builtin .len,#[x],#[t]⟩,ty,pos,af,gd⟩ (.int .i64 s.length):=by
 intro w _
 simp [execOp,resolve,invoke,builtin,hx,vstr,Builtin.len_,run_underlying ht,goInt,bsize]
theorem v_sindex {t:TypeId}{x y:Operand}{s:Str}{k:IntKind}{j:Int}(ht:X.P.underlying t=some .string)
  (hx:ev σ x=vstr s) (hy:ev σ y=.int k j) (h0:0≤j) (h1:j<s.length):VO X V σ ⟨d,.index t x y,ty,pos,af,gd⟩ (.int .u8 (bt s j)):=by
 intro w _
 have hlt:j.toNat<s.length:=by omega
 have hb:(⟨s.toArray⟩:ByteArray)[j.toNat]?=some (ix s j):=by
  rw [ByteArray.getElem?_lt' _ _ (by rw [bsize]; exact hlt)]
  congr 1
  show s.toArray[j.toNat]=_
  simp [ix,List.getD_eq_getElem?_getD,hlt]
 simp [execOp,hx,hy,vstr,Instr.index,asIntOf,run_underlying ht,h0,hb,bt]
theorem v_scut {t:TypeId}{x:Operand}{s:Str}{lo hi:Option Operand}(l h:Int)
  (ht:X.P.underlying t=some .string) (hx:ev σ x=vstr s) (hlo:bound σ lo 0 l) (hhi:bound σ hi s.length h) (h0:0≤l) (h1:l≤h) (h2:h≤s.length):VO X V σ ⟨d,.slice t x lo hi none,ty,pos,af,gd⟩ (vstr (sub s l h)):=by
 intro w _
 have hb:=run_sbounds (P:=X.P) (w:=w) (is:=false) (n:=s.length) (c:=s.length) hlo hhi h0 h1 h2 (Nat.le_refl _)
 have hsz:=bsize s
 simp only [execOp,Instr.sliceAt,hx,Sem.run_bind,run_underlying ht,Result.andThen_ok,Instr.slice,Option.map_none,vstr,hsz,hb,Sem.run_pure,Option.isSome_none,Bool.false_eq_true,if_false]
 rw [ByteArray.extract_mk]
 congr 3
 simp [sub,List.drop_take]
theorem v_scat {t:TypeId}{x y:Operand}{yt:TypeId}{s u:Str}
  (hx:ev σ x=vstr s) (hy:ev σ y=vstr u) (hl:s.length+u.length≤9223372036854775807):VO X V σ ⟨d,.binOp .add t x y yt,ty,pos,af,gd⟩ (vstr (s++u)):=by
 intro w _
 have h:=run_string_add_sum (P:=X.P) (w:=w) (⟨s.toArray⟩:ByteArray) ⟨u.toArray⟩ (by rw [bsize,bsize]; exact hl)
 simp only [execOp,hx,hy,vstr,eqGuard_add,binOp_string_add,Sem.run_bind,Sem.run_pure,Result.andThen_ok,h]
 rw [ByteArray.mk_append_mk]
def scmp:BinOp→Str→Str→Option Bool
 | .eql,a,b=>some (a==b)
 | .neq,a,b=>some (!(a==b))
 | .lss,a,b=>some (Op.bytesLess a b)
 | .leq,a,b=>some (Op.bytesLess a b||a==b)
 | .gtr,a,b=>some (!(Op.bytesLess a b||a==b))
 | .geq,a,b=>some (!Op.bytesLess a b)
 | _,_,_=>none
theorem v_scmp {op:BinOp}{t:TypeId}{x y:Operand}{yt:TypeId}{s u:Str}{b:Bool}
  (hx:ev σ x=vstr s) (hy:ev σ y=vstr u) (hb:scmp op s u=some b):VO X V σ ⟨d,.binOp op t x y yt,ty,pos,af,gd⟩ (.bool b):=by
 intro w _
 cases op<;>simp only [scmp,reduceCtorEq,Option.some.injEq] at hb<;>subst hb <;>
  simp [execOp,hx,hy,vstr,eqGuard_at_string,binOp,Op.stringOp]
theorem v_quo {t yt:TypeId}{x y:Operand}{k:IntKind}{a b:Int}(hx:ev σ x=.int k a)(hy:ev σ y=.int k b)(hb:b≠0):VO X V σ ⟨d,.binOp .quo t x y yt,ty,pos,af,gd⟩ (.int k (k.wrap (a.tdiv b))):=by
 intro w _
 simp [execOp,hx,hy,eqGuard_at_int,binOp,Op.intDiv,hb]
theorem v_rem {t yt:TypeId}{x y:Operand}{k:IntKind}{a b:Int}(hx:ev σ x=.int k a)(hy:ev σ y=.int k b)(hb:b≠0):VO X V σ ⟨d,.binOp .rem t x y yt,ty,pos,af,gd⟩ (.int k (a.tmod b)):=by
 intro w _
 simp [execOp,hx,hy,eqGuard_at_int,binOp,Op.intDiv,hb]
theorem v_max {x y:Operand}{ts:Array TypeId}{k k':IntKind}{a b:Int}(hx:ev σ x=.int k a)(hy:ev σ y=.int k' b):VO X V σ ⟨d,.call ⟨.builtin .max,#[x,y],ts⟩,ty,pos,af,gd⟩ (.int k (if b>a then b else a)):=by
 intro w _
 simp [execOp,resolve,invoke,builtin,hx,hy,run_max_int2]
theorem v_min {x y:Operand}{ts:Array TypeId}{k k':IntKind}{a b:Int}(hx:ev σ x=.int k a)(hy:ev σ y=.int k' b):VO X V σ ⟨d,.call ⟨.builtin .min,#[x,y],ts⟩,ty,pos,af,gd⟩ (.int k (if b<a then b else a)):=by
 intro w _
 simp [execOp,resolve,invoke,builtin,hx,hy,run_min_int2]
theorem v_bne {t yt:TypeId}{x y:Operand}{a b:Bool}(ht:X.P.underlying t=some .bool)(hx:ev σ x=.bool a)(hy:ev σ y=.bool b):VO X V σ ⟨d,.binOp .neq t x y yt,ty,pos,af,gd⟩ (.bool (!(a==b))):=by
 intro w _
 simp [execOp,hx,hy,eqGuard_at_bool,run_neq_bool (P:=X.P) w t a b ht]
end
end Go.Pg
