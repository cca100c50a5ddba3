import Derived.Test.YtmpnollfdpdipaaGreatPg9
import Derived.KernelRfl
import Derived.Lib.AppendZerosOnto
import Derived.Lib.Overlaps
import Derived.Laws.Externs
import Derived.Laws.BytesArg
import Derived.WideLaws
import Derived.RangeFuncRecord
set_option linter.unusedVariables false
set_option linter.unusedSimpArgs false
namespace Go.Pg
def nm {α:Type}(x:α):Option α:=some x
theorem jh {α β:Type}(x:α)(f:α→Option β):(nm x).bind f=f x:=rfl
section
variable {C w:World}{V:List HP}{α:Type}
end
section
variable {X:Cx}{V:List HP}{σ:cZ}{Q:Exit→cZ→World→Prop}{ops:Array Oper}{rest:List Oper}{o:Oper}{cd:Code}{ex:Exit}
variable {d:Option Nat}{ty:TypeId}{pos:String}{af:Array Edge}{gd:Option (Nat×Bool)}
variable {α:Type}
end
end Go.Pg
namespace Go.Pg
abbrev iv (n:Int):Value:=.int .i64 n
abbrev ad (g o:Nat):Option Addr:=some ⟨g,o,none⟩
abbrev pt (b k:Nat):Value:=.pointer (some ⟨b,k,none⟩)
abbrev RR {α:Type}(K:Kind α)(a:Option Addr)(c:Nat)(xs:List α):HP:=aN K (.slice a xs.length c) xs
abbrev OO {α:Type}(K:Kind α)(e:Nat)(a:Option Addr)(c:Nat)(xs:List α):HP:=ow K e (.slice a xs.length c) xs
def rmL (V:List HP):List Nat→List HP
 | []=>V
 | i::t=>rmL (rm V i) t
theorem St.rmL {C w:World}{V:List HP}(s:St C w V)(l:List Nat):St C w (rmL V l):=by
 induction l generalizing V with
 | nil=>exact s
 | cons i t ih=>exact ih (s.rm i)
section
variable {X:Cx}{V V0:List HP}{σ:cZ}{Q:Exit→cZ→World→Prop}{ops:Array Oper}{rest:List Oper}{o:Oper}{k fuel:Nat}{listed:Array Bool}{C:World}
variable {d:Nat}{op:Op}{ty:TypeId}{pos:String}{af:Array Edge}{gd:Option (Nat×Bool)}
theorem sL (l:List Nat):∀ w,St C w V→St C w (rmL V l):=fun _ s=>s.rmL l
theorem lp (v:Value)(h:TL X ops V (ku σ d v) rest Q)(a:pv σ op=some v:=by exact rfl)(hw:dP ops σ ⟨some d,op,ty,pos,af,gd⟩=true:=by exact rfl)(b:iD X.n (some d)=true:=by exact rfl):TL X ops V σ (⟨some d,op,ty,pos,af,gd⟩::rest) Q :=
 rT v (iw a) hw b h
theorem lo (v:Value)(a:VO X V σ ⟨some d,op,ty,pos,af,gd⟩ v)(h:TL X ops V (ku σ d v) rest Q)(hw:dP ops σ ⟨some d,op,ty,pos,af,gd⟩=true:=by exact rfl)(b:iD X.n (some d)=true:=by exact rfl):TL X ops V σ (⟨some d,op,ty,pos,af,gd⟩::rest) Q :=
 rT v a hw b h
theorem lf (hw:dP ops σ o=false)(h:TL X ops V (fV σ o.dst undef) rest Q)(a:iD X.n o.dst=true:=by exact rfl):TL X ops V σ (o::rest) Q:=vl a hw h
theorem dF {b:Nat}{l:List Oper}(k:Nat)(rs:List Nat)(a:X.P.follows .mixedOrders=true)(h:jx l.toArray k=true→Region.noSelect l.toArray=true→TD X l.toArray k (rmL V rs) l.length (Array.replicate l.length false) V σ Q)(e:(jx l.toArray k&&Region.noSelect l.toArray)=true:=by kernel_rfl):TC X V σ (.region b l.toArray true) Q :=
 wg k (rmL V rs) a e h
end
end Go.Pg
namespace Go.Pg
abbrev sc {α:Type}(a:Option Addr)(xs:List α)(c:Nat):Value:=.slice a xs.length c
abbrev il {α:Type}(xs:List α):Value:=.int .i64 xs.length
abbrev HH:Type:=Option Addr×Nat×Nat
theorem R {α:Sort _}{a:α}:a=a:=rfl
theorem so {α:Type _}{a b:α}(h:some a=some b):a=b:=Option.some.inj h
theorem bo (b:Bool):b=true∨b=false:=Bool.eq_false_or_eq_true b
theorem oT {c a:Bool}(h:c=true):(c||a)=true:=by rw [h]; rfl
theorem aF {c a:Bool}(h:c=false):(c&&a)=false:=by rw [h]; rfl
def up:Nat→Nat→List Nat
 | _,0=>[]
 | a,n+1=>a::up (a+1) n
def rg:List Nat→List Nat
 | a::n::t=>up a n++rg t
 | _=>[]
theorem St.d {α:Type}{K:Kind α}{C w:World}{V:List HP}{v:Value}{xs:List α}(s:St C w V)(i:Nat)(a:lk V i=aN K v xs):St C w (aN K v xs::V):=s.dup i a
theorem St.e {C w:World}{V:List HP}(s:St C w V)(n:Nat)(is:List Nat)(h:pa n is=true:=by exact rfl)(a:xR n V=true:=by exact rfl):St C w (is.map (lk V)++dp n V):=s.sel n is h a
theorem St.f {C w:World}{V:List HP}(s:St C w V)(n:Nat)(is:List Nat)(h:pa n (rg is)=true:=by exact rfl)(a:xR n V=true:=by exact rfl):St C w ((rg is).map (lk V)++dp n V):=s.sel n (rg is) h a
theorem aS {σ:cZ}:∀ {l:List (Nat×Value)},l.map (fun p=>σ p.1)=l.map Prod.snd→l2 σ l
 | [],_=>trivial
 | (_,_)::_,h=>⟨(List.cons.inj h).1,aS (List.cons.inj h).2⟩
section
variable {X:Cx}{V V0:List HP}{σ:cZ}{Q:Exit→cZ→World→Prop}{ops:Array Oper}{rest:List Oper}{o:Oper}{k fuel:Nat}{listed:Array Bool}{C:World}
variable {d:Nat}{d':Option Nat}{op:Op}{ty:TypeId}{pos:String}{af:Array Edge}{gd:Option (Nat×Bool)}{v:Value}
theorem vz (v:Value)(h:VO X V σ o v):VO X V σ o v:=h
theorem vp (v:Value)(h:pv σ op=some v):VO X V σ ⟨d',op,ty,pos,af,gd⟩ v:=iw h
theorem vI {i:IntKind}{n:Int}(h:pv σ op=some (.int i n)):VO X V σ ⟨d',op,ty,pos,af,gd⟩ (.int i n):=iw h
theorem vB {n:Bool}(h:pv σ op=some (.bool n)):VO X V σ ⟨d',op,ty,pos,af,gd⟩ (.bool n):=iw h
theorem vS {a:Option Addr}{n c:Nat}(h:pv σ op=some (.slice a n c)):VO X V σ ⟨d',op,ty,pos,af,gd⟩ (.slice a n c):=iw h
theorem vP {b n:Nat}(h:pv σ op=some (.pointer (some ⟨b,n,none⟩))):VO X V σ ⟨d',op,ty,pos,af,gd⟩ (.pointer (some ⟨b,n,none⟩)):=iw h
theorem vA {l:List Value}(h:pv σ op=some (.agg l.toArray)):VO X V σ ⟨d',op,ty,pos,af,gd⟩ (.agg l.toArray):=iw h
theorem vT {l:List Value}(h:pv σ op=some (.tuple l.toArray)):VO X V σ ⟨d',op,ty,pos,af,gd⟩ (.tuple l.toArray):=iw h
theorem ns {x y:Operand}{t e:TypeId}{b:BinOp}{m n:Int}(g:ev σ x=.int .i64 m)(a:ev σ y=.int .i64 n)(h:nk .i64 b m n=some v):VO X V σ ⟨d',.binOp b t x y e,ty,pos,af,gd⟩ v:=iw (by simp only [pv,g,a]; exact h)
theorem kW {x y:Operand}{t b:TypeId}{m n:Int}(e:ev σ x=.int .i64 m)(a:ev σ y=.int .i64 n):VO X V σ ⟨d',.binOp .add t x y b,ty,pos,af,gd⟩ (.int .i64 (aH (m+n))):=ns e a rfl
theorem wu {x y:Operand}{t b:TypeId}{m n:Int}(e:ev σ x=.int .i64 m)(a:ev σ y=.int .i64 n):VO X V σ ⟨d',.binOp .sub t x y b,ty,pos,af,gd⟩ (.int .i64 (aH (m - n))):=ns e a rfl
theorem rB {x y:Operand}{t b:TypeId}{m n:Int}(e:ev σ x=.int .i64 m)(a:ev σ y=.int .i64 n):VO X V σ ⟨d',.binOp .mul t x y b,ty,pos,af,gd⟩ (.int .i64 (aH (m*n))):=ns e a rfl
theorem mZ {x y:Operand}{t b:TypeId}{m n:Int}(e:ev σ x=.int .i64 m)(a:ev σ y=.int .i64 n):VO X V σ ⟨d',.binOp .lss t x y b,ty,pos,af,gd⟩ (.bool (decide (m<n))):=ns e a rfl
theorem vLe {x y:Operand}{t b:TypeId}{m n:Int}(e:ev σ x=.int .i64 m)(a:ev σ y=.int .i64 n):VO X V σ ⟨d',.binOp .leq t x y b,ty,pos,af,gd⟩ (.bool (decide (m≤n))):=ns e a rfl
theorem yf {x y:Operand}{t b:TypeId}{m n:Int}(e:ev σ x=.int .i64 m)(a:ev σ y=.int .i64 n):VO X V σ ⟨d',.binOp .gtr t x y b,ty,pos,af,gd⟩ (.bool (decide (m>n))):=ns e a rfl
theorem Ai {x y:Operand}{t b:TypeId}{m n:Int}(e:ev σ x=.int .i64 m)(a:ev σ y=.int .i64 n):VO X V σ ⟨d',.binOp .geq t x y b,ty,pos,af,gd⟩ (.bool (decide (m≥n))):=ns e a rfl
theorem ly {x y:Operand}{t b:TypeId}{m n:Int}(e:ev σ x=.int .i64 m)(a:ev σ y=.int .i64 n):VO X V σ ⟨d',.binOp .eql t x y b,ty,pos,af,gd⟩ (.bool (m==n)):=ns e a rfl
theorem BG {x y:Operand}{t b:TypeId}{m n:Int}(e:ev σ x=.int .i64 m)(a:ev σ y=.int .i64 n):VO X V σ ⟨d',.binOp .neq t x y b,ty,pos,af,gd⟩ (.bool (m != n)):=ns e a rfl
theorem rZ {x:Operand}{t:TypeId}{b:Bool}(a:ev σ x=.bool b):VO X V σ ⟨d',.unOp .not t x,ty,pos,af,gd⟩ (.bool !b):=iw (by simp only [pv,a])
theorem fP (a:Nat){S:TypeId}{x:Operand}{f fo b k:Nat}(h:cW X.P S f=some fo)(g:ev σ x=.pointer (some ⟨b,k,none⟩))(e:k+fo=a:=by exact rfl):VO X V σ ⟨d',.fieldAddr S x f,ty,pos,af,gd⟩ (.pointer (some ⟨b,a,none⟩)):=jf h g e
theorem fW {T:TypeId}{x:Operand}{b k:Nat}{cs:List Value}{h:Nat}{v:Value}(i:Nat)(e:eX X.P T=some false)(g:lk V i=aJ b cs h)(j:ev σ x=.pointer (some ⟨b,k,none⟩))(a:qO cs k=some v):VO X V σ ⟨d',.load T x,ty,pos,af,gd⟩ v:=rL i e g j a
theorem eL {t e:TypeId}{x y:Operand}{g o n c sz:Nat}{k:IntKind}{j:Int}(i:li X.P t=some e)(a:hK X.P e=some sz)(l:ev σ x=.slice (some ⟨g,o,none⟩) n c)(b:ev σ y=.int k j)(h:0≤j∧j<n):VO X V σ ⟨d',.indexAddr t x y,ty,pos,af,gd⟩ (.pointer (some ⟨g,o+j.toNat*sz,none⟩)):=pU i a l b h.1 h.2
theorem gO {T:TypeId}{x:Operand}{g o n c:Nat}{xs:List Int}{j:Int}(i:Nat)(a:eX X.P T=some false)(b:jC (lk V i) (Kind.int .i64) (.slice (some ⟨g,o,none⟩) n c) xs)(e:ev σ x=.pointer (some ⟨g,o+j.toNat*1,none⟩))(h:0≤j∧j<n):VO X V σ ⟨d',.load T x,ty,pos,af,gd⟩ (.int .i64 (ix xs j)) :=
 jH (K:=Kind.int .i64) (fo:=0) (pr:=fun x=>.int .i64 x) i j a ((DecK.scal _ _).leaf fun _ _=>rfl) b e h.1 h.2
theorem fU {c b:Bool}{x y z:Operand}(e:ev σ x=.bool c)(h:c=false)(a:ev σ z=.bool b):VO X V σ ⟨d',.pick x y z,ty,pos,af,gd⟩ (.bool (c||b)):=lT e h a (vb (by rw [h]; rfl))
theorem fC {c:Bool}{x y z:Operand}(b:Bool)(e:ev σ x=.bool c)(h:c=true)(a:ev σ y=.bool true:=by exact rfl):VO X V σ ⟨d',.pick x y z,ty,pos,af,gd⟩ (.bool (c||b)):=lR e h a (vb (by rw [h]; rfl))
theorem iV {c b:Bool}{x y z:Operand}(e:ev σ x=.bool c)(h:c=true)(a:ev σ y=.bool b):VO X V σ ⟨d',.pick x y z,ty,pos,af,gd⟩ (.bool (c&&b)):=lR e h a (vb (by rw [h]; rfl))
theorem kf {c:Bool}{x y z:Operand}(b:Bool)(e:ev σ x=.bool c)(h:c=false)(a:ev σ z=.bool false:=by exact rfl):VO X V σ ⟨d',.pick x y z,ty,pos,af,gd⟩ (.bool (c&&b)):=lT e h a (vb (by rw [h]; rfl))
theorem eH {j:Nat}{c:Bool}(e:c=true)(h:o.guard=some (j,true):=by exact rfl)(a:kX ops σ j=some c:=by exact rfl):dP ops σ o=true:=lL h a e
theorem cA {j:Nat}{c:Bool}(e:c=false)(h:o.guard=some (j,false):=by exact rfl)(a:kX ops σ j=some c:=by exact rfl):dP ops σ o=true:=lL h a e
theorem dZ {j:Nat}{c:Bool}(e:c=true)(h:o.guard=some (j,false):=by exact rfl)(a:kX ops σ j=some c:=by exact rfl):dP ops σ o=false:=ky h a e
theorem nt {j:Nat}{c:Bool}(e:c=false)(h:o.guard=some (j,true):=by exact rfl)(a:kX ops σ j=some c:=by exact rfl):dP ops σ o=false:=ky h a e
theorem lO (a:VO X V σ ⟨some d,op,ty,pos,af,gd⟩ v)(h:TL X ops V (ku σ d v) rest Q)(hw:dP ops σ ⟨some d,op,ty,pos,af,gd⟩=true:=by exact rfl)(b:iD X.n (some d)=true:=by exact rfl):TL X ops V σ (⟨some d,op,ty,pos,af,gd⟩::rest) Q:=rT v a hw b h
theorem lW (hw:dP ops σ ⟨some d,op,ty,pos,af,gd⟩=true)(a:VO X V σ ⟨some d,op,ty,pos,af,gd⟩ v)(h:TL X ops V (ku σ d v) rest Q)(b:iD X.n (some d)=true:=by exact rfl):TL X ops V σ (⟨some d,op,ty,pos,af,gd⟩::rest) Q:=rT v a hw b h
theorem lI {i:IntKind}{n:Int}(a:pv σ op=some (.int i n))(h:TL X ops V (ku σ d (.int i n)) rest Q)(hw:dP ops σ ⟨some d,op,ty,pos,af,gd⟩=true:=by exact rfl)(b:iD X.n (some d)=true:=by exact rfl):TL X ops V σ (⟨some d,op,ty,pos,af,gd⟩::rest) Q:=rT _ (iw a) hw b h
theorem lB {n:Bool}(a:pv σ op=some (.bool n))(h:TL X ops V (ku σ d (.bool n)) rest Q)(hw:dP ops σ ⟨some d,op,ty,pos,af,gd⟩=true:=by exact rfl)(b:iD X.n (some d)=true:=by exact rfl):TL X ops V σ (⟨some d,op,ty,pos,af,gd⟩::rest) Q:=rT _ (iw a) hw b h
theorem lS {a:Option Addr}{n c:Nat}(b:pv σ op=some (.slice a n c))(h:TL X ops V (ku σ d (.slice a n c)) rest Q)(hw:dP ops σ ⟨some d,op,ty,pos,af,gd⟩=true:=by exact rfl)(e:iD X.n (some d)=true:=by exact rfl):TL X ops V σ (⟨some d,op,ty,pos,af,gd⟩::rest) Q:=rT _ (iw b) hw e h
theorem lP {b n:Nat}(a:pv σ op=some (.pointer (some ⟨b,n,none⟩)))(h:TL X ops V (ku σ d (.pointer (some ⟨b,n,none⟩))) rest Q)(hw:dP ops σ ⟨some d,op,ty,pos,af,gd⟩=true:=by exact rfl)(e:iD X.n (some d)=true:=by exact rfl):TL X ops V σ (⟨some d,op,ty,pos,af,gd⟩::rest) Q:=rT _ (iw a) hw e h
theorem dR (i:Nat)(l:ops[i]?=some ⟨some d,op,ty,pos,af,gd⟩)(e:VO X V0 σ ⟨some d,op,ty,pos,af,gd⟩ v)(h:TD X ops k V0 fuel (listed.setIfInBounds i true) V (ku σ d v) Q)(hw:dP ops σ ⟨some d,op,ty,pos,af,gd⟩=true:=by exact rfl)(j:iD X.n (some d)=true:=by exact rfl)
  (a:Nat.blt i k=true:=by exact rfl) (g:jx ops k=true:=by assumption) (b:Region.noSelect ops=true:=by assumption) (m:(Region.free .any ops listed i&&(Region.ready .any ops listed).contains i)=true:=by kernel_rfl) (hS:∀ w,St X.C w V→St X.C w V0:=by exact sL []):TD X ops k V0 (fuel+1) listed V σ Q :=
 Au i v l e hw j a g b m hS h
theorem dW (i:Nat)(l:ops[i]?=some ⟨some d,op,ty,pos,af,gd⟩)(hw:dP ops σ ⟨some d,op,ty,pos,af,gd⟩=true)(e:VO X V0 σ ⟨some d,op,ty,pos,af,gd⟩ v)(h:TD X ops k V0 fuel (listed.setIfInBounds i true) V (ku σ d v) Q)(j:iD X.n (some d)=true:=by exact rfl)
  (a:Nat.blt i k=true:=by exact rfl) (g:jx ops k=true:=by assumption) (b:Region.noSelect ops=true:=by assumption) (m:(Region.free .any ops listed i&&(Region.ready .any ops listed).contains i)=true:=by kernel_rfl) (hS:∀ w,St X.C w V→St X.C w V0:=by exact sL []):TD X ops k V0 (fuel+1) listed V σ Q :=
 Au i v l e hw j a g b m hS h
theorem qF {A:Type}{a:A→Value×List HP}{fn:Func}{t:Nat}{e:Exit}(x:A)(b:∀ w,St X.C w V→St X.C w ((a x).2++V0))(h:(e=.ret∨e=.normal):=by first | exact .inl rfl | exact .inr rfl)(i:fn.results=#[.tmp t]:=by exact rfl)(g:σ t=(a x).1:=by exact rfl) :
  TQ X V σ e (m8 X.P fn (qR X V0 a)):=dI (rs:=[.tmp t]) (vs:=[(a x).1]) h x i ⟨g,trivial⟩ rfl b
theorem lN (V:List HP)(h:TL X ops V σ rest Q):TL X ops V σ rest Q:=h
theorem cN {cd:Code}(V:List HP)(h:TC X V σ cd Q):TC X V σ cd Q:=h
theorem qN {e:Exit}(V:List HP)(h:TQ X V σ e Q):TQ X V σ e Q:=h
theorem lM (V':List HP)(f:∀ w,St X.C w V→St X.C w V')(h:TL X ops V' σ rest Q):TL X ops V σ rest Q:=iP f h
theorem cM {cd:Code}(V':List HP)(f:∀ w,St X.C w V→St X.C w V')(h:TC X V' σ cd Q):TC X V σ cd Q:=yb f h
theorem qM {e:Exit}(V':List HP)(f:∀ w,St X.C w V→St X.C w V')(h:TQ X V' σ e Q):TQ X V σ e Q:=Av f h
theorem eF {T:TypeId}{x:Operand}{l:List Value}(e:ev σ x=.agg l.toArray)(h:∀ b,TL X ops (aJ b l T::V) (fV σ d' (.pointer (some ⟨b,0,none⟩))) rest Q)(a:iD X.n d'=true:=by exact rfl)(hw:dP ops σ ⟨d',.box T x,ty,pos,af,gd⟩=true:=by exact rfl):TL X ops V σ (⟨d',.box T x,ty,pos,af,gd⟩::rest) Q :=
 eZ a hw (by rw [e]; rfl) h
theorem lC {A:Type}{f:FuncId}{xs:Array Operand}{e:Array TypeId}{as:List Value}{b:List HP}{a:A→Value×List HP}(m:Nat)(l:aW X.P f=true)(i:xs.toList.map (ev σ)=as)(g:FnOk X.P f as b a)(j:tk m V=b)(k:∀ x,TL X ops ((a x).2++dp m V) (fV σ d' (a x).1) rest Q)
  (h:iD X.n d'=true:=by exact rfl) (hw:dP ops σ ⟨d',.call ⟨.value (.func f),xs,e⟩,ty,pos,af,gd⟩=true:=by exact rfl):TL X ops V σ (⟨d',.call ⟨.value (.func f),xs,e⟩,ty,pos,af,gd⟩::rest) Q :=
 bX m h hw l i g j k
theorem cQ {x:Code}(a:List (Nat×Value))(b:List HP)(g:TC X V σ x (iu (Jn X (fun _:Unit×Unit=>True) (fun _=>a) (fun _=>b)) Q))(e:∀ σ',TQ X b (oX σ' a) .normal Q):TC X V σ x Q:=iQ _ _ _ g (fun _ σ' _=>e σ')
theorem qJ {a:List (Nat×Value)}{b:List HP}(h2:∀ w,St X.C w V→St X.C w b)(h1:l2 σ a:=by exact aS R):TQ X V σ .normal (iu (Jn X (fun _:Unit×Unit=>True) (fun _=>a) (fun _=>b)) Q):=cS ((),()) trivial h1 h2
theorem qI {A:Type}{pf:A→Prop}{b:A→List (Nat×Value)}{e:A→List HP}(a:A)(g:pf a)(h2:∀ w,St X.C w V→St X.C w (e a))(h1:l2 σ (b a):=by exact aS R):TQ X V σ .normal (iu (Jn X pf b e) Q):=cS a g h1 h2
theorem qA {S E A:Type}{b:S→A→List (Nat×Value)}{e:S→A→List HP}{s:S}(a:A)(h2:∀ w,St X.C w V→St X.C w (e s a))(h1:l2 σ (b s a):=by exact aS R):TQ X V σ .normal (iu (As X (E:=E) (.inl s) b e) Q):=u7 a h1 h2
theorem cL {α:Type}{K:Kind α}{a:Option Addr}{n c:Nat}{xs:List α}{cd:Code}(i:Nat)(b:jC (lk V i) K (.slice a n c) xs)(h:n=xs.length→TC X V σ cd Q):TC X V σ cd Q:=bJ i b h
end
end Go.Pg
namespace Go.Pg
def nu:Nat:=1099511627776
end Go.Pg
namespace Go.Pg
section
variable {X:Cx}{V:List HP}{σ:cZ}{Q:Exit→cZ→World→Prop}{ops:Array Oper}{rest:List Oper}{o:Oper}{cd:Code}{ex:Exit}
variable {d:Option Nat}{ty:TypeId}{pos:String}{af:Array Edge}{gd:Option (Nat×Bool)}
variable {α:Type}
end
section
variable {C w:World}{V:List HP}{α:Type}
end
section
variable {X:Cx}{V:List HP}{σ:cZ}{Q:Exit→cZ→World→Prop}{ops:Array Oper}{rest:List Oper}{o:Oper}{cd:Code}{ex:Exit}
variable {d:Option Nat}{ty:TypeId}{pos:String}{af:Array Edge}{gd:Option (Nat×Bool)}
variable {α:Type}
end
end Go.Pg
namespace Go.Pg
section
variable {X:Cx}{V V0:List HP}{σ:cZ}{Q:Exit→cZ→World→Prop}{ops:Array Oper}{o:Oper}{k fuel:Nat}{listed:Array Bool}
theorem d1 (i:Nat)(a:ops[i]?=some o)(h:TL X ops V σ [o] (DK X ops k V0 fuel listed i Q))(b:Region.ready .any ops listed=[i]:=by kernel_rfl):TD X ops k V0 (fuel+1) listed V σ Q:=ya i b a h
theorem dD (h:TQ X V σ .normal Q)(a:Region.ready .any ops listed=[]:=by kernel_rfl):TD X ops k V0 fuel listed V σ Q:=wh a h
theorem qE {i:Nat}(h:TD X ops k V0 fuel (listed.setIfInBounds i true) V σ Q)(a:Nat.blt i k=false:=by exact rfl):TQ X V σ .normal (DK X ops k V0 fuel listed i Q):=wl a h
end
end Go.Pg
namespace Go.Pg
section
variable {X:Cx}{V:List HP}{σ:cZ}{Q:Exit→cZ→World→Prop}{ops:Array Oper}{rest:List Oper}
variable {d:Option Nat}{ty:TypeId}{pos:String}{af:Array Edge}{gd:Option (Nat×Bool)}
variable {α β:Type}
end
section
variable (K:Kind Int)(A:Option Addr)(n c:Nat)
end
section
variable {C w:World}{V:List HP}{α β γ:Type}
end
section
variable {α β γ:Type}
end
section
variable {X:Cx}{V:List HP}{σ:cZ}{Q:Exit→cZ→World→Prop}
end
theorem St.em {C w:World}{V:List HP}(s:St C w V):St C w (Ao::V):=by
 obtain ⟨a,I,h,g,j,l,s⟩:=s
 exact ⟨a,I,h,g,j,l,Hp.none,h,Join.none h,rfl,s⟩
end Go.Pg
namespace Go.Pg
def nv (xs:List Int):aM:=xs.map fun n=>UInt8.ofNat n.toNat
section
variable {X:Cx}{V:List HP}{σ:cZ}{Q:Exit→cZ→World→Prop}{ops:Array Oper}{rest:List Oper}
variable {d:Option Nat}{ty:TypeId}{pos:String}{af:Array Edge}{gd:Option (Nat×Bool)}
theorem yg {h b e:TypeId}{x:Operand}{a:Option Addr}{n c:Nat}{xs:List Int}(i:Nat)(G:li X.P h=some e)(B:X.P.underlying e=some (.int .u8))(u:X.P.underlying b=some .string)
  (O:jC (lk V i) (Kind.int .u8) (.slice a n c) xs) (m:ev σ x=.slice a n c):VO X V σ ⟨d,.convert h b x,ty,pos,af,gd⟩ (aD (nv xs)):=by
 intro w s
 obtain ⟨J,lw,r⟩:=s.reads O
 obtain ⟨A,U,T,_,_,D⟩:=r
 injection T with e1 e2 e3
 subst e1 e2 e3
 have l:=iO G
 by_cases hp:0<xs.length
 ·obtain ⟨g,o,rfl,L⟩:=D hp
  have:=run_convert_bytes_arg (P:=X.P) w h e l B g o xs.length c xs rfl (fun k q=>by
   obtain ⟨cs,h1,h2⟩:=L k _ (List.getElem?_eq_getElem q)
   replace h1:cs=[.int .u8 xs[k]]:=h1
   subst h1
   have:=iC lw (h2 0 _ rfl)
   rw [List.getD_eq_getElem?_getD,List.getElem?_eq_getElem q,Option.getD_some]
   have M:o+k*(Kind.int .u8).sz+0=o+k:=by show o+k*1+0=o+k; omega
   rw [M] at this
   exact this) b u
  simp only [execOp,m,Sem.run_bind,this,Result.andThen_ok,Sem.run_pure]
  rfl
 ·have I:xs=[]:=List.eq_nil_of_length_eq_zero (by omega)
  subst I
  have:(convert h b (.slice a 0 c)).run X.P w=.ok (.string ByteArray.empty) w:=by
   rw [run_convert_bytes_string w h b e a 0 c l B u]
   cases a with
   | none=>simp [Conv.bytesToString]
   | some a =>
    have E:(loadCells a 0).run X.P w=.ok (([]:List Int).map (Value.int .u8)).toArray w:=run_loadCells_list (P:=X.P) w a [] (fun j v F=>by simp at F)
    rw [run_bytesToString w a 0 c [] E]; rfl
  have m:ev σ x=.slice a 0 c:=m
  simp only [execOp,m,Sem.run_bind,this,Result.andThen_ok,Sem.run_pure]
  rfl
theorem ua {α:Type}{K:Kind α}{t e:TypeId}{x y:Operand}{m:Int}{z:α}{q:Nat}(hd:iD X.n d=true)(hw:dP ops σ ⟨d,.makeSlice t x y,ty,pos,af,gd⟩=true)(Z:li X.P t=some e)(l:hK X.P e=some K.sz)(B:gQ X.P e=some q)
  (U:o9 X.P K e z) (Y:0<K.sz) (hx:ev σ x=.int .i64 0) (M:ev σ y=.int .i64 m) (h0:0≤m) (h1:m≤140737488355328) (h2:q*m≤281474976710656)
  (h:∀ a c,TL X ops (ow K e (.slice a ([]:List α).length c) []::V) (fV σ d (.slice a ([]:List α).length c)) rest Q):TL X ops V σ (⟨d,.makeSlice t x y,ty,pos,af,gd⟩::rest) Q:=by
 intro w s
 obtain ⟨cs,g,E,T⟩:=U
 unfold kv at g
 unfold hK at l
 unfold gQ at B
 cases hi:X.P.info? e with
 | none=>rw [hi] at l; cases l
 | some info =>
  rw [hi] at g l B
  simp only [Option.map_some,Option.some.injEq,Option.bind_some] at g l B
  cases hzz:info.zero with
  | none=>rw [hzz] at g; cases g
  | some zv =>
   rw [hzz] at g
   simp only [Option.map_some,Option.some.injEq] at g
   have hr:=run_make (P:=X.P) w t e info zv (iO Z) hi hzz .i64 .i64 0 m (Int.le_refl _) h0 (by rw [B]; exact h2) (by omega)
   refine eN hd hw ?_
   have D:(execOp (ev σ) ⟨d,.makeSlice t x y,ty,pos,af,gd⟩).run X.P w=.ok (.value (.slice (some ⟨w.heap.size,0,none⟩) 0 m.toNat)) (w.alloc (.cells (madeCells zv.cells (m.toNat*info.size)) e)):=by
    simp only [execOp,hx,M,Sem.run_bind,hr,Result.andThen_ok,Sem.run_pure]; rfl
   rw [D]
   have G:zv.cells.size=K.sz:=by rw [← E,← g]; simp
   have u:(madeCells zv.cells (m.toNat*info.size)).toList=(List.replicate m.toNat cs).flatten:=by
    rw [l,← G,mX _ (by omega),← g]
   have r:(madeCells zv.cells (m.toNat*info.size)).toList.length=m.toNat*K.sz:=by rw [Array.length_toList,size_madeCells,l]
   refine h (some ⟨w.heap.size,0,none⟩) m.toNat _ (St.new s (fun a=>a.alloc _) (fun I _=>?_) ?_)
   ·obtain ⟨O,J⟩:=Join.of_disj (h1:=Hp.one w.heap.size (.cells (madeCells zv.cells (m.toNat*info.size)) e)) (h2:=Hp.none) (fun _=>.inr rfl)
    have L:=J.symm.eq_of_none
    refine ⟨O,.inr ⟨w.heap.size,m.toNat,[],[],(madeCells zv.cells (m.toNat*info.size)).toList,(0,0),Hp.none,by simp,by simp,by simp only [maxLen]; omega,by rw [r]; simp,.inl rfl,?_,rfl,rfl⟩,?_,?_⟩
    ·simp only [List.nil_append,List.append_nil,Array.toArray_toList]
     exact J
    ·rw [L]
     intro b o j
     simp only [Hp.one] at j
     split at j
     ·rename_i i
      subst i
      rw [← Option.some.inj j]
      show (w.heap.push _)[w.heap.size]?=_
      simp
     ·cases j
    ·rw [L]
     intro b i
     simp only [Hp.one] at i
     split at i
     ·rename_i j; exact Nat.le_of_eq j.symm
     ·exact absurd rfl i
   ·intro b o j
    have F:=(Array.getElem?_eq_some_iff.1 j).1
    show (w.heap.push _)[b]?=_
    rw [Array.getElem?_push,if_neg (Nat.ne_of_lt F)]
    exact j
end
end Go.Pg
namespace Go.Pg
abbrev gl (g:Nat)(m:Int):HP:=cl g 0 [.int .i64 m]
theorem St.dg {C w:World}{V:List HP}{g k:Nat}{cs:List Value}(s:St C w V)(i:Nat)(b:lk V i=cl g k cs):St C w (cl g k cs::V):=by
 obtain ⟨a,I,h,e,j,l,st⟩:=s
 obtain ⟨h1,h2,m,p,s'⟩:=eS i st
 rw [b] at p
 exact ⟨a,I,h,e,j,l,Hp.none,h,Join.none h,⟨rfl,p.2⟩,st⟩
theorem qa {P:Program}{f:FuncId}{args:List Value}{v:Value}(h:∀ w,Calls P f args.toArray w fun e a=>e=.returned v∧a=w):FnOk P f args [] (fun _:Unit=>(v,[])):=by
 intro C w V s
 refine Calls.mono' (h w) ?_
 rintro e a ⟨rfl,rfl⟩
 exact ⟨(),rfl,s⟩
theorem yh {P:Program}{f:FuncId}{args:List Value}{v:Value}{g:Nat}{m:Int}(h:∀ w,w.cell? ⟨g,0,none⟩=some (.int .i64 m)→Calls P f args.toArray w fun e a=>e=.returned v∧a=w):FnOk P f args [gl g m] (fun _:Unit=>(v,[])):=by
 intro C w V s
 obtain ⟨I,l,p,i,j,-⟩:=s.look 0
 have b:w.cell? ⟨g,0,none⟩=some (.int .i64 m):=iC i (p.2 0 _ rfl)
 refine Calls.mono' (h w b) ?_
 rintro e a ⟨rfl,rfl⟩
 exact ⟨(),rfl,s.rm 0⟩
end Go.Pg
namespace Go.Pg
def yi (P:Program)(T:TypeId):Option (Nat×TypeId):=match P.underlying T with
 | some (.array n e)=>some (n,e)
 | _=>none
theorem r' {P:Program}{T:TypeId}{n:Nat}{e:TypeId}(h:yi P T=some (n,e)):P.underlying T=some (.array n e):=by
 unfold yi at h
 split at h
 ·rename_i b g a
  injection h with h; injection h with h1 h2
  subst h1 h2; exact a
 ·cases h
section
variable {X:Cx}{V:List HP}{σ:cZ}{Q:Exit→cZ→World→Prop}{ops:Array Oper}{rest:List Oper}
variable {d:Option Nat}{ty:TypeId}{pos:String}{af:Array Edge}{gd:Option (Nat×Bool)}
theorem wv {T e:TypeId}{n sz:Nat}{z:List Value}(m:yi X.P T=some (n,e))(i:kv X.P T=some z)(j:hK X.P e=some sz):VO X V σ ⟨d,.build T #[],ty,pos,af,gd⟩ (.agg z.toArray):=by
 intro w _
 obtain ⟨g,b,a⟩:=kz (P:=X.P) (w:=w) i
 have q:∀ l,Instr.fill l g.cells []=some g.cells:=fun _=>rfl
 have h:g.cells=z.toArray:=by rw [a]
 simp only [execOp,Instr.build,Sem.run_bind,b,Result.andThen_ok,run_underlying (r' m),eI j,List.map_toArray,List.map_nil,h]
 rfl
theorem s6 {t e:TypeId}{x y:Operand}{g o n sz:Nat}{k:IntKind}{j:Int}(i:yi X.P t=some (n,e))(a:hK X.P e=some sz)(m:ev σ x=.pointer (some ⟨g,o,none⟩))(b:ev σ y=.int k j)(h:0≤j∧j<(n:Int)) :
  VO X V σ ⟨d,.indexAddr t x y,ty,pos,af,gd⟩ (.pointer (some ⟨g,o+j.toNat*sz,none⟩)):=by
 intro w _
 have l:=r' i
 simp [execOp,m,b,Instr.indexAt,asIntOf,run_underlying l,Instr.sureAddr,h.1,h.2,eI a,fS]
end
theorem s7 {k:IntKind}(I:Hp)(xs:List Int):gF (Kind.int k) I Hp.none xs (xs.map (Value.int k)):=by
 induction xs with
 | nil=>exact ⟨rfl,rfl⟩
 | cons x xs ih=>exact ⟨Hp.none,Hp.none,[.int k x],_,Join.none _,rfl,⟨rfl,rfl⟩,ih⟩
theorem St.b2o {C w:World}{V:List HP}{b:Nat}{T:Nat}{k:IntKind}{cs:List Value}(s:St C w V)(i:Nat)(xs:List Int)(u:lk V i=aJ b cs T)(q:cs=xs.map (Value.int k)){n:Nat}(r:xs.length=n)(e:Nat.ble n 1000=true) :
  St C w (ow (Kind.int k) T (.slice (some ⟨b,0,none⟩) n n) xs::Pg.rm V i):=by
 subst r
 have a:=s.mv i
 unfold Pg.mv at a
 refine St.imp (A:=[lk V i]) (B:=[_]) (V:=Pg.rm V i) a ?_
 rintro I h _ _ ⟨h1,h2,j,p,g⟩
 rw [u] at p
 obtain rfl:h2=Hp.none:=g
 refine ⟨h1,Hp.none,j,?_,rfl⟩
 obtain ⟨fr,l,m⟩:∃ fr,h1=Hp.one b (.cells cs.toArray T fr)∧(fr=(0,0)∨cs.length≤fr.1):=⟨(0,0),p,.inl rfl⟩
 have e:=Nat.le_of_ble_eq_true e
 subst q
 exact .inr ⟨b,xs.length,[],xs.map (Value.int k),[],fr,Hp.none,rfl,Nat.le_refl _,by simp only [maxLen]; omega,by simp,by simpa using m,by rw [l]; simpa using (Join.none _).symm,s7 I xs⟩
end Go.Pg
namespace Go.Pg
def pk (L:List HP):HP:=⟨fun I h=>eQ L I h,fun l s=>iB l s⟩
theorem St.pack {C w:World}{A V:List HP}(s:St C w (A++V)):St C w (pk A::V):=by
 refine St.imp (A:=A) (B:=[pk A]) s ?_
 intro I h _ _ a
 exact ⟨h,Hp.none,(Join.none h).symm,a,rfl⟩
theorem St.unpack {C w:World}{A V:List HP}(s:St C w (pk A::V)):St C w (A++V):=by
 refine St.imp (A:=[pk A]) (B:=A) s ?_
 rintro I h _ _ ⟨h1,h2,j,a,rfl⟩
 rw [j.symm.eq_of_none]; exact a
def InvOk {A:Type}(P:Program)(v:Value)(b:String)(args:List Value)(e:List HP)(a:A→Value×List HP):Prop :=
 ∃ (f:FuncId) (as:List Value),(∀ w,(callMethod v b args.toArray).run P w=.ok (.enter f as.toArray) w)∧FnOk P f as e a
theorem InvOk.mk {A:Type}{P:Program}{v r:Value}{b:String}{args:List Value}{e:List HP}{a:A→Value×List HP}{f:FuncId}
  (h:∀ (args:Array Value) w,(callMethod v b args).run P w=.ok (.enter f (#[r]++args)) w) (g:FnOk P f (r::args) e a):InvOk P v b args e a :=
 ⟨f,r::args,fun w=>by rw [h]; simp,g⟩
theorem InvOk.perm {A:Type}{P:Program}{v:Value}{b:String}{args:List Value}{e Pre':List HP}{a:A→Value×List HP}(g:InvOk P v b args e a)(h:∀ C w V,St C w (Pre'++V)→St C w (e++V)):InvOk P v b args Pre' a:=by
 obtain ⟨f,as,h1,h2⟩:=g
 exact ⟨f,as,h1,h2.perm h⟩
theorem InvOk.lends {T:Type}{P:Program}{v:Value}{b:String}{args:List Value}{A' A B:List HP}{a:T→Value×List HP}(e:InvOk P v b args (A++B) a)(g:p' A' A)(h:∀ x,AllC (a x).2):InvOk P v b args (A'++B) (fun x=>((a x).1,A'++(a x).2)):=by
 obtain ⟨f,as,h1,h2⟩:=e
 exact ⟨f,as,h1,h2.lends g h⟩
section
variable {X:Cx}{V:List HP}{σ:cZ}{Q:Exit→cZ→World→Prop}{ops:Array Oper}{rest:List Oper}
variable {d:Option Nat}{ty:TypeId}{pos:String}{af:Array Edge}{gd:Option (Nat×Bool)}
theorem s8 {A:Type}{r:Operand}{a:String}{xs:Array Operand}{g:Array TypeId}{v:Value}{as:List Value}{h:List HP}{b:A→Value×List HP}(m:Nat)(hw:dP ops σ ⟨d,.call ⟨.invoke r a,xs,g⟩,ty,pos,af,gd⟩=true)
  (I:ev σ r=v) (q:xs.toList.map (ev σ)=as) (j:InvOk X.P v a as h b) (F:tk m V=h) (k:∀ x,TL X ops ((b x).2++dp m V) (fV σ d (b x).1) rest Q)
  (E:iD X.n d=true:=by exact rfl):TL X ops V σ (⟨d,.call ⟨.invoke r a,xs,g⟩,ty,pos,af,gd⟩::rest) Q:=by
 intro w s
 refine eN E hw ?_
 obtain ⟨f,i,B,j⟩:=j
 have l:(execOp (ev σ) ⟨d,.call ⟨.invoke r a,xs,g⟩,ty,pos,af,gd⟩).run X.P w=.ok (.enter f i.toArray) w:=by
  have u:(#[v]++xs.map (ev σ)).extract 1 (#[v]++xs.map (ev σ)).size=as.toArray:=by
   rw [lQ xs _ q]
   have:(#[v]++as.toArray).size=as.length+1:=by simp [Nat.add_comm]
   rw [this]
   apply Array.ext'
   simp [Array.toList_extract,List.extract]
  have G:(#[v]++xs.map (ev σ))[0]?=some v:=by rw [Array.getElem?_append_left (by simp)]; rfl
  simp only [execOp,resolve,I,Sem.run_bind,Sem.run_pure,Result.andThen_ok,invoke,G,u,B]
 rw [l]
 rw [← md m V,F] at s
 refine Calls.mono' (j X.C w _ s) ?_
 rintro e D ⟨x,rfl,s'⟩
 exact k x D s'
theorem iF {T h:TypeId}{x:Operand}{u:TypeId}{v:Value}(a:X.P.underlying T=some (.interface (X.P.methodsAt T)))(i:ev σ x=.iface u v):VO X V σ ⟨d,.binOp .eql T x (.const .nilIface) h,ty,pos,af,gd⟩ (.bool false):=by
 intro w _
 have e:ev σ (.const .nilIface)=.nilIface:=rfl
 have g:(eqGuard .eql T x (.const .nilIface) (.iface u v) .nilIface).run X.P w=.ok () w:=rfl
 have b:binOp .eql T (.iface u v) .nilIface=(do pure (.bool (← Op.equal T (.iface u v) .nilIface))):=rfl
 simp only [execOp,i,e,Sem.run_bind,g,Result.andThen_ok,b,run_equal_held_nil w T u v a,Sem.run_pure]
theorem ub {T a:TypeId}{x:Operand}(h:X.P.underlying T=some (.interface (X.P.methodsAt T)))(i:ev σ x=.nilIface):VO X V σ ⟨d,.binOp .eql T x (.const .nilIface) a,ty,pos,af,gd⟩ (.bool true):=by
 intro w _
 have e:ev σ (.const .nilIface)=.nilIface:=rfl
 have g:(eqGuard .eql T x (.const .nilIface) .nilIface .nilIface).run X.P w=.ok () w:=by
  cases x<;>rfl
 have b:binOp .eql T .nilIface .nilIface=(do pure (.bool (← Op.equal T .nilIface .nilIface))):=rfl
 simp only [execOp,i,e,Sem.run_bind,g,Result.andThen_ok,b,run_equal_nil_nil w T h,Sem.run_pure]
theorem iY {u:TypeId}{x:Operand}{v:Value}(a:X.P.concrete u=true)(b:ev σ x=v):VO X V σ ⟨d,.makeInterface u x,ty,pos,af,gd⟩ (.iface u v):=by
 intro w _
 simp only [execOp,b,Sem.run_bind,run_makeInterface w _ _ a,Result.andThen_ok,Sem.run_pure]
end
end Go.Pg
namespace Go.Pg
def ob (l:Nat)(o:Obj):HP:=⟨fun _ h=>h=Hp.one l o,fun _ e=>e⟩
abbrev tT (l:Nat)(r:Loop):HP:=ob l (.loop r)
def pe {A:Type}(f:A→List HP):HP:=⟨fun I h=>∃ x,eQ (f x) I h,fun l ⟨x,s⟩=>⟨x,iB l s⟩⟩
theorem St.pei {C w:World}{A:Type}{f:A→List HP}{V:List HP}(x:A)(s:St C w (f x++V)):St C w (pe f::V):=by
 refine St.imp (A:=f x) (B:=[pe f]) s ?_
 intro I h _ _ a
 exact ⟨h,Hp.none,(Join.none h).symm,⟨x,a⟩,rfl⟩
theorem St.peo {C w:World}{A:Type}{f:A→List HP}{V:List HP}(s:St C w (pe f::V)):∃ x,St C w (f x++V):=by
 obtain ⟨a,I,h,g,j,l,h1,h2,b,⟨x,c⟩,d⟩:=s
 exact ⟨x,a,I,h,g,j,l,cD.2 ⟨h1,h2,b,c,d⟩⟩
theorem jL (l:Nat)(o:Obj):Hp.one l o l=some o:=by simp [Hp.one]
theorem nw {l b:Nat}{o:Obj}(h:Hp.one l o b≠none):b=l:=by
 unfold Hp.one at h
 split at h
 ·assumption
 ·exact absurd rfl h
theorem jX {C w:World}{V:List HP}{l:Nat}{o:Obj}(s:St C w V)(i:Nat)(h:lk V i=ob l o):w.heap[l]?=some o:=by
 obtain ⟨I,g,p,_,a,_⟩:=s.look i
 rw [h] at p
 cases p
 exact a l o (jL l o)
theorem Same.putObj {C w:World}(s:Same C w)(l:Nat)(o:Obj):Same C (w.putObj l o):=⟨s.os,s.tape,s.output⟩
theorem St.putObj {C w:World}{V:List HP}{l:Nat}{o o':Obj}(s:St C w (ob l o::V)):St C (w.putObj l o') (ob l o'::V):=by
 have i:=jX s 0 rfl
 have g:l<w.heap.size:=(Array.getElem?_eq_some_iff.1 i).1
 refine St.turn s 0 (q:=ob l o') (fun a=>a.putObj l o') ?_
 rintro I h e _ _
 cases e
 refine ⟨_,rfl,?_,?_,?_⟩
 ·intro b o2 e
  have:=nw (by rw [e]; exact fun h=>by cases h)
  subst this
  rw [jL] at e
  cases e
  exact World.putObj_heap_same g
 ·intro b j
  have:=nw j
  subst this
  exact .inl (by rw [jL]; exact fun h=>by cases h)
 ·intro b o2 e h2
  rw [World.putObj_heap_other]
  ·exact h2
  ·rintro rfl
   rw [jL] at e; cases e
theorem St.newOb {C w:World}{V:List HP}(s:St C w V)(o:Obj):St C (w.alloc o) (ob w.heap.size o::V):=by
 refine St.new s (q:=ob w.heap.size o) (fun a=>a.alloc o) (fun I _=>⟨_,rfl,?_,?_⟩) ?_
 ·intro b o2 e
  have:=nw (by rw [e]; exact fun h=>by cases h)
  subst this
  rw [jL] at e
  cases e
  exact World.alloc_heap_new w o
 ·intro b i
  exact Nat.le_of_eq (nw i).symm
 ·intro b o2 e
  show (w.heap.push o)[b]?=some o2
  have g:=(Array.getElem?_eq_some_iff.1 e).1
  rw [Array.getElem?_push,if_neg (Nat.ne_of_lt g)]
  exact e
def xS (ro:Option Nat):Fence:={Fence.wide with round:=ro}
theorem qU {ro:Option Nat}{n:Nat}{P:Program}{f:FuncId}{args:Array Value}{w:World}{R:Ending→World→Prop}(h:Calls P f args w R):CallsIn (xS ro) n P f args w R :=
 (callsIn_wide (n:=n)).2 h
theorem s9 {ro:Option Nat}{n:Nat}{P:Program}{a:String}{args:Array Value}{w:World}{R:Value→World→Prop}(h:Rows P a args w R):RowsIn (xS ro) n P a args w R:=by
 intro c cs _
 obtain ⟨v,b,r,s⟩:=h c cs
 exact ⟨v,b,r,stepsIn_wide.2 s⟩
theorem sd {ro:Option Nat}{P:Program}{o:Oper}{a:Act}{b:Act→World→Prop}{Q:Exit→Act→World→Prop}{r:Result Next}(h:o.upon P a b Q r):o.uponIn (xS ro) 0 P a b Q r:=by
 match r,h with
 | .ok (.value v) w',h=>exact h
 | .ok .skip w',h=>exact h
 | .ok (.defer d) w',h=>exact h
 | .ok (.enter f args) w',h =>
  refine ⟨(fun h=>by cases h),?_⟩
  refine (qU h).mono ?_
  intro e i g
  cases e<;>exact g
 | .ok (.row row args) w',h=>exact ⟨(fun h=>by cases h),s9 h⟩
 | .halt (.panic v) w',h=>exact h
def jY (l:List Oper):Bool:=l.all fun o=>match o.op with
 | .defer _=>false
 | _=>true
theorem kE {ro:Option Nat}{P:Program}{ops:Array Oper}{Q:Exit→Act→World→Prop}(s:¬ LetsOut Q):∀ (l:List Oper) (a:Act) (w:World),jY l=true→wpList P ops Q l a w→wpListIn (xS ro) 0 P ops Q l a w:=by
 intro l
 induction l with
 | nil=>exact fun a w _ h=>h
 | cons o l ih =>
  intro a w g h
  simp only [jY,List.all_cons,Bool.and_eq_true] at g
  have m:∀ c,o.op≠.defer c:=by
   intro c q
   have:=g.1
   rw [q] at this
   cases this
  unfold wpList at h
  unfold wpListIn
  split
  ·rename_i hw
   rw [if_pos hw] at h
   have h:=h.resolve_right fun h=>s h.2
   refine ⟨fun _ _=>trivial,?_⟩
   have e:o.semAt (xS ro).round a.eval=execOp a.eval o:=Oper.semAt_eq _ _ _ m
   rw [e]
   unfold Oper.wp at h
   have mono:∀ r,o.upon P a (wpList P ops Q l) Q r→o.upon P a (wpListIn (xS ro) 0 P ops Q l) Q r:=by
    intro r b
    match r,b with
    | .ok (.value v) w',b=>exact ih _ _ g.2 b
    | .ok .skip w',b=>exact ih _ _ g.2 b
    | .ok (.defer _) w',b=>exact ih _ _ g.2 b
    | .ok (.enter f args) w',b =>
     refine Calls.mono' b ?_
     intro e i j
     cases e with
     | returned v=>exact ih _ _ g.2 j
     | panicked c=>exact j
     | outgrown=>exact j
    | .ok (.row row args) w',b=>exact Rows.mono b fun v i h=>ih _ _ g.2 h
    | .halt (.panic v) w',b=>exact b
   exact sd (mono _ h)
  ·rename_i hw
   rw [if_neg hw] at h
   exact ⟨fun _ _=>trivial,ih _ _ g.2 h⟩
def Aw {A:Type}(P:Program)(l:Nat)(args:List Value)(g:List HP)(a:A→Value×List HP):Prop :=
 ∀ C w V,St C w (g++V)→∃ f tmps b body,(Instr.yield l args.toArray).run P w=.ok (.round l f tmps b body) w ∧
  RoundIn Fence.wide 0 P l f tmps b body w (fun e h=>∃ x,e=.returned (a x).1∧St C h ((a x).2++V))
def yj (P:Program)(N:Nn)(ops:Array Oper)(rest:List Oper)(Q:Exit→cZ→World→Prop)(σ:cZ)(w:World):Prop :=
 ∀ a:Act,a.tmps.size=N.n→a.defers=N.ds→eU a=σ→wpListIn Fence.wide 0 P ops (gM N Q) rest a w
section
variable {X:Cx}{V:List HP}{σ:cZ}{Q:Exit→cZ→World→Prop}{ops:Array Oper}{rest:List Oper}
variable {d:Option Nat}{ty:TypeId}{pos:String}{af:Array Edge}{gd:Option (Nat×Bool)}
theorem qb {N:Nn}{Q:Exit→cZ→World→Prop}(h:∀ σ w,Q .outgrown σ w→False):¬ LetsOut (gM N Q):=by
 rintro ⟨a,w,q⟩
 exact h _ _ (fG q (by simp)).2.2
theorem ww {F:Nat}{l:List Oper}(k:Nat)(G:jY (l.take k)=true)(E:∀ σ w,Q .outgrown σ w→False)
  (h:TL X l.toArray V σ (l.take k) (iu (fun σ w=>yj X.P X.n l.toArray (l.drop k) Q σ w) Q)):TC X V σ (.region F l.toArray false) Q:=by
 intro w s a h1 h2 L
 refine (wpIn_wide (n:=0)).1 (wpIn_region_lit ?_)
 have h:=kE (ro:=none) (qb (N:=X.n) (Q:=iu (fun σ w=>yj X.P X.n l.toArray (l.drop k) Q σ w) Q) E) _ a w G (h w s a h1 h2 L)
 have mono:∀ (j:List Oper) (a:Act) (w:World),wpListIn Fence.wide 0 X.P l.toArray (gM X.n (iu (fun σ w=>yj X.P X.n l.toArray (l.drop k) Q σ w) Q)) j a w→wpListIn Fence.wide 0 X.P l.toArray (gM X.n Q) (j++l.drop k) a w:=by
  intro j
  induction j with
  | nil =>
   intro a w h
   obtain ⟨J,M,I⟩:=fG h (by simp)
   exact I a J M rfl
  | cons o j ih =>
   intro a w h
   have B:∀ e,e≠Exit.normal→∀ a w,gM X.n (iu (fun σ w=>yj X.P X.n l.toArray (l.drop k) Q σ w) Q) e a w→gM X.n Q e a w:=by
    intro e i a w q
    cases e with
    | normal=>exact absurd rfl i
    | _=>exact q
   unfold wpListIn at h
   show wpListIn Fence.wide 0 X.P l.toArray (gM X.n Q) (o::(j++l.drop k)) a w
   unfold wpListIn
   split
   ·rename_i hw
    rw [if_pos hw] at h
    refine ⟨h.1,?_⟩
    have h:=h.2
    revert h
    generalize (o.semAt Fence.wide.round a.eval).run X.P w=r
    intro g
    match r,g with
    | .ok (.value v) w',g=>exact ih _ _ g
    | .ok .skip w',g=>exact ih _ _ g
    | .ok (.defer _) w',g=>exact ih _ _ g
    | .ok (.enter f args) w',g =>
     refine ⟨g.1,g.2.mono ?_⟩
     intro e m i
     cases e with
     | returned v=>exact ih _ _ i
     | panicked c=>exact B _ (by intro h; cases h) _ _ i
     | outgrown=>obtain ⟨b,u,D⟩:=i; exact ⟨b,u,B _ (by intro h; cases h) _ _ D⟩
    | .ok (.row row args) w',g=>exact ⟨g.1,g.2.mono fun v m h=>ih _ _ h⟩
    | .ok (.round l0 f tmps asn body) w',g =>
     refine ⟨g.1,g.2.mono ?_⟩
     intro e m i
     cases e with
     | returned v=>exact ih _ _ i
     | panicked c=>exact B _ (by intro h; cases h) _ _ i
     | outgrown=>obtain ⟨b,u,D⟩:=i; exact ⟨b,u,B _ (by intro h; cases h) _ _ D⟩
    | .halt (.panic v) w',g=>exact B _ (by intro h; cases h) _ _ g
   ·rename_i hw
    rw [if_neg hw] at h
    exact ⟨h.1,ih _ _ h.2⟩
 have:=mono _ a w h
 rw [List.take_append_drop] at this
 exact this
theorem uc {A:Type}{q:Operand}{l:Nat}{xs:Array Operand}{g:Array TypeId}{as:List Value}{b:A→Value×List HP}{j:List HP}{i:Nat}(m:Nat)
  (U:ev σ q=.func (.yield l) #[] #[]) (O:xs.toList.map (ev σ)=as) (G:Aw X.P l as j b) (J:tk m V=j) (L:∀ σ w,Q .outgrown σ w→False) (Y:jY rest=true)
  (k:∀ x,TL X ops ((b x).2++dp m V) (ku σ i (b x).1) rest Q) (u:iD X.n (some i)=true:=by exact rfl) :
  TQ X V σ .normal (iu (fun σ w=>yj X.P X.n ops (⟨some i,.call ⟨.value q,xs,g⟩,ty,pos,af,none⟩::rest) Q σ w) Q):=by
 intro w s a h1 h2 D
 refine wpListIn_plain rfl fun K F=>⟨fun _ _=>trivial,?_⟩
 rw [← md m V,J] at s
 obtain ⟨f,tmps,B,body,E,M⟩:=G X.C w _ s
 have r:(execOp (ev σ) ⟨some i,.call ⟨.value q,xs,g⟩,ty,pos,af,none⟩).run X.P w=.ok (.round l f tmps B body) w:=by
  have e:(#[]++xs.map (ev σ))=as.toArray:=by rw [lQ xs _ O]; simp
  simp only [execOp,resolve,U,Deferred.ofValue,Sem.run_bind,Sem.run_pure,Result.andThen_ok,invoke,e,E]
 rw [show Fence.wide.round=none from rfl,Oper.semAt_none,jG,D,r]
 refine ⟨(fun h=>by cases h),M.mono ?_⟩
 rintro e T ⟨x,rfl,s'⟩
 refine F _ _ ?_
 obtain ⟨p1,Z,I⟩:=kZ (o:=⟨some i,.call ⟨.value q,xs,g⟩,ty,pos,af,none⟩) u h1 h2 D (b x).1
 exact kE (ro:=none) (qb L) _ _ _ Y (k x T s' _ p1 Z I)
end
end Go.Pg
namespace Go.Pg
theorem St.dn {C w:World}{p:HP}{A V:List HP}(s:St C w (p::(A++V))):St C w (A++p::V):=by
 obtain ⟨q,I,h,g,j,lw,g1,B,e,c,d⟩:=s
 obtain ⟨k1,i,l,b,u⟩:=cD.1 d
 obtain ⟨m,r,a⟩:=Join.assoc' l.symm e
 exact ⟨q,I,h,g,j,lw,cD.2 ⟨k1,m,a.symm,b,g1,i,r,c,u⟩⟩
theorem St.up {C w:World}{p:HP}{A V:List HP}(s:St C w (A++p::V)):St C w (p::(A++V)):=by
 obtain ⟨q,I,h,g,j,lw,d⟩:=s
 obtain ⟨k1,B,i,b,g1,e,l,c,u⟩:=cD.1 d
 obtain ⟨m,r,a⟩:=Join.assoc' l.symm i
 exact ⟨q,I,h,g,j,lw,g1,m,a.symm,c,cD.2 ⟨k1,e,r,b,u⟩⟩
structure Rec (rc:Loop)(ps:Array Tmp)(asn body:Code)(n:Nat)(σ:cZ):Prop where
 st:rc.state=.ready
 pe:rc.pending=none
 ps:rc.params=ps
 asn:rc.assign=asn
 body:rc.body=body
 sz:rc.tmps.size=n
 env:(fun t=>rc.tmps.getD t undef)=σ
def Ax (X:Cx)(σ2:cZ)(V:List HP):Exit→cZ→World→Prop
 | .normal,σ,w=>σ=σ2∧St X.C w V
 | _,_,_=>False
def Ay (X:Cx)(go:Bool){A:Type}(f:A→List HP)(V:List HP):Exit→cZ→World→Prop
 | .normal,_,w=>go=true∧∃ x,St X.C w (f x++V)
 | _,_,_=>False
theorem yk {X:Cx}{V:List HP}{σ:cZ}:TQ X V σ .normal (Ax X σ V):=fun w s=>⟨rfl,s⟩
theorem Az {X:Cx}{A:Type}{f:A→List HP}{V0 V:List HP}{σ:cZ}{go:Bool}(x:A)(a:go=true)(h:∀ w,St X.C w V0→St X.C w (f x++V)):TQ X V0 σ .normal (Ay X go f V):=fun w s=>⟨a,x,h w s⟩
theorem oh {a:Loop}{s:LoopState}(h1:a.state=.ready)(h2:a.pending=none):({{a with state:=s} with state:=.ready,pending:=none}:Loop)=a:=by
 cases a; simp only at h1 h2; subst h1; subst h2; rfl
theorem yok {A:Type}{P:Program}{l:Nat}{g:Loop}{p:Tmp}{n i1 b i2:Nat}{F G:List Oper}{σ:cZ}{x:Value}{go:Bool}(B j:A→List HP)
  (i:Rec g #[p] (.region i1 F.toArray false) (.block b (.region i2 G.toArray false)) n σ) (h1:jY F=true) (h2:jY G=true) (Y:Nat.blt p n=true)
  (E:∀ a,∃ σ2,∀ C V,TL ⟨P,.of n,C⟩ F.toArray (B a++V) (ku σ p x) F (Ax ⟨P,.of n,C⟩ σ2 (B a++V))∧TL ⟨P,.of n,C⟩ G.toArray (B a++V) σ2 G (Ay ⟨P,.of n,C⟩ go j V)) :
  Aw P l [x] [pe fun a=>tT l g::B a] (fun _:Unit=>(.bool go,[pe fun a=>tT l g::j a])):=by
 intro C w V s
 obtain ⟨a,s⟩:=s.peo
 have hl:=jX s 0 rfl
 refine ⟨g.fn,_,g.assign,g.body,run_yield hl (by rw [i.ps]; rfl),?_⟩
 rw [i.asn,i.body,i.ps]
 have m:((#[p]:Array Tmp).zip [x].toArray).foldl (fun tmps (t,a)=>tmps.setIfInBounds t a) g.tmps=g.tmps.setIfInBounds p x:=by
  simp
 rw [m]
 have O:(g.tmps.setIfInBounds p x).size=n:=by rw [Array.size_setIfInBounds,i.sz]
 have M:p<g.tmps.size:=by rw [i.sz]; exact Nat.lt_of_lt_of_le (Nat.lt_succ_self _) (Nat.le_of_ble_eq_true Y)
 have u:eU {tmps:=g.tmps.setIfInBounds p x,defers:=[]}=ku σ p x:=by
  have:=jV {tmps:=g.tmps,defers:=[]} (some p) x (fun d e=>by cases e; exact M)
  rw [show ({tmps:=g.tmps,defers:=[]}:Act).put (some p) x={tmps:=g.tmps.setIfInBounds p x,defers:=[]} from rfl] at this
  rw [this,← i.env]
  rfl
 obtain ⟨σ2,wk⟩:=E a
 have Z:=(wk C (tT l g::V)).1
 have wb:=(wk C (tT l {g with state:=.busy}::V)).2
 refine roundIn_of_wpIn trivial (n:=0) ?_
 have g1:=kE (ro:=some l) (qb (N:=.of n) (Q:=Ax ⟨P,.of n,C⟩ σ2 (B a++tT l g::V)) fun _ _ h=>h) _ _ w h1 (Z w (St.dn s) _ O rfl u)
 refine wpIn_mono (wpIn_region_lit g1) ?_
 rintro e a' w' q
 cases e with
 | normal =>
  obtain ⟨U,T,r,I⟩:=fG q (by simp)
  have I:=St.up I
  have L:=jX I 0 rfl
  refine ⟨_,run_beginRound L i.st,?_⟩
  have s2:=St.dn (I.putObj (o':=.loop {g with state:=.busy}))
  have g2:=kE (ro:=some l) (qb (N:=.of n) (Q:=Ay ⟨P,.of n,C⟩ go j (tT l {g with state:=.busy}::V)) fun _ _ h=>h) _ _ _ h2 (wb _ s2 _ U T r)
  refine wpIn_block (wpIn_mono (wpIn_region_lit g2) ?_)
  rintro e a0 J q
  cases e with
  | normal =>
   obtain ⟨U,T,rfl,y,r⟩:=fG q (by simp)
   have r:=St.up r
   have D:=jX r 0 rfl
   refine ⟨_,_,run_endRound none D,(),rfl,?_⟩
   have s3:=r.putObj (o':=.loop {{g with state:=.busy} with state:=.ready,pending:=none})
   rw [oh i.st i.pe] at s3
   refine Eq.mp (congrArg (fun o=>St C (J.putObj l o) (pe (fun a=>tT l g::j a)::V)) ?_) (St.pei y s3)
   exact (congrArg Obj.loop (oh (s:=.busy) i.st i.pe)).symm
  | ret=>rcases q with ⟨_,_,q⟩|⟨_,q⟩<;>exact q.elim
  | _=>exact (fG q (by simp)).2.2.elim
 | ret=>rcases q with ⟨_,_,q⟩|⟨_,q⟩<;>exact q.elim
 | _=>exact (fG q (by simp)).2.2.elim
def mj (fn:Func):Bool:=fn.results.toList.all fun r=>match r with
 | .tmp _=>true
 | _=>false
theorem mP {fn:Func}{σ:cZ}{P:Program}{w g:World}{v:Value}(i:mj fn=true)(h:(hG fn σ).run P w=.ok v w):(hG fn σ).run P g=.ok v g:=by
 unfold hG at h ⊢
 obtain ⟨rs,e⟩:∃ rs:List ResultVar,fn.results=rs.toArray:=⟨fn.results.toList,by simp⟩
 rw [e,List.mapM_toArray] at h ⊢
 unfold mj at i
 rw [e] at i
 have j:∀ (rs:List ResultVar),rs.all (fun r=>match r with | .tmp _=>true | _=>false)=true→∃ vs,∀ w,(rs.mapM (fun | .tmp t=>pure (σ t) | .cell a t=>do loadVar t (← asAddr (σ a)):ResultVar→Sem Value)).run P w=.ok vs w:=by
  intro rs
  induction rs with
  | nil=>exact fun _=>⟨[],fun _=>rfl⟩
  | cons r rs ih =>
   intro h
   simp only [List.all_cons,Bool.and_eq_true] at h
   obtain ⟨vs,b⟩:=ih h.2
   cases r with
   | tmp t=>exact ⟨σ t::vs,fun w=>by simp [List.mapM_cons,b]⟩
   | cell a t=>cases h.1
 obtain ⟨vs,b⟩:=j rs (by simpa using i)
 simp only [Sem.run_bind,Sem.run_map] at h ⊢
 have l:=b w
 have m:=b g
 refine (congrArg (fun r=>Result.andThen (Result.andThen r _) _) m).trans ?_
 have h:=(congrArg (fun r=>Result.andThen (Result.andThen r _) _) l).symm.trans h
 simp only [Result.andThen_ok,Sem.run_pure] at h ⊢
 cases h
 rfl
abbrev pb (D:Nat):Deferred:={target:=.collected D,args:=#[]}
def xT {A:Type}(P:Program)(fn:Func)(C:World)(V:List HP)(b:A→Value×List HP):Act→World→Prop :=
 fun a w=>LeavesInM Fence.wide 0 P fn a.tmps (fun e g=>∃ x,e=.returned (b x).1∧St C g ((b x).2++V)) a.defers .returning w
theorem wx {A:Type}{P:Program}{f:FuncId}{fn:Func}{c:Code}{args:List Value}{l:List HP}{b:A→Value×List HP}(D:P.funcs[f]?=some fn)(E:fn.body=some c)(n:Nat)(u:fn.ntmps=n)(r:Nat.ble args.length n=true)
  (h:∀ C V,TC ⟨P,⟨n,[],xT P fn C V b⟩,C⟩ (l++V) (rH args.toArray) c (m8 P fn (qR ⟨P,⟨n,[],xT P fn C V b⟩,C⟩ V b))):FnOk P f args l b:=by
 subst u
 intro C w V s
 refine callsIn_wide.1 (callsIn_of_wp_marks (n:=0) D E trivial ?_)
 have r:args.toArray.size≤fn.ntmps:=by have:=Nat.le_of_ble_eq_true r; simpa using this
 refine (wpIn_wide (n:=0)).2 (wp_mono (h C V w s _ (by simp at r ⊢; omega) rfl pS) ?_)
 rintro e a g q
 rcases q with ⟨G,F,B⟩|⟨rfl,q⟩
 ·have j:∀ v,(hG fn (eU a)).run P g=.ok v g→qR ⟨P,⟨fn.ntmps,[],xT P fn C V b⟩,C⟩ V b v g→LeavesInM Fence.wide 0 P fn a.tmps (fun e g=>∃ x,e=.returned (b x).1∧St C g ((b x).2++V)) a.defers .returning g:=by
   rintro v i ⟨x,rfl,s'⟩
   rw [F]
   exact ⟨_,i,x,rfl,s'⟩
  cases e with
  | normal =>
   obtain ⟨v,i,m⟩:=B
   exact j v i m
  | ret =>
   obtain ⟨v,i,m⟩:=B
   exact j v i m
  | _=>exact B.elim
 ·exact q
def vq (P:Program)(fn:Func)(R:Value→World→Prop):Exit→cZ→World→Prop
 | .ret,σ,w=>∃ v,(hG fn σ).run P w=.ok v w∧R v w
 | _,_,_=>False
theorem wy {A:Type}{X b:Cx}{V V0:List HP}{σ:cZ}{a:A→Value×List HP}{P:Program}{fn:Func}(h:TQ X V σ .ret (m8 P fn (qR b V0 a))):TQ X V σ .ret (vq P fn (qR b V0 a)):=fun w s=>h w s
def Rg (X:Cx)(b rest:Code)(Q:Exit→cZ→World→Prop):cZ→World→Prop:=fun σ w =>
 ∀ a:Act,a.tmps.size=X.n.n→a.defers=X.n.ds→eU a=σ→b.wp X.P (Exit.then (rest.wp X.P (gM X.n Q)) (gM X.n Q)) a w
theorem wz {X:Cx}{V:List HP}{σ:cZ}{Q:Exit→cZ→World→Prop}{g b rest:Code}(h:TC X V σ g (iu (Rg X b rest Q) Q)):TC X V σ (.seq (.seq g b) rest) Q:=by
 intro w s a h1 h2 m
 refine wp_seq (wp_seq (wp_mono (h w s a h1 h2 m) ?_))
 rintro e i u q
 cases e with
 | normal =>
  obtain ⟨l,r,j⟩:=fG q (by simp)
  exact j i l r rfl
 | _=>exact q
theorem ue {A B H:Type}{P:Program}{n:Nat}{fn:Func}{C:World}{V:List HP}{i:A→Value×List HP}{Vc:List HP}{σ:cZ}{Q:Exit→cZ→World→Prop}{id:Nat}{g:Operand}{ps:Array Tmp}{m body rest:Code}{F:Nat}{u:List Value}
  (Wc:List HP) (E E':Nat→Loop→HP) (Pre' W3:List HP) (cp:B→List HP) (Wd:H→List HP)
  (hV:Vc=Wc++V) (hg:ev σ g=.func (.func F) #[] u.toArray) (Z:aW P F=true)
  (T:∀ V w l b,St C w (tT l b::(Wc++V))→St C w (E l b::(Pre'++(W3++V))))
  (r:∀ l b,Rec b ps m body n σ→FnOk P F (.func (.yield l) #[] #[]::u) (E l b::Pre') (fun x:B=>(.tuple [].toArray,E' l b::cp x)))
  (M:∀ V w l b x,St C w (E' l b::(cp x++(W3++V)))→∃ y,St C w (tT l b::(Wd y++V)))
  (ht:mj fn=true)
  (hk:∀ y D V,TC ⟨P,⟨n,[pb D],fun _ _=>False⟩,C⟩ (Wd y++V) σ rest (vq P fn (qR ⟨P,⟨n,[pb D],fun _ _=>False⟩,C⟩ V i))) :
  TQ ⟨P,⟨n,[],xT P fn C V i⟩,C⟩ Vc σ .normal (iu (Rg ⟨P,⟨n,[],xT P fn C V i⟩,C⟩ (.block id (.rangeFunc g ps m body)) rest (m8 P fn (qR ⟨P,⟨n,[],xT P fn C V i⟩,C⟩ V i))) Q):=by
 intro w s a h1 h2 U
 subst hV
 refine wp_block ((wpIn_wide (n:=0)).1 (wpIn_rangeFunc ?_))
 intro J _
 obtain ⟨b,I⟩:∃ b:Loop,b={state:=.ready,pending:=none,fn:=J,tmps:=a.tmps,params:=ps,assign:=m,body:=body,defers:=w.heap.size}:=⟨_,rfl⟩
 have j:Rec b ps m body n σ:=by
  subst I
  exact ⟨rfl,rfl,rfl,rfl,rfl,h1,U⟩
 have s1:=St.dn (St.newOb s (.deferred (some [])))
 have Y:=St.newOb s1 (.loop b)
 rw [World.size_alloc] at Y
 obtain ⟨G,L⟩:∃ G,(w.alloc (.deferred (some []))).alloc (.loop b)=G:=⟨_,rfl⟩
 rw [L] at Y
 refine ⟨w.heap.size+1,[pb w.heap.size],G,{target:=.fn (.func F) u.toArray,args:=#[.func (.yield (w.heap.size+1)) #[] #[]]},G,F,
  #[.func (.yield (w.heap.size+1)) #[] #[]]++u.toArray,G,?_,?_,fun _ _=>trivial,?_,fun h=>(by cases h),?_⟩
 ·rw [← L,I]; exact run_enterLoop_outer _ _ _ _ _
 ·have:a.eval g=.func (.func F) #[] u.toArray:=by rw [jG,U]; exact hg
  simp only [resolve,this]
  simp [go_sem]
 ·simp [invoke,go_sem,je Z]
 ·refine callsIn_wide.2 ?_
  have hc:=r (w.heap.size+1) b j C G _ (T _ _ _ _ Y)
  have e:(Value.func (.yield (w.heap.size+1)) #[] #[]::u).toArray=#[Value.func (.yield (w.heap.size+1)) #[] #[]]++u.toArray:=by
   apply Array.ext'; simp
  rw [e] at hc
  refine Calls.mono' hc ?_
  rintro e w2 ⟨x,rfl,s3⟩
  obtain ⟨y,s4⟩:=M _ _ _ _ x s3
  have hl:=jX s4 0 rfl
  refine ⟨none,w2.putObj (w.heap.size+1) (.loop {b with state:=.exhausted}),?_,?_⟩
  ·have:=run_endLoop (P:=P) hl (by rw [j.st]; simp)
   exact this.trans (by rw [j.pe])
  ·have s5:=(s4.putObj (o':=.loop {b with state:=.exhausted})).rm 0
   refine wp_mono (hk y w.heap.size _ _ s5 _ h1 (by rw [h2]; rfl) U) ?_
   rintro e a5 w5 q
   rcases q with ⟨q1,q2,q3⟩|⟨_,q⟩
   ·cases e with
    | ret =>
     obtain ⟨v,hr,x,rfl,O⟩:=q3
     refine .inr ⟨rfl,?_⟩
     have O:=St.up O
     show LeavesInM Fence.wide 0 P fn a5.tmps _ a5.defers .returning w5
     rw [q2]
     exact ⟨by simp,.inl ⟨_,_,rfl,run_takeDeferred (jX O 0 rfl),_,mP ht hr,x,rfl,(O.putObj (o':=.deferred none)).rm 0⟩⟩
    | _=>exact q3.elim
   ·exact q.elim
end Go.Pg
