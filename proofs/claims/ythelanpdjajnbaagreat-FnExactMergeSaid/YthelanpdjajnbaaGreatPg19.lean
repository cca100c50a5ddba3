import Derived.Test.YthelanpdjajnbaaGreatPg9
import Derived.KernelRfl
import Derived.Lib.AppendZerosOnto
import Derived.Lib.Overlaps
import Derived.Laws.Externs
import Derived.Laws.BytesArg
import Derived.WideLaws
import Derived.RangeFuncRecord
set_option linter.unusedVariables false
set_option linter.unusedSimpArgs false
namespace Go.Pg
def pf (φ:Prop):HP:=⟨fun _ h=>h=Hp.none∧φ,fun _ e=>e⟩
section
variable {C w:World}{V:List HP}
end
section
variable {X:Cx}{V:List HP}{σ:dI}{Q:Exit→dI→World→Prop}{ops:Array Oper}{rest:List Oper}{o:Oper}{cd:Code}{ex:Exit}
variable {d:Option Nat}{ty:TypeId}{pos:String}{af:Array Edge}{gd:Option (Nat×Bool)}
variable {α:Type}
end
end Go.Pg
namespace Go.Pg
def nm {α:Type}(x:α):Option α:=some x
theorem fY {α β:Type}(x:α)(f:α→Option β):(nm x).bind f=f x:=rfl
section
variable {C w:World}{V:List HP}{α:Type}
end
section
variable {X:Cx}{V:List HP}{σ:dI}{Q:Exit→dI→World→Prop}{ops:Array Oper}{rest:List Oper}{o:Oper}{cd:Code}{ex:Exit}
variable {d:Option Nat}{ty:TypeId}{pos:String}{af:Array Edge}{gd:Option (Nat×Bool)}
variable {α:Type}
end
end Go.Pg
namespace Go.Pg
abbrev iv (n:Int):Value:=.int .i64 n
abbrev ad (g o:Nat):Option Addr:=some ⟨g,o,none⟩
abbrev pt (b k:Nat):Value:=.pointer (some ⟨b,k,none⟩)
abbrev RR {α:Type}(K:Kind α)(a:Option Addr)(c:Nat)(xs:List α):HP:=aO K (.slice a xs.length c) xs
abbrev OO {α:Type}(K:Kind α)(e:Nat)(a:Option Addr)(c:Nat)(xs:List α):HP:=ow K e (.slice a xs.length c) xs
def rmL (V:List HP):List Nat→List HP
 | []=>V
 | i::t=>rmL (rm V i) t
theorem St.rmL {C w:World}{V:List HP}(s:St C w V)(l:List Nat):St C w (rmL V l):=by
 induction l generalizing V with
 | nil=>exact s
 | cons i t ih=>exact ih (s.rm i)
section
variable {X:Cx}{V V0:List HP}{σ:dI}{Q:Exit→dI→World→Prop}{ops:Array Oper}{rest:List Oper}{o:Oper}{k fuel:Nat}{listed:Array Bool}{C:World}
variable {d:Nat}{op:Op}{ty:TypeId}{pos:String}{af:Array Edge}{gd:Option (Nat×Bool)}
theorem sL (l:List Nat):∀ w,St C w V→St C w (rmL V l):=fun _ s=>s.rmL l
theorem lp (v:Value)(h:TL X ops V (kI σ d v) rest Q)(b:pv σ op=some v:=by exact rfl)(hw:dY ops σ ⟨some d,op,ty,pos,af,gd⟩=true:=by exact rfl)(a:iU X.n (some d)=true:=by exact rfl):TL X ops V σ (⟨some d,op,ty,pos,af,gd⟩::rest) Q :=
 sJ v (iO b) hw a h
theorem lo (v:Value)(b:VO X V σ ⟨some d,op,ty,pos,af,gd⟩ v)(h:TL X ops V (kI σ d v) rest Q)(hw:dY ops σ ⟨some d,op,ty,pos,af,gd⟩=true:=by exact rfl)(a:iU X.n (some d)=true:=by exact rfl):TL X ops V σ (⟨some d,op,ty,pos,af,gd⟩::rest) Q :=
 sJ v b hw a h
theorem lf (hw:dY ops σ o=false)(h:TL X ops V (gV σ o.dst undef) rest Q)(a:iU X.n o.dst=true:=by exact rfl):TL X ops V σ (o::rest) Q:=wo a hw h
theorem dE {e:Nat}{l:List Oper}(k:Nat)(rs:List Nat)(a:X.P.follows .mixedOrders=true)(h:jx l.toArray k=true→Region.noSelect l.toArray=true→TD X l.toArray k (rmL V rs) l.length (Array.replicate l.length false) V σ Q)(b:(jx l.toArray k&&Region.noSelect l.toArray)=true:=by kernel_rfl):TC X V σ (.region e l.toArray true) Q :=
 xc k (rmL V rs) a b h
end
end Go.Pg
namespace Go.Pg
abbrev sc {α:Type}(a:Option Addr)(xs:List α)(c:Nat):Value:=.slice a xs.length c
abbrev il {α:Type}(xs:List α):Value:=.int .i64 xs.length
abbrev HH:Type:=Option Addr×Nat×Nat
theorem R {α:Sort _}{a:α}:a=a:=rfl
theorem so {α:Type _}{a b:α}(h:some a=some b):a=b:=Option.some.inj h
theorem bo (b:Bool):b=true∨b=false:=Bool.eq_false_or_eq_true b
theorem oT {c a:Bool}(h:c=true):(c||a)=true:=by rw [h]; rfl
theorem aF {c a:Bool}(h:c=false):(c&&a)=false:=by rw [h]; rfl
def up:Nat→Nat→List Nat
 | _,0=>[]
 | a,n+1=>a::up (a+1) n
def rg:List Nat→List Nat
 | a::n::t=>up a n++rg t
 | _=>[]
theorem St.d {α:Type}{K:Kind α}{C w:World}{V:List HP}{v:Value}{xs:List α}(s:St C w V)(i:Nat)(a:lk V i=aO K v xs):St C w (aO K v xs::V):=s.dup i a
theorem St.e {C w:World}{V:List HP}(s:St C w V)(n:Nat)(is:List Nat)(h:pQ n is=true:=by exact rfl)(a:yJ n V=true:=by exact rfl):St C w (is.map (lk V)++dp n V):=s.sel n is h a
theorem St.f {C w:World}{V:List HP}(s:St C w V)(n:Nat)(is:List Nat)(h:pQ n (rg is)=true:=by exact rfl)(a:yJ n V=true:=by exact rfl):St C w ((rg is).map (lk V)++dp n V):=s.sel n (rg is) h a
theorem aS {σ:dI}:∀ {l:List (Nat×Value)},l.map (fun p=>σ p.1)=l.map Prod.snd→lH σ l
 | [],_=>trivial
 | (_,_)::_,h=>⟨(List.cons.inj h).1,aS (List.cons.inj h).2⟩
section
variable {X:Cx}{V V0:List HP}{σ:dI}{Q:Exit→dI→World→Prop}{ops:Array Oper}{rest:List Oper}{o:Oper}{k fuel:Nat}{listed:Array Bool}{C:World}
variable {d:Nat}{d':Option Nat}{op:Op}{ty:TypeId}{pos:String}{af:Array Edge}{gd:Option (Nat×Bool)}{v:Value}
theorem vz (v:Value)(h:VO X V σ o v):VO X V σ o v:=h
theorem vp (v:Value)(h:pv σ op=some v):VO X V σ ⟨d',op,ty,pos,af,gd⟩ v:=iO h
theorem vI {i:IntKind}{n:Int}(h:pv σ op=some (.int i n)):VO X V σ ⟨d',op,ty,pos,af,gd⟩ (.int i n):=iO h
theorem vB {n:Bool}(h:pv σ op=some (.bool n)):VO X V σ ⟨d',op,ty,pos,af,gd⟩ (.bool n):=iO h
theorem vS {a:Option Addr}{n c:Nat}(h:pv σ op=some (.slice a n c)):VO X V σ ⟨d',op,ty,pos,af,gd⟩ (.slice a n c):=iO h
theorem vP {b n:Nat}(h:pv σ op=some (.pointer (some ⟨b,n,none⟩))):VO X V σ ⟨d',op,ty,pos,af,gd⟩ (.pointer (some ⟨b,n,none⟩)):=iO h
theorem vA {l:List Value}(h:pv σ op=some (.agg l.toArray)):VO X V σ ⟨d',op,ty,pos,af,gd⟩ (.agg l.toArray):=iO h
theorem vT {l:List Value}(h:pv σ op=some (.tuple l.toArray)):VO X V σ ⟨d',op,ty,pos,af,gd⟩ (.tuple l.toArray):=iO h
theorem o9 {x y:Operand}{t g:TypeId}{b:BinOp}{m n:Int}(a:ev σ x=.int .i64 m)(e:ev σ y=.int .i64 n)(h:o0 .i64 b m n=some v):VO X V σ ⟨d',.binOp b t x y g,ty,pos,af,gd⟩ v:=iO (by simp only [pv,a,e]; exact h)
theorem jy {x y:Operand}{t e:TypeId}{m n:Int}(a:ev σ x=.int .i64 m)(b:ev σ y=.int .i64 n):VO X V σ ⟨d',.binOp .add t x y e,ty,pos,af,gd⟩ (.int .i64 (aK (m+n))):=o9 a b rfl
theorem xl {x y:Operand}{t e:TypeId}{m n:Int}(a:ev σ x=.int .i64 m)(b:ev σ y=.int .i64 n):VO X V σ ⟨d',.binOp .sub t x y e,ty,pos,af,gd⟩ (.int .i64 (aK (m - n))):=o9 a b rfl
theorem sg {x y:Operand}{t e:TypeId}{m n:Int}(a:ev σ x=.int .i64 m)(b:ev σ y=.int .i64 n):VO X V σ ⟨d',.binOp .mul t x y e,ty,pos,af,gd⟩ (.int .i64 (aK (m*n))):=o9 a b rfl
theorem jz {x y:Operand}{t e:TypeId}{m n:Int}(a:ev σ x=.int .i64 m)(b:ev σ y=.int .i64 n):VO X V σ ⟨d',.binOp .lss t x y e,ty,pos,af,gd⟩ (.bool (decide (m<n))):=o9 a b rfl
theorem vLe {x y:Operand}{t e:TypeId}{m n:Int}(a:ev σ x=.int .i64 m)(b:ev σ y=.int .i64 n):VO X V σ ⟨d',.binOp .leq t x y e,ty,pos,af,gd⟩ (.bool (decide (m≤n))):=o9 a b rfl
theorem z8 {x y:Operand}{t e:TypeId}{m n:Int}(a:ev σ x=.int .i64 m)(b:ev σ y=.int .i64 n):VO X V σ ⟨d',.binOp .gtr t x y e,ty,pos,af,gd⟩ (.bool (decide (m>n))):=o9 a b rfl
theorem B5 {x y:Operand}{t e:TypeId}{m n:Int}(a:ev σ x=.int .i64 m)(b:ev σ y=.int .i64 n):VO X V σ ⟨d',.binOp .geq t x y e,ty,pos,af,gd⟩ (.bool (decide (m≥n))):=o9 a b rfl
theorem l8 {x y:Operand}{t e:TypeId}{m n:Int}(a:ev σ x=.int .i64 m)(b:ev σ y=.int .i64 n):VO X V σ ⟨d',.binOp .eql t x y e,ty,pos,af,gd⟩ (.bool (m==n)):=o9 a b rfl
theorem xm {x y:Operand}{t e:TypeId}{m n:Int}(a:ev σ x=.int .i64 m)(b:ev σ y=.int .i64 n):VO X V σ ⟨d',.binOp .neq t x y e,ty,pos,af,gd⟩ (.bool (m != n)):=o9 a b rfl
theorem mf {x:Operand}{t:TypeId}{b:Bool}(a:ev σ x=.bool b):VO X V σ ⟨d',.unOp .not t x,ty,pos,af,gd⟩ (.bool !b):=iO (by simp only [pv,a])
theorem eC (a:Nat){S:TypeId}{x:Operand}{f fo b k:Nat}(g:dC X.P S f=some fo)(h:ev σ x=.pointer (some ⟨b,k,none⟩))(e:k+fo=a:=by exact rfl):VO X V σ ⟨d',.fieldAddr S x f,ty,pos,af,gd⟩ (.pointer (some ⟨b,a,none⟩)):=iI g h e
theorem eH {T:TypeId}{x:Operand}{b k:Nat}{cs:List Value}{a:Nat}{v:Value}(i:Nat)(g:fP X.P T=some false)(e:lk V i=aJ b cs a)(j:ev σ x=.pointer (some ⟨b,k,none⟩))(h:rG cs k=some v):VO X V σ ⟨d',.load T x,ty,pos,af,gd⟩ v:=sy i g e j h
theorem eA {t e:TypeId}{x y:Operand}{g o n c sz:Nat}{k:IntKind}{j:Int}(b:mo X.P t=some e)(a:iK X.P e=some sz)(i:ev σ x=.slice (some ⟨g,o,none⟩) n c)(l:ev σ y=.int k j)(h:0≤j∧j<n):VO X V σ ⟨d',.indexAddr t x y,ty,pos,af,gd⟩ (.pointer (some ⟨g,o+j.toNat*sz,none⟩)):=qD b a i l h.1 h.2
theorem gP {T:TypeId}{x:Operand}{g o n c:Nat}{xs:List Int}{j:Int}(i:Nat)(b:fP X.P T=some false)(a:k9 (lk V i) (Kind.int .i64) (.slice (some ⟨g,o,none⟩) n c) xs)(e:ev σ x=.pointer (some ⟨g,o+j.toNat*1,none⟩))(h:0≤j∧j<n):VO X V σ ⟨d',.load T x,ty,pos,af,gd⟩ (.int .i64 (ix xs j)) :=
 ja (K:=Kind.int .i64) (fo:=0) (pr:=fun x=>.int .i64 x) i j b ((DecK.scal _ _).leaf fun _ _=>rfl) a e h.1 h.2
theorem fZ {c b:Bool}{x y z:Operand}(a:ev σ x=.bool c)(h:c=false)(e:ev σ z=.bool b):VO X V σ ⟨d',.pick x y z,ty,pos,af,gd⟩ (.bool (c||b)):=mA a h e (vb (by rw [h]; rfl))
theorem fE {c:Bool}{x y z:Operand}(b:Bool)(a:ev σ x=.bool c)(h:c=true)(e:ev σ y=.bool true:=by exact rfl):VO X V σ ⟨d',.pick x y z,ty,pos,af,gd⟩ (.bool (c||b)):=mz a h e (vb (by rw [h]; rfl))
theorem ji {c b:Bool}{x y z:Operand}(a:ev σ x=.bool c)(h:c=true)(e:ev σ y=.bool b):VO X V σ ⟨d',.pick x y z,ty,pos,af,gd⟩ (.bool (c&&b)):=mz a h e (vb (by rw [h]; rfl))
theorem kA {c:Bool}{x y z:Operand}(b:Bool)(a:ev σ x=.bool c)(h:c=false)(e:ev σ z=.bool false:=by exact rfl):VO X V σ ⟨d',.pick x y z,ty,pos,af,gd⟩ (.bool (c&&b)):=mA a h e (vb (by rw [h]; rfl))
theorem eM {j:Nat}{c:Bool}(e:c=true)(h:o.guard=some (j,true):=by exact rfl)(a:lE ops σ j=some c:=by exact rfl):dY ops σ o=true:=mx h a e
theorem cG {j:Nat}{c:Bool}(e:c=false)(h:o.guard=some (j,false):=by exact rfl)(a:lE ops σ j=some c:=by exact rfl):dY ops σ o=true:=mx h a e
theorem dK {j:Nat}{c:Bool}(e:c=true)(h:o.guard=some (j,false):=by exact rfl)(a:lE ops σ j=some c:=by exact rfl):dY ops σ o=false:=l2 h a e
theorem nN {j:Nat}{c:Bool}(e:c=false)(h:o.guard=some (j,true):=by exact rfl)(a:lE ops σ j=some c:=by exact rfl):dY ops σ o=false:=l2 h a e
theorem lO (b:VO X V σ ⟨some d,op,ty,pos,af,gd⟩ v)(h:TL X ops V (kI σ d v) rest Q)(hw:dY ops σ ⟨some d,op,ty,pos,af,gd⟩=true:=by exact rfl)(a:iU X.n (some d)=true:=by exact rfl):TL X ops V σ (⟨some d,op,ty,pos,af,gd⟩::rest) Q:=sJ v b hw a h
theorem lW (hw:dY ops σ ⟨some d,op,ty,pos,af,gd⟩=true)(b:VO X V σ ⟨some d,op,ty,pos,af,gd⟩ v)(h:TL X ops V (kI σ d v) rest Q)(a:iU X.n (some d)=true:=by exact rfl):TL X ops V σ (⟨some d,op,ty,pos,af,gd⟩::rest) Q:=sJ v b hw a h
theorem lI {i:IntKind}{n:Int}(b:pv σ op=some (.int i n))(h:TL X ops V (kI σ d (.int i n)) rest Q)(hw:dY ops σ ⟨some d,op,ty,pos,af,gd⟩=true:=by exact rfl)(a:iU X.n (some d)=true:=by exact rfl):TL X ops V σ (⟨some d,op,ty,pos,af,gd⟩::rest) Q:=sJ _ (iO b) hw a h
theorem lB {n:Bool}(b:pv σ op=some (.bool n))(h:TL X ops V (kI σ d (.bool n)) rest Q)(hw:dY ops σ ⟨some d,op,ty,pos,af,gd⟩=true:=by exact rfl)(a:iU X.n (some d)=true:=by exact rfl):TL X ops V σ (⟨some d,op,ty,pos,af,gd⟩::rest) Q:=sJ _ (iO b) hw a h
theorem lS {a:Option Addr}{n c:Nat}(e:pv σ op=some (.slice a n c))(h:TL X ops V (kI σ d (.slice a n c)) rest Q)(hw:dY ops σ ⟨some d,op,ty,pos,af,gd⟩=true:=by exact rfl)(b:iU X.n (some d)=true:=by exact rfl):TL X ops V σ (⟨some d,op,ty,pos,af,gd⟩::rest) Q:=sJ _ (iO e) hw b h
theorem lP {b n:Nat}(e:pv σ op=some (.pointer (some ⟨b,n,none⟩)))(h:TL X ops V (kI σ d (.pointer (some ⟨b,n,none⟩))) rest Q)(hw:dY ops σ ⟨some d,op,ty,pos,af,gd⟩=true:=by exact rfl)(a:iU X.n (some d)=true:=by exact rfl):TL X ops V σ (⟨some d,op,ty,pos,af,gd⟩::rest) Q:=sJ _ (iO e) hw a h
theorem dR (i:Nat)(g:ops[i]?=some ⟨some d,op,ty,pos,af,gd⟩)(m:VO X V0 σ ⟨some d,op,ty,pos,af,gd⟩ v)(h:TD X ops k V0 fuel (listed.setIfInBounds i true) V (kI σ d v) Q)(hw:dY ops σ ⟨some d,op,ty,pos,af,gd⟩=true:=by exact rfl)(b:iU X.n (some d)=true:=by exact rfl)
  (a:Nat.blt i k=true:=by exact rfl) (l:jx ops k=true:=by assumption) (j:Region.noSelect ops=true:=by assumption) (e:(Region.free .any ops listed i&&(Region.ready .any ops listed).contains i)=true:=by kernel_rfl) (hS:∀ w,St X.C w V→St X.C w V0:=by exact sL []):TD X ops k V0 (fuel+1) listed V σ Q :=
 Bh i v g m hw b a l j e hS h
theorem dW (i:Nat)(g:ops[i]?=some ⟨some d,op,ty,pos,af,gd⟩)(hw:dY ops σ ⟨some d,op,ty,pos,af,gd⟩=true)(m:VO X V0 σ ⟨some d,op,ty,pos,af,gd⟩ v)(h:TD X ops k V0 fuel (listed.setIfInBounds i true) V (kI σ d v) Q)(b:iU X.n (some d)=true:=by exact rfl)
  (a:Nat.blt i k=true:=by exact rfl) (l:jx ops k=true:=by assumption) (j:Region.noSelect ops=true:=by assumption) (e:(Region.free .any ops listed i&&(Region.ready .any ops listed).contains i)=true:=by kernel_rfl) (hS:∀ w,St X.C w V→St X.C w V0:=by exact sL []):TD X ops k V0 (fuel+1) listed V σ Q :=
 Bh i v g m hw b a l j e hS h
theorem dF (i:Nat)(g:ops[i]?=some ⟨some d,op,ty,pos,af,gd⟩)(hw:dY ops σ ⟨some d,op,ty,pos,af,gd⟩=false)(h:TD X ops k V0 fuel (listed.setIfInBounds i true) V (kI σ d undef) Q)(b:iU X.n (some d)=true:=by exact rfl)
  (a:Nat.blt i k=true:=by exact rfl) (l:jx ops k=true:=by assumption) (j:Region.noSelect ops=true:=by assumption) (e:(Region.free .any ops listed i&&(Region.ready .any ops listed).contains i)=true:=by kernel_rfl) (hS:∀ w,St X.C w V→St X.C w V0:=by exact sL []):TD X ops k V0 (fuel+1) listed V σ Q :=
 ws i g hw b a l j e hS h
theorem qF {A:Type}{a:A→Value×List HP}{fn:Func}{t:Nat}{e:Exit}(x:A)(h:∀ w,St X.C w V→St X.C w ((a x).2++V0))(b:(e=.ret∨e=.normal):=by first | exact .inl rfl | exact .inr rfl)(g:fn.results=#[.tmp t]:=by exact rfl)(i:σ t=(a x).1:=by exact rfl) :
  TQ X V σ e (mM X.P fn (rI X V0 a)):=cX (rs:=[.tmp t]) (vs:=[(a x).1]) b x g ⟨i,trivial⟩ rfl h
theorem lN (V:List HP)(h:TL X ops V σ rest Q):TL X ops V σ rest Q:=h
theorem cN {cd:Code}(V:List HP)(h:TC X V σ cd Q):TC X V σ cd Q:=h
theorem qN {e:Exit}(V:List HP)(h:TQ X V σ e Q):TQ X V σ e Q:=h
theorem lM (V':List HP)(f:∀ w,St X.C w V→St X.C w V')(h:TL X ops V' σ rest Q):TL X ops V σ rest Q:=fS f h
theorem cM {cd:Code}(V':List HP)(f:∀ w,St X.C w V→St X.C w V')(h:TC X V' σ cd Q):TC X V σ cd Q:=yZ f h
theorem qM {e:Exit}(V':List HP)(f:∀ w,St X.C w V→St X.C w V')(h:TQ X V' σ e Q):TQ X V σ e Q:=Bi f h
theorem eJ {T:TypeId}{x:Operand}{l:List Value}(e:ev σ x=.agg l.toArray)(h:∀ b,TL X ops (aJ b l T::V) (gV σ d' (.pointer (some ⟨b,0,none⟩))) rest Q)(a:iU X.n d'=true:=by exact rfl)(hw:dY ops σ ⟨d',.box T x,ty,pos,af,gd⟩=true:=by exact rfl):TL X ops V σ (⟨d',.box T x,ty,pos,af,gd⟩::rest) Q :=
 fR a hw (by rw [e]; rfl) h
theorem lC {A:Type}{f:FuncId}{xs:Array Operand}{e:Array TypeId}{as:List Value}{b:List HP}{a:A→Value×List HP}(m:Nat)(l:aZ X.P f=true)(h:xs.toList.map (ev σ)=as)(i:FnOk X.P f as b a)(g:tk m V=b)(k:∀ x,TL X ops ((a x).2++dp m V) (gV σ d' (a x).1) rest Q)
  (j:iU X.n d'=true:=by exact rfl) (hw:dY ops σ ⟨d',.call ⟨.value (.func f),xs,e⟩,ty,pos,af,gd⟩=true:=by exact rfl):TL X ops V σ (⟨d',.call ⟨.value (.func f),xs,e⟩,ty,pos,af,gd⟩::rest) Q :=
 cD m j hw l h i g k
theorem cQ {x:Code}(b:List (Nat×Value))(a:List HP)(e:TC X V σ x (iN (Jn X (fun _:Unit×Unit=>True) (fun _=>b) (fun _=>a)) Q))(g:∀ σ',TQ X a (pJ σ' b) .normal Q):TC X V σ x Q:=hU _ _ _ e (fun _ σ' _=>g σ')
theorem qJ {b:List (Nat×Value)}{a:List HP}(h2:∀ w,St X.C w V→St X.C w a)(h1:lH σ b:=by exact aS R):TQ X V σ .normal (iN (Jn X (fun _:Unit×Unit=>True) (fun _=>b) (fun _=>a)) Q):=cK ((),()) trivial h1 h2
theorem qI {A:Type}{pf:A→Prop}{e:A→List (Nat×Value)}{b:A→List HP}(a:A)(g:pf a)(h2:∀ w,St X.C w V→St X.C w (b a))(h1:lH σ (e a):=by exact aS R):TQ X V σ .normal (iN (Jn X pf e b) Q):=cK a g h1 h2
theorem qA {S E A:Type}{e:S→A→List (Nat×Value)}{b:S→A→List HP}{s:S}(a:A)(h2:∀ w,St X.C w V→St X.C w (b s a))(h1:lH σ (e s a):=by exact aS R):TQ X V σ .normal (iN (Bf X (E:=E) (.inl s) e b) Q):=uU a h1 h2
theorem cL {α:Type}{K:Kind α}{a:Option Addr}{n c:Nat}{xs:List α}{cd:Code}(i:Nat)(b:k9 (lk V i) K (.slice a n c) xs)(h:n=xs.length→TC X V σ cd Q):TC X V σ cd Q:=bJ i b h
end
end Go.Pg
namespace Go.Pg
def oa:Nat:=1099511627776
end Go.Pg
namespace Go.Pg
section
variable {X:Cx}{V:List HP}{σ:dI}{Q:Exit→dI→World→Prop}{ops:Array Oper}{rest:List Oper}{o:Oper}{cd:Code}{ex:Exit}
variable {d:Option Nat}{ty:TypeId}{pos:String}{af:Array Edge}{gd:Option (Nat×Bool)}
variable {α:Type}
end
section
variable {C w:World}{V:List HP}{α:Type}
end
section
variable {X:Cx}{V:List HP}{σ:dI}{Q:Exit→dI→World→Prop}{ops:Array Oper}{rest:List Oper}{o:Oper}{cd:Code}{ex:Exit}
variable {d:Option Nat}{ty:TypeId}{pos:String}{af:Array Edge}{gd:Option (Nat×Bool)}
variable {α:Type}
end
end Go.Pg
namespace Go.Pg
section
variable {X:Cx}{V V0:List HP}{σ:dI}{Q:Exit→dI→World→Prop}{ops:Array Oper}{o:Oper}{k fuel:Nat}{listed:Array Bool}
theorem d1 (i:Nat)(a:ops[i]?=some o)(h:TL X ops V σ [o] (DK X ops k V0 fuel listed i Q))(b:Region.ready .any ops listed=[i]:=by kernel_rfl):TD X ops k V0 (fuel+1) listed V σ Q:=yY i b a h
theorem dD (h:TQ X V σ .normal Q)(a:Region.ready .any ops listed=[]:=by kernel_rfl):TD X ops k V0 fuel listed V σ Q:=xd a h
theorem qE {i:Nat}(h:TD X ops k V0 fuel (listed.setIfInBounds i true) V σ Q)(a:Nat.blt i k=false:=by exact rfl):TQ X V σ .normal (DK X ops k V0 fuel listed i Q):=xf a h
end
end Go.Pg
namespace Go.Pg
section
variable {X:Cx}{V:List HP}{σ:dI}{Q:Exit→dI→World→Prop}{ops:Array Oper}{rest:List Oper}
variable {d:Option Nat}{ty:TypeId}{pos:String}{af:Array Edge}{gd:Option (Nat×Bool)}
variable {α β:Type}
end
section
variable (K:Kind Int)(A:Option Addr)(n c:Nat)
end
section
variable {C w:World}{V:List HP}{α β γ:Type}
end
section
variable {α β γ:Type}
end
section
variable {X:Cx}{V:List HP}{σ:dI}{Q:Exit→dI→World→Prop}
end
theorem St.em {C w:World}{V:List HP}(s:St C w V):St C w (Bb::V):=by
 obtain ⟨a,I,h,g,j,l,s⟩:=s
 exact ⟨a,I,h,g,j,l,Hp.none,h,Join.none h,rfl,s⟩
end Go.Pg
namespace Go.Pg
def oc (xs:List Int):aP:=xs.map fun n=>UInt8.ofNat n.toNat
section
variable {X:Cx}{V:List HP}{σ:dI}{Q:Exit→dI→World→Prop}{ops:Array Oper}{rest:List Oper}
variable {d:Option Nat}{ty:TypeId}{pos:String}{af:Array Edge}{gd:Option (Nat×Bool)}
theorem za {h b e:TypeId}{x:Operand}{a:Option Addr}{n c:Nat}{xs:List Int}(i:Nat)(M:mo X.P h=some e)(u:X.P.underlying e=some (.int .u8))(q:X.P.underlying b=some .string)
  (E:k9 (lk V i) (Kind.int .u8) (.slice a n c) xs) (m:ev σ x=.slice a n c):VO X V σ ⟨d,.convert h b x,ty,pos,af,gd⟩ (aH (oc xs)):=by
 intro w s
 obtain ⟨J,lw,r⟩:=s.reads E
 obtain ⟨A,U,O,_,_,F⟩:=r
 injection O with e1 e2 e3
 subst e1 e2 e3
 have l:=je M
 by_cases hp:0<xs.length
 ·obtain ⟨g,o,rfl,L⟩:=F hp
  have:=run_convert_bytes_arg (P:=X.P) w h e l u g o xs.length c xs rfl (fun k B=>by
   obtain ⟨cs,h1,h2⟩:=L k _ (List.getElem?_eq_getElem B)
   replace h1:cs=[.int .u8 xs[k]]:=h1
   subst h1
   have:=iW lw (h2 0 _ rfl)
   rw [List.getD_eq_getElem?_getD,List.getElem?_eq_getElem B,Option.getD_some]
   have D:o+k*(Kind.int .u8).sz+0=o+k:=by show o+k*1+0=o+k; omega
   rw [D] at this
   exact this) b q
  simp only [execOp,m,Sem.run_bind,this,Result.andThen_ok,Sem.run_pure]
  rfl
 ·have T:xs=[]:=List.eq_nil_of_length_eq_zero (by omega)
  subst T
  have:(convert h b (.slice a 0 c)).run X.P w=.ok (.string ByteArray.empty) w:=by
   rw [run_convert_bytes_string w h b e a 0 c l u q]
   cases a with
   | none=>simp [Conv.bytesToString]
   | some a =>
    have I:(loadCells a 0).run X.P w=.ok (([]:List Int).map (Value.int .u8)).toArray w:=run_loadCells_list (P:=X.P) w a [] (fun j v G=>by simp at G)
    rw [run_bytesToString w a 0 c [] I]; rfl
  have m:ev σ x=.slice a 0 c:=m
  simp only [execOp,m,Sem.run_bind,this,Result.andThen_ok,Sem.run_pure]
  rfl
theorem uW {α:Type}{K:Kind α}{t e:TypeId}{x y:Operand}{m:Int}{z:α}{q:Nat}(T:iU X.n d=true)(hw:dY ops σ ⟨d,.makeSlice t x y,ty,pos,af,gd⟩=true)(Z:mo X.P t=some e)(l:iK X.P e=some K.sz)(u:hT X.P e=some q)
  (hz:oX X.P K e z) (Y:0<K.sz) (hx:ev σ x=.int .i64 0) (hy:ev σ y=.int .i64 m) (O:0≤m) (h1:m≤140737488355328) (h2:q*m≤281474976710656)
  (h:∀ a c,TL X ops (ow K e (.slice a ([]:List α).length c) []::V) (gV σ d (.slice a ([]:List α).length c)) rest Q):TL X ops V σ (⟨d,.makeSlice t x y,ty,pos,af,gd⟩::rest) Q:=by
 intro w s
 obtain ⟨cs,g,F,a0⟩:=hz
 unfold kX at g
 unfold iK at l
 unfold hT at u
 cases hi:X.P.info? e with
 | none=>rw [hi] at l; cases l
 | some info =>
  rw [hi] at g l u
  simp only [Option.map_some,Option.some.injEq,Option.bind_some] at g l u
  cases hzz:info.zero with
  | none=>rw [hzz] at g; cases g
  | some zv =>
   rw [hzz] at g
   simp only [Option.map_some,Option.some.injEq] at g
   have U:=run_make (P:=X.P) w t e info zv (je Z) hi hzz .i64 .i64 0 m (Int.le_refl _) O (by rw [u]; exact h2) (by omega)
   refine eW T hw ?_
   have E:(execOp (ev σ) ⟨d,.makeSlice t x y,ty,pos,af,gd⟩).run X.P w=.ok (.value (.slice (some ⟨w.heap.size,0,none⟩) 0 m.toNat)) (w.alloc (.cells (madeCells zv.cells (m.toNat*info.size)) e)):=by
    simp only [execOp,hx,hy,Sem.run_bind,U,Result.andThen_ok,Sem.run_pure]; rfl
   rw [E]
   have G:zv.cells.size=K.sz:=by rw [← F,← g]; simp
   have B:(madeCells zv.cells (m.toNat*info.size)).toList=(List.replicate m.toNat cs).flatten:=by
    rw [l,← G,nK _ (by omega),← g]
   have r:(madeCells zv.cells (m.toNat*info.size)).toList.length=m.toNat*K.sz:=by rw [Array.length_toList,size_madeCells,l]
   refine h (some ⟨w.heap.size,0,none⟩) m.toNat _ (St.new s (fun a=>a.alloc _) (fun I _=>?_) ?_)
   ·obtain ⟨M,L⟩:=Join.of_disj (h1:=Hp.one w.heap.size (.cells (madeCells zv.cells (m.toNat*info.size)) e)) (h2:=Hp.none) (fun _=>.inr rfl)
    have J:=L.symm.eq_of_none
    refine ⟨M,.inr ⟨w.heap.size,m.toNat,[],[],(madeCells zv.cells (m.toNat*info.size)).toList,(0,0),Hp.none,by simp,by simp,by simp only [maxLen]; omega,by rw [r]; simp,.inl rfl,?_,rfl,rfl⟩,?_,?_⟩
    ·simp only [List.nil_append,List.append_nil,Array.toArray_toList]
     exact L
    ·rw [J]
     intro b o j
     simp only [Hp.one] at j
     split at j
     ·rename_i i
      subst i
      rw [← Option.some.inj j]
      show (w.heap.push _)[w.heap.size]?=_
      simp
     ·cases j
    ·rw [J]
     intro b i
     simp only [Hp.one] at i
     split at i
     ·rename_i j; exact Nat.le_of_eq j.symm
     ·exact absurd rfl i
   ·intro b o j
    have D:=(Array.getElem?_eq_some_iff.1 j).1
    show (w.heap.push _)[b]?=_
    rw [Array.getElem?_push,if_neg (Nat.ne_of_lt D)]
    exact j
end
end Go.Pg
namespace Go.Pg
abbrev gl (g:Nat)(m:Int):HP:=cl g 0 [.int .i64 m]
theorem St.dg {C w:World}{V:List HP}{g k:Nat}{cs:List Value}(s:St C w V)(i:Nat)(e:lk V i=cl g k cs):St C w (cl g k cs::V):=by
 obtain ⟨a,I,h,b,j,l,st⟩:=s
 obtain ⟨h1,h2,m,p,s'⟩:=fG i st
 rw [e] at p
 exact ⟨a,I,h,b,j,l,Hp.none,h,Join.none h,⟨rfl,p.2⟩,st⟩
theorem qQ {P:Program}{f:FuncId}{args:List Value}{v:Value}(h:∀ w,Calls P f args.toArray w fun e a=>e=.returned v∧a=w):FnOk P f args [] (fun _:Unit=>(v,[])):=by
 intro C w V s
 refine Calls.mono' (h w) ?_
 rintro e a ⟨rfl,rfl⟩
 exact ⟨(),rfl,s⟩
theorem zb {P:Program}{f:FuncId}{args:List Value}{v:Value}{g:Nat}{m:Int}(h:∀ w,w.cell? ⟨g,0,none⟩=some (.int .i64 m)→Calls P f args.toArray w fun e a=>e=.returned v∧a=w):FnOk P f args [gl g m] (fun _:Unit=>(v,[])):=by
 intro C w V s
 obtain ⟨I,j,p,i,l,-⟩:=s.look 0
 have b:w.cell? ⟨g,0,none⟩=some (.int .i64 m):=iW i (p.2 0 _ rfl)
 refine Calls.mono' (h w b) ?_
 rintro e a ⟨rfl,rfl⟩
 exact ⟨(),rfl,s.rm 0⟩
end Go.Pg
namespace Go.Pg
def zd (P:Program)(T:TypeId):Option (Nat×TypeId):=match P.underlying T with
 | some (.array n e)=>some (n,e)
 | _=>none
theorem sS {P:Program}{T:TypeId}{n:Nat}{e:TypeId}(h:zd P T=some (n,e)):P.underlying T=some (.array n e):=by
 unfold zd at h
 split at h
 ·rename_i g b a
  injection h with h; injection h with h1 h2
  subst h1 h2; exact a
 ·cases h
section
variable {X:Cx}{V:List HP}{σ:dI}{Q:Exit→dI→World→Prop}{ops:Array Oper}{rest:List Oper}
variable {d:Option Nat}{ty:TypeId}{pos:String}{af:Array Edge}{gd:Option (Nat×Bool)}
theorem xn {T e:TypeId}{n sz:Nat}{z:List Value}(h:zd X.P T=some (n,e))(l:kX X.P T=some z)(j:iK X.P e=some sz):VO X V σ ⟨d,.build T #[],ty,pos,af,gd⟩ (.agg z.toArray):=by
 intro w _
 obtain ⟨g,a,b⟩:=l3 (P:=X.P) (w:=w) l
 have q:∀ m,Instr.fill m g.cells []=some g.cells:=fun _=>rfl
 have i:g.cells=z.toArray:=by rw [b]
 simp only [execOp,Instr.build,Sem.run_bind,a,Result.andThen_ok,run_underlying (sS h),eQ j,List.map_toArray,List.map_nil,i]
 rfl
theorem sT {t e:TypeId}{x y:Operand}{g o n sz:Nat}{k:IntKind}{j:Int}(a:zd X.P t=some (n,e))(b:iK X.P e=some sz)(l:ev σ x=.pointer (some ⟨g,o,none⟩))(m:ev σ y=.int k j)(h:0≤j∧j<(n:Int)) :
  VO X V σ ⟨d,.indexAddr t x y,ty,pos,af,gd⟩ (.pointer (some ⟨g,o+j.toNat*sz,none⟩)):=by
 intro w _
 have i:=sS a
 simp [execOp,l,m,Instr.indexAt,asIntOf,run_underlying i,Instr.sureAddr,h.1,h.2,eQ b,gN]
end
theorem sU {k:IntKind}(I:Hp)(xs:List Int):hH (Kind.int k) I Hp.none xs (xs.map (Value.int k)):=by
 induction xs with
 | nil=>exact ⟨rfl,rfl⟩
 | cons x xs ih=>exact ⟨Hp.none,Hp.none,[.int k x],_,Join.none _,rfl,⟨rfl,rfl⟩,ih⟩
theorem St.b2o {C w:World}{V:List HP}{b:Nat}{T:Nat}{k:IntKind}{cs:List Value}(s:St C w V)(i:Nat)(xs:List Int)(g:lk V i=aJ b cs T)(l:cs=xs.map (Value.int k)){n:Nat}(q:xs.length=n)(a:Nat.ble n 1000=true) :
  St C w (ow (Kind.int k) T (.slice (some ⟨b,0,none⟩) n n) xs::Pg.rm V i):=by
 subst q
 have e:=s.mv i
 unfold Pg.mv at e
 refine St.imp (A:=[lk V i]) (B:=[_]) (V:=Pg.rm V i) e ?_
 rintro I h _ _ ⟨h1,h2,j,p,u⟩
 rw [g] at p
 obtain rfl:h2=Hp.none:=u
 refine ⟨h1,Hp.none,j,?_,rfl⟩
 obtain ⟨fr,r,m⟩:∃ fr,h1=Hp.one b (.cells cs.toArray T fr)∧(fr=(0,0)∨cs.length≤fr.1):=⟨(0,0),p,.inl rfl⟩
 have a:=Nat.le_of_ble_eq_true a
 subst l
 exact .inr ⟨b,xs.length,[],xs.map (Value.int k),[],fr,Hp.none,rfl,Nat.le_refl _,by simp only [maxLen]; omega,by simp,by simpa using m,by rw [r]; simpa using (Join.none _).symm,sU I xs⟩
end Go.Pg
namespace Go.Pg
def pk (L:List HP):HP:=⟨fun I h=>fD L I h,fun l s=>iV l s⟩
theorem St.pack {C w:World}{A V:List HP}(s:St C w (A++V)):St C w (pk A::V):=by
 refine St.imp (A:=A) (B:=[pk A]) s ?_
 intro I h _ _ a
 exact ⟨h,Hp.none,(Join.none h).symm,a,rfl⟩
theorem St.unpack {C w:World}{A V:List HP}(s:St C w (pk A::V)):St C w (A++V):=by
 refine St.imp (A:=[pk A]) (B:=A) s ?_
 rintro I h _ _ ⟨h1,h2,j,a,rfl⟩
 rw [j.symm.eq_of_none]; exact a
def InvOk {A:Type}(P:Program)(v:Value)(a:String)(args:List Value)(e:List HP)(b:A→Value×List HP):Prop :=
 ∃ (f:FuncId) (as:List Value),(∀ w,(callMethod v a args.toArray).run P w=.ok (.enter f as.toArray) w)∧FnOk P f as e b
theorem InvOk.mk {A:Type}{P:Program}{v r:Value}{a:String}{args:List Value}{e:List HP}{b:A→Value×List HP}{f:FuncId}
  (h:∀ (args:Array Value) w,(callMethod v a args).run P w=.ok (.enter f (#[r]++args)) w) (g:FnOk P f (r::args) e b):InvOk P v a args e b :=
 ⟨f,r::args,fun w=>by rw [h]; simp,g⟩
theorem InvOk.perm {A:Type}{P:Program}{v:Value}{a:String}{args:List Value}{e Pre':List HP}{b:A→Value×List HP}(g:InvOk P v a args e b)(h:∀ C w V,St C w (Pre'++V)→St C w (e++V)):InvOk P v a args Pre' b:=by
 obtain ⟨f,as,h1,h2⟩:=g
 exact ⟨f,as,h1,h2.perm h⟩
theorem InvOk.lends {T:Type}{P:Program}{v:Value}{b:String}{args:List Value}{A' A B:List HP}{a:T→Value×List HP}(e:InvOk P v b args (A++B) a)(g:qP A' A)(h:∀ x,AllC (a x).2):InvOk P v b args (A'++B) (fun x=>((a x).1,A'++(a x).2)):=by
 obtain ⟨f,as,h1,h2⟩:=e
 exact ⟨f,as,h1,h2.lends g h⟩
section
variable {X:Cx}{V:List HP}{σ:dI}{Q:Exit→dI→World→Prop}{ops:Array Oper}{rest:List Oper}
variable {d:Option Nat}{ty:TypeId}{pos:String}{af:Array Edge}{gd:Option (Nat×Bool)}
theorem sW {A:Type}{r:Operand}{a:String}{xs:Array Operand}{g:Array TypeId}{v:Value}{as:List Value}{h:List HP}{b:A→Value×List HP}(m:Nat)(hw:dY ops σ ⟨d,.call ⟨.invoke r a,xs,g⟩,ty,pos,af,gd⟩=true)
  (G:ev σ r=v) (B:xs.toList.map (ev σ)=as) (j:InvOk X.P v a as h b) (u:tk m V=h) (k:∀ x,TL X ops ((b x).2++dp m V) (gV σ d (b x).1) rest Q)
  (D:iU X.n d=true:=by exact rfl):TL X ops V σ (⟨d,.call ⟨.invoke r a,xs,g⟩,ty,pos,af,gd⟩::rest) Q:=by
 intro w s
 refine eW D hw ?_
 obtain ⟨f,i,E,j⟩:=j
 have F:(execOp (ev σ) ⟨d,.call ⟨.invoke r a,xs,g⟩,ty,pos,af,gd⟩).run X.P w=.ok (.enter f i.toArray) w:=by
  have l:(#[v]++xs.map (ev σ)).extract 1 (#[v]++xs.map (ev σ)).size=as.toArray:=by
   rw [my xs _ B]
   have:(#[v]++as.toArray).size=as.length+1:=by simp [Nat.add_comm]
   rw [this]
   apply Array.ext'
   simp [Array.toList_extract,List.extract]
  have q:(#[v]++xs.map (ev σ))[0]?=some v:=by rw [Array.getElem?_append_left (by simp)]; rfl
  simp only [execOp,resolve,G,Sem.run_bind,Sem.run_pure,Result.andThen_ok,invoke,q,l,E]
 rw [F]
 rw [← mR m V,u] at s
 refine Calls.mono' (j X.C w _ s) ?_
 rintro e I ⟨x,rfl,s'⟩
 exact k x I s'
theorem iY {T a:TypeId}{x:Operand}{u:TypeId}{v:Value}(h:X.P.underlying T=some (.interface (X.P.methodsAt T)))(i:ev σ x=.iface u v):VO X V σ ⟨d,.binOp .eql T x (.const .nilIface) a,ty,pos,af,gd⟩ (.bool false):=by
 intro w _
 have e:ev σ (.const .nilIface)=.nilIface:=rfl
 have g:(eqGuard .eql T x (.const .nilIface) (.iface u v) .nilIface).run X.P w=.ok () w:=rfl
 have b:binOp .eql T (.iface u v) .nilIface=(do pure (.bool (← Op.equal T (.iface u v) .nilIface))):=rfl
 simp only [execOp,i,e,Sem.run_bind,g,Result.andThen_ok,b,run_equal_held_nil w T u v h,Sem.run_pure]
theorem uX {T a:TypeId}{x:Operand}(h:X.P.underlying T=some (.interface (X.P.methodsAt T)))(i:ev σ x=.nilIface):VO X V σ ⟨d,.binOp .eql T x (.const .nilIface) a,ty,pos,af,gd⟩ (.bool true):=by
 intro w _
 have e:ev σ (.const .nilIface)=.nilIface:=rfl
 have g:(eqGuard .eql T x (.const .nilIface) .nilIface .nilIface).run X.P w=.ok () w:=by
  cases x<;>rfl
 have b:binOp .eql T .nilIface .nilIface=(do pure (.bool (← Op.equal T .nilIface .nilIface))):=rfl
 simp only [execOp,i,e,Sem.run_bind,g,Result.andThen_ok,b,run_equal_nil_nil w T h,Sem.run_pure]
theorem jA {u:TypeId}{x:Operand}{v:Value}(a:X.P.concrete u=true)(b:ev σ x=v):VO X V σ ⟨d,.makeInterface u x,ty,pos,af,gd⟩ (.iface u v):=by
 intro w _
 simp only [execOp,b,Sem.run_bind,run_makeInterface w _ _ a,Result.andThen_ok,Sem.run_pure]
end
end Go.Pg
namespace Go.Pg
def ob (l:Nat)(o:Obj):HP:=⟨fun _ h=>h=Hp.one l o,fun _ e=>e⟩
abbrev uI (l:Nat)(r:Loop):HP:=ob l (.loop r)
def pe {A:Type}(f:A→List HP):HP:=⟨fun I h=>∃ x,fD (f x) I h,fun l ⟨x,s⟩=>⟨x,iV l s⟩⟩
theorem St.pei {C w:World}{A:Type}{f:A→List HP}{V:List HP}(x:A)(s:St C w (f x++V)):St C w (pe f::V):=by
 refine St.imp (A:=f x) (B:=[pe f]) s ?_
 intro I h _ _ a
 exact ⟨h,Hp.none,(Join.none h).symm,⟨x,a⟩,rfl⟩
theorem St.peo {C w:World}{A:Type}{f:A→List HP}{V:List HP}(s:St C w (pe f::V)):∃ x,St C w (f x++V):=by
 obtain ⟨a,I,h,g,j,l,h1,h2,b,⟨x,c⟩,d⟩:=s
 exact ⟨x,a,I,h,g,j,l,cS.2 ⟨h1,h2,b,c,d⟩⟩
theorem kg (l:Nat)(o:Obj):Hp.one l o l=some o:=by simp [Hp.one]
theorem od {l b:Nat}{o:Obj}(h:Hp.one l o b≠none):b=l:=by
 unfold Hp.one at h
 split at h
 ·assumption
 ·exact absurd rfl h
theorem ku {C w:World}{V:List HP}{l:Nat}{o:Obj}(s:St C w V)(i:Nat)(h:lk V i=ob l o):w.heap[l]?=some o:=by
 obtain ⟨I,g,p,_,a,_⟩:=s.look i
 rw [h] at p
 cases p
 exact a l o (kg l o)
theorem Same.putObj {C w:World}(s:Same C w)(l:Nat)(o:Obj):Same C (w.putObj l o):=⟨s.os,s.tape,s.output⟩
theorem St.putObj {C w:World}{V:List HP}{l:Nat}{o o':Obj}(s:St C w (ob l o::V)):St C (w.putObj l o') (ob l o'::V):=by
 have j:=ku s 0 rfl
 have g:l<w.heap.size:=(Array.getElem?_eq_some_iff.1 j).1
 refine St.turn s 0 (q:=ob l o') (fun a=>a.putObj l o') ?_
 rintro I h e _ _
 cases e
 refine ⟨_,rfl,?_,?_,?_⟩
 ·intro b o2 e
  have:=od (by rw [e]; exact fun h=>by cases h)
  subst this
  rw [kg] at e
  cases e
  exact World.putObj_heap_same g
 ·intro b i
  have:=od i
  subst this
  exact .inl (by rw [kg]; exact fun h=>by cases h)
 ·intro b o2 e h2
  rw [World.putObj_heap_other]
  ·exact h2
  ·rintro rfl
   rw [kg] at e; cases e
theorem St.newOb {C w:World}{V:List HP}(s:St C w V)(o:Obj):St C (w.alloc o) (ob w.heap.size o::V):=by
 refine St.new s (q:=ob w.heap.size o) (fun a=>a.alloc o) (fun I _=>⟨_,rfl,?_,?_⟩) ?_
 ·intro b o2 e
  have:=od (by rw [e]; exact fun h=>by cases h)
  subst this
  rw [kg] at e
  cases e
  exact World.alloc_heap_new w o
 ·intro b i
  exact Nat.le_of_eq (od i).symm
 ·intro b o2 e
  show (w.heap.push o)[b]?=some o2
  have g:=(Array.getElem?_eq_some_iff.1 e).1
  rw [Array.getElem?_push,if_neg (Nat.ne_of_lt g)]
  exact e
def yK (ro:Option Nat):Fence:={Fence.wide with round:=ro}
theorem rK {ro:Option Nat}{n:Nat}{P:Program}{f:FuncId}{args:Array Value}{w:World}{R:Ending→World→Prop}(h:Calls P f args w R):CallsIn (yK ro) n P f args w R :=
 (callsIn_wide (n:=n)).2 h
theorem sX {ro:Option Nat}{n:Nat}{P:Program}{a:String}{args:Array Value}{w:World}{R:Value→World→Prop}(h:Rows P a args w R):RowsIn (yK ro) n P a args w R:=by
 intro c cs _
 obtain ⟨v,b,r,s⟩:=h c cs
 exact ⟨v,b,r,stepsIn_wide.2 s⟩
theorem sY {ro:Option Nat}{P:Program}{o:Oper}{a:Act}{b:Act→World→Prop}{Q:Exit→Act→World→Prop}{r:Result Next}(h:o.upon P a b Q r):o.uponIn (yK ro) 0 P a b Q r:=by
 match r,h with
 | .ok (.value v) w',h=>exact h
 | .ok .skip w',h=>exact h
 | .ok (.defer d) w',h=>exact h
 | .ok (.enter f args) w',h =>
  refine ⟨(fun h=>by cases h),?_⟩
  refine (rK h).mono ?_
  intro e i g
  cases e<;>exact g
 | .ok (.row row args) w',h=>exact ⟨(fun h=>by cases h),sX h⟩
 | .halt (.panic v) w',h=>exact h
def kv (l:List Oper):Bool:=l.all fun o=>match o.op with
 | .defer _=>false
 | _=>true
theorem l9 {ro:Option Nat}{P:Program}{ops:Array Oper}{Q:Exit→Act→World→Prop}(s:¬ LetsOut Q):∀ (l:List Oper) (a:Act) (w:World),kv l=true→wpList P ops Q l a w→wpListIn (yK ro) 0 P ops Q l a w:=by
 intro l
 induction l with
 | nil=>exact fun a w _ h=>h
 | cons o l ih =>
  intro a w g h
  simp only [kv,List.all_cons,Bool.and_eq_true] at g
  have j:∀ c,o.op≠.defer c:=by
   intro c q
   have:=g.1
   rw [q] at this
   cases this
  unfold wpList at h
  unfold wpListIn
  split
  ·rename_i hw
   rw [if_pos hw] at h
   have h:=h.resolve_right fun h=>s h.2
   refine ⟨fun _ _=>trivial,?_⟩
   have e:o.semAt (yK ro).round a.eval=execOp a.eval o:=Oper.semAt_eq _ _ _ j
   rw [e]
   unfold Oper.wp at h
   have mono:∀ r,o.upon P a (wpList P ops Q l) Q r→o.upon P a (wpListIn (yK ro) 0 P ops Q l) Q r:=by
    intro r b
    match r,b with
    | .ok (.value v) w',b=>exact ih _ _ g.2 b
    | .ok .skip w',b=>exact ih _ _ g.2 b
    | .ok (.defer _) w',b=>exact ih _ _ g.2 b
    | .ok (.enter f args) w',b =>
     refine Calls.mono' b ?_
     intro e m i
     cases e with
     | returned v=>exact ih _ _ g.2 i
     | panicked c=>exact i
     | outgrown=>exact i
    | .ok (.row row args) w',b=>exact Rows.mono b fun v m h=>ih _ _ g.2 h
    | .halt (.panic v) w',b=>exact b
   exact sY (mono _ h)
  ·rename_i hw
   rw [if_neg hw] at h
   exact ⟨fun _ _=>trivial,ih _ _ g.2 h⟩
def Bj {A:Type}(P:Program)(l:Nat)(args:List Value)(g:List HP)(a:A→Value×List HP):Prop :=
 ∀ C w V,St C w (g++V)→∃ f tmps b body,(Instr.yield l args.toArray).run P w=.ok (.round l f tmps b body) w ∧
  RoundIn Fence.wide 0 P l f tmps b body w (fun e h=>∃ x,e=.returned (a x).1∧St C h ((a x).2++V))
def ze (P:Program)(N:Nn)(ops:Array Oper)(rest:List Oper)(Q:Exit→dI→World→Prop)(σ:dI)(w:World):Prop :=
 ∀ a:Act,a.tmps.size=N.n→a.defers=N.ds→fL a=σ→wpListIn Fence.wide 0 P ops (hL N Q) rest a w
section
variable {X:Cx}{V:List HP}{σ:dI}{Q:Exit→dI→World→Prop}{ops:Array Oper}{rest:List Oper}
variable {d:Option Nat}{ty:TypeId}{pos:String}{af:Array Edge}{gd:Option (Nat×Bool)}
theorem qR {N:Nn}{Q:Exit→dI→World→Prop}(h:∀ σ w,Q .outgrown σ w→False):¬ LetsOut (hL N Q):=by
 rintro ⟨a,w,q⟩
 exact h _ _ (gD q (by simp)).2.2
theorem xo {I:Nat}{l:List Oper}(k:Nat)(G:kv (l.take k)=true)(F:∀ σ w,Q .outgrown σ w→False)
  (h:TL X l.toArray V σ (l.take k) (iN (fun σ w=>ze X.P X.n l.toArray (l.drop k) Q σ w) Q)):TC X V σ (.region I l.toArray false) Q:=by
 intro w s a h1 h2 E
 refine (wpIn_wide (n:=0)).1 (wpIn_region_lit ?_)
 have h:=l9 (ro:=none) (qR (N:=X.n) (Q:=iN (fun σ w=>ze X.P X.n l.toArray (l.drop k) Q σ w) Q) F) _ a w G (h w s a h1 h2 E)
 have mono:∀ (j:List Oper) (a:Act) (w:World),wpListIn Fence.wide 0 X.P l.toArray (hL X.n (iN (fun σ w=>ze X.P X.n l.toArray (l.drop k) Q σ w) Q)) j a w→wpListIn Fence.wide 0 X.P l.toArray (hL X.n Q) (j++l.drop k) a w:=by
  intro j
  induction j with
  | nil =>
   intro a w h
   obtain ⟨J,L,M⟩:=gD h (by simp)
   exact M a J L rfl
  | cons o j ih =>
   intro a w h
   have m:∀ e,e≠Exit.normal→∀ a w,hL X.n (iN (fun σ w=>ze X.P X.n l.toArray (l.drop k) Q σ w) Q) e a w→hL X.n Q e a w:=by
    intro e i a w q
    cases e with
    | normal=>exact absurd rfl i
    | _=>exact q
   unfold wpListIn at h
   show wpListIn Fence.wide 0 X.P l.toArray (hL X.n Q) (o::(j++l.drop k)) a w
   unfold wpListIn
   split
   ·rename_i hw
    rw [if_pos hw] at h
    refine ⟨h.1,?_⟩
    have h:=h.2
    revert h
    generalize (o.semAt Fence.wide.round a.eval).run X.P w=r
    intro g
    match r,g with
    | .ok (.value v) w',g=>exact ih _ _ g
    | .ok .skip w',g=>exact ih _ _ g
    | .ok (.defer _) w',g=>exact ih _ _ g
    | .ok (.enter f args) w',g =>
     refine ⟨g.1,g.2.mono ?_⟩
     intro e B i
     cases e with
     | returned v=>exact ih _ _ i
     | panicked c=>exact m _ (by intro h; cases h) _ _ i
     | outgrown=>obtain ⟨b,u,D⟩:=i; exact ⟨b,u,m _ (by intro h; cases h) _ _ D⟩
    | .ok (.row row args) w',g=>exact ⟨g.1,g.2.mono fun v B h=>ih _ _ h⟩
    | .ok (.round l0 f tmps asn body) w',g =>
     refine ⟨g.1,g.2.mono ?_⟩
     intro e B i
     cases e with
     | returned v=>exact ih _ _ i
     | panicked c=>exact m _ (by intro h; cases h) _ _ i
     | outgrown=>obtain ⟨b,u,D⟩:=i; exact ⟨b,u,m _ (by intro h; cases h) _ _ D⟩
    | .halt (.panic v) w',g=>exact m _ (by intro h; cases h) _ _ g
   ·rename_i hw
    rw [if_neg hw] at h
    exact ⟨h.1,ih _ _ h.2⟩
 have:=mono _ a w h
 rw [List.take_append_drop] at this
 exact this
theorem uY {A:Type}{q:Operand}{l:Nat}{xs:Array Operand}{g:Array TypeId}{as:List Value}{b:A→Value×List HP}{i:List HP}{j:Nat}(m:Nat)
  (O:ev σ q=.func (.yield l) #[] #[]) (I:xs.toList.map (ev σ)=as) (J:Bj X.P l as i b) (G:tk m V=i) (F:∀ σ w,Q .outgrown σ w→False) (L:kv rest=true)
  (k:∀ x,TL X ops ((b x).2++dp m V) (kI σ j (b x).1) rest Q) (u:iU X.n (some j)=true:=by exact rfl) :
  TQ X V σ .normal (iN (fun σ w=>ze X.P X.n ops (⟨some j,.call ⟨.value q,xs,g⟩,ty,pos,af,none⟩::rest) Q σ w) Q):=by
 intro w s a h1 h2 D
 refine wpListIn_plain rfl fun K E=>⟨fun _ _=>trivial,?_⟩
 rw [← mR m V,G] at s
 obtain ⟨f,tmps,r,body,T,M⟩:=J X.C w _ s
 have B:(execOp (ev σ) ⟨some j,.call ⟨.value q,xs,g⟩,ty,pos,af,none⟩).run X.P w=.ok (.round l f tmps r body) w:=by
  have e:(#[]++xs.map (ev σ))=as.toArray:=by rw [my xs _ I]; simp
  simp only [execOp,resolve,O,Deferred.ofValue,Sem.run_bind,Sem.run_pure,Result.andThen_ok,invoke,e,T]
 rw [show Fence.wide.round=none from rfl,Oper.semAt_none,kc,D,B]
 refine ⟨(fun h=>by cases h),M.mono ?_⟩
 rintro e Z ⟨x,rfl,s'⟩
 refine E _ _ ?_
 obtain ⟨p1,U,Y⟩:=lG (o:=⟨some j,.call ⟨.value q,xs,g⟩,ty,pos,af,none⟩) u h1 h2 D (b x).1
 exact l9 (ro:=none) (qR F) _ _ _ L (k x Z s' _ p1 U Y)
end
end Go.Pg
namespace Go.Pg
theorem St.dn {C w:World}{p:HP}{A V:List HP}(s:St C w (p::(A++V))):St C w (A++p::V):=by
 obtain ⟨q,I,h,g,j,lw,g1,B,e,c,d⟩:=s
 obtain ⟨k1,l,i,a,b⟩:=cS.1 d
 obtain ⟨m,r,u⟩:=Join.assoc' i.symm e
 exact ⟨q,I,h,g,j,lw,cS.2 ⟨k1,m,u.symm,a,g1,l,r,c,b⟩⟩
theorem St.up {C w:World}{p:HP}{A V:List HP}(s:St C w (A++p::V)):St C w (p::(A++V)):=by
 obtain ⟨q,I,h,g,j,lw,d⟩:=s
 obtain ⟨k1,B,i,a,g1,e,l,c,b⟩:=cS.1 d
 obtain ⟨m,r,u⟩:=Join.assoc' l.symm i
 exact ⟨q,I,h,g,j,lw,g1,m,u.symm,c,cS.2 ⟨k1,e,r,a,b⟩⟩
structure Rec (rc:Loop)(ps:Array Tmp)(asn body:Code)(n:Nat)(σ:dI):Prop where
 st:rc.state=.ready
 pe:rc.pending=none
 ps:rc.params=ps
 asn:rc.assign=asn
 body:rc.body=body
 sz:rc.tmps.size=n
 env:(fun t=>rc.tmps.getD t undef)=σ
def Bk (X:Cx)(σ2:dI)(V:List HP):Exit→dI→World→Prop
 | .normal,σ,w=>σ=σ2∧St X.C w V
 | _,_,_=>False
def Bl (X:Cx)(go:Bool){A:Type}(f:A→List HP)(V:List HP):Exit→dI→World→Prop
 | .normal,_,w=>go=true∧∃ x,St X.C w (f x++V)
 | _,_,_=>False
theorem zf {X:Cx}{V:List HP}{σ:dI}:TQ X V σ .normal (Bk X σ V):=fun w s=>⟨rfl,s⟩
theorem Bm {X:Cx}{A:Type}{f:A→List HP}{V0 V:List HP}{σ:dI}{go:Bool}(x:A)(a:go=true)(h:∀ w,St X.C w V0→St X.C w (f x++V)):TQ X V0 σ .normal (Bl X go f V):=fun w s=>⟨a,x,h w s⟩
theorem p9 {a:Loop}{s:LoopState}(h1:a.state=.ready)(h2:a.pending=none):({{a with state:=s} with state:=.ready,pending:=none}:Loop)=a:=by
 cases a; simp only at h1 h2; subst h1; subst h2; rfl
theorem yok {A:Type}{P:Program}{l:Nat}{g:Loop}{p:Tmp}{n i1 b i2:Nat}{F G:List Oper}{σ:dI}{x:Value}{go:Bool}(u j:A→List HP)
  (i:Rec g #[p] (.region i1 F.toArray false) (.block b (.region i2 G.toArray false)) n σ) (h1:kv F=true) (h2:kv G=true) (hp:Nat.blt p n=true)
  (E:∀ a,∃ σ2,∀ C V,TL ⟨P,.of n,C⟩ F.toArray (u a++V) (kI σ p x) F (Bk ⟨P,.of n,C⟩ σ2 (u a++V))∧TL ⟨P,.of n,C⟩ G.toArray (u a++V) σ2 G (Bl ⟨P,.of n,C⟩ go j V)) :
  Bj P l [x] [pe fun a=>uI l g::u a] (fun _:Unit=>(.bool go,[pe fun a=>uI l g::j a])):=by
 intro C w V s
 obtain ⟨a,s⟩:=s.peo
 have hl:=ku s 0 rfl
 refine ⟨g.fn,_,g.assign,g.body,run_yield hl (by rw [i.ps]; rfl),?_⟩
 rw [i.asn,i.body,i.ps]
 have m:((#[p]:Array Tmp).zip [x].toArray).foldl (fun tmps (t,a)=>tmps.setIfInBounds t a) g.tmps=g.tmps.setIfInBounds p x:=by
  simp
 rw [m]
 have M:(g.tmps.setIfInBounds p x).size=n:=by rw [Array.size_setIfInBounds,i.sz]
 have L:p<g.tmps.size:=by rw [i.sz]; exact Nat.lt_of_lt_of_le (Nat.lt_succ_self _) (Nat.le_of_ble_eq_true hp)
 have B:fL {tmps:=g.tmps.setIfInBounds p x,defers:=[]}=kI σ p x:=by
  have:=kr {tmps:=g.tmps,defers:=[]} (some p) x (fun d e=>by cases e; exact L)
  rw [show ({tmps:=g.tmps,defers:=[]}:Act).put (some p) x={tmps:=g.tmps.setIfInBounds p x,defers:=[]} from rfl] at this
  rw [this,← i.env]
  rfl
 obtain ⟨σ2,wk⟩:=E a
 have wa:=(wk C (uI l g::V)).1
 have wb:=(wk C (uI l {g with state:=.busy}::V)).2
 refine roundIn_of_wpIn trivial (n:=0) ?_
 have g1:=l9 (ro:=some l) (qR (N:=.of n) (Q:=Bk ⟨P,.of n,C⟩ σ2 (u a++uI l g::V)) fun _ _ h=>h) _ _ w h1 (wa w (St.dn s) _ M rfl B)
 refine wpIn_mono (wpIn_region_lit g1) ?_
 rintro e a' w' q
 cases e with
 | normal =>
  obtain ⟨T,U,r,I⟩:=gD q (by simp)
  have I:=St.up I
  have J:=ku I 0 rfl
  refine ⟨_,run_beginRound J i.st,?_⟩
  have s2:=St.dn (I.putObj (o':=.loop {g with state:=.busy}))
  have Z:=l9 (ro:=some l) (qR (N:=.of n) (Q:=Bl ⟨P,.of n,C⟩ go j (uI l {g with state:=.busy}::V)) fun _ _ h=>h) _ _ _ h2 (wb _ s2 _ T U r)
  refine wpIn_block (wpIn_mono (wpIn_region_lit Z) ?_)
  rintro e Y O q
  cases e with
  | normal =>
   obtain ⟨T,U,rfl,y,r⟩:=gD q (by simp)
   have r:=St.up r
   have D:=ku r 0 rfl
   refine ⟨_,_,run_endRound none D,(),rfl,?_⟩
   have s3:=r.putObj (o':=.loop {{g with state:=.busy} with state:=.ready,pending:=none})
   rw [p9 i.st i.pe] at s3
   refine Eq.mp (congrArg (fun o=>St C (O.putObj l o) (pe (fun a=>uI l g::j a)::V)) ?_) (St.pei y s3)
   exact (congrArg Obj.loop (p9 (s:=.busy) i.st i.pe)).symm
  | ret=>rcases q with ⟨_,_,q⟩|⟨_,q⟩<;>exact q.elim
  | _=>exact (gD q (by simp)).2.2.elim
 | ret=>rcases q with ⟨_,_,q⟩|⟨_,q⟩<;>exact q.elim
 | _=>exact (gD q (by simp)).2.2.elim
def mX (fn:Func):Bool:=fn.results.toList.all fun r=>match r with
 | .tmp _=>true
 | _=>false
theorem nB {fn:Func}{σ:dI}{P:Program}{w j:World}{v:Value}(g:mX fn=true)(h:(iF fn σ).run P w=.ok v w):(iF fn σ).run P j=.ok v j:=by
 unfold iF at h ⊢
 obtain ⟨rs,e⟩:∃ rs:List ResultVar,fn.results=rs.toArray:=⟨fn.results.toList,by simp⟩
 rw [e,List.mapM_toArray] at h ⊢
 unfold mX at g
 rw [e] at g
 have i:∀ (rs:List ResultVar),rs.all (fun r=>match r with | .tmp _=>true | _=>false)=true→∃ vs,∀ w,(rs.mapM (fun | .tmp t=>pure (σ t) | .cell a t=>do loadVar t (← asAddr (σ a)):ResultVar→Sem Value)).run P w=.ok vs w:=by
  intro rs
  induction rs with
  | nil=>exact fun _=>⟨[],fun _=>rfl⟩
  | cons r rs ih =>
   intro h
   simp only [List.all_cons,Bool.and_eq_true] at h
   obtain ⟨vs,b⟩:=ih h.2
   cases r with
   | tmp t=>exact ⟨σ t::vs,fun w=>by simp [List.mapM_cons,b]⟩
   | cell a t=>cases h.1
 obtain ⟨vs,b⟩:=i rs (by simpa using g)
 simp only [Sem.run_bind,Sem.run_map] at h ⊢
 have l:=b w
 have m:=b j
 refine (congrArg (fun r=>Result.andThen (Result.andThen r _) _) m).trans ?_
 have h:=(congrArg (fun r=>Result.andThen (Result.andThen r _) _) l).symm.trans h
 simp only [Result.andThen_ok,Sem.run_pure] at h ⊢
 cases h
 rfl
abbrev pR (D:Nat):Deferred:={target:=.collected D,args:=#[]}
def yL {A:Type}(P:Program)(fn:Func)(C:World)(V:List HP)(b:A→Value×List HP):Act→World→Prop :=
 fun a w=>LeavesInM Fence.wide 0 P fn a.tmps (fun e g=>∃ x,e=.returned (b x).1∧St C g ((b x).2++V)) a.defers .returning w
theorem xp {A:Type}{P:Program}{f:FuncId}{fn:Func}{c:Code}{args:List Value}{i:List HP}{b:A→Value×List HP}(E:P.funcs[f]?=some fn)(D:fn.body=some c)(n:Nat)(u:fn.ntmps=n)(r:Nat.ble args.length n=true)
  (h:∀ C V,TC ⟨P,⟨n,[],yL P fn C V b⟩,C⟩ (i++V) (su args.toArray) c (mM P fn (rI ⟨P,⟨n,[],yL P fn C V b⟩,C⟩ V b))):FnOk P f args i b:=by
 subst u
 intro C w V s
 refine callsIn_wide.1 (callsIn_of_wp_marks (n:=0) E D trivial ?_)
 have r:args.toArray.size≤fn.ntmps:=by have:=Nat.le_of_ble_eq_true r; simpa using this
 refine (wpIn_wide (n:=0)).2 (wp_mono (h C V w s _ (by simp at r ⊢; omega) rfl qB) ?_)
 rintro e a g q
 rcases q with ⟨G,F,B⟩|⟨rfl,q⟩
 ·have j:∀ v,(iF fn (fL a)).run P g=.ok v g→rI ⟨P,⟨fn.ntmps,[],yL P fn C V b⟩,C⟩ V b v g→LeavesInM Fence.wide 0 P fn a.tmps (fun e g=>∃ x,e=.returned (b x).1∧St C g ((b x).2++V)) a.defers .returning g:=by
   rintro v l ⟨x,rfl,s'⟩
   rw [F]
   exact ⟨_,l,x,rfl,s'⟩
  cases e with
  | normal =>
   obtain ⟨v,l,m⟩:=B
   exact j v l m
  | ret =>
   obtain ⟨v,l,m⟩:=B
   exact j v l m
  | _=>exact B.elim
 ·exact q
def wt (P:Program)(fn:Func)(R:Value→World→Prop):Exit→dI→World→Prop
 | .ret,σ,w=>∃ v,(iF fn σ).run P w=.ok v w∧R v w
 | _,_,_=>False
theorem xq {A:Type}{X b:Cx}{V V0:List HP}{σ:dI}{a:A→Value×List HP}{P:Program}{fn:Func}(h:TQ X V σ .ret (mM P fn (rI b V0 a))):TQ X V σ .ret (wt P fn (rI b V0 a)):=fun w s=>h w s
def Rg (X:Cx)(b rest:Code)(Q:Exit→dI→World→Prop):dI→World→Prop:=fun σ w =>
 ∀ a:Act,a.tmps.size=X.n.n→a.defers=X.n.ds→fL a=σ→b.wp X.P (Exit.then (rest.wp X.P (hL X.n Q)) (hL X.n Q)) a w
theorem xr {X:Cx}{V:List HP}{σ:dI}{Q:Exit→dI→World→Prop}{b g rest:Code}(h:TC X V σ b (iN (Rg X g rest Q) Q)):TC X V σ (.seq (.seq b g) rest) Q:=by
 intro w s a h1 h2 j
 refine wp_seq (wp_seq (wp_mono (h w s a h1 h2 j) ?_))
 rintro e i u q
 cases e with
 | normal =>
  obtain ⟨l,m,r⟩:=gD q (by simp)
  exact r i l m rfl
 | _=>exact q
theorem uZ {A B H:Type}{P:Program}{n:Nat}{fn:Func}{C:World}{V:List HP}{i:A→Value×List HP}{Vc:List HP}{σ:dI}{Q:Exit→dI→World→Prop}{id:Nat}{g:Operand}{ps:Array Tmp}{m body rest:Code}{G:Nat}{u:List Value}
  (Wc:List HP) (E E':Nat→Loop→HP) (Pre' W3:List HP) (cp:B→List HP) (Wd:H→List HP)
  (hV:Vc=Wc++V) (hg:ev σ g=.func (.func G) #[] u.toArray) (U:aZ P G=true)
  (Y:∀ V w l b,St C w (uI l b::(Wc++V))→St C w (E l b::(Pre'++(W3++V))))
  (r:∀ l b,Rec b ps m body n σ→FnOk P G (.func (.yield l) #[] #[]::u) (E l b::Pre') (fun x:B=>(.tuple [].toArray,E' l b::cp x)))
  (L:∀ V w l b x,St C w (E' l b::(cp x++(W3++V)))→∃ y,St C w (uI l b::(Wd y++V)))
  (ht:mX fn=true)
  (hk:∀ y D V,TC ⟨P,⟨n,[pR D],fun _ _=>False⟩,C⟩ (Wd y++V) σ rest (wt P fn (rI ⟨P,⟨n,[pR D],fun _ _=>False⟩,C⟩ V i))) :
  TQ ⟨P,⟨n,[],yL P fn C V i⟩,C⟩ Vc σ .normal (iN (Rg ⟨P,⟨n,[],yL P fn C V i⟩,C⟩ (.block id (.rangeFunc g ps m body)) rest (mM P fn (rI ⟨P,⟨n,[],yL P fn C V i⟩,C⟩ V i))) Q):=by
 intro w s a h1 h2 T
 subst hV
 refine wp_block ((wpIn_wide (n:=0)).1 (wpIn_rangeFunc ?_))
 intro I _
 obtain ⟨b,M⟩:∃ b:Loop,b={state:=.ready,pending:=none,fn:=I,tmps:=a.tmps,params:=ps,assign:=m,body:=body,defers:=w.heap.size}:=⟨_,rfl⟩
 have j:Rec b ps m body n σ:=by
  subst M
  exact ⟨rfl,rfl,rfl,rfl,rfl,h1,T⟩
 have s1:=St.dn (St.newOb s (.deferred (some [])))
 have Z:=St.newOb s1 (.loop b)
 rw [World.size_alloc] at Z
 obtain ⟨F,J⟩:∃ F,(w.alloc (.deferred (some []))).alloc (.loop b)=F:=⟨_,rfl⟩
 rw [J] at Z
 refine ⟨w.heap.size+1,[pR w.heap.size],F,{target:=.fn (.func G) u.toArray,args:=#[.func (.yield (w.heap.size+1)) #[] #[]]},F,G,
  #[.func (.yield (w.heap.size+1)) #[] #[]]++u.toArray,F,?_,?_,fun _ _=>trivial,?_,fun h=>(by cases h),?_⟩
 ·rw [← J,M]; exact run_enterLoop_outer _ _ _ _ _
 ·have:a.eval g=.func (.func G) #[] u.toArray:=by rw [kc,T]; exact hg
  simp only [resolve,this]
  simp [go_sem]
 ·simp [invoke,go_sem,jM U]
 ·refine callsIn_wide.2 ?_
  have hc:=r (w.heap.size+1) b j C F _ (Y _ _ _ _ Z)
  have e:(Value.func (.yield (w.heap.size+1)) #[] #[]::u).toArray=#[Value.func (.yield (w.heap.size+1)) #[] #[]]++u.toArray:=by
   apply Array.ext'; simp
  rw [e] at hc
  refine Calls.mono' hc ?_
  rintro e w2 ⟨x,rfl,s3⟩
  obtain ⟨y,s4⟩:=L _ _ _ _ x s3
  have hl:=ku s4 0 rfl
  refine ⟨none,w2.putObj (w.heap.size+1) (.loop {b with state:=.exhausted}),?_,?_⟩
  ·have:=run_endLoop (P:=P) hl (by rw [j.st]; simp)
   exact this.trans (by rw [j.pe])
  ·have s5:=(s4.putObj (o':=.loop {b with state:=.exhausted})).rm 0
   refine wp_mono (hk y w.heap.size _ _ s5 _ h1 (by rw [h2]; rfl) T) ?_
   rintro e a5 w5 q
   rcases q with ⟨q1,q2,q3⟩|⟨_,q⟩
   ·cases e with
    | ret =>
     obtain ⟨v,hr,x,rfl,O⟩:=q3
     refine .inr ⟨rfl,?_⟩
     have O:=St.up O
     show LeavesInM Fence.wide 0 P fn a5.tmps _ a5.defers .returning w5
     rw [q2]
     exact ⟨by simp,.inl ⟨_,_,rfl,run_takeDeferred (ku O 0 rfl),_,nB ht hr,x,rfl,(O.putObj (o':=.deferred none)).rm 0⟩⟩
    | _=>exact q3.elim
   ·exact q.elim
end Go.Pg
