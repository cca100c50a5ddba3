import Derived.Test.YtoffdamdpmeoiaaGreatDoorPg9
import Derived.KernelRfl
import Derived.Lib.AppendZerosOnto
import Derived.Lib.Overlaps
import Derived.Laws.Externs
import Derived.Laws.BytesArg
import Derived.WideLaws
import Derived.RangeFuncRecord
set_option linter.unusedVariables false
set_option linter.unusedSimpArgs false
namespace Go.Pg
def pf (φ:Prop):HP:=⟨fun _ h=>h=Hp.none∧φ,fun _ e=>e⟩
section
variable {C w:World}{V:List HP}
end
section
variable {X:Cx}{V:List HP}{σ:dQ}{Q:Exit→dQ→World→Prop}{ops:Array Oper}{rest:List Oper}{o:Oper}{cd:Code}{ex:Exit}
variable {d:Option Nat}{ty:TypeId}{pos:String}{af:Array Edge}{gd:Option (Nat×Bool)}
variable {α:Type}
end
end Go.Pg
namespace Go.Pg
def nm {α:Type}(x:α):Option α:=some x
theorem jp {α β:Type}(x:α)(f:α→Option β):(nm x).bind f=f x:=rfl
section
variable {C w:World}{V:List HP}{α:Type}
end
section
variable {X:Cx}{V:List HP}{σ:dQ}{Q:Exit→dQ→World→Prop}{ops:Array Oper}{rest:List Oper}{o:Oper}{cd:Code}{ex:Exit}
variable {d:Option Nat}{ty:TypeId}{pos:String}{af:Array Edge}{gd:Option (Nat×Bool)}
variable {α:Type}
end
end Go.Pg
namespace Go.Pg
abbrev iv (n:Int):Value:=.int .i64 n
abbrev ad (g o:Nat):Option Addr:=some ⟨g,o,none⟩
abbrev pt (b k:Nat):Value:=.pointer (some ⟨b,k,none⟩)
abbrev RR {α:Type}(K:Kind α)(a:Option Addr)(c:Nat)(xs:List α):HP:=aO K (.slice a xs.length c) xs
abbrev OO {α:Type}(K:Kind α)(e:Nat)(a:Option Addr)(c:Nat)(xs:List α):HP:=ow K e (.slice a xs.length c) xs
def rmL (V:List HP):List Nat→List HP
 | []=>V
 | i::t=>rmL (rm V i) t
theorem St.rmL {C w:World}{V:List HP}(s:St C w V)(l:List Nat):St C w (rmL V l):=by
 induction l generalizing V with
 | nil=>exact s
 | cons i t ih=>exact ih (s.rm i)
section
variable {X:Cx}{V V0:List HP}{σ:dQ}{Q:Exit→dQ→World→Prop}{ops:Array Oper}{rest:List Oper}{o:Oper}{k fuel:Nat}{listed:Array Bool}{C:World}
variable {d:Nat}{op:Op}{ty:TypeId}{pos:String}{af:Array Edge}{gd:Option (Nat×Bool)}
theorem sL (l:List Nat):∀ w,St C w V→St C w (rmL V l):=fun _ s=>s.rmL l
theorem lp (v:Value)(h:TL X ops V (kT σ d v) rest Q)(b:pv σ op=some v:=by exact rfl)(hw:eF ops σ ⟨some d,op,ty,pos,af,gd⟩=true:=by exact rfl)(a:j3 X.n (some d)=true:=by exact rfl):TL X ops V σ (⟨some d,op,ty,pos,af,gd⟩::rest) Q :=
 tH v (iV b) hw a h
theorem lo (v:Value)(b:VO X V σ ⟨some d,op,ty,pos,af,gd⟩ v)(h:TL X ops V (kT σ d v) rest Q)(hw:eF ops σ ⟨some d,op,ty,pos,af,gd⟩=true:=by exact rfl)(a:j3 X.n (some d)=true:=by exact rfl):TL X ops V σ (⟨some d,op,ty,pos,af,gd⟩::rest) Q :=
 tH v b hw a h
theorem lf (hw:eF ops σ o=false)(h:TL X ops V (gJ σ o.dst undef) rest Q)(a:j3 X.n o.dst=true:=by exact rfl):TL X ops V σ (o::rest) Q:=x8 a hw h
theorem dP {e:Nat}{l:List Oper}(k:Nat)(rs:List Nat)(a:X.P.follows .mixedOrders=true)(h:jE l.toArray k=true→Region.noSelect l.toArray=true→TD X l.toArray k (rmL V rs) l.length (Array.replicate l.length false) V σ Q)(b:(jE l.toArray k&&Region.noSelect l.toArray)=true:=by kernel_rfl):TC X V σ (.region e l.toArray true) Q :=
 xX k (rmL V rs) a b h
end
end Go.Pg
namespace Go.Pg
abbrev sc {α:Type}(a:Option Addr)(xs:List α)(c:Nat):Value:=.slice a xs.length c
abbrev il {α:Type}(xs:List α):Value:=.int .i64 xs.length
abbrev HH:Type:=Option Addr×Nat×Nat
theorem R {α:Sort _}{a:α}:a=a:=rfl
theorem so {α:Type _}{a b:α}(h:some a=some b):a=b:=Option.some.inj h
theorem bo (b:Bool):b=true∨b=false:=Bool.eq_false_or_eq_true b
theorem oT {c a:Bool}(h:c=true):(c||a)=true:=by rw [h]; rfl
theorem aF {c a:Bool}(h:c=false):(c&&a)=false:=by rw [h]; rfl
def up:Nat→Nat→List Nat
 | _,0=>[]
 | a,n+1=>a::up (a+1) n
def rg:List Nat→List Nat
 | a::n::t=>up a n++rg t
 | _=>[]
theorem St.d {α:Type}{K:Kind α}{C w:World}{V:List HP}{v:Value}{xs:List α}(s:St C w V)(i:Nat)(a:lk V i=aO K v xs):St C w (aO K v xs::V):=s.dup i a
theorem St.e {C w:World}{V:List HP}(s:St C w V)(n:Nat)(is:List Nat)(h:qt n is=true:=by exact rfl)(a:zO n V=true:=by exact rfl):St C w (is.map (lk V)++dp n V):=s.sel n is h a
theorem St.f {C w:World}{V:List HP}(s:St C w V)(n:Nat)(is:List Nat)(h:qt n (rg is)=true:=by exact rfl)(a:zO n V=true:=by exact rfl):St C w ((rg is).map (lk V)++dp n V):=s.sel n (rg is) h a
theorem aS {σ:dQ}:∀ {l:List (Nat×Value)},l.map (fun p=>σ p.1)=l.map Prod.snd→m7 σ l
 | [],_=>trivial
 | (_,_)::_,h=>⟨(List.cons.inj h).1,aS (List.cons.inj h).2⟩
section
variable {X:Cx}{V V0:List HP}{σ:dQ}{Q:Exit→dQ→World→Prop}{ops:Array Oper}{rest:List Oper}{o:Oper}{k fuel:Nat}{listed:Array Bool}{C:World}
variable {d:Nat}{d':Option Nat}{op:Op}{ty:TypeId}{pos:String}{af:Array Edge}{gd:Option (Nat×Bool)}{v:Value}
theorem vz (v:Value)(h:VO X V σ o v):VO X V σ o v:=h
theorem vp (v:Value)(h:pv σ op=some v):VO X V σ ⟨d',op,ty,pos,af,gd⟩ v:=iV h
theorem vI {i:IntKind}{n:Int}(h:pv σ op=some (.int i n)):VO X V σ ⟨d',op,ty,pos,af,gd⟩ (.int i n):=iV h
theorem vB {n:Bool}(h:pv σ op=some (.bool n)):VO X V σ ⟨d',op,ty,pos,af,gd⟩ (.bool n):=iV h
theorem vS {a:Option Addr}{n c:Nat}(h:pv σ op=some (.slice a n c)):VO X V σ ⟨d',op,ty,pos,af,gd⟩ (.slice a n c):=iV h
theorem vP {b n:Nat}(h:pv σ op=some (.pointer (some ⟨b,n,none⟩))):VO X V σ ⟨d',op,ty,pos,af,gd⟩ (.pointer (some ⟨b,n,none⟩)):=iV h
theorem vA {l:List Value}(h:pv σ op=some (.agg l.toArray)):VO X V σ ⟨d',op,ty,pos,af,gd⟩ (.agg l.toArray):=iV h
theorem vT {l:List Value}(h:pv σ op=some (.tuple l.toArray)):VO X V σ ⟨d',op,ty,pos,af,gd⟩ (.tuple l.toArray):=iV h
theorem oz {x y:Operand}{t i:TypeId}{b:BinOp}{m n:Int}(a:ev σ x=.int .i64 m)(e:ev σ y=.int .i64 n)(h:oj .i64 b m n=some v):VO X V σ ⟨d',.binOp b t x y i,ty,pos,af,gd⟩ v:=iV (by simp only [pv,a,e]; exact h)
theorem iE {x y:Operand}{t e:TypeId}{m n:Int}(a:ev σ x=.int .i64 m)(b:ev σ y=.int .i64 n):VO X V σ ⟨d',.binOp .add t x y e,ty,pos,af,gd⟩ (.int .i64 (aI (m+n))):=oz a b rfl
theorem sG {x y:Operand}{t e:TypeId}{m n:Int}(a:ev σ x=.int .i64 m)(b:ev σ y=.int .i64 n):VO X V σ ⟨d',.binOp .sub t x y e,ty,pos,af,gd⟩ (.int .i64 (aI (m - n))):=oz a b rfl
theorem rJ {x y:Operand}{t e:TypeId}{m n:Int}(a:ev σ x=.int .i64 m)(b:ev σ y=.int .i64 n):VO X V σ ⟨d',.binOp .mul t x y e,ty,pos,af,gd⟩ (.int .i64 (aI (m*n))):=oz a b rfl
theorem jG {x y:Operand}{t e:TypeId}{m n:Int}(a:ev σ x=.int .i64 m)(b:ev σ y=.int .i64 n):VO X V σ ⟨d',.binOp .lss t x y e,ty,pos,af,gd⟩ (.bool (decide (m<n))):=oz a b rfl
theorem vLe {x y:Operand}{t e:TypeId}{m n:Int}(a:ev σ x=.int .i64 m)(b:ev σ y=.int .i64 n):VO X V σ ⟨d',.binOp .leq t x y e,ty,pos,af,gd⟩ (.bool (decide (m≤n))):=oz a b rfl
theorem tj {x y:Operand}{t e:TypeId}{m n:Int}(a:ev σ x=.int .i64 m)(b:ev σ y=.int .i64 n):VO X V σ ⟨d',.binOp .gtr t x y e,ty,pos,af,gd⟩ (.bool (decide (m>n))):=oz a b rfl
theorem zP {x y:Operand}{t e:TypeId}{m n:Int}(a:ev σ x=.int .i64 m)(b:ev σ y=.int .i64 n):VO X V σ ⟨d',.binOp .geq t x y e,ty,pos,af,gd⟩ (.bool (decide (m≥n))):=oz a b rfl
theorem kO {x y:Operand}{t e:TypeId}{m n:Int}(a:ev σ x=.int .i64 m)(b:ev σ y=.int .i64 n):VO X V σ ⟨d',.binOp .eql t x y e,ty,pos,af,gd⟩ (.bool (m==n)):=oz a b rfl
theorem vt {x y:Operand}{t e:TypeId}{m n:Int}(a:ev σ x=.int .i64 m)(b:ev σ y=.int .i64 n):VO X V σ ⟨d',.binOp .neq t x y e,ty,pos,af,gd⟩ (.bool (m != n)):=oz a b rfl
theorem ne {x:Operand}{t:TypeId}{b:Bool}(a:ev σ x=.bool b):VO X V σ ⟨d',.unOp .not t x,ty,pos,af,gd⟩ (.bool !b):=iV (by simp only [pv,a])
theorem eW (a:Nat){S:TypeId}{x:Operand}{f fo b k:Nat}(h:dK X.P S f=some fo)(i:ev σ x=.pointer (some ⟨b,k,none⟩))(e:k+fo=a:=by exact rfl):VO X V σ ⟨d',.fieldAddr S x f,ty,pos,af,gd⟩ (.pointer (some ⟨b,a,none⟩)):=jF h i e
theorem eS {T:TypeId}{x:Operand}{b k:Nat}{cs:List Value}{a:Nat}{v:Value}(i:Nat)(h:fO X.P T=some false)(e:lk V i=aK b cs a)(l:ev σ x=.pointer (some ⟨b,k,none⟩))(j:sy cs k=some v):VO X V σ ⟨d',.load T x,ty,pos,af,gd⟩ v:=tx i h e l j
theorem dV {t e:TypeId}{x y:Operand}{g o n c sz:Nat}{k:IntKind}{j:Int}(b:mz X.P t=some e)(a:iK X.P e=some sz)(i:ev σ x=.slice (some ⟨g,o,none⟩) n c)(l:ev σ y=.int k j)(h:0≤j∧j<n):VO X V σ ⟨d',.indexAddr t x y,ty,pos,af,gd⟩ (.pointer (some ⟨g,o+j.toNat*sz,none⟩)):=rC b a i l h.1 h.2
theorem fQ {T:TypeId}{x:Operand}{g o n c:Nat}{xs:List Int}{j:Int}(i:Nat)(b:fO X.P T=some false)(a:kh (lk V i) (Kind.int .i64) (.slice (some ⟨g,o,none⟩) n c) xs)(e:ev σ x=.pointer (some ⟨g,o+j.toNat*1,none⟩))(h:0≤j∧j<n):VO X V σ ⟨d',.load T x,ty,pos,af,gd⟩ (.int .i64 (ix xs j)) :=
 kn (K:=Kind.int .i64) (fo:=0) (pr:=fun x=>.int .i64 x) i j b ((DecK.scal _ _).leaf fun _ _=>rfl) a e h.1 h.2
theorem fG {c b:Bool}{x y z:Operand}(a:ev σ x=.bool c)(h:c=false)(e:ev σ z=.bool b):VO X V σ ⟨d',.pick x y z,ty,pos,af,gd⟩ (.bool (c||b)):=mK a h e (vb (by rw [h]; rfl))
theorem fB {c:Bool}{x y z:Operand}(b:Bool)(a:ev σ x=.bool c)(h:c=true)(e:ev σ y=.bool true:=by exact rfl):VO X V σ ⟨d',.pick x y z,ty,pos,af,gd⟩ (.bool (c||b)):=mJ a h e (vb (by rw [h]; rfl))
theorem iJ {c b:Bool}{x y z:Operand}(a:ev σ x=.bool c)(h:c=true)(e:ev σ y=.bool b):VO X V σ ⟨d',.pick x y z,ty,pos,af,gd⟩ (.bool (c&&b)):=mJ a h e (vb (by rw [h]; rfl))
theorem ki {c:Bool}{x y z:Operand}(b:Bool)(a:ev σ x=.bool c)(h:c=false)(e:ev σ z=.bool false:=by exact rfl):VO X V σ ⟨d',.pick x y z,ty,pos,af,gd⟩ (.bool (c&&b)):=mK a h e (vb (by rw [h]; rfl))
theorem dO {j:Nat}{c:Bool}(e:c=true)(h:o.guard=some (j,true):=by exact rfl)(a:m0 ops σ j=some c:=by exact rfl):eF ops σ o=true:=mH h a e
theorem bW {j:Nat}{c:Bool}(e:c=false)(h:o.guard=some (j,false):=by exact rfl)(a:m0 ops σ j=some c:=by exact rfl):eF ops σ o=true:=mH h a e
theorem cX {j:Nat}{c:Bool}(e:c=true)(h:o.guard=some (j,false):=by exact rfl)(a:m0 ops σ j=some c:=by exact rfl):eF ops σ o=false:=ld h a e
theorem jh {j:Nat}{c:Bool}(e:c=false)(h:o.guard=some (j,true):=by exact rfl)(a:m0 ops σ j=some c:=by exact rfl):eF ops σ o=false:=ld h a e
theorem lO (b:VO X V σ ⟨some d,op,ty,pos,af,gd⟩ v)(h:TL X ops V (kT σ d v) rest Q)(hw:eF ops σ ⟨some d,op,ty,pos,af,gd⟩=true:=by exact rfl)(a:j3 X.n (some d)=true:=by exact rfl):TL X ops V σ (⟨some d,op,ty,pos,af,gd⟩::rest) Q:=tH v b hw a h
theorem lW (hw:eF ops σ ⟨some d,op,ty,pos,af,gd⟩=true)(b:VO X V σ ⟨some d,op,ty,pos,af,gd⟩ v)(h:TL X ops V (kT σ d v) rest Q)(a:j3 X.n (some d)=true:=by exact rfl):TL X ops V σ (⟨some d,op,ty,pos,af,gd⟩::rest) Q:=tH v b hw a h
theorem lI {i:IntKind}{n:Int}(b:pv σ op=some (.int i n))(h:TL X ops V (kT σ d (.int i n)) rest Q)(hw:eF ops σ ⟨some d,op,ty,pos,af,gd⟩=true:=by exact rfl)(a:j3 X.n (some d)=true:=by exact rfl):TL X ops V σ (⟨some d,op,ty,pos,af,gd⟩::rest) Q:=tH _ (iV b) hw a h
theorem lB {n:Bool}(b:pv σ op=some (.bool n))(h:TL X ops V (kT σ d (.bool n)) rest Q)(hw:eF ops σ ⟨some d,op,ty,pos,af,gd⟩=true:=by exact rfl)(a:j3 X.n (some d)=true:=by exact rfl):TL X ops V σ (⟨some d,op,ty,pos,af,gd⟩::rest) Q:=tH _ (iV b) hw a h
theorem lS {a:Option Addr}{n c:Nat}(e:pv σ op=some (.slice a n c))(h:TL X ops V (kT σ d (.slice a n c)) rest Q)(hw:eF ops σ ⟨some d,op,ty,pos,af,gd⟩=true:=by exact rfl)(b:j3 X.n (some d)=true:=by exact rfl):TL X ops V σ (⟨some d,op,ty,pos,af,gd⟩::rest) Q:=tH _ (iV e) hw b h
theorem lP {b n:Nat}(e:pv σ op=some (.pointer (some ⟨b,n,none⟩)))(h:TL X ops V (kT σ d (.pointer (some ⟨b,n,none⟩))) rest Q)(hw:eF ops σ ⟨some d,op,ty,pos,af,gd⟩=true:=by exact rfl)(a:j3 X.n (some d)=true:=by exact rfl):TL X ops V σ (⟨some d,op,ty,pos,af,gd⟩::rest) Q:=tH _ (iV e) hw a h
theorem dR (i:Nat)(j:ops[i]?=some ⟨some d,op,ty,pos,af,gd⟩)(r:VO X V0 σ ⟨some d,op,ty,pos,af,gd⟩ v)(h:TD X ops k V0 fuel (listed.setIfInBounds i true) V (kT σ d v) Q)(hw:eF ops σ ⟨some d,op,ty,pos,af,gd⟩=true:=by exact rfl)(b:j3 X.n (some d)=true:=by exact rfl)
  (a:Nat.blt i k=true:=by exact rfl) (q:jE ops k=true:=by assumption) (l:Region.noSelect ops=true:=by assumption) (e:(Region.free .any ops listed i&&(Region.ready .any ops listed).contains i)=true:=by kernel_rfl) (hS:∀ w,St X.C w V→St X.C w V0:=by exact sL []):TD X ops k V0 (fuel+1) listed V σ Q :=
 Cq i v j r hw b a q l e hS h
theorem dW (i:Nat)(j:ops[i]?=some ⟨some d,op,ty,pos,af,gd⟩)(hw:eF ops σ ⟨some d,op,ty,pos,af,gd⟩=true)(r:VO X V0 σ ⟨some d,op,ty,pos,af,gd⟩ v)(h:TD X ops k V0 fuel (listed.setIfInBounds i true) V (kT σ d v) Q)(b:j3 X.n (some d)=true:=by exact rfl)
  (a:Nat.blt i k=true:=by exact rfl) (q:jE ops k=true:=by assumption) (l:Region.noSelect ops=true:=by assumption) (e:(Region.free .any ops listed i&&(Region.ready .any ops listed).contains i)=true:=by kernel_rfl) (hS:∀ w,St X.C w V→St X.C w V0:=by exact sL []):TD X ops k V0 (fuel+1) listed V σ Q :=
 Cq i v j r hw b a q l e hS h
theorem dF (i:Nat)(j:ops[i]?=some ⟨some d,op,ty,pos,af,gd⟩)(hw:eF ops σ ⟨some d,op,ty,pos,af,gd⟩=false)(h:TD X ops k V0 fuel (listed.setIfInBounds i true) V (kT σ d undef) Q)(b:j3 X.n (some d)=true:=by exact rfl)
  (a:Nat.blt i k=true:=by exact rfl) (q:jE ops k=true:=by assumption) (l:Region.noSelect ops=true:=by assumption) (e:(Region.free .any ops listed i&&(Region.ready .any ops listed).contains i)=true:=by kernel_rfl) (hS:∀ w,St X.C w V→St X.C w V0:=by exact sL []):TD X ops k V0 (fuel+1) listed V σ Q :=
 xe i j hw b a q l e hS h
theorem qF {A:Type}{a:A→Value×List HP}{fn:Func}{t:Nat}{e:Exit}(x:A)(i:∀ w,St X.C w V→St X.C w ((a x).2++V0))(b:(e=.ret∨e=.normal):=by first | exact .inl rfl | exact .inr rfl)(h:fn.results=#[.tmp t]:=by exact rfl)(j:σ t=(a x).1:=by exact rfl) :
  TQ X V σ e (m' X.P fn (sC X V0 a)):=dL (rs:=[.tmp t]) (vs:=[(a x).1]) b x h ⟨j,trivial⟩ rfl i
theorem lN (V:List HP)(h:TL X ops V σ rest Q):TL X ops V σ rest Q:=h
theorem cN {cd:Code}(V:List HP)(h:TC X V σ cd Q):TC X V σ cd Q:=h
theorem qN {e:Exit}(V:List HP)(h:TQ X V σ e Q):TQ X V σ e Q:=h
theorem lM (V':List HP)(f:∀ w,St X.C w V→St X.C w V')(h:TL X ops V' σ rest Q):TL X ops V σ rest Q:=ji f h
theorem cM {cd:Code}(V':List HP)(f:∀ w,St X.C w V→St X.C w V')(h:TC X V' σ cd Q):TC X V σ cd Q:=Ac f h
theorem qM {e:Exit}(V':List HP)(f:∀ w,St X.C w V→St X.C w V')(h:TQ X V' σ e Q):TQ X V σ e Q:=Cr f h
theorem eT {T:TypeId}{x:Operand}{l:List Value}(e:ev σ x=.agg l.toArray)(h:∀ b,TL X ops (aK b l T::V) (gJ σ d' (.pointer (some ⟨b,0,none⟩))) rest Q)(a:j3 X.n d'=true:=by exact rfl)(hw:eF ops σ ⟨d',.box T x,ty,pos,af,gd⟩=true:=by exact rfl):TL X ops V σ (⟨d',.box T x,ty,pos,af,gd⟩::rest) Q :=
 fS a hw (by rw [e]; rfl) h
theorem lC {A:Type}{f:FuncId}{xs:Array Operand}{e:Array TypeId}{as:List Value}{b:List HP}{a:A→Value×List HP}(m:Nat)(q:aW X.P f=true)(i:xs.toList.map (ev σ)=as)(j:FnOk X.P f as b a)(h:tk m V=b)(k:∀ x,TL X ops ((a x).2++dp m V) (gJ σ d' (a x).1) rest Q)
  (l:j3 X.n d'=true:=by exact rfl) (hw:eF ops σ ⟨d',.call ⟨.value (.func f),xs,e⟩,ty,pos,af,gd⟩=true:=by exact rfl):TL X ops V σ (⟨d',.call ⟨.value (.func f),xs,e⟩,ty,pos,af,gd⟩::rest) Q :=
 b' m l hw q i j h k
theorem cQ {x:Code}(b:List (Nat×Value))(a:List HP)(e:TC X V σ x (iU (Jn X (fun _:Unit×Unit=>True) (fun _=>b) (fun _=>a)) Q))(h:∀ σ',TQ X a (qi σ' b) .normal Q):TC X V σ x Q:=jt _ _ _ e (fun _ σ' _=>h σ')
theorem qJ {b:List (Nat×Value)}{a:List HP}(h2:∀ w,St X.C w V→St X.C w a)(h1:m7 σ b:=by exact aS R):TQ X V σ .normal (iU (Jn X (fun _:Unit×Unit=>True) (fun _=>b) (fun _=>a)) Q):=dC ((),()) trivial h1 h2
theorem qI {A:Type}{pf:A→Prop}{e:A→List (Nat×Value)}{b:A→List HP}(a:A)(h:pf a)(h2:∀ w,St X.C w V→St X.C w (b a))(h1:m7 σ (e a):=by exact aS R):TQ X V σ .normal (iU (Jn X pf e b) Q):=dC a h h1 h2
theorem qA {S E A:Type}{e:S→A→List (Nat×Value)}{b:S→A→List HP}{s:S}(a:A)(h2:∀ w,St X.C w V→St X.C w (b s a))(h1:m7 σ (e s a):=by exact aS R):TQ X V σ .normal (iU (Co X (E:=E) (.inl s) e b) Q):=vL a h1 h2
theorem cL {α:Type}{K:Kind α}{a:Option Addr}{n c:Nat}{xs:List α}{cd:Code}(i:Nat)(b:kh (lk V i) K (.slice a n c) xs)(h:n=xs.length→TC X V σ cd Q):TC X V σ cd Q:=bK i b h
end
end Go.Pg
namespace Go.Pg
def oA:Nat:=1099511627776
end Go.Pg
namespace Go.Pg
section
variable {X:Cx}{V:List HP}{σ:dQ}{Q:Exit→dQ→World→Prop}{ops:Array Oper}{rest:List Oper}{o:Oper}{cd:Code}{ex:Exit}
variable {d:Option Nat}{ty:TypeId}{pos:String}{af:Array Edge}{gd:Option (Nat×Bool)}
variable {α:Type}
end
section
variable {C w:World}{V:List HP}{α:Type}
end
section
variable {X:Cx}{V:List HP}{σ:dQ}{Q:Exit→dQ→World→Prop}{ops:Array Oper}{rest:List Oper}{o:Oper}{cd:Code}{ex:Exit}
variable {d:Option Nat}{ty:TypeId}{pos:String}{af:Array Edge}{gd:Option (Nat×Bool)}
variable {α:Type}
end
end Go.Pg
namespace Go.Pg
section
variable {X:Cx}{V V0:List HP}{σ:dQ}{Q:Exit→dQ→World→Prop}{ops:Array Oper}{o:Oper}{k fuel:Nat}{listed:Array Bool}
theorem d1 (i:Nat)(a:ops[i]?=some o)(h:TL X ops V σ [o] (DK X ops k V0 fuel listed i Q))(b:Region.ready .any ops listed=[i]:=by kernel_rfl):TD X ops k V0 (fuel+1) listed V σ Q:=Ab i b a h
theorem dD (h:TQ X V σ .normal Q)(a:Region.ready .any ops listed=[]:=by kernel_rfl):TD X ops k V0 fuel listed V σ Q:=xY a h
theorem qE {i:Nat}(h:TD X ops k V0 fuel (listed.setIfInBounds i true) V σ Q)(a:Nat.blt i k=false:=by exact rfl):TQ X V σ .normal (DK X ops k V0 fuel listed i Q):=y6 a h
end
end Go.Pg
namespace Go.Pg
section
variable {X:Cx}{V:List HP}{σ:dQ}{Q:Exit→dQ→World→Prop}{ops:Array Oper}{rest:List Oper}
variable {d:Option Nat}{ty:TypeId}{pos:String}{af:Array Edge}{gd:Option (Nat×Bool)}
variable {α β:Type}
end
section
variable (K:Kind Int)(A:Option Addr)(n c:Nat)
end
section
variable {C w:World}{V:List HP}{α β γ:Type}
end
section
variable {α β γ:Type}
end
section
variable {X:Cx}{V:List HP}{σ:dQ}{Q:Exit→dQ→World→Prop}
end
theorem St.em {C w:World}{V:List HP}(s:St C w V):St C w (Ck::V):=by
 obtain ⟨a,I,h,g,j,l,s⟩:=s
 exact ⟨a,I,h,g,j,l,Hp.none,h,Join.none h,rfl,s⟩
end Go.Pg
namespace Go.Pg
def oB (xs:List Int):aN:=xs.map fun n=>UInt8.ofNat n.toNat
section
variable {X:Cx}{V:List HP}{σ:dQ}{Q:Exit→dQ→World→Prop}{ops:Array Oper}{rest:List Oper}
variable {d:Option Nat}{ty:TypeId}{pos:String}{af:Array Edge}{gd:Option (Nat×Bool)}
theorem Ag {h b e:TypeId}{x:Operand}{a:Option Addr}{n c:Nat}{xs:List Int}(i:Nat)(M:mz X.P h=some e)(B:X.P.underlying e=some (.int .u8))(u:X.P.underlying b=some .string)
  (E:kh (lk V i) (Kind.int .u8) (.slice a n c) xs) (q:ev σ x=.slice a n c):VO X V σ ⟨d,.convert h b x,ty,pos,af,gd⟩ (aG (oB xs)):=by
 intro w s
 obtain ⟨J,lw,r⟩:=s.reads E
 obtain ⟨A,U,O,_,_,F⟩:=r
 injection O with e1 e2 e3
 subst e1 e2 e3
 have l:=js M
 by_cases hp:0<xs.length
 ·obtain ⟨g,o,rfl,L⟩:=F hp
  have:=run_convert_bytes_arg (P:=X.P) w h e l B g o xs.length c xs rfl (fun k hk=>by
   obtain ⟨cs,h1,h2⟩:=L k _ (List.getElem?_eq_getElem hk)
   replace h1:cs=[.int .u8 xs[k]]:=h1
   subst h1
   have:=hO lw (h2 0 _ rfl)
   rw [List.getD_eq_getElem?_getD,List.getElem?_eq_getElem hk,Option.getD_some]
   have D:o+k*(Kind.int .u8).sz+0=o+k:=by show o+k*1+0=o+k; omega
   rw [D] at this
   exact this) b u
  simp only [execOp,q,Sem.run_bind,this,Result.andThen_ok,Sem.run_pure]
  rfl
 ·have T:xs=[]:=List.eq_nil_of_length_eq_zero (by omega)
  subst T
  have:(convert h b (.slice a 0 c)).run X.P w=.ok (.string ByteArray.empty) w:=by
   rw [run_convert_bytes_string w h b e a 0 c l B u]
   cases a with
   | none=>simp [Conv.bytesToString]
   | some a =>
    have I:(loadCells a 0).run X.P w=.ok (([]:List Int).map (Value.int .u8)).toArray w:=run_loadCells_list (P:=X.P) w a [] (fun j v G=>by simp at G)
    rw [run_bytesToString w a 0 c [] I]; rfl
  have q:ev σ x=.slice a 0 c:=q
  simp only [execOp,q,Sem.run_bind,this,Result.andThen_ok,Sem.run_pure]
  rfl
theorem vM {α:Type}{K:Kind α}{t e:TypeId}{x y:Operand}{m:Int}{z:α}{r:Nat}(U:j3 X.n d=true)(hw:eF ops σ ⟨d,.makeSlice t x y,ty,pos,af,gd⟩=true)(ht:mz X.P t=some e)(q:iK X.P e=some K.sz)(B:hR X.P e=some r)
  (hz:po X.P K e z) (Z:0<K.sz) (hx:ev σ x=.int .i64 0) (hy:ev σ y=.int .i64 m) (T:0≤m) (h1:m≤140737488355328) (h2:r*m≤281474976710656)
  (h:∀ a c,TL X ops (ow K e (.slice a ([]:List α).length c) []::V) (gJ σ d (.slice a ([]:List α).length c)) rest Q):TL X ops V σ (⟨d,.makeSlice t x y,ty,pos,af,gd⟩::rest) Q:=by
 intro w s
 obtain ⟨cs,i,G,a0⟩:=hz
 unfold kW at i
 unfold iK at q
 unfold hR at B
 cases hi:X.P.info? e with
 | none=>rw [hi] at q; cases q
 | some info =>
  rw [hi] at i q B
  simp only [Option.map_some,Option.some.injEq,Option.bind_some] at i q B
  cases hzz:info.zero with
  | none=>rw [hzz] at i; cases i
  | some zv =>
   rw [hzz] at i
   simp only [Option.map_some,Option.some.injEq] at i
   have Y:=run_make (P:=X.P) w t e info zv (js ht) hi hzz .i64 .i64 0 m (Int.le_refl _) T (by rw [B]; exact h2) (by omega)
   refine fE U hw ?_
   have F:(execOp (ev σ) ⟨d,.makeSlice t x y,ty,pos,af,gd⟩).run X.P w=.ok (.value (.slice (some ⟨w.heap.size,0,none⟩) 0 m.toNat)) (w.alloc (.cells (madeCells zv.cells (m.toNat*info.size)) e)):=by
    simp only [execOp,hx,hy,Sem.run_bind,Y,Result.andThen_ok,Sem.run_pure]; rfl
   rw [F]
   have J:zv.cells.size=K.sz:=by rw [← G,← i]; simp
   have D:(madeCells zv.cells (m.toNat*info.size)).toList=(List.replicate m.toNat cs).flatten:=by
    rw [q,← J,nZ _ (by omega),← i]
   have u:(madeCells zv.cells (m.toNat*info.size)).toList.length=m.toNat*K.sz:=by rw [Array.length_toList,size_madeCells,q]
   refine h (some ⟨w.heap.size,0,none⟩) m.toNat _ (St.new s (fun a=>a.alloc _) (fun I _=>?_) ?_)
   ·obtain ⟨O,M⟩:=Join.of_disj (h1:=Hp.one w.heap.size (.cells (madeCells zv.cells (m.toNat*info.size)) e)) (h2:=Hp.none) (fun _=>.inr rfl)
    have L:=M.symm.eq_of_none
    refine ⟨O,.inr ⟨w.heap.size,m.toNat,[],[],(madeCells zv.cells (m.toNat*info.size)).toList,(0,0),Hp.none,by simp,by simp,by simp only [maxLen]; omega,by rw [u]; simp,.inl rfl,?_,rfl,rfl⟩,?_,?_⟩
    ·simp only [List.nil_append,List.append_nil,Array.toArray_toList]
     exact M
    ·rw [L]
     intro b o l
     simp only [Hp.one] at l
     split at l
     ·rename_i j
      subst j
      rw [← Option.some.inj l]
      show (w.heap.push _)[w.heap.size]?=_
      simp
     ·cases l
    ·rw [L]
     intro b j
     simp only [Hp.one] at j
     split at j
     ·rename_i l; exact Nat.le_of_eq l.symm
     ·exact absurd rfl j
   ·intro b o l
    have E:=(Array.getElem?_eq_some_iff.1 l).1
    show (w.heap.push _)[b]?=_
    rw [Array.getElem?_push,if_neg (Nat.ne_of_lt E)]
    exact l
end
end Go.Pg
namespace Go.Pg
abbrev gl (g:Nat)(m:Int):HP:=cl g 0 [.int .i64 m]
theorem rK {P:Program}{f:FuncId}{args:List Value}{v:Value}(h:∀ w,Calls P f args.toArray w fun e a=>e=.returned v∧a=w):FnOk P f args [] (fun _:Unit=>(v,[])):=by
 intro C w V s
 refine Calls.mono' (h w) ?_
 rintro e a ⟨rfl,rfl⟩
 exact ⟨(),rfl,s⟩
end Go.Pg
namespace Go.Pg
def Ah (P:Program)(T:TypeId):Option (Nat×TypeId):=match P.underlying T with
 | some (.array n e)=>some (n,e)
 | _=>none
theorem tP {P:Program}{T:TypeId}{n:Nat}{e:TypeId}(h:Ah P T=some (n,e)):P.underlying T=some (.array n e):=by
 unfold Ah at h
 split at h
 ·rename_i i b a
  injection h with h; injection h with h1 h2
  subst h1 h2; exact a
 ·cases h
section
variable {X:Cx}{V:List HP}{σ:dQ}{Q:Exit→dQ→World→Prop}{ops:Array Oper}{rest:List Oper}
variable {d:Option Nat}{ty:TypeId}{pos:String}{af:Array Edge}{gd:Option (Nat×Bool)}
theorem yb {T e:TypeId}{n sz:Nat}{z:List Value}(i:Ah X.P T=some (n,e))(q:kW X.P T=some z)(l:iK X.P e=some sz):VO X V σ ⟨d,.build T #[],ty,pos,af,gd⟩ (.agg z.toArray):=by
 intro w _
 obtain ⟨h,a,b⟩:=lg (P:=X.P) (w:=w) q
 have s:∀ r,Instr.fill r h.cells []=some h.cells:=fun _=>rfl
 have j:h.cells=z.toArray:=by rw [b]
 simp only [execOp,Instr.build,Sem.run_bind,a,Result.andThen_ok,run_underlying (tP i),fA l,List.map_toArray,List.map_nil,j]
 rfl
theorem tQ {t e:TypeId}{x y:Operand}{g o n sz:Nat}{k:IntKind}{j:Int}(a:Ah X.P t=some (n,e))(b:iK X.P e=some sz)(l:ev σ x=.pointer (some ⟨g,o,none⟩))(q:ev σ y=.int k j)(h:0≤j∧j<(n:Int)) :
  VO X V σ ⟨d,.indexAddr t x y,ty,pos,af,gd⟩ (.pointer (some ⟨g,o+j.toNat*sz,none⟩)):=by
 intro w _
 have i:=tP a
 simp [execOp,l,q,Instr.indexAt,asIntOf,run_underlying i,Instr.sureAddr,h.1,h.2,fA b,gH]
end
theorem tR {k:IntKind}(I:Hp)(xs:List Int):gU (Kind.int k) I Hp.none xs (xs.map (Value.int k)):=by
 induction xs with
 | nil=>exact ⟨rfl,rfl⟩
 | cons x xs ih=>exact ⟨Hp.none,Hp.none,[.int k x],_,Join.none _,rfl,⟨rfl,rfl⟩,ih⟩
theorem St.b2o {C w:World}{V:List HP}{b:Nat}{T:Nat}{k:IntKind}{cs:List Value}(s:St C w V)(i:Nat)(xs:List Int)(l:lk V i=aK b cs T)(q:cs=xs.map (Value.int k)){n:Nat}(u:xs.length=n)(a:Nat.ble n 1000=true) :
  St C w (ow (Kind.int k) T (.slice (some ⟨b,0,none⟩) n n) xs::Pg.rm V i):=by
 subst u
 have e:=s.mv i
 unfold Pg.mv at e
 refine St.imp (A:=[lk V i]) (B:=[_]) (V:=Pg.rm V i) e ?_
 rintro I h _ _ ⟨h1,h2,j,p,E⟩
 rw [l] at p
 obtain rfl:h2=Hp.none:=E
 refine ⟨h1,Hp.none,j,?_,rfl⟩
 obtain ⟨fr,D,r⟩:∃ fr,h1=Hp.one b (.cells cs.toArray T fr)∧(fr=(0,0)∨cs.length≤fr.1):=⟨(0,0),p,.inl rfl⟩
 have a:=Nat.le_of_ble_eq_true a
 subst q
 exact .inr ⟨b,xs.length,[],xs.map (Value.int k),[],fr,Hp.none,rfl,Nat.le_refl _,by simp only [maxLen]; omega,by simp,by simpa using r,by rw [D]; simpa using (Join.none _).symm,tR I xs⟩
end Go.Pg
namespace Go.Pg
def pk (L:List HP):HP:=⟨fun I h=>fH L I h,fun l s=>j4 l s⟩
theorem St.pack {C w:World}{A V:List HP}(s:St C w (A++V)):St C w (pk A::V):=by
 refine St.imp (A:=A) (B:=[pk A]) s ?_
 intro I h _ _ a
 exact ⟨h,Hp.none,(Join.none h).symm,a,rfl⟩
theorem St.unpack {C w:World}{A V:List HP}(s:St C w (pk A::V)):St C w (A++V):=by
 refine St.imp (A:=[pk A]) (B:=A) s ?_
 rintro I h _ _ ⟨h1,h2,j,a,rfl⟩
 rw [j.symm.eq_of_none]; exact a
def InvOk {A:Type}(P:Program)(v:Value)(name:String)(args:List Value)(b:List HP)(a:A→Value×List HP):Prop :=
 ∃ (f:FuncId) (as:List Value),(∀ w,(callMethod v name args.toArray).run P w=.ok (.enter f as.toArray) w)∧FnOk P f as b a
theorem InvOk.mk {A:Type}{P:Program}{v r:Value}{name:String}{args:List Value}{b:List HP}{a:A→Value×List HP}{f:FuncId}
  (h:∀ (args:Array Value) w,(callMethod v name args).run P w=.ok (.enter f (#[r]++args)) w) (e:FnOk P f (r::args) b a):InvOk P v name args b a :=
 ⟨f,r::args,fun w=>by rw [h]; simp,e⟩
theorem InvOk.perm {A:Type}{P:Program}{v:Value}{name:String}{args:List Value}{b Pre':List HP}{a:A→Value×List HP}(e:InvOk P v name args b a)(h:∀ C w V,St C w (Pre'++V)→St C w (b++V)):InvOk P v name args Pre' a:=by
 obtain ⟨f,as,h1,h2⟩:=e
 exact ⟨f,as,h1,h2.perm h⟩
theorem InvOk.lends {T:Type}{P:Program}{v:Value}{name:String}{args:List Value}{A' A B:List HP}{a:T→Value×List HP}(b:InvOk P v name args (A++B) a)(e:rI A' A)(h:∀ x,AllC (a x).2):InvOk P v name args (A'++B) (fun x=>((a x).1,A'++(a x).2)):=by
 obtain ⟨f,as,h1,h2⟩:=b
 exact ⟨f,as,h1,h2.lends e h⟩
section
variable {X:Cx}{V:List HP}{σ:dQ}{Q:Exit→dQ→World→Prop}{ops:Array Oper}{rest:List Oper}
variable {d:Option Nat}{ty:TypeId}{pos:String}{af:Array Edge}{gd:Option (Nat×Bool)}
theorem tS {A:Type}{r:Operand}{name:String}{xs:Array Operand}{b:Array TypeId}{v:Value}{as:List Value}{h:List HP}{a:A→Value×List HP}(m:Nat)(hw:eF ops σ ⟨d,.call ⟨.invoke r name,xs,b⟩,ty,pos,af,gd⟩=true)
  (G:ev σ r=v) (B:xs.toList.map (ev σ)=as) (j:InvOk X.P v name as h a) (u:tk m V=h) (k:∀ x,TL X ops ((a x).2++dp m V) (gJ σ d (a x).1) rest Q)
  (D:j3 X.n d=true:=by exact rfl):TL X ops V σ (⟨d,.call ⟨.invoke r name,xs,b⟩,ty,pos,af,gd⟩::rest) Q:=by
 intro w s
 refine fE D hw ?_
 obtain ⟨f,i,E,j⟩:=j
 have F:(execOp (ev σ) ⟨d,.call ⟨.invoke r name,xs,b⟩,ty,pos,af,gd⟩).run X.P w=.ok (.enter f i.toArray) w:=by
  have l:(#[v]++xs.map (ev σ)).extract 1 (#[v]++xs.map (ev σ)).size=as.toArray:=by
   rw [mI xs _ B]
   have:(#[v]++as.toArray).size=as.length+1:=by simp [Nat.add_comm]
   rw [this]
   apply Array.ext'
   simp [Array.toList_extract,List.extract]
  have q:(#[v]++xs.map (ev σ))[0]?=some v:=by rw [Array.getElem?_append_left (by simp)]; rfl
  simp only [execOp,resolve,G,Sem.run_bind,Sem.run_pure,Result.andThen_ok,invoke,q,l,E]
 rw [F]
 rw [← n8 m V,u] at s
 refine Calls.mono' (j X.C w _ s) ?_
 rintro e I ⟨x,rfl,s'⟩
 exact k x I s'
theorem j5 {T a:TypeId}{x:Operand}{u:TypeId}{v:Value}(h:X.P.underlying T=some (.interface (X.P.methodsAt T)))(i:ev σ x=.iface u v):VO X V σ ⟨d,.binOp .eql T x (.const .nilIface) a,ty,pos,af,gd⟩ (.bool false):=by
 intro w _
 have e:ev σ (.const .nilIface)=.nilIface:=rfl
 have g:(eqGuard .eql T x (.const .nilIface) (.iface u v) .nilIface).run X.P w=.ok () w:=rfl
 have b:binOp .eql T (.iface u v) .nilIface=(do pure (.bool (← Op.equal T (.iface u v) .nilIface))):=rfl
 simp only [execOp,i,e,Sem.run_bind,g,Result.andThen_ok,b,run_equal_held_nil w T u v h,Sem.run_pure]
theorem vN {T a:TypeId}{x:Operand}(h:X.P.underlying T=some (.interface (X.P.methodsAt T)))(i:ev σ x=.nilIface):VO X V σ ⟨d,.binOp .eql T x (.const .nilIface) a,ty,pos,af,gd⟩ (.bool true):=by
 intro w _
 have e:ev σ (.const .nilIface)=.nilIface:=rfl
 have g:(eqGuard .eql T x (.const .nilIface) .nilIface .nilIface).run X.P w=.ok () w:=by
  cases x<;>rfl
 have b:binOp .eql T .nilIface .nilIface=(do pure (.bool (← Op.equal T .nilIface .nilIface))):=rfl
 simp only [execOp,i,e,Sem.run_bind,g,Result.andThen_ok,b,run_equal_nil_nil w T h,Sem.run_pure]
theorem jH {u:TypeId}{x:Operand}{v:Value}(a:X.P.concrete u=true)(b:ev σ x=v):VO X V σ ⟨d,.makeInterface u x,ty,pos,af,gd⟩ (.iface u v):=by
 intro w _
 simp only [execOp,b,Sem.run_bind,run_makeInterface w _ _ a,Result.andThen_ok,Sem.run_pure]
end
end Go.Pg
namespace Go.Pg
def ob (l:Nat)(o:Obj):HP:=⟨fun _ h=>h=Hp.one l o,fun _ e=>e⟩
abbrev vu (l:Nat)(r:Loop):HP:=ob l (.loop r)
def pe {A:Type}(f:A→List HP):HP:=⟨fun I h=>∃ x,fH (f x) I h,fun l ⟨x,s⟩=>⟨x,j4 l s⟩⟩
theorem St.pei {C w:World}{A:Type}{f:A→List HP}{V:List HP}(x:A)(s:St C w (f x++V)):St C w (pe f::V):=by
 refine St.imp (A:=f x) (B:=[pe f]) s ?_
 intro I h _ _ a
 exact ⟨h,Hp.none,(Join.none h).symm,⟨x,a⟩,rfl⟩
theorem St.peo {C w:World}{A:Type}{f:A→List HP}{V:List HP}(s:St C w (pe f::V)):∃ x,St C w (f x++V):=by
 obtain ⟨a,I,h,g,j,l,h1,h2,b,⟨x,c⟩,d⟩:=s
 exact ⟨x,a,I,h,g,j,l,cY.2 ⟨h1,h2,b,c,d⟩⟩
theorem kr (l:Nat)(o:Obj):Hp.one l o l=some o:=by simp [Hp.one]
theorem oC {l b:Nat}{o:Obj}(h:Hp.one l o b≠none):b=l:=by
 unfold Hp.one at h
 split at h
 ·assumption
 ·exact absurd rfl h
theorem kC {C w:World}{V:List HP}{l:Nat}{o:Obj}(s:St C w V)(i:Nat)(h:lk V i=ob l o):w.heap[l]?=some o:=by
 obtain ⟨I,g,p,_,a,_⟩:=s.look i
 rw [h] at p
 cases p
 exact a l o (kr l o)
theorem Same.putObj {C w:World}(s:Same C w)(l:Nat)(o:Obj):Same C (w.putObj l o):=⟨s.os,s.tape,s.output⟩
theorem St.putObj {C w:World}{V:List HP}{l:Nat}{o o':Obj}(s:St C w (ob l o::V)):St C (w.putObj l o') (ob l o'::V):=by
 have r:=kC s 0 rfl
 have i:l<w.heap.size:=(Array.getElem?_eq_some_iff.1 r).1
 refine St.turn s 0 (q:=ob l o') (fun a=>a.putObj l o') ?_
 rintro I h e _ _
 cases e
 refine ⟨_,rfl,?_,?_,?_⟩
 ·intro b o2 e
  have:=oC (by rw [e]; exact fun h=>by cases h)
  subst this
  rw [kr] at e
  cases e
  exact World.putObj_heap_same i
 ·intro b j
  have:=oC j
  subst this
  exact .inl (by rw [kr]; exact fun h=>by cases h)
 ·intro b o2 e h2
  rw [World.putObj_heap_other]
  ·exact h2
  ·rintro rfl
   rw [kr] at e; cases e
theorem St.newOb {C w:World}{V:List HP}(s:St C w V)(o:Obj):St C (w.alloc o) (ob w.heap.size o::V):=by
 refine St.new s (q:=ob w.heap.size o) (fun a=>a.alloc o) (fun I _=>⟨_,rfl,?_,?_⟩) ?_
 ·intro b o2 e
  have:=oC (by rw [e]; exact fun h=>by cases h)
  subst this
  rw [kr] at e
  cases e
  exact World.alloc_heap_new w o
 ·intro b j
  exact Nat.le_of_eq (oC j).symm
 ·intro b o2 e
  show (w.heap.push o)[b]?=some o2
  have i:=(Array.getElem?_eq_some_iff.1 e).1
  rw [Array.getElem?_push,if_neg (Nat.ne_of_lt i)]
  exact e
def zQ (ro:Option Nat):Fence:={Fence.wide with round:=ro}
theorem sH {ro:Option Nat}{n:Nat}{P:Program}{f:FuncId}{args:Array Value}{w:World}{R:Ending→World→Prop}(h:Calls P f args w R):CallsIn (zQ ro) n P f args w R :=
 (callsIn_wide (n:=n)).2 h
theorem tT {ro:Option Nat}{n:Nat}{P:Program}{a:String}{args:Array Value}{w:World}{R:Value→World→Prop}(h:Rows P a args w R):RowsIn (zQ ro) n P a args w R:=by
 intro c cs _
 obtain ⟨v,b,r,s⟩:=h c cs
 exact ⟨v,b,r,stepsIn_wide.2 s⟩
theorem tU {ro:Option Nat}{P:Program}{o:Oper}{a:Act}{b:Act→World→Prop}{Q:Exit→Act→World→Prop}{r:Result Next}(h:o.upon P a b Q r):o.uponIn (zQ ro) 0 P a b Q r:=by
 match r,h with
 | .ok (.value v) w',h=>exact h
 | .ok .skip w',h=>exact h
 | .ok (.defer d) w',h=>exact h
 | .ok (.enter f args) w',h =>
  refine ⟨(fun h=>by cases h),?_⟩
  refine (sH h).mono ?_
  intro e j i
  cases e<;>exact i
 | .ok (.row row args) w',h=>exact ⟨(fun h=>by cases h),tT h⟩
 | .halt (.panic v) w',h=>exact h
def kD (l:List Oper):Bool:=l.all fun o=>match o.op with
 | .defer _=>false
 | _=>true
theorem ln {ro:Option Nat}{P:Program}{ops:Array Oper}{Q:Exit→Act→World→Prop}(B:¬ LetsOut Q):∀ (l:List Oper) (a:Act) (w:World),kD l=true→wpList P ops Q l a w→wpListIn (zQ ro) 0 P ops Q l a w:=by
 intro l
 induction l with
 | nil=>exact fun a w _ h=>h
 | cons o l ih =>
  intro a w i h
  simp only [kD,List.all_cons,Bool.and_eq_true] at i
  have q:∀ c,o.op≠.defer c:=by
   intro c u
   have:=i.1
   rw [u] at this
   cases this
  unfold wpList at h
  unfold wpListIn
  split
  ·rename_i hw
   rw [if_pos hw] at h
   have h:=h.resolve_right fun h=>B h.2
   refine ⟨fun _ _=>trivial,?_⟩
   have e:o.semAt (zQ ro).round a.eval=execOp a.eval o:=Oper.semAt_eq _ _ _ q
   rw [e]
   unfold Oper.wp at h
   have mono:∀ r,o.upon P a (wpList P ops Q l) Q r→o.upon P a (wpListIn (zQ ro) 0 P ops Q l) Q r:=by
    intro r b
    match r,b with
    | .ok (.value v) w',b=>exact ih _ _ i.2 b
    | .ok .skip w',b=>exact ih _ _ i.2 b
    | .ok (.defer _) w',b=>exact ih _ _ i.2 b
    | .ok (.enter f args) w',b =>
     refine Calls.mono' b ?_
     intro e s j
     cases e with
     | returned v=>exact ih _ _ i.2 j
     | panicked c=>exact j
     | outgrown=>exact j
    | .ok (.row row args) w',b=>exact Rows.mono b fun v s h=>ih _ _ i.2 h
    | .halt (.panic v) w',b=>exact b
   exact tU (mono _ h)
  ·rename_i hw
   rw [if_neg hw] at h
   exact ⟨fun _ _=>trivial,ih _ _ i.2 h⟩
def Cs {A:Type}(P:Program)(l:Nat)(args:List Value)(h:List HP)(a:A→Value×List HP):Prop :=
 ∀ C w V,St C w (h++V)→∃ f tmps b body,(Instr.yield l args.toArray).run P w=.ok (.round l f tmps b body) w ∧
  RoundIn Fence.wide 0 P l f tmps b body w (fun e i=>∃ x,e=.returned (a x).1∧St C i ((a x).2++V))
def Ai (P:Program)(N:Nn)(ops:Array Oper)(rest:List Oper)(Q:Exit→dQ→World→Prop)(σ:dQ)(w:World):Prop :=
 ∀ a:Act,a.tmps.size=N.n→a.defers=N.ds→fM a=σ→wpListIn Fence.wide 0 P ops (hD N Q) rest a w
section
variable {X:Cx}{V:List HP}{σ:dQ}{Q:Exit→dQ→World→Prop}{ops:Array Oper}{rest:List Oper}
variable {d:Option Nat}{ty:TypeId}{pos:String}{af:Array Edge}{gd:Option (Nat×Bool)}
theorem rL {N:Nn}{Q:Exit→dQ→World→Prop}(h:∀ σ w,Q .outgrown σ w→False):¬ LetsOut (hD N Q):=by
 rintro ⟨a,w,q⟩
 exact h _ _ (fY q (by simp)).2.2
theorem yc {L:Nat}{l:List Oper}(k:Nat)(J:kD (l.take k)=true)(I:∀ σ w,Q .outgrown σ w→False)
  (h:TL X l.toArray V σ (l.take k) (iU (fun σ w=>Ai X.P X.n l.toArray (l.drop k) Q σ w) Q)):TC X V σ (.region L l.toArray false) Q:=by
 intro w s a h1 h2 G
 refine (wpIn_wide (n:=0)).1 (wpIn_region_lit ?_)
 have h:=ln (ro:=none) (rL (N:=X.n) (Q:=iU (fun σ w=>Ai X.P X.n l.toArray (l.drop k) Q σ w) Q) I) _ a w J (h w s a h1 h2 G)
 have mono:∀ (B:List Oper) (a:Act) (w:World),wpListIn Fence.wide 0 X.P l.toArray (hD X.n (iU (fun σ w=>Ai X.P X.n l.toArray (l.drop k) Q σ w) Q)) B a w→wpListIn Fence.wide 0 X.P l.toArray (hD X.n Q) (B++l.drop k) a w:=by
  intro B
  induction B with
  | nil =>
   intro a w h
   obtain ⟨M,O,T⟩:=fY h (by simp)
   exact T a M O rfl
  | cons o B ih =>
   intro a w h
   have D:∀ e,e≠Exit.normal→∀ a w,hD X.n (iU (fun σ w=>Ai X.P X.n l.toArray (l.drop k) Q σ w) Q) e a w→hD X.n Q e a w:=by
    intro e j a w q
    cases e with
    | normal=>exact absurd rfl j
    | _=>exact q
   unfold wpListIn at h
   show wpListIn Fence.wide 0 X.P l.toArray (hD X.n Q) (o::(B++l.drop k)) a w
   unfold wpListIn
   split
   ·rename_i hw
    rw [if_pos hw] at h
    refine ⟨h.1,?_⟩
    have h:=h.2
    revert h
    generalize (o.semAt Fence.wide.round a.eval).run X.P w=r
    intro i
    match r,i with
    | .ok (.value v) w',i=>exact ih _ _ i
    | .ok .skip w',i=>exact ih _ _ i
    | .ok (.defer _) w',i=>exact ih _ _ i
    | .ok (.enter f args) w',i =>
     refine ⟨i.1,i.2.mono ?_⟩
     intro e E j
     cases e with
     | returned v=>exact ih _ _ j
     | panicked c=>exact D _ (by intro h; cases h) _ _ j
     | outgrown=>obtain ⟨b,u,F⟩:=j; exact ⟨b,u,D _ (by intro h; cases h) _ _ F⟩
    | .ok (.row row args) w',i=>exact ⟨i.1,i.2.mono fun v E h=>ih _ _ h⟩
    | .ok (.round l0 f tmps asn body) w',i =>
     refine ⟨i.1,i.2.mono ?_⟩
     intro e E j
     cases e with
     | returned v=>exact ih _ _ j
     | panicked c=>exact D _ (by intro h; cases h) _ _ j
     | outgrown=>obtain ⟨b,u,F⟩:=j; exact ⟨b,u,D _ (by intro h; cases h) _ _ F⟩
    | .halt (.panic v) w',i=>exact D _ (by intro h; cases h) _ _ i
   ·rename_i hw
    rw [if_neg hw] at h
    exact ⟨h.1,ih _ _ h.2⟩
 have:=mono _ a w h
 rw [List.take_append_drop] at this
 exact this
theorem vO {A:Type}{r:Operand}{l:Nat}{xs:Array Operand}{i:Array TypeId}{as:List Value}{b:A→Value×List HP}{j:List HP}{q:Nat}(m:Nat)
  (T:ev σ r=.func (.yield l) #[] #[]) (J:xs.toList.map (ev σ)=as) (L:Cs X.P l as j b) (I:tk m V=j) (G:∀ σ w,Q .outgrown σ w→False) (M:kD rest=true)
  (k:∀ x,TL X ops ((b x).2++dp m V) (kT σ q (b x).1) rest Q) (B:j3 X.n (some q)=true:=by exact rfl) :
  TQ X V σ .normal (iU (fun σ w=>Ai X.P X.n ops (⟨some q,.call ⟨.value r,xs,i⟩,ty,pos,af,none⟩::rest) Q σ w) Q):=by
 intro w s a h1 h2 E
 refine wpListIn_plain rfl fun K F=>⟨fun _ _=>trivial,?_⟩
 rw [← n8 m V,I] at s
 obtain ⟨f,tmps,u,body,U,O⟩:=L X.C w _ s
 have D:(execOp (ev σ) ⟨some q,.call ⟨.value r,xs,i⟩,ty,pos,af,none⟩).run X.P w=.ok (.round l f tmps u body) w:=by
  have e:(#[]++xs.map (ev σ))=as.toArray:=by rw [mI xs _ J]; simp
  simp only [execOp,resolve,T,Deferred.ofValue,Sem.run_bind,Sem.run_pure,Result.andThen_ok,invoke,e,U]
 rw [show Fence.wide.round=none from rfl,Oper.semAt_none,km,E,D]
 refine ⟨(fun h=>by cases h),O.mono ?_⟩
 rintro e w' ⟨x,rfl,s'⟩
 refine F _ _ ?_
 obtain ⟨p1,Y,Z⟩:=m6 (o:=⟨some q,.call ⟨.value r,xs,i⟩,ty,pos,af,none⟩) B h1 h2 E (b x).1
 exact ln (ro:=none) (rL G) _ _ _ M (k x w' s' _ p1 Y Z)
end
end Go.Pg
namespace Go.Pg
theorem St.dn {C w:World}{p:HP}{A V:List HP}(s:St C w (p::(A++V))):St C w (A++p::V):=by
 obtain ⟨q,I,h,g,j,lw,g1,B,e,c,d⟩:=s
 obtain ⟨k1,l,i,a,b⟩:=cY.1 d
 obtain ⟨m,r,u⟩:=Join.assoc' i.symm e
 exact ⟨q,I,h,g,j,lw,cY.2 ⟨k1,m,u.symm,a,g1,l,r,c,b⟩⟩
theorem St.up {C w:World}{p:HP}{A V:List HP}(s:St C w (A++p::V)):St C w (p::(A++V)):=by
 obtain ⟨q,I,h,g,j,lw,d⟩:=s
 obtain ⟨k1,B,i,a,g1,e,l,c,b⟩:=cY.1 d
 obtain ⟨m,r,u⟩:=Join.assoc' l.symm i
 exact ⟨q,I,h,g,j,lw,g1,m,u.symm,c,cY.2 ⟨k1,e,r,a,b⟩⟩
structure Rec (rc:Loop)(ps:Array Tmp)(asn body:Code)(n:Nat)(σ:dQ):Prop where
 st:rc.state=.ready
 pe:rc.pending=none
 ps:rc.params=ps
 asn:rc.assign=asn
 body:rc.body=body
 sz:rc.tmps.size=n
 env:(fun t=>rc.tmps.getD t undef)=σ
def Ct (X:Cx)(σ2:dQ)(V:List HP):Exit→dQ→World→Prop
 | .normal,σ,w=>σ=σ2∧St X.C w V
 | _,_,_=>False
def Cu (X:Cx)(go:Bool){A:Type}(f:A→List HP)(V:List HP):Exit→dQ→World→Prop
 | .normal,_,w=>go=true∧∃ x,St X.C w (f x++V)
 | _,_,_=>False
theorem Aj {X:Cx}{V:List HP}{σ:dQ}:TQ X V σ .normal (Ct X σ V):=fun w s=>⟨rfl,s⟩
theorem Cv {X:Cx}{A:Type}{f:A→List HP}{V0 V:List HP}{σ:dQ}{go:Bool}(x:A)(a:go=true)(h:∀ w,St X.C w V0→St X.C w (f x++V)):TQ X V0 σ .normal (Cu X go f V):=fun w s=>⟨a,x,h w s⟩
theorem pA {a:Loop}{s:LoopState}(h1:a.state=.ready)(h2:a.pending=none):({{a with state:=s} with state:=.ready,pending:=none}:Loop)=a:=by
 cases a; simp only at h1 h2; subst h1; subst h2; rfl
theorem yok {A:Type}{P:Program}{l:Nat}{i:Loop}{p:Tmp}{n i1 b i2:Nat}{I J:List Oper}{σ:dQ}{x:Value}{go:Bool}(D r:A→List HP)
  (j:Rec i #[p] (.region i1 I.toArray false) (.block b (.region i2 J.toArray false)) n σ) (h1:kD I=true) (h2:kD J=true) (hp:Nat.blt p n=true)
  (G:∀ a,∃ σ2,∀ C V,TL ⟨P,.of n,C⟩ I.toArray (D a++V) (kT σ p x) I (Ct ⟨P,.of n,C⟩ σ2 (D a++V))∧TL ⟨P,.of n,C⟩ J.toArray (D a++V) σ2 J (Cu ⟨P,.of n,C⟩ go r V)) :
  Cs P l [x] [pe fun a=>vu l i::D a] (fun _:Unit=>(.bool go,[pe fun a=>vu l i::r a])):=by
 intro C w V s
 obtain ⟨a,s⟩:=s.peo
 have hl:=kC s 0 rfl
 refine ⟨i.fn,_,i.assign,i.body,run_yield hl (by rw [j.ps]; rfl),?_⟩
 rw [j.asn,j.body,j.ps]
 have u:((#[p]:Array Tmp).zip [x].toArray).foldl (fun tmps (t,a)=>tmps.setIfInBounds t a) i.tmps=i.tmps.setIfInBounds p x:=by
  simp
 rw [u]
 have T:(i.tmps.setIfInBounds p x).size=n:=by rw [Array.size_setIfInBounds,j.sz]
 have O:p<i.tmps.size:=by rw [j.sz]; exact Nat.lt_of_lt_of_le (Nat.lt_succ_self _) (Nat.le_of_ble_eq_true hp)
 have E:fM {tmps:=i.tmps.setIfInBounds p x,defers:=[]}=kT σ p x:=by
  have:=kA {tmps:=i.tmps,defers:=[]} (some p) x (fun d e=>by cases e; exact O)
  rw [show ({tmps:=i.tmps,defers:=[]}:Act).put (some p) x={tmps:=i.tmps.setIfInBounds p x,defers:=[]} from rfl] at this
  rw [this,← j.env]
  rfl
 obtain ⟨σ2,wk⟩:=G a
 have wa:=(wk C (vu l i::V)).1
 have wb:=(wk C (vu l {i with state:=.busy}::V)).2
 refine roundIn_of_wpIn trivial (n:=0) ?_
 have g1:=ln (ro:=some l) (rL (N:=.of n) (Q:=Ct ⟨P,.of n,C⟩ σ2 (D a++vu l i::V)) fun _ _ h=>h) _ _ w h1 (wa w (St.dn s) _ T rfl E)
 refine wpIn_mono (wpIn_region_lit g1) ?_
 rintro e a' w' q
 cases e with
 | normal =>
  obtain ⟨Y,Z,B,L⟩:=fY q (by simp)
  have L:=St.up L
  have M:=kC L 0 rfl
  refine ⟨_,run_beginRound M j.st,?_⟩
  have s2:=St.dn (L.putObj (o':=.loop {i with state:=.busy}))
  have g2:=ln (ro:=some l) (rL (N:=.of n) (Q:=Cu ⟨P,.of n,C⟩ go r (vu l {i with state:=.busy}::V)) fun _ _ h=>h) _ _ _ h2 (wb _ s2 _ Y Z B)
  refine wpIn_block (wpIn_mono (wpIn_region_lit g2) ?_)
  rintro e a0 U q
  cases e with
  | normal =>
   obtain ⟨Y,Z,rfl,y,B⟩:=fY q (by simp)
   have B:=St.up B
   have F:=kC B 0 rfl
   refine ⟨_,_,run_endRound none F,(),rfl,?_⟩
   have s3:=B.putObj (o':=.loop {{i with state:=.busy} with state:=.ready,pending:=none})
   rw [pA j.st j.pe] at s3
   refine Eq.mp (congrArg (fun o=>St C (U.putObj l o) (pe (fun a=>vu l i::r a)::V)) ?_) (St.pei y s3)
   exact (congrArg Obj.loop (pA (s:=.busy) j.st j.pe)).symm
  | ret=>rcases q with ⟨_,_,q⟩|⟨_,q⟩<;>exact q.elim
  | _=>exact (fY q (by simp)).2.2.elim
 | ret=>rcases q with ⟨_,_,q⟩|⟨_,q⟩<;>exact q.elim
 | _=>exact (fY q (by simp)).2.2.elim
def nf (fn:Func):Bool:=fn.results.toList.all fun r=>match r with
 | .tmp _=>true
 | _=>false
theorem nO {fn:Func}{σ:dQ}{P:Program}{w l:World}{v:Value}(i:nf fn=true)(h:(iI fn σ).run P w=.ok v w):(iI fn σ).run P l=.ok v l:=by
 unfold iI at h ⊢
 obtain ⟨rs,e⟩:∃ rs:List ResultVar,fn.results=rs.toArray:=⟨fn.results.toList,by simp⟩
 rw [e,List.mapM_toArray] at h ⊢
 unfold nf at i
 rw [e] at i
 have j:∀ (rs:List ResultVar),rs.all (fun r=>match r with | .tmp _=>true | _=>false)=true→∃ vs,∀ w,(rs.mapM (fun | .tmp t=>pure (σ t) | .cell a t=>do loadVar t (← asAddr (σ a)):ResultVar→Sem Value)).run P w=.ok vs w:=by
  intro rs
  induction rs with
  | nil=>exact fun _=>⟨[],fun _=>rfl⟩
  | cons r rs ih =>
   intro h
   simp only [List.all_cons,Bool.and_eq_true] at h
   obtain ⟨vs,b⟩:=ih h.2
   cases r with
   | tmp t=>exact ⟨σ t::vs,fun w=>by simp [List.mapM_cons,b]⟩
   | cell a t=>cases h.1
 obtain ⟨vs,b⟩:=j rs (by simpa using i)
 simp only [Sem.run_bind,Sem.run_map] at h ⊢
 have q:=b w
 have s:=b l
 refine (congrArg (fun r=>Result.andThen (Result.andThen r _) _) s).trans ?_
 have h:=(congrArg (fun r=>Result.andThen (Result.andThen r _) _) q).symm.trans h
 simp only [Result.andThen_ok,Sem.run_pure] at h ⊢
 cases h
 rfl
abbrev qu (D:Nat):Deferred:={target:=.collected D,args:=#[]}
def zR {A:Type}(P:Program)(fn:Func)(C:World)(V:List HP)(b:A→Value×List HP):Act→World→Prop :=
 fun a w=>LeavesInM Fence.wide 0 P fn a.tmps (fun e h=>∃ x,e=.returned (b x).1∧St C h ((b x).2++V)) a.defers .returning w
theorem yd {A:Type}{P:Program}{f:FuncId}{fn:Func}{c:Code}{args:List Value}{j:List HP}{b:A→Value×List HP}(G:P.funcs[f]?=some fn)(F:fn.body=some c)(n:Nat)(D:fn.ntmps=n)(B:Nat.ble args.length n=true)
  (h:∀ C V,TC ⟨P,⟨n,[],zR P fn C V b⟩,C⟩ (j++V) (tt args.toArray) c (m' P fn (sC ⟨P,⟨n,[],zR P fn C V b⟩,C⟩ V b))):FnOk P f args j b:=by
 subst D
 intro C w V s
 refine callsIn_wide.1 (callsIn_of_wp_marks (n:=0) G F trivial ?_)
 have B:args.toArray.size≤fn.ntmps:=by have:=Nat.le_of_ble_eq_true B; simpa using this
 refine (wpIn_wide (n:=0)).2 (wp_mono (h C V w s _ (by simp at B ⊢; omega) rfl rA) ?_)
 rintro e a i q
 rcases q with ⟨J,I,E⟩|⟨rfl,q⟩
 ·have l:∀ v,(iI fn (fM a)).run P i=.ok v i→sC ⟨P,⟨fn.ntmps,[],zR P fn C V b⟩,C⟩ V b v i→LeavesInM Fence.wide 0 P fn a.tmps (fun e i=>∃ x,e=.returned (b x).1∧St C i ((b x).2++V)) a.defers .returning i:=by
   rintro v r ⟨x,rfl,s'⟩
   rw [I]
   exact ⟨_,r,x,rfl,s'⟩
  cases e with
  | normal =>
   obtain ⟨v,r,u⟩:=E
   exact l v r u
  | ret =>
   obtain ⟨v,r,u⟩:=E
   exact l v r u
  | _=>exact E.elim
 ·exact q
def xf (P:Program)(fn:Func)(R:Value→World→Prop):Exit→dQ→World→Prop
 | .ret,σ,w=>∃ v,(iI fn σ).run P w=.ok v w∧R v w
 | _,_,_=>False
theorem ye {A:Type}{X b:Cx}{V V0:List HP}{σ:dQ}{a:A→Value×List HP}{P:Program}{fn:Func}(h:TQ X V σ .ret (m' P fn (sC b V0 a))):TQ X V σ .ret (xf P fn (sC b V0 a)):=fun w s=>h w s
def Rg (X:Cx)(b rest:Code)(Q:Exit→dQ→World→Prop):dQ→World→Prop:=fun σ w =>
 ∀ a:Act,a.tmps.size=X.n.n→a.defers=X.n.ds→fM a=σ→b.wp X.P (Exit.then (rest.wp X.P (hD X.n Q)) (hD X.n Q)) a w
theorem yf {X:Cx}{V:List HP}{σ:dQ}{Q:Exit→dQ→World→Prop}{b i rest:Code}(h:TC X V σ b (iU (Rg X i rest Q) Q)):TC X V σ (.seq (.seq b i) rest) Q:=by
 intro w s a h1 h2 l
 refine wp_seq (wp_seq (wp_mono (h w s a h1 h2 l) ?_))
 rintro e j D q
 cases e with
 | normal =>
  obtain ⟨r,u,B⟩:=fY q (by simp)
  exact B j r u rfl
 | _=>exact q
theorem vQ {A B H:Type}{P:Program}{n:Nat}{fn:Func}{C:World}{V:List HP}{i:A→Value×List HP}{Vc:List HP}{σ:dQ}{Q:Exit→dQ→World→Prop}{id:Nat}{g:Operand}{ps:Array Tmp}{r body rest:Code}{I:Nat}{F:List Value}
  (Wc:List HP) (E E':Nat→Loop→HP) (Pre' W3:List HP) (cp:B→List HP) (Wd:H→List HP)
  (hV:Vc=Wc++V) (hg:ev σ g=.func (.func I) #[] F.toArray) (Y:aW P I=true)
  (Z:∀ V w l b,St C w (vu l b::(Wc++V))→St C w (E l b::(Pre'++(W3++V))))
  (u:∀ l b,Rec b ps r body n σ→FnOk P I (.func (.yield l) #[] #[]::F) (E l b::Pre') (fun x:B=>(.tuple [].toArray,E' l b::cp x)))
  (M:∀ V w l b x,St C w (E' l b::(cp x++(W3++V)))→∃ y,St C w (vu l b::(Wd y++V)))
  (ht:nf fn=true)
  (hk:∀ y D V,TC ⟨P,⟨n,[qu D],fun _ _=>False⟩,C⟩ (Wd y++V) σ rest (xf P fn (sC ⟨P,⟨n,[qu D],fun _ _=>False⟩,C⟩ V i))) :
  TQ ⟨P,⟨n,[],zR P fn C V i⟩,C⟩ Vc σ .normal (iU (Rg ⟨P,⟨n,[],zR P fn C V i⟩,C⟩ (.block id (.rangeFunc g ps r body)) rest (m' P fn (sC ⟨P,⟨n,[],zR P fn C V i⟩,C⟩ V i))) Q):=by
 intro w s a h1 h2 U
 subst hV
 refine wp_block ((wpIn_wide (n:=0)).1 (wpIn_rangeFunc ?_))
 intro J _
 obtain ⟨b,O⟩:∃ b:Loop,b={state:=.ready,pending:=none,fn:=J,tmps:=a.tmps,params:=ps,assign:=r,body:=body,defers:=w.heap.size}:=⟨_,rfl⟩
 have j:Rec b ps r body n σ:=by
  subst O
  exact ⟨rfl,rfl,rfl,rfl,rfl,h1,U⟩
 have s1:=St.dn (St.newOb s (.deferred (some [])))
 have s2:=St.newOb s1 (.loop b)
 rw [World.size_alloc] at s2
 obtain ⟨G,L⟩:∃ G,(w.alloc (.deferred (some []))).alloc (.loop b)=G:=⟨_,rfl⟩
 rw [L] at s2
 refine ⟨w.heap.size+1,[qu w.heap.size],G,{target:=.fn (.func I) F.toArray,args:=#[.func (.yield (w.heap.size+1)) #[] #[]]},G,I,
  #[.func (.yield (w.heap.size+1)) #[] #[]]++F.toArray,G,?_,?_,fun _ _=>trivial,?_,fun h=>(by cases h),?_⟩
 ·rw [← L,O]; exact run_enterLoop_outer _ _ _ _ _
 ·have:a.eval g=.func (.func I) #[] F.toArray:=by rw [km,U]; exact hg
  simp only [resolve,this]
  simp [go_sem]
 ·simp [invoke,go_sem,jV Y]
 ·refine callsIn_wide.2 ?_
  have hc:=u (w.heap.size+1) b j C G _ (Z _ _ _ _ s2)
  have e:(Value.func (.yield (w.heap.size+1)) #[] #[]::F).toArray=#[Value.func (.yield (w.heap.size+1)) #[] #[]]++F.toArray:=by
   apply Array.ext'; simp
  rw [e] at hc
  refine Calls.mono' hc ?_
  rintro e w2 ⟨x,rfl,s3⟩
  obtain ⟨y,s4⟩:=M _ _ _ _ x s3
  have hl:=kC s4 0 rfl
  refine ⟨none,w2.putObj (w.heap.size+1) (.loop {b with state:=.exhausted}),?_,?_⟩
  ·have:=run_endLoop (P:=P) hl (by rw [j.st]; simp)
   exact this.trans (by rw [j.pe])
  ·have s5:=(s4.putObj (o':=.loop {b with state:=.exhausted})).rm 0
   refine wp_mono (hk y w.heap.size _ _ s5 _ h1 (by rw [h2]; rfl) U) ?_
   rintro e a5 w5 q
   rcases q with ⟨q1,q2,q3⟩|⟨_,q⟩
   ·cases e with
    | ret =>
     obtain ⟨v,hr,x,rfl,T⟩:=q3
     refine .inr ⟨rfl,?_⟩
     have T:=St.up T
     show LeavesInM Fence.wide 0 P fn a5.tmps _ a5.defers .returning w5
     rw [q2]
     exact ⟨by simp,.inl ⟨_,_,rfl,run_takeDeferred (kC T 0 rfl),_,nO ht hr,x,rfl,(T.putObj (o':=.deferred none)).rm 0⟩⟩
    | _=>exact q3.elim
   ·exact q.elim
end Go.Pg
