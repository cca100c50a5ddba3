import Derived.Test.YtmpnollfdpdipaaGreatDoorPg9
import Derived.Lib.AppendZerosOnto
import Derived.Lib.Overlaps
import Derived.Laws.Externs
import Derived.Laws.BytesArg
import Derived.WideLaws
import Derived.RangeFuncRecord
set_option linter.unusedVariables false
set_option linter.unusedSimpArgs false
namespace Go.Pg
abbrev sc {α:Type}(a:Option Addr)(xs:List α)(c:Nat):Value:=.slice a xs.length c
abbrev il {α:Type}(xs:List α):Value:=.int .i64 xs.length
abbrev HH:Type:=Option Addr×Nat×Nat
theorem R {α:Sort _}{a:α}:a=a:=rfl
theorem so {α:Type _}{a b:α}(h:some a=some b):a=b:=Option.some.inj h
theorem bo (b:Bool):b=true∨b=false:=Bool.eq_false_or_eq_true b
theorem oT {c a:Bool}(h:c=true):(c||a)=true:=by rw [h]; rfl
theorem aF {c a:Bool}(h:c=false):(c&&a)=false:=by rw [h]; rfl
def up:Nat→Nat→List Nat
 | _,0=>[]
 | a,n+1=>a::up (a+1) n
def rg:List Nat→List Nat
 | a::n::t=>up a n++rg t
 | _=>[]
theorem St.d {α:Type}{K:Kind α}{C w:World}{V:List HP}{v:Value}{xs:List α}(s:St C w V)(i:Nat)(a:lk V i=bF K v xs):St C w (bF K v xs::V):=s.dup i a
theorem St.e {C w:World}{V:List HP}(s:St C w V)(n:Nat)(is:List Nat)(h:kN n is=true:=by exact rfl)(a:rT n V=true:=by exact rfl):St C w (is.map (lk V)++dp n V):=s.sel n is h a
theorem St.f {C w:World}{V:List HP}(s:St C w V)(n:Nat)(is:List Nat)(h:kN n (rg is)=true:=by exact rfl)(a:rT n V=true:=by exact rfl):St C w ((rg is).map (lk V)++dp n V):=s.sel n (rg is) h a
theorem aS {σ:bL}:∀ {l:List (Nat×Value)},l.map (fun p=>σ p.1)=l.map Prod.snd→h9 σ l
 | [],_=>trivial
 | (_,_)::_,h=>⟨(List.cons.inj h).1,aS (List.cons.inj h).2⟩
section
variable {X:Cx}{V V0:List HP}{σ:bL}{Q:Exit→bL→World→Prop}{ops:Array Oper}{rest:List Oper}{o:Oper}{k fuel:Nat}{listed:Array Bool}{C:World}
variable {d:Nat}{d':Option Nat}{op:Op}{ty:TypeId}{pos:String}{af:Array Edge}{gd:Option (Nat×Bool)}{v:Value}
theorem vz (v:Value)(h:VO X V σ o v):VO X V σ o v:=h
theorem vp (v:Value)(h:pv σ op=some v):VO X V σ ⟨d',op,ty,pos,af,gd⟩ v:=eS h
theorem vI {i:IntKind}{n:Int}(h:pv σ op=some (.int i n)):VO X V σ ⟨d',op,ty,pos,af,gd⟩ (.int i n):=eS h
theorem vB {n:Bool}(h:pv σ op=some (.bool n)):VO X V σ ⟨d',op,ty,pos,af,gd⟩ (.bool n):=eS h
theorem vS {a:Option Addr}{n c:Nat}(h:pv σ op=some (.slice a n c)):VO X V σ ⟨d',op,ty,pos,af,gd⟩ (.slice a n c):=eS h
theorem vP {b n:Nat}(h:pv σ op=some (.pointer (some ⟨b,n,none⟩))):VO X V σ ⟨d',op,ty,pos,af,gd⟩ (.pointer (some ⟨b,n,none⟩)):=eS h
theorem vA {l:List Value}(h:pv σ op=some (.agg l.toArray)):VO X V σ ⟨d',op,ty,pos,af,gd⟩ (.agg l.toArray):=eS h
theorem vT {l:List Value}(h:pv σ op=some (.tuple l.toArray)):VO X V σ ⟨d',op,ty,pos,af,gd⟩ (.tuple l.toArray):=eS h
theorem jp {x y:Operand}{t g:TypeId}{b:BinOp}{m n:Int}(a:ev σ x=.int .i64 m)(e:ev σ y=.int .i64 n)(h:je .i64 b m n=some v):VO X V σ ⟨d',.binOp b t x y g,ty,pos,af,gd⟩ v:=eS (by simp only [pv,a,e]; exact h)
theorem oj {x y:Operand}{t g:TypeId}{m n:Int}(a:ev σ x=.int .i64 m)(e:ev σ y=.int .i64 n):VO X V σ ⟨d',.binOp .add t x y g,ty,pos,af,gd⟩ (.int .i64 (aK (m+n))):=jp a e rfl
theorem vq {x y:Operand}{t g:TypeId}{m n:Int}(a:ev σ x=.int .i64 m)(e:ev σ y=.int .i64 n):VO X V σ ⟨d',.binOp .sub t x y g,ty,pos,af,gd⟩ (.int .i64 (aK (m - n))):=jp a e rfl
theorem vMu {x y:Operand}{t g:TypeId}{m n:Int}(a:ev σ x=.int .i64 m)(e:ev σ y=.int .i64 n):VO X V σ ⟨d',.binOp .mul t x y g,ty,pos,af,gd⟩ (.int .i64 (aK (m*n))):=jp a e rfl
theorem nY {x y:Operand}{t g:TypeId}{m n:Int}(a:ev σ x=.int .i64 m)(e:ev σ y=.int .i64 n):VO X V σ ⟨d',.binOp .lss t x y g,ty,pos,af,gd⟩ (.bool (decide (m<n))):=jp a e rfl
theorem vLe {x y:Operand}{t g:TypeId}{m n:Int}(a:ev σ x=.int .i64 m)(e:ev σ y=.int .i64 n):VO X V σ ⟨d',.binOp .leq t x y g,ty,pos,af,gd⟩ (.bool (decide (m≤n))):=jp a e rfl
theorem ul {x y:Operand}{t g:TypeId}{m n:Int}(a:ev σ x=.int .i64 m)(e:ev σ y=.int .i64 n):VO X V σ ⟨d',.binOp .gtr t x y g,ty,pos,af,gd⟩ (.bool (decide (m>n))):=jp a e rfl
theorem vGe {x y:Operand}{t g:TypeId}{m n:Int}(a:ev σ x=.int .i64 m)(e:ev σ y=.int .i64 n):VO X V σ ⟨d',.binOp .geq t x y g,ty,pos,af,gd⟩ (.bool (decide (m≥n))):=jp a e rfl
theorem vF {x y:Operand}{t g:TypeId}{m n:Int}(a:ev σ x=.int .i64 m)(e:ev σ y=.int .i64 n):VO X V σ ⟨d',.binOp .eql t x y g,ty,pos,af,gd⟩ (.bool (m==n)):=jp a e rfl
theorem ub {x y:Operand}{t g:TypeId}{m n:Int}(a:ev σ x=.int .i64 m)(e:ev σ y=.int .i64 n):VO X V σ ⟨d',.binOp .neq t x y g,ty,pos,af,gd⟩ (.bool (m != n)):=jp a e rfl
theorem om {x:Operand}{t:TypeId}{b:Bool}(a:ev σ x=.bool b):VO X V σ ⟨d',.unOp .not t x,ty,pos,af,gd⟩ (.bool !b):=eS (by simp only [pv,a])
theorem um (a:Nat){S:TypeId}{x:Operand}{f fo b k:Nat}(g:dH X.P S f=some fo)(h:ev σ x=.pointer (some ⟨b,k,none⟩))(e:k+fo=a:=by exact rfl):VO X V σ ⟨d',.fieldAddr S x f,ty,pos,af,gd⟩ (.pointer (some ⟨b,a,none⟩)):=kg g h e
theorem su {T:TypeId}{x:Operand}{b k:Nat}{cs:List Value}{a:Nat}{v:Value}(i:Nat)(g:eG X.P T=some false)(e:lk V i=aV b cs a)(j:ev σ x=.pointer (some ⟨b,k,none⟩))(h:m9 cs k=some v):VO X V σ ⟨d',.load T x,ty,pos,af,gd⟩ v:=mH i g e j h
theorem oq {t e:TypeId}{x y:Operand}{g o n c sz:Nat}{k:IntKind}{j:Int}(i:iP X.P t=some e)(a:fI X.P e=some sz)(m:ev σ x=.slice (some ⟨g,o,none⟩) n c)(q:ev σ y=.int k j)(h:0≤j∧j<n):VO X V σ ⟨d',.indexAddr t x y,ty,pos,af,gd⟩ (.pointer (some ⟨g,o+j.toNat*sz,none⟩)):=lj i a m q h.1 h.2
theorem pC {T:TypeId}{x:Operand}{g o n c:Nat}{xs:List Int}{j:Int}(i:Nat)(e:eG X.P T=some false)(a:fV (lk V i) (Kind.int .i64) (.slice (some ⟨g,o,none⟩) n c) xs)(m:ev σ x=.pointer (some ⟨g,o+j.toNat*1,none⟩))(h:0≤j∧j<n):VO X V σ ⟨d',.load T x,ty,pos,af,gd⟩ (.int .i64 (ix xs j)) :=
 eE (K:=Kind.int .i64) (fo:=0) (pr:=fun x=>.int .i64 x) i j e ((DecK.scal _ _).leaf fun _ _=>rfl) a m h.1 h.2
theorem qq {c b:Bool}{x y z:Operand}(a:ev σ x=.bool c)(h:c=false)(e:ev σ z=.bool b):VO X V σ ⟨d',.pick x y z,ty,pos,af,gd⟩ (.bool (c||b)):=ji a h e (vb (by rw [h]; rfl))
theorem rU {c:Bool}{x y z:Operand}(b:Bool)(a:ev σ x=.bool c)(h:c=true)(e:ev σ y=.bool true:=by exact rfl):VO X V σ ⟨d',.pick x y z,ty,pos,af,gd⟩ (.bool (c||b)):=i0 a h e (vb (by rw [h]; rfl))
theorem vr {c b:Bool}{x y z:Operand}(a:ev σ x=.bool c)(h:c=true)(e:ev σ y=.bool b):VO X V σ ⟨d',.pick x y z,ty,pos,af,gd⟩ (.bool (c&&b)):=i0 a h e (vb (by rw [h]; rfl))
theorem hU {j:Nat}{c:Bool}(e:c=true)(h:o.guard=some (j,true):=by exact rfl)(a:hR ops σ j=some c:=by exact rfl):cE ops σ o=true:=hZ h a e
theorem cI {j:Nat}{c:Bool}(e:c=false)(h:o.guard=some (j,false):=by exact rfl)(a:hR ops σ j=some c:=by exact rfl):cE ops σ o=true:=hZ h a e
theorem kB {j:Nat}{c:Bool}(e:c=true)(h:o.guard=some (j,false):=by exact rfl)(a:hR ops σ j=some c:=by exact rfl):cE ops σ o=false:=ip h a e
theorem lO (e:VO X V σ ⟨some d,op,ty,pos,af,gd⟩ v)(h:TL X ops V (gX σ d v) rest Q)(hw:cE ops σ ⟨some d,op,ty,pos,af,gd⟩=true:=by exact rfl)(a:fy X.n (some d)=true:=by exact rfl):TL X ops V σ (⟨some d,op,ty,pos,af,gd⟩::rest) Q:=pB v e hw a h
theorem lW (hw:cE ops σ ⟨some d,op,ty,pos,af,gd⟩=true)(e:VO X V σ ⟨some d,op,ty,pos,af,gd⟩ v)(h:TL X ops V (gX σ d v) rest Q)(a:fy X.n (some d)=true:=by exact rfl):TL X ops V σ (⟨some d,op,ty,pos,af,gd⟩::rest) Q:=pB v e hw a h
theorem lI {i:IntKind}{n:Int}(e:pv σ op=some (.int i n))(h:TL X ops V (gX σ d (.int i n)) rest Q)(hw:cE ops σ ⟨some d,op,ty,pos,af,gd⟩=true:=by exact rfl)(a:fy X.n (some d)=true:=by exact rfl):TL X ops V σ (⟨some d,op,ty,pos,af,gd⟩::rest) Q:=pB _ (eS e) hw a h
theorem lB {n:Bool}(e:pv σ op=some (.bool n))(h:TL X ops V (gX σ d (.bool n)) rest Q)(hw:cE ops σ ⟨some d,op,ty,pos,af,gd⟩=true:=by exact rfl)(a:fy X.n (some d)=true:=by exact rfl):TL X ops V σ (⟨some d,op,ty,pos,af,gd⟩::rest) Q:=pB _ (eS e) hw a h
theorem lS {a:Option Addr}{n c:Nat}(g:pv σ op=some (.slice a n c))(h:TL X ops V (gX σ d (.slice a n c)) rest Q)(hw:cE ops σ ⟨some d,op,ty,pos,af,gd⟩=true:=by exact rfl)(e:fy X.n (some d)=true:=by exact rfl):TL X ops V σ (⟨some d,op,ty,pos,af,gd⟩::rest) Q:=pB _ (eS g) hw e h
theorem dR (i:Nat)(j:ops[i]?=some ⟨some d,op,ty,pos,af,gd⟩)(r:VO X V0 σ ⟨some d,op,ty,pos,af,gd⟩ v)(h:TD X ops k V0 fuel (listed.setIfInBounds i true) V (gX σ d v) Q)(hw:cE ops σ ⟨some d,op,ty,pos,af,gd⟩=true:=by exact rfl)(e:fy X.n (some d)=true:=by exact rfl)
  (a:Nat.blt i k=true:=by exact rfl) (q:fu ops k=true:=by assumption) (m:Region.noSelect ops=true:=by assumption) (g:(Region.free .any ops listed i&&(Region.ready .any ops listed).contains i)=true:=by kernel_rfl) (hS:∀ w,St X.C w V→St X.C w V0:=by exact sL []):TD X ops k V0 (fuel+1) listed V σ Q :=
 uj i v j r hw e a q m g hS h
theorem dW (i:Nat)(j:ops[i]?=some ⟨some d,op,ty,pos,af,gd⟩)(hw:cE ops σ ⟨some d,op,ty,pos,af,gd⟩=true)(r:VO X V0 σ ⟨some d,op,ty,pos,af,gd⟩ v)(h:TD X ops k V0 fuel (listed.setIfInBounds i true) V (gX σ d v) Q)(e:fy X.n (some d)=true:=by exact rfl)
  (a:Nat.blt i k=true:=by exact rfl) (q:fu ops k=true:=by assumption) (m:Region.noSelect ops=true:=by assumption) (g:(Region.free .any ops listed i&&(Region.ready .any ops listed).contains i)=true:=by kernel_rfl) (hS:∀ w,St X.C w V→St X.C w V0:=by exact sL []):TD X ops k V0 (fuel+1) listed V σ Q :=
 uj i v j r hw e a q m g hS h
theorem qF {A:Type}{a:A→Value×List HP}{fn:Func}{t:Nat}{e:Exit}(x:A)(i:∀ w,St X.C w V→St X.C w ((a x).2++V0))(g:(e=.ret∨e=.normal):=by first | exact .inl rfl | exact .inr rfl)(h:fn.results=#[.tmp t]:=by exact rfl)(j:σ t=(a x).1:=by exact rfl) :
  TQ X V σ e (ie X.P fn (mx X V0 a)):=ft (rs:=[.tmp t]) (vs:=[(a x).1]) g x h ⟨j,trivial⟩ rfl i
theorem lN (V:List HP)(h:TL X ops V σ rest Q):TL X ops V σ rest Q:=h
theorem cN {cd:Code}(V:List HP)(h:TC X V σ cd Q):TC X V σ cd Q:=h
theorem qN {e:Exit}(V:List HP)(h:TQ X V σ e Q):TQ X V σ e Q:=h
theorem lM (V':List HP)(f:∀ w,St X.C w V→St X.C w V')(h:TL X ops V' σ rest Q):TL X ops V σ rest Q:=kK f h
theorem cM {cd:Code}(V':List HP)(f:∀ w,St X.C w V→St X.C w V')(h:TC X V' σ cd Q):TC X V σ cd Q:=sn f h
theorem qM {e:Exit}(V':List HP)(f:∀ w,St X.C w V→St X.C w V')(h:TQ X V' σ e Q):TQ X V σ e Q:=uk f h
theorem kC {T:TypeId}{x:Operand}{l:List Value}(e:ev σ x=.agg l.toArray)(h:∀ b,TL X ops (aV b l T::V) (dS σ d' (.pointer (some ⟨b,0,none⟩))) rest Q)(a:fy X.n d'=true:=by exact rfl)(hw:cE ops σ ⟨d',.box T x,ty,pos,af,gd⟩=true:=by exact rfl):TL X ops V σ (⟨d',.box T x,ty,pos,af,gd⟩::rest) Q :=
 gG a hw (by rw [e]; rfl) h
theorem lC {A:Type}{f:FuncId}{xs:Array Operand}{g:Array TypeId}{as:List Value}{e:List HP}{a:A→Value×List HP}(m:Nat)(r:aO X.P f=true)(i:xs.toList.map (ev σ)=as)(j:FnOk X.P f as e a)(h:tk m V=e)(k:∀ x,TL X ops ((a x).2++dp m V) (dS σ d' (a x).1) rest Q)
  (q:fy X.n d'=true:=by exact rfl) (hw:cE ops σ ⟨d',.call ⟨.value (.func f),xs,g⟩,ty,pos,af,gd⟩=true:=by exact rfl):TL X ops V σ (⟨d',.call ⟨.value (.func f),xs,g⟩,ty,pos,af,gd⟩::rest) Q :=
 bZ m q hw r i j h k
theorem cQ {x:Code}(e:List (Nat×Value))(a:List HP)(g:TC X V σ x (eP (Jn X (fun _:Unit×Unit=>True) (fun _=>e) (fun _=>a)) Q))(h:∀ σ',TQ X a (jU σ' e) .normal Q):TC X V σ x Q:=iw _ _ _ g (fun _ σ' _=>h σ')
theorem qJ {e:List (Nat×Value)}{a:List HP}(h2:∀ w,St X.C w V→St X.C w a)(h1:h9 σ e:=by exact aS R):TQ X V σ .normal (eP (Jn X (fun _:Unit×Unit=>True) (fun _=>e) (fun _=>a)) Q):=cG ((),()) trivial h1 h2
theorem qI {A:Type}{pf:A→Prop}{g:A→List (Nat×Value)}{e:A→List HP}(a:A)(h:pf a)(h2:∀ w,St X.C w V→St X.C w (e a))(h1:h9 σ (g a):=by exact aS R):TQ X V σ .normal (eP (Jn X pf g e) Q):=cG a h h1 h2
theorem qA {S E A:Type}{g:S→A→List (Nat×Value)}{e:S→A→List HP}{s:S}(a:A)(h2:∀ w,St X.C w V→St X.C w (e s a))(h1:h9 σ (g s a):=by exact aS R):TQ X V σ .normal (eP (uh X (E:=E) (.inl s) g e) Q):=oh a h1 h2
theorem cL {α:Type}{K:Kind α}{a:Option Addr}{n c:Nat}{xs:List α}{cd:Code}(i:Nat)(e:fV (lk V i) K (.slice a n c) xs)(h:n=xs.length→TC X V σ cd Q):TC X V σ cd Q:=aY i e h
end
end Go.Pg
namespace Go.Pg
end Go.Pg
namespace Go.Pg
section
variable {X:Cx}{V:List HP}{σ:bL}{Q:Exit→bL→World→Prop}{ops:Array Oper}{rest:List Oper}{o:Oper}{cd:Code}{ex:Exit}
variable {d:Option Nat}{ty:TypeId}{pos:String}{af:Array Edge}{gd:Option (Nat×Bool)}
variable {α:Type}
end
section
variable {C w:World}{V:List HP}{α:Type}
end
section
variable {X:Cx}{V:List HP}{σ:bL}{Q:Exit→bL→World→Prop}{ops:Array Oper}{rest:List Oper}{o:Oper}{cd:Code}{ex:Exit}
variable {d:Option Nat}{ty:TypeId}{pos:String}{af:Array Edge}{gd:Option (Nat×Bool)}
variable {α:Type}
end
end Go.Pg
namespace Go.Pg
section
variable {X:Cx}{V V0:List HP}{σ:bL}{Q:Exit→bL→World→Prop}{ops:Array Oper}{o:Oper}{k fuel:Nat}{listed:Array Bool}
theorem d1 (i:Nat)(a:ops[i]?=some o)(h:TL X ops V σ [o] (DK X ops k V0 fuel listed i Q))(e:Region.ready .any ops listed=[i]:=by kernel_rfl):TD X ops k V0 (fuel+1) listed V σ Q:=sk i e a h
theorem dD (h:TQ X V σ .normal Q)(a:Region.ready .any ops listed=[]:=by kernel_rfl):TD X ops k V0 fuel listed V σ Q:=qh a h
theorem qE {i:Nat}(h:TD X ops k V0 fuel (listed.setIfInBounds i true) V σ Q)(a:Nat.blt i k=false:=by exact rfl):TQ X V σ .normal (DK X ops k V0 fuel listed i Q):=qk a h
end
end Go.Pg
namespace Go.Pg
section
variable {X:Cx}{V:List HP}{σ:bL}{Q:Exit→bL→World→Prop}{ops:Array Oper}{rest:List Oper}
variable {d:Option Nat}{ty:TypeId}{pos:String}{af:Array Edge}{gd:Option (Nat×Bool)}
variable {α β:Type}
end
section
variable (K:Kind Int)(A:Option Addr)(n c:Nat)
end
section
variable {C w:World}{V:List HP}{α β γ:Type}
end
section
variable {α β γ:Type}
end
section
variable {X:Cx}{V:List HP}{σ:bL}{Q:Exit→bL→World→Prop}
end
theorem St.em {C w:World}{V:List HP}(s:St C w V):St C w (sd::V):=by
 obtain ⟨a,I,h,g,j,l,s⟩:=s
 exact ⟨a,I,h,g,j,l,Hp.none,h,Join.none h,rfl,s⟩
end Go.Pg
namespace Go.Pg
section
variable {X:Cx}{V:List HP}{σ:bL}{Q:Exit→bL→World→Prop}{ops:Array Oper}{rest:List Oper}
variable {d:Option Nat}{ty:TypeId}{pos:String}{af:Array Edge}{gd:Option (Nat×Bool)}
theorem i5 {α:Type}{K:Kind α}{t e:TypeId}{x y:Operand}{m:Int}{z:α}{r:Nat}(Y:fy X.n d=true)(hw:cE ops σ ⟨d,.makeSlice t x y,ty,pos,af,gd⟩=true)(ht:iP X.P t=some e)(q:fI X.P e=some K.sz)(B:eQ X.P e=some r)
  (hz:k8 X.P K e z) (a0:0<K.sz) (hx:ev σ x=.int .i64 0) (hy:ev σ y=.int .i64 m) (U:0≤m) (h1:m≤140737488355328) (h2:r*m≤281474976710656)
  (h:∀ a c,TL X ops (ow K e (.slice a ([]:List α).length c) []::V) (dS σ d (.slice a ([]:List α).length c)) rest Q):TL X ops V σ (⟨d,.makeSlice t x y,ty,pos,af,gd⟩::rest) Q:=by
 intro w s
 obtain ⟨cs,g,G,a1⟩:=hz
 unfold iX at g
 unfold fI at q
 unfold eQ at B
 cases hi:X.P.info? e with
 | none=>rw [hi] at q; cases q
 | some info =>
  rw [hi] at g q B
  simp only [Option.map_some,Option.some.injEq,Option.bind_some] at g q B
  cases hzz:info.zero with
  | none=>rw [hzz] at g; cases g
  | some zv =>
   rw [hzz] at g
   simp only [Option.map_some,Option.some.injEq] at g
   have Z:=run_make (P:=X.P) w t e info zv (fP ht) hi hzz .i64 .i64 0 m (Int.le_refl _) U (by rw [B]; exact h2) (by omega)
   refine dA Y hw ?_
   have F:(execOp (ev σ) ⟨d,.makeSlice t x y,ty,pos,af,gd⟩).run X.P w=.ok (.value (.slice (some ⟨w.heap.size,0,none⟩) 0 m.toNat)) (w.alloc (.cells (madeCells zv.cells (m.toNat*info.size)) e)):=by
    simp only [execOp,hx,hy,Sem.run_bind,Z,Result.andThen_ok,Sem.run_pure]; rfl
   rw [F]
   have J:zv.cells.size=K.sz:=by rw [← G,← g]; simp
   have D:(madeCells zv.cells (m.toNat*info.size)).toList=(List.replicate m.toNat cs).flatten:=by
    rw [q,← J,iY _ (by omega),← g]
   have u:(madeCells zv.cells (m.toNat*info.size)).toList.length=m.toNat*K.sz:=by rw [Array.length_toList,size_madeCells,q]
   refine h (some ⟨w.heap.size,0,none⟩) m.toNat _ (St.new s (fun a=>a.alloc _) (fun I _=>?_) ?_)
   ·obtain ⟨T,O⟩:=Join.of_disj (h1:=Hp.one w.heap.size (.cells (madeCells zv.cells (m.toNat*info.size)) e)) (h2:=Hp.none) (fun _=>.inr rfl)
    have M:=O.symm.eq_of_none
    refine ⟨T,.inr ⟨w.heap.size,m.toNat,[],[],(madeCells zv.cells (m.toNat*info.size)).toList,(0,0),Hp.none,by simp,by simp,by simp only [maxLen]; omega,by rw [u]; simp,.inl rfl,?_,rfl,rfl⟩,?_,?_⟩
    ·simp only [List.nil_append,List.append_nil,Array.toArray_toList]
     exact O
    ·rw [M]
     intro b o j
     simp only [Hp.one] at j
     split at j
     ·rename_i i
      subst i
      rw [← Option.some.inj j]
      show (w.heap.push _)[w.heap.size]?=_
      simp
     ·cases j
    ·rw [M]
     intro b i
     simp only [Hp.one] at i
     split at i
     ·rename_i j; exact Nat.le_of_eq j.symm
     ·exact absurd rfl i
   ·intro b o j
    have E:=(Array.getElem?_eq_some_iff.1 j).1
    show (w.heap.push _)[b]?=_
    rw [Array.getElem?_push,if_neg (Nat.ne_of_lt E)]
    exact j
end
end Go.Pg
namespace Go.Pg
abbrev gl (g:Nat)(m:Int):HP:=cl g 0 [.int .i64 m]
theorem St.dg {C w:World}{V:List HP}{g k:Nat}{cs:List Value}(s:St C w V)(i:Nat)(q:lk V i=cl g k cs):St C w (cl g k cs::V):=by
 obtain ⟨a,I,h,m,j,l,e⟩:=s
 obtain ⟨h1,h2,r,p,s'⟩:=dE i e
 rw [q] at p
 exact ⟨a,I,h,m,j,l,Hp.none,h,Join.none h,⟨rfl,p.2⟩,e⟩
theorem lu {P:Program}{f:FuncId}{args:List Value}{v:Value}(h:∀ w,Calls P f args.toArray w fun e a=>e=.returned v∧a=w):FnOk P f args [] (fun _:Unit=>(v,[])):=by
 intro C w V s
 refine Calls.mono' (h w) ?_
 rintro e a ⟨rfl,rfl⟩
 exact ⟨(),rfl,s⟩
theorem sv {P:Program}{f:FuncId}{args:List Value}{v:Value}{g:Nat}{m:Int}(h:∀ w,w.cell? ⟨g,0,none⟩=some (.int .i64 m)→Calls P f args.toArray w fun e a=>e=.returned v∧a=w):FnOk P f args [gl g m] (fun _:Unit=>(v,[])):=by
 intro C w V s
 obtain ⟨I,q,p,j,r,-⟩:=s.look 0
 have i:w.cell? ⟨g,0,none⟩=some (.int .i64 m):=fH j (p.2 0 _ rfl)
 refine Calls.mono' (h w i) ?_
 rintro e a ⟨rfl,rfl⟩
 exact ⟨(),rfl,s.rm 0⟩
end Go.Pg
namespace Go.Pg
def sw (P:Program)(T:TypeId):Option (Nat×TypeId):=match P.underlying T with
 | some (.array n e)=>some (n,e)
 | _=>none
theorem mW {P:Program}{T:TypeId}{n:Nat}{e:TypeId}(h:sw P T=some (n,e)):P.underlying T=some (.array n e):=by
 unfold sw at h
 split at h
 ·rename_i i g a
  injection h with h; injection h with h1 h2
  subst h1 h2; exact a
 ·cases h
section
variable {X:Cx}{V:List HP}{σ:bL}{Q:Exit→bL→World→Prop}{ops:Array Oper}{rest:List Oper}
variable {d:Option Nat}{ty:TypeId}{pos:String}{af:Array Edge}{gd:Option (Nat×Bool)}
theorem qr {T e:TypeId}{n sz:Nat}{z:List Value}(i:sw X.P T=some (n,e))(q:iX X.P T=some z)(m:fI X.P e=some sz):VO X V σ ⟨d,.build T #[],ty,pos,af,gd⟩ (.agg z.toArray):=by
 intro w _
 obtain ⟨h,a,g⟩:=gF (P:=X.P) (w:=w) q
 have u:∀ r,Instr.fill r h.cells []=some h.cells:=fun _=>rfl
 have j:h.cells=z.toArray:=by rw [g]
 simp only [execOp,Instr.build,Sem.run_bind,a,Result.andThen_ok,run_underlying (mW i),cJ m,List.map_toArray,List.map_nil,j]
 rfl
theorem mX {t e:TypeId}{x y:Operand}{g o n sz:Nat}{k:IntKind}{j:Int}(a:sw X.P t=some (n,e))(i:fI X.P e=some sz)(q:ev σ x=.pointer (some ⟨g,o,none⟩))(r:ev σ y=.int k j)(h:0≤j∧j<(n:Int)) :
  VO X V σ ⟨d,.indexAddr t x y,ty,pos,af,gd⟩ (.pointer (some ⟨g,o+j.toNat*sz,none⟩)):=by
 intro w _
 have m:=mW a
 simp [execOp,q,r,Instr.indexAt,asIntOf,run_underlying m,Instr.sureAddr,h.1,h.2,cJ i,dZ]
end
theorem mY {k:IntKind}(I:Hp)(xs:List Int):dX (Kind.int k) I Hp.none xs (xs.map (Value.int k)):=by
 induction xs with
 | nil=>exact ⟨rfl,rfl⟩
 | cons x xs ih=>exact ⟨Hp.none,Hp.none,[.int k x],_,Join.none _,rfl,⟨rfl,rfl⟩,ih⟩
theorem St.b2o {C w:World}{V:List HP}{b:Nat}{T:Nat}{k:IntKind}{cs:List Value}(s:St C w V)(i:Nat)(xs:List Int)(g:lk V i=aV b cs T)(m:cs=xs.map (Value.int k)){n:Nat}(r:xs.length=n)(a:Nat.ble n 1000=true) :
  St C w (ow (Kind.int k) T (.slice (some ⟨b,0,none⟩) n n) xs::Pg.rm V i):=by
 subst r
 have e:=s.mv i
 unfold Pg.mv at e
 refine St.imp (A:=[lk V i]) (B:=[_]) (V:=Pg.rm V i) e ?_
 rintro I h _ _ ⟨h1,h2,j,p,D⟩
 rw [g] at p
 obtain rfl:h2=Hp.none:=D
 refine ⟨h1,Hp.none,j,?_,rfl⟩
 obtain ⟨fr,u,q⟩:∃ fr,h1=Hp.one b (.cells cs.toArray T fr)∧(fr=(0,0)∨cs.length≤fr.1):=⟨(0,0),p,.inl rfl⟩
 have a:=Nat.le_of_ble_eq_true a
 subst m
 exact .inr ⟨b,xs.length,[],xs.map (Value.int k),[],fr,Hp.none,rfl,Nat.le_refl _,by simp only [maxLen]; omega,by simp,by simpa using q,by rw [u]; simpa using (Join.none _).symm,mY I xs⟩
end Go.Pg
namespace Go.Pg
def InvOk {A:Type}(P:Program)(v:Value)(a:String)(args:List Value)(g:List HP)(e:A→Value×List HP):Prop :=
 ∃ (f:FuncId) (as:List Value),(∀ w,(callMethod v a args.toArray).run P w=.ok (.enter f as.toArray) w)∧FnOk P f as g e
theorem InvOk.mk {A:Type}{P:Program}{v r:Value}{a:String}{args:List Value}{g:List HP}{e:A→Value×List HP}{f:FuncId}
  (h:∀ (args:Array Value) w,(callMethod v a args).run P w=.ok (.enter f (#[r]++args)) w) (i:FnOk P f (r::args) g e):InvOk P v a args g e :=
 ⟨f,r::args,fun w=>by rw [h]; simp,i⟩
theorem InvOk.perm {A:Type}{P:Program}{v:Value}{a:String}{args:List Value}{g Pre':List HP}{e:A→Value×List HP}(i:InvOk P v a args g e)(h:∀ C w V,St C w (Pre'++V)→St C w (g++V)):InvOk P v a args Pre' e:=by
 obtain ⟨f,as,h1,h2⟩:=i
 exact ⟨f,as,h1,h2.perm h⟩
theorem InvOk.lends {T:Type}{P:Program}{v:Value}{e:String}{args:List Value}{A' A B:List HP}{a:T→Value×List HP}(g:InvOk P v e args (A++B) a)(h:lr A' A)(i:∀ x,AllC (a x).2):InvOk P v e args (A'++B) (fun x=>((a x).1,A'++(a x).2)):=by
 obtain ⟨f,as,h1,h2⟩:=g
 exact ⟨f,as,h1,h2.lends h i⟩
section
variable {X:Cx}{V:List HP}{σ:bL}{Q:Exit→bL→World→Prop}{ops:Array Oper}{rest:List Oper}
variable {d:Option Nat}{ty:TypeId}{pos:String}{af:Array Edge}{gd:Option (Nat×Bool)}
end
end Go.Pg
namespace Go.Pg
def ob (l:Nat)(o:Obj):HP:=⟨fun _ h=>h=Hp.one l o,fun _ e=>e⟩
abbrev nZ (l:Nat)(r:Loop):HP:=ob l (.loop r)
def pe {A:Type}(f:A→List HP):HP:=⟨fun I h=>∃ x,cU (f x) I h,fun l ⟨x,s⟩=>⟨x,fG l s⟩⟩
theorem St.pei {C w:World}{A:Type}{f:A→List HP}{V:List HP}(x:A)(s:St C w (f x++V)):St C w (pe f::V):=by
 refine St.imp (A:=f x) (B:=[pe f]) s ?_
 intro I h _ _ a
 exact ⟨h,Hp.none,(Join.none h).symm,⟨x,a⟩,rfl⟩
theorem St.peo {C w:World}{A:Type}{f:A→List HP}{V:List HP}(s:St C w (pe f::V)):∃ x,St C w (f x++V):=by
 obtain ⟨a,I,h,g,j,l,h1,h2,e,⟨x,c⟩,d⟩:=s
 exact ⟨x,a,I,h,g,j,l,bG.2 ⟨h1,h2,e,c,d⟩⟩
theorem g7 (l:Nat)(o:Obj):Hp.one l o l=some o:=by simp [Hp.one]
theorem jr {l b:Nat}{o:Obj}(h:Hp.one l o b≠none):b=l:=by
 unfold Hp.one at h
 split at h
 ·assumption
 ·exact absurd rfl h
theorem gj {C w:World}{V:List HP}{l:Nat}{o:Obj}(s:St C w V)(i:Nat)(h:lk V i=ob l o):w.heap[l]?=some o:=by
 obtain ⟨I,g,p,_,a,_⟩:=s.look i
 rw [h] at p
 cases p
 exact a l o (g7 l o)
theorem Same.putObj {C w:World}(s:Same C w)(l:Nat)(o:Obj):Same C (w.putObj l o):=⟨s.os,s.tape,s.output⟩
theorem St.putObj {C w:World}{V:List HP}{l:Nat}{o o':Obj}(s:St C w (ob l o::V)):St C (w.putObj l o') (ob l o'::V):=by
 have j:=gj s 0 rfl
 have g:l<w.heap.size:=(Array.getElem?_eq_some_iff.1 j).1
 refine St.turn s 0 (q:=ob l o') (fun a=>a.putObj l o') ?_
 rintro I h e _ _
 cases e
 refine ⟨_,rfl,?_,?_,?_⟩
 ·intro b o2 e
  have:=jr (by rw [e]; exact fun h=>by cases h)
  subst this
  rw [g7] at e
  cases e
  exact World.putObj_heap_same g
 ·intro b i
  have:=jr i
  subst this
  exact .inl (by rw [g7]; exact fun h=>by cases h)
 ·intro b o2 e h2
  rw [World.putObj_heap_other]
  ·exact h2
  ·rintro rfl
   rw [g7] at e; cases e
theorem St.newOb {C w:World}{V:List HP}(s:St C w V)(o:Obj):St C (w.alloc o) (ob w.heap.size o::V):=by
 refine St.new s (q:=ob w.heap.size o) (fun a=>a.alloc o) (fun I _=>⟨_,rfl,?_,?_⟩) ?_
 ·intro b o2 e
  have:=jr (by rw [e]; exact fun h=>by cases h)
  subst this
  rw [g7] at e
  cases e
  exact World.alloc_heap_new w o
 ·intro b i
  exact Nat.le_of_eq (jr i).symm
 ·intro b o2 e
  show (w.heap.push o)[b]?=some o2
  have g:=(Array.getElem?_eq_some_iff.1 e).1
  rw [Array.getElem?_push,if_neg (Nat.ne_of_lt g)]
  exact e
def n' (ro:Option Nat):Fence:={Fence.wide with round:=ro}
theorem md {ro:Option Nat}{n:Nat}{P:Program}{f:FuncId}{args:Array Value}{w:World}{R:Ending→World→Prop}(h:Calls P f args w R):CallsIn (n' ro) n P f args w R :=
 (callsIn_wide (n:=n)).2 h
theorem mZ {ro:Option Nat}{n:Nat}{P:Program}{row:String}{args:Array Value}{w:World}{R:Value→World→Prop}(h:Rows P row args w R):RowsIn (n' ro) n P row args w R:=by
 intro c cs _
 obtain ⟨v,a,r,s⟩:=h c cs
 exact ⟨v,a,r,stepsIn_wide.2 s⟩
theorem kh {ro:Option Nat}{P:Program}{o:Oper}{a:Act}{g:Act→World→Prop}{Q:Exit→Act→World→Prop}{r:Result Next}(h:o.upon P a g Q r):o.uponIn (n' ro) 0 P a g Q r:=by
 match r,h with
 | .ok (.value v) w',h=>exact h
 | .ok .skip w',h=>exact h
 | .ok (.defer d) w',h=>exact h
 | .ok (.enter f args) w',h =>
  refine ⟨(fun h=>by cases h),?_⟩
  refine (md h).mono ?_
  intro e j i
  cases e<;>exact i
 | .ok (.row row args) w',h=>exact ⟨(fun h=>by cases h),mZ h⟩
 | .halt (.panic v) w',h=>exact h
def fw (l:List Oper):Bool:=l.all fun o=>match o.op with
 | .defer _=>false
 | _=>true
theorem iy {ro:Option Nat}{P:Program}{ops:Array Oper}{Q:Exit→Act→World→Prop}(B:¬ LetsOut Q):∀ (l:List Oper) (a:Act) (w:World),fw l=true→wpList P ops Q l a w→wpListIn (n' ro) 0 P ops Q l a w:=by
 intro l
 induction l with
 | nil=>exact fun a w _ h=>h
 | cons o l ih =>
  intro a w i h
  simp only [fw,List.all_cons,Bool.and_eq_true] at i
  have m:∀ c,o.op≠.defer c:=by
   intro c u
   have:=i.1
   rw [u] at this
   cases this
  unfold wpList at h
  unfold wpListIn
  split
  ·rename_i hw
   rw [if_pos hw] at h
   have h:=h.resolve_right fun h=>B h.2
   refine ⟨fun _ _=>trivial,?_⟩
   have e:o.semAt (n' ro).round a.eval=execOp a.eval o:=Oper.semAt_eq _ _ _ m
   rw [e]
   unfold Oper.wp at h
   have mono:∀ r,o.upon P a (wpList P ops Q l) Q r→o.upon P a (wpListIn (n' ro) 0 P ops Q l) Q r:=by
    intro r g
    match r,g with
    | .ok (.value v) w',g=>exact ih _ _ i.2 g
    | .ok .skip w',g=>exact ih _ _ i.2 g
    | .ok (.defer _) w',g=>exact ih _ _ i.2 g
    | .ok (.enter f args) w',g =>
     refine Calls.mono' g ?_
     intro e q j
     cases e with
     | returned v=>exact ih _ _ i.2 j
     | panicked c=>exact j
     | outgrown=>exact j
    | .ok (.row row args) w',g=>exact Rows.mono g fun v q h=>ih _ _ i.2 h
    | .halt (.panic v) w',g=>exact g
   exact kh (mono _ h)
  ·rename_i hw
   rw [if_neg hw] at h
   exact ⟨fun _ _=>trivial,ih _ _ i.2 h⟩
def un {A:Type}(P:Program)(l:Nat)(args:List Value)(h:List HP)(a:A→Value×List HP):Prop :=
 ∀ C w V,St C w (h++V)→∃ f tmps g body,(Instr.yield l args.toArray).run P w=.ok (.round l f tmps g body) w ∧
  RoundIn Fence.wide 0 P l f tmps g body w (fun e i=>∃ x,e=.returned (a x).1∧St C i ((a x).2++V))
def sx (P:Program)(N:Nn)(ops:Array Oper)(rest:List Oper)(Q:Exit→bL→World→Prop)(σ:bL)(w:World):Prop :=
 ∀ a:Act,a.tmps.size=N.n→a.defers=N.ds→cT a=σ→wpListIn Fence.wide 0 P ops (dT N Q) rest a w
section
variable {X:Cx}{V:List HP}{σ:bL}{Q:Exit→bL→World→Prop}{ops:Array Oper}{rest:List Oper}
variable {d:Option Nat}{ty:TypeId}{pos:String}{af:Array Edge}{gd:Option (Nat×Bool)}
theorem lv {N:Nn}{Q:Exit→bL→World→Prop}(h:∀ σ w,Q .outgrown σ w→False):¬ LetsOut (dT N Q):=by
 rintro ⟨a,w,q⟩
 exact h _ _ (dK q (by simp)).2.2
theorem qt {I:Nat}{l:List Oper}(k:Nat)(G:fw (l.take k)=true)(F:∀ σ w,Q .outgrown σ w→False)
  (h:TL X l.toArray V σ (l.take k) (eP (fun σ w=>sx X.P X.n l.toArray (l.drop k) Q σ w) Q)):TC X V σ (.region I l.toArray false) Q:=by
 intro w s a h1 h2 E
 refine (wpIn_wide (n:=0)).1 (wpIn_region_lit ?_)
 have h:=iy (ro:=none) (lv (N:=X.n) (Q:=eP (fun σ w=>sx X.P X.n l.toArray (l.drop k) Q σ w) Q) F) _ a w G (h w s a h1 h2 E)
 have mono:∀ (j:List Oper) (a:Act) (w:World),wpListIn Fence.wide 0 X.P l.toArray (dT X.n (eP (fun σ w=>sx X.P X.n l.toArray (l.drop k) Q σ w) Q)) j a w→wpListIn Fence.wide 0 X.P l.toArray (dT X.n Q) (j++l.drop k) a w:=by
  intro j
  induction j with
  | nil =>
   intro a w h
   obtain ⟨J,M,O⟩:=dK h (by simp)
   exact O a J M rfl
  | cons o j ih =>
   intro a w h
   have m:∀ e,e≠Exit.normal→∀ a w,dT X.n (eP (fun σ w=>sx X.P X.n l.toArray (l.drop k) Q σ w) Q) e a w→dT X.n Q e a w:=by
    intro e i a w q
    cases e with
    | normal=>exact absurd rfl i
    | _=>exact q
   unfold wpListIn at h
   show wpListIn Fence.wide 0 X.P l.toArray (dT X.n Q) (o::(j++l.drop k)) a w
   unfold wpListIn
   split
   ·rename_i hw
    rw [if_pos hw] at h
    refine ⟨h.1,?_⟩
    have h:=h.2
    revert h
    generalize (o.semAt Fence.wide.round a.eval).run X.P w=r
    intro g
    match r,g with
    | .ok (.value v) w',g=>exact ih _ _ g
    | .ok .skip w',g=>exact ih _ _ g
    | .ok (.defer _) w',g=>exact ih _ _ g
    | .ok (.enter f args) w',g =>
     refine ⟨g.1,g.2.mono ?_⟩
     intro e B i
     cases e with
     | returned v=>exact ih _ _ i
     | panicked c=>exact m _ (by intro h; cases h) _ _ i
     | outgrown=>obtain ⟨b,u,D⟩:=i; exact ⟨b,u,m _ (by intro h; cases h) _ _ D⟩
    | .ok (.row row args) w',g=>exact ⟨g.1,g.2.mono fun v B h=>ih _ _ h⟩
    | .ok (.round l0 f tmps asn body) w',g =>
     refine ⟨g.1,g.2.mono ?_⟩
     intro e B i
     cases e with
     | returned v=>exact ih _ _ i
     | panicked c=>exact m _ (by intro h; cases h) _ _ i
     | outgrown=>obtain ⟨b,u,D⟩:=i; exact ⟨b,u,m _ (by intro h; cases h) _ _ D⟩
    | .halt (.panic v) w',g=>exact m _ (by intro h; cases h) _ _ g
   ·rename_i hw
    rw [if_neg hw] at h
    exact ⟨h.1,ih _ _ h.2⟩
 have:=mono _ a w h
 rw [List.take_append_drop] at this
 exact this
theorem ou {A:Type}{r:Operand}{l:Nat}{xs:Array Operand}{i:Array TypeId}{as:List Value}{g:A→Value×List HP}{j:List HP}{q:Nat}(m:Nat)
  (U:ev σ r=.func (.yield l) #[] #[]) (J:xs.toList.map (ev σ)=as) (M:un X.P l as j g) (I:tk m V=j) (G:∀ σ w,Q .outgrown σ w→False) (O:fw rest=true)
  (k:∀ x,TL X ops ((g x).2++dp m V) (gX σ q (g x).1) rest Q) (B:fy X.n (some q)=true:=by exact rfl) :
  TQ X V σ .normal (eP (fun σ w=>sx X.P X.n ops (⟨some q,.call ⟨.value r,xs,i⟩,ty,pos,af,none⟩::rest) Q σ w) Q):=by
 intro w s a h1 h2 E
 refine wpListIn_plain rfl fun K F=>⟨fun _ _=>trivial,?_⟩
 rw [← iZ m V,I] at s
 obtain ⟨f,tmps,u,body,Y,T⟩:=M X.C w _ s
 have D:(execOp (ev σ) ⟨some q,.call ⟨.value r,xs,i⟩,ty,pos,af,none⟩).run X.P w=.ok (.round l f tmps u body) w:=by
  have e:(#[]++xs.map (ev σ))=as.toArray:=by rw [jf xs _ J]; simp
  simp only [execOp,resolve,U,Deferred.ofValue,Sem.run_bind,Sem.run_pure,Result.andThen_ok,invoke,e,Y]
 rw [show Fence.wide.round=none from rfl,Oper.semAt_none,f',E,D]
 refine ⟨(fun h=>by cases h),T.mono ?_⟩
 rintro e w' ⟨x,rfl,s'⟩
 refine F _ _ ?_
 obtain ⟨p1,Z,p3⟩:=h8 (o:=⟨some q,.call ⟨.value r,xs,i⟩,ty,pos,af,none⟩) B h1 h2 E (g x).1
 exact iy (ro:=none) (lv G) _ _ _ O (k x w' s' _ p1 Z p3)
end
end Go.Pg
namespace Go.Pg
theorem St.dn {C w:World}{p:HP}{A V:List HP}(s:St C w (p::(A++V))):St C w (A++p::V):=by
 obtain ⟨q,I,h,g,j,lw,g1,F,i,c,d⟩:=s
 obtain ⟨u,B,r,a,e⟩:=bG.1 d
 obtain ⟨m,D,E⟩:=Join.assoc' r.symm i
 exact ⟨q,I,h,g,j,lw,bG.2 ⟨u,m,E.symm,a,g1,B,D,c,e⟩⟩
theorem St.up {C w:World}{p:HP}{A V:List HP}(s:St C w (A++p::V)):St C w (p::(A++V)):=by
 obtain ⟨q,I,h,g,j,lw,d⟩:=s
 obtain ⟨B,F,r,a,g1,i,u,c,e⟩:=bG.1 d
 obtain ⟨m,D,E⟩:=Join.assoc' u.symm r
 exact ⟨q,I,h,g,j,lw,g1,m,E.symm,c,bG.2 ⟨B,i,D,a,e⟩⟩
structure Rec (rc:Loop)(ps:Array Tmp)(asn body:Code)(n:Nat)(σ:bL):Prop where
 st:rc.state=.ready
 pe:rc.pending=none
 ps:rc.params=ps
 asn:rc.assign=asn
 body:rc.body=body
 sz:rc.tmps.size=n
 env:(fun t=>rc.tmps.getD t undef)=σ
def uo (X:Cx)(σ2:bL)(V:List HP):Exit→bL→World→Prop
 | .normal,σ,w=>σ=σ2∧St X.C w V
 | _,_,_=>False
def uq (X:Cx)(go:Bool){A:Type}(f:A→List HP)(V:List HP):Exit→bL→World→Prop
 | .normal,_,w=>go=true∧∃ x,St X.C w (f x++V)
 | _,_,_=>False
theorem sy {X:Cx}{V:List HP}{σ:bL}:TQ X V σ .normal (uo X σ V):=fun w s=>⟨rfl,s⟩
theorem ur {X:Cx}{A:Type}{f:A→List HP}{V0 V:List HP}{σ:bL}{go:Bool}(x:A)(a:go=true)(h:∀ w,St X.C w V0→St X.C w (f x++V)):TQ X V0 σ .normal (uq X go f V):=fun w s=>⟨a,x,h w s⟩
theorem ki {a:Loop}{s:LoopState}(h1:a.state=.ready)(h2:a.pending=none):({{a with state:=s} with state:=.ready,pending:=none}:Loop)=a:=by
 cases a; simp only at h1 h2; subst h1; subst h2; rfl
abbrev kP (D:Nat):Deferred:={target:=.collected D,args:=#[]}
def rV {A:Type}(P:Program)(fn:Func)(C:World)(V:List HP)(g:A→Value×List HP):Act→World→Prop :=
 fun a w=>LeavesInM Fence.wide 0 P fn a.tmps (fun e h=>∃ x,e=.returned (g x).1∧St C h ((g x).2++V)) a.defers .returning w
theorem qu {A:Type}{P:Program}{f:FuncId}{fn:Func}{c:Code}{args:List Value}{j:List HP}{g:A→Value×List HP}(G:P.funcs[f]?=some fn)(F:fn.body=some c)(n:Nat)(D:fn.ntmps=n)(B:Nat.ble args.length n=true)
  (h:∀ C V,TC ⟨P,⟨n,[],rV P fn C V g⟩,C⟩ (j++V) (mC args.toArray) c (ie P fn (mx ⟨P,⟨n,[],rV P fn C V g⟩,C⟩ V g))):FnOk P f args j g:=by
 subst D
 intro C w V s
 refine callsIn_wide.1 (callsIn_of_wp_marks (n:=0) G F trivial ?_)
 have B:args.toArray.size≤fn.ntmps:=by have:=Nat.le_of_ble_eq_true B; simpa using this
 refine (wpIn_wide (n:=0)).2 (wp_mono (h C V w s _ (by simp at B ⊢; omega) rfl li) ?_)
 rintro e a i q
 rcases q with ⟨J,I,E⟩|⟨rfl,q⟩
 ·have m:∀ v,(g0 fn (cT a)).run P i=.ok v i→mx ⟨P,⟨fn.ntmps,[],rV P fn C V g⟩,C⟩ V g v i→LeavesInM Fence.wide 0 P fn a.tmps (fun e i=>∃ x,e=.returned (g x).1∧St C i ((g x).2++V)) a.defers .returning i:=by
   rintro v r ⟨x,rfl,s'⟩
   rw [I]
   exact ⟨_,r,x,rfl,s'⟩
  cases e with
  | normal =>
   obtain ⟨v,r,u⟩:=E
   exact m v r u
  | ret =>
   obtain ⟨v,r,u⟩:=E
   exact m v r u
  | _=>exact E.elim
 ·exact q
def Rg (X:Cx)(e rest:Code)(Q:Exit→bL→World→Prop):bL→World→Prop:=fun σ w =>
 ∀ a:Act,a.tmps.size=X.n.n→a.defers=X.n.ds→cT a=σ→e.wp X.P (Exit.then (rest.wp X.P (dT X.n Q)) (dT X.n Q)) a w
theorem qv {X:Cx}{V:List HP}{σ:bL}{Q:Exit→bL→World→Prop}{g i rest:Code}(h:TC X V σ g (eP (Rg X i rest Q) Q)):TC X V σ (.seq (.seq g i) rest) Q:=by
 intro w s a h1 h2 m
 refine wp_seq (wp_seq (wp_mono (h w s a h1 h2 m) ?_))
 rintro e j D q
 cases e with
 | normal =>
  obtain ⟨r,u,B⟩:=dK q (by simp)
  exact B j r u rfl
 | _=>exact q
end Go.Pg
