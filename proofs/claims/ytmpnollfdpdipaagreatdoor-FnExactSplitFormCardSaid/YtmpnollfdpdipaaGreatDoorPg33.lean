import Derived.Test.YtmpnollfdpdipaaGreatDoorPg22
set_option linter.unusedVariables false
namespace Go.Pg
structure Hd (H:Prop):Prop where
  h:H
class HSl (P:Program)(t:TypeId)(e:outParam TypeId):Prop where
  h:iP P t=some e
class HSz (P:Program)(t:TypeId)(z:outParam Nat):Prop where
  h:fI P t=some z
class HAg (P:Program)(t:TypeId)(b:outParam Bool):Prop where
  h:eG P t=some b
class HFo (P:Program)(S:TypeId)(f:Nat)(o:outParam Nat):Prop where
  h:dH P S f=some o
abbrev s3 (h:HH):Value:=.slice h.1 h.2.1 h.2.2
def rW (V:List HP)(q:HP):Prop:=∃ i,lk V i=q
theorem rX {V:List HP}{q:HP}:rW (q::V) q:=⟨0,rfl⟩
theorem rY {V:List HP}{p q:HP}(h:rW V q):rW (p::V) q:=h.elim fun i h=>⟨i+1,h⟩
def sA {α:Type}(V:List HP)(K:Kind α)(v:Value)(xs:List α):Prop:=∃ i,fV (lk V i) K v xs
theorem vt {α:Type}{V:List HP}{K:Kind α}{e:Nat}{v:Value}{xs:List α}:sA (ow K e v xs::V) K v xs:=⟨0,aC⟩
theorem vu {α:Type}{V:List HP}{K:Kind α}{v:Value}{xs:List α}:sA (bF K v xs::V) K v xs:=⟨0,aB⟩
theorem vv {α:Type}{V:List HP}{p:HP}{K:Kind α}{v:Value}{xs:List α}(h:sA V K v xs):sA (p::V) K v xs:=h.elim fun i h=>⟨i+1,h⟩
structure Tk (i:Nat)(rs:List Nat):Prop where
section
variable {P:Program}{N:Nn}{C:World}{X:Cx}{V V0:List HP}{σ:bL}{Q:Exit→bL→World→Prop}{ops:Array Oper}{rest:List Oper}{o:Oper}{k fuel:Nat}{listed:Array Bool}
variable {d:Nat}{d':Option Nat}{op:Op}{ty:TypeId}{pos:String}{af:Array Edge}{gd:Option (Nat×Bool)}{v:Value}{x y:Code}
theorem vLn {t:TypeId}{x:Operand}{a:Option Addr}{n c:Nat}{e:TypeId}[s:HSl P t e](g:ev σ x=.slice a n c):VO ⟨P,N,C⟩ V σ ⟨d',.call ⟨.builtin .len,#[x],#[t]⟩,ty,pos,af,gd⟩ (.int .i64 n):=py s.h g
theorem vFn {S:TypeId}{x:Operand}{f fo b k a:Nat}[s:HFo P S f fo](g:ev σ x=.pointer (some ⟨b,k,none⟩))(e:k+fo=a):VO ⟨P,N,C⟩ V σ ⟨d',.fieldAddr S x f,ty,pos,af,gd⟩ (.pointer (some ⟨b,a,none⟩)):=kg s.h g e
theorem vIn {t e:TypeId}{x y:Operand}{g o n c sz:Nat}{k:IntKind}{j:Int}[s:HSl P t e][z:HSz P e sz](a:ev σ x=.slice (some ⟨g,o,none⟩) n c)(i:ev σ y=.int k j)(h:0≤j∧j<n):VO ⟨P,N,C⟩ V σ ⟨d',.indexAddr t x y,ty,pos,af,gd⟩ (.pointer (some ⟨g,o+j.toNat*sz,none⟩)):=lj s.h z.h a i h.1 h.2
theorem vDn {T:TypeId}{x:Operand}{b k:Nat}{cs:List Value}{e:Nat}{v:Value}[s:HAg P T false](j:ev σ x=.pointer (some ⟨b,k,none⟩))(a:rW V (aV b cs e))(g:m9 cs k=some v):VO ⟨P,N,C⟩ V σ ⟨d',.load T x,ty,pos,af,gd⟩ v:=a.elim fun i a=>mH i s.h a j g
variable {z:Operand}
theorem vMI {i:IntKind}{n:Int}(h:ev σ z=.int i n):VO X V σ ⟨d',.move z,ty,pos,af,gd⟩ (.int i n):=eS (by simp only [pv,h])
theorem vMB {n:Bool}(h:ev σ z=.bool n):VO X V σ ⟨d',.move z,ty,pos,af,gd⟩ (.bool n):=eS (by simp only [pv,h])
theorem vMS {a:Option Addr}{n c:Nat}(h:ev σ z=.slice a n c):VO X V σ ⟨d',.move z,ty,pos,af,gd⟩ (.slice a n c):=eS (by simp only [pv,h])
theorem vMP {b n:Nat}(h:ev σ z=.pointer (some ⟨b,n,none⟩)):VO X V σ ⟨d',.move z,ty,pos,af,gd⟩ (.pointer (some ⟨b,n,none⟩)):=eS (by simp only [pv,h])
theorem vCI {i:IntKind}{n:Int}(h:ev σ z=.int i n):VO X V σ ⟨d',.assign z,ty,pos,af,gd⟩ (.int i n):=eS (by simp only [pv,h])
theorem vCB {n:Bool}(h:ev σ z=.bool n):VO X V σ ⟨d',.assign z,ty,pos,af,gd⟩ (.bool n):=eS (by simp only [pv,h])
theorem vCS {a:Option Addr}{n c:Nat}(h:ev σ z=.slice a n c):VO X V σ ⟨d',.assign z,ty,pos,af,gd⟩ (.slice a n c):=eS (by simp only [pv,h])
theorem vCP {b n:Nat}(h:ev σ z=.pointer (some ⟨b,n,none⟩)):VO X V σ ⟨d',.assign z,ty,pos,af,gd⟩ (.pointer (some ⟨b,n,none⟩)):=eS (by simp only [pv,h])
theorem vEn {T:TypeId}{x:Operand}{g o n c:Nat}{xs:List Int}{j:Int}[s:HAg P T false](e:ev σ x=.pointer (some ⟨g,o+j.toNat*1,none⟩))(a:sA V (Kind.int .i64) (.slice (some ⟨g,o,none⟩) n c) xs)(h:0≤j∧j<n):VO ⟨P,N,C⟩ V σ ⟨d',.load T x,ty,pos,af,gd⟩ (.int .i64 (ix xs j)):=a.elim fun i a=>pC i s.h a e h
theorem dRx {i:Nat}{rs:List Nat}(tk:Tk i rs){g:Nat}(a:fuel+1=g)(r:ops[i]?=some ⟨some d,op,ty,pos,af,gd⟩)(hw:cE ops σ ⟨some d,op,ty,pos,af,gd⟩=true)(m:fy X.n (some d)=true)(e:Nat.blt i k=true)(B:fu ops k=true)(u:Region.noSelect ops=true)(q:(Region.free .any ops listed i&&(Region.ready .any ops listed).contains i)=true)(j:rmL V rs=V0)(D:VO X V0 σ ⟨some d,op,ty,pos,af,gd⟩ v)(h:Tk (i+1) rs→TD X ops k V0 fuel (listed.setIfInBounds i true) V (gX σ d v) Q):TD X ops k V0 g listed V σ Q :=
  a▸uj i v r D hw m e B u q (fun w s=>j▸sL rs w s) (h ⟨⟩)
theorem dFx {i:Nat}{rs:List Nat}(tk:Tk i rs){g:Nat}(a:fuel+1=g)(r:ops[i]?=some ⟨some d,op,ty,pos,af,gd⟩)(hw:cE ops σ ⟨some d,op,ty,pos,af,gd⟩=false)(m:fy X.n (some d)=true)(e:Nat.blt i k=true)(B:fu ops k=true)(u:Region.noSelect ops=true)(q:(Region.free .any ops listed i&&(Region.ready .any ops listed).contains i)=true)(j:rmL V rs=V0)(h:Tk (i+1) rs→TD X ops k V0 fuel (listed.setIfInBounds i true) V (gX σ d undef) Q):TD X ops k V0 g listed V σ Q :=
  a▸sj i r hw m e B u q (fun w s=>j▸sL rs w s) (h ⟨⟩)
theorem vWn {T:TypeId}{x:Operand}{b n:Nat}{cs:List Value}{g:Nat}[s:HAg P T true][z:HSz P T n](j:ev σ x=.pointer (some ⟨b,0,none⟩))(a:rW V (aV b cs g))(e:cs.length=n):VO ⟨P,N,C⟩ V σ ⟨d',.load T x,ty,pos,af,gd⟩ (.agg cs.toArray):=a.elim fun i a=>i3 i s.h z.h a j (by rw [List.drop_zero,← e,List.take_length]) e
theorem us {A:Type}{a:A→Value×List HP}{fn:Func}{e:Exit}(x:A)(i:∀ w,St X.C w V→St X.C w ((a x).2++V0))(g:(e=.ret∨e=.normal):=by first | exact .inl rfl | exact .inr rfl)(h:fn.results=#[]:=by exact rfl)(j:(a x).1=.tuple #[]:=by exact rfl):TQ X V σ e (ie X.P fn (mx X V0 a)):=ft (rs:=[]) (vs:=[]) g x h trivial j i
theorem pD {A:Type}{g:A→Value×List HP}{fn:Func}{e:Exit}{a b:Nat}{u v:Value}(x:A)(j:∀ w,St X.C w V→St X.C w ((g x).2++V0))(h:(e=.ret∨e=.normal):=by first | exact .inl rfl | exact .inr rfl)(i:fn.results=#[.tmp a,.tmp b]:=by exact rfl)(m:(g x).1=.tuple [u,v].toArray:=by exact rfl)(h1:σ a=u:=by exact rfl)(h2:σ b=v:=by exact rfl):TQ X V σ e (ie X.P fn (mx X V0 g)):=ft (rs:=[.tmp a,.tmp b]) (vs:=[u,v]) h x i ⟨h1,h2,trivial⟩ m j
theorem j0 {A:Type}{g:A→Value×List HP}{fn:Func}{e:Exit}{a b c:Nat}{u v y:Value}(x:A)(m:∀ w,St X.C w V→St X.C w ((g x).2++V0))(i:(e=.ret∨e=.normal):=by first | exact .inl rfl | exact .inr rfl)(j:fn.results=#[.tmp a,.tmp b,.tmp c]:=by exact rfl)(q:(g x).1=.tuple [u,v,y].toArray:=by exact rfl)(h1:σ a=u:=by exact rfl)(h2:σ b=v:=by exact rfl)(h:σ c=y:=by exact rfl):TQ X V σ e (ie X.P fn (mx X V0 g)):=ft (rs:=[.tmp a,.tmp b,.tmp c]) (vs:=[u,v,y]) i x j ⟨h1,h2,h,trivial⟩ q m
theorem qS {A:Type}{g:A→Value×List HP}{fn:Func}{e:Exit}{a T b m n:Nat}{cs:List Value}(x:A)(D:∀ w,St C w V→St C w ((g x).2++V0))(r:(e=.ret∨e=.normal):=by first | exact .inl rfl | exact .inr rfl)(B:fn.results=#[.cell a T]:=by exact rfl)(q:σ a=.pointer (some ⟨b,0,none⟩):=by exact rfl)(j:rW V (aV b cs m):=by first | (with_reducible repeat (first | exact rX | apply rY)); done | repeat (first | exact rX | apply rY))
    (E:(g x).1=.agg cs.toArray:=by exact rfl) (h1:eG P T=some true:=by exact HAg.h) (h2:fI P T=some n:=by exact HSz.h) (u:cs.length=n:=by exact rfl):TQ ⟨P,N,C⟩ V σ e (ie P fn (mx ⟨P,N,C⟩ V0 g)):=j.elim fun i j=>ft (X:=⟨P,N,C⟩) (rs:=[.cell a T]) (vs:=[.agg cs.toArray]) r x B ⟨⟨i,b,cs,m,j,q,.inl ⟨h1,by rw [u]; exact h2,rfl⟩⟩,trivial⟩ E D
theorem vA0 {c:Bool}{x y z:Operand}(a:ev σ x=.bool c)(h:c=false)(e:ev σ z=.bool false):VO X V σ ⟨d',.pick x y z,ty,pos,af,gd⟩ (.bool false):=ji a h e rfl
theorem vO1 {c:Bool}{x y z:Operand}(a:ev σ x=.bool c)(h:c=false)(e:ev σ z=.bool true):VO X V σ ⟨d',.pick x y z,ty,pos,af,gd⟩ (.bool true):=ji a h e rfl
theorem vT1 {c:Bool}{x y z:Operand}(a:ev σ x=.bool c)(h:c=true)(e:ev σ y=.bool true):VO X V σ ⟨d',.pick x y z,ty,pos,af,gd⟩ (.bool true):=i0 a h e rfl
theorem vA1 {c:Bool}{x y z:Operand}(a:ev σ x=.bool c)(h:c=true)(e:ev σ y=.bool false):VO X V σ ⟨d',.pick x y z,ty,pos,af,gd⟩ (.bool false):=i0 a h e rfl
theorem vN1 {x:Operand}{t:TypeId}(a:ev σ x=.bool true):VO X V σ ⟨d',.unOp .not t x,ty,pos,af,gd⟩ (.bool false):=om a
theorem vN0 {x:Operand}{t:TypeId}(a:ev σ x=.bool false):VO X V σ ⟨d',.unOp .not t x,ty,pos,af,gd⟩ (.bool true):=om a
theorem oF {a b:Bool}(h:a=false)(g:b=false):(a||b)=false:=by rw [h,g]; rfl
theorem aT {a b:Bool}(h:a=true)(g:b=true):(a&&b)=true:=by rw [h,g]; rfl
theorem oT2 {a b:Bool}(g:b=true):(a||b)=true:=by rw [g]; cases a<;>rfl
theorem aF2 {a b:Bool}(g:b=false):(a&&b)=false:=by rw [g]; cases a<;>rfl
theorem nT {a:Bool}(h:a=false):(!a)=true:=by rw [h]; rfl
theorem nF {a:Bool}(h:a=true):(!a)=false:=by rw [h]; rfl
theorem bTr {t:Nat}{E:Bool}(h:E=true)(a:σ t=.bool true):σ t=.bool E:=by rw [a,h]
theorem bFa {t:Nat}{E:Bool}(h:E=false)(a:σ t=.bool false):σ t=.bool E:=by rw [a,h]
theorem qj {e:List (Nat×Value)}{a:List HP}(h2:∀ w,St X.C w V→St X.C w a)(h1:h9 σ e:=by
    first
    | exact aS R
    | (repeat' (first
        | exact trivial
        | (refine ⟨?_,?_⟩
           · first
             | exact rfl
             | (refine bTr ?_ rfl
                with_reducible repeat' (first | assumption | exact oT (by assumption) | exact oT2 (by assumption) | refine aT ?_ ?_ | refine nT ?_ | exact oT (oT (by assumption)) | refine oT ?_))
             | (refine bFa ?_ rfl
                with_reducible repeat' (first | assumption | exact aF (by assumption) | exact aF2 (by assumption) | refine oF ?_ ?_ | refine nF ?_ | exact aF (aF (by assumption)) | refine aF ?_)))))):TQ X V σ .normal (eP (Jn X (fun _:Unit×Unit=>True) (fun _=>e) (fun _=>a)) Q):=cG ((),()) trivial h1 h2
theorem m' {k:Operand}{b:Bool}(e:ev σ k=.bool b)(a:¬ b=true)(h:TC X V σ y Q):TC X V σ (.cond k x y) Q:=bW e (by simpa using a) h
theorem vw {j:Nat}{c:Bool}(h:o.guard=some (j,true))(a:hR ops σ j=some c)(e:c=true):cE ops σ o=true:=hZ h a e
theorem vx {j:Nat}{c:Bool}(h:o.guard=some (j,false))(a:hR ops σ j=some c)(e:c=false):cE ops σ o=true:=hZ h a e
theorem vy {j:Nat}{c:Bool}(h:o.guard=some (j,false))(a:hR ops σ j=some c)(e:c=true):cE ops σ o=false:=ip h a e
theorem vC {j:Nat}{c:Bool}(h:o.guard=some (j,true))(a:hR ops σ j=some c)(e:c=false):cE ops σ o=false:=ip h a e
theorem lOx (hw:cE ops σ ⟨some d,op,ty,pos,af,gd⟩=true)(a:fy X.n (some d)=true)(e:VO X V σ ⟨some d,op,ty,pos,af,gd⟩ v)(h:TL X ops V (gX σ d v) rest Q):TL X ops V σ (⟨some d,op,ty,pos,af,gd⟩::rest) Q:=pB v e hw a h
theorem lfx (hw:cE ops σ o=false)(a:fy X.n o.dst=true)(h:TL X ops V (dS σ o.dst undef) rest Q):TL X ops V σ (o::rest) Q:=px a hw h
theorem tI:∀ w,St C w V→St C w V:=fun _ s=>s
theorem tE (n:Nat)(is:List Nat)(h:kN n is=true:=by exact rfl)(a:rT n V=true:=by exact rfl):∀ w,St C w V→St C w (is.map (lk V)++dp n V):=fun _ s=>s.sel n is h a
end
theorem gv {X:Cx}{V:List HP}{σ:bL}{o:Oper}{v:Value}(h:VO X V σ o v:=by
  first
  | ((with_reducible apply vMI); exact rfl)
  | ((with_reducible apply vMS); exact rfl)
  | ((with_reducible apply vMB); exact rfl)
  | ((with_reducible apply vMP); exact rfl)
  | ((with_reducible apply vCI); exact rfl)
  | ((with_reducible apply vCS); exact rfl)
  | ((with_reducible apply vCB); exact rfl)
  | ((with_reducible apply vCP); exact rfl)
  | ((with_reducible apply oj)<;>exact rfl)
  | ((with_reducible apply nY)<;>exact rfl)
  | ((with_reducible apply vq)<;>exact rfl)
  | ((with_reducible apply vGe)<;>exact rfl)
  | ((with_reducible apply ul)<;>exact rfl)
  | ((with_reducible apply vLe)<;>exact rfl)
  | ((with_reducible apply vF)<;>exact rfl)
  | ((with_reducible apply ub)<;>exact rfl)
  | ((with_reducible apply vMu)<;>exact rfl)
  | ((with_reducible apply vLn); exact rfl)
  | ((with_reducible apply vFn)<;>exact rfl)
  | (with_reducible apply vIn
     · exact rfl
     · exact rfl
     · first | with_reducible assumption | assumption)
  | (with_reducible apply vDn
     · exact rfl
     · first | (with_reducible repeat (first | exact rX | apply rY)); done | repeat (first | exact rX | apply rY)
     · exact rfl)
  | (with_reducible apply vEn
     · exact rfl
     · first | (with_reducible repeat (first | exact vt | exact vu | apply vv)); done | repeat (first | exact vt | exact vu | apply vv)
     · first | with_reducible assumption | assumption)
  | (with_reducible apply vWn
     · exact rfl
     · first | (with_reducible repeat (first | exact rX | apply rY)); done | repeat (first | exact rX | apply rY)
     · exact rfl)
  | ((with_reducible apply vN1); exact rfl)
  | ((with_reducible apply vN0); exact rfl)
  | ((with_reducible apply om); exact rfl)
  | (with_reducible apply vA0
     · exact rfl
     · with_reducible repeat (first | assumption | refine oT ?_ | refine aF ?_)
     · exact rfl)
  | (with_reducible apply vO1
     · exact rfl
     · with_reducible repeat (first | assumption | refine oT ?_ | refine aF ?_)
     · exact rfl)
  | (with_reducible apply vT1
     · exact rfl
     · with_reducible repeat (first | assumption | refine oT ?_ | refine aF ?_)
     · exact rfl)
  | (with_reducible apply vA1
     · exact rfl
     · with_reducible repeat (first | assumption | refine oT ?_ | refine aF ?_)
     · exact rfl)
  | (with_reducible apply qq
     · exact rfl
     · with_reducible repeat (first | assumption | refine oT ?_ | refine aF ?_)
     · exact rfl)
  | (with_reducible apply vr
     · exact rfl
     · with_reducible repeat (first | assumption | refine oT ?_ | refine aF ?_)
     · exact rfl)
  | exact vI rfl
  | exact vB rfl
  | exact vS rfl
  | exact vP rfl):VO X V σ o v:=h
theorem bS {G H:Prop}(h:H)(s:Hd H→G:=by
  intro a
  first
  | with_reducible refine aL ?_
  | with_reducible refine aG ?_
  | with_reducible refine aH ?_
  | with_reducible refine aE ?_
  | (with_reducible apply lOx
     · first | exact rfl | (refine vw rfl rfl ?_; (with_reducible repeat (first | assumption | refine oT ?_ | refine aF ?_)); done) | (refine vx rfl rfl ?_; (with_reducible repeat (first | assumption | refine oT ?_ | refine aF ?_)); done)
     · exact rfl
     · exact gv)
  | (with_reducible apply lfx
     · first | exact rfl | (refine vy rfl rfl ?_; (with_reducible repeat (first | assumption | refine oT ?_ | refine aF ?_)); done) | (refine vC rfl rfl ?_; (with_reducible repeat (first | assumption | refine oT ?_ | refine aF ?_)); done)
     · exact rfl)
  | with_reducible refine dY ?_
  | with_reducible refine dF ?_
  | with_reducible refine io ?_
  | with_reducible refine cK ?_
  | with_reducible refine fz ?_
  | with_reducible refine gD ?_
  | with_reducible refine eO ?_
  | with_reducible refine dJ ?_
  | with_reducible refine gE ?_
  | (with_reducible apply dG
     · exact rfl
     · first | with_reducible assumption | assumption)
  | (with_reducible apply m'
     · exact rfl
     · first | with_reducible assumption | assumption)
  | (with_reducible apply bW
     · exact rfl
     · first | with_reducible assumption | assumption)
  exact a.h):G:=s ⟨h⟩
theorem bD {G H:Prop}(h:H)(s:Hd H→G:=by intro a; (iterate 2 (refine bS ?_)); exact a.h):G:=s ⟨h⟩
theorem aR {G H:Prop}(h:H)(s:Hd H→G:=by intro a; (iterate 3 (refine bS ?_)); exact a.h):G:=s ⟨h⟩
theorem bN {G H:Prop}(h:H)(s:Hd H→G:=by intro a; (iterate 4 (refine bS ?_)); exact a.h):G:=s ⟨h⟩
theorem cV {G H:Prop}(h:H)(s:Hd H→G:=by intro a; (iterate 5 (refine bS ?_)); exact a.h):G:=s ⟨h⟩
theorem bJ {G H:Prop}(h:H)(s:Hd H→G:=by intro a; (iterate 6 (refine bS ?_)); exact a.h):G:=s ⟨h⟩
theorem eD {G H:Prop}(h:H)(s:Hd H→G:=by intro a; (iterate 7 (refine bS ?_)); exact a.h):G:=s ⟨h⟩
theorem dO {G H:Prop}(h:H)(s:Hd H→G:=by intro a; (iterate 8 (refine bS ?_)); exact a.h):G:=s ⟨h⟩
theorem cS {G H:Prop}(h:H)(s:Hd H→G:=by intro a; (iterate 9 (refine bS ?_)); exact a.h):G:=s ⟨h⟩
theorem fD {G H:Prop}(h:H)(s:Hd H→G:=by intro a; (iterate 10 (refine bS ?_)); exact a.h):G:=s ⟨h⟩
theorem kQ {G H:Prop}(h:H)(s:Hd H→G:=by intro a; (iterate 11 (refine bS ?_)); exact a.h):G:=s ⟨h⟩
theorem iS {G H:Prop}(h:H)(s:Hd H→G:=by intro a; (iterate 12 (refine bS ?_)); exact a.h):G:=s ⟨h⟩
theorem ov {G H:Prop}(h:H)(s:Hd H→G:=by intro a; (iterate 13 (refine bS ?_)); exact a.h):G:=s ⟨h⟩
theorem sB {G H:Prop}(h:H)(s:Hd H→G:=by intro a; (iterate 14 (refine bS ?_)); exact a.h):G:=s ⟨h⟩
theorem n0 {G H:Prop}(h:H)(s:Hd H→G:=by intro a; (iterate 15 (refine bS ?_)); exact a.h):G:=s ⟨h⟩
theorem ut {G H:Prop}(h:H)(s:Hd H→G:=by intro a; (iterate 16 (refine bS ?_)); exact a.h):G:=s ⟨h⟩
theorem qw {G H:Prop}(h:H)(s:Hd H→G:=by intro a; (iterate 17 (refine bS ?_)); exact a.h):G:=s ⟨h⟩
theorem uu {G H:Prop}(h:H)(s:Hd H→G:=by intro a; (iterate 19 (refine bS ?_)); exact a.h):G:=s ⟨h⟩
theorem sC {G H:Prop}(h:H)(s:Hd H→G:=by intro a; (iterate 21 (refine bS ?_)); exact a.h):G:=s ⟨h⟩
theorem uv {G H:Prop}(h:H)(s:Hd H→G:=by intro a; (iterate 22 (refine bS ?_)); exact a.h):G:=s ⟨h⟩
theorem uw {G H:Prop}(h:H)(s:Hd H→G:=by intro a; (iterate 31 (refine bS ?_)); exact a.h):G:=s ⟨h⟩
theorem kj {G H:Prop}{i:Nat}{rs:List Nat}(tk:Tk i rs)(h:H)(s:Hd H→G:=by
  intro a
  first
  | (with_reducible apply dRx tk
     · exact rfl
     · exact rfl
     · first | exact rfl | (refine vw rfl rfl ?_; (with_reducible repeat (first | assumption | refine oT ?_ | refine aF ?_)); done) | (refine vx rfl rfl ?_; (with_reducible repeat (first | assumption | refine oT ?_ | refine aF ?_)); done)
     · exact rfl
     · exact rfl
     · assumption
     · assumption
     · kernel_rfl
     · exact rfl
     · exact gv)
  | (with_reducible apply dFx tk
     · exact rfl
     · exact rfl
     · first | exact rfl | (refine vy rfl rfl ?_; (with_reducible repeat (first | assumption | refine oT ?_ | refine aF ?_)); done) | (refine vC rfl rfl ?_; (with_reducible repeat (first | assumption | refine oT ?_ | refine aF ?_)); done)
     · exact rfl
     · exact rfl
     · assumption
     · assumption
     · kernel_rfl
     · exact rfl)
  exact a.h):G:=s ⟨h⟩
theorem pE {G H:Prop}(i:Nat)(rs:List Nat)(h:H)(s:Tk i rs→Hd H→G:=by intro tk a; (iterate 1 (refine kj tk ?_; clear tk; intro tk)); exact a.h):G:=s ⟨⟩ ⟨h⟩
theorem iz {G H:Prop}(i:Nat)(rs:List Nat)(h:H)(s:Tk i rs→Hd H→G:=by intro tk a; (iterate 2 (refine kj tk ?_; clear tk; intro tk)); exact a.h):G:=s ⟨⟩ ⟨h⟩
theorem i6 {G H:Prop}(i:Nat)(rs:List Nat)(h:H)(s:Tk i rs→Hd H→G:=by intro tk a; (iterate 3 (refine kj tk ?_; clear tk; intro tk)); exact a.h):G:=s ⟨⟩ ⟨h⟩
theorem rZ {G H:Prop}(i:Nat)(rs:List Nat)(h:H)(s:Tk i rs→Hd H→G:=by intro tk a; (iterate 4 (refine kj tk ?_; clear tk; intro tk)); exact a.h):G:=s ⟨⟩ ⟨h⟩
theorem qx {G H:Prop}(i:Nat)(rs:List Nat)(h:H)(s:Tk i rs→Hd H→G:=by intro tk a; (iterate 5 (refine kj tk ?_; clear tk; intro tk)); exact a.h):G:=s ⟨⟩ ⟨h⟩
theorem ux {G H:Prop}(i:Nat)(rs:List Nat)(h:H)(s:Tk i rs→Hd H→G:=by intro tk a; (iterate 6 (refine kj tk ?_; clear tk; intro tk)); exact a.h):G:=s ⟨⟩ ⟨h⟩
theorem vD {G H:Prop}(i:Nat)(rs:List Nat)(h:H)(s:Tk i rs→Hd H→G:=by intro tk a; (iterate 7 (refine kj tk ?_; clear tk; intro tk)); exact a.h):G:=s ⟨⟩ ⟨h⟩
theorem uy {G H:Prop}(i:Nat)(rs:List Nat)(h:H)(s:Tk i rs→Hd H→G:=by intro tk a; (iterate 8 (refine kj tk ?_; clear tk; intro tk)); exact a.h):G:=s ⟨⟩ ⟨h⟩
theorem sD {G H:Prop}(i:Nat)(rs:List Nat)(h:H)(s:Tk i rs→Hd H→G:=by intro tk a; (iterate 9 (refine kj tk ?_; clear tk; intro tk)); exact a.h):G:=s ⟨⟩ ⟨h⟩
theorem sF {G H:Prop}(i:Nat)(rs:List Nat)(h:H)(s:Tk i rs→Hd H→G:=by intro tk a; (iterate 10 (refine kj tk ?_; clear tk; intro tk)); exact a.h):G:=s ⟨⟩ ⟨h⟩
theorem sG {G H:Prop}(i:Nat)(rs:List Nat)(h:H)(s:Tk i rs→Hd H→G:=by intro tk a; (iterate 11 (refine kj tk ?_; clear tk; intro tk)); exact a.h):G:=s ⟨⟩ ⟨h⟩
theorem qy {G H:Prop}(i:Nat)(rs:List Nat)(h:H)(s:Tk i rs→Hd H→G:=by intro tk a; (iterate 12 (refine kj tk ?_; clear tk; intro tk)); exact a.h):G:=s ⟨⟩ ⟨h⟩
theorem oy {G H:Prop}(i:Nat)(rs:List Nat)(h:H)(s:Tk i rs→Hd H→G:=by intro tk a; (iterate 13 (refine kj tk ?_; clear tk; intro tk)); exact a.h):G:=s ⟨⟩ ⟨h⟩
theorem uz {G H:Prop}(i:Nat)(rs:List Nat)(h:H)(s:Tk i rs→Hd H→G:=by intro tk a; (iterate 15 (refine kj tk ?_; clear tk; intro tk)); exact a.h):G:=s ⟨⟩ ⟨h⟩
theorem uA {G H:Prop}(i:Nat)(rs:List Nat)(h:H)(s:Tk i rs→Hd H→G:=by intro tk a; (iterate 17 (refine kj tk ?_; clear tk; intro tk)); exact a.h):G:=s ⟨⟩ ⟨h⟩
theorem sH {G H:Prop}(i:Nat)(rs:List Nat)(h:H)(s:Tk i rs→Hd H→G:=by intro tk a; (iterate 19 (refine kj tk ?_; clear tk; intro tk)); exact a.h):G:=s ⟨⟩ ⟨h⟩
theorem uB {G H:Prop}(i:Nat)(rs:List Nat)(h:H)(s:Tk i rs→Hd H→G:=by intro tk a; (iterate 24 (refine kj tk ?_; clear tk; intro tk)); exact a.h):G:=s ⟨⟩ ⟨h⟩
end Go.Pg
