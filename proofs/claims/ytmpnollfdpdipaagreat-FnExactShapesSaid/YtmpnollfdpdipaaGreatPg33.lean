import Derived.Test.YtmpnollfdpdipaaGreatPg20
set_option linter.unusedVariables false
namespace Go.Pg
structure Hd (H:Prop):Prop where
  h:H
class HSl (P:Program)(t:TypeId)(e:outParam TypeId):Prop where
  h:li P t=some e
class HSz (P:Program)(t:TypeId)(z:outParam Nat):Prop where
  h:hK P t=some z
class HAg (P:Program)(t:TypeId)(b:outParam Bool):Prop where
  h:eW P t=some b
class HFo (P:Program)(S:TypeId)(f:Nat)(o:outParam Nat):Prop where
  h:cS P S f=some o
abbrev s3 (h:HH):Value:=.slice h.1 h.2.1 h.2.2
def xM (V:List HP)(q:HP):Prop:=∃ i,lk V i=q
theorem xN {V:List HP}{q:HP}:xM (q::V) q:=⟨0,rfl⟩
theorem xO {V:List HP}{p q:HP}(h:xM V q):xM (p::V) q:=h.elim fun i h=>⟨i+1,h⟩
def yc {α:Type}(V:List HP)(K:Kind α)(v:Value)(xs:List α):Prop:=∃ i,jA (lk V i) K v xs
theorem Bs {α:Type}{V:List HP}{K:Kind α}{e:Nat}{v:Value}{xs:List α}:yc (ow K e v xs::V) K v xs:=⟨0,aB⟩
theorem Bt {α:Type}{V:List HP}{K:Kind α}{v:Value}{xs:List α}:yc (aO K v xs::V) K v xs:=⟨0,aA⟩
theorem Bu {α:Type}{V:List HP}{p:HP}{K:Kind α}{v:Value}{xs:List α}(h:yc V K v xs):yc (p::V) K v xs:=h.elim fun i h=>⟨i+1,h⟩
structure Tk (i:Nat)(rs:List Nat):Prop where
section
variable {P:Program}{N:Nn}{C:World}{X:Cx}{V V0:List HP}{σ:cY}{Q:Exit→cY→World→Prop}{ops:Array Oper}{rest:List Oper}{o:Oper}{k fuel:Nat}{listed:Array Bool}
variable {d:Nat}{d':Option Nat}{op:Op}{ty:TypeId}{pos:String}{af:Array Edge}{gd:Option (Nat×Bool)}{v:Value}{x y:Code}
theorem vLn {t:TypeId}{x:Operand}{a:Option Addr}{n c:Nat}{e:TypeId}[s:HSl P t e](b:ev σ x=.slice a n c):VO ⟨P,N,C⟩ V σ ⟨d',.call ⟨.builtin .len,#[x],#[t]⟩,ty,pos,af,gd⟩ (.int .i64 n):=lj s.h b
theorem vFn {S:TypeId}{x:Operand}{f fo b k a:Nat}[s:HFo P S f fo](e:ev σ x=.pointer (some ⟨b,k,none⟩))(g:k+fo=a):VO ⟨P,N,C⟩ V σ ⟨d',.fieldAddr S x f,ty,pos,af,gd⟩ (.pointer (some ⟨b,a,none⟩)):=jB s.h e g
theorem vIn {t e:TypeId}{x y:Operand}{g o n c sz:Nat}{k:IntKind}{j:Int}[s:HSl P t e][z:HSz P e sz](b:ev σ x=.slice (some ⟨g,o,none⟩) n c)(a:ev σ y=.int k j)(h:0≤j∧j<n):VO ⟨P,N,C⟩ V σ ⟨d',.indexAddr t x y,ty,pos,af,gd⟩ (.pointer (some ⟨g,o+j.toNat*sz,none⟩)):=pL s.h z.h b a h.1 h.2
theorem vDn {T:TypeId}{x:Operand}{b k:Nat}{cs:List Value}{g:Nat}{v:Value}[s:HAg P T false](e:ev σ x=.pointer (some ⟨b,k,none⟩))(a:xM V (aJ b cs g))(j:qy cs k=some v):VO ⟨P,N,C⟩ V σ ⟨d',.load T x,ty,pos,af,gd⟩ v:=a.elim fun i a=>rE i s.h a e j
variable {z:Operand}
theorem vMI {i:IntKind}{n:Int}(h:ev σ z=.int i n):VO X V σ ⟨d',.move z,ty,pos,af,gd⟩ (.int i n):=hY (by simp only [pv,h])
theorem vMB {n:Bool}(h:ev σ z=.bool n):VO X V σ ⟨d',.move z,ty,pos,af,gd⟩ (.bool n):=hY (by simp only [pv,h])
theorem vMS {a:Option Addr}{n c:Nat}(h:ev σ z=.slice a n c):VO X V σ ⟨d',.move z,ty,pos,af,gd⟩ (.slice a n c):=hY (by simp only [pv,h])
theorem vMP {b n:Nat}(h:ev σ z=.pointer (some ⟨b,n,none⟩)):VO X V σ ⟨d',.move z,ty,pos,af,gd⟩ (.pointer (some ⟨b,n,none⟩)):=hY (by simp only [pv,h])
theorem vCI {i:IntKind}{n:Int}(h:ev σ z=.int i n):VO X V σ ⟨d',.assign z,ty,pos,af,gd⟩ (.int i n):=hY (by simp only [pv,h])
theorem vCB {n:Bool}(h:ev σ z=.bool n):VO X V σ ⟨d',.assign z,ty,pos,af,gd⟩ (.bool n):=hY (by simp only [pv,h])
theorem vCS {a:Option Addr}{n c:Nat}(h:ev σ z=.slice a n c):VO X V σ ⟨d',.assign z,ty,pos,af,gd⟩ (.slice a n c):=hY (by simp only [pv,h])
theorem vCP {b n:Nat}(h:ev σ z=.pointer (some ⟨b,n,none⟩)):VO X V σ ⟨d',.assign z,ty,pos,af,gd⟩ (.pointer (some ⟨b,n,none⟩)):=hY (by simp only [pv,h])
theorem vEn {T:TypeId}{x:Operand}{g o n c:Nat}{xs:List Int}{j:Int}[s:HAg P T false](b:ev σ x=.pointer (some ⟨g,o+j.toNat*1,none⟩))(a:yc V (Kind.int .i64) (.slice (some ⟨g,o,none⟩) n c) xs)(h:0≤j∧j<n):VO ⟨P,N,C⟩ V σ ⟨d',.load T x,ty,pos,af,gd⟩ (.int .i64 (ix xs j)):=a.elim fun i a=>gY i s.h a b h
theorem dRx {i:Nat}{rs:List Nat}(tk:Tk i rs){e:Nat}(a:fuel+1=e)(u:ops[i]?=some ⟨some d,op,ty,pos,af,gd⟩)(hw:dN ops σ ⟨some d,op,ty,pos,af,gd⟩=true)(l:iC X.n (some d)=true)(b:Nat.blt i k=true)(g:jv ops k=true)(j:Region.noSelect ops=true)(r:(Region.free .any ops listed i&&(Region.ready .any ops listed).contains i)=true)(m:rmL V rs=V0)(q:VO X V0 σ ⟨some d,op,ty,pos,af,gd⟩ v)(h:Tk (i+1) rs→TD X ops k V0 fuel (listed.setIfInBounds i true) V (kt σ d v) Q):TD X ops k V0 e listed V σ Q :=
  a▸Ag i v u q hw l b g j r (fun w s=>m▸sL rs w s) (h ⟨⟩)
theorem dFx {i:Nat}{rs:List Nat}(tk:Tk i rs){e:Nat}(a:fuel+1=e)(r:ops[i]?=some ⟨some d,op,ty,pos,af,gd⟩)(hw:dN ops σ ⟨some d,op,ty,pos,af,gd⟩=false)(l:iC X.n (some d)=true)(b:Nat.blt i k=true)(g:jv ops k=true)(j:Region.noSelect ops=true)(q:(Region.free .any ops listed i&&(Region.ready .any ops listed).contains i)=true)(m:rmL V rs=V0)(h:Tk (i+1) rs→TD X ops k V0 fuel (listed.setIfInBounds i true) V (kt σ d undef) Q):TD X ops k V0 e listed V σ Q :=
  a▸xY i r hw l b g j q (fun w s=>m▸sL rs w s) (h ⟨⟩)
theorem vWn {T:TypeId}{x:Operand}{b n:Nat}{cs:List Value}{j:Nat}[s:HAg P T true][z:HSz P T n](g:ev σ x=.pointer (some ⟨b,0,none⟩))(a:xM V (aJ b cs j))(e:cs.length=n):VO ⟨P,N,C⟩ V σ ⟨d',.load T x,ty,pos,af,gd⟩ (.agg cs.toArray):=a.elim fun i a=>dT i s.h z.h a g (by rw [List.drop_zero,← e,List.take_length]) e
theorem zZ {A:Type}{a:A→Value×List HP}{fn:Func}{e:Exit}(x:A)(h:∀ w,St X.C w V→St X.C w ((a x).2++V0))(i:(e=.ret∨e=.normal):=by first | exact .inl rfl | exact .inr rfl)(b:fn.results=#[]:=by exact rfl)(g:(a x).1=.tuple #[]:=by exact rfl):TQ X V σ e (ma X.P fn (qB X V0 a)):=dF (rs:=[]) (vs:=[]) i x b trivial g h
theorem jC {A:Type}{g:A→Value×List HP}{fn:Func}{e:Exit}{a b:Nat}{u v:Value}(x:A)(j:∀ w,St X.C w V→St X.C w ((g x).2++V0))(l:(e=.ret∨e=.normal):=by first | exact .inl rfl | exact .inr rfl)(h:fn.results=#[.tmp a,.tmp b]:=by exact rfl)(i:(g x).1=.tuple [u,v].toArray:=by exact rfl)(h1:σ a=u:=by exact rfl)(h2:σ b=v:=by exact rfl):TQ X V σ e (ma X.P fn (qB X V0 g)):=dF (rs:=[.tmp a,.tmp b]) (vs:=[u,v]) l x h ⟨h1,h2,trivial⟩ i j
theorem hU {A:Type}{g:A→Value×List HP}{fn:Func}{e:Exit}{a b c:Nat}{u v y:Value}(x:A)(j:∀ w,St X.C w V→St X.C w ((g x).2++V0))(l:(e=.ret∨e=.normal):=by first | exact .inl rfl | exact .inr rfl)(m:fn.results=#[.tmp a,.tmp b,.tmp c]:=by exact rfl)(h:(g x).1=.tuple [u,v,y].toArray:=by exact rfl)(h1:σ a=u:=by exact rfl)(h2:σ b=v:=by exact rfl)(i:σ c=y:=by exact rfl):TQ X V σ e (ma X.P fn (qB X V0 g)):=dF (rs:=[.tmp a,.tmp b,.tmp c]) (vs:=[u,v,y]) l x m ⟨h1,h2,i,trivial⟩ h j
theorem qS {A:Type}{g:A→Value×List HP}{fn:Func}{e:Exit}{a T b l n:Nat}{cs:List Value}(x:A)(r:∀ w,St C w V→St C w ((g x).2++V0))(s:(e=.ret∨e=.normal):=by first | exact .inl rfl | exact .inr rfl)(u:fn.results=#[.cell a T]:=by exact rfl)(q:σ a=.pointer (some ⟨b,0,none⟩):=by exact rfl)(j:xM V (aJ b cs l):=by first | (with_reducible repeat (first | exact xN | apply xO)); done | repeat (first | exact xN | apply xO))
    (m:(g x).1=.agg cs.toArray:=by exact rfl) (h1:eW P T=some true:=by exact HAg.h) (h2:hK P T=some n:=by exact HSz.h) (B:cs.length=n:=by exact rfl):TQ ⟨P,N,C⟩ V σ e (ma P fn (qB ⟨P,N,C⟩ V0 g)):=j.elim fun i j=>dF (X:=⟨P,N,C⟩) (rs:=[.cell a T]) (vs:=[.agg cs.toArray]) s x u ⟨⟨i,b,cs,l,j,q,.inl ⟨h1,by rw [B]; exact h2,rfl⟩⟩,trivial⟩ m r
theorem vA0 {c:Bool}{x y z:Operand}(a:ev σ x=.bool c)(h:c=false)(b:ev σ z=.bool false):VO X V σ ⟨d',.pick x y z,ty,pos,af,gd⟩ (.bool false):=lU a h b rfl
theorem vO1 {c:Bool}{x y z:Operand}(a:ev σ x=.bool c)(h:c=false)(b:ev σ z=.bool true):VO X V σ ⟨d',.pick x y z,ty,pos,af,gd⟩ (.bool true):=lU a h b rfl
theorem vT1 {c:Bool}{x y z:Operand}(b:ev σ x=.bool c)(h:c=true)(a:ev σ y=.bool true):VO X V σ ⟨d',.pick x y z,ty,pos,af,gd⟩ (.bool true):=lT b h a rfl
theorem vA1 {c:Bool}{x y z:Operand}(b:ev σ x=.bool c)(h:c=true)(a:ev σ y=.bool false):VO X V σ ⟨d',.pick x y z,ty,pos,af,gd⟩ (.bool false):=lT b h a rfl
theorem vN1 {x:Operand}{t:TypeId}(a:ev σ x=.bool true):VO X V σ ⟨d',.unOp .not t x,ty,pos,af,gd⟩ (.bool false):=rt a
theorem vN0 {x:Operand}{t:TypeId}(a:ev σ x=.bool false):VO X V σ ⟨d',.unOp .not t x,ty,pos,af,gd⟩ (.bool true):=rt a
theorem oF {a b:Bool}(h:a=false)(g:b=false):(a||b)=false:=by rw [h,g]; rfl
theorem aT {a b:Bool}(h:a=true)(g:b=true):(a&&b)=true:=by rw [h,g]; rfl
theorem oT2 {a b:Bool}(g:b=true):(a||b)=true:=by rw [g]; cases a<;>rfl
theorem aF2 {a b:Bool}(g:b=false):(a&&b)=false:=by rw [g]; cases a<;>rfl
theorem nT {a:Bool}(h:a=false):(!a)=true:=by rw [h]; rfl
theorem nF {a:Bool}(h:a=true):(!a)=false:=by rw [h]; rfl
theorem bTr {t:Nat}{E:Bool}(h:E=true)(a:σ t=.bool true):σ t=.bool E:=by rw [a,h]
theorem bFa {t:Nat}{E:Bool}(h:E=false)(a:σ t=.bool false):σ t=.bool E:=by rw [a,h]
theorem qj {a:List (Nat×Value)}{b:List HP}(h2:∀ w,St X.C w V→St X.C w b)(h1:kZ σ a:=by
    first
    | exact aS R
    | (repeat' (first
        | exact trivial
        | (refine ⟨?_,?_⟩
           · first
             | exact rfl
             | (refine bTr ?_ rfl
                with_reducible repeat' (first | assumption | exact oT (by assumption) | exact oT2 (by assumption) | refine aT ?_ ?_ | refine nT ?_ | exact oT (oT (by assumption)) | refine oT ?_))
             | (refine bFa ?_ rfl
                with_reducible repeat' (first | assumption | exact aF (by assumption) | exact aF2 (by assumption) | refine oF ?_ ?_ | refine nF ?_ | exact aF (aF (by assumption)) | refine aF ?_)))))):TQ X V σ .normal (hX (Jn X (fun _:Unit×Unit=>True) (fun _=>a) (fun _=>b)) Q):=cJ ((),()) trivial h1 h2
theorem rZ {k:Operand}{b:Bool}(e:ev σ k=.bool b)(a:¬ b=true)(h:TC X V σ y Q):TC X V σ (.cond k x y) Q:=bM e (by simpa using a) h
theorem Bv {j:Nat}{c:Bool}(h:o.guard=some (j,true))(a:kW ops σ j=some c)(e:c=true):dN ops σ o=true:=lQ h a e
theorem Bw {j:Nat}{c:Bool}(h:o.guard=some (j,false))(a:kW ops σ j=some c)(e:c=false):dN ops σ o=true:=lQ h a e
theorem Bx {j:Nat}{c:Bool}(h:o.guard=some (j,false))(a:kW ops σ j=some c)(e:c=true):dN ops σ o=false:=ky h a e
theorem By {j:Nat}{c:Bool}(h:o.guard=some (j,true))(a:kW ops σ j=some c)(e:c=false):dN ops σ o=false:=ky h a e
theorem lOx (hw:dN ops σ ⟨some d,op,ty,pos,af,gd⟩=true)(b:iC X.n (some d)=true)(a:VO X V σ ⟨some d,op,ty,pos,af,gd⟩ v)(h:TL X ops V (kt σ d v) rest Q):TL X ops V σ (⟨some d,op,ty,pos,af,gd⟩::rest) Q:=rM v a hw b h
theorem lfx (hw:dN ops σ o=false)(a:iC X.n o.dst=true)(h:TL X ops V (fT σ o.dst undef) rest Q):TL X ops V σ (o::rest) Q:=ve a hw h
theorem tI:∀ w,St C w V→St C w V:=fun _ s=>s
theorem tE (n:Nat)(is:List Nat)(h:oV n is=true:=by exact rfl)(a:xJ n V=true:=by exact rfl):∀ w,St C w V→St C w (is.map (lk V)++dp n V):=fun _ s=>s.sel n is h a
end
theorem gv {X:Cx}{V:List HP}{σ:cY}{o:Oper}{v:Value}(h:VO X V σ o v:=by
  first
  | ((with_reducible apply vMI); exact rfl)
  | ((with_reducible apply vMS); exact rfl)
  | ((with_reducible apply vMB); exact rfl)
  | ((with_reducible apply vMP); exact rfl)
  | ((with_reducible apply vCI); exact rfl)
  | ((with_reducible apply vCS); exact rfl)
  | ((with_reducible apply vCB); exact rfl)
  | ((with_reducible apply vCP); exact rfl)
  | ((with_reducible apply lq)<;>exact rfl)
  | ((with_reducible apply nS)<;>exact rfl)
  | ((with_reducible apply wg)<;>exact rfl)
  | ((with_reducible apply zY)<;>exact rfl)
  | ((with_reducible apply y6)<;>exact rfl)
  | ((with_reducible apply vLe)<;>exact rfl)
  | ((with_reducible apply lA)<;>exact rfl)
  | ((with_reducible apply Br)<;>exact rfl)
  | ((with_reducible apply rr)<;>exact rfl)
  | ((with_reducible apply vLn); exact rfl)
  | ((with_reducible apply vFn)<;>exact rfl)
  | (with_reducible apply vIn
     · exact rfl
     · exact rfl
     · first | with_reducible assumption | assumption)
  | (with_reducible apply vDn
     · exact rfl
     · first | (with_reducible repeat (first | exact xN | apply xO)); done | repeat (first | exact xN | apply xO)
     · exact rfl)
  | (with_reducible apply vEn
     · exact rfl
     · first | (with_reducible repeat (first | exact Bs | exact Bt | apply Bu)); done | repeat (first | exact Bs | exact Bt | apply Bu)
     · first | with_reducible assumption | assumption)
  | (with_reducible apply vWn
     · exact rfl
     · first | (with_reducible repeat (first | exact xN | apply xO)); done | repeat (first | exact xN | apply xO)
     · exact rfl)
  | ((with_reducible apply vN1); exact rfl)
  | ((with_reducible apply vN0); exact rfl)
  | ((with_reducible apply rt); exact rfl)
  | (with_reducible apply vA0
     · exact rfl
     · with_reducible repeat (first | assumption | refine oT ?_ | refine aF ?_)
     · exact rfl)
  | (with_reducible apply vO1
     · exact rfl
     · with_reducible repeat (first | assumption | refine oT ?_ | refine aF ?_)
     · exact rfl)
  | (with_reducible apply vT1
     · exact rfl
     · with_reducible repeat (first | assumption | refine oT ?_ | refine aF ?_)
     · exact rfl)
  | (with_reducible apply vA1
     · exact rfl
     · with_reducible repeat (first | assumption | refine oT ?_ | refine aF ?_)
     · exact rfl)
  | (with_reducible apply fR
     · exact rfl
     · with_reducible repeat (first | assumption | refine oT ?_ | refine aF ?_)
     · exact rfl)
  | (with_reducible apply iX
     · exact rfl
     · with_reducible repeat (first | assumption | refine oT ?_ | refine aF ?_)
     · exact rfl)
  | exact vI rfl
  | exact vB rfl
  | exact vS rfl
  | exact vP rfl):VO X V σ o v:=h
theorem bR {G H:Prop}(h:H)(s:Hd H→G:=by
  intro a
  first
  | with_reducible refine aN ?_
  | with_reducible refine aC ?_
  | with_reducible refine aI ?_
  | with_reducible refine aE ?_
  | (with_reducible apply lOx
     · first | exact rfl | (refine Bv rfl rfl ?_; (with_reducible repeat (first | assumption | refine oT ?_ | refine aF ?_)); done) | (refine Bw rfl rfl ?_; (with_reducible repeat (first | assumption | refine oT ?_ | refine aF ?_)); done)
     · exact rfl
     · exact gv)
  | (with_reducible apply lfx
     · first | exact rfl | (refine Bx rfl rfl ?_; (with_reducible repeat (first | assumption | refine oT ?_ | refine aF ?_)); done) | (refine By rfl rfl ?_; (with_reducible repeat (first | assumption | refine oT ?_ | refine aF ?_)); done)
     · exact rfl)
  | with_reducible refine dS ?_
  | with_reducible refine dI ?_
  | with_reducible refine iQ ?_
  | with_reducible refine bV ?_
  | with_reducible refine eR ?_
  | with_reducible refine gW ?_
  | with_reducible refine eD ?_
  | with_reducible refine cD ?_
  | with_reducible refine dA ?_
  | (with_reducible apply cC
     · exact rfl
     · first | with_reducible assumption | assumption)
  | (with_reducible apply rZ
     · exact rfl
     · first | with_reducible assumption | assumption)
  | (with_reducible apply bM
     · exact rfl
     · first | with_reducible assumption | assumption)
  exact a.h):G:=s ⟨h⟩
theorem aU {G H:Prop}(h:H)(s:Hd H→G:=by intro a; (iterate 2 (refine bR ?_)); exact a.h):G:=s ⟨h⟩
theorem aP {G H:Prop}(h:H)(s:Hd H→G:=by intro a; (iterate 3 (refine bR ?_)); exact a.h):G:=s ⟨h⟩
theorem bG {G H:Prop}(h:H)(s:Hd H→G:=by intro a; (iterate 4 (refine bR ?_)); exact a.h):G:=s ⟨h⟩
theorem b' {G H:Prop}(h:H)(s:Hd H→G:=by intro a; (iterate 5 (refine bR ?_)); exact a.h):G:=s ⟨h⟩
theorem bS {G H:Prop}(h:H)(s:Hd H→G:=by intro a; (iterate 6 (refine bR ?_)); exact a.h):G:=s ⟨h⟩
theorem dH {G H:Prop}(h:H)(s:Hd H→G:=by intro a; (iterate 7 (refine bR ?_)); exact a.h):G:=s ⟨h⟩
theorem cV {G H:Prop}(h:H)(s:Hd H→G:=by intro a; (iterate 8 (refine bR ?_)); exact a.h):G:=s ⟨h⟩
theorem cP {G H:Prop}(h:H)(s:Hd H→G:=by intro a; (iterate 9 (refine bR ?_)); exact a.h):G:=s ⟨h⟩
theorem cT {G H:Prop}(h:H)(s:Hd H→G:=by intro a; (iterate 10 (refine bR ?_)); exact a.h):G:=s ⟨h⟩
theorem iu {G H:Prop}(h:H)(s:Hd H→G:=by intro a; (iterate 11 (refine bR ?_)); exact a.h):G:=s ⟨h⟩
theorem iG {G H:Prop}(h:H)(s:Hd H→G:=by intro a; (iterate 12 (refine bR ?_)); exact a.h):G:=s ⟨h⟩
theorem mq {G H:Prop}(h:H)(s:Hd H→G:=by intro a; (iterate 13 (refine bR ?_)); exact a.h):G:=s ⟨h⟩
theorem od {G H:Prop}(h:H)(s:Hd H→G:=by intro a; (iterate 14 (refine bR ?_)); exact a.h):G:=s ⟨h⟩
theorem nv {G H:Prop}(h:H)(s:Hd H→G:=by intro a; (iterate 15 (refine bR ?_)); exact a.h):G:=s ⟨h⟩
theorem wq {G H:Prop}(h:H)(s:Hd H→G:=by intro a; (iterate 16 (refine bR ?_)); exact a.h):G:=s ⟨h⟩
theorem qG {G H:Prop}(h:H)(s:Hd H→G:=by intro a; (iterate 17 (refine bR ?_)); exact a.h):G:=s ⟨h⟩
theorem yd {G H:Prop}(h:H)(s:Hd H→G:=by intro a; (iterate 18 (refine bR ?_)); exact a.h):G:=s ⟨h⟩
theorem Am {G H:Prop}(h:H)(s:Hd H→G:=by intro a; (iterate 19 (refine bR ?_)); exact a.h):G:=s ⟨h⟩
theorem An {G H:Prop}(h:H)(s:Hd H→G:=by intro a; (iterate 20 (refine bR ?_)); exact a.h):G:=s ⟨h⟩
theorem u9 {G H:Prop}(h:H)(s:Hd H→G:=by intro a; (iterate 21 (refine bR ?_)); exact a.h):G:=s ⟨h⟩
theorem ye {G H:Prop}(h:H)(s:Hd H→G:=by intro a; (iterate 22 (refine bR ?_)); exact a.h):G:=s ⟨h⟩
theorem Ao {G H:Prop}(h:H)(s:Hd H→G:=by intro a; (iterate 24 (refine bR ?_)); exact a.h):G:=s ⟨h⟩
theorem wr {G H:Prop}(h:H)(s:Hd H→G:=by intro a; (iterate 31 (refine bR ?_)); exact a.h):G:=s ⟨h⟩
theorem mS {G H:Prop}{i:Nat}{rs:List Nat}(tk:Tk i rs)(h:H)(s:Hd H→G:=by
  intro a
  first
  | (with_reducible apply dRx tk
     · exact rfl
     · exact rfl
     · first | exact rfl | (refine Bv rfl rfl ?_; (with_reducible repeat (first | assumption | refine oT ?_ | refine aF ?_)); done) | (refine Bw rfl rfl ?_; (with_reducible repeat (first | assumption | refine oT ?_ | refine aF ?_)); done)
     · exact rfl
     · exact rfl
     · assumption
     · assumption
     · kernel_rfl
     · exact rfl
     · exact gv)
  | (with_reducible apply dFx tk
     · exact rfl
     · exact rfl
     · first | exact rfl | (refine Bx rfl rfl ?_; (with_reducible repeat (first | assumption | refine oT ?_ | refine aF ?_)); done) | (refine By rfl rfl ?_; (with_reducible repeat (first | assumption | refine oT ?_ | refine aF ?_)); done)
     · exact rfl
     · exact rfl
     · assumption
     · assumption
     · kernel_rfl
     · exact rfl)
  exact a.h):G:=s ⟨h⟩
theorem oe {G H:Prop}(i:Nat)(rs:List Nat)(h:H)(s:Tk i rs→Hd H→G:=by intro tk a; (iterate 1 (refine mS tk ?_; clear tk; intro tk)); exact a.h):G:=s ⟨⟩ ⟨h⟩
theorem gO {G H:Prop}(i:Nat)(rs:List Nat)(h:H)(s:Tk i rs→Hd H→G:=by intro tk a; (iterate 2 (refine mS tk ?_; clear tk; intro tk)); exact a.h):G:=s ⟨⟩ ⟨h⟩
theorem hJ {G H:Prop}(i:Nat)(rs:List Nat)(h:H)(s:Tk i rs→Hd H→G:=by intro tk a; (iterate 3 (refine mS tk ?_; clear tk; intro tk)); exact a.h):G:=s ⟨⟩ ⟨h⟩
theorem og {G H:Prop}(i:Nat)(rs:List Nat)(h:H)(s:Tk i rs→Hd H→G:=by intro tk a; (iterate 4 (refine mS tk ?_; clear tk; intro tk)); exact a.h):G:=s ⟨⟩ ⟨h⟩
theorem kh {G H:Prop}(i:Nat)(rs:List Nat)(h:H)(s:Tk i rs→Hd H→G:=by intro tk a; (iterate 5 (refine mS tk ?_; clear tk; intro tk)); exact a.h):G:=s ⟨⟩ ⟨h⟩
theorem r' {G H:Prop}(i:Nat)(rs:List Nat)(h:H)(s:Tk i rs→Hd H→G:=by intro tk a; (iterate 6 (refine mS tk ?_; clear tk; intro tk)); exact a.h):G:=s ⟨⟩ ⟨h⟩
theorem s6 {G H:Prop}(i:Nat)(rs:List Nat)(h:H)(s:Tk i rs→Hd H→G:=by intro tk a; (iterate 7 (refine mS tk ?_; clear tk; intro tk)); exact a.h):G:=s ⟨⟩ ⟨h⟩
theorem ua {G H:Prop}(i:Nat)(rs:List Nat)(h:H)(s:Tk i rs→Hd H→G:=by intro tk a; (iterate 8 (refine mS tk ?_; clear tk; intro tk)); exact a.h):G:=s ⟨⟩ ⟨h⟩
theorem vi {G H:Prop}(i:Nat)(rs:List Nat)(h:H)(s:Tk i rs→Hd H→G:=by intro tk a; (iterate 9 (refine mS tk ?_; clear tk; intro tk)); exact a.h):G:=s ⟨⟩ ⟨h⟩
theorem qH {G H:Prop}(i:Nat)(rs:List Nat)(h:H)(s:Tk i rs→Hd H→G:=by intro tk a; (iterate 10 (refine mS tk ?_; clear tk; intro tk)); exact a.h):G:=s ⟨⟩ ⟨h⟩
theorem oX {G H:Prop}(i:Nat)(rs:List Nat)(h:H)(s:Tk i rs→Hd H→G:=by intro tk a; (iterate 11 (refine mS tk ?_; clear tk; intro tk)); exact a.h):G:=s ⟨⟩ ⟨h⟩
theorem ub {G H:Prop}(i:Nat)(rs:List Nat)(h:H)(s:Tk i rs→Hd H→G:=by intro tk a; (iterate 12 (refine mS tk ?_; clear tk; intro tk)); exact a.h):G:=s ⟨⟩ ⟨h⟩
theorem mr {G H:Prop}(i:Nat)(rs:List Nat)(h:H)(s:Tk i rs→Hd H→G:=by intro tk a; (iterate 13 (refine mS tk ?_; clear tk; intro tk)); exact a.h):G:=s ⟨⟩ ⟨h⟩
theorem uc {G H:Prop}(i:Nat)(rs:List Nat)(h:H)(s:Tk i rs→Hd H→G:=by intro tk a; (iterate 14 (refine mS tk ?_; clear tk; intro tk)); exact a.h):G:=s ⟨⟩ ⟨h⟩
theorem ws {G H:Prop}(i:Nat)(rs:List Nat)(h:H)(s:Tk i rs→Hd H→G:=by intro tk a; (iterate 15 (refine mS tk ?_; clear tk; intro tk)); exact a.h):G:=s ⟨⟩ ⟨h⟩
theorem Ap {G H:Prop}(i:Nat)(rs:List Nat)(h:H)(s:Tk i rs→Hd H→G:=by intro tk a; (iterate 16 (refine mS tk ?_; clear tk; intro tk)); exact a.h):G:=s ⟨⟩ ⟨h⟩
theorem yf {G H:Prop}(i:Nat)(rs:List Nat)(h:H)(s:Tk i rs→Hd H→G:=by intro tk a; (iterate 17 (refine mS tk ?_; clear tk; intro tk)); exact a.h):G:=s ⟨⟩ ⟨h⟩
theorem yg {G H:Prop}(i:Nat)(rs:List Nat)(h:H)(s:Tk i rs→Hd H→G:=by intro tk a; (iterate 19 (refine mS tk ?_; clear tk; intro tk)); exact a.h):G:=s ⟨⟩ ⟨h⟩
theorem s7 {G H:Prop}(i:Nat)(rs:List Nat)(h:H)(s:Tk i rs→Hd H→G:=by intro tk a; (iterate 20 (refine mS tk ?_; clear tk; intro tk)); exact a.h):G:=s ⟨⟩ ⟨h⟩
theorem Aq {G H:Prop}(i:Nat)(rs:List Nat)(h:H)(s:Tk i rs→Hd H→G:=by intro tk a; (iterate 23 (refine mS tk ?_; clear tk; intro tk)); exact a.h):G:=s ⟨⟩ ⟨h⟩
theorem Ar {G H:Prop}(i:Nat)(rs:List Nat)(h:H)(s:Tk i rs→Hd H→G:=by intro tk a; (iterate 24 (refine mS tk ?_; clear tk; intro tk)); exact a.h):G:=s ⟨⟩ ⟨h⟩
end Go.Pg
