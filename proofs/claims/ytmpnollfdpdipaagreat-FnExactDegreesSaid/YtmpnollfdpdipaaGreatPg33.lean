import Derived.Test.YtmpnollfdpdipaaGreatPg20
set_option linter.unusedVariables false
namespace Go.Pg
structure Hd (H:Prop):Prop where
  h:H
class HSl (P:Program)(t:TypeId)(e:outParam TypeId):Prop where
  h:li P t=some e
class HSz (P:Program)(t:TypeId)(z:outParam Nat):Prop where
  h:hK P t=some z
class HAg (P:Program)(t:TypeId)(b:outParam Bool):Prop where
  h:eX P t=some b
class HFo (P:Program)(S:TypeId)(f:Nat)(o:outParam Nat):Prop where
  h:cW P S f=some o
abbrev s3 (h:HH):Value:=.slice h.1 h.2.1 h.2.2
def xU (V:List HP)(q:HP):Prop:=∃ i,lk V i=q
theorem xV {V:List HP}{q:HP}:xU (q::V) q:=⟨0,rfl⟩
theorem xW {V:List HP}{p q:HP}(h:xU V q):xU (p::V) q:=h.elim fun i h=>⟨i+1,h⟩
def ym {α:Type}(V:List HP)(K:Kind α)(v:Value)(xs:List α):Prop:=∃ i,jC (lk V i) K v xs
theorem BH {α:Type}{V:List HP}{K:Kind α}{e:Nat}{v:Value}{xs:List α}:ym (ow K e v xs::V) K v xs:=⟨0,aB⟩
theorem BI {α:Type}{V:List HP}{K:Kind α}{v:Value}{xs:List α}:ym (aN K v xs::V) K v xs:=⟨0,aA⟩
theorem BJ {α:Type}{V:List HP}{p:HP}{K:Kind α}{v:Value}{xs:List α}(h:ym V K v xs):ym (p::V) K v xs:=h.elim fun i h=>⟨i+1,h⟩
structure Tk (i:Nat)(rs:List Nat):Prop where
section
variable {P:Program}{N:Nn}{C:World}{X:Cx}{V V0:List HP}{σ:cZ}{Q:Exit→cZ→World→Prop}{ops:Array Oper}{rest:List Oper}{o:Oper}{k fuel:Nat}{listed:Array Bool}
variable {d:Nat}{d':Option Nat}{op:Op}{ty:TypeId}{pos:String}{af:Array Edge}{gd:Option (Nat×Bool)}{v:Value}{x y:Code}
theorem vLn {t:TypeId}{x:Operand}{a:Option Addr}{n c:Nat}{e:TypeId}[s:HSl P t e](b:ev σ x=.slice a n c):VO ⟨P,N,C⟩ V σ ⟨d',.call ⟨.builtin .len,#[x],#[t]⟩,ty,pos,af,gd⟩ (.int .i64 n):=kc s.h b
theorem vFn {S:TypeId}{x:Operand}{f fo b k a:Nat}[s:HFo P S f fo](g:ev σ x=.pointer (some ⟨b,k,none⟩))(e:k+fo=a):VO ⟨P,N,C⟩ V σ ⟨d',.fieldAddr S x f,ty,pos,af,gd⟩ (.pointer (some ⟨b,a,none⟩)):=jf s.h g e
theorem vIn {t e:TypeId}{x y:Operand}{g o n c sz:Nat}{k:IntKind}{j:Int}[s:HSl P t e][z:HSz P e sz](b:ev σ x=.slice (some ⟨g,o,none⟩) n c)(a:ev σ y=.int k j)(h:0≤j∧j<n):VO ⟨P,N,C⟩ V σ ⟨d',.indexAddr t x y,ty,pos,af,gd⟩ (.pointer (some ⟨g,o+j.toNat*sz,none⟩)):=pU s.h z.h b a h.1 h.2
theorem vDn {T:TypeId}{x:Operand}{b k:Nat}{cs:List Value}{g:Nat}{v:Value}[s:HAg P T false](j:ev σ x=.pointer (some ⟨b,k,none⟩))(a:xU V (aJ b cs g))(e:qO cs k=some v):VO ⟨P,N,C⟩ V σ ⟨d',.load T x,ty,pos,af,gd⟩ v:=a.elim fun i a=>rL i s.h a j e
variable {z:Operand}
theorem vMI {i:IntKind}{n:Int}(h:ev σ z=.int i n):VO X V σ ⟨d',.move z,ty,pos,af,gd⟩ (.int i n):=iw (by simp only [pv,h])
theorem vMB {n:Bool}(h:ev σ z=.bool n):VO X V σ ⟨d',.move z,ty,pos,af,gd⟩ (.bool n):=iw (by simp only [pv,h])
theorem vMS {a:Option Addr}{n c:Nat}(h:ev σ z=.slice a n c):VO X V σ ⟨d',.move z,ty,pos,af,gd⟩ (.slice a n c):=iw (by simp only [pv,h])
theorem vMP {b n:Nat}(h:ev σ z=.pointer (some ⟨b,n,none⟩)):VO X V σ ⟨d',.move z,ty,pos,af,gd⟩ (.pointer (some ⟨b,n,none⟩)):=iw (by simp only [pv,h])
theorem vCI {i:IntKind}{n:Int}(h:ev σ z=.int i n):VO X V σ ⟨d',.assign z,ty,pos,af,gd⟩ (.int i n):=iw (by simp only [pv,h])
theorem vCB {n:Bool}(h:ev σ z=.bool n):VO X V σ ⟨d',.assign z,ty,pos,af,gd⟩ (.bool n):=iw (by simp only [pv,h])
theorem vCS {a:Option Addr}{n c:Nat}(h:ev σ z=.slice a n c):VO X V σ ⟨d',.assign z,ty,pos,af,gd⟩ (.slice a n c):=iw (by simp only [pv,h])
theorem vCP {b n:Nat}(h:ev σ z=.pointer (some ⟨b,n,none⟩)):VO X V σ ⟨d',.assign z,ty,pos,af,gd⟩ (.pointer (some ⟨b,n,none⟩)):=iw (by simp only [pv,h])
theorem vEn {T:TypeId}{x:Operand}{g o n c:Nat}{xs:List Int}{j:Int}[s:HAg P T false](b:ev σ x=.pointer (some ⟨g,o+j.toNat*1,none⟩))(a:ym V (Kind.int .i64) (.slice (some ⟨g,o,none⟩) n c) xs)(h:0≤j∧j<n):VO ⟨P,N,C⟩ V σ ⟨d',.load T x,ty,pos,af,gd⟩ (.int .i64 (ix xs j)):=a.elim fun i a=>gO i s.h a b h
theorem dRx {i:Nat}{rs:List Nat}(tk:Tk i rs){e:Nat}(b:fuel+1=e)(m:ops[i]?=some ⟨some d,op,ty,pos,af,gd⟩)(hw:dP ops σ ⟨some d,op,ty,pos,af,gd⟩=true)(l:iD X.n (some d)=true)(a:Nat.blt i k=true)(q:jx ops k=true)(g:Region.noSelect ops=true)(u:(Region.free .any ops listed i&&(Region.ready .any ops listed).contains i)=true)(r:rmL V rs=V0)(j:VO X V0 σ ⟨some d,op,ty,pos,af,gd⟩ v)(h:Tk (i+1) rs→TD X ops k V0 fuel (listed.setIfInBounds i true) V (ku σ d v) Q):TD X ops k V0 e listed V σ Q :=
  b▸Au i v m j hw l a q g u (fun w s=>r▸sL rs w s) (h ⟨⟩)
theorem dFx {i:Nat}{rs:List Nat}(tk:Tk i rs){e:Nat}(b:fuel+1=e)(l:ops[i]?=some ⟨some d,op,ty,pos,af,gd⟩)(hw:dP ops σ ⟨some d,op,ty,pos,af,gd⟩=false)(j:iD X.n (some d)=true)(a:Nat.blt i k=true)(m:jx ops k=true)(g:Region.noSelect ops=true)(r:(Region.free .any ops listed i&&(Region.ready .any ops listed).contains i)=true)(q:rmL V rs=V0)(h:Tk (i+1) rs→TD X ops k V0 fuel (listed.setIfInBounds i true) V (ku σ d undef) Q):TD X ops k V0 e listed V σ Q :=
  b▸y9 i l hw j a m g r (fun w s=>q▸sL rs w s) (h ⟨⟩)
theorem vWn {T:TypeId}{x:Operand}{b n:Nat}{cs:List Value}{g:Nat}[s:HAg P T true][z:HSz P T n](j:ev σ x=.pointer (some ⟨b,0,none⟩))(a:xU V (aJ b cs g))(e:cs.length=n):VO ⟨P,N,C⟩ V σ ⟨d',.load T x,ty,pos,af,gd⟩ (.agg cs.toArray):=a.elim fun i a=>dT i s.h z.h a j (by rw [List.drop_zero,← e,List.take_length]) e
theorem Aj {A:Type}{a:A→Value×List HP}{fn:Func}{e:Exit}(x:A)(b:∀ w,St X.C w V→St X.C w ((a x).2++V0))(g:(e=.ret∨e=.normal):=by first | exact .inl rfl | exact .inr rfl)(h:fn.results=#[]:=by exact rfl)(i:(a x).1=.tuple #[]:=by exact rfl):TQ X V σ e (m8 X.P fn (qR X V0 a)):=dI (rs:=[]) (vs:=[]) g x h trivial i b
theorem jD {A:Type}{g:A→Value×List HP}{fn:Func}{e:Exit}{a b:Nat}{u v:Value}(x:A)(h:∀ w,St X.C w V→St X.C w ((g x).2++V0))(i:(e=.ret∨e=.normal):=by first | exact .inl rfl | exact .inr rfl)(j:fn.results=#[.tmp a,.tmp b]:=by exact rfl)(l:(g x).1=.tuple [u,v].toArray:=by exact rfl)(h1:σ a=u:=by exact rfl)(h2:σ b=v:=by exact rfl):TQ X V σ e (m8 X.P fn (qR X V0 g)):=dI (rs:=[.tmp a,.tmp b]) (vs:=[u,v]) i x j ⟨h1,h2,trivial⟩ l h
theorem hW {A:Type}{g:A→Value×List HP}{fn:Func}{e:Exit}{a b c:Nat}{u v y:Value}(x:A)(h:∀ w,St X.C w V→St X.C w ((g x).2++V0))(j:(e=.ret∨e=.normal):=by first | exact .inl rfl | exact .inr rfl)(i:fn.results=#[.tmp a,.tmp b,.tmp c]:=by exact rfl)(m:(g x).1=.tuple [u,v,y].toArray:=by exact rfl)(h1:σ a=u:=by exact rfl)(h2:σ b=v:=by exact rfl)(l:σ c=y:=by exact rfl):TQ X V σ e (m8 X.P fn (qR X V0 g)):=dI (rs:=[.tmp a,.tmp b,.tmp c]) (vs:=[u,v,y]) j x i ⟨h1,h2,l,trivial⟩ m h
theorem qS {A:Type}{g:A→Value×List HP}{fn:Func}{e:Exit}{a T b l n:Nat}{cs:List Value}(x:A)(m:∀ w,St C w V→St C w ((g x).2++V0))(u:(e=.ret∨e=.normal):=by first | exact .inl rfl | exact .inr rfl)(q:fn.results=#[.cell a T]:=by exact rfl)(r:σ a=.pointer (some ⟨b,0,none⟩):=by exact rfl)(j:xU V (aJ b cs l):=by first | (with_reducible repeat (first | exact xV | apply xW)); done | repeat (first | exact xV | apply xW))
    (B:(g x).1=.agg cs.toArray:=by exact rfl) (h1:eX P T=some true:=by exact HAg.h) (h2:hK P T=some n:=by exact HSz.h) (s:cs.length=n:=by exact rfl):TQ ⟨P,N,C⟩ V σ e (m8 P fn (qR ⟨P,N,C⟩ V0 g)):=j.elim fun i j=>dI (X:=⟨P,N,C⟩) (rs:=[.cell a T]) (vs:=[.agg cs.toArray]) u x q ⟨⟨i,b,cs,l,j,r,.inl ⟨h1,by rw [s]; exact h2,rfl⟩⟩,trivial⟩ B m
theorem vA0 {c:Bool}{x y z:Operand}(b:ev σ x=.bool c)(h:c=false)(a:ev σ z=.bool false):VO X V σ ⟨d',.pick x y z,ty,pos,af,gd⟩ (.bool false):=lT b h a rfl
theorem vO1 {c:Bool}{x y z:Operand}(b:ev σ x=.bool c)(h:c=false)(a:ev σ z=.bool true):VO X V σ ⟨d',.pick x y z,ty,pos,af,gd⟩ (.bool true):=lT b h a rfl
theorem vT1 {c:Bool}{x y z:Operand}(b:ev σ x=.bool c)(h:c=true)(a:ev σ y=.bool true):VO X V σ ⟨d',.pick x y z,ty,pos,af,gd⟩ (.bool true):=lR b h a rfl
theorem vA1 {c:Bool}{x y z:Operand}(b:ev σ x=.bool c)(h:c=true)(a:ev σ y=.bool false):VO X V σ ⟨d',.pick x y z,ty,pos,af,gd⟩ (.bool false):=lR b h a rfl
theorem vN1 {x:Operand}{t:TypeId}(a:ev σ x=.bool true):VO X V σ ⟨d',.unOp .not t x,ty,pos,af,gd⟩ (.bool false):=rZ a
theorem vN0 {x:Operand}{t:TypeId}(a:ev σ x=.bool false):VO X V σ ⟨d',.unOp .not t x,ty,pos,af,gd⟩ (.bool true):=rZ a
theorem oF {a b:Bool}(h:a=false)(g:b=false):(a||b)=false:=by rw [h,g]; rfl
theorem aT {a b:Bool}(h:a=true)(g:b=true):(a&&b)=true:=by rw [h,g]; rfl
theorem oT2 {a b:Bool}(g:b=true):(a||b)=true:=by rw [g]; cases a<;>rfl
theorem aF2 {a b:Bool}(g:b=false):(a&&b)=false:=by rw [g]; cases a<;>rfl
theorem nT {a:Bool}(h:a=false):(!a)=true:=by rw [h]; rfl
theorem nF {a:Bool}(h:a=true):(!a)=false:=by rw [h]; rfl
theorem bTr {t:Nat}{E:Bool}(h:E=true)(a:σ t=.bool true):σ t=.bool E:=by rw [a,h]
theorem bFa {t:Nat}{E:Bool}(h:E=false)(a:σ t=.bool false):σ t=.bool E:=by rw [a,h]
theorem qj {a:List (Nat×Value)}{b:List HP}(h2:∀ w,St X.C w V→St X.C w b)(h1:l2 σ a:=by
    first
    | exact aS R
    | (repeat' (first
        | exact trivial
        | (refine ⟨?_,?_⟩
           · first
             | exact rfl
             | (refine bTr ?_ rfl
                with_reducible repeat' (first | assumption | exact oT (by assumption) | exact oT2 (by assumption) | refine aT ?_ ?_ | refine nT ?_ | exact oT (oT (by assumption)) | refine oT ?_))
             | (refine bFa ?_ rfl
                with_reducible repeat' (first | assumption | exact aF (by assumption) | exact aF2 (by assumption) | refine oF ?_ ?_ | refine nF ?_ | exact aF (aF (by assumption)) | refine aF ?_)))))):TQ X V σ .normal (iu (Jn X (fun _:Unit×Unit=>True) (fun _=>a) (fun _=>b)) Q):=cS ((),()) trivial h1 h2
theorem se {k:Operand}{b:Bool}(a:ev σ k=.bool b)(e:¬ b=true)(h:TC X V σ y Q):TC X V σ (.cond k x y) Q:=bM a (by simpa using e) h
theorem BK {j:Nat}{c:Bool}(h:o.guard=some (j,true))(a:kX ops σ j=some c)(e:c=true):dP ops σ o=true:=lL h a e
theorem BL {j:Nat}{c:Bool}(h:o.guard=some (j,false))(a:kX ops σ j=some c)(e:c=false):dP ops σ o=true:=lL h a e
theorem BM {j:Nat}{c:Bool}(h:o.guard=some (j,false))(a:kX ops σ j=some c)(e:c=true):dP ops σ o=false:=ky h a e
theorem BN {j:Nat}{c:Bool}(h:o.guard=some (j,true))(a:kX ops σ j=some c)(e:c=false):dP ops σ o=false:=ky h a e
theorem lOx (hw:dP ops σ ⟨some d,op,ty,pos,af,gd⟩=true)(b:iD X.n (some d)=true)(a:VO X V σ ⟨some d,op,ty,pos,af,gd⟩ v)(h:TL X ops V (ku σ d v) rest Q):TL X ops V σ (⟨some d,op,ty,pos,af,gd⟩::rest) Q:=rT v a hw b h
theorem lfx (hw:dP ops σ o=false)(a:iD X.n o.dst=true)(h:TL X ops V (fV σ o.dst undef) rest Q):TL X ops V σ (o::rest) Q:=vl a hw h
theorem tI:∀ w,St C w V→St C w V:=fun _ s=>s
theorem tE (n:Nat)(is:List Nat)(h:pa n is=true:=by exact rfl)(a:xR n V=true:=by exact rfl):∀ w,St C w V→St C w (is.map (lk V)++dp n V):=fun _ s=>s.sel n is h a
end
theorem gv {X:Cx}{V:List HP}{σ:cZ}{o:Oper}{v:Value}(h:VO X V σ o v:=by
  first
  | ((with_reducible apply vMI); exact rfl)
  | ((with_reducible apply vMS); exact rfl)
  | ((with_reducible apply vMB); exact rfl)
  | ((with_reducible apply vMP); exact rfl)
  | ((with_reducible apply vCI); exact rfl)
  | ((with_reducible apply vCS); exact rfl)
  | ((with_reducible apply vCB); exact rfl)
  | ((with_reducible apply vCP); exact rfl)
  | ((with_reducible apply kW)<;>exact rfl)
  | ((with_reducible apply mZ)<;>exact rfl)
  | ((with_reducible apply wu)<;>exact rfl)
  | ((with_reducible apply Ai)<;>exact rfl)
  | ((with_reducible apply yf)<;>exact rfl)
  | ((with_reducible apply vLe)<;>exact rfl)
  | ((with_reducible apply ly)<;>exact rfl)
  | ((with_reducible apply BG)<;>exact rfl)
  | ((with_reducible apply rB)<;>exact rfl)
  | ((with_reducible apply vLn); exact rfl)
  | ((with_reducible apply vFn)<;>exact rfl)
  | (with_reducible apply vIn
     · exact rfl
     · exact rfl
     · first | with_reducible assumption | assumption)
  | (with_reducible apply vDn
     · exact rfl
     · first | (with_reducible repeat (first | exact xV | apply xW)); done | repeat (first | exact xV | apply xW)
     · exact rfl)
  | (with_reducible apply vEn
     · exact rfl
     · first | (with_reducible repeat (first | exact BH | exact BI | apply BJ)); done | repeat (first | exact BH | exact BI | apply BJ)
     · first | with_reducible assumption | assumption)
  | (with_reducible apply vWn
     · exact rfl
     · first | (with_reducible repeat (first | exact xV | apply xW)); done | repeat (first | exact xV | apply xW)
     · exact rfl)
  | ((with_reducible apply vN1); exact rfl)
  | ((with_reducible apply vN0); exact rfl)
  | ((with_reducible apply rZ); exact rfl)
  | (with_reducible apply vA0
     · exact rfl
     · with_reducible repeat (first | assumption | refine oT ?_ | refine aF ?_)
     · exact rfl)
  | (with_reducible apply vO1
     · exact rfl
     · with_reducible repeat (first | assumption | refine oT ?_ | refine aF ?_)
     · exact rfl)
  | (with_reducible apply vT1
     · exact rfl
     · with_reducible repeat (first | assumption | refine oT ?_ | refine aF ?_)
     · exact rfl)
  | (with_reducible apply vA1
     · exact rfl
     · with_reducible repeat (first | assumption | refine oT ?_ | refine aF ?_)
     · exact rfl)
  | (with_reducible apply fU
     · exact rfl
     · with_reducible repeat (first | assumption | refine oT ?_ | refine aF ?_)
     · exact rfl)
  | (with_reducible apply iV
     · exact rfl
     · with_reducible repeat (first | assumption | refine oT ?_ | refine aF ?_)
     · exact rfl)
  | exact vI rfl
  | exact vB rfl
  | exact vS rfl
  | exact vP rfl):VO X V σ o v:=h
theorem bU {G H:Prop}(h:H)(s:Hd H→G:=by
  intro a
  first
  | with_reducible refine aO ?_
  | with_reducible refine aC ?_
  | with_reducible refine aI ?_
  | with_reducible refine aE ?_
  | (with_reducible apply lOx
     · first | exact rfl | (refine BK rfl rfl ?_; (with_reducible repeat (first | assumption | refine oT ?_ | refine aF ?_)); done) | (refine BL rfl rfl ?_; (with_reducible repeat (first | assumption | refine oT ?_ | refine aF ?_)); done)
     · exact rfl
     · exact gv)
  | (with_reducible apply lfx
     · first | exact rfl | (refine BM rfl rfl ?_; (with_reducible repeat (first | assumption | refine oT ?_ | refine aF ?_)); done) | (refine BN rfl rfl ?_; (with_reducible repeat (first | assumption | refine oT ?_ | refine aF ?_)); done)
     · exact rfl)
  | with_reducible refine dJ ?_
  | with_reducible refine dE ?_
  | with_reducible refine hJ ?_
  | with_reducible refine bY ?_
  | with_reducible refine eD ?_
  | with_reducible refine fX ?_
  | with_reducible refine dY ?_
  | with_reducible refine cF ?_
  | with_reducible refine dC ?_
  | (with_reducible apply cC
     · exact rfl
     · first | with_reducible assumption | assumption)
  | (with_reducible apply se
     · exact rfl
     · first | with_reducible assumption | assumption)
  | (with_reducible apply bM
     · exact rfl
     · first | with_reducible assumption | assumption)
  exact a.h):G:=s ⟨h⟩
theorem aU {G H:Prop}(h:H)(s:Hd H→G:=by intro a; (iterate 2 (refine bU ?_)); exact a.h):G:=s ⟨h⟩
theorem aP {G H:Prop}(h:H)(s:Hd H→G:=by intro a; (iterate 3 (refine bU ?_)); exact a.h):G:=s ⟨h⟩
theorem bG {G H:Prop}(h:H)(s:Hd H→G:=by intro a; (iterate 4 (refine bU ?_)); exact a.h):G:=s ⟨h⟩
theorem bZ {G H:Prop}(h:H)(s:Hd H→G:=by intro a; (iterate 5 (refine bU ?_)); exact a.h):G:=s ⟨h⟩
theorem bT {G H:Prop}(h:H)(s:Hd H→G:=by intro a; (iterate 6 (refine bU ?_)); exact a.h):G:=s ⟨h⟩
theorem dG {G H:Prop}(h:H)(s:Hd H→G:=by intro a; (iterate 7 (refine bU ?_)); exact a.h):G:=s ⟨h⟩
theorem cV {G H:Prop}(h:H)(s:Hd H→G:=by intro a; (iterate 8 (refine bU ?_)); exact a.h):G:=s ⟨h⟩
theorem cU {G H:Prop}(h:H)(s:Hd H→G:=by intro a; (iterate 9 (refine bU ?_)); exact a.h):G:=s ⟨h⟩
theorem cP {G H:Prop}(h:H)(s:Hd H→G:=by intro a; (iterate 10 (refine bU ?_)); exact a.h):G:=s ⟨h⟩
theorem hN {G H:Prop}(h:H)(s:Hd H→G:=by intro a; (iterate 11 (refine bU ?_)); exact a.h):G:=s ⟨h⟩
theorem hH {G H:Prop}(h:H)(s:Hd H→G:=by intro a; (iterate 12 (refine bU ?_)); exact a.h):G:=s ⟨h⟩
theorem kj {G H:Prop}(h:H)(s:Hd H→G:=by intro a; (iterate 13 (refine bU ?_)); exact a.h):G:=s ⟨h⟩
theorem oi {G H:Prop}(h:H)(s:Hd H→G:=by intro a; (iterate 14 (refine bU ?_)); exact a.h):G:=s ⟨h⟩
theorem oj {G H:Prop}(h:H)(s:Hd H→G:=by intro a; (iterate 15 (refine bU ?_)); exact a.h):G:=s ⟨h⟩
theorem wA {G H:Prop}(h:H)(s:Hd H→G:=by intro a; (iterate 16 (refine bU ?_)); exact a.h):G:=s ⟨h⟩
theorem om {G H:Prop}(h:H)(s:Hd H→G:=by intro a; (iterate 17 (refine bU ?_)); exact a.h):G:=s ⟨h⟩
theorem yn {G H:Prop}(h:H)(s:Hd H→G:=by intro a; (iterate 18 (refine bU ?_)); exact a.h):G:=s ⟨h⟩
theorem AA {G H:Prop}(h:H)(s:Hd H→G:=by intro a; (iterate 19 (refine bU ?_)); exact a.h):G:=s ⟨h⟩
theorem AB {G H:Prop}(h:H)(s:Hd H→G:=by intro a; (iterate 20 (refine bU ?_)); exact a.h):G:=s ⟨h⟩
theorem uf {G H:Prop}(h:H)(s:Hd H→G:=by intro a; (iterate 21 (refine bU ?_)); exact a.h):G:=s ⟨h⟩
theorem yo {G H:Prop}(h:H)(s:Hd H→G:=by intro a; (iterate 22 (refine bU ?_)); exact a.h):G:=s ⟨h⟩
theorem yp {G H:Prop}(h:H)(s:Hd H→G:=by intro a; (iterate 24 (refine bU ?_)); exact a.h):G:=s ⟨h⟩
theorem wB {G H:Prop}(h:H)(s:Hd H→G:=by intro a; (iterate 31 (refine bU ?_)); exact a.h):G:=s ⟨h⟩
theorem mQ {G H:Prop}{i:Nat}{rs:List Nat}(tk:Tk i rs)(h:H)(s:Hd H→G:=by
  intro a
  first
  | (with_reducible apply dRx tk
     · exact rfl
     · exact rfl
     · first | exact rfl | (refine BK rfl rfl ?_; (with_reducible repeat (first | assumption | refine oT ?_ | refine aF ?_)); done) | (refine BL rfl rfl ?_; (with_reducible repeat (first | assumption | refine oT ?_ | refine aF ?_)); done)
     · exact rfl
     · exact rfl
     · assumption
     · assumption
     · kernel_rfl
     · exact rfl
     · exact gv)
  | (with_reducible apply dFx tk
     · exact rfl
     · exact rfl
     · first | exact rfl | (refine BM rfl rfl ?_; (with_reducible repeat (first | assumption | refine oT ?_ | refine aF ?_)); done) | (refine BN rfl rfl ?_; (with_reducible repeat (first | assumption | refine oT ?_ | refine aF ?_)); done)
     · exact rfl
     · exact rfl
     · assumption
     · assumption
     · kernel_rfl
     · exact rfl)
  exact a.h):G:=s ⟨h⟩
theorem oo {G H:Prop}(i:Nat)(rs:List Nat)(h:H)(s:Tk i rs→Hd H→G:=by intro tk a; (iterate 1 (refine mQ tk ?_; clear tk; intro tk)); exact a.h):G:=s ⟨⟩ ⟨h⟩
theorem gR {G H:Prop}(i:Nat)(rs:List Nat)(h:H)(s:Tk i rs→Hd H→G:=by intro tk a; (iterate 2 (refine mQ tk ?_; clear tk; intro tk)); exact a.h):G:=s ⟨⟩ ⟨h⟩
theorem hX {G H:Prop}(i:Nat)(rs:List Nat)(h:H)(s:Tk i rs→Hd H→G:=by intro tk a; (iterate 3 (refine mQ tk ?_; clear tk; intro tk)); exact a.h):G:=s ⟨⟩ ⟨h⟩
theorem oq {G H:Prop}(i:Nat)(rs:List Nat)(h:H)(s:Tk i rs→Hd H→G:=by intro tk a; (iterate 4 (refine mQ tk ?_; clear tk; intro tk)); exact a.h):G:=s ⟨⟩ ⟨h⟩
theorem kk {G H:Prop}(i:Nat)(rs:List Nat)(h:H)(s:Tk i rs→Hd H→G:=by intro tk a; (iterate 5 (refine mQ tk ?_; clear tk; intro tk)); exact a.h):G:=s ⟨⟩ ⟨h⟩
theorem sf {G H:Prop}(i:Nat)(rs:List Nat)(h:H)(s:Tk i rs→Hd H→G:=by intro tk a; (iterate 6 (refine mQ tk ?_; clear tk; intro tk)); exact a.h):G:=s ⟨⟩ ⟨h⟩
theorem sg {G H:Prop}(i:Nat)(rs:List Nat)(h:H)(s:Tk i rs→Hd H→G:=by intro tk a; (iterate 7 (refine mQ tk ?_; clear tk; intro tk)); exact a.h):G:=s ⟨⟩ ⟨h⟩
theorem ug {G H:Prop}(i:Nat)(rs:List Nat)(h:H)(s:Tk i rs→Hd H→G:=by intro tk a; (iterate 8 (refine mQ tk ?_; clear tk; intro tk)); exact a.h):G:=s ⟨⟩ ⟨h⟩
theorem vr {G H:Prop}(i:Nat)(rs:List Nat)(h:H)(s:Tk i rs→Hd H→G:=by intro tk a; (iterate 9 (refine mQ tk ?_; clear tk; intro tk)); exact a.h):G:=s ⟨⟩ ⟨h⟩
theorem qV {G H:Prop}(i:Nat)(rs:List Nat)(h:H)(s:Tk i rs→Hd H→G:=by intro tk a; (iterate 10 (refine mQ tk ?_; clear tk; intro tk)); exact a.h):G:=s ⟨⟩ ⟨h⟩
theorem pc {G H:Prop}(i:Nat)(rs:List Nat)(h:H)(s:Tk i rs→Hd H→G:=by intro tk a; (iterate 11 (refine mQ tk ?_; clear tk; intro tk)); exact a.h):G:=s ⟨⟩ ⟨h⟩
theorem uh {G H:Prop}(i:Nat)(rs:List Nat)(h:H)(s:Tk i rs→Hd H→G:=by intro tk a; (iterate 12 (refine mQ tk ?_; clear tk; intro tk)); exact a.h):G:=s ⟨⟩ ⟨h⟩
theorem ml {G H:Prop}(i:Nat)(rs:List Nat)(h:H)(s:Tk i rs→Hd H→G:=by intro tk a; (iterate 13 (refine mQ tk ?_; clear tk; intro tk)); exact a.h):G:=s ⟨⟩ ⟨h⟩
theorem uk {G H:Prop}(i:Nat)(rs:List Nat)(h:H)(s:Tk i rs→Hd H→G:=by intro tk a; (iterate 14 (refine mQ tk ?_; clear tk; intro tk)); exact a.h):G:=s ⟨⟩ ⟨h⟩
theorem wC {G H:Prop}(i:Nat)(rs:List Nat)(h:H)(s:Tk i rs→Hd H→G:=by intro tk a; (iterate 15 (refine mQ tk ?_; clear tk; intro tk)); exact a.h):G:=s ⟨⟩ ⟨h⟩
theorem AC {G H:Prop}(i:Nat)(rs:List Nat)(h:H)(s:Tk i rs→Hd H→G:=by intro tk a; (iterate 16 (refine mQ tk ?_; clear tk; intro tk)); exact a.h):G:=s ⟨⟩ ⟨h⟩
theorem yq {G H:Prop}(i:Nat)(rs:List Nat)(h:H)(s:Tk i rs→Hd H→G:=by intro tk a; (iterate 17 (refine mQ tk ?_; clear tk; intro tk)); exact a.h):G:=s ⟨⟩ ⟨h⟩
theorem yr {G H:Prop}(i:Nat)(rs:List Nat)(h:H)(s:Tk i rs→Hd H→G:=by intro tk a; (iterate 19 (refine mQ tk ?_; clear tk; intro tk)); exact a.h):G:=s ⟨⟩ ⟨h⟩
theorem sh {G H:Prop}(i:Nat)(rs:List Nat)(h:H)(s:Tk i rs→Hd H→G:=by intro tk a; (iterate 20 (refine mQ tk ?_; clear tk; intro tk)); exact a.h):G:=s ⟨⟩ ⟨h⟩
theorem AD {G H:Prop}(i:Nat)(rs:List Nat)(h:H)(s:Tk i rs→Hd H→G:=by intro tk a; (iterate 23 (refine mQ tk ?_; clear tk; intro tk)); exact a.h):G:=s ⟨⟩ ⟨h⟩
theorem AE {G H:Prop}(i:Nat)(rs:List Nat)(h:H)(s:Tk i rs→Hd H→G:=by intro tk a; (iterate 24 (refine mQ tk ?_; clear tk; intro tk)); exact a.h):G:=s ⟨⟩ ⟨h⟩
end Go.Pg
