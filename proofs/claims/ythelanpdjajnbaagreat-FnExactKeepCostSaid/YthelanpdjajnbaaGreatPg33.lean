import Derived.Test.YthelanpdjajnbaaGreatPg22
set_option linter.unusedVariables false
namespace Go.Pg
structure Hd (H:Prop):Prop where
  h:H
class HSl (P:Program)(t:TypeId)(e:outParam TypeId):Prop where
  h:mq P t=some e
class HSz (P:Program)(t:TypeId)(z:outParam Nat):Prop where
  h:iI P t=some z
class HAg (P:Program)(t:TypeId)(b:outParam Bool):Prop where
  h:fM P t=some b
class HFo (P:Program)(S:TypeId)(f:Nat)(o:outParam Nat):Prop where
  h:dB P S f=some o
abbrev s3 (h:HH):Value:=.slice h.1 h.2.1 h.2.2
def yi (V:List HP)(q:HP):Prop:=∃ i,lk V i=q
theorem yj {V:List HP}{q:HP}:yi (q::V) q:=⟨0,rfl⟩
theorem yk {V:List HP}{p q:HP}(h:yi V q):yi (p::V) q:=h.elim fun i h=>⟨i+1,h⟩
def yG {α:Type}(V:List HP)(K:Kind α)(v:Value)(xs:List α):Prop:=∃ i,jL (lk V i) K v xs
theorem C9 {α:Type}{V:List HP}{K:Kind α}{e:Nat}{v:Value}{xs:List α}:yG (ow K e v xs::V) K v xs:=⟨0,aB⟩
theorem Ca {α:Type}{V:List HP}{K:Kind α}{v:Value}{xs:List α}:yG (aN K v xs::V) K v xs:=⟨0,aA⟩
theorem Cb {α:Type}{V:List HP}{p:HP}{K:Kind α}{v:Value}{xs:List α}(h:yG V K v xs):yG (p::V) K v xs:=h.elim fun i h=>⟨i+1,h⟩
structure Tk (i:Nat)(rs:List Nat):Prop where
section
variable {P:Program}{N:Nn}{C:World}{X:Cx}{V V0:List HP}{σ:dH}{Q:Exit→dH→World→Prop}{ops:Array Oper}{rest:List Oper}{o:Oper}{k fuel:Nat}{listed:Array Bool}
variable {d:Nat}{d':Option Nat}{op:Op}{ty:TypeId}{pos:String}{af:Array Edge}{gd:Option (Nat×Bool)}{v:Value}{x y:Code}
theorem vLn {t:TypeId}{x:Operand}{a:Option Addr}{n c:Nat}{e:TypeId}[s:HSl P t e](b:ev σ x=.slice a n c):VO ⟨P,N,C⟩ V σ ⟨d',.call ⟨.builtin .len,#[x],#[t]⟩,ty,pos,af,gd⟩ (.int .i64 n):=hY s.h b
theorem vFn {S:TypeId}{x:Operand}{f fo b k a:Nat}[s:HFo P S f fo](g:ev σ x=.pointer (some ⟨b,k,none⟩))(e:k+fo=a):VO ⟨P,N,C⟩ V σ ⟨d',.fieldAddr S x f,ty,pos,af,gd⟩ (.pointer (some ⟨b,a,none⟩)):=kI s.h g e
theorem vIn {t e:TypeId}{x y:Operand}{g o n c sz:Nat}{k:IntKind}{j:Int}[s:HSl P t e][z:HSz P e sz](a:ev σ x=.slice (some ⟨g,o,none⟩) n c)(b:ev σ y=.int k j)(h:0≤j∧j<n):VO ⟨P,N,C⟩ V σ ⟨d',.indexAddr t x y,ty,pos,af,gd⟩ (.pointer (some ⟨g,o+j.toNat*sz,none⟩)):=qf s.h z.h a b h.1 h.2
theorem vDn {T:TypeId}{x:Operand}{b k:Nat}{cs:List Value}{e:Nat}{v:Value}[s:HAg P T false](j:ev σ x=.pointer (some ⟨b,k,none⟩))(a:yi V (aJ b cs e))(g:rN cs k=some v):VO ⟨P,N,C⟩ V σ ⟨d',.load T x,ty,pos,af,gd⟩ v:=a.elim fun i a=>r' i s.h a j g
variable {z:Operand}
theorem vMI {i:IntKind}{n:Int}(h:ev σ z=.int i n):VO X V σ ⟨d',.move z,ty,pos,af,gd⟩ (.int i n):=iB (by simp only [pv,h])
theorem vMB {n:Bool}(h:ev σ z=.bool n):VO X V σ ⟨d',.move z,ty,pos,af,gd⟩ (.bool n):=iB (by simp only [pv,h])
theorem vMS {a:Option Addr}{n c:Nat}(h:ev σ z=.slice a n c):VO X V σ ⟨d',.move z,ty,pos,af,gd⟩ (.slice a n c):=iB (by simp only [pv,h])
theorem vMP {b n:Nat}(h:ev σ z=.pointer (some ⟨b,n,none⟩)):VO X V σ ⟨d',.move z,ty,pos,af,gd⟩ (.pointer (some ⟨b,n,none⟩)):=iB (by simp only [pv,h])
theorem vCI {i:IntKind}{n:Int}(h:ev σ z=.int i n):VO X V σ ⟨d',.assign z,ty,pos,af,gd⟩ (.int i n):=iB (by simp only [pv,h])
theorem vCB {n:Bool}(h:ev σ z=.bool n):VO X V σ ⟨d',.assign z,ty,pos,af,gd⟩ (.bool n):=iB (by simp only [pv,h])
theorem vCS {a:Option Addr}{n c:Nat}(h:ev σ z=.slice a n c):VO X V σ ⟨d',.assign z,ty,pos,af,gd⟩ (.slice a n c):=iB (by simp only [pv,h])
theorem vCP {b n:Nat}(h:ev σ z=.pointer (some ⟨b,n,none⟩)):VO X V σ ⟨d',.assign z,ty,pos,af,gd⟩ (.pointer (some ⟨b,n,none⟩)):=iB (by simp only [pv,h])
theorem vEn {T:TypeId}{x:Operand}{g o n c:Nat}{xs:List Int}{j:Int}[s:HAg P T false](b:ev σ x=.pointer (some ⟨g,o+j.toNat*1,none⟩))(a:yG V (Kind.int .i64) (.slice (some ⟨g,o,none⟩) n c) xs)(h:0≤j∧j<n):VO ⟨P,N,C⟩ V σ ⟨d',.load T x,ty,pos,af,gd⟩ (.int .i64 (ix xs j)):=a.elim fun i a=>gK i s.h a b h
theorem dRx {i:Nat}{rs:List Nat}(tk:Tk i rs){e:Nat}(a:fuel+1=e)(m:ops[i]?=some ⟨some d,op,ty,pos,af,gd⟩)(hw:eB ops σ ⟨some d,op,ty,pos,af,gd⟩=true)(j:iU X.n (some d)=true)(b:Nat.blt i k=true)(r:jB ops k=true)(q:Region.noSelect ops=true)(l:(Region.free .any ops listed i&&(Region.ready .any ops listed).contains i)=true)(g:rmL V rs=V0)(u:VO X V0 σ ⟨some d,op,ty,pos,af,gd⟩ v)(h:Tk (i+1) rs→TD X ops k V0 fuel (listed.setIfInBounds i true) V (kz σ d v) Q):TD X ops k V0 e listed V σ Q :=
  a▸AU i v m u hw j b r q l (fun w s=>g▸sL rs w s) (h ⟨⟩)
theorem dFx {i:Nat}{rs:List Nat}(tk:Tk i rs){e:Nat}(a:fuel+1=e)(m:ops[i]?=some ⟨some d,op,ty,pos,af,gd⟩)(hw:eB ops σ ⟨some d,op,ty,pos,af,gd⟩=false)(j:iU X.n (some d)=true)(b:Nat.blt i k=true)(r:jB ops k=true)(q:Region.noSelect ops=true)(l:(Region.free .any ops listed i&&(Region.ready .any ops listed).contains i)=true)(g:rmL V rs=V0)(h:Tk (i+1) rs→TD X ops k V0 fuel (listed.setIfInBounds i true) V (kz σ d undef) Q):TD X ops k V0 e listed V σ Q :=
  a▸yw i m hw j b r q l (fun w s=>g▸sL rs w s) (h ⟨⟩)
theorem vWn {T:TypeId}{x:Operand}{b n:Nat}{cs:List Value}{g:Nat}[s:HAg P T true][z:HSz P T n](j:ev σ x=.pointer (some ⟨b,0,none⟩))(a:yi V (aJ b cs g))(e:cs.length=n):VO ⟨P,N,C⟩ V σ ⟨d',.load T x,ty,pos,af,gd⟩ (.agg cs.toArray):=a.elim fun i a=>cO i s.h z.h a j (by rw [List.drop_zero,← e,List.take_length]) e
theorem AH {A:Type}{a:A→Value×List HP}{fn:Func}{e:Exit}(x:A)(h:∀ w,St X.C w V→St X.C w ((a x).2++V0))(b:(e=.ret∨e=.normal):=by first | exact .inl rfl | exact .inr rfl)(g:fn.results=#[]:=by exact rfl)(i:(a x).1=.tuple #[]:=by exact rfl):TQ X V σ e (ml X.P fn (rj X V0 a)):=dC (rs:=[]) (vs:=[]) b x g trivial i h
theorem jC {A:Type}{g:A→Value×List HP}{fn:Func}{e:Exit}{a b:Nat}{u v:Value}(x:A)(j:∀ w,St X.C w V→St X.C w ((g x).2++V0))(h:(e=.ret∨e=.normal):=by first | exact .inl rfl | exact .inr rfl)(i:fn.results=#[.tmp a,.tmp b]:=by exact rfl)(l:(g x).1=.tuple [u,v].toArray:=by exact rfl)(h1:σ a=u:=by exact rfl)(h2:σ b=v:=by exact rfl):TQ X V σ e (ml X.P fn (rj X V0 g)):=dC (rs:=[.tmp a,.tmp b]) (vs:=[u,v]) h x i ⟨h1,h2,trivial⟩ l j
theorem iy {A:Type}{g:A→Value×List HP}{fn:Func}{e:Exit}{a b c:Nat}{u v y:Value}(x:A)(l:∀ w,St X.C w V→St X.C w ((g x).2++V0))(i:(e=.ret∨e=.normal):=by first | exact .inl rfl | exact .inr rfl)(j:fn.results=#[.tmp a,.tmp b,.tmp c]:=by exact rfl)(m:(g x).1=.tuple [u,v,y].toArray:=by exact rfl)(h1:σ a=u:=by exact rfl)(h2:σ b=v:=by exact rfl)(h:σ c=y:=by exact rfl):TQ X V σ e (ml X.P fn (rj X V0 g)):=dC (rs:=[.tmp a,.tmp b,.tmp c]) (vs:=[u,v,y]) i x j ⟨h1,h2,h,trivial⟩ m l
theorem qS {A:Type}{g:A→Value×List HP}{fn:Func}{e:Exit}{a T b l n:Nat}{cs:List Value}(x:A)(u:∀ w,St C w V→St C w ((g x).2++V0))(q:(e=.ret∨e=.normal):=by first | exact .inl rfl | exact .inr rfl)(s:fn.results=#[.cell a T]:=by exact rfl)(m:σ a=.pointer (some ⟨b,0,none⟩):=by exact rfl)(j:yi V (aJ b cs l):=by first | (with_reducible repeat (first | exact yj | apply yk)); done | repeat (first | exact yj | apply yk))
    (B:(g x).1=.agg cs.toArray:=by exact rfl) (h1:fM P T=some true:=by exact HAg.h) (h2:iI P T=some n:=by exact HSz.h) (r:cs.length=n:=by exact rfl):TQ ⟨P,N,C⟩ V σ e (ml P fn (rj ⟨P,N,C⟩ V0 g)):=j.elim fun i j=>dC (X:=⟨P,N,C⟩) (rs:=[.cell a T]) (vs:=[.agg cs.toArray]) q x s ⟨⟨i,b,cs,l,j,m,.inl ⟨h1,by rw [r]; exact h2,rfl⟩⟩,trivial⟩ B u
theorem vA0 {c:Bool}{x y z:Operand}(a:ev σ x=.bool c)(h:c=false)(b:ev σ z=.bool false):VO X V σ ⟨d',.pick x y z,ty,pos,af,gd⟩ (.bool false):=m6 a h b rfl
theorem vO1 {c:Bool}{x y z:Operand}(a:ev σ x=.bool c)(h:c=false)(b:ev σ z=.bool true):VO X V σ ⟨d',.pick x y z,ty,pos,af,gd⟩ (.bool true):=m6 a h b rfl
theorem vT1 {c:Bool}{x y z:Operand}(a:ev σ x=.bool c)(h:c=true)(b:ev σ y=.bool true):VO X V σ ⟨d',.pick x y z,ty,pos,af,gd⟩ (.bool true):=m5 a h b rfl
theorem vA1 {c:Bool}{x y z:Operand}(a:ev σ x=.bool c)(h:c=true)(b:ev σ y=.bool false):VO X V σ ⟨d',.pick x y z,ty,pos,af,gd⟩ (.bool false):=m5 a h b rfl
theorem vN1 {x:Operand}{t:TypeId}(a:ev σ x=.bool true):VO X V σ ⟨d',.unOp .not t x,ty,pos,af,gd⟩ (.bool false):=pn a
theorem vN0 {x:Operand}{t:TypeId}(a:ev σ x=.bool false):VO X V σ ⟨d',.unOp .not t x,ty,pos,af,gd⟩ (.bool true):=pn a
theorem oF {a b:Bool}(h:a=false)(g:b=false):(a||b)=false:=by rw [h,g]; rfl
theorem aT {a b:Bool}(h:a=true)(g:b=true):(a&&b)=true:=by rw [h,g]; rfl
theorem oT2 {a b:Bool}(g:b=true):(a||b)=true:=by rw [g]; cases a<;>rfl
theorem aF2 {a b:Bool}(g:b=false):(a&&b)=false:=by rw [g]; cases a<;>rfl
theorem nT {a:Bool}(h:a=false):(!a)=true:=by rw [h]; rfl
theorem nF {a:Bool}(h:a=true):(!a)=false:=by rw [h]; rfl
theorem bTr {t:Nat}{E:Bool}(h:E=true)(a:σ t=.bool true):σ t=.bool E:=by rw [a,h]
theorem bFa {t:Nat}{E:Bool}(h:E=false)(a:σ t=.bool false):σ t=.bool E:=by rw [a,h]
theorem qj {b:List (Nat×Value)}{a:List HP}(h2:∀ w,St X.C w V→St X.C w a)(h1:lb σ b:=by
    first
    | exact aS R
    | (repeat' (first
        | exact trivial
        | (refine ⟨?_,?_⟩
           · first
             | exact rfl
             | (refine bTr ?_ rfl
                with_reducible repeat' (first | assumption | exact oT (by assumption) | exact oT2 (by assumption) | refine aT ?_ ?_ | refine nT ?_ | exact oT (oT (by assumption)) | refine oT ?_))
             | (refine bFa ?_ rfl
                with_reducible repeat' (first | assumption | exact aF (by assumption) | exact aF2 (by assumption) | refine oF ?_ ?_ | refine nF ?_ | exact aF (aF (by assumption)) | refine aF ?_)))))):TQ X V σ .normal (iA (Jn X (fun _:Unit×Unit=>True) (fun _=>b) (fun _=>a)) Q):=cU ((),()) trivial h1 h2
theorem sE {k:Operand}{b:Bool}(e:ev σ k=.bool b)(a:¬ b=true)(h:TC X V σ y Q):TC X V σ (.cond k x y) Q:=bG e (by simpa using a) h
theorem Cc {j:Nat}{c:Bool}(h:o.guard=some (j,true))(a:l6 ops σ j=some c)(e:c=true):eB ops σ o=true:=l' h a e
theorem Cd {j:Nat}{c:Bool}(h:o.guard=some (j,false))(a:l6 ops σ j=some c)(e:c=false):eB ops σ o=true:=l' h a e
theorem Ce {j:Nat}{c:Bool}(h:o.guard=some (j,false))(a:l6 ops σ j=some c)(e:c=true):eB ops σ o=false:=kB h a e
theorem Cf {j:Nat}{c:Bool}(h:o.guard=some (j,true))(a:l6 ops σ j=some c)(e:c=false):eB ops σ o=false:=kB h a e
theorem lOx (hw:eB ops σ ⟨some d,op,ty,pos,af,gd⟩=true)(a:iU X.n (some d)=true)(b:VO X V σ ⟨some d,op,ty,pos,af,gd⟩ v)(h:TL X ops V (kz σ d v) rest Q):TL X ops V σ (⟨some d,op,ty,pos,af,gd⟩::rest) Q:=sk v b hw a h
theorem lfx (hw:eB ops σ o=false)(a:iU X.n o.dst=true)(h:TL X ops V (gH σ o.dst undef) rest Q):TL X ops V σ (o::rest) Q:=vK a hw h
theorem tI:∀ w,St C w V→St C w V:=fun _ s=>s
theorem tE (n:Nat)(is:List Nat)(h:pm n is=true:=by exact rfl)(a:yf n V=true:=by exact rfl):∀ w,St C w V→St C w (is.map (lk V)++dp n V):=fun _ s=>s.sel n is h a
end
theorem gv {X:Cx}{V:List HP}{σ:dH}{o:Oper}{v:Value}(h:VO X V σ o v:=by
  first
  | ((with_reducible apply vMI); exact rfl)
  | ((with_reducible apply vMS); exact rfl)
  | ((with_reducible apply vMB); exact rfl)
  | ((with_reducible apply vMP); exact rfl)
  | ((with_reducible apply vCI); exact rfl)
  | ((with_reducible apply vCS); exact rfl)
  | ((with_reducible apply vCB); exact rfl)
  | ((with_reducible apply vCP); exact rfl)
  | ((with_reducible apply jt)<;>exact rfl)
  | ((with_reducible apply n0)<;>exact rfl)
  | ((with_reducible apply uv)<;>exact rfl)
  | ((with_reducible apply AG)<;>exact rfl)
  | ((with_reducible apply wO)<;>exact rfl)
  | ((with_reducible apply C8)<;>exact rfl)
  | ((with_reducible apply lR)<;>exact rfl)
  | ((with_reducible apply wP)<;>exact rfl)
  | ((with_reducible apply rO)<;>exact rfl)
  | ((with_reducible apply vLn); exact rfl)
  | ((with_reducible apply vFn)<;>exact rfl)
  | (with_reducible apply vIn
     · exact rfl
     · exact rfl
     · first | with_reducible assumption | assumption)
  | (with_reducible apply vDn
     · exact rfl
     · first | (with_reducible repeat (first | exact yj | apply yk)); done | repeat (first | exact yj | apply yk)
     · exact rfl)
  | (with_reducible apply vEn
     · exact rfl
     · first | (with_reducible repeat (first | exact C9 | exact Ca | apply Cb)); done | repeat (first | exact C9 | exact Ca | apply Cb)
     · first | with_reducible assumption | assumption)
  | (with_reducible apply vWn
     · exact rfl
     · first | (with_reducible repeat (first | exact yj | apply yk)); done | repeat (first | exact yj | apply yk)
     · exact rfl)
  | ((with_reducible apply vN1); exact rfl)
  | ((with_reducible apply vN0); exact rfl)
  | ((with_reducible apply pn); exact rfl)
  | (with_reducible apply vA0
     · exact rfl
     · with_reducible repeat (first | assumption | refine oT ?_ | refine aF ?_)
     · exact rfl)
  | (with_reducible apply vO1
     · exact rfl
     · with_reducible repeat (first | assumption | refine oT ?_ | refine aF ?_)
     · exact rfl)
  | (with_reducible apply vT1
     · exact rfl
     · with_reducible repeat (first | assumption | refine oT ?_ | refine aF ?_)
     · exact rfl)
  | (with_reducible apply vA1
     · exact rfl
     · with_reducible repeat (first | assumption | refine oT ?_ | refine aF ?_)
     · exact rfl)
  | (with_reducible apply fS
     · exact rfl
     · with_reducible repeat (first | assumption | refine oT ?_ | refine aF ?_)
     · exact rfl)
  | (with_reducible apply iC
     · exact rfl
     · with_reducible repeat (first | assumption | refine oT ?_ | refine aF ?_)
     · exact rfl)
  | exact vI rfl
  | exact vB rfl
  | exact vS rfl
  | exact vP rfl):VO X V σ o v:=h
theorem bX {G H:Prop}(h:H)(s:Hd H→G:=by
  intro zz
  first
  | with_reducible refine aK ?_
  | with_reducible refine aC ?_
  | with_reducible refine aG ?_
  | with_reducible refine aD ?_
  | (with_reducible apply lOx
     · first | exact rfl | (refine Cc rfl rfl ?_; (with_reducible repeat (first | assumption | refine oT ?_ | refine aF ?_)); done) | (refine Cd rfl rfl ?_; (with_reducible repeat (first | assumption | refine oT ?_ | refine aF ?_)); done)
     · exact rfl
     · exact gv)
  | (with_reducible apply lfx
     · first | exact rfl | (refine Ce rfl rfl ?_; (with_reducible repeat (first | assumption | refine oT ?_ | refine aF ?_)); done) | (refine Cf rfl rfl ?_; (with_reducible repeat (first | assumption | refine oT ?_ | refine aF ?_)); done)
     · exact rfl)
  | with_reducible refine dJ ?_
  | with_reducible refine cF ?_
  | with_reducible refine gA ?_
  | with_reducible refine bY ?_
  | with_reducible refine dY ?_
  | with_reducible refine eX ?_
  | with_reducible refine dN ?_
  | with_reducible refine cG ?_
  | with_reducible refine dL ?_
  | (with_reducible apply bV
     · exact rfl
     · first | with_reducible assumption | assumption)
  | (with_reducible apply sE
     · exact rfl
     · first | with_reducible assumption | assumption)
  | (with_reducible apply bG
     · exact rfl
     · first | with_reducible assumption | assumption)
  exact zz.h):G:=s ⟨h⟩
theorem aU {G H:Prop}(h:H)(s:Hd H→G:=by intro zz; (iterate 2 (refine bX ?_)); exact zz.h):G:=s ⟨h⟩
theorem aQ {G H:Prop}(h:H)(s:Hd H→G:=by intro zz; (iterate 3 (refine bX ?_)); exact zz.h):G:=s ⟨h⟩
theorem bI {G H:Prop}(h:H)(s:Hd H→G:=by intro zz; (iterate 4 (refine bX ?_)); exact zz.h):G:=s ⟨h⟩
theorem cI {G H:Prop}(h:H)(s:Hd H→G:=by intro zz; (iterate 5 (refine bX ?_)); exact zz.h):G:=s ⟨h⟩
theorem bW {G H:Prop}(h:H)(s:Hd H→G:=by intro zz; (iterate 6 (refine bX ?_)); exact zz.h):G:=s ⟨h⟩
theorem dU {G H:Prop}(h:H)(s:Hd H→G:=by intro zz; (iterate 7 (refine bX ?_)); exact zz.h):G:=s ⟨h⟩
theorem dI {G H:Prop}(h:H)(s:Hd H→G:=by intro zz; (iterate 8 (refine bX ?_)); exact zz.h):G:=s ⟨h⟩
theorem dA {G H:Prop}(h:H)(s:Hd H→G:=by intro zz; (iterate 9 (refine bX ?_)); exact zz.h):G:=s ⟨h⟩
theorem dG {G H:Prop}(h:H)(s:Hd H→G:=by intro zz; (iterate 10 (refine bX ?_)); exact zz.h):G:=s ⟨h⟩
theorem iD {G H:Prop}(h:H)(s:Hd H→G:=by intro zz; (iterate 11 (refine bX ?_)); exact zz.h):G:=s ⟨h⟩
theorem iM {G H:Prop}(h:H)(s:Hd H→G:=by intro zz; (iterate 12 (refine bX ?_)); exact zz.h):G:=s ⟨h⟩
theorem kh {G H:Prop}(h:H)(s:Hd H→G:=by intro zz; (iterate 13 (refine bX ?_)); exact zz.h):G:=s ⟨h⟩
theorem nI {G H:Prop}(h:H)(s:Hd H→G:=by intro zz; (iterate 14 (refine bX ?_)); exact zz.h):G:=s ⟨h⟩
theorem ov {G H:Prop}(h:H)(s:Hd H→G:=by intro zz; (iterate 15 (refine bX ?_)); exact zz.h):G:=s ⟨h⟩
theorem wV {G H:Prop}(h:H)(s:Hd H→G:=by intro zz; (iterate 16 (refine bX ?_)); exact zz.h):G:=s ⟨h⟩
theorem pq {G H:Prop}(h:H)(s:Hd H→G:=by intro zz; (iterate 17 (refine bX ?_)); exact zz.h):G:=s ⟨h⟩
theorem yH {G H:Prop}(h:H)(s:Hd H→G:=by intro zz; (iterate 18 (refine bX ?_)); exact zz.h):G:=s ⟨h⟩
theorem B0 {G H:Prop}(h:H)(s:Hd H→G:=by intro zz; (iterate 19 (refine bX ?_)); exact zz.h):G:=s ⟨h⟩
theorem yI {G H:Prop}(h:H)(s:Hd H→G:=by intro zz; (iterate 20 (refine bX ?_)); exact zz.h):G:=s ⟨h⟩
theorem sF {G H:Prop}(h:H)(s:Hd H→G:=by intro zz; (iterate 21 (refine bX ?_)); exact zz.h):G:=s ⟨h⟩
theorem yJ {G H:Prop}(h:H)(s:Hd H→G:=by intro zz; (iterate 22 (refine bX ?_)); exact zz.h):G:=s ⟨h⟩
theorem B1 {G H:Prop}(h:H)(s:Hd H→G:=by intro zz; (iterate 24 (refine bX ?_)); exact zz.h):G:=s ⟨h⟩
theorem wW {G H:Prop}(h:H)(s:Hd H→G:=by intro zz; (iterate 31 (refine bX ?_)); exact zz.h):G:=s ⟨h⟩
theorem mz {G H:Prop}{i:Nat}{rs:List Nat}(tk:Tk i rs)(h:H)(s:Hd H→G:=by
  intro zz
  first
  | (with_reducible apply dRx tk
     · exact rfl
     · exact rfl
     · first | exact rfl | (refine Cc rfl rfl ?_; (with_reducible repeat (first | assumption | refine oT ?_ | refine aF ?_)); done) | (refine Cd rfl rfl ?_; (with_reducible repeat (first | assumption | refine oT ?_ | refine aF ?_)); done)
     · exact rfl
     · exact rfl
     · assumption
     · assumption
     · kernel_rfl
     · exact rfl
     · exact gv)
  | (with_reducible apply dFx tk
     · exact rfl
     · exact rfl
     · first | exact rfl | (refine Ce rfl rfl ?_; (with_reducible repeat (first | assumption | refine oT ?_ | refine aF ?_)); done) | (refine Cf rfl rfl ?_; (with_reducible repeat (first | assumption | refine oT ?_ | refine aF ?_)); done)
     · exact rfl
     · exact rfl
     · assumption
     · assumption
     · kernel_rfl
     · exact rfl)
  exact zz.h):G:=s ⟨h⟩
theorem n6 {G H:Prop}(i:Nat)(rs:List Nat)(h:H)(s:Tk i rs→Hd H→G:=by intro tk zz; (iterate 1 (refine mz tk ?_; clear tk; intro tk)); exact zz.h):G:=s ⟨⟩ ⟨h⟩
theorem gZ {G H:Prop}(i:Nat)(rs:List Nat)(h:H)(s:Tk i rs→Hd H→G:=by intro tk zz; (iterate 2 (refine mz tk ?_; clear tk; intro tk)); exact zz.h):G:=s ⟨⟩ ⟨h⟩
theorem iz {G H:Prop}(i:Nat)(rs:List Nat)(h:H)(s:Tk i rs→Hd H→G:=by intro tk zz; (iterate 3 (refine mz tk ?_; clear tk; intro tk)); exact zz.h):G:=s ⟨⟩ ⟨h⟩
theorem oy {G H:Prop}(i:Nat)(rs:List Nat)(h:H)(s:Tk i rs→Hd H→G:=by intro tk zz; (iterate 4 (refine mz tk ?_; clear tk; intro tk)); exact zz.h):G:=s ⟨⟩ ⟨h⟩
theorem ko {G H:Prop}(i:Nat)(rs:List Nat)(h:H)(s:Tk i rs→Hd H→G:=by intro tk zz; (iterate 5 (refine mz tk ?_; clear tk; intro tk)); exact zz.h):G:=s ⟨⟩ ⟨h⟩
theorem sG {G H:Prop}(i:Nat)(rs:List Nat)(h:H)(s:Tk i rs→Hd H→G:=by intro tk zz; (iterate 6 (refine mz tk ?_; clear tk; intro tk)); exact zz.h):G:=s ⟨⟩ ⟨h⟩
theorem rP {G H:Prop}(i:Nat)(rs:List Nat)(h:H)(s:Tk i rs→Hd H→G:=by intro tk zz; (iterate 7 (refine mz tk ?_; clear tk; intro tk)); exact zz.h):G:=s ⟨⟩ ⟨h⟩
theorem uA {G H:Prop}(i:Nat)(rs:List Nat)(h:H)(s:Tk i rs→Hd H→G:=by intro tk zz; (iterate 8 (refine mz tk ?_; clear tk; intro tk)); exact zz.h):G:=s ⟨⟩ ⟨h⟩
theorem vO {G H:Prop}(i:Nat)(rs:List Nat)(h:H)(s:Tk i rs→Hd H→G:=by intro tk zz; (iterate 9 (refine mz tk ?_; clear tk; intro tk)); exact zz.h):G:=s ⟨⟩ ⟨h⟩
theorem oz {G H:Prop}(i:Nat)(rs:List Nat)(h:H)(s:Tk i rs→Hd H→G:=by intro tk zz; (iterate 10 (refine mz tk ?_; clear tk; intro tk)); exact zz.h):G:=s ⟨⟩ ⟨h⟩
theorem oA {G H:Prop}(i:Nat)(rs:List Nat)(h:H)(s:Tk i rs→Hd H→G:=by intro tk zz; (iterate 11 (refine mz tk ?_; clear tk; intro tk)); exact zz.h):G:=s ⟨⟩ ⟨h⟩
theorem uB {G H:Prop}(i:Nat)(rs:List Nat)(h:H)(s:Tk i rs→Hd H→G:=by intro tk zz; (iterate 12 (refine mz tk ?_; clear tk; intro tk)); exact zz.h):G:=s ⟨⟩ ⟨h⟩
theorem mA {G H:Prop}(i:Nat)(rs:List Nat)(h:H)(s:Tk i rs→Hd H→G:=by intro tk zz; (iterate 13 (refine mz tk ?_; clear tk; intro tk)); exact zz.h):G:=s ⟨⟩ ⟨h⟩
theorem uC {G H:Prop}(i:Nat)(rs:List Nat)(h:H)(s:Tk i rs→Hd H→G:=by intro tk zz; (iterate 14 (refine mz tk ?_; clear tk; intro tk)); exact zz.h):G:=s ⟨⟩ ⟨h⟩
theorem wX {G H:Prop}(i:Nat)(rs:List Nat)(h:H)(s:Tk i rs→Hd H→G:=by intro tk zz; (iterate 15 (refine mz tk ?_; clear tk; intro tk)); exact zz.h):G:=s ⟨⟩ ⟨h⟩
theorem B2 {G H:Prop}(i:Nat)(rs:List Nat)(h:H)(s:Tk i rs→Hd H→G:=by intro tk zz; (iterate 16 (refine mz tk ?_; clear tk; intro tk)); exact zz.h):G:=s ⟨⟩ ⟨h⟩
theorem yK {G H:Prop}(i:Nat)(rs:List Nat)(h:H)(s:Tk i rs→Hd H→G:=by intro tk zz; (iterate 17 (refine mz tk ?_; clear tk; intro tk)); exact zz.h):G:=s ⟨⟩ ⟨h⟩
theorem yL {G H:Prop}(i:Nat)(rs:List Nat)(h:H)(s:Tk i rs→Hd H→G:=by intro tk zz; (iterate 19 (refine mz tk ?_; clear tk; intro tk)); exact zz.h):G:=s ⟨⟩ ⟨h⟩
theorem sH {G H:Prop}(i:Nat)(rs:List Nat)(h:H)(s:Tk i rs→Hd H→G:=by intro tk zz; (iterate 20 (refine mz tk ?_; clear tk; intro tk)); exact zz.h):G:=s ⟨⟩ ⟨h⟩
theorem B3 {G H:Prop}(i:Nat)(rs:List Nat)(h:H)(s:Tk i rs→Hd H→G:=by intro tk zz; (iterate 22 (refine mz tk ?_; clear tk; intro tk)); exact zz.h):G:=s ⟨⟩ ⟨h⟩
theorem B4 {G H:Prop}(i:Nat)(rs:List Nat)(h:H)(s:Tk i rs→Hd H→G:=by intro tk zz; (iterate 23 (refine mz tk ?_; clear tk; intro tk)); exact zz.h):G:=s ⟨⟩ ⟨h⟩
theorem yM {G H:Prop}(i:Nat)(rs:List Nat)(h:H)(s:Tk i rs→Hd H→G:=by intro tk zz; (iterate 24 (refine mz tk ?_; clear tk; intro tk)); exact zz.h):G:=s ⟨⟩ ⟨h⟩
theorem wY {G H:Prop}(i:Nat)(rs:List Nat)(h:H)(s:Tk i rs→Hd H→G:=by intro tk zz; (iterate 30 (refine mz tk ?_; clear tk; intro tk)); exact zz.h):G:=s ⟨⟩ ⟨h⟩
end Go.Pg
