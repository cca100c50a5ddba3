import Derived.Test.YtmpnollfdpdipaaGreatPg20
set_option linter.unusedVariables false
namespace Go.Pg
structure Hd (H:Prop):Prop where
  h:H
class HSl (P:Program)(t:TypeId)(e:outParam TypeId):Prop where
  h:lv P t=some e
class HSz (P:Program)(t:TypeId)(z:outParam Nat):Prop where
  h:hN P t=some z
class HAg (P:Program)(t:TypeId)(b:outParam Bool):Prop where
  h:eX P t=some b
class HFo (P:Program)(S:TypeId)(f:Nat)(o:outParam Nat):Prop where
  h:cV P S f=some o
abbrev s3 (h:HH):Value:=.slice h.1 h.2.1 h.2.2
def y3 (V:List HP)(q:HP):Prop:=∃ i,lk V i=q
theorem y5 {V:List HP}{q:HP}:y3 (q::V) q:=⟨0,rfl⟩
theorem y6 {V:List HP}{p q:HP}(h:y3 V q):y3 (p::V) q:=h.elim fun i h=>⟨i+1,h⟩
def yv {α:Type}(V:List HP)(K:Kind α)(v:Value)(xs:List α):Prop:=∃ i,jN (lk V i) K v xs
theorem BK {α:Type}{V:List HP}{K:Kind α}{e:Nat}{v:Value}{xs:List α}:yv (ow K e v xs::V) K v xs:=⟨0,aB⟩
theorem BL {α:Type}{V:List HP}{K:Kind α}{v:Value}{xs:List α}:yv (aO K v xs::V) K v xs:=⟨0,aA⟩
theorem BM {α:Type}{V:List HP}{p:HP}{K:Kind α}{v:Value}{xs:List α}(h:yv V K v xs):yv (p::V) K v xs:=h.elim fun i h=>⟨i+1,h⟩
structure Tk (i:Nat)(rs:List Nat):Prop where
section
variable {P:Program}{N:Nn}{C:World}{X:Cx}{V V0:List HP}{σ:dA}{Q:Exit→dA→World→Prop}{ops:Array Oper}{rest:List Oper}{o:Oper}{k fuel:Nat}{listed:Array Bool}
variable {d:Nat}{d':Option Nat}{op:Op}{ty:TypeId}{pos:String}{af:Array Edge}{gd:Option (Nat×Bool)}{v:Value}{x y:Code}
theorem vLn {t:TypeId}{x:Operand}{a:Option Addr}{n c:Nat}{e:TypeId}[s:HSl P t e](b:ev σ x=.slice a n c):VO ⟨P,N,C⟩ V σ ⟨d',.call ⟨.builtin .len,#[x],#[t]⟩,ty,pos,af,gd⟩ (.int .i64 n):=jG s.h b
theorem vFn {S:TypeId}{x:Operand}{f fo b k a:Nat}[s:HFo P S f fo](g:ev σ x=.pointer (some ⟨b,k,none⟩))(e:k+fo=a):VO ⟨P,N,C⟩ V σ ⟨d',.fieldAddr S x f,ty,pos,af,gd⟩ (.pointer (some ⟨b,a,none⟩)):=j4 s.h g e
theorem vIn {t e:TypeId}{x y:Operand}{g o n c sz:Nat}{k:IntKind}{j:Int}[s:HSl P t e][z:HSz P e sz](a:ev σ x=.slice (some ⟨g,o,none⟩) n c)(b:ev σ y=.int k j)(h:0≤j∧j<n):VO ⟨P,N,C⟩ V σ ⟨d',.indexAddr t x y,ty,pos,af,gd⟩ (.pointer (some ⟨g,o+j.toNat*sz,none⟩)):=q8 s.h z.h a b h.1 h.2
theorem vDn {T:TypeId}{x:Operand}{b k:Nat}{cs:List Value}{j:Nat}{v:Value}[s:HAg P T false](g:ev σ x=.pointer (some ⟨b,k,none⟩))(a:y3 V (aJ b cs j))(e:qW cs k=some v):VO ⟨P,N,C⟩ V σ ⟨d',.load T x,ty,pos,af,gd⟩ v:=a.elim fun i a=>rU i s.h a g e
variable {z:Operand}
theorem vMI {i:IntKind}{n:Int}(h:ev σ z=.int i n):VO X V σ ⟨d',.move z,ty,pos,af,gd⟩ (.int i n):=iA (by simp only [pv,h])
theorem vMB {n:Bool}(h:ev σ z=.bool n):VO X V σ ⟨d',.move z,ty,pos,af,gd⟩ (.bool n):=iA (by simp only [pv,h])
theorem vMS {a:Option Addr}{n c:Nat}(h:ev σ z=.slice a n c):VO X V σ ⟨d',.move z,ty,pos,af,gd⟩ (.slice a n c):=iA (by simp only [pv,h])
theorem vMP {b n:Nat}(h:ev σ z=.pointer (some ⟨b,n,none⟩)):VO X V σ ⟨d',.move z,ty,pos,af,gd⟩ (.pointer (some ⟨b,n,none⟩)):=iA (by simp only [pv,h])
theorem vCI {i:IntKind}{n:Int}(h:ev σ z=.int i n):VO X V σ ⟨d',.assign z,ty,pos,af,gd⟩ (.int i n):=iA (by simp only [pv,h])
theorem vCB {n:Bool}(h:ev σ z=.bool n):VO X V σ ⟨d',.assign z,ty,pos,af,gd⟩ (.bool n):=iA (by simp only [pv,h])
theorem vCS {a:Option Addr}{n c:Nat}(h:ev σ z=.slice a n c):VO X V σ ⟨d',.assign z,ty,pos,af,gd⟩ (.slice a n c):=iA (by simp only [pv,h])
theorem vCP {b n:Nat}(h:ev σ z=.pointer (some ⟨b,n,none⟩)):VO X V σ ⟨d',.assign z,ty,pos,af,gd⟩ (.pointer (some ⟨b,n,none⟩)):=iA (by simp only [pv,h])
theorem vEn {T:TypeId}{x:Operand}{g o n c:Nat}{xs:List Int}{j:Int}[s:HAg P T false](b:ev σ x=.pointer (some ⟨g,o+j.toNat*1,none⟩))(a:yv V (Kind.int .i64) (.slice (some ⟨g,o,none⟩) n c) xs)(h:0≤j∧j<n):VO ⟨P,N,C⟩ V σ ⟨d',.load T x,ty,pos,af,gd⟩ (.int .i64 (ix xs j)):=a.elim fun i a=>gP i s.h a b h
theorem dRx {i:Nat}{rs:List Nat}(tk:Tk i rs){e:Nat}(a:fuel+1=e)(j:ops[i]?=some ⟨some d,op,ty,pos,af,gd⟩)(hw:dS ops σ ⟨some d,op,ty,pos,af,gd⟩=true)(g:iH X.n (some d)=true)(b:Nat.blt i k=true)(q:jH ops k=true)(l:Region.noSelect ops=true)(u:(Region.free .any ops listed i&&(Region.ready .any ops listed).contains i)=true)(m:rmL V rs=V0)(r:VO X V0 σ ⟨some d,op,ty,pos,af,gd⟩ v)(h:Tk (i+1) rs→TD X ops k V0 fuel (listed.setIfInBounds i true) V (kB σ d v) Q):TD X ops k V0 e listed V σ Q :=
  a▸AB i v j r hw g b q l u (fun w s=>m▸sL rs w s) (h ⟨⟩)
theorem dFx {i:Nat}{rs:List Nat}(tk:Tk i rs){e:Nat}(a:fuel+1=e)(j:ops[i]?=some ⟨some d,op,ty,pos,af,gd⟩)(hw:dS ops σ ⟨some d,op,ty,pos,af,gd⟩=false)(g:iH X.n (some d)=true)(b:Nat.blt i k=true)(q:jH ops k=true)(l:Region.noSelect ops=true)(r:(Region.free .any ops listed i&&(Region.ready .any ops listed).contains i)=true)(m:rmL V rs=V0)(h:Tk (i+1) rs→TD X ops k V0 fuel (listed.setIfInBounds i true) V (kB σ d undef) Q):TD X ops k V0 e listed V σ Q :=
  a▸yh i j hw g b q l r (fun w s=>m▸sL rs w s) (h ⟨⟩)
theorem vWn {T:TypeId}{x:Operand}{b n:Nat}{cs:List Value}{j:Nat}[s:HAg P T true][z:HSz P T n](g:ev σ x=.pointer (some ⟨b,0,none⟩))(a:y3 V (aJ b cs j))(e:cs.length=n):VO ⟨P,N,C⟩ V σ ⟨d',.load T x,ty,pos,af,gd⟩ (.agg cs.toArray):=a.elim fun i a=>dJ i s.h z.h a g (by rw [List.drop_zero,← e,List.take_length]) e
theorem Ap {A:Type}{a:A→Value×List HP}{fn:Func}{e:Exit}(x:A)(b:∀ w,St X.C w V→St X.C w ((a x).2++V0))(g:(e=.ret∨e=.normal):=by first | exact .inl rfl | exact .inr rfl)(h:fn.results=#[]:=by exact rfl)(i:(a x).1=.tuple #[]:=by exact rfl):TQ X V σ e (mh X.P fn (qY X V0 a)):=dI (rs:=[]) (vs:=[]) g x h trivial i b
theorem jO {A:Type}{g:A→Value×List HP}{fn:Func}{e:Exit}{a b:Nat}{u v:Value}(x:A)(h:∀ w,St X.C w V→St X.C w ((g x).2++V0))(i:(e=.ret∨e=.normal):=by first | exact .inl rfl | exact .inr rfl)(j:fn.results=#[.tmp a,.tmp b]:=by exact rfl)(l:(g x).1=.tuple [u,v].toArray:=by exact rfl)(h1:σ a=u:=by exact rfl)(h2:σ b=v:=by exact rfl):TQ X V σ e (mh X.P fn (qY X V0 g)):=dI (rs:=[.tmp a,.tmp b]) (vs:=[u,v]) i x j ⟨h1,h2,trivial⟩ l h
theorem iu {A:Type}{g:A→Value×List HP}{fn:Func}{e:Exit}{a b c:Nat}{u v y:Value}(x:A)(l:∀ w,St X.C w V→St X.C w ((g x).2++V0))(i:(e=.ret∨e=.normal):=by first | exact .inl rfl | exact .inr rfl)(j:fn.results=#[.tmp a,.tmp b,.tmp c]:=by exact rfl)(m:(g x).1=.tuple [u,v,y].toArray:=by exact rfl)(h1:σ a=u:=by exact rfl)(h2:σ b=v:=by exact rfl)(h:σ c=y:=by exact rfl):TQ X V σ e (mh X.P fn (qY X V0 g)):=dI (rs:=[.tmp a,.tmp b,.tmp c]) (vs:=[u,v,y]) i x j ⟨h1,h2,h,trivial⟩ m l
theorem qS {A:Type}{g:A→Value×List HP}{fn:Func}{e:Exit}{a T b l n:Nat}{cs:List Value}(x:A)(s:∀ w,St C w V→St C w ((g x).2++V0))(q:(e=.ret∨e=.normal):=by first | exact .inl rfl | exact .inr rfl)(r:fn.results=#[.cell a T]:=by exact rfl)(m:σ a=.pointer (some ⟨b,0,none⟩):=by exact rfl)(j:y3 V (aJ b cs l):=by first | (with_reducible repeat (first | exact y5 | apply y6)); done | repeat (first | exact y5 | apply y6))
    (B:(g x).1=.agg cs.toArray:=by exact rfl) (h1:eX P T=some true:=by exact HAg.h) (h2:hN P T=some n:=by exact HSz.h) (u:cs.length=n:=by exact rfl):TQ ⟨P,N,C⟩ V σ e (mh P fn (qY ⟨P,N,C⟩ V0 g)):=j.elim fun i j=>dI (X:=⟨P,N,C⟩) (rs:=[.cell a T]) (vs:=[.agg cs.toArray]) q x r ⟨⟨i,b,cs,l,j,m,.inl ⟨h1,by rw [u]; exact h2,rfl⟩⟩,trivial⟩ B s
theorem vA0 {c:Bool}{x y z:Operand}(a:ev σ x=.bool c)(h:c=false)(b:ev σ z=.bool false):VO X V σ ⟨d',.pick x y z,ty,pos,af,gd⟩ (.bool false):=m6 a h b rfl
theorem vO1 {c:Bool}{x y z:Operand}(a:ev σ x=.bool c)(h:c=false)(b:ev σ z=.bool true):VO X V σ ⟨d',.pick x y z,ty,pos,af,gd⟩ (.bool true):=m6 a h b rfl
theorem vT1 {c:Bool}{x y z:Operand}(a:ev σ x=.bool c)(h:c=true)(b:ev σ y=.bool true):VO X V σ ⟨d',.pick x y z,ty,pos,af,gd⟩ (.bool true):=m5 a h b rfl
theorem vA1 {c:Bool}{x y z:Operand}(a:ev σ x=.bool c)(h:c=true)(b:ev σ y=.bool false):VO X V σ ⟨d',.pick x y z,ty,pos,af,gd⟩ (.bool false):=m5 a h b rfl
theorem vN1 {x:Operand}{t:TypeId}(a:ev σ x=.bool true):VO X V σ ⟨d',.unOp .not t x,ty,pos,af,gd⟩ (.bool false):=rJ a
theorem vN0 {x:Operand}{t:TypeId}(a:ev σ x=.bool false):VO X V σ ⟨d',.unOp .not t x,ty,pos,af,gd⟩ (.bool true):=rJ a
theorem oF {a b:Bool}(h:a=false)(g:b=false):(a||b)=false:=by rw [h,g]; rfl
theorem aT {a b:Bool}(h:a=true)(g:b=true):(a&&b)=true:=by rw [h,g]; rfl
theorem oT2 {a b:Bool}(g:b=true):(a||b)=true:=by rw [g]; cases a<;>rfl
theorem aF2 {a b:Bool}(g:b=false):(a&&b)=false:=by rw [g]; cases a<;>rfl
theorem nT {a:Bool}(h:a=false):(!a)=true:=by rw [h]; rfl
theorem nF {a:Bool}(h:a=true):(!a)=false:=by rw [h]; rfl
theorem bTr {t:Nat}{E:Bool}(h:E=true)(a:σ t=.bool true):σ t=.bool E:=by rw [a,h]
theorem bFa {t:Nat}{E:Bool}(h:E=false)(a:σ t=.bool false):σ t=.bool E:=by rw [a,h]
theorem qj {b:List (Nat×Value)}{a:List HP}(h2:∀ w,St X.C w V→St X.C w a)(h1:l9 σ b:=by
    first
    | exact aS R
    | (repeat' (first
        | exact trivial
        | (refine ⟨?_,?_⟩
           · first
             | exact rfl
             | (refine bTr ?_ rfl
                with_reducible repeat' (first | assumption | exact oT (by assumption) | exact oT2 (by assumption) | refine aT ?_ ?_ | refine nT ?_ | exact oT (oT (by assumption)) | refine oT ?_))
             | (refine bFa ?_ rfl
                with_reducible repeat' (first | assumption | exact aF (by assumption) | exact aF2 (by assumption) | refine oF ?_ ?_ | refine nF ?_ | exact aF (aF (by assumption)) | refine aF ?_)))))):TQ X V σ .normal (iz (Jn X (fun _:Unit×Unit=>True) (fun _=>b) (fun _=>a)) Q):=cR ((),()) trivial h1 h2
theorem sq {k:Operand}{b:Bool}(e:ev σ k=.bool b)(a:¬ b=true)(h:TC X V σ y Q):TC X V σ (.cond k x y) Q:=bJ e (by simpa using a) h
theorem BN {j:Nat}{c:Bool}(h:o.guard=some (j,true))(a:l6 ops σ j=some c)(e:c=true):dS ops σ o=true:=lZ h a e
theorem BO {j:Nat}{c:Bool}(h:o.guard=some (j,false))(a:l6 ops σ j=some c)(e:c=false):dS ops σ o=true:=lZ h a e
theorem BP {j:Nat}{c:Bool}(h:o.guard=some (j,false))(a:l6 ops σ j=some c)(e:c=true):dS ops σ o=false:=kE h a e
theorem BQ {j:Nat}{c:Bool}(h:o.guard=some (j,true))(a:l6 ops σ j=some c)(e:c=false):dS ops σ o=false:=kE h a e
theorem lOx (hw:dS ops σ ⟨some d,op,ty,pos,af,gd⟩=true)(a:iH X.n (some d)=true)(b:VO X V σ ⟨some d,op,ty,pos,af,gd⟩ v)(h:TL X ops V (kB σ d v) rest Q):TL X ops V σ (⟨some d,op,ty,pos,af,gd⟩::rest) Q:=s7 v b hw a h
theorem lfx (hw:dS ops σ o=false)(a:iH X.n o.dst=true)(h:TL X ops V (fW σ o.dst undef) rest Q):TL X ops V σ (o::rest) Q:=vw a hw h
theorem tI:∀ w,St C w V→St C w V:=fun _ s=>s
theorem tE (n:Nat)(is:List Nat)(h:ph n is=true:=by exact rfl)(a:xY n V=true:=by exact rfl):∀ w,St C w V→St C w (is.map (lk V)++dp n V):=fun _ s=>s.sel n is h a
end
theorem gv {X:Cx}{V:List HP}{σ:dA}{o:Oper}{v:Value}(h:VO X V σ o v:=by
  first
  | ((with_reducible apply vMI); exact rfl)
  | ((with_reducible apply vMS); exact rfl)
  | ((with_reducible apply vMB); exact rfl)
  | ((with_reducible apply vMP); exact rfl)
  | ((with_reducible apply vCI); exact rfl)
  | ((with_reducible apply vCS); exact rfl)
  | ((with_reducible apply vCB); exact rfl)
  | ((with_reducible apply vCP); exact rfl)
  | ((with_reducible apply kK)<;>exact rfl)
  | ((with_reducible apply mW)<;>exact rfl)
  | ((with_reducible apply wB)<;>exact rfl)
  | ((with_reducible apply Ao)<;>exact rfl)
  | ((with_reducible apply yo)<;>exact rfl)
  | ((with_reducible apply vLe)<;>exact rfl)
  | ((with_reducible apply lK)<;>exact rfl)
  | ((with_reducible apply BJ)<;>exact rfl)
  | ((with_reducible apply rI)<;>exact rfl)
  | ((with_reducible apply vLn); exact rfl)
  | ((with_reducible apply vFn)<;>exact rfl)
  | (with_reducible apply vIn
     · exact rfl
     · exact rfl
     · first | with_reducible assumption | assumption)
  | (with_reducible apply vDn
     · exact rfl
     · first | (with_reducible repeat (first | exact y5 | apply y6)); done | repeat (first | exact y5 | apply y6)
     · exact rfl)
  | (with_reducible apply vEn
     · exact rfl
     · first | (with_reducible repeat (first | exact BK | exact BL | apply BM)); done | repeat (first | exact BK | exact BL | apply BM)
     · first | with_reducible assumption | assumption)
  | (with_reducible apply vWn
     · exact rfl
     · first | (with_reducible repeat (first | exact y5 | apply y6)); done | repeat (first | exact y5 | apply y6)
     · exact rfl)
  | ((with_reducible apply vN1); exact rfl)
  | ((with_reducible apply vN0); exact rfl)
  | ((with_reducible apply rJ); exact rfl)
  | (with_reducible apply vA0
     · exact rfl
     · with_reducible repeat (first | assumption | refine oT ?_ | refine aF ?_)
     · exact rfl)
  | (with_reducible apply vO1
     · exact rfl
     · with_reducible repeat (first | assumption | refine oT ?_ | refine aF ?_)
     · exact rfl)
  | (with_reducible apply vT1
     · exact rfl
     · with_reducible repeat (first | assumption | refine oT ?_ | refine aF ?_)
     · exact rfl)
  | (with_reducible apply vA1
     · exact rfl
     · with_reducible repeat (first | assumption | refine oT ?_ | refine aF ?_)
     · exact rfl)
  | (with_reducible apply fT
     · exact rfl
     · with_reducible repeat (first | assumption | refine oT ?_ | refine aF ?_)
     · exact rfl)
  | (with_reducible apply j5
     · exact rfl
     · with_reducible repeat (first | assumption | refine oT ?_ | refine aF ?_)
     · exact rfl)
  | exact vI rfl
  | exact vB rfl
  | exact vS rfl
  | exact vP rfl):VO X V σ o v:=h
theorem bT {G H:Prop}(h:H)(s:Hd H→G:=by
  intro a
  first
  | with_reducible refine aM ?_
  | with_reducible refine aC ?_
  | with_reducible refine aI ?_
  | with_reducible refine aE ?_
  | (with_reducible apply lOx
     · first | exact rfl | (refine BN rfl rfl ?_; (with_reducible repeat (first | assumption | refine oT ?_ | refine aF ?_)); done) | (refine BO rfl rfl ?_; (with_reducible repeat (first | assumption | refine oT ?_ | refine aF ?_)); done)
     · exact rfl
     · exact gv)
  | (with_reducible apply lfx
     · first | exact rfl | (refine BP rfl rfl ?_; (with_reducible repeat (first | assumption | refine oT ?_ | refine aF ?_)); done) | (refine BQ rfl rfl ?_; (with_reducible repeat (first | assumption | refine oT ?_ | refine aF ?_)); done)
     · exact rfl)
  | with_reducible refine dC ?_
  | with_reducible refine cP ?_
  | with_reducible refine gR ?_
  | with_reducible refine bW ?_
  | with_reducible refine dZ ?_
  | with_reducible refine fM ?_
  | with_reducible refine dO ?_
  | with_reducible refine cE ?_
  | with_reducible refine dF ?_
  | (with_reducible apply bZ
     · exact rfl
     · first | with_reducible assumption | assumption)
  | (with_reducible apply sq
     · exact rfl
     · first | with_reducible assumption | assumption)
  | (with_reducible apply bJ
     · exact rfl
     · first | with_reducible assumption | assumption)
  exact a.h):G:=s ⟨h⟩
theorem aV {G H:Prop}(h:H)(s:Hd H→G:=by intro a; (iterate 2 (refine bT ?_)); exact a.h):G:=s ⟨h⟩
theorem aP {G H:Prop}(h:H)(s:Hd H→G:=by intro a; (iterate 3 (refine bT ?_)); exact a.h):G:=s ⟨h⟩
theorem bG {G H:Prop}(h:H)(s:Hd H→G:=by intro a; (iterate 4 (refine bT ?_)); exact a.h):G:=s ⟨h⟩
theorem cA {G H:Prop}(h:H)(s:Hd H→G:=by intro a; (iterate 5 (refine bT ?_)); exact a.h):G:=s ⟨h⟩
theorem bV {G H:Prop}(h:H)(s:Hd H→G:=by intro a; (iterate 6 (refine bT ?_)); exact a.h):G:=s ⟨h⟩
theorem dN {G H:Prop}(h:H)(s:Hd H→G:=by intro a; (iterate 7 (refine bT ?_)); exact a.h):G:=s ⟨h⟩
theorem cZ {G H:Prop}(h:H)(s:Hd H→G:=by intro a; (iterate 8 (refine bT ?_)); exact a.h):G:=s ⟨h⟩
theorem cX {G H:Prop}(h:H)(s:Hd H→G:=by intro a; (iterate 9 (refine bT ?_)); exact a.h):G:=s ⟨h⟩
theorem cU {G H:Prop}(h:H)(s:Hd H→G:=by intro a; (iterate 10 (refine bT ?_)); exact a.h):G:=s ⟨h⟩
theorem iB {G H:Prop}(h:H)(s:Hd H→G:=by intro a; (iterate 11 (refine bT ?_)); exact a.h):G:=s ⟨h⟩
theorem iK {G H:Prop}(h:H)(s:Hd H→G:=by intro a; (iterate 12 (refine bT ?_)); exact a.h):G:=s ⟨h⟩
theorem lb {G H:Prop}(h:H)(s:Hd H→G:=by intro a; (iterate 13 (refine bT ?_)); exact a.h):G:=s ⟨h⟩
theorem ov {G H:Prop}(h:H)(s:Hd H→G:=by intro a; (iterate 14 (refine bT ?_)); exact a.h):G:=s ⟨h⟩
theorem oy {G H:Prop}(h:H)(s:Hd H→G:=by intro a; (iterate 15 (refine bT ?_)); exact a.h):G:=s ⟨h⟩
theorem wH {G H:Prop}(h:H)(s:Hd H→G:=by intro a; (iterate 16 (refine bT ?_)); exact a.h):G:=s ⟨h⟩
theorem r1 {G H:Prop}(h:H)(s:Hd H→G:=by intro a; (iterate 17 (refine bT ?_)); exact a.h):G:=s ⟨h⟩
theorem yw {G H:Prop}(h:H)(s:Hd H→G:=by intro a; (iterate 18 (refine bT ?_)); exact a.h):G:=s ⟨h⟩
theorem AH {G H:Prop}(h:H)(s:Hd H→G:=by intro a; (iterate 19 (refine bT ?_)); exact a.h):G:=s ⟨h⟩
theorem AI {G H:Prop}(h:H)(s:Hd H→G:=by intro a; (iterate 20 (refine bT ?_)); exact a.h):G:=s ⟨h⟩
theorem us {G H:Prop}(h:H)(s:Hd H→G:=by intro a; (iterate 21 (refine bT ?_)); exact a.h):G:=s ⟨h⟩
theorem yx {G H:Prop}(h:H)(s:Hd H→G:=by intro a; (iterate 22 (refine bT ?_)); exact a.h):G:=s ⟨h⟩
theorem AJ {G H:Prop}(h:H)(s:Hd H→G:=by intro a; (iterate 24 (refine bT ?_)); exact a.h):G:=s ⟨h⟩
theorem wI {G H:Prop}(h:H)(s:Hd H→G:=by intro a; (iterate 31 (refine bT ?_)); exact a.h):G:=s ⟨h⟩
theorem mY {G H:Prop}{i:Nat}{rs:List Nat}(tk:Tk i rs)(h:H)(s:Hd H→G:=by
  intro a
  first
  | (with_reducible apply dRx tk
     · exact rfl
     · exact rfl
     · first | exact rfl | (refine BN rfl rfl ?_; (with_reducible repeat (first | assumption | refine oT ?_ | refine aF ?_)); done) | (refine BO rfl rfl ?_; (with_reducible repeat (first | assumption | refine oT ?_ | refine aF ?_)); done)
     · exact rfl
     · exact rfl
     · assumption
     · assumption
     · kernel_rfl
     · exact rfl
     · exact gv)
  | (with_reducible apply dFx tk
     · exact rfl
     · exact rfl
     · first | exact rfl | (refine BP rfl rfl ?_; (with_reducible repeat (first | assumption | refine oT ?_ | refine aF ?_)); done) | (refine BQ rfl rfl ?_; (with_reducible repeat (first | assumption | refine oT ?_ | refine aF ?_)); done)
     · exact rfl
     · exact rfl
     · assumption
     · assumption
     · kernel_rfl
     · exact rfl)
  exact a.h):G:=s ⟨h⟩
theorem oz {G H:Prop}(i:Nat)(rs:List Nat)(h:H)(s:Tk i rs→Hd H→G:=by intro tk a; (iterate 1 (refine mY tk ?_; clear tk; intro tk)); exact a.h):G:=s ⟨⟩ ⟨h⟩
theorem gT {G H:Prop}(i:Nat)(rs:List Nat)(h:H)(s:Tk i rs→Hd H→G:=by intro tk a; (iterate 2 (refine mY tk ?_; clear tk; intro tk)); exact a.h):G:=s ⟨⟩ ⟨h⟩
theorem iw {G H:Prop}(i:Nat)(rs:List Nat)(h:H)(s:Tk i rs→Hd H→G:=by intro tk a; (iterate 3 (refine mY tk ?_; clear tk; intro tk)); exact a.h):G:=s ⟨⟩ ⟨h⟩
theorem oA {G H:Prop}(i:Nat)(rs:List Nat)(h:H)(s:Tk i rs→Hd H→G:=by intro tk a; (iterate 4 (refine mY tk ?_; clear tk; intro tk)); exact a.h):G:=s ⟨⟩ ⟨h⟩
theorem kr {G H:Prop}(i:Nat)(rs:List Nat)(h:H)(s:Tk i rs→Hd H→G:=by intro tk a; (iterate 5 (refine mY tk ?_; clear tk; intro tk)); exact a.h):G:=s ⟨⟩ ⟨h⟩
theorem sr {G H:Prop}(i:Nat)(rs:List Nat)(h:H)(s:Tk i rs→Hd H→G:=by intro tk a; (iterate 6 (refine mY tk ?_; clear tk; intro tk)); exact a.h):G:=s ⟨⟩ ⟨h⟩
theorem su {G H:Prop}(i:Nat)(rs:List Nat)(h:H)(s:Tk i rs→Hd H→G:=by intro tk a; (iterate 7 (refine mY tk ?_; clear tk; intro tk)); exact a.h):G:=s ⟨⟩ ⟨h⟩
theorem ut {G H:Prop}(i:Nat)(rs:List Nat)(h:H)(s:Tk i rs→Hd H→G:=by intro tk a; (iterate 8 (refine mY tk ?_; clear tk; intro tk)); exact a.h):G:=s ⟨⟩ ⟨h⟩
theorem vD {G H:Prop}(i:Nat)(rs:List Nat)(h:H)(s:Tk i rs→Hd H→G:=by intro tk a; (iterate 9 (refine mY tk ?_; clear tk; intro tk)); exact a.h):G:=s ⟨⟩ ⟨h⟩
theorem ra {G H:Prop}(i:Nat)(rs:List Nat)(h:H)(s:Tk i rs→Hd H→G:=by intro tk a; (iterate 10 (refine mY tk ?_; clear tk; intro tk)); exact a.h):G:=s ⟨⟩ ⟨h⟩
theorem pj {G H:Prop}(i:Nat)(rs:List Nat)(h:H)(s:Tk i rs→Hd H→G:=by intro tk a; (iterate 11 (refine mY tk ?_; clear tk; intro tk)); exact a.h):G:=s ⟨⟩ ⟨h⟩
theorem uu {G H:Prop}(i:Nat)(rs:List Nat)(h:H)(s:Tk i rs→Hd H→G:=by intro tk a; (iterate 12 (refine mY tk ?_; clear tk; intro tk)); exact a.h):G:=s ⟨⟩ ⟨h⟩
theorem mu {G H:Prop}(i:Nat)(rs:List Nat)(h:H)(s:Tk i rs→Hd H→G:=by intro tk a; (iterate 13 (refine mY tk ?_; clear tk; intro tk)); exact a.h):G:=s ⟨⟩ ⟨h⟩
theorem uv {G H:Prop}(i:Nat)(rs:List Nat)(h:H)(s:Tk i rs→Hd H→G:=by intro tk a; (iterate 14 (refine mY tk ?_; clear tk; intro tk)); exact a.h):G:=s ⟨⟩ ⟨h⟩
theorem wJ {G H:Prop}(i:Nat)(rs:List Nat)(h:H)(s:Tk i rs→Hd H→G:=by intro tk a; (iterate 15 (refine mY tk ?_; clear tk; intro tk)); exact a.h):G:=s ⟨⟩ ⟨h⟩
theorem AK {G H:Prop}(i:Nat)(rs:List Nat)(h:H)(s:Tk i rs→Hd H→G:=by intro tk a; (iterate 16 (refine mY tk ?_; clear tk; intro tk)); exact a.h):G:=s ⟨⟩ ⟨h⟩
theorem yy {G H:Prop}(i:Nat)(rs:List Nat)(h:H)(s:Tk i rs→Hd H→G:=by intro tk a; (iterate 17 (refine mY tk ?_; clear tk; intro tk)); exact a.h):G:=s ⟨⟩ ⟨h⟩
theorem yz {G H:Prop}(i:Nat)(rs:List Nat)(h:H)(s:Tk i rs→Hd H→G:=by intro tk a; (iterate 19 (refine mY tk ?_; clear tk; intro tk)); exact a.h):G:=s ⟨⟩ ⟨h⟩
theorem sv {G H:Prop}(i:Nat)(rs:List Nat)(h:H)(s:Tk i rs→Hd H→G:=by intro tk a; (iterate 20 (refine mY tk ?_; clear tk; intro tk)); exact a.h):G:=s ⟨⟩ ⟨h⟩
theorem AL {G H:Prop}(i:Nat)(rs:List Nat)(h:H)(s:Tk i rs→Hd H→G:=by intro tk a; (iterate 23 (refine mY tk ?_; clear tk; intro tk)); exact a.h):G:=s ⟨⟩ ⟨h⟩
theorem AM {G H:Prop}(i:Nat)(rs:List Nat)(h:H)(s:Tk i rs→Hd H→G:=by intro tk a; (iterate 24 (refine mY tk ?_; clear tk; intro tk)); exact a.h):G:=s ⟨⟩ ⟨h⟩
end Go.Pg
