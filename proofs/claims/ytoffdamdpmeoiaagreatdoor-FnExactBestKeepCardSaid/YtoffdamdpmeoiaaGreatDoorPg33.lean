import Derived.Test.YtoffdamdpmeoiaaGreatDoorPg19
set_option linter.unusedVariables false
namespace Go.Pg
structure Hd (H:Prop):Prop where
  h:H
class HSl (P:Program)(t:TypeId)(e:outParam TypeId):Prop where
  h:mz P t=some e
class HSz (P:Program)(t:TypeId)(z:outParam Nat):Prop where
  h:iK P t=some z
class HAg (P:Program)(t:TypeId)(b:outParam Bool):Prop where
  h:fO P t=some b
class HFo (P:Program)(S:TypeId)(f:Nat)(o:outParam Nat):Prop where
  h:dK P S f=some o
abbrev s3 (h:HH):Value:=.slice h.1 h.2.1 h.2.2
def zS (V:List HP)(q:HP):Prop:=∃ i,lk V i=q
theorem zT {V:List HP}{q:HP}:zS (q::V) q:=⟨0,rfl⟩
theorem zU {V:List HP}{p q:HP}(h:zS V q):zS (p::V) q:=h.elim fun i h=>⟨i+1,h⟩
def Am {α:Type}(V:List HP)(K:Kind α)(v:Value)(xs:List α):Prop:=∃ i,kh (lk V i) K v xs
theorem DV {α:Type}{V:List HP}{K:Kind α}{e:Nat}{v:Value}{xs:List α}:Am (ow K e v xs::V) K v xs:=⟨0,aD⟩
theorem DW {α:Type}{V:List HP}{K:Kind α}{v:Value}{xs:List α}:Am (aO K v xs::V) K v xs:=⟨0,aA⟩
theorem DX {α:Type}{V:List HP}{p:HP}{K:Kind α}{v:Value}{xs:List α}(h:Am V K v xs):Am (p::V) K v xs:=h.elim fun i h=>⟨i+1,h⟩
structure Tk (i:Nat)(rs:List Nat):Prop where
section
variable {P:Program}{N:Nn}{C:World}{X:Cx}{V V0:List HP}{σ:dQ}{Q:Exit→dQ→World→Prop}{ops:Array Oper}{rest:List Oper}{o:Oper}{k fuel:Nat}{listed:Array Bool}
variable {d:Nat}{d':Option Nat}{op:Op}{ty:TypeId}{pos:String}{af:Array Edge}{gd:Option (Nat×Bool)}{v:Value}{x y:Code}
theorem vLn {t:TypeId}{x:Operand}{a:Option Addr}{n c:Nat}{e:TypeId}[s:HSl P t e](b:ev σ x=.slice a n c):VO ⟨P,N,C⟩ V σ ⟨d',.call ⟨.builtin .len,#[x],#[t]⟩,ty,pos,af,gd⟩ (.int .i64 n):=eN s.h b
theorem vFn {S:TypeId}{x:Operand}{f fo b k a:Nat}[s:HFo P S f fo](i:ev σ x=.pointer (some ⟨b,k,none⟩))(e:k+fo=a):VO ⟨P,N,C⟩ V σ ⟨d',.fieldAddr S x f,ty,pos,af,gd⟩ (.pointer (some ⟨b,a,none⟩)):=jF s.h i e
theorem vIn {t e:TypeId}{x y:Operand}{g o n c sz:Nat}{k:IntKind}{j:Int}[s:HSl P t e][z:HSz P e sz](a:ev σ x=.slice (some ⟨g,o,none⟩) n c)(b:ev σ y=.int k j)(h:0≤j∧j<n):VO ⟨P,N,C⟩ V σ ⟨d',.indexAddr t x y,ty,pos,af,gd⟩ (.pointer (some ⟨g,o+j.toNat*sz,none⟩)):=rC s.h z.h a b h.1 h.2
theorem vDn {T:TypeId}{x:Operand}{b k:Nat}{cs:List Value}{e:Nat}{v:Value}[s:HAg P T false](l:ev σ x=.pointer (some ⟨b,k,none⟩))(a:zS V (aK b cs e))(j:sy cs k=some v):VO ⟨P,N,C⟩ V σ ⟨d',.load T x,ty,pos,af,gd⟩ v:=a.elim fun i a=>tx i s.h a l j
variable {z:Operand}
theorem vMI {i:IntKind}{n:Int}(h:ev σ z=.int i n):VO X V σ ⟨d',.move z,ty,pos,af,gd⟩ (.int i n):=iV (by simp only [pv,h])
theorem vMB {n:Bool}(h:ev σ z=.bool n):VO X V σ ⟨d',.move z,ty,pos,af,gd⟩ (.bool n):=iV (by simp only [pv,h])
theorem vMS {a:Option Addr}{n c:Nat}(h:ev σ z=.slice a n c):VO X V σ ⟨d',.move z,ty,pos,af,gd⟩ (.slice a n c):=iV (by simp only [pv,h])
theorem vMP {b n:Nat}(h:ev σ z=.pointer (some ⟨b,n,none⟩)):VO X V σ ⟨d',.move z,ty,pos,af,gd⟩ (.pointer (some ⟨b,n,none⟩)):=iV (by simp only [pv,h])
theorem vCI {i:IntKind}{n:Int}(h:ev σ z=.int i n):VO X V σ ⟨d',.assign z,ty,pos,af,gd⟩ (.int i n):=iV (by simp only [pv,h])
theorem vCB {n:Bool}(h:ev σ z=.bool n):VO X V σ ⟨d',.assign z,ty,pos,af,gd⟩ (.bool n):=iV (by simp only [pv,h])
theorem vCS {a:Option Addr}{n c:Nat}(h:ev σ z=.slice a n c):VO X V σ ⟨d',.assign z,ty,pos,af,gd⟩ (.slice a n c):=iV (by simp only [pv,h])
theorem vCP {b n:Nat}(h:ev σ z=.pointer (some ⟨b,n,none⟩)):VO X V σ ⟨d',.assign z,ty,pos,af,gd⟩ (.pointer (some ⟨b,n,none⟩)):=iV (by simp only [pv,h])
theorem vEn {T:TypeId}{x:Operand}{g o n c:Nat}{xs:List Int}{j:Int}[s:HAg P T false](b:ev σ x=.pointer (some ⟨g,o+j.toNat*1,none⟩))(a:Am V (Kind.int .i64) (.slice (some ⟨g,o,none⟩) n c) xs)(h:0≤j∧j<n):VO ⟨P,N,C⟩ V σ ⟨d',.load T x,ty,pos,af,gd⟩ (.int .i64 (ix xs j)):=a.elim fun i a=>fQ i s.h a b h
theorem dRx {i:Nat}{rs:List Nat}(tk:Tk i rs){e:Nat}(a:fuel+1=e)(r:ops[i]?=some ⟨some d,op,ty,pos,af,gd⟩)(hw:eF ops σ ⟨some d,op,ty,pos,af,gd⟩=true)(l:j3 X.n (some d)=true)(b:Nat.blt i k=true)(B:jE ops k=true)(u:Region.noSelect ops=true)(q:(Region.free .any ops listed i&&(Region.ready .any ops listed).contains i)=true)(j:rmL V rs=V0)(D:VO X V0 σ ⟨some d,op,ty,pos,af,gd⟩ v)(h:Tk (i+1) rs→TD X ops k V0 fuel (listed.setIfInBounds i true) V (kT σ d v) Q):TD X ops k V0 e listed V σ Q :=
  a▸Cq i v r D hw l b B u q (fun w s=>j▸sL rs w s) (h ⟨⟩)
theorem dFx {i:Nat}{rs:List Nat}(tk:Tk i rs){e:Nat}(a:fuel+1=e)(r:ops[i]?=some ⟨some d,op,ty,pos,af,gd⟩)(hw:eF ops σ ⟨some d,op,ty,pos,af,gd⟩=false)(l:j3 X.n (some d)=true)(b:Nat.blt i k=true)(B:jE ops k=true)(u:Region.noSelect ops=true)(q:(Region.free .any ops listed i&&(Region.ready .any ops listed).contains i)=true)(j:rmL V rs=V0)(h:Tk (i+1) rs→TD X ops k V0 fuel (listed.setIfInBounds i true) V (kT σ d undef) Q):TD X ops k V0 e listed V σ Q :=
  a▸xe i r hw l b B u q (fun w s=>j▸sL rs w s) (h ⟨⟩)
theorem vWn {T:TypeId}{x:Operand}{b n:Nat}{cs:List Value}{j:Nat}[s:HAg P T true][z:HSz P T n](l:ev σ x=.pointer (some ⟨b,0,none⟩))(a:zS V (aK b cs j))(e:cs.length=n):VO ⟨P,N,C⟩ V σ ⟨d',.load T x,ty,pos,af,gd⟩ (.agg cs.toArray):=a.elim fun i a=>dA i s.h z.h a l (by rw [List.drop_zero,← e,List.take_length]) e
theorem DY {A:Type}{a:A→Value×List HP}{fn:Func}{e:Exit}(x:A)(i:∀ w,St X.C w V→St X.C w ((a x).2++V0))(b:(e=.ret∨e=.normal):=by first | exact .inl rfl | exact .inr rfl)(h:fn.results=#[]:=by exact rfl)(j:(a x).1=.tuple #[]:=by exact rfl):TQ X V σ e (m' X.P fn (sC X V0 a)):=dL (rs:=[]) (vs:=[]) b x h trivial j i
theorem kb {A:Type}{h:A→Value×List HP}{fn:Func}{e:Exit}{a b:Nat}{u v:Value}(x:A)(l:∀ w,St X.C w V→St X.C w ((h x).2++V0))(i:(e=.ret∨e=.normal):=by first | exact .inl rfl | exact .inr rfl)(j:fn.results=#[.tmp a,.tmp b]:=by exact rfl)(q:(h x).1=.tuple [u,v].toArray:=by exact rfl)(h1:σ a=u:=by exact rfl)(h2:σ b=v:=by exact rfl):TQ X V σ e (m' X.P fn (sC X V0 h)):=dL (rs:=[.tmp a,.tmp b]) (vs:=[u,v]) i x j ⟨h1,h2,trivial⟩ q l
theorem iS {A:Type}{h:A→Value×List HP}{fn:Func}{e:Exit}{a b c:Nat}{u v y:Value}(x:A)(q:∀ w,St X.C w V→St X.C w ((h x).2++V0))(j:(e=.ret∨e=.normal):=by first | exact .inl rfl | exact .inr rfl)(l:fn.results=#[.tmp a,.tmp b,.tmp c]:=by exact rfl)(r:(h x).1=.tuple [u,v,y].toArray:=by exact rfl)(h1:σ a=u:=by exact rfl)(h2:σ b=v:=by exact rfl)(i:σ c=y:=by exact rfl):TQ X V σ e (m' X.P fn (sC X V0 h)):=dL (rs:=[.tmp a,.tmp b,.tmp c]) (vs:=[u,v,y]) j x l ⟨h1,h2,i,trivial⟩ r q
theorem qS {A:Type}{j:A→Value×List HP}{fn:Func}{e:Exit}{a T b q n:Nat}{cs:List Value}(x:A)(D:∀ w,St C w V→St C w ((j x).2++V0))(s:(e=.ret∨e=.normal):=by first | exact .inl rfl | exact .inr rfl)(B:fn.results=#[.cell a T]:=by exact rfl)(r:σ a=.pointer (some ⟨b,0,none⟩):=by exact rfl)(l:zS V (aK b cs q):=by first | (with_reducible repeat (first | exact zT | apply zU)); done | repeat (first | exact zT | apply zU))
    (E:(j x).1=.agg cs.toArray:=by exact rfl) (h1:fO P T=some true:=by exact HAg.h) (h2:iK P T=some n:=by exact HSz.h) (u:cs.length=n:=by exact rfl):TQ ⟨P,N,C⟩ V σ e (m' P fn (sC ⟨P,N,C⟩ V0 j)):=l.elim fun i l=>dL (X:=⟨P,N,C⟩) (rs:=[.cell a T]) (vs:=[.agg cs.toArray]) s x B ⟨⟨i,b,cs,q,l,r,.inl ⟨h1,by rw [u]; exact h2,rfl⟩⟩,trivial⟩ E D
theorem vA0 {c:Bool}{x y z:Operand}(a:ev σ x=.bool c)(h:c=false)(b:ev σ z=.bool false):VO X V σ ⟨d',.pick x y z,ty,pos,af,gd⟩ (.bool false):=mK a h b rfl
theorem vO1 {c:Bool}{x y z:Operand}(a:ev σ x=.bool c)(h:c=false)(b:ev σ z=.bool true):VO X V σ ⟨d',.pick x y z,ty,pos,af,gd⟩ (.bool true):=mK a h b rfl
theorem vT1 {c:Bool}{x y z:Operand}(a:ev σ x=.bool c)(h:c=true)(b:ev σ y=.bool true):VO X V σ ⟨d',.pick x y z,ty,pos,af,gd⟩ (.bool true):=mJ a h b rfl
theorem vA1 {c:Bool}{x y z:Operand}(a:ev σ x=.bool c)(h:c=true)(b:ev σ y=.bool false):VO X V σ ⟨d',.pick x y z,ty,pos,af,gd⟩ (.bool false):=mJ a h b rfl
theorem vN1 {x:Operand}{t:TypeId}(a:ev σ x=.bool true):VO X V σ ⟨d',.unOp .not t x,ty,pos,af,gd⟩ (.bool false):=ne a
theorem vN0 {x:Operand}{t:TypeId}(a:ev σ x=.bool false):VO X V σ ⟨d',.unOp .not t x,ty,pos,af,gd⟩ (.bool true):=ne a
theorem oF {a b:Bool}(h:a=false)(g:b=false):(a||b)=false:=by rw [h,g]; rfl
theorem aT {a b:Bool}(h:a=true)(g:b=true):(a&&b)=true:=by rw [h,g]; rfl
theorem oT2 {a b:Bool}(g:b=true):(a||b)=true:=by rw [g]; cases a<;>rfl
theorem aF2 {a b:Bool}(g:b=false):(a&&b)=false:=by rw [g]; cases a<;>rfl
theorem nT {a:Bool}(h:a=false):(!a)=true:=by rw [h]; rfl
theorem nF {a:Bool}(h:a=true):(!a)=false:=by rw [h]; rfl
theorem bTr {t:Nat}{E:Bool}(h:E=true)(a:σ t=.bool true):σ t=.bool E:=by rw [a,h]
theorem bFa {t:Nat}{E:Bool}(h:E=false)(a:σ t=.bool false):σ t=.bool E:=by rw [a,h]
theorem qj {b:List (Nat×Value)}{a:List HP}(h2:∀ w,St X.C w V→St X.C w a)(h1:m7 σ b:=by
    first
    | exact aS R
    | (repeat' (first
        | exact trivial
        | (refine ⟨?_,?_⟩
           · first
             | exact rfl
             | (refine bTr ?_ rfl
                with_reducible repeat' (first | assumption | exact oT (by assumption) | exact oT2 (by assumption) | refine aT ?_ ?_ | refine nT ?_ | exact oT (oT (by assumption)) | refine oT ?_))
             | (refine bFa ?_ rfl
                with_reducible repeat' (first | assumption | exact aF (by assumption) | exact aF2 (by assumption) | refine oF ?_ ?_ | refine nF ?_ | exact aF (aF (by assumption)) | refine aF ?_)))))):TQ X V σ .normal (iU (Jn X (fun _:Unit×Unit=>True) (fun _=>b) (fun _=>a)) Q):=dC ((),()) trivial h1 h2
theorem tV {k:Operand}{b:Bool}(hk:ev σ k=.bool b)(a:¬ b=true)(h:TC X V σ y Q):TC X V σ (.cond k x y) Q:=aY hk (by simpa using a) h
theorem DZ {j:Nat}{c:Bool}(h:o.guard=some (j,true))(a:m0 ops σ j=some c)(e:c=true):eF ops σ o=true:=mH h a e
theorem D' {j:Nat}{c:Bool}(h:o.guard=some (j,false))(a:m0 ops σ j=some c)(e:c=false):eF ops σ o=true:=mH h a e
theorem E0 {j:Nat}{c:Bool}(h:o.guard=some (j,false))(a:m0 ops σ j=some c)(e:c=true):eF ops σ o=false:=ld h a e
theorem E1 {j:Nat}{c:Bool}(h:o.guard=some (j,true))(a:m0 ops σ j=some c)(e:c=false):eF ops σ o=false:=ld h a e
theorem lOx (hw:eF ops σ ⟨some d,op,ty,pos,af,gd⟩=true)(a:j3 X.n (some d)=true)(b:VO X V σ ⟨some d,op,ty,pos,af,gd⟩ v)(h:TL X ops V (kT σ d v) rest Q):TL X ops V σ (⟨some d,op,ty,pos,af,gd⟩::rest) Q:=tH v b hw a h
theorem lfx (hw:eF ops σ o=false)(a:j3 X.n o.dst=true)(h:TL X ops V (gJ σ o.dst undef) rest Q):TL X ops V σ (o::rest) Q:=x8 a hw h
theorem tI:∀ w,St C w V→St C w V:=fun _ s=>s
theorem tE (n:Nat)(is:List Nat)(h:qt n is=true:=by exact rfl)(a:zO n V=true:=by exact rfl):∀ w,St C w V→St C w (is.map (lk V)++dp n V):=fun _ s=>s.sel n is h a
end
theorem gv {X:Cx}{V:List HP}{σ:dQ}{o:Oper}{v:Value}(h:VO X V σ o v:=by
  first
  | ((with_reducible apply vMI); exact rfl)
  | ((with_reducible apply vMS); exact rfl)
  | ((with_reducible apply vMB); exact rfl)
  | ((with_reducible apply vMP); exact rfl)
  | ((with_reducible apply vCI); exact rfl)
  | ((with_reducible apply vCS); exact rfl)
  | ((with_reducible apply vCB); exact rfl)
  | ((with_reducible apply vCP); exact rfl)
  | ((with_reducible apply iE)<;>exact rfl)
  | ((with_reducible apply jG)<;>exact rfl)
  | ((with_reducible apply sG)<;>exact rfl)
  | ((with_reducible apply zP)<;>exact rfl)
  | ((with_reducible apply tj)<;>exact rfl)
  | ((with_reducible apply vLe)<;>exact rfl)
  | ((with_reducible apply kO)<;>exact rfl)
  | ((with_reducible apply vt)<;>exact rfl)
  | ((with_reducible apply rJ)<;>exact rfl)
  | ((with_reducible apply vLn); exact rfl)
  | ((with_reducible apply vFn)<;>exact rfl)
  | (with_reducible apply vIn
     · exact rfl
     · exact rfl
     · first | with_reducible assumption | assumption)
  | (with_reducible apply vDn
     · exact rfl
     · first | (with_reducible repeat (first | exact zT | apply zU)); done | repeat (first | exact zT | apply zU)
     · exact rfl)
  | (with_reducible apply vEn
     · exact rfl
     · first | (with_reducible repeat (first | exact DV | exact DW | apply DX)); done | repeat (first | exact DV | exact DW | apply DX)
     · first | with_reducible assumption | assumption)
  | (with_reducible apply vWn
     · exact rfl
     · first | (with_reducible repeat (first | exact zT | apply zU)); done | repeat (first | exact zT | apply zU)
     · exact rfl)
  | ((with_reducible apply vN1); exact rfl)
  | ((with_reducible apply vN0); exact rfl)
  | ((with_reducible apply ne); exact rfl)
  | (with_reducible apply vA0
     · exact rfl
     · with_reducible repeat (first | assumption | refine oT ?_ | refine aF ?_)
     · exact rfl)
  | (with_reducible apply vO1
     · exact rfl
     · with_reducible repeat (first | assumption | refine oT ?_ | refine aF ?_)
     · exact rfl)
  | (with_reducible apply vT1
     · exact rfl
     · with_reducible repeat (first | assumption | refine oT ?_ | refine aF ?_)
     · exact rfl)
  | (with_reducible apply vA1
     · exact rfl
     · with_reducible repeat (first | assumption | refine oT ?_ | refine aF ?_)
     · exact rfl)
  | (with_reducible apply fG
     · exact rfl
     · with_reducible repeat (first | assumption | refine oT ?_ | refine aF ?_)
     · exact rfl)
  | (with_reducible apply iJ
     · exact rfl
     · with_reducible repeat (first | assumption | refine oT ?_ | refine aF ?_)
     · exact rfl)
  | exact vI rfl
  | exact vB rfl
  | exact vS rfl
  | exact vP rfl):VO X V σ o v:=h
theorem cP {G H:Prop}(h:H)(s:Hd H→G:=by
  intro zz
  first
  | with_reducible refine aH ?_
  | with_reducible refine aB ?_
  | with_reducible refine aE ?_
  | with_reducible refine aC ?_
  | (with_reducible apply lOx
     · first | exact rfl | (refine DZ rfl rfl ?_; (with_reducible repeat (first | assumption | refine oT ?_ | refine aF ?_)); done) | (refine D' rfl rfl ?_; (with_reducible repeat (first | assumption | refine oT ?_ | refine aF ?_)); done)
     · exact rfl
     · exact gv)
  | (with_reducible apply lfx
     · first | exact rfl | (refine E0 rfl rfl ?_; (with_reducible repeat (first | assumption | refine oT ?_ | refine aF ?_)); done) | (refine E1 rfl rfl ?_; (with_reducible repeat (first | assumption | refine oT ?_ | refine aF ?_)); done)
     · exact rfl)
  | with_reducible refine bV ?_
  | with_reducible refine bQ ?_
  | with_reducible refine eA ?_
  | with_reducible refine bY ?_
  | with_reducible refine cE ?_
  | with_reducible refine dH ?_
  | with_reducible refine cD ?_
  | with_reducible refine bZ ?_
  | with_reducible refine cG ?_
  | (with_reducible apply bJ
     · exact rfl
     · first | with_reducible assumption | assumption)
  | (with_reducible apply tV
     · exact rfl
     · first | with_reducible assumption | assumption)
  | (with_reducible apply aY
     · exact rfl
     · first | with_reducible assumption | assumption)
  exact zz.h):G:=s ⟨h⟩
theorem aZ {G H:Prop}(h:H)(s:Hd H→G:=by intro zz; (iterate 2 (refine cP ?_)); exact zz.h):G:=s ⟨h⟩
theorem aV {G H:Prop}(h:H)(s:Hd H→G:=by intro zz; (iterate 3 (refine cP ?_)); exact zz.h):G:=s ⟨h⟩
theorem bL {G H:Prop}(h:H)(s:Hd H→G:=by intro zz; (iterate 4 (refine cP ?_)); exact zz.h):G:=s ⟨h⟩
theorem cV {G H:Prop}(h:H)(s:Hd H→G:=by intro zz; (iterate 5 (refine cP ?_)); exact zz.h):G:=s ⟨h⟩
theorem cB {G H:Prop}(h:H)(s:Hd H→G:=by intro zz; (iterate 6 (refine cP ?_)); exact zz.h):G:=s ⟨h⟩
theorem eD {G H:Prop}(h:H)(s:Hd H→G:=by intro zz; (iterate 7 (refine cP ?_)); exact zz.h):G:=s ⟨h⟩
theorem dN {G H:Prop}(h:H)(s:Hd H→G:=by intro zz; (iterate 8 (refine cP ?_)); exact zz.h):G:=s ⟨h⟩
theorem dG {G H:Prop}(h:H)(s:Hd H→G:=by intro zz; (iterate 9 (refine cP ?_)); exact zz.h):G:=s ⟨h⟩
theorem dJ {G H:Prop}(h:H)(s:Hd H→G:=by intro zz; (iterate 10 (refine cP ?_)); exact zz.h):G:=s ⟨h⟩
theorem hG {G H:Prop}(h:H)(s:Hd H→G:=by intro zz; (iterate 11 (refine cP ?_)); exact zz.h):G:=s ⟨h⟩
theorem jl {G H:Prop}(h:H)(s:Hd H→G:=by intro zz; (iterate 12 (refine cP ?_)); exact zz.h):G:=s ⟨h⟩
theorem lq {G H:Prop}(h:H)(s:Hd H→G:=by intro zz; (iterate 13 (refine cP ?_)); exact zz.h):G:=s ⟨h⟩
theorem pB {G H:Prop}(h:H)(s:Hd H→G:=by intro zz; (iterate 14 (refine cP ?_)); exact zz.h):G:=s ⟨h⟩
theorem nP {G H:Prop}(h:H)(s:Hd H→G:=by intro zz; (iterate 15 (refine cP ?_)); exact zz.h):G:=s ⟨h⟩
theorem An {G H:Prop}(h:H)(s:Hd H→G:=by intro zz; (iterate 16 (refine cP ?_)); exact zz.h):G:=s ⟨h⟩
theorem qv {G H:Prop}(h:H)(s:Hd H→G:=by intro zz; (iterate 17 (refine cP ?_)); exact zz.h):G:=s ⟨h⟩
theorem yh {G H:Prop}(h:H)(s:Hd H→G:=by intro zz; (iterate 18 (refine cP ?_)); exact zz.h):G:=s ⟨h⟩
theorem Cw {G H:Prop}(h:H)(s:Hd H→G:=by intro zz; (iterate 19 (refine cP ?_)); exact zz.h):G:=s ⟨h⟩
theorem Cy {G H:Prop}(h:H)(s:Hd H→G:=by intro zz; (iterate 20 (refine cP ?_)); exact zz.h):G:=s ⟨h⟩
theorem yi {G H:Prop}(h:H)(s:Hd H→G:=by intro zz; (iterate 21 (refine cP ?_)); exact zz.h):G:=s ⟨h⟩
theorem Ao {G H:Prop}(h:H)(s:Hd H→G:=by intro zz; (iterate 22 (refine cP ?_)); exact zz.h):G:=s ⟨h⟩
theorem Cz {G H:Prop}(h:H)(s:Hd H→G:=by intro zz; (iterate 24 (refine cP ?_)); exact zz.h):G:=s ⟨h⟩
theorem yj {G H:Prop}(h:H)(s:Hd H→G:=by intro zz; (iterate 31 (refine cP ?_)); exact zz.h):G:=s ⟨h⟩
theorem ng {G H:Prop}{i:Nat}{rs:List Nat}(tk:Tk i rs)(h:H)(s:Hd H→G:=by
  intro zz
  first
  | (with_reducible apply dRx tk
     · exact rfl
     · exact rfl
     · first | exact rfl | (refine DZ rfl rfl ?_; (with_reducible repeat (first | assumption | refine oT ?_ | refine aF ?_)); done) | (refine D' rfl rfl ?_; (with_reducible repeat (first | assumption | refine oT ?_ | refine aF ?_)); done)
     · exact rfl
     · exact rfl
     · assumption
     · assumption
     · kernel_rfl
     · exact rfl
     · exact gv)
  | (with_reducible apply dFx tk
     · exact rfl
     · exact rfl
     · first | exact rfl | (refine E0 rfl rfl ?_; (with_reducible repeat (first | assumption | refine oT ?_ | refine aF ?_)); done) | (refine E1 rfl rfl ?_; (with_reducible repeat (first | assumption | refine oT ?_ | refine aF ?_)); done)
     · exact rfl
     · exact rfl
     · assumption
     · assumption
     · kernel_rfl
     · exact rfl)
  exact zz.h):G:=s ⟨h⟩
theorem pC {G H:Prop}(i:Nat)(rs:List Nat)(h:H)(s:Tk i rs→Hd H→G:=by intro tk zz; (iterate 1 (refine ng tk ?_; clear tk; intro tk)); exact zz.h):G:=s ⟨⟩ ⟨h⟩
theorem iM {G H:Prop}(i:Nat)(rs:List Nat)(h:H)(s:Tk i rs→Hd H→G:=by intro tk zz; (iterate 2 (refine ng tk ?_; clear tk; intro tk)); exact zz.h):G:=s ⟨⟩ ⟨h⟩
theorem j6 {G H:Prop}(i:Nat)(rs:List Nat)(h:H)(s:Tk i rs→Hd H→G:=by intro tk zz; (iterate 3 (refine ng tk ?_; clear tk; intro tk)); exact zz.h):G:=s ⟨⟩ ⟨h⟩
theorem qg {G H:Prop}(i:Nat)(rs:List Nat)(h:H)(s:Tk i rs→Hd H→G:=by intro tk zz; (iterate 4 (refine ng tk ?_; clear tk; intro tk)); exact zz.h):G:=s ⟨⟩ ⟨h⟩
theorem kX {G H:Prop}(i:Nat)(rs:List Nat)(h:H)(s:Tk i rs→Hd H→G:=by intro tk zz; (iterate 5 (refine ng tk ?_; clear tk; intro tk)); exact zz.h):G:=s ⟨⟩ ⟨h⟩
theorem tW {G H:Prop}(i:Nat)(rs:List Nat)(h:H)(s:Tk i rs→Hd H→G:=by intro tk zz; (iterate 6 (refine ng tk ?_; clear tk; intro tk)); exact zz.h):G:=s ⟨⟩ ⟨h⟩
theorem tl {G H:Prop}(i:Nat)(rs:List Nat)(h:H)(s:Tk i rs→Hd H→G:=by intro tk zz; (iterate 7 (refine ng tk ?_; clear tk; intro tk)); exact zz.h):G:=s ⟨⟩ ⟨h⟩
theorem vR {G H:Prop}(i:Nat)(rs:List Nat)(h:H)(s:Tk i rs→Hd H→G:=by intro tk zz; (iterate 8 (refine ng tk ?_; clear tk; intro tk)); exact zz.h):G:=s ⟨⟩ ⟨h⟩
theorem xg {G H:Prop}(i:Nat)(rs:List Nat)(h:H)(s:Tk i rs→Hd H→G:=by intro tk zz; (iterate 9 (refine ng tk ?_; clear tk; intro tk)); exact zz.h):G:=s ⟨⟩ ⟨h⟩
theorem pD {G H:Prop}(i:Nat)(rs:List Nat)(h:H)(s:Tk i rs→Hd H→G:=by intro tk zz; (iterate 10 (refine ng tk ?_; clear tk; intro tk)); exact zz.h):G:=s ⟨⟩ ⟨h⟩
theorem tX {G H:Prop}(i:Nat)(rs:List Nat)(h:H)(s:Tk i rs→Hd H→G:=by intro tk zz; (iterate 11 (refine ng tk ?_; clear tk; intro tk)); exact zz.h):G:=s ⟨⟩ ⟨h⟩
theorem yk {G H:Prop}(i:Nat)(rs:List Nat)(h:H)(s:Tk i rs→Hd H→G:=by intro tk zz; (iterate 12 (refine ng tk ?_; clear tk; intro tk)); exact zz.h):G:=s ⟨⟩ ⟨h⟩
theorem nQ {G H:Prop}(i:Nat)(rs:List Nat)(h:H)(s:Tk i rs→Hd H→G:=by intro tk zz; (iterate 13 (refine ng tk ?_; clear tk; intro tk)); exact zz.h):G:=s ⟨⟩ ⟨h⟩
theorem vU {G H:Prop}(i:Nat)(rs:List Nat)(h:H)(s:Tk i rs→Hd H→G:=by intro tk zz; (iterate 14 (refine ng tk ?_; clear tk; intro tk)); exact zz.h):G:=s ⟨⟩ ⟨h⟩
theorem ym {G H:Prop}(i:Nat)(rs:List Nat)(h:H)(s:Tk i rs→Hd H→G:=by intro tk zz; (iterate 15 (refine ng tk ?_; clear tk; intro tk)); exact zz.h):G:=s ⟨⟩ ⟨h⟩
theorem CA {G H:Prop}(i:Nat)(rs:List Nat)(h:H)(s:Tk i rs→Hd H→G:=by intro tk zz; (iterate 16 (refine ng tk ?_; clear tk; intro tk)); exact zz.h):G:=s ⟨⟩ ⟨h⟩
theorem CB {G H:Prop}(i:Nat)(rs:List Nat)(h:H)(s:Tk i rs→Hd H→G:=by intro tk zz; (iterate 17 (refine ng tk ?_; clear tk; intro tk)); exact zz.h):G:=s ⟨⟩ ⟨h⟩
theorem Ap {G H:Prop}(i:Nat)(rs:List Nat)(h:H)(s:Tk i rs→Hd H→G:=by intro tk zz; (iterate 19 (refine ng tk ?_; clear tk; intro tk)); exact zz.h):G:=s ⟨⟩ ⟨h⟩
theorem tY {G H:Prop}(i:Nat)(rs:List Nat)(h:H)(s:Tk i rs→Hd H→G:=by intro tk zz; (iterate 20 (refine ng tk ?_; clear tk; intro tk)); exact zz.h):G:=s ⟨⟩ ⟨h⟩
theorem CC {G H:Prop}(i:Nat)(rs:List Nat)(h:H)(s:Tk i rs→Hd H→G:=by intro tk zz; (iterate 22 (refine ng tk ?_; clear tk; intro tk)); exact zz.h):G:=s ⟨⟩ ⟨h⟩
theorem CD {G H:Prop}(i:Nat)(rs:List Nat)(h:H)(s:Tk i rs→Hd H→G:=by intro tk zz; (iterate 23 (refine ng tk ?_; clear tk; intro tk)); exact zz.h):G:=s ⟨⟩ ⟨h⟩
theorem Aq {G H:Prop}(i:Nat)(rs:List Nat)(h:H)(s:Tk i rs→Hd H→G:=by intro tk zz; (iterate 24 (refine ng tk ?_; clear tk; intro tk)); exact zz.h):G:=s ⟨⟩ ⟨h⟩
theorem yn {G H:Prop}(i:Nat)(rs:List Nat)(h:H)(s:Tk i rs→Hd H→G:=by intro tk zz; (iterate 30 (refine ng tk ?_; clear tk; intro tk)); exact zz.h):G:=s ⟨⟩ ⟨h⟩
end Go.Pg
