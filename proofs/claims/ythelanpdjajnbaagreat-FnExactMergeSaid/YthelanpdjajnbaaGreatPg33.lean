import Derived.Test.YthelanpdjajnbaaGreatPg19
set_option linter.unusedVariables false
namespace Go.Pg
structure Hd (H:Prop):Prop where
  h:H
class HSl (P:Program)(t:TypeId)(e:outParam TypeId):Prop where
  h:mo P t=some e
class HSz (P:Program)(t:TypeId)(z:outParam Nat):Prop where
  h:iK P t=some z
class HAg (P:Program)(t:TypeId)(b:outParam Bool):Prop where
  h:fP P t=some b
class HFo (P:Program)(S:TypeId)(f:Nat)(o:outParam Nat):Prop where
  h:dC P S f=some o
abbrev s3 (h:HH):Value:=.slice h.1 h.2.1 h.2.2
def yM (V:List HP)(q:HP):Prop:=∃ i,lk V i=q
theorem yN {V:List HP}{q:HP}:yM (q::V) q:=⟨0,rfl⟩
theorem yO {V:List HP}{p q:HP}(h:yM V q):yM (p::V) q:=h.elim fun i h=>⟨i+1,h⟩
def zg {α:Type}(V:List HP)(K:Kind α)(v:Value)(xs:List α):Prop:=∃ i,k9 (lk V i) K v xs
theorem Cp {α:Type}{V:List HP}{K:Kind α}{e:Nat}{v:Value}{xs:List α}:zg (ow K e v xs::V) K v xs:=⟨0,aC⟩
theorem Cq {α:Type}{V:List HP}{K:Kind α}{v:Value}{xs:List α}:zg (aO K v xs::V) K v xs:=⟨0,aA⟩
theorem Cr {α:Type}{V:List HP}{p:HP}{K:Kind α}{v:Value}{xs:List α}(h:zg V K v xs):zg (p::V) K v xs:=h.elim fun i h=>⟨i+1,h⟩
structure Tk (i:Nat)(rs:List Nat):Prop where
section
variable {P:Program}{N:Nn}{C:World}{X:Cx}{V V0:List HP}{σ:dI}{Q:Exit→dI→World→Prop}{ops:Array Oper}{rest:List Oper}{o:Oper}{k fuel:Nat}{listed:Array Bool}
variable {d:Nat}{d':Option Nat}{op:Op}{ty:TypeId}{pos:String}{af:Array Edge}{gd:Option (Nat×Bool)}{v:Value}{x y:Code}
theorem vLn {t:TypeId}{x:Operand}{a:Option Addr}{n c:Nat}{e:TypeId}[s:HSl P t e](b:ev σ x=.slice a n c):VO ⟨P,N,C⟩ V σ ⟨d',.call ⟨.builtin .len,#[x],#[t]⟩,ty,pos,af,gd⟩ (.int .i64 n):=eT s.h b
theorem vFn {S:TypeId}{x:Operand}{f fo b k a:Nat}[s:HFo P S f fo](g:ev σ x=.pointer (some ⟨b,k,none⟩))(e:k+fo=a):VO ⟨P,N,C⟩ V σ ⟨d',.fieldAddr S x f,ty,pos,af,gd⟩ (.pointer (some ⟨b,a,none⟩)):=iI s.h g e
theorem vIn {t e:TypeId}{x y:Operand}{g o n c sz:Nat}{k:IntKind}{j:Int}[s:HSl P t e][z:HSz P e sz](a:ev σ x=.slice (some ⟨g,o,none⟩) n c)(b:ev σ y=.int k j)(h:0≤j∧j<n):VO ⟨P,N,C⟩ V σ ⟨d',.indexAddr t x y,ty,pos,af,gd⟩ (.pointer (some ⟨g,o+j.toNat*sz,none⟩)):=qD s.h z.h a b h.1 h.2
theorem vDn {T:TypeId}{x:Operand}{b k:Nat}{cs:List Value}{e:Nat}{v:Value}[s:HAg P T false](j:ev σ x=.pointer (some ⟨b,k,none⟩))(a:yM V (aJ b cs e))(g:rG cs k=some v):VO ⟨P,N,C⟩ V σ ⟨d',.load T x,ty,pos,af,gd⟩ v:=a.elim fun i a=>sy i s.h a j g
variable {z:Operand}
theorem vMI {i:IntKind}{n:Int}(h:ev σ z=.int i n):VO X V σ ⟨d',.move z,ty,pos,af,gd⟩ (.int i n):=iO (by simp only [pv,h])
theorem vMB {n:Bool}(h:ev σ z=.bool n):VO X V σ ⟨d',.move z,ty,pos,af,gd⟩ (.bool n):=iO (by simp only [pv,h])
theorem vMS {a:Option Addr}{n c:Nat}(h:ev σ z=.slice a n c):VO X V σ ⟨d',.move z,ty,pos,af,gd⟩ (.slice a n c):=iO (by simp only [pv,h])
theorem vMP {b n:Nat}(h:ev σ z=.pointer (some ⟨b,n,none⟩)):VO X V σ ⟨d',.move z,ty,pos,af,gd⟩ (.pointer (some ⟨b,n,none⟩)):=iO (by simp only [pv,h])
theorem vCI {i:IntKind}{n:Int}(h:ev σ z=.int i n):VO X V σ ⟨d',.assign z,ty,pos,af,gd⟩ (.int i n):=iO (by simp only [pv,h])
theorem vCB {n:Bool}(h:ev σ z=.bool n):VO X V σ ⟨d',.assign z,ty,pos,af,gd⟩ (.bool n):=iO (by simp only [pv,h])
theorem vCS {a:Option Addr}{n c:Nat}(h:ev σ z=.slice a n c):VO X V σ ⟨d',.assign z,ty,pos,af,gd⟩ (.slice a n c):=iO (by simp only [pv,h])
theorem vCP {b n:Nat}(h:ev σ z=.pointer (some ⟨b,n,none⟩)):VO X V σ ⟨d',.assign z,ty,pos,af,gd⟩ (.pointer (some ⟨b,n,none⟩)):=iO (by simp only [pv,h])
theorem vEn {T:TypeId}{x:Operand}{g o n c:Nat}{xs:List Int}{j:Int}[s:HAg P T false](b:ev σ x=.pointer (some ⟨g,o+j.toNat*1,none⟩))(a:zg V (Kind.int .i64) (.slice (some ⟨g,o,none⟩) n c) xs)(h:0≤j∧j<n):VO ⟨P,N,C⟩ V σ ⟨d',.load T x,ty,pos,af,gd⟩ (.int .i64 (ix xs j)):=a.elim fun i a=>gP i s.h a b h
theorem dRx {i:Nat}{rs:List Nat}(tk:Tk i rs){e:Nat}(a:fuel+1=e)(m:ops[i]?=some ⟨some d,op,ty,pos,af,gd⟩)(hw:dY ops σ ⟨some d,op,ty,pos,af,gd⟩=true)(j:iU X.n (some d)=true)(b:Nat.blt i k=true)(r:jx ops k=true)(q:Region.noSelect ops=true)(l:(Region.free .any ops listed i&&(Region.ready .any ops listed).contains i)=true)(g:rmL V rs=V0)(u:VO X V0 σ ⟨some d,op,ty,pos,af,gd⟩ v)(h:Tk (i+1) rs→TD X ops k V0 fuel (listed.setIfInBounds i true) V (kI σ d v) Q):TD X ops k V0 e listed V σ Q :=
  a▸Bh i v m u hw j b r q l (fun w s=>g▸sL rs w s) (h ⟨⟩)
theorem dFx {i:Nat}{rs:List Nat}(tk:Tk i rs){e:Nat}(a:fuel+1=e)(m:ops[i]?=some ⟨some d,op,ty,pos,af,gd⟩)(hw:dY ops σ ⟨some d,op,ty,pos,af,gd⟩=false)(j:iU X.n (some d)=true)(b:Nat.blt i k=true)(r:jx ops k=true)(q:Region.noSelect ops=true)(l:(Region.free .any ops listed i&&(Region.ready .any ops listed).contains i)=true)(g:rmL V rs=V0)(h:Tk (i+1) rs→TD X ops k V0 fuel (listed.setIfInBounds i true) V (kI σ d undef) Q):TD X ops k V0 e listed V σ Q :=
  a▸ws i m hw j b r q l (fun w s=>g▸sL rs w s) (h ⟨⟩)
theorem vWn {T:TypeId}{x:Operand}{b n:Nat}{cs:List Value}{g:Nat}[s:HAg P T true][z:HSz P T n](j:ev σ x=.pointer (some ⟨b,0,none⟩))(a:yM V (aJ b cs g))(e:cs.length=n):VO ⟨P,N,C⟩ V σ ⟨d',.load T x,ty,pos,af,gd⟩ (.agg cs.toArray):=a.elim fun i a=>bN i s.h z.h a j (by rw [List.drop_zero,← e,List.take_length]) e
theorem B6 {A:Type}{a:A→Value×List HP}{fn:Func}{e:Exit}(x:A)(h:∀ w,St X.C w V→St X.C w ((a x).2++V0))(b:(e=.ret∨e=.normal):=by first | exact .inl rfl | exact .inr rfl)(g:fn.results=#[]:=by exact rfl)(i:(a x).1=.tuple #[]:=by exact rfl):TQ X V σ e (mM X.P fn (rI X V0 a)):=cX (rs:=[]) (vs:=[]) b x g trivial i h
theorem ka {A:Type}{g:A→Value×List HP}{fn:Func}{e:Exit}{a b:Nat}{u v:Value}(x:A)(j:∀ w,St X.C w V→St X.C w ((g x).2++V0))(h:(e=.ret∨e=.normal):=by first | exact .inl rfl | exact .inr rfl)(i:fn.results=#[.tmp a,.tmp b]:=by exact rfl)(l:(g x).1=.tuple [u,v].toArray:=by exact rfl)(h1:σ a=u:=by exact rfl)(h2:σ b=v:=by exact rfl):TQ X V σ e (mM X.P fn (rI X V0 g)):=cX (rs:=[.tmp a,.tmp b]) (vs:=[u,v]) h x i ⟨h1,h2,trivial⟩ l j
theorem iL {A:Type}{g:A→Value×List HP}{fn:Func}{e:Exit}{a b c:Nat}{u v y:Value}(x:A)(l:∀ w,St X.C w V→St X.C w ((g x).2++V0))(i:(e=.ret∨e=.normal):=by first | exact .inl rfl | exact .inr rfl)(j:fn.results=#[.tmp a,.tmp b,.tmp c]:=by exact rfl)(m:(g x).1=.tuple [u,v,y].toArray:=by exact rfl)(h1:σ a=u:=by exact rfl)(h2:σ b=v:=by exact rfl)(h:σ c=y:=by exact rfl):TQ X V σ e (mM X.P fn (rI X V0 g)):=cX (rs:=[.tmp a,.tmp b,.tmp c]) (vs:=[u,v,y]) i x j ⟨h1,h2,h,trivial⟩ m l
theorem qS {A:Type}{g:A→Value×List HP}{fn:Func}{e:Exit}{a T b l n:Nat}{cs:List Value}(x:A)(u:∀ w,St C w V→St C w ((g x).2++V0))(q:(e=.ret∨e=.normal):=by first | exact .inl rfl | exact .inr rfl)(s:fn.results=#[.cell a T]:=by exact rfl)(m:σ a=.pointer (some ⟨b,0,none⟩):=by exact rfl)(j:yM V (aJ b cs l):=by first | (with_reducible repeat (first | exact yN | apply yO)); done | repeat (first | exact yN | apply yO))
    (B:(g x).1=.agg cs.toArray:=by exact rfl) (h1:fP P T=some true:=by exact HAg.h) (h2:iK P T=some n:=by exact HSz.h) (r:cs.length=n:=by exact rfl):TQ ⟨P,N,C⟩ V σ e (mM P fn (rI ⟨P,N,C⟩ V0 g)):=j.elim fun i j=>cX (X:=⟨P,N,C⟩) (rs:=[.cell a T]) (vs:=[.agg cs.toArray]) q x s ⟨⟨i,b,cs,l,j,m,.inl ⟨h1,by rw [r]; exact h2,rfl⟩⟩,trivial⟩ B u
theorem vA0 {c:Bool}{x y z:Operand}(a:ev σ x=.bool c)(h:c=false)(b:ev σ z=.bool false):VO X V σ ⟨d',.pick x y z,ty,pos,af,gd⟩ (.bool false):=mA a h b rfl
theorem vO1 {c:Bool}{x y z:Operand}(a:ev σ x=.bool c)(h:c=false)(b:ev σ z=.bool true):VO X V σ ⟨d',.pick x y z,ty,pos,af,gd⟩ (.bool true):=mA a h b rfl
theorem vT1 {c:Bool}{x y z:Operand}(a:ev σ x=.bool c)(h:c=true)(b:ev σ y=.bool true):VO X V σ ⟨d',.pick x y z,ty,pos,af,gd⟩ (.bool true):=mz a h b rfl
theorem vA1 {c:Bool}{x y z:Operand}(a:ev σ x=.bool c)(h:c=true)(b:ev σ y=.bool false):VO X V σ ⟨d',.pick x y z,ty,pos,af,gd⟩ (.bool false):=mz a h b rfl
theorem vN1 {x:Operand}{t:TypeId}(a:ev σ x=.bool true):VO X V σ ⟨d',.unOp .not t x,ty,pos,af,gd⟩ (.bool false):=mf a
theorem vN0 {x:Operand}{t:TypeId}(a:ev σ x=.bool false):VO X V σ ⟨d',.unOp .not t x,ty,pos,af,gd⟩ (.bool true):=mf a
theorem oF {a b:Bool}(h:a=false)(g:b=false):(a||b)=false:=by rw [h,g]; rfl
theorem aT {a b:Bool}(h:a=true)(g:b=true):(a&&b)=true:=by rw [h,g]; rfl
theorem oT2 {a b:Bool}(g:b=true):(a||b)=true:=by rw [g]; cases a<;>rfl
theorem aF2 {a b:Bool}(g:b=false):(a&&b)=false:=by rw [g]; cases a<;>rfl
theorem nT {a:Bool}(h:a=false):(!a)=true:=by rw [h]; rfl
theorem nF {a:Bool}(h:a=true):(!a)=false:=by rw [h]; rfl
theorem bTr {t:Nat}{E:Bool}(h:E=true)(a:σ t=.bool true):σ t=.bool E:=by rw [a,h]
theorem bFa {t:Nat}{E:Bool}(h:E=false)(a:σ t=.bool false):σ t=.bool E:=by rw [a,h]
theorem qj {b:List (Nat×Value)}{a:List HP}(h2:∀ w,St X.C w V→St X.C w a)(h1:lH σ b:=by
    first
    | exact aS R
    | (repeat' (first
        | exact trivial
        | (refine ⟨?_,?_⟩
           · first
             | exact rfl
             | (refine bTr ?_ rfl
                with_reducible repeat' (first | assumption | exact oT (by assumption) | exact oT2 (by assumption) | refine aT ?_ ?_ | refine nT ?_ | exact oT (oT (by assumption)) | refine oT ?_))
             | (refine bFa ?_ rfl
                with_reducible repeat' (first | assumption | exact aF (by assumption) | exact aF2 (by assumption) | refine oF ?_ ?_ | refine nF ?_ | exact aF (aF (by assumption)) | refine aF ?_)))))):TQ X V σ .normal (iN (Jn X (fun _:Unit×Unit=>True) (fun _=>b) (fun _=>a)) Q):=cK ((),()) trivial h1 h2
theorem sZ {k:Operand}{b:Bool}(e:ev σ k=.bool b)(a:¬ b=true)(h:TC X V σ y Q):TC X V σ (.cond k x y) Q:=aX e (by simpa using a) h
theorem Cs {j:Nat}{c:Bool}(h:o.guard=some (j,true))(a:lE ops σ j=some c)(e:c=true):dY ops σ o=true:=mx h a e
theorem Ct {j:Nat}{c:Bool}(h:o.guard=some (j,false))(a:lE ops σ j=some c)(e:c=false):dY ops σ o=true:=mx h a e
theorem Cu {j:Nat}{c:Bool}(h:o.guard=some (j,false))(a:lE ops σ j=some c)(e:c=true):dY ops σ o=false:=l2 h a e
theorem Cv {j:Nat}{c:Bool}(h:o.guard=some (j,true))(a:lE ops σ j=some c)(e:c=false):dY ops σ o=false:=l2 h a e
theorem lOx (hw:dY ops σ ⟨some d,op,ty,pos,af,gd⟩=true)(a:iU X.n (some d)=true)(b:VO X V σ ⟨some d,op,ty,pos,af,gd⟩ v)(h:TL X ops V (kI σ d v) rest Q):TL X ops V σ (⟨some d,op,ty,pos,af,gd⟩::rest) Q:=sJ v b hw a h
theorem lfx (hw:dY ops σ o=false)(a:iU X.n o.dst=true)(h:TL X ops V (gV σ o.dst undef) rest Q):TL X ops V σ (o::rest) Q:=wo a hw h
theorem tI:∀ w,St C w V→St C w V:=fun _ s=>s
theorem tE (n:Nat)(is:List Nat)(h:pQ n is=true:=by exact rfl)(a:yJ n V=true:=by exact rfl):∀ w,St C w V→St C w (is.map (lk V)++dp n V):=fun _ s=>s.sel n is h a
end
theorem gv {X:Cx}{V:List HP}{σ:dI}{o:Oper}{v:Value}(h:VO X V σ o v:=by
  first
  | ((with_reducible apply vMI); exact rfl)
  | ((with_reducible apply vMS); exact rfl)
  | ((with_reducible apply vMB); exact rfl)
  | ((with_reducible apply vMP); exact rfl)
  | ((with_reducible apply vCI); exact rfl)
  | ((with_reducible apply vCS); exact rfl)
  | ((with_reducible apply vCB); exact rfl)
  | ((with_reducible apply vCP); exact rfl)
  | ((with_reducible apply jy)<;>exact rfl)
  | ((with_reducible apply jz)<;>exact rfl)
  | ((with_reducible apply xl)<;>exact rfl)
  | ((with_reducible apply B5)<;>exact rfl)
  | ((with_reducible apply z8)<;>exact rfl)
  | ((with_reducible apply vLe)<;>exact rfl)
  | ((with_reducible apply l8)<;>exact rfl)
  | ((with_reducible apply xm)<;>exact rfl)
  | ((with_reducible apply sg)<;>exact rfl)
  | ((with_reducible apply vLn); exact rfl)
  | ((with_reducible apply vFn)<;>exact rfl)
  | (with_reducible apply vIn
     · exact rfl
     · exact rfl
     · first | with_reducible assumption | assumption)
  | (with_reducible apply vDn
     · exact rfl
     · first | (with_reducible repeat (first | exact yN | apply yO)); done | repeat (first | exact yN | apply yO)
     · exact rfl)
  | (with_reducible apply vEn
     · exact rfl
     · first | (with_reducible repeat (first | exact Cp | exact Cq | apply Cr)); done | repeat (first | exact Cp | exact Cq | apply Cr)
     · first | with_reducible assumption | assumption)
  | (with_reducible apply vWn
     · exact rfl
     · first | (with_reducible repeat (first | exact yN | apply yO)); done | repeat (first | exact yN | apply yO)
     · exact rfl)
  | ((with_reducible apply vN1); exact rfl)
  | ((with_reducible apply vN0); exact rfl)
  | ((with_reducible apply mf); exact rfl)
  | (with_reducible apply vA0
     · exact rfl
     · with_reducible repeat (first | assumption | refine oT ?_ | refine aF ?_)
     · exact rfl)
  | (with_reducible apply vO1
     · exact rfl
     · with_reducible repeat (first | assumption | refine oT ?_ | refine aF ?_)
     · exact rfl)
  | (with_reducible apply vT1
     · exact rfl
     · with_reducible repeat (first | assumption | refine oT ?_ | refine aF ?_)
     · exact rfl)
  | (with_reducible apply vA1
     · exact rfl
     · with_reducible repeat (first | assumption | refine oT ?_ | refine aF ?_)
     · exact rfl)
  | (with_reducible apply fZ
     · exact rfl
     · with_reducible repeat (first | assumption | refine oT ?_ | refine aF ?_)
     · exact rfl)
  | (with_reducible apply ji
     · exact rfl
     · with_reducible repeat (first | assumption | refine oT ?_ | refine aF ?_)
     · exact rfl)
  | exact vI rfl
  | exact vB rfl
  | exact vS rfl
  | exact vP rfl):VO X V σ o v:=h
theorem cE {G H:Prop}(h:H)(s:Hd H→G:=by
  intro a
  first
  | with_reducible refine aI ?_
  | with_reducible refine aB ?_
  | with_reducible refine aE ?_
  | with_reducible refine aD ?_
  | (with_reducible apply lOx
     · first | exact rfl | (refine Cs rfl rfl ?_; (with_reducible repeat (first | assumption | refine oT ?_ | refine aF ?_)); done) | (refine Ct rfl rfl ?_; (with_reducible repeat (first | assumption | refine oT ?_ | refine aF ?_)); done)
     · exact rfl
     · exact gv)
  | (with_reducible apply lfx
     · first | exact rfl | (refine Cu rfl rfl ?_; (with_reducible repeat (first | assumption | refine oT ?_ | refine aF ?_)); done) | (refine Cv rfl rfl ?_; (with_reducible repeat (first | assumption | refine oT ?_ | refine aF ?_)); done)
     · exact rfl)
  | with_reducible refine cB ?_
  | with_reducible refine bS ?_
  | with_reducible refine eL ?_
  | with_reducible refine bO ?_
  | with_reducible refine cR ?_
  | with_reducible refine dU ?_
  | with_reducible refine cT ?_
  | with_reducible refine bP ?_
  | with_reducible refine b' ?_
  | (with_reducible apply bM
     · exact rfl
     · first | with_reducible assumption | assumption)
  | (with_reducible apply sZ
     · exact rfl
     · first | with_reducible assumption | assumption)
  | (with_reducible apply aX
     · exact rfl
     · first | with_reducible assumption | assumption)
  exact a.h):G:=s ⟨h⟩
theorem bA {G H:Prop}(h:H)(s:Hd H→G:=by intro a; (iterate 2 (refine cE ?_)); exact a.h):G:=s ⟨h⟩
theorem aW {G H:Prop}(h:H)(s:Hd H→G:=by intro a; (iterate 3 (refine cE ?_)); exact a.h):G:=s ⟨h⟩
theorem bL {G H:Prop}(h:H)(s:Hd H→G:=by intro a; (iterate 4 (refine cE ?_)); exact a.h):G:=s ⟨h⟩
theorem cU {G H:Prop}(h:H)(s:Hd H→G:=by intro a; (iterate 5 (refine cE ?_)); exact a.h):G:=s ⟨h⟩
theorem cH {G H:Prop}(h:H)(s:Hd H→G:=by intro a; (iterate 6 (refine cE ?_)); exact a.h):G:=s ⟨h⟩
theorem dX {G H:Prop}(h:H)(s:Hd H→G:=by intro a; (iterate 7 (refine cE ?_)); exact a.h):G:=s ⟨h⟩
theorem dM {G H:Prop}(h:H)(s:Hd H→G:=by intro a; (iterate 8 (refine cE ?_)); exact a.h):G:=s ⟨h⟩
theorem dJ {G H:Prop}(h:H)(s:Hd H→G:=by intro a; (iterate 9 (refine cE ?_)); exact a.h):G:=s ⟨h⟩
theorem dH {G H:Prop}(h:H)(s:Hd H→G:=by intro a; (iterate 10 (refine cE ?_)); exact a.h):G:=s ⟨h⟩
theorem j9 {G H:Prop}(h:H)(s:Hd H→G:=by intro a; (iterate 11 (refine cE ?_)); exact a.h):G:=s ⟨h⟩
theorem iZ {G H:Prop}(h:H)(s:Hd H→G:=by intro a; (iterate 12 (refine cE ?_)); exact a.h):G:=s ⟨h⟩
theorem lL {G H:Prop}(h:H)(s:Hd H→G:=by intro a; (iterate 13 (refine cE ?_)); exact a.h):G:=s ⟨h⟩
theorem pa {G H:Prop}(h:H)(s:Hd H→G:=by intro a; (iterate 14 (refine cE ?_)); exact a.h):G:=s ⟨h⟩
theorem pb {G H:Prop}(h:H)(s:Hd H→G:=by intro a; (iterate 15 (refine cE ?_)); exact a.h):G:=s ⟨h⟩
theorem xt {G H:Prop}(h:H)(s:Hd H→G:=by intro a; (iterate 16 (refine cE ?_)); exact a.h):G:=s ⟨h⟩
theorem rL {G H:Prop}(h:H)(s:Hd H→G:=by intro a; (iterate 17 (refine cE ?_)); exact a.h):G:=s ⟨h⟩
theorem zh {G H:Prop}(h:H)(s:Hd H→G:=by intro a; (iterate 18 (refine cE ?_)); exact a.h):G:=s ⟨h⟩
theorem Bn {G H:Prop}(h:H)(s:Hd H→G:=by intro a; (iterate 19 (refine cE ?_)); exact a.h):G:=s ⟨h⟩
theorem Bo {G H:Prop}(h:H)(s:Hd H→G:=by intro a; (iterate 20 (refine cE ?_)); exact a.h):G:=s ⟨h⟩
theorem u' {G H:Prop}(h:H)(s:Hd H→G:=by intro a; (iterate 21 (refine cE ?_)); exact a.h):G:=s ⟨h⟩
theorem zi {G H:Prop}(h:H)(s:Hd H→G:=by intro a; (iterate 22 (refine cE ?_)); exact a.h):G:=s ⟨h⟩
theorem Bp {G H:Prop}(h:H)(s:Hd H→G:=by intro a; (iterate 24 (refine cE ?_)); exact a.h):G:=s ⟨h⟩
theorem xu {G H:Prop}(h:H)(s:Hd H→G:=by intro a; (iterate 31 (refine cE ?_)); exact a.h):G:=s ⟨h⟩
theorem nC {G H:Prop}{i:Nat}{rs:List Nat}(tk:Tk i rs)(h:H)(s:Hd H→G:=by
  intro a
  first
  | (with_reducible apply dRx tk
     · exact rfl
     · exact rfl
     · first | exact rfl | (refine Cs rfl rfl ?_; (with_reducible repeat (first | assumption | refine oT ?_ | refine aF ?_)); done) | (refine Ct rfl rfl ?_; (with_reducible repeat (first | assumption | refine oT ?_ | refine aF ?_)); done)
     · exact rfl
     · exact rfl
     · assumption
     · assumption
     · kernel_rfl
     · exact rfl
     · exact gv)
  | (with_reducible apply dFx tk
     · exact rfl
     · exact rfl
     · first | exact rfl | (refine Cu rfl rfl ?_; (with_reducible repeat (first | assumption | refine oT ?_ | refine aF ?_)); done) | (refine Cv rfl rfl ?_; (with_reducible repeat (first | assumption | refine oT ?_ | refine aF ?_)); done)
     · exact rfl
     · exact rfl
     · assumption
     · assumption
     · kernel_rfl
     · exact rfl)
  exact a.h):G:=s ⟨h⟩
theorem pc {G H:Prop}(i:Nat)(rs:List Nat)(h:H)(s:Tk i rs→Hd H→G:=by intro tk a; (iterate 1 (refine nC tk ?_; clear tk; intro tk)); exact a.h):G:=s ⟨⟩ ⟨h⟩
theorem iC {G H:Prop}(i:Nat)(rs:List Nat)(h:H)(s:Tk i rs→Hd H→G:=by intro tk a; (iterate 2 (refine nC tk ?_; clear tk; intro tk)); exact a.h):G:=s ⟨⟩ ⟨h⟩
theorem iM {G H:Prop}(i:Nat)(rs:List Nat)(h:H)(s:Tk i rs→Hd H→G:=by intro tk a; (iterate 3 (refine nC tk ?_; clear tk; intro tk)); exact a.h):G:=s ⟨⟩ ⟨h⟩
theorem pd {G H:Prop}(i:Nat)(rs:List Nat)(h:H)(s:Tk i rs→Hd H→G:=by intro tk a; (iterate 4 (refine nC tk ?_; clear tk; intro tk)); exact a.h):G:=s ⟨⟩ ⟨h⟩
theorem kM {G H:Prop}(i:Nat)(rs:List Nat)(h:H)(s:Tk i rs→Hd H→G:=by intro tk a; (iterate 5 (refine nC tk ?_; clear tk; intro tk)); exact a.h):G:=s ⟨⟩ ⟨h⟩
theorem t2 {G H:Prop}(i:Nat)(rs:List Nat)(h:H)(s:Tk i rs→Hd H→G:=by intro tk a; (iterate 6 (refine nC tk ?_; clear tk; intro tk)); exact a.h):G:=s ⟨⟩ ⟨h⟩
theorem t6 {G H:Prop}(i:Nat)(rs:List Nat)(h:H)(s:Tk i rs→Hd H→G:=by intro tk a; (iterate 7 (refine nC tk ?_; clear tk; intro tk)); exact a.h):G:=s ⟨⟩ ⟨h⟩
theorem v6 {G H:Prop}(i:Nat)(rs:List Nat)(h:H)(s:Tk i rs→Hd H→G:=by intro tk a; (iterate 8 (refine nC tk ?_; clear tk; intro tk)); exact a.h):G:=s ⟨⟩ ⟨h⟩
theorem wu {G H:Prop}(i:Nat)(rs:List Nat)(h:H)(s:Tk i rs→Hd H→G:=by intro tk a; (iterate 9 (refine nC tk ?_; clear tk; intro tk)); exact a.h):G:=s ⟨⟩ ⟨h⟩
theorem rM {G H:Prop}(i:Nat)(rs:List Nat)(h:H)(s:Tk i rs→Hd H→G:=by intro tk a; (iterate 10 (refine nC tk ?_; clear tk; intro tk)); exact a.h):G:=s ⟨⟩ ⟨h⟩
theorem pS {G H:Prop}(i:Nat)(rs:List Nat)(h:H)(s:Tk i rs→Hd H→G:=by intro tk a; (iterate 11 (refine nC tk ?_; clear tk; intro tk)); exact a.h):G:=s ⟨⟩ ⟨h⟩
theorem v7 {G H:Prop}(i:Nat)(rs:List Nat)(h:H)(s:Tk i rs→Hd H→G:=by intro tk a; (iterate 12 (refine nC tk ?_; clear tk; intro tk)); exact a.h):G:=s ⟨⟩ ⟨h⟩
theorem mY {G H:Prop}(i:Nat)(rs:List Nat)(h:H)(s:Tk i rs→Hd H→G:=by intro tk a; (iterate 13 (refine nC tk ?_; clear tk; intro tk)); exact a.h):G:=s ⟨⟩ ⟨h⟩
theorem v8 {G H:Prop}(i:Nat)(rs:List Nat)(h:H)(s:Tk i rs→Hd H→G:=by intro tk a; (iterate 14 (refine nC tk ?_; clear tk; intro tk)); exact a.h):G:=s ⟨⟩ ⟨h⟩
theorem xv {G H:Prop}(i:Nat)(rs:List Nat)(h:H)(s:Tk i rs→Hd H→G:=by intro tk a; (iterate 15 (refine nC tk ?_; clear tk; intro tk)); exact a.h):G:=s ⟨⟩ ⟨h⟩
theorem Bq {G H:Prop}(i:Nat)(rs:List Nat)(h:H)(s:Tk i rs→Hd H→G:=by intro tk a; (iterate 16 (refine nC tk ?_; clear tk; intro tk)); exact a.h):G:=s ⟨⟩ ⟨h⟩
theorem zj {G H:Prop}(i:Nat)(rs:List Nat)(h:H)(s:Tk i rs→Hd H→G:=by intro tk a; (iterate 17 (refine nC tk ?_; clear tk; intro tk)); exact a.h):G:=s ⟨⟩ ⟨h⟩
theorem zl {G H:Prop}(i:Nat)(rs:List Nat)(h:H)(s:Tk i rs→Hd H→G:=by intro tk a; (iterate 19 (refine nC tk ?_; clear tk; intro tk)); exact a.h):G:=s ⟨⟩ ⟨h⟩
theorem t7 {G H:Prop}(i:Nat)(rs:List Nat)(h:H)(s:Tk i rs→Hd H→G:=by intro tk a; (iterate 20 (refine nC tk ?_; clear tk; intro tk)); exact a.h):G:=s ⟨⟩ ⟨h⟩
theorem Br {G H:Prop}(i:Nat)(rs:List Nat)(h:H)(s:Tk i rs→Hd H→G:=by intro tk a; (iterate 23 (refine nC tk ?_; clear tk; intro tk)); exact a.h):G:=s ⟨⟩ ⟨h⟩
theorem Bs {G H:Prop}(i:Nat)(rs:List Nat)(h:H)(s:Tk i rs→Hd H→G:=by intro tk a; (iterate 24 (refine nC tk ?_; clear tk; intro tk)); exact a.h):G:=s ⟨⟩ ⟨h⟩
end Go.Pg
