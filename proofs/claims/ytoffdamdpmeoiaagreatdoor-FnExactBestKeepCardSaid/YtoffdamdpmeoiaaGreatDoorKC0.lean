import Derived.Test.YtoffdamdpmeoiaaGreatDoorPL1
set_option linter.unusedVariables false
set_option linter.unusedSimpArgs false
namespace Go.Pg
open Go
def su (f:Nat→Int):Nat→Int
 | 0=>0
 | k+1=>su f k+f k
theorem rp (f g:Nat→Int):∀ n,su (fun k=>f k+g k) n=su f n+su g n
 | 0=>rfl
 | n+1=>by simp only [su]; rw [rp f g n]; omega
theorem mU {f:Nat→Int}:∀ {n:Nat},(∀ k,k<n→f k=0)→su f n=0
 | 0,_=>rfl
 | n+1,h=>by simp only [su]; rw [mU (n:=n) fun k hk=>h k (by omega),h n (by omega)]; rfl
theorem q8 {f g:Nat→Int}:∀ {n:Nat},(∀ k,k<n→f k=g k)→su f n=su g n
 | 0,_=>rfl
 | n+1,h=>by simp only [su]; rw [q8 (n:=n) fun k hk=>h k (by omega),h n (by omega)]
theorem qa {f:Nat→Int}{B:Int}:∀ {n:Nat},(∀ k,k<n→0≤f k∧f k≤B)→0≤su f n∧su f n≤B*(n:Int)
 | 0,_=>by simp [su]
 | n+1,h=>by
  have h1:=qa (n:=n) (B:=B) fun k hk=>h k (by omega)
  have h2:=h n (by omega)
  have e:B*((n+1:Nat):Int)=B*(n:Int)+B:=by rw [Int.natCast_add,Int.mul_add]; simp
  simp only [su]
  rw [e]; omega
theorem rq (c:Int)(j:Nat):∀ q:Nat,su (fun s=>if j=s then c else 0) q=if j<q then c else 0
 | 0=>rfl
 | q+1=>by
  simp only [su]
  rw [rq c j q]
  by_cases a:j<q
  ·rw [if_pos a,if_neg (by omega),if_pos (by omega)]; omega
  ·by_cases b:j=q
   ·rw [if_neg a,if_pos b,if_pos (by omega)]; omega
   ·rw [if_neg a,if_neg b,if_neg (by omega)]; rfl
theorem sw (st:Nat→Nat)(f:Nat→Int)(q:Nat):∀ {n:Nat},(∀ k,k<n→st k<q)→su (fun s=>su (fun k=>if st k=s then f k else 0) n) q=su f n
 | 0,_=>mU fun _ _=>rfl
 | n+1,h=>by
  simp only [su]
  rw [rp,sw st f q (n:=n) fun k hk=>h k (by omega),rq,if_pos (h n (by omega))]
def mx (f:Nat→Int):Nat→Int
 | 0=>0
 | k+1=>if f k>mx f k then f k else mx f k
theorem qb (f:Nat→Int):∀ n,0≤mx f n
 | 0=>Int.le_refl _
 | n+1=>by have:=qb f n; simp only [mx]; split<;>omega
theorem vi {f:Nat→Int}{B:Int}(a:0≤B):∀ {n:Nat},(∀ k,k<n→f k≤B)→mx f n≤B
 | 0,_=>a
 | n+1,h=>by
  have h1:=vi a (n:=n) fun k hk=>h k (by omega)
  have h2:=h n (by omega)
  simp only [mx]; split<;>omega
theorem sx {f:Nat→Int}{q:Nat}:∀ (d:Nat),(∀ k,q≤k→f k=0)→mx f (q+d)=mx f q
 | 0,_=>rfl
 | d+1,h=>by
  have:=sx d h
  have e:mx f (q+(d+1))=if f (q+d)>mx f (q+d) then f (q+d) else mx f (q+d):=rfl
  rw [e,h (q+d) (by omega),this]
  have:=qb f q
  rw [if_neg (by omega)]
theorem qc {f g:Nat→Int}:∀ {n:Nat},(∀ k,k<n→f k=g k)→mx f n=mx g n
 | 0,_=>rfl
 | n+1,h=>by simp only [mx]; rw [qc (n:=n) fun k hk=>h k (by omega),h n (by omega)]
end Go.Pg
