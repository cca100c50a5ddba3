import Derived.Test.YthfhllekobdelaaGreatDoorCvH
set_option linter.unusedVariables false
namespace Go.Proofs.YthfhllekobdelaaGreatDoor
open Go Go.Pg
noncomputable section
def Z1v (a : (List Int)) : Option (Bool) :=
 some (decide ((a.length : Int) > (1048576 : Int)))
def Z0h_J1 (a : (List Int)) (b : Int) : Option (l1Cur) :=
 some (⟨a, (0 : Int), b⟩ : l1Cur)
def Z0h_L1 (a : (List Int)) (e : Int) (b : Int) : Option ((Int × Int) ⊕ (Int)) :=
 if ((decide (b < (a.length : Int))) && (decide (b < (4000 : Int)))) = true then (
 if (0 ≤ b ∧ b < (a.length : Int)) then
 some (.inl ((bits .and .i64 (aG ((aG ((aG (e * (131 : Int))) + (aG ((ix a b))))) + (7 : Int))) (1073741823 : Int)), (aG (b + (1 : Int)))))
 else none)
 else (
 some (.inr e))
def Z0h (a : (List Int)) : Option (l1Cur) :=
 (bC (fun s : Int × Int => Z0h_L1 a s.1 s.2) ((aG ((71933 : Int) + (a.length : Int))), (0 : Int))).bind fun e => Z0h_J1 a e
def Z02_J1 (c1 : l1Cur) (e : Int) (a : Int) : Option (Int × l1Cur) :=
 some (e, (⟨c1.b, a, (aG ((aG (c1.h_ * (6364136223846793005 : Int))) + (1442695040888963407 : Int)))⟩ : l1Cur))
def Z02 (c1 : l1Cur) : Option (Int × l1Cur) :=
 if (decide (c1.i < (c1.b.length : Int))) = true then (
 if (0 ≤ c1.i ∧ c1.i < (c1.b.length : Int)) then
 Z02_J1 c1 (bits .and .i64 (aG ((bits .and .i64 (bits .xor .i64 ((aG ((aG (c1.h_ * (6364136223846793005 : Int))) + (1442695040888963407 : Int))) / 2 ^ (33 : Int).toNat) ((aG ((aG (c1.h_ * (6364136223846793005 : Int))) + (1442695040888963407 : Int))) / 2 ^ (45 : Int).toNat)) (255 : Int)) + (aG ((ix c1.b c1.i))))) (255 : Int)) (aG (c1.i + (1 : Int)))
 else none)
 else (
 Z02_J1 c1 (bits .and .i64 (bits .xor .i64 ((aG ((aG (c1.h_ * (6364136223846793005 : Int))) + (1442695040888963407 : Int))) / 2 ^ (33 : Int).toNat) ((aG ((aG (c1.h_ * (6364136223846793005 : Int))) + (1442695040888963407 : Int))) / 2 ^ (45 : Int).toNat)) (255 : Int)) c1.i)
def Z8 (c1 : l1Cur) (a : Int) : Option (Int × l1Cur) :=
 if (decide (a ≤ (0 : Int))) = true then (
 some ((0 : Int), c1))
 else (
 if (decide (a ≤ (256 : Int))) = true then (
 (Z02 c1).bind fun i =>
 if a ≠ 0 then
 some ((i.1.tmod a), i.2)
 else none)
 else (
 (Z02 c1).bind fun b =>
 (Z02 b.2).bind fun e =>
 (Z02 e.2).bind fun g =>
 (Z02 g.2).bind fun h =>
 if a ≠ 0 then
 some (((aG ((aG ((aG ((aG (b.1 * (16777216 : Int))) + (aG (e.1 * (65536 : Int))))) + (aG (g.1 * (256 : Int))))) + h.1)).tmod a), h.2)
 else none))
def Z0k (a : (List Int)) : Option ((List Int)) :=
 if ([] : List Int).length + a.length ≤ 17592186044416 then
 some (([] : List Int) ++ a)
 else none
def Zj_J1 (a : Int) : Option (Int) :=
 some a
def Zj_L1 (a : (List Int)) (e : Int) (b : Int) : Option ((Int × Int) ⊕ ((Int) ⊕ (Int))) :=
 if (decide (b < (a.length : Int))) = true then (
 if (0 ≤ b ∧ b < (a.length : Int)) then
 if ((decide ((ix a b) < (1 : Int))) || (decide ((ix a b) > (4096 : Int)))) = true then (
 some (.inr (.inl (0 : Int))))
 else (
 if (decide ((aG (e * (ix a b))) > (4096 : Int))) = true then (
 some (.inr (.inl (0 : Int))))
 else (
 some (.inl ((aG (e * (ix a b))), (aG (b + (1 : Int)))))))
 else none)
 else (
 some (.inr (.inr e)))
def Zj (a : (List Int)) : Option (Int) :=
 (bC (fun s : Int × Int => Zj_L1 a s.1 s.2) ((1 : Int), (0 : Int))).bind fun e => match e with
 | .inl e => some e
 | .inr e => Zj_J1 e
def Z0m (a : (List Int)) : Option (Tensor) :=
 (Z0k a).bind fun e =>
 (Zj a).bind fun b =>
 if (0 ≤ b ∧ b ≤ 140737488355328 ∧ 8 * b ≤ 281474976710656) then
 some (⟨e, (List.replicate b.toNat (0 : Int))⟩ : Tensor)
 else none
def Z0u (c1 : l1Cur) (b : Int) : Option (Bool × l1Cur) :=
 (Z8 c1 b).bind fun a =>
 some ((a.1 == (0 : Int)), a.2)
def Zi_J1 (a : Int) : Option (Int) :=
 some a
def Zi (p1 : Int) : Option (Int) :=
 if (decide ((p1.tmod (2147483647 : Int)) < (0 : Int))) = true then (
 Zi_J1 (aG ((p1.tmod (2147483647 : Int)) + (2147483647 : Int))))
 else (
 Zi_J1 (p1.tmod (2147483647 : Int)))
def Z0l (a : Int) (b : Int) : Option (Int) :=
 (Zi a).bind fun e =>
 (Zi b).bind fun g =>
 (Zi (aG (e * g))).bind fun h =>
 some h
def Zs_J1 (a : Int) : Option (Int) :=
 some a
def Zs_S (i : Int → Int → Option (Int)) (b : Int) (a : Int) : Option (Int) :=
 if (a == (0 : Int)) = true then (
 some (1 : Int))
 else (
 (i b (aG (a.tdiv (2 : Int)))).bind fun e =>
 (Z0l e e).bind fun g =>
 if ((a.tmod (2 : Int)) == (1 : Int)) = true then (
 (Z0l g b).bind fun h =>
 Zs_J1 h)
 else (
 Zs_J1 g))
def Zs_R : Nat → Int → Int → Option (Int)
 | 0 => fun _ _ => none
 | n + 1 => Zs_S (Zs_R n)
def Zs (a : Int) (b : Int) : Option (Int) := Zs_R jx a b
def Z1w (a : Int) : Option (Int) :=
 (Zi a).bind fun b =>
 (Zs b (2147483645 : Int)).bind fun e =>
 some e
def Z1j (a : Int) (b : Int) : Option (Int) :=
 (Z1w b).bind fun e =>
 (Z0l a e).bind fun g =>
 some g
def Z1i (a : Int) (b : Int) : Option (Int) :=
 (Zi a).bind fun e =>
 (Zi b).bind fun g =>
 (Zi (aG (e - g))).bind fun h =>
 some h
def Z10 (c1 : l1Cur) (a : (List Int)) : Option (Int × l1Cur) :=
 (Z8 c1 (a.length : Int)).bind fun b =>
 if (0 ≤ b.1 ∧ b.1 < (a.length : Int)) then
 some ((ix a b.1), b.2)
 else none
def Z1k (c1 : l1Cur) : Option (Int × l1Cur) :=
 (Z8 c1 (8 : Int)).bind fun a =>
 if (a.1 == (0 : Int)) = true then (
 (Z8 a.2 (20 : Int)).bind fun q =>
 (Z8 q.2 (9 : Int)).bind fun b =>
 (Z1j q.1 (aG ((1 : Int) + b.1))).bind fun j =>
 some (j, b.2))
 else (
 if (a.1 == (1 : Int)) = true then (
 (Z8 a.2 (9 : Int)).bind fun e =>
 (Z1i (0 : Int) e.1).bind fun m =>
 some (m, e.2))
 else (
 if (a.1 == (2 : Int)) = true then (
 (Z8 a.2 (2147483647 : Int)).bind fun g =>
 some (g.1, g.2))
 else (
 if (a.1 == (3 : Int)) = true then (
 (Z10 a.2 ([(0 : Int), (1 : Int), (2147483646 : Int), (1073741823 : Int), (1073741824 : Int), (32767 : Int), (32768 : Int)] : List Int)).bind fun h =>
 some (h.1, h.2))
 else (
 (Z8 a.2 (7 : Int)).bind fun i =>
 some (i.1, i.2)))))
def Zp_J3 (h : Tensor) (g : (List Int)) (a : (List Int)) (b : Int) (e : Int) : Option (Tensor × l1Cur) :=
 some ((⟨h.Dims, g⟩ : Tensor), (⟨a, b, e⟩ : l1Cur))
def Zp_J2 (g : Int) (a : (List Int)) (b : Int) (e : Int) (h : (List Int)) : Option (((List Int) × Int × Int × (List Int) × Int) ⊕ ((List Int) × (List Int) × Int × Int)) :=
 some (.inl (a, b, e, h, (aG (g + (1 : Int)))))
def Zp_L1 (D : Tensor) (m : (List Int)) (q : Int) (u : Int) (j : (List Int)) (a : Int) : Option (((List Int) × Int × Int × (List Int) × Int) ⊕ ((List Int) × (List Int) × Int × Int)) :=
 if (decide (a < (D.Data.length : Int))) = true then (
 (Z8 (⟨m, q, u⟩ : l1Cur) (7 : Int)).bind fun h =>
 if (0 ≤ a ∧ a < (D.Data.length : Int)) then
 (Z0u h.2 (3 : Int)).bind fun e =>
 if e.1 = true then (
 (Z1k e.2).bind fun g =>
 Zp_J2 a g.2.b g.2.i g.2.h_ ((j.set a.toNat h.1).set a.toNat g.1))
 else (
 Zp_J2 a e.2.b e.2.i e.2.h_ (j.set a.toNat h.1))
 else none)
 else (
 some (.inr (j, m, q, u)))
def Zp (c1 : l1Cur) (a : (List Int)) : Option (Tensor × l1Cur) :=
 (Z0m a).bind fun g =>
 (bC (fun s : (List Int) × Int × Int × (List Int) × Int => Zp_L1 g s.1 s.2.1 s.2.2.1 s.2.2.2.1 s.2.2.2.2) (c1.b, c1.i, c1.h_, g.Data, (0 : Int))).bind fun e => Zp_J3 g e.1 e.2.1 e.2.2.1 e.2.2.2
def Z09_J1 (g : (List Int)) (h : (List Int)) (a : (List Int)) (b : Int) (e : Int) : Option (Tensor × l1Cur) :=
 some ((⟨g, h⟩ : Tensor), (⟨a, b, e⟩ : l1Cur))
def Z09 (c1 : l1Cur) (t4 : Tensor) : Option (Tensor × l1Cur) :=
 (Z0u c1 (40 : Int)).bind fun g =>
 if g.1 = true then (
 (Z8 g.2 (4 : Int)).bind fun a =>
 if (a.1 == (0 : Int)) = true then (
 if t4.Data.length + ([(1 : Int)] : List Int).length ≤ 17592186044416 then
 Z09_J1 t4.Dims (t4.Data ++ ([(1 : Int)] : List Int)) a.2.b a.2.i a.2.h_
 else none)
 else (
 if (a.1 == (1 : Int)) = true then (
 if (decide ((t4.Data.length : Int) > (0 : Int))) = true then (
 (Z10 a.2 ([(-1 : Int), (2147483647 : Int)] : List Int)).bind fun e =>
 if (0 ≤ (0 : Int) ∧ (0 : Int) < (t4.Data.length : Int)) then
 Z09_J1 t4.Dims (t4.Data.set (0 : Int).toNat e.1) e.2.b e.2.i e.2.h_
 else none)
 else (
 Z09_J1 t4.Dims t4.Data a.2.b a.2.i a.2.h_))
 else (
 if (a.1 == (2 : Int)) = true then (
 if t4.Dims.length + ([(0 : Int)] : List Int).length ≤ 17592186044416 then
 Z09_J1 (t4.Dims ++ ([(0 : Int)] : List Int)) t4.Data a.2.b a.2.i a.2.h_
 else none)
 else (
 if (a.1 == (3 : Int)) = true then (
 Z09_J1 ([] : List Int) ([] : List Int) a.2.b a.2.i a.2.h_)
 else (
 Z09_J1 t4.Dims t4.Data a.2.b a.2.i a.2.h_)))))
 else (
 Z09_J1 t4.Dims t4.Data g.2.b g.2.i g.2.h_)
def Zz_J2 (j : Tensor × l1Cur) (m : Tensor × l1Cur) (i : Int) (e : (List Int)) (g : Int) (h : Int) (a : Int) : Option (Tensor × Tensor × Int × Int × Int × Int) :=
 (Z8 (⟨e, g, h⟩ : l1Cur) (3 : Int)).bind fun b =>
 (Z8 b.2 (2 : Int)).bind fun q =>
 some (j.1, m.1, (aG ((1 : Int) + b.1)), a, (aG ((1 : Int) + q.1)), i)
def Zz_J1 (h : Tensor × l1Cur) (j : Tensor × l1Cur) (q : (List Int)) (u : Int) (D : Int) (g : Int) : Option (Tensor × Tensor × Int × Int × Int × Int) :=
 (Z8 (⟨q, u, D⟩ : l1Cur) (3 : Int)).bind fun m =>
 (Z0u m.2 (40 : Int)).bind fun a =>
 if a.1 = true then (
 (Z10 a.2 ([(-1 : Int), (4096 : Int), (4097 : Int)] : List Int)).bind fun e =>
 Zz_J2 h j g e.2.b e.2.i e.2.h_ e.1)
 else (
 Zz_J2 h j g a.2.b a.2.i a.2.h_ m.1)
def Zz (e : (List Int)) : Option (Tensor × Tensor × Int × Int × Int × Int) :=
 (Z0h e).bind fun L =>
 (Z8 L (2 : Int)).bind fun J =>
 (Z8 J.2 (2 : Int)).bind fun g =>
 (Z8 g.2 (2 : Int)).bind fun m =>
 (Z8 m.2 (5 : Int)).bind fun q =>
 (Z8 q.2 (5 : Int)).bind fun u =>
 (Zp u.2 ([(aG ((1 : Int) + m.1)), (aG ((aG ((1 : Int) + J.1)) * (aG ((1 : Int) + g.1)))), (aG ((1 : Int) + q.1)), (aG ((1 : Int) + u.1))] : List Int)).bind fun D =>
 (Z09 D.2 D.1).bind fun h =>
 (Z8 h.2 (2 : Int)).bind fun E =>
 (Z8 E.2 (3 : Int)).bind fun F =>
 (Z8 F.2 (3 : Int)).bind fun G =>
 (Zp G.2 ([(aG ((aG ((1 : Int) + J.1)) * (aG ((1 : Int) + E.1)))), (aG ((1 : Int) + g.1)), (aG ((1 : Int) + F.1)), (aG ((1 : Int) + G.1))] : List Int)).bind fun I =>
 (Z09 I.2 I.1).bind fun j =>
 (Z0u j.2 (30 : Int)).bind fun a =>
 if a.1 = true then (
 Zz_J1 h j a.2.b a.2.i a.2.h_ (aG ((aG ((1 : Int) + J.1)) + (1 : Int))))
 else (
 Zz_J1 h j a.2.b a.2.i a.2.h_ (aG ((1 : Int) + J.1)))
def Zg_J1 (a : (List Int)) : Option (Bool) :=
 some (decide ((a.length : Int) ≤ (6 : Int)))
def Zg_L1 (a : (List Int)) (e : Int) (b : Int) : Option ((Int × Int) ⊕ ((Bool) ⊕ (Unit))) :=
 if (decide (b < (a.length : Int))) = true then (
 if (0 ≤ b ∧ b < (a.length : Int)) then
 if ((decide ((ix a b) < (1 : Int))) || (decide ((ix a b) > (4096 : Int)))) = true then (
 some (.inr (.inl false)))
 else (
 if (decide ((aG (e * (ix a b))) > (4096 : Int))) = true then (
 some (.inr (.inl false)))
 else (
 some (.inl ((aG (e * (ix a b))), (aG (b + (1 : Int)))))))
 else none)
 else (
 some (.inr (.inr ())))
def Zg (a : (List Int)) : Option (Bool) :=
 (bC (fun s : Int × Int => Zg_L1 a s.1 s.2) ((1 : Int), (0 : Int))).bind fun e => match e with
 | .inl e => some e
 | .inr e => Zg_J1 a
def Zy (a : List Int) : Option (List Int) :=
 if a.length ≤ 17592186044416 then some a else none
def Zd_J1 (a : Int) : Option (Int) :=
 some a
def Zd_L1 (a : (List Int)) (e : Int) (b : Int) : Option ((Int × Int) ⊕ (Int)) :=
 if (decide (b < (a.length : Int))) = true then (
 if (0 ≤ b ∧ b < (a.length : Int)) then
 some (.inl ((aG (e * (ix a b))), (aG (b + (1 : Int)))))
 else none)
 else (
 some (.inr e))
def Zd (a : (List Int)) : Option (Int) :=
 (bC (fun s : Int × Int => Zd_L1 a s.1 s.2) ((1 : Int), (0 : Int))).bind fun e => Zd_J1 e
def Z0z (a : (List Int)) : Option (Tensor) :=
 (Zg a).bind fun e =>
 if (!e) = true then (
 some (⟨([] : List Int), ([] : List Int)⟩ : Tensor))
 else (
 (Zy a).bind fun g =>
 (Zd a).bind fun b =>
 if (0 ≤ b ∧ b ≤ 140737488355328 ∧ 8 * b ≤ 281474976710656) then
 some (⟨g, (List.replicate b.toNat (0 : Int))⟩ : Tensor)
 else none)
def Z0y_J1 (a : Int) : Option (Int) :=
 some a
def Z0y (p1 : Int) : Option (Int) :=
 if (decide ((p1.tmod (2147483647 : Int)) < (0 : Int))) = true then (
 Z0y_J1 (aG ((p1.tmod (2147483647 : Int)) + (2147483647 : Int))))
 else (
 Z0y_J1 (p1.tmod (2147483647 : Int)))
def Z0i_J1 (b : Tensor) (a : (List Int)) : Option (Tensor) :=
 some (⟨b.Dims, a⟩ : Tensor)
def Z0i_L1 (h : Int) (g : Tensor) (b : (List Int)) (a : Int) : Option (((List Int) × Int) ⊕ ((List Int))) :=
 if (decide (a < (g.Data.length : Int))) = true then (
 (Z0y h).bind fun e =>
 if (0 ≤ a ∧ a < (g.Data.length : Int)) then
 some (.inl ((b.set a.toNat e), (aG (a + (1 : Int)))))
 else none)
 else (
 some (.inr b))
def Z0i (a : (List Int)) (g : Int) : Option (Tensor) :=
 (Z0z a).bind fun b =>
 (bC (fun s : (List Int) × Int => Z0i_L1 g b s.1 s.2) (b.Data, (0 : Int))).bind fun e => Z0i_J1 b e
def Z1q (p1 : Int) : Option (Bool) :=
 some ((decide (p1 ≥ (0 : Int))) && (decide (p1 < (2147483647 : Int))))
def Z0a_J1 : Option (Bool) :=
 some true
def Z0a_L1 (b : (List Int)) (a : Int) : Option ((Int) ⊕ ((Bool) ⊕ (Unit))) :=
 if (decide (a < (b.length : Int))) = true then (
 if (0 ≤ a ∧ a < (b.length : Int)) then
 (Z1q (ix b a)).bind fun e =>
 if (!e) = true then (
 some (.inr (.inl false)))
 else (
 some (.inl (aG (a + (1 : Int)))))
 else none)
 else (
 some (.inr (.inr ())))
def Z0a (a : (List Int)) : Option (Bool) :=
 (bC (fun s : Int => Z0a_L1 a s) (0 : Int)).bind fun e => match e with
 | .inl e => some e
 | .inr e => Z0a_J1
def Z0r (t1 : Tensor) : Option (Bool) :=
 (Zg t1.Dims).bind fun a =>
 (cT a (Zd t1.Dims)).bind fun b =>
 (cT (a && ((t1.Data.length : Int) == b)) (Z0a t1.Data)).bind fun e =>
 some ((a && ((t1.Data.length : Int) == b)) && e)
def Zq_J1 : Option (Bool) :=
 some true
def Zq_L1 (b : (List Tensor)) (a : Int) : Option ((Int) ⊕ ((Bool) ⊕ (Unit))) :=
 if (decide (a < (b.length : Int))) = true then (
 if (0 ≤ a ∧ a < (b.length : Int)) then
 (Z0r (ix b a)).bind fun e =>
 if (!e) = true then (
 some (.inr (.inl false)))
 else (
 some (.inl (aG (a + (1 : Int)))))
 else none)
 else (
 some (.inr (.inr ())))
def Zq (a : (List Tensor)) : Option (Bool) :=
 (bC (fun s : Int => Zq_L1 a s) (0 : Int)).bind fun e => match e with
 | .inl e => some e
 | .inr e => Zq_J1
def Z0t (p1 : Int) (b : Int) (a : Int) : Option (Bool) :=
 some ((decide (p1 ≥ b)) && (decide (p1 ≤ a)))
def Z0w (f1 : filter) : Option ((List Int)) :=
 some ([f1.sizes.n, f1.sizes.o, f1.oh, f1.ow] : List Int)
def Z15 (p1 : (List Int)) (h : (List Int)) (a : Int) (g : Int) (e : Int) (b : Int) : Option (filter × Bool) :=
 (cT (!(((p1.length : Int) != (4 : Int)) || ((h.length : Int) != (4 : Int)))) (Z0t a (1 : Int) (4096 : Int))).bind fun i =>
 (cT (!((((p1.length : Int) != (4 : Int)) || ((h.length : Int) != (4 : Int))) || (!i))) (Z0t e (1 : Int) (4096 : Int))).bind fun j =>
 (cT (!(((((p1.length : Int) != (4 : Int)) || ((h.length : Int) != (4 : Int))) || (!i)) || (!j))) (Z0t b (1 : Int) (4096 : Int))).bind fun q =>
 (cT (!((((((p1.length : Int) != (4 : Int)) || ((h.length : Int) != (4 : Int))) || (!i)) || (!j)) || (!q))) (Z0t g (0 : Int) (4096 : Int))).bind fun u =>
 if (((((((p1.length : Int) != (4 : Int)) || ((h.length : Int) != (4 : Int))) || (!i)) || (!j)) || (!q)) || (!u)) = true then (
 some ((⟨(⟨(0 : Int), (0 : Int), (0 : Int), (0 : Int), (0 : Int), (0 : Int), (0 : Int), (0 : Int)⟩ : sizes), (0 : Int), (0 : Int), (0 : Int), (0 : Int), (0 : Int), (0 : Int)⟩ : filter), false))
 else (
 if (0 ≤ (0 : Int) ∧ (0 : Int) < (p1.length : Int)) then
 if (0 ≤ (1 : Int) ∧ (1 : Int) < (p1.length : Int)) then
 if (0 ≤ (2 : Int) ∧ (2 : Int) < (p1.length : Int)) then
 if (0 ≤ (3 : Int) ∧ (3 : Int) < (p1.length : Int)) then
 if (0 ≤ (0 : Int) ∧ (0 : Int) < (h.length : Int)) then
 if (0 ≤ (1 : Int) ∧ (1 : Int) < (h.length : Int)) then
 if (0 ≤ (2 : Int) ∧ (2 : Int) < (h.length : Int)) then
 if (0 ≤ (3 : Int) ∧ (3 : Int) < (h.length : Int)) then
 if ((ix p1 (1 : Int)) != (aG ((ix h (1 : Int)) * b))) = false → b ≠ 0 then
 if (((((ix p1 (1 : Int)) != (aG ((ix h (1 : Int)) * b))) || (((ix h (0 : Int)).tmod b) != (0 : Int))) || (decide ((aG ((aG ((aG ((ix p1 (2 : Int)) + (aG ((2 : Int) * g)))) - (aG (e * (aG ((ix h (2 : Int)) - (1 : Int))))))) - (1 : Int))) < (0 : Int)))) || (decide ((aG ((aG ((aG ((ix p1 (3 : Int)) + (aG ((2 : Int) * g)))) - (aG (e * (aG ((ix h (3 : Int)) - (1 : Int))))))) - (1 : Int))) < (0 : Int)))) = true then (
 some ((⟨(⟨(0 : Int), (0 : Int), (0 : Int), (0 : Int), (0 : Int), (0 : Int), (0 : Int), (0 : Int)⟩ : sizes), (0 : Int), (0 : Int), (0 : Int), (0 : Int), (0 : Int), (0 : Int)⟩ : filter), false))
 else (
 if a ≠ 0 then
 (Z0w (⟨(⟨(ix p1 (0 : Int)), (ix p1 (1 : Int)), (ix p1 (2 : Int)), (ix p1 (3 : Int)), (ix h (0 : Int)), (ix h (1 : Int)), (ix h (2 : Int)), (ix h (3 : Int))⟩ : sizes), a, g, e, b, (aG ((aG ((aG ((aG ((aG ((ix p1 (2 : Int)) + (aG ((2 : Int) * g)))) - (aG (e * (aG ((ix h (2 : Int)) - (1 : Int))))))) - (1 : Int))).tdiv a)) + (1 : Int))), (aG ((aG ((aG ((aG ((aG ((ix p1 (3 : Int)) + (aG ((2 : Int) * g)))) - (aG (e * (aG ((ix h (3 : Int)) - (1 : Int))))))) - (1 : Int))).tdiv a)) + (1 : Int)))⟩ : filter)).bind fun D =>
 (Zg D).bind fun m =>
 (cT (!(!m)) (Z0w (⟨(⟨(ix p1 (0 : Int)), (ix p1 (1 : Int)), (ix p1 (2 : Int)), (ix p1 (3 : Int)), (ix h (0 : Int)), (ix h (1 : Int)), (ix h (2 : Int)), (ix h (3 : Int))⟩ : sizes), a, g, e, b, (aG ((aG ((aG ((aG ((aG ((ix p1 (2 : Int)) + (aG ((2 : Int) * g)))) - (aG (e * (aG ((ix h (2 : Int)) - (1 : Int))))))) - (1 : Int))).tdiv a)) + (1 : Int))), (aG ((aG ((aG ((aG ((aG ((ix p1 (3 : Int)) + (aG ((2 : Int) * g)))) - (aG (e * (aG ((ix h (3 : Int)) - (1 : Int))))))) - (1 : Int))).tdiv a)) + (1 : Int)))⟩ : filter))).bind fun E =>
 (cT (!(!m)) (Zd E)).bind fun F =>
 if ((!m) || (decide ((aG ((aG ((aG (F * (ix h (1 : Int)))) * (ix h (2 : Int)))) * (ix h (3 : Int)))) > (65536 : Int)))) = true then (
 some ((⟨(⟨(0 : Int), (0 : Int), (0 : Int), (0 : Int), (0 : Int), (0 : Int), (0 : Int), (0 : Int)⟩ : sizes), (0 : Int), (0 : Int), (0 : Int), (0 : Int), (0 : Int), (0 : Int)⟩ : filter), false))
 else (
 some ((⟨(⟨(ix p1 (0 : Int)), (ix p1 (1 : Int)), (ix p1 (2 : Int)), (ix p1 (3 : Int)), (ix h (0 : Int)), (ix h (1 : Int)), (ix h (2 : Int)), (ix h (3 : Int))⟩ : sizes), a, g, e, b, (aG ((aG ((aG ((aG ((aG ((ix p1 (2 : Int)) + (aG ((2 : Int) * g)))) - (aG (e * (aG ((ix h (2 : Int)) - (1 : Int))))))) - (1 : Int))).tdiv a)) + (1 : Int))), (aG ((aG ((aG ((aG ((aG ((ix p1 (3 : Int)) + (aG ((2 : Int) * g)))) - (aG (e * (aG ((ix h (3 : Int)) - (1 : Int))))))) - (1 : Int))).tdiv a)) + (1 : Int)))⟩ : filter), true))
 else none)
 else none
 else none
 else none
 else none
 else none
 else none
 else none
 else none
 else none)
def Z16 (b : Int) (a : Int) : Option (Int) :=
 some ((aG (b * a)).tmod (2147483647 : Int))
def Z0g_J1 (t4 : Int) : Option (Int) :=
 some t4
def Z0g (b : Int) (a : Int) : Option (Int) :=
 if (decide ((aG (b + a)) ≥ (2147483647 : Int))) = true then (
 Z0g_J1 (aG ((aG (b + a)) - (2147483647 : Int))))
 else (
 Z0g_J1 (aG (b + a)))
def Z6_J15 (a : Int) : Option (Int) :=
 some a
def Z6_J14 (b : Int) (a : Int) : Option ((Int × Int) ⊕ (Int)) :=
 some (.inl (a, (aG (b + (1 : Int)))))
def Z6_J13 (b : Int) (a : Int) : Option ((Int × Int) ⊕ (Int)) :=
 some (.inl (a, (aG (b + (1 : Int)))))
def Z6_J12 (b : Int) (a : Int) : Option ((Int × Int) ⊕ (Int)) :=
 some (.inl (a, (aG (b + (1 : Int)))))
def Z6_L3 (f1 : filter) (E : (List Int)) (F : (List Int)) (D : Int) (o7 : Int) (u : Int) (j : Int) (i : Int) (g : Int) (h : Int) (e : Int) : Option ((Int × Int) ⊕ (Int)) :=
 if (decide (e < f1.sizes.b)) = true then (
 if ((decide ((aG ((aG ((aG (j * f1.stride)) - f1.pad)) + (aG (f1.dil * e)))) < (0 : Int))) || (decide ((aG ((aG ((aG (j * f1.stride)) - f1.pad)) + (aG (f1.dil * e)))) ≥ f1.sizes.w_))) = true then (
 Z6_J12 e h)
 else (
 if (0 ≤ (aG ((aG ((aG ((aG ((aG ((aG (o7 * f1.sizes.k)) + i)) * f1.sizes.a)) + g)) * f1.sizes.b)) + e)) ∧ (aG ((aG ((aG ((aG ((aG ((aG (o7 * f1.sizes.k)) + i)) * f1.sizes.a)) + g)) * f1.sizes.b)) + e)) < (F.length : Int)) then
 if (0 ≤ (aG ((aG ((aG ((aG ((aG ((aG (D * f1.sizes.c)) + (aG ((aG ((aG (o7.tdiv (aG (f1.sizes.o.tdiv f1.groups)))) * f1.sizes.k)) + i)))) * f1.sizes.h_)) + (aG ((aG ((aG (u * f1.stride)) - f1.pad)) + (aG (f1.dil * g)))))) * f1.sizes.w_)) + (aG ((aG ((aG (j * f1.stride)) - f1.pad)) + (aG (f1.dil * e)))))) ∧ (aG ((aG ((aG ((aG ((aG ((aG (D * f1.sizes.c)) + (aG ((aG ((aG (o7.tdiv (aG (f1.sizes.o.tdiv f1.groups)))) * f1.sizes.k)) + i)))) * f1.sizes.h_)) + (aG ((aG ((aG (u * f1.stride)) - f1.pad)) + (aG (f1.dil * g)))))) * f1.sizes.w_)) + (aG ((aG ((aG (j * f1.stride)) - f1.pad)) + (aG (f1.dil * e)))))) < (E.length : Int)) then
 (Z16 (ix F (aG ((aG ((aG ((aG ((aG ((aG (o7 * f1.sizes.k)) + i)) * f1.sizes.a)) + g)) * f1.sizes.b)) + e))) (ix E (aG ((aG ((aG ((aG ((aG ((aG (D * f1.sizes.c)) + (aG ((aG ((aG (o7.tdiv (aG (f1.sizes.o.tdiv f1.groups)))) * f1.sizes.k)) + i)))) * f1.sizes.h_)) + (aG ((aG ((aG (u * f1.stride)) - f1.pad)) + (aG (f1.dil * g)))))) * f1.sizes.w_)) + (aG ((aG ((aG (j * f1.stride)) - f1.pad)) + (aG (f1.dil * e)))))))).bind fun m =>
 (Z0g h m).bind fun q =>
 Z6_J12 e q
 else none
 else none))
 else (
 some (.inr h))
def Z6_L2 (f1 : filter) (q : (List Int)) (u : (List Int)) (m : Int) (o7 : Int) (h : Int) (j : Int) (i : Int) (g : Int) (b : Int) : Option ((Int × Int) ⊕ (Int)) :=
 if (decide (b < f1.sizes.a)) = true then (
 if ((decide ((aG ((aG ((aG (h * f1.stride)) - f1.pad)) + (aG (f1.dil * b)))) < (0 : Int))) || (decide ((aG ((aG ((aG (h * f1.stride)) - f1.pad)) + (aG (f1.dil * b)))) ≥ f1.sizes.h_))) = true then (
 Z6_J13 b g)
 else (
 (bC (fun s : Int × Int => Z6_L3 f1 q u m o7 h j i b s.1 s.2) (g, (0 : Int))).bind fun e => Z6_J13 b e))
 else (
 some (.inr g))
def Z6_L1 (f1 : filter) (j : (List Int)) (m : (List Int)) (i : Int) (o7 : Int) (g : Int) (h : Int) (a : Int) (b : Int) : Option ((Int × Int) ⊕ (Int)) :=
 if (decide (b < f1.sizes.k)) = true then (
 if f1.groups ≠ 0 then
 if (aG (f1.sizes.o.tdiv f1.groups)) ≠ 0 then
 (bC (fun s : Int × Int => Z6_L2 f1 j m i o7 g h b s.1 s.2) (a, (0 : Int))).bind fun e => Z6_J14 b e
 else none
 else none)
 else (
 some (.inr a))
def Z6 (f1 : filter) (h : (List Int)) (i : (List Int)) (g : Int) (o7 : Int) (a : Int) (b : Int) : Option (Int) :=
 (bC (fun s : Int × Int => Z6_L1 f1 h i g o7 a b s.1 s.2) ((0 : Int), (0 : Int))).bind fun e => Z6_J15 e
def Z3_J15 (b : (List Int)) (a : (List Int)) : Option (Tensor) :=
 some (⟨b, a⟩ : Tensor)
def Z3_J14 (a : Int) (b : (List Int)) : Option (((List Int) × Int) ⊕ ((List Int))) :=
 some (.inl (b, (aG (a + (1 : Int)))))
def Z3_J13 (a : Int) (b : (List Int)) : Option (((List Int) × Int) ⊕ ((List Int))) :=
 some (.inl (b, (aG (a + (1 : Int)))))
def Z3_J12 (a : Int) (b : (List Int)) : Option (((List Int) × Int) ⊕ ((List Int))) :=
 some (.inl (b, (aG (a + (1 : Int)))))
def Z3_L4 (p1 : Tensor) (m : Tensor) (g : filter × Bool) (h : Int) (i : Int) (j : Int) (a : (List Int)) (b : Int) : Option (((List Int) × Int) ⊕ ((List Int))) :=
 if (decide (b < g.1.ow)) = true then (
 (Z6 g.1 p1.Data m.Data h i j b).bind fun e =>
 if a.length + ([e] : List Int).length ≤ 17592186044416 then
 some (.inl ((a ++ ([e] : List Int)), (aG (b + (1 : Int)))))
 else none)
 else (
 some (.inr a))
def Z3_L3 (p1 : Tensor) (j : Tensor) (g : filter × Bool) (h : Int) (i : Int) (b : (List Int)) (a : Int) : Option (((List Int) × Int) ⊕ ((List Int))) :=
 if (decide (a < g.1.oh)) = true then (
 (bC (fun s : (List Int) × Int => Z3_L4 p1 j g h i a s.1 s.2) (b, (0 : Int))).bind fun e => Z3_J12 a e)
 else (
 some (.inr b))
def Z3_L2 (p1 : Tensor) (i : Tensor) (g : filter × Bool) (h : Int) (b : (List Int)) (a : Int) : Option (((List Int) × Int) ⊕ ((List Int))) :=
 if (decide (a < g.1.sizes.o)) = true then (
 (bC (fun s : (List Int) × Int => Z3_L3 p1 i g h a s.1 s.2) (b, (0 : Int))).bind fun e => Z3_J13 a e)
 else (
 some (.inr b))
def Z3_L1 (p1 : Tensor) (h : Tensor) (g : filter × Bool) (b : (List Int)) (a : Int) : Option (((List Int) × Int) ⊕ ((List Int))) :=
 if (decide (a < g.1.sizes.n)) = true then (
 (bC (fun s : (List Int) × Int => Z3_L2 p1 h g a s.1 s.2) (b, (0 : Int))).bind fun e => Z3_J14 a e)
 else (
 some (.inr b))
def Z3 (p1 : Tensor) (j : Tensor) (b : Int) (i : Int) (h : Int) (a : Int) : Option (Tensor) :=
 (Zq ([p1, j] : List Tensor)).bind fun m =>
 if (!m) = true then (
 some (⟨([] : List Int), ([] : List Int)⟩ : Tensor))
 else (
 (Z15 p1.Dims j.Dims b i h a).bind fun g =>
 if (!g.2) = true then (
 some (⟨([] : List Int), ([] : List Int)⟩ : Tensor))
 else (
 (Z0w g.1).bind fun q =>
 (bC (fun s : (List Int) × Int => Z3_L1 p1 j g s.1 s.2) (([] : List Int), (0 : Int))).bind fun e => Z3_J15 q e))
def Z05_J1 : Option (Bool) :=
 some true
def Z05_L1 (b : (List Int)) (e : (List Int)) (a : Int) : Option ((Int) ⊕ ((Bool) ⊕ (Unit))) :=
 if (decide (a < (b.length : Int))) = true then (
 if (0 ≤ a ∧ a < (b.length : Int)) then
 if (0 ≤ a ∧ a < (e.length : Int)) then
 if ((ix b a) != (ix e a)) = true then (
 some (.inr (.inl false)))
 else (
 some (.inl (aG (a + (1 : Int)))))
 else none
 else none)
 else (
 some (.inr (.inr ())))
def Z05 (a : (List Int)) (b : (List Int)) : Option (Bool) :=
 if ((a.length : Int) != (b.length : Int)) = true then (
 some false)
 else (
 (bC (fun s : Int => Z05_L1 a b s) (0 : Int)).bind fun e => match e with
 | .inl e => some e
 | .inr e => Z05_J1)
def Z12 (b : Tensor) (e : Tensor) : Option (Bool) :=
 (Z05 b.Dims e.Dims).bind fun g =>
 (cT g (Z05 b.Data e.Data)).bind fun a =>
 some (g && a)
def Z0c (a : (List Int)) : Option (Bool) :=
 (cT (decide ((a.length : Int) ≤ (6 : Int))) (Zj a)).bind fun b =>
 some ((decide ((a.length : Int) ≤ (6 : Int))) && (decide (b > (0 : Int))))
def Zm_J1 : Option (Bool) :=
 some true
def Zm_L1 (t1 : Tensor) (a : Int) : Option ((Int) ⊕ ((Bool) ⊕ (Unit))) :=
 if (decide (a < (t1.Data.length : Int))) = true then (
 if (0 ≤ a ∧ a < (t1.Data.length : Int)) then
 if ((decide ((ix t1.Data a) < (0 : Int))) || (decide ((ix t1.Data a) ≥ (2147483647 : Int)))) = true then (
 some (.inr (.inl false)))
 else (
 some (.inl (aG (a + (1 : Int)))))
 else none)
 else (
 some (.inr (.inr ())))
def Zm (t1 : Tensor) : Option (Bool) :=
 (Z0c t1.Dims).bind fun a =>
 (cT (!(!a)) (Zj t1.Dims)).bind fun b =>
 if ((!a) || ((t1.Data.length : Int) != b)) = true then (
 some false)
 else (
 (bC (fun s : Int => Zm_L1 t1 s) (0 : Int)).bind fun e => match e with
 | .inl e => some e
 | .inr e => Zm_J1)
def Z0v (p1 : Int) (b : Int) (a : Int) : Option (Bool) :=
 some ((decide (p1 ≥ b)) && (decide (p1 ≤ a)))
def Z13 (e : Int) (a : Int) (b : Int) : Option (Int) :=
 if (((decide (a < (1 : Int))) || (decide (b < (1 : Int)))) || (decide (a > e))) = true then (
 some (0 : Int))
 else (
 if b ≠ 0 then
 some (aG ((aG ((aG (e - a)).tdiv b)) + (1 : Int)))
 else none)
def Zh_J1 (a : (List Int)) : Option ((List Int)) :=
 some a
def Zh_L1 (a : (List Int)) (e : Int) (g : (List Int)) (b : Int) : Option ((Int × (List Int) × Int) ⊕ ((List Int))) :=
 if (decide (b ≥ (0 : Int))) = true then (
 if (0 ≤ b ∧ b < (a.length : Int)) then
 if (ix a b) ≠ 0 then
 if (0 ≤ b ∧ b < ((List.replicate (a.length : Int).toNat (0 : Int)).length : Int)) then
 some (.inl ((aG (e.tdiv (ix a b))), (g.set b.toNat (e.tmod (ix a b))), (aG (b - (1 : Int)))))
 else none
 else none
 else none)
 else (
 some (.inr g))
def Zh (a : (List Int)) (b : Int) : Option ((List Int)) :=
 if (0 ≤ (a.length : Int) ∧ (a.length : Int) ≤ 140737488355328 ∧ 8 * (a.length : Int) ≤ 281474976710656) then
 (bC (fun s : Int × (List Int) × Int => Zh_L1 a s.1 s.2.1 s.2.2) (b, (List.replicate (a.length : Int).toNat (0 : Int)), (aG ((a.length : Int) - (1 : Int))))).bind fun e => Zh_J1 e
 else none
def Z03_J1 : Option (Bool) :=
 some true
def Z03_L1 (e : (List Int)) (a : (List Int)) (b : Int) : Option ((Int) ⊕ ((Bool) ⊕ (Unit))) :=
 if (decide (b < (a.length : Int))) = true then (
 if (0 ≤ b ∧ b < (a.length : Int)) then
 if (decide ((ix a b) < (0 : Int))) = false → (0 ≤ b ∧ b < (e.length : Int)) then
 if ((decide ((ix a b) < (0 : Int))) || (decide ((ix a b) ≥ (ix e b)))) = true then (
 some (.inr (.inl false)))
 else (
 some (.inl (aG (b + (1 : Int)))))
 else none
 else none)
 else (
 some (.inr (.inr ())))
def Z03 (b : (List Int)) (a : (List Int)) : Option (Bool) :=
 if ((a.length : Int) != (b.length : Int)) = true then (
 some false)
 else (
 (bC (fun s : Int => Z03_L1 b a s) (0 : Int)).bind fun e => match e with
 | .inl e => some e
 | .inr e => Z03_J1)
def Z00_J1 (a : Int) : Option (Int) :=
 some a
def Z00_L1 (b : (List Int)) (e : (List Int)) (g : Int) (a : Int) : Option ((Int × Int) ⊕ (Int)) :=
 if (decide (a < (b.length : Int))) = true then (
 if (0 ≤ a ∧ a < (b.length : Int)) then
 if (0 ≤ a ∧ a < (e.length : Int)) then
 some (.inl ((aG ((aG (g * (ix b a))) + (ix e a))), (aG (a + (1 : Int)))))
 else none
 else none)
 else (
 some (.inr g))
def Z00 (b : (List Int)) (a : (List Int)) : Option (Int) :=
 (bC (fun s : Int × Int => Z00_L1 b a s.1 s.2) ((0 : Int), (0 : Int))).bind fun e => Z00_J1 e
def Z11 (t1 : Tensor) (a : (List Int)) : Option (Int) :=
 (Z00 t1.Dims a).bind fun b =>
 if (0 ≤ b ∧ b < (t1.Data.length : Int)) then
 some (ix t1.Data b)
 else none
def Z1m (p1 : Tensor) (a : (List Int)) : Option (Int) :=
 (Z03 p1.Dims a).bind fun e =>
 if (!e) = true then (
 some (0 : Int))
 else (
 (Z11 p1 a).bind fun b =>
 some b)
def Z17 (a : Int) (b : Int) : Option (Int) :=
 (Zi a).bind fun e =>
 (Zi b).bind fun g =>
 (Zi (aG (e + g))).bind fun h =>
 some h
def Ze_J3 (b : Tensor) (a : (List Int)) : Option (Tensor) :=
 some (⟨b.Dims, a⟩ : Tensor)
def Ze_J2 (a : Int) (b : (List Int)) : Option (((List Int) × Int) ⊕ ((List Int))) :=
 some (.inl (b, (aG (a + (1 : Int)))))
def Ze_L2 (p1 : Tensor) (m : Tensor) (e : Int) (u : Int) (q : Int) (h : Int) (I : Tensor) (g : Int) (b : (List Int)) (j : (List Int)) (i : Int) : Option (((List Int) × Int) ⊕ ((List Int))) :=
 if (decide (i < (aG ((aG ((ix m.Dims (1 : Int)) * (ix m.Dims (2 : Int)))) * (ix m.Dims (3 : Int)))))) = true then (
 (Zh ([(ix m.Dims (1 : Int)), (ix m.Dims (2 : Int)), (ix m.Dims (3 : Int))] : List Int) i).bind fun a =>
 if (0 ≤ (0 : Int) ∧ (0 : Int) < (b.length : Int)) then
 if (0 ≤ (0 : Int) ∧ (0 : Int) < (a.length : Int)) then
 if (0 ≤ (2 : Int) ∧ (2 : Int) < (b.length : Int)) then
 if (0 ≤ (1 : Int) ∧ (1 : Int) < (a.length : Int)) then
 if (0 ≤ (3 : Int) ∧ (3 : Int) < (b.length : Int)) then
 if (0 ≤ (2 : Int) ∧ (2 : Int) < (a.length : Int)) then
 (Z1m p1 ([(ix b (0 : Int)), (aG ((aG ((aG ((ix b (1 : Int)).tdiv (aG ((ix m.Dims (0 : Int)).tdiv h)))) * (ix m.Dims (1 : Int)))) + (ix a (0 : Int)))), (aG ((aG ((aG ((ix b (2 : Int)) * e)) - u)) + (aG (q * (ix a (1 : Int)))))), (aG ((aG ((aG ((ix b (3 : Int)) * e)) - u)) + (aG (q * (ix a (2 : Int))))))] : List Int)).bind fun D =>
 if (0 ≤ g ∧ g < (I.Data.length : Int)) then
 (Z11 m ([(ix b (1 : Int)), (ix a (0 : Int)), (ix a (1 : Int)), (ix a (2 : Int))] : List Int)).bind fun E =>
 (Z0l D E).bind fun F =>
 (Z17 (ix j g) F).bind fun G =>
 some (.inl ((j.set g.toNat G), (aG (i + (1 : Int)))))
 else none
 else none
 else none
 else none
 else none
 else none
 else none)
 else (
 some (.inr j))
def Ze_L1 (p1 : Tensor) (u : Tensor) (g : Int) (m : Int) (j : Int) (a : Int) (D : Int) (E : Int) (q : Tensor) (i : (List Int)) (b : Int) : Option (((List Int) × Int) ⊕ ((List Int))) :=
 if (decide (b < (q.Data.length : Int))) = true then (
 (Zh ([(ix p1.Dims (0 : Int)), (ix u.Dims (0 : Int)), D, E] : List Int) b).bind fun h =>
 if (0 ≤ (1 : Int) ∧ (1 : Int) < (h.length : Int)) then
 if a ≠ 0 then
 if (aG ((ix u.Dims (0 : Int)).tdiv a)) ≠ 0 then
 (bC (fun s : (List Int) × Int => Ze_L2 p1 u g m j a q b h s.1 s.2) (i, (0 : Int))).bind fun e => Ze_J2 b e
 else none
 else none
 else none)
 else (
 some (.inr i))
def Ze (p1 : Tensor) (g : Tensor) (b : Int) (i : Int) (h : Int) (a : Int) : Option (Tensor) :=
 (Zm p1).bind fun j =>
 (cT (!(!j)) (Zm g)).bind fun m =>
 (cT (!((((!j) || (!m)) || ((p1.Dims.length : Int) != (4 : Int))) || ((g.Dims.length : Int) != (4 : Int)))) (Z0v b (1 : Int) (4096 : Int))).bind fun q =>
 (cT (!(((((!j) || (!m)) || ((p1.Dims.length : Int) != (4 : Int))) || ((g.Dims.length : Int) != (4 : Int))) || (!q))) (Z0v i (0 : Int) (4096 : Int))).bind fun E =>
 (cT (!((((((!j) || (!m)) || ((p1.Dims.length : Int) != (4 : Int))) || ((g.Dims.length : Int) != (4 : Int))) || (!q)) || (!E))) (Z0v h (1 : Int) (4096 : Int))).bind fun G =>
 (cT (!(((((((!j) || (!m)) || ((p1.Dims.length : Int) != (4 : Int))) || ((g.Dims.length : Int) != (4 : Int))) || (!q)) || (!E)) || (!G))) (Z0v a (1 : Int) (4096 : Int))).bind fun J =>
 if ((((((((!j) || (!m)) || ((p1.Dims.length : Int) != (4 : Int))) || ((g.Dims.length : Int) != (4 : Int))) || (!q)) || (!E)) || (!G)) || (!J)) = true then (
 some (⟨([] : List Int), ([] : List Int)⟩ : Tensor))
 else (
 if (0 ≤ (0 : Int) ∧ (0 : Int) < (g.Dims.length : Int)) then
 if (0 ≤ (1 : Int) ∧ (1 : Int) < (g.Dims.length : Int)) then
 if (0 ≤ (1 : Int) ∧ (1 : Int) < (p1.Dims.length : Int)) then
 if ((ix p1.Dims (1 : Int)) != (aG ((ix g.Dims (1 : Int)) * a))) = false → a ≠ 0 then
 if (((ix p1.Dims (1 : Int)) != (aG ((ix g.Dims (1 : Int)) * a))) || (((ix g.Dims (0 : Int)).tmod a) != (0 : Int))) = true then (
 some (⟨([] : List Int), ([] : List Int)⟩ : Tensor))
 else (
 if (0 ≤ (2 : Int) ∧ (2 : Int) < (p1.Dims.length : Int)) then
 if (0 ≤ (2 : Int) ∧ (2 : Int) < (g.Dims.length : Int)) then
 (Z13 (aG ((ix p1.Dims (2 : Int)) + (aG ((2 : Int) * i)))) (aG ((aG (h * (aG ((ix g.Dims (2 : Int)) - (1 : Int))))) + (1 : Int))) b).bind fun u =>
 if (0 ≤ (3 : Int) ∧ (3 : Int) < (p1.Dims.length : Int)) then
 if (0 ≤ (3 : Int) ∧ (3 : Int) < (g.Dims.length : Int)) then
 (Z13 (aG ((ix p1.Dims (3 : Int)) + (aG ((2 : Int) * i)))) (aG ((aG (h * (aG ((ix g.Dims (3 : Int)) - (1 : Int))))) + (1 : Int))) b).bind fun D =>
 if (0 ≤ (0 : Int) ∧ (0 : Int) < (p1.Dims.length : Int)) then
 (Z0c ([(ix p1.Dims (0 : Int)), (ix g.Dims (0 : Int)), u, D] : List Int)).bind fun I =>
 (cT (!(!I)) (Zj ([(ix p1.Dims (0 : Int)), (ix g.Dims (0 : Int)), u, D] : List Int))).bind fun L =>
 if ((!I) || (decide ((aG ((aG ((aG (L * (ix g.Dims (1 : Int)))) * (ix g.Dims (2 : Int)))) * (ix g.Dims (3 : Int)))) > (65536 : Int)))) = true then (
 some (⟨([] : List Int), ([] : List Int)⟩ : Tensor))
 else (
 (Z0m ([(ix p1.Dims (0 : Int)), (ix g.Dims (0 : Int)), u, D] : List Int)).bind fun F =>
 (bC (fun s : (List Int) × Int => Ze_L1 p1 g b i h a u D F s.1 s.2) (F.Data, (0 : Int))).bind fun e => Ze_J3 F e)
 else none
 else none
 else none
 else none
 else none)
 else none
 else none
 else none
 else none)
def Z0s (b : (List Int)) (a : Int) : Option (Bool) :=
 some ((decide (a ≥ (0 : Int))) && (decide (a < (b.length : Int))))
def Z1h (b : (List Int)) (a : Int) (g : Int) : Option ((List Int)) :=
 (Zy b).bind fun e =>
 if (0 ≤ a ∧ a < (e.length : Int)) then
 some (e.set a.toNat g)
 else none
def Z1e (b : (List Int)) (a : Int) : Option (Int × Int × Int) :=
 if (0 ≤ (0 : Int) ∧ (0 : Int) ≤ a ∧ a ≤ (b.length : Int)) then
 (Zd (sub b (0 : Int) a)).bind fun g =>
 if (0 ≤ a ∧ a < (b.length : Int)) then
 if (0 ≤ (aG (a + (1 : Int))) ∧ (aG (a + (1 : Int))) ≤ (b.length : Int) ∧ (b.length : Int) ≤ (b.length : Int)) then
 (Zd (sub b (aG (a + (1 : Int))) (b.length : Int))).bind fun e =>
 some (g, (ix b a), e)
 else none
 else none
 else none
def Z5_J7 (a : (List pair)) : Option ((List pair)) :=
 some a
def Z5_J6 (b : Int) (a : (List pair)) : Option (((List pair) × Int) ⊕ ((List pair))) :=
 some (.inl (a, (aG (b + (1 : Int)))))
def Z5_J5 (b : Int) (a : (List pair)) : Option (((List pair) × Int) ⊕ ((List pair))) :=
 some (.inl (a, (aG (b + (1 : Int)))))
def Z5_L3 (j : Int) (b : (List pair)) (i : Int × Int × Int) (g : Int) (h : Int) (e : (List pair)) (a : Int) : Option (((List pair) × Int) ⊕ ((List pair))) :=
 if (decide (a < i.2.2)) = true then (
 if e.length + ([(⟨(aG ((aG ((aG ((aG (g * i.2.1)) + (ix b h).from_)) * i.2.2)) + a)), (aG ((aG ((aG ((aG (g * j)) + (ix b h).to)) * i.2.2)) + a))⟩ : pair)] : List pair).length ≤ 8796093022208 then
 some (.inl ((e ++ ([(⟨(aG ((aG ((aG ((aG (g * i.2.1)) + (ix b h).from_)) * i.2.2)) + a)), (aG ((aG ((aG ((aG (g * j)) + (ix b h).to)) * i.2.2)) + a))⟩ : pair)] : List pair)), (aG (a + (1 : Int)))))
 else none)
 else (
 some (.inr e))
def Z5_L2 (i : Int) (a : (List pair)) (j : Int × Int × Int) (h : Int) (g : (List pair)) (b : Int) : Option (((List pair) × Int) ⊕ ((List pair))) :=
 if (decide (b < (a.length : Int))) = true then (
 if (0 ≤ b ∧ b < (a.length : Int)) then
 (bC (fun s : (List pair) × Int => Z5_L3 i a j h b s.1 s.2) (g, (0 : Int))).bind fun e => Z5_J5 b e
 else none)
 else (
 some (.inr g))
def Z5_L1 (i : Int) (b : (List pair)) (h : Int × Int × Int) (g : (List pair)) (a : Int) : Option (((List pair) × Int) ⊕ ((List pair))) :=
 if (decide (a < h.1)) = true then (
 (bC (fun s : (List pair) × Int => Z5_L2 i b h a s.1 s.2) (g, (0 : Int))).bind fun e => Z5_J6 a e)
 else (
 some (.inr g))
def Z5 (g : (List Int)) (b : Int) (i : Int) (a : (List pair)) : Option ((List pair)) :=
 (Z1e g b).bind fun h =>
 if (0 ≤ (aG ((aG (h.1 * h.2.2)) * (a.length : Int))) ∧ (aG ((aG (h.1 * h.2.2)) * (a.length : Int))) ≤ 140737488355328 ∧ 16 * (aG ((aG (h.1 * h.2.2)) * (a.length : Int))) ≤ 281474976710656) then
 (bC (fun s : (List pair) × Int => Z5_L1 i a h s.1 s.2) (([] : List pair), (0 : Int))).bind fun e => Z5_J7 e
 else none
def Za_J2 (b : (List Int)) (a : Int) (e : Int) (g : Int) (i : Int) (j : (List Int)) (h : (List pair)) : Option ((List Int) × (List pair) × Bool) :=
 (Z5 b a (aG ((aG ((aG (e + (ix b a))) + (aG ((aG ((ix b a) - (1 : Int))) * i)))) + g)) h).bind fun m =>
 some (j, m, true)
def Za_L2 (i : (List Int)) (h : Int) (b : Int) (g : Int) (a : (List pair)) (e : Int) : Option (((List pair) × Int) ⊕ ((List pair))) :=
 if (decide (e < (ix i h))) = true then (
 if a.length + ([(⟨e, (aG (b + (aG (e * (aG (g + (1 : Int)))))))⟩ : pair)] : List pair).length ≤ 8796093022208 then
 some (.inl ((a ++ ([(⟨e, (aG (b + (aG (e * (aG (g + (1 : Int)))))))⟩ : pair)] : List pair)), (aG (e + (1 : Int)))))
 else none)
 else (
 some (.inr a))
def Za_J1 (b : (List Int)) (a : Int) (g : Int) (h : Int) (i : Int) : Option ((List Int) × (List pair) × Bool) :=
 if (0 ≤ a ∧ a < (b.length : Int)) then
 (Z1h b a (aG ((aG ((aG (g + (ix b a))) + (aG ((aG ((ix b a) - (1 : Int))) * i)))) + h))).bind fun j =>
 (Zg j).bind fun m =>
 if (!m) = true then (
 some (([] : List Int), ([] : List pair), false))
 else (
 (bC (fun s : (List pair) × Int => Za_L2 b a g i s.1 s.2) (([] : List pair), (0 : Int))).bind fun e => Za_J2 b a g h i j e)
 else none
def Za_L1 (a : Int) (b : Int) (e : Int) (g : Int) : Option ((Int) ⊕ (((List Int) × (List pair) × Bool) ⊕ (Unit))) :=
 if (decide (g < (([a, b, e] : List Int).length : Int))) = true then (
 if (0 ≤ g ∧ g < (([a, b, e] : List Int).length : Int)) then
 if ((decide ((ix ([a, b, e] : List Int) g) < (0 : Int))) || (decide ((ix ([a, b, e] : List Int) g) > (4096 : Int)))) = true then (
 some (.inr (.inl (([] : List Int), ([] : List pair), false))))
 else (
 some (.inl (aG (g + (1 : Int)))))
 else none)
 else (
 some (.inr (.inr ())))
def Za (h : (List Int)) (g : Int) (a : Int) (b : Int) (i : Int) : Option ((List Int) × (List pair) × Bool) :=
 (Z0s h g).bind fun j =>
 if (!j) = true then (
 some (([] : List Int), ([] : List pair), false))
 else (
 (bC (fun s : Int => Za_L1 a b i s) (0 : Int)).bind fun e => match e with
 | .inl e => some e
 | .inr e => Za_J1 h g a b i)
def Z1c (a : (List Int)) (e : Int) (g : Int) (p7 : Int) (h : Int) : Option ((List Int) × (List pair) × Bool) :=
 (Za a e g p7 h).bind fun b =>
 some (b.1, b.2.1, b.2.2)
def Z0b_J1 (b : Tensor) (a : (List Int)) : Option (Tensor) :=
 some (⟨b.Dims, a⟩ : Tensor)
def Z0b_L1 (e : (List Int)) (a : (List pair)) (i : Tensor) (g : (List Int)) (b : Int) : Option (((List Int) × Int) ⊕ ((List Int))) :=
 if (decide (b < (a.length : Int))) = true then (
 if (0 ≤ b ∧ b < (a.length : Int)) then
 if (0 ≤ (ix a b).to ∧ (ix a b).to < (i.Data.length : Int)) then
 if (0 ≤ (ix a b).from_ ∧ (ix a b).from_ < (e.length : Int)) then
 (Z0g (ix g (ix a b).to) (ix e (ix a b).from_)).bind fun h =>
 some (.inl ((g.set (ix a b).to.toNat h), (aG (b + (1 : Int)))))
 else none
 else none
 else none)
 else (
 some (.inr g))
def Z0b (b : (List Int)) (g : (List Int)) (a : (List pair)) : Option (Tensor) :=
 (Z0z g).bind fun h =>
 (bC (fun s : (List Int) × Int => Z0b_L1 b a h s.1 s.2) (h.Data, (0 : Int))).bind fun e => Z0b_J1 h e
def Z19 (t1 : Tensor) (h : Int) (i : Int) (j : Int) (b : Int) : Option (Tensor) :=
 (Z0r t1).bind fun e =>
 if (!e) = true then (
 some (⟨([] : List Int), ([] : List Int)⟩ : Tensor))
 else (
 (Z1c t1.Dims h i j b).bind fun a =>
 if (!a.2.2) = true then (
 some (⟨([] : List Int), ([] : List Int)⟩ : Tensor))
 else (
 (Z0b t1.Data a.1 a.2.1).bind fun g =>
 some g))
def Z0e (t1 : Tensor) (e : Int) (a : Int) (b : Int) (g : Int) : Option (Tensor) :=
 (Z19 t1 e a b g).bind fun h =>
 some h
def Zl_J3 (a : (List Int)) : Option ((List Int)) :=
 some a
def Zl_J2 (a : (List Int)) (e : Int) (b : Int) (g : (List Int)) : Option (((List Int) × Int × Int) ⊕ ((List Int))) :=
 if (0 ≤ b ∧ b < (a.length : Int)) then
 some (.inl (g, (aG (e * (ix a b))), (aG (b - (1 : Int)))))
 else none
def Zl_L1 (a : (List Int)) (g : (List Int)) (e : Int) (b : Int) : Option (((List Int) × Int × Int) ⊕ ((List Int))) :=
 if (decide (b ≥ (0 : Int))) = true then (
 if (0 ≤ b ∧ b < (a.length : Int)) then
 if (decide ((ix a b) > (1 : Int))) = true then (
 if (0 ≤ b ∧ b < ((List.replicate (a.length : Int).toNat (0 : Int)).length : Int)) then
 Zl_J2 a e b (g.set b.toNat e)
 else none)
 else (
 Zl_J2 a e b g)
 else none)
 else (
 some (.inr g))
def Zl (a : (List Int)) : Option ((List Int)) :=
 if (0 ≤ (a.length : Int) ∧ (a.length : Int) ≤ 140737488355328 ∧ 8 * (a.length : Int) ≤ 281474976710656) then
 (bC (fun s : (List Int) × Int × Int => Zl_L1 a s.1 s.2.1 s.2.2) ((List.replicate (a.length : Int).toNat (0 : Int)), (1 : Int), (aG ((a.length : Int) - (1 : Int))))).bind fun e => Zl_J3 e
 else none
def Z14 (a : (List Int)) : Option (View) :=
 (Zg a).bind fun g =>
 if (!g) = true then (
 some (⟨([] : List Int), ([] : List Int), (0 : Int), (0 : Int)⟩ : View))
 else (
 (Zy a).bind fun h =>
 (Zl a).bind fun b =>
 (Zd a).bind fun e =>
 some (⟨h, b, (0 : Int), e⟩ : View))
def Zo_J1 (v1 : View) (b : Int) (a : Int) : Option (Bool) :=
 some ((decide (b ≥ (0 : Int))) && (decide (a < v1.Base)))
def Zo_L1 (v1 : View) (e : Int) (b : Int) (a : Int) : Option ((Int × Int × Int) ⊕ ((Bool) ⊕ (Int × Int))) :=
 if (decide (a < (v1.Strides.length : Int))) = true then (
 if (0 ≤ a ∧ a < (v1.Strides.length : Int)) then
 if ((decide ((ix v1.Strides a) < (-4096 : Int))) || (decide ((ix v1.Strides a) > (4096 : Int)))) = true then (
 some (.inr (.inl false)))
 else (
 if (0 ≤ a ∧ a < (v1.Dims.length : Int)) then
 some (.inl ((aG (e + (if (aG ((ix v1.Strides a) * (aG ((ix v1.Dims a) - (1 : Int))))) < (0 : Int) then (aG ((ix v1.Strides a) * (aG ((ix v1.Dims a) - (1 : Int))))) else (0 : Int)))), (aG (b + (if (aG ((ix v1.Strides a) * (aG ((ix v1.Dims a) - (1 : Int))))) > (0 : Int) then (aG ((ix v1.Strides a) * (aG ((ix v1.Dims a) - (1 : Int))))) else (0 : Int)))), (aG (a + (1 : Int)))))
 else none)
 else none)
 else (
 some (.inr (.inr (e, b))))
def Zo (v1 : View) : Option (Bool) :=
 (Zg v1.Dims).bind fun a =>
 if ((((((!a) || ((v1.Strides.length : Int) != (v1.Dims.length : Int))) || (decide (v1.Base < (1 : Int)))) || (decide (v1.Base > (4096 : Int)))) || (decide (v1.Offset < (0 : Int)))) || (decide (v1.Offset ≥ v1.Base))) = true then (
 some false)
 else (
 (bC (fun s : Int × Int × Int => Zo_L1 v1 s.1 s.2.1 s.2.2) (v1.Offset, v1.Offset, (0 : Int))).bind fun e => match e with
 | .inl e => some e
 | .inr e => Zo_J1 v1 e.1 e.2)
def Z0j_J3 (v1 : View) (a : Int) (b : Int) (e : Int) : Option (View) :=
 if (0 ≤ a ∧ a < (v1.Dims.length : Int)) then
 if (0 ≤ a ∧ a < (v1.Strides.length : Int)) then
 some (⟨(v1.Dims.set a.toNat b), (v1.Strides.set a.toNat e), v1.Offset, v1.Base⟩ : View)
 else none
 else none
def Z0j (v1 : View) (b : Int) (a : Int) (e : Int) : Option (View) :=
 if (a == (1 : Int)) = true then (
 Z0j_J3 v1 b a (0 : Int))
 else (
 Z0j_J3 v1 b a e)
def Z1d (v1 : View) (a : Int) (b : Int) : Option (View) :=
 if v1.Dims.length + ([(0 : Int)] : List Int).length ≤ 17592186044416 then
 if v1.Strides.length + ([(0 : Int)] : List Int).length ≤ 17592186044416 then
 (Z0j (⟨(v1.Dims ++ ([(0 : Int)] : List Int)), (v1.Strides ++ ([(0 : Int)] : List Int)), v1.Offset, v1.Base⟩ : View) (aG (((v1.Dims ++ ([(0 : Int)] : List Int)).length : Int) - (1 : Int))) a b).bind fun e =>
 some e
 else none
 else none
def Z0p_J3 (p1 : View) (b : Int) (p7 : Int) (h : Int) (a : Int) : Option (Bool × View × Int) :=
 (Z0j p1 b (aG ((aG ((aG ((ix p1.Dims b) - p7)).tdiv h)) + (1 : Int))) (aG ((ix p1.Strides b) * a))).bind fun e =>
 (Z1d e p7 (ix p1.Strides b)).bind fun g =>
 some (true, g, a)
def Z0p (p1 : View) (a : Int) (p7 : Int) (b : Int) : Option (Bool × View × Int) :=
 (Z0s p1.Dims a).bind fun e =>
 if (((!e) || (decide (p7 < (1 : Int)))) || (decide (b < (1 : Int)))) = false → (0 ≤ a ∧ a < (p1.Dims.length : Int)) then
 if ((((!e) || (decide (p7 < (1 : Int)))) || (decide (b < (1 : Int)))) || (decide (p7 > (ix p1.Dims a)))) = true then (
 some (false, p1, b))
 else (
 if (0 ≤ a ∧ a < (p1.Strides.length : Int)) then
 if (0 ≤ a ∧ a < (p1.Dims.length : Int)) then
 if b ≠ 0 then
 if ((aG ((aG ((aG ((ix p1.Dims a) - p7)).tdiv b)) + (1 : Int))) == (1 : Int)) = true then (
 Z0p_J3 p1 a p7 b (0 : Int))
 else (
 Z0p_J3 p1 a p7 b b)
 else none
 else none
 else none)
 else none
def Z1g (v1 : View) (j : Int) (m : Int) (i : Int) : Option (View × Int) :=
 (Zo v1).bind fun b =>
 if (!b) = true then (
 some ((⟨([] : List Int), ([] : List Int), (0 : Int), (0 : Int)⟩ : View), i))
 else (
 (Zy v1.Dims).bind fun e =>
 (Zy v1.Strides).bind fun g =>
 (Z0p (⟨e, g, v1.Offset, v1.Base⟩ : View) j m i).bind fun a =>
 (cT (!(!a.1)) (Zo a.2.1)).bind fun h =>
 if ((!a.1) || (!h)) = true then (
 some ((⟨([] : List Int), ([] : List Int), (0 : Int), (0 : Int)⟩ : View), a.2.2))
 else (
 some (a.2.1, a.2.2)))
def Z0o (v1 : View) (a : Int) (b : Int) (e : Int) : Option (View) :=
 (Z1g v1 a b e).bind fun g =>
 some g.1
def Z1t (e : (List Int)) (a : (List Int)) (b : Int) : Option ((List Int) × Int × (List Int)) :=
 some (e, b, a)
def Zk_J2 (b : Type) (YF : b → Int → Option (b × Bool)) (e : b × Bool) (a : (List Int)) (h : Int) (g : Int) : Option (((List Int) × Int × b) ⊕ (b)) :=
 if (decide (g < (0 : Int))) = true then (
 some (.inr e.1))
 else (
 some (.inl (a, h, e.1)))
def Zk_L2 (i : Type) (YF : i → Int → Option (i × Bool)) (g : (List Int)) (p7 : (List Int)) (b : (List Int)) (e : Int) (a : Int) : Option (((List Int) × Int × Int) ⊕ ((List Int) × Int × Int)) :=
 if (decide (a ≥ (0 : Int))) = true then (
 if (0 ≤ a ∧ a < ((List.replicate (g.length : Int).toNat (0 : Int)).length : Int)) then
 if (0 ≤ a ∧ a < (p7.length : Int)) then
 if (0 ≤ a ∧ a < (g.length : Int)) then
 if (decide ((ix (b.set a.toNat (aG ((ix b a) + (1 : Int)))) a) < (ix g a))) = true then (
 some (.inr ((b.set a.toNat (aG ((ix b a) + (1 : Int)))), (aG (e + (ix p7 a))), a)))
 else (
 (nm ((b.set a.toNat (aG ((ix b a) + (1 : Int)))).set a.toNat (0 : Int))).bind fun h =>
 some (.inl (h, (aG ((aG (e + (ix p7 a))) - (aG ((ix p7 a) * (ix g a))))), (aG (a - (1 : Int))))))
 else none
 else none
 else none)
 else (
 some (.inr (b, e, a)))
def Zk_L1 (b : Type) (YF : b → Int → Option (b × Bool)) (j : (List Int)) (p7 : (List Int)) (a : (List Int)) (h : Int) (i : b) : Option (((List Int) × Int × b) ⊕ (b)) :=
 (YF i h).bind fun g =>
 if (!g.2) = true then (
 some (.inr g.1))
 else (
 (bC (fun s : (List Int) × Int × Int => Zk_L2 b YF j p7 s.1 s.2.1 s.2.2) (a, h, (aG ((j.length : Int) - (1 : Int))))).bind fun e => Zk_J2 b YF g e.1 e.2.1 e.2.2)
def Zk (b : Type) (YF : b → Int → Option (b × Bool)) (a : b) (g : (List Int)) (h : Int) (p7 : (List Int)) : Option (b) :=
 if (0 ≤ (g.length : Int) ∧ (g.length : Int) ≤ 140737488355328 ∧ 8 * (g.length : Int) ≤ 281474976710656) then
 (bC (fun s : (List Int) × Int × b => Zk_L1 b YF g p7 s.1 s.2.1 s.2.2) ((List.replicate (g.length : Int).toNat (0 : Int)), h, a)).bind fun e => some e
 else none
def Z20 (a : (List Int)) (e : (List Int)) (b : Int) : Option (((List Int)) × Bool) :=
 if (0 ≤ b ∧ b < (a.length : Int)) then
 if e.length + ([(ix a b)] : List Int).length ≤ 17592186044416 then
 some ((e ++ ([(ix a b)] : List Int)), true)
 else none
 else none
def Z1s (a : (List Int)) (v3 : View) : Option (Tensor) :=
 (Zy v3.Dims).bind fun h =>
 (Zd v3.Dims).bind fun b =>
 if (0 ≤ b ∧ b ≤ 140737488355328 ∧ 8 * b ≤ 281474976710656) then
 (Z1t v3.Dims v3.Strides v3.Offset).bind fun e =>
 (Zk ((List Int)) (fun (s : (List Int)) (x : Int) => Z20 a s x) ([] : List Int) e.1 e.2.1 e.2.2).bind fun g =>
 some (⟨h, g⟩ : Tensor)
 else none
def Z0n (t1 : Tensor) (v4 : View) : Option (Tensor) :=
 (Z0r t1).bind fun a =>
 (cT (!(!a)) (Zo v4)).bind fun b =>
 if (((!a) || (!b)) || (v4.Base != (t1.Data.length : Int))) = true then (
 some (⟨([] : List Int), ([] : List Int)⟩ : Tensor))
 else (
 (Z1s t1.Data v4).bind fun e =>
 some e)
def Z1r (t1 : Tensor) : Option ((List Int)) :=
 some t1.Dims
def Z0f_J1 (a : (List (List Int))) : Option ((List (List Int))) :=
 some a
def Z0f_L1 (a : (List Tensor)) (e : (List (List Int))) (b : Int) : Option (((List (List Int)) × Int) ⊕ ((List (List Int)))) :=
 if (decide (b < (a.length : Int))) = true then (
 if (0 ≤ b ∧ b < (a.length : Int)) then
 (Z1r (ix a b)).bind fun g =>
 if (0 ≤ b ∧ b < ((List.replicate (a.length : Int).toNat ([] : (List Int))).length : Int)) then
 some (.inl ((e.set b.toNat g), (aG (b + (1 : Int)))))
 else none
 else none)
 else (
 some (.inr e))
def Z0f (a : (List Tensor)) : Option ((List (List Int))) :=
 if (0 ≤ (a.length : Int) ∧ (a.length : Int) ≤ 140737488355328 ∧ 24 * (a.length : Int) ≤ 281474976710656) then
 (bC (fun s : (List (List Int)) × Int => Z0f_L1 a s.1 s.2) ((List.replicate (a.length : Int).toNat ([] : (List Int))), (0 : Int))).bind fun e => Z0f_J1 e
 else none
def Z1f (a : (List Tensor)) : Option ((List (List Int))) :=
 (Z0f a).bind fun b =>
 some b
def cO (a b : aO) : Option (Int) :=
 if a.length < 4294967281 then some (Lib.index a b) else none
def dU (p1 : aO) (a : aO) : Option (aO × aO × Bool) :=
 (cO p1 a).bind fun b =>
 if (decide (b ≥ (0 : Int))) = true then (
 if (0 ≤ (0 : Int) ∧ (0 : Int) ≤ b ∧ b ≤ (p1.length : Int)) then
 if (0 ≤ (aG (b + (a.length : Int))) ∧ (aG (b + (a.length : Int))) ≤ (p1.length : Int) ∧ (p1.length : Int) ≤ (p1.length : Int)) then
 some ((sub p1 (0 : Int) b), (sub p1 (aG (b + (a.length : Int))) (p1.length : Int)), true)
 else none
 else none)
 else (
 some (p1, ([] : aO), false))
def Z1n (p1 : aO) (a : aO) : Option (aO × aO × Bool) :=
 (dU p1 a).bind fun b =>
 some (b.1, b.2.1, b.2.2)
def dA (a : Int) : Option (Int) :=
 some a
def dM (p1 : aO) (b : Int) (a : Int) : Option ((Int × Int) ⊕ (Int)) :=
 if (0 ≤ a ∧ (a < (p1.length : Int) → bt p1 a < 128)) then
 if (decide (a < (p1.length : Int))) = true then (
 some (.inl ((aG (b + (1 : Int))), (nk p1 a))))
 else (
 some (.inr b))
 else none
def dT (p1 : aO) : Option (Int) :=
 (bC (fun s : Int × Int => dM p1 s.1 s.2) ((0 : Int), (0 : Int))).bind fun e => dA e
def dO (p1 : aO) : Option (Int × Int) :=
 if (!(p1 == ([] : aO))) = true → (0 ≤ (0 : Int) ∧ (0 : Int) < (p1.length : Int)) then
 if ((!(p1 == ([] : aO))) && (decide ((bt p1 (0 : Int)) < (128 : Int)))) = true then (
 if (0 ≤ (0 : Int) ∧ (0 : Int) < (p1.length : Int)) then
 some ((IntKind.wrap .i32 ((bt p1 (0 : Int)))), (1 : Int))
 else none)
 else (
 none)
 else none
def Zv_J3 (a : (List aO)) : Option ((List aO)) :=
 some a
def Zv_J2 (b : Int) (e : aO) (a : (List aO)) : Option ((List aO)) :=
 if (decide (b > (0 : Int))) = true then (
 if (0 ≤ (aG (b - (1 : Int))) ∧ (aG (b - (1 : Int))) < ((List.replicate b.toNat ([] : aO)).length : Int)) then
 Zv_J3 (a.set (aG (b - (1 : Int))).toNat e)
 else none)
 else (
 Zv_J3 a)
def Zv_L1 (h : Int) (a : aO) (g : (List aO)) (e : Int) : Option ((aO × (List aO) × Int) ⊕ (aO × (List aO))) :=
 if (decide (e < (aG (h - (1 : Int))))) = true then (
 (dO a).bind fun b =>
 if (0 ≤ (0 : Int) ∧ (0 : Int) ≤ b.2 ∧ b.2 ≤ (a.length : Int)) then
 if (0 ≤ e ∧ e < ((List.replicate h.toNat ([] : aO)).length : Int)) then
 if (0 ≤ b.2 ∧ b.2 ≤ (a.length : Int) ∧ (a.length : Int) ≤ (a.length : Int)) then
 some (.inl ((sub a b.2 (a.length : Int)), (g.set e.toNat (sub a (0 : Int) b.2)), (aG (e + (1 : Int)))))
 else none
 else none
 else none)
 else (
 some (.inr (a, g)))
def Zv_J1 (p1 : aO) (a : Int) : Option ((List aO)) :=
 if (0 ≤ a ∧ a ≤ 140737488355328 ∧ 16 * a ≤ 281474976710656) then
 (bC (fun s : aO × (List aO) × Int => Zv_L1 a s.1 s.2.1 s.2.2) (p1, (List.replicate a.toNat ([] : aO)), (0 : Int))).bind fun e => Zv_J2 a e.1 e.2
 else none
def Zv (p1 : aO) (a : Int) : Option ((List aO)) :=
 (dT p1).bind fun b =>
 if ((decide (a < (0 : Int))) || (decide (a > b))) = true then (
 Zv_J1 p1 b)
 else (
 Zv_J1 p1 a)
def Z1z (a b : aO) : Option (Int) :=
 match b with
 | [c] => some (Lib.countByte a c)
 | _ => none
def Z1o (p1 : aO) (a : aO) : Option (Int) :=
 (cO p1 a).bind fun b =>
 some b
def Zw_J3 (p1 : aO) (b : Int) (g : aO) (e : (List aO)) (a : Int) : Option ((List aO)) :=
 if (0 ≤ a ∧ a < ((List.replicate (if (aG ((p1.length : Int) + (1 : Int))) < b then (aG ((p1.length : Int) + (1 : Int))) else b).toNat ([] : aO)).length : Int)) then
 if (0 ≤ (0 : Int) ∧ (0 : Int) ≤ (aG (a + (1 : Int))) ∧ (aG (a + (1 : Int))) ≤ ((List.replicate (if (aG ((p1.length : Int) + (1 : Int))) < b then (aG ((p1.length : Int) + (1 : Int))) else b).toNat ([] : aO)).length : Int)) then
 some (sub (e.set a.toNat g) (0 : Int) (aG (a + (1 : Int))))
 else none
 else none
def Zw_L1 (p1 : aO) (h : aO) (a : Int) (i : Int) (b : aO) (j : (List aO)) (e : Int) : Option ((aO × (List aO) × Int) ⊕ (aO × (List aO) × Int)) :=
 if (decide (e < (aG ((if (aG ((p1.length : Int) + (1 : Int))) < i then (aG ((p1.length : Int) + (1 : Int))) else i) - (1 : Int))))) = true then (
 (Z1o b h).bind fun g =>
 if (decide (g < (0 : Int))) = true then (
 some (.inr (b, j, e)))
 else (
 if (0 ≤ (0 : Int) ∧ (0 : Int) ≤ (aG (g + a)) ∧ (aG (g + a)) ≤ (b.length : Int)) then
 if (0 ≤ e ∧ e < ((List.replicate (if (aG ((p1.length : Int) + (1 : Int))) < i then (aG ((p1.length : Int) + (1 : Int))) else i).toNat ([] : aO)).length : Int)) then
 (nm (j.set e.toNat (sub b (0 : Int) (aG (g + a))))).bind fun m =>
 if (0 ≤ (aG (g + (h.length : Int))) ∧ (aG (g + (h.length : Int))) ≤ (b.length : Int) ∧ (b.length : Int) ≤ (b.length : Int)) then
 some (.inl ((sub b (aG (g + (h.length : Int))) (b.length : Int)), m, (aG (e + (1 : Int)))))
 else none
 else none
 else none))
 else (
 some (.inr (b, j, e)))
def Zw_J2 (p1 : aO) (g : aO) (b : Int) (a : Int) : Option ((List aO)) :=
 if (0 ≤ (if (aG ((p1.length : Int) + (1 : Int))) < a then (aG ((p1.length : Int) + (1 : Int))) else a) ∧ (if (aG ((p1.length : Int) + (1 : Int))) < a then (aG ((p1.length : Int) + (1 : Int))) else a) ≤ 140737488355328 ∧ 16 * (if (aG ((p1.length : Int) + (1 : Int))) < a then (aG ((p1.length : Int) + (1 : Int))) else a) ≤ 281474976710656) then
 (bC (fun s : aO × (List aO) × Int => Zw_L1 p1 g b a s.1 s.2.1 s.2.2) (p1, (List.replicate (if (aG ((p1.length : Int) + (1 : Int))) < a then (aG ((p1.length : Int) + (1 : Int))) else a).toNat ([] : aO)), (0 : Int))).bind fun e => Zw_J3 p1 a e.1 e.2.1 e.2.2
 else none
def Zw (p1 : aO) (b : aO) (a : Int) (e : Int) : Option ((List aO)) :=
 if (e == (0 : Int)) = true then (
 some ([] : List aO))
 else (
 if (b == ([] : aO)) = true then (
 (Zv p1 e).bind fun h =>
 some h)
 else (
 if (decide (e < (0 : Int))) = true then (
 (Z1z p1 b).bind fun g =>
 Zw_J2 p1 b a (aG (g + (1 : Int))))
 else (
 Zw_J2 p1 b a e)))
def Z1p (p1 : aO) (a : aO) : Option ((List aO)) :=
 (Zw p1 a (0 : Int) (-1 : Int)).bind fun b =>
 some b
def dG (b : aO) (a : Int) : Option (Int) :=
 some (Lib.indexByte b a.toNat.toUInt8)
def Z0x (p1 : aO) (a : Int) : Option (Int) :=
 (dG p1 a).bind fun b =>
 some b
def Z9_J4 (a : aO × aO × Bool) (b : (List aO)) : Option ((List aO) × aO × Bool) :=
 some (b, a.2.1, true)
def Z9_L3 (b : aO × aO × Bool) (a : Int) : Option ((Int) ⊕ (((List aO) × aO × Bool) ⊕ (Unit))) :=
 if (decide (a < (b.2.1.length : Int))) = true then (
 if (0 ≤ a ∧ a < (b.2.1.length : Int)) then
 if ((decide ((bt b.2.1 a) < (97 : Int))) || (decide ((bt b.2.1 a) > (122 : Int)))) = false → (0 ≤ (0 : Int) ∧ (0 : Int) ≤ a ∧ a ≤ (b.2.1.length : Int)) then
 (cT (!((decide ((bt b.2.1 a) < (97 : Int))) || (decide ((bt b.2.1 a) > (122 : Int))))) (Z0x (sub b.2.1 (0 : Int) a) (bt b.2.1 a))).bind fun e =>
 (cT (!(((decide ((bt b.2.1 a) < (97 : Int))) || (decide ((bt b.2.1 a) > (122 : Int)))) || (decide (e ≥ (0 : Int))))) (Z0x b.1 (bt b.2.1 a))).bind fun g =>
 if ((((decide ((bt b.2.1 a) < (97 : Int))) || (decide ((bt b.2.1 a) > (122 : Int)))) || (decide (e ≥ (0 : Int)))) || (decide (g < (0 : Int)))) = true then (
 some (.inr (.inl (([] : List aO), ([] : aO), false))))
 else (
 some (.inl (aG (a + (1 : Int)))))
 else none
 else none)
 else (
 some (.inr (.inr ())))
def Z9_J3 (a : aO × aO × Bool) (b : (List aO)) : Option ((List aO) × aO × Bool) :=
 (bC (fun s : Int => Z9_L3 a s) (0 : Int)).bind fun e => match e with
 | .inl e => some e
 | .inr e => Z9_J4 a b
def Z9_J2 (a : Int) : Option ((Int) ⊕ (((List aO) × aO × Bool) ⊕ (Unit))) :=
 some (.inl (aG (a + (1 : Int))))
def Z9_L2 (e : (List aO)) (b : Int) (a : Int) : Option ((Int) ⊕ (((List aO) × aO × Bool) ⊕ (Unit))) :=
 if (decide (a < ((ix e b).length : Int))) = true then (
 if (0 ≤ a ∧ a < ((ix e b).length : Int)) then
 if ((decide ((bt (ix e b) a) < (97 : Int))) || (decide ((bt (ix e b) a) > (122 : Int)))) = true then (
 some (.inr (.inl (([] : List aO), ([] : aO), false))))
 else (
 some (.inl (aG (a + (1 : Int)))))
 else none)
 else (
 some (.inr (.inr ())))
def Z9_L1 (b : (List aO)) (a : Int) : Option ((Int) ⊕ (((List aO) × aO × Bool) ⊕ (Unit))) :=
 if (decide (a < (b.length : Int))) = true then (
 if (0 ≤ a ∧ a < (b.length : Int)) then
 if (decide (((ix b a).length : Int) > (6 : Int))) = true then (
 some (.inr (.inl (([] : List aO), ([] : aO), false))))
 else (
 (bC (fun s : Int => Z9_L2 b a s) (0 : Int)).bind fun e => match e with
 | .inl e => some (.inr (.inl e))
 | .inr e => Z9_J2 a)
 else none)
 else (
 some (.inr (.inr ())))
def Z9 (a : aO) : Option ((List aO) × aO × Bool) :=
 (Z1n a str1).bind fun b =>
 if ((!b.2.2) || (decide ((b.2.1.length : Int) > (6 : Int)))) = true then (
 some (([] : List aO), ([] : aO), false))
 else (
 (Z1p b.1 str2).bind fun g =>
 if (decide ((g.length : Int) > (6 : Int))) = true then (
 some (([] : List aO), ([] : aO), false))
 else (
 (bC (fun s : Int => Z9_L1 g s) (0 : Int)).bind fun e => match e with
 | .inl e => some e
 | .inr e => Z9_J3 b g))
def Zb_J7 (a : (List Int)) : Option ((List Int)) :=
 some a
def Zb_J6 (a : Int) (b : (List Int)) : Option (((List Int) × Int) ⊕ ((List Int))) :=
 some (.inl (b, (aG (a + (1 : Int)))))
def Zb_J5 (a : Int) (b : (List Int)) : Option (((List Int) × Int) ⊕ ((List Int))) :=
 some (.inl (b, (aG (a + (1 : Int)))))
def Zb_L2 (f1 : form) (a : aO) (g : (List Int)) (e : Int) (h : (List Int)) (b : Int) : Option (((List Int) × Int) ⊕ ((List Int))) :=
 if (decide (b < (a.length : Int))) = true then (
 if (0 ≤ b ∧ b < (a.length : Int)) then
 if (0 ≤ e ∧ e < (f1.order.length : Int)) then
 if ((bt a b) == (bt f1.order e)) = true then (
 if (0 ≤ e ∧ e < ((List.replicate (f1.order.length : Int).toNat (0 : Int)).length : Int)) then
 if (0 ≤ b ∧ b < (g.length : Int)) then
 Zb_J5 b (h.set e.toNat (aG ((ix h e) + (ix g b))))
 else none
 else none)
 else (
 Zb_J5 b h)
 else none
 else none)
 else (
 some (.inr h))
def Zb_L1 (f1 : form) (a : aO) (b : (List Int)) (h : (List Int)) (g : Int) : Option (((List Int) × Int) ⊕ ((List Int))) :=
 if (decide (g < ((List.replicate (f1.order.length : Int).toNat (0 : Int)).length : Int))) = true then (
 (bC (fun s : (List Int) × Int => Zb_L2 f1 a b g s.1 s.2) (h, (0 : Int))).bind fun e => Zb_J6 g e)
 else (
 some (.inr h))
def Zb (f1 : form) (a : aO) (b : (List Int)) : Option ((List Int)) :=
 if (0 ≤ (f1.order.length : Int) ∧ (f1.order.length : Int) ≤ 140737488355328 ∧ 8 * (f1.order.length : Int) ≤ 281474976710656) then
 (bC (fun s : (List Int) × Int => Zb_L1 f1 a b s.1 s.2) ((List.replicate (f1.order.length : Int).toNat (0 : Int)), (0 : Int))).bind fun e => Zb_J7 e
 else none
def Z1_J9 (i : (List aO) × aO × Bool) (b : aO) (e : (List Int)) (a : (List Int)) (f224 : (List (List Int))) : Option (form × Bool) :=
 (Zl a).bind fun g =>
 (Zb (⟨i.1, i.2.1, b, e, a, f224, ([] : List Int)⟩ : form) i.2.1 g).bind fun h =>
 some ((⟨i.1, i.2.1, b, e, a, f224, h⟩ : form), true)
def Z1_L4 (b : (List (List Int))) (q : (List aO) × aO × Bool) (h : aO) (i : (List Int)) (j : (List Int)) (e : (List (List Int))) (a : Int) : Option (((List (List Int)) × Int) ⊕ ((List (List Int)))) :=
 if (decide (a < (q.1.length : Int))) = true then (
 if (0 ≤ a ∧ a < (q.1.length : Int)) then
 if (0 ≤ a ∧ a < (b.length : Int)) then
 (Zl (ix b a)).bind fun m =>
 (Zb (⟨q.1, q.2.1, h, i, j, e, ([] : List Int)⟩ : form) (ix q.1 a) m).bind fun g =>
 if e.length + ([g] : List (List Int)).length ≤ 5864062014805 then
 some (.inl ((e ++ ([g] : List (List Int))), (aG (a + (1 : Int)))))
 else none
 else none
 else none)
 else (
 some (.inr e))
def Z1_J8 (g : (List (List Int))) (j : (List aO) × aO × Bool) (h : aO) (a : (List Int)) : Option (form × Bool) :=
 if (0 ≤ (0 : Int) ∧ (0 : Int) ≤ (j.2.1.length : Int) ∧ (j.2.1.length : Int) ≤ (a.length : Int)) then
 (Zy (sub a (0 : Int) (j.2.1.length : Int))).bind fun b =>
 (Zg b).bind fun i =>
 if (!i) = true then (
 some ((⟨([] : List aO), ([] : aO), ([] : aO), ([] : List Int), ([] : List Int), ([] : List (List Int)), ([] : List Int)⟩ : form), false))
 else (
 (bC (fun s : (List (List Int)) × Int => Z1_L4 g j h a b s.1 s.2) (([] : List (List Int)), (0 : Int))).bind fun e => Z1_J9 j h a b e)
 else none
def Z1_L3 (e : aO) (b : (List Int)) (h : (List Int)) (g : Int) (a : Int) : Option (((List Int) × Int × Int) ⊕ ((form × Bool) ⊕ ((List Int)))) :=
 if (decide (a < (e.length : Int))) = true then (
 if (0 ≤ a ∧ a < (e.length : Int)) then
 if (0 ≤ (IntKind.wrap .u8 ((bt e a) - (97 : Int))) ∧ (IntKind.wrap .u8 ((bt e a) - (97 : Int))) < (26 : Int)) then
 if h.length + ([(ix b (IntKind.wrap .u8 ((bt e a) - (97 : Int))))] : List Int).length ≤ 17592186044416 then
 if (decide ((aG (g * (ix b (IntKind.wrap .u8 ((bt e a) - (97 : Int)))))) > (65536 : Int))) = true then (
 some (.inr (.inl ((⟨([] : List aO), ([] : aO), ([] : aO), ([] : List Int), ([] : List Int), ([] : List (List Int)), ([] : List Int)⟩ : form), false))))
 else (
 some (.inl ((h ++ ([(ix b (IntKind.wrap .u8 ((bt e a) - (97 : Int))))] : List Int)), (aG (g * (ix b (IntKind.wrap .u8 ((bt e a) - (97 : Int)))))), (aG (a + (1 : Int))))))
 else none
 else none
 else none)
 else (
 some (.inr (.inr h)))
def Z1_J7 (b : (List (List Int))) (h : (List aO) × aO × Bool) (g : aO) (a : (List Int)) : Option (form × Bool) :=
 (bC (fun s : (List Int) × Int × Int => Z1_L3 g a s.1 s.2.1 s.2.2) (([] : List Int), (1 : Int), (0 : Int))).bind fun e => match e with
 | .inl e => some e
 | .inr e => Z1_J8 b h g e
def Z1_J6 (e : Int) (b : aO) (a : (List Int)) : Option ((aO × (List Int) × Int) ⊕ ((form × Bool) ⊕ (aO × (List Int)))) :=
 some (.inl (b, a, (aG (e + (1 : Int)))))
def Z1_J5 (e : Int) (b : aO) (a : (List Int)) : Option ((aO × (List Int) × Int) ⊕ ((form × Bool) ⊕ (aO × (List Int)))) :=
 some (.inl (b, a, (aG (e + (1 : Int)))))
def Z1_L2 (g : (List (List Int))) (i : (List aO) × aO × Bool) (e : Int) (h : aO) (b : (List Int)) (a : Int) : Option ((aO × (List Int) × Int) ⊕ ((form × Bool) ⊕ (aO × (List Int)))) :=
 if (decide (a < ((ix i.1 e).length : Int))) = true then (
 if (0 ≤ a ∧ a < ((ix i.1 e).length : Int)) then
 if (0 ≤ (IntKind.wrap .u8 ((bt (ix i.1 e) a) - (97 : Int))) ∧ (IntKind.wrap .u8 ((bt (ix i.1 e) a) - (97 : Int))) < (26 : Int)) then
 if ((ix b (IntKind.wrap .u8 ((bt (ix i.1 e) a) - (97 : Int)))) != (0 : Int)) = true → (0 ≤ a ∧ a < ((ix g e).length : Int)) then
 if (((ix b (IntKind.wrap .u8 ((bt (ix i.1 e) a) - (97 : Int)))) != (0 : Int)) && ((ix b (IntKind.wrap .u8 ((bt (ix i.1 e) a) - (97 : Int)))) != (ix (ix g e) a))) = true then (
 some (.inr (.inl ((⟨([] : List aO), ([] : aO), ([] : aO), ([] : List Int), ([] : List Int), ([] : List (List Int)), ([] : List Int)⟩ : form), false))))
 else (
 if (0 ≤ a ∧ a < ((ix g e).length : Int)) then
 (nm (b.set (IntKind.wrap .u8 ((bt (ix i.1 e) a) - (97 : Int))).toNat (ix (ix g e) a))).bind fun j =>
 (Z0x h (bt (ix i.1 e) a)).bind fun m =>
 if (decide (m < (0 : Int))) = true then (
 if (0 ≤ a ∧ a ≤ (aG (a + (1 : Int))) ∧ (aG (a + (1 : Int))) ≤ ((ix i.1 e).length : Int)) then
 if h.length + (sub (ix i.1 e) a (aG (a + (1 : Int)))).length ≤ 9223372036854775807 then
 Z1_J5 a (h ++ (sub (ix i.1 e) a (aG (a + (1 : Int))))) j
 else none
 else none)
 else (
 Z1_J5 a h j)
 else none)
 else none
 else none
 else none)
 else (
 some (.inr (.inr (h, b))))
def Z1_L1 (a : (List (List Int))) (i : (List aO) × aO × Bool) (h : aO) (g : (List Int)) (b : Int) : Option ((aO × (List Int) × Int) ⊕ ((form × Bool) ⊕ (aO × (List Int)))) :=
 if (decide (b < (i.1.length : Int))) = true then (
 if (0 ≤ b ∧ b < (i.1.length : Int)) then
 if (0 ≤ b ∧ b < (a.length : Int)) then
 if (((ix i.1 b).length : Int) != ((ix a b).length : Int)) = true then (
 some (.inr (.inl ((⟨([] : List aO), ([] : aO), ([] : aO), ([] : List Int), ([] : List Int), ([] : List (List Int)), ([] : List Int)⟩ : form), false))))
 else (
 (bC (fun s : aO × (List Int) × Int => Z1_L2 a i b s.1 s.2.1 s.2.2) (h, g, (0 : Int))).bind fun e => match e with
 | .inl e => some (.inr (.inl e))
 | .inr e => Z1_J6 b e.1 e.2)
 else none
 else none)
 else (
 some (.inr (.inr (h, g))))
def Z1 (b : aO) (a : (List (List Int))) : Option (form × Bool) :=
 (Z9 b).bind fun g =>
 if ((!g.2.2) || ((g.1.length : Int) != (a.length : Int))) = true then (
 some ((⟨([] : List aO), ([] : aO), ([] : aO), ([] : List Int), ([] : List Int), ([] : List (List Int)), ([] : List Int)⟩ : form), false))
 else (
 (bC (fun s : aO × (List Int) × Int => Z1_L1 a g s.1 s.2.1 s.2.2) (g.2.1, (List.replicate 26 (0 : Int)), (0 : Int))).bind fun e => match e with
 | .inl e => some e
 | .inr e => Z1_J7 a g e.1 e.2)
def Z04_J2 (a : Int) (p7 : Tensor) (b : Int) : Option ((List Int)) :=
 if (0 ≤ a ∧ a < (p7.Data.length : Int)) then
 (Z0g (ix p7.Data a) b).bind fun e =>
 some (p7.Data.set a.toNat e)
 else none
def Z04_L1 (p1 : (List Int)) (e : (List Tensor)) (b : Int) (a : Int) : Option ((Int × Int) ⊕ (Int)) :=
 if (decide (a < (e.length : Int))) = true then (
 if (0 ≤ a ∧ a < (e.length : Int)) then
 if (0 ≤ a ∧ a < (p1.length : Int)) then
 if (0 ≤ (ix p1 a) ∧ (ix p1 a) < (((ix e a).Data).length : Int)) then
 (Z16 b (ix ((ix e a).Data) (ix p1 a))).bind fun g =>
 some (.inl (g, (aG (a + (1 : Int)))))
 else none
 else none
 else none)
 else (
 some (.inr b))
def Z04 (p1 : (List Int)) (a : Int) (b : (List Tensor)) (p7 : Tensor) : Option ((List Int)) :=
 (bC (fun s : Int × Int => Z04_L1 p1 b s.1 s.2) ((1 : Int), (0 : Int))).bind fun e => Z04_J2 a p7 e
def Z7_J10 (a : (List Int)) : Option (((List Int) × (List Int) × (List Int) × Int) ⊕ ((List Int))) :=
 some (.inr a)
def Z7_J9 (f1 : form) (i : (List Int)) (a : (List Int)) (g : Int) (b : Int) (e : Int) (h : (List Int)) : Option (((List Int) × (List Int) × Int × Int) ⊕ (((List Int) × (List Int) × (List Int) × Int) ⊕ (Unit))) :=
 if (e == (1 : Int)) = true then (
 some (.inr (.inl (i, h, (a.set b.toNat (aG ((ix a b) + e))), (aG (g + (aG (e * (ix f1.store b)))))))))
 else (
 some (.inl (h, (a.set b.toNat (aG ((ix a b) + e))), (aG (g + (aG (e * (ix f1.store b))))), (aG (b - (1 : Int))))))
def Z7_L3 (f1 : form) (b : Int) (h : Int) (e : (List Int)) (a : Int) : Option (((List Int) × Int) ⊕ ((List Int))) :=
 if (decide (a < ((List.replicate (f1.steps.length : Int).toNat (0 : Int)).length : Int))) = true then (
 if (0 ≤ a ∧ a < ((List.replicate (f1.steps.length : Int).toNat (0 : Int)).length : Int)) then
 if (0 ≤ a ∧ a < (f1.steps.length : Int)) then
 if (0 ≤ b ∧ b < ((ix f1.steps a).length : Int)) then
 (nm (e.set a.toNat (aG ((ix e a) + (aG (h * (ix (ix f1.steps a) b))))))).bind fun g =>
 some (.inl (g, (aG (a + (1 : Int)))))
 else none
 else none
 else none)
 else (
 some (.inr e))
def Z7_J8 (f1 : form) (i : (List Int)) (j : (List Int)) (b : (List Int)) (h : Int) (a : Int) (g : Int) : Option (((List Int) × (List Int) × Int × Int) ⊕ (((List Int) × (List Int) × (List Int) × Int) ⊕ (Unit))) :=
 if (0 ≤ a ∧ a < (b.length : Int)) then
 if (0 ≤ a ∧ a < (f1.store.length : Int)) then
 (bC (fun s : (List Int) × Int => Z7_L3 f1 a g s.1 s.2) (j, (0 : Int))).bind fun e => Z7_J9 f1 i b h a g e
 else none
 else none
def Z7_L2 (f1 : form) (g : (List Int)) (h : (List Int)) (a : (List Int)) (e : Int) (b : Int) : Option (((List Int) × (List Int) × Int × Int) ⊕ (((List Int) × (List Int) × (List Int) × Int) ⊕ (Unit))) :=
 if (decide (b ≥ (0 : Int))) = true then (
 if (0 ≤ b ∧ b < (a.length : Int)) then
 if (0 ≤ b ∧ b < (f1.loops.length : Int)) then
 if ((aG ((ix a b) + (1 : Int))) == (ix f1.loops b)) = true then (
 Z7_J8 f1 g h a e b (aG (0 - (ix a b))))
 else (
 Z7_J8 f1 g h a e b (1 : Int))
 else none
 else none)
 else (
 some (.inr (.inr ())))
def Z7_L1 (f1 : form) (m : (List Tensor)) (j : Tensor) (b : (List Int)) (i : (List Int)) (a : (List Int)) (g : Int) : Option (((List Int) × (List Int) × (List Int) × Int) ⊕ ((List Int))) :=
 (Z04 i g m (⟨j.Dims, b⟩ : Tensor)).bind fun h =>
 (bC (fun s : (List Int) × (List Int) × Int × Int => Z7_L2 f1 h s.1 s.2.1 s.2.2.1 s.2.2.2) (i, a, g, (aG ((a.length : Int) - (1 : Int))))).bind fun e => match e with
 | .inl e => some (.inl e)
 | .inr e => Z7_J10 h
def Z7 (f1 : form) (b : (List Tensor)) (a : Tensor) : Option ((List Int)) :=
 if (0 ≤ (f1.steps.length : Int) ∧ (f1.steps.length : Int) ≤ 140737488355328 ∧ 8 * (f1.steps.length : Int) ≤ 281474976710656) then
 if (0 ≤ (f1.loops.length : Int) ∧ (f1.loops.length : Int) ≤ 140737488355328 ∧ 8 * (f1.loops.length : Int) ≤ 281474976710656) then
 (bC (fun s : (List Int) × (List Int) × (List Int) × Int => Z7_L1 f1 b a s.1 s.2.1 s.2.2.1 s.2.2.2) (a.Data, (List.replicate (f1.steps.length : Int).toNat (0 : Int)), (List.replicate (f1.loops.length : Int).toNat (0 : Int)), (0 : Int))).bind fun e => some e
 else none
 else none
def Z0q (a : aO) (e : (List Tensor)) : Option (Tensor) :=
 (Zq e).bind fun i =>
 if (!i) = true then (
 some (⟨([] : List Int), ([] : List Int)⟩ : Tensor))
 else (
 (Z1f e).bind fun j =>
 (Z1 a j).bind fun b =>
 if (!b.2) = true then (
 some (⟨([] : List Int), ([] : List Int)⟩ : Tensor))
 else (
 (Z0z b.1.dims).bind fun g =>
 (Z7 b.1 e g).bind fun h =>
 some (⟨g.Dims, h⟩ : Tensor)))
def Z1b (t1 : Tensor) (a : Int) : Option (Bool) :=
 (Zm t1).bind fun b =>
 some ((b && (decide (a ≥ (0 : Int)))) && (decide (a < (t1.Dims.length : Int))))
def Z18 (e : (List Int)) (a : Int) (g : Int) : Option ((List Int)) :=
 (Z0k e).bind fun b =>
 if (0 ≤ a ∧ a < (b.length : Int)) then
 some (b.set a.toNat g)
 else none
def Z1l (t1 : Tensor) (a : (List Int)) (e : Int) : Option ((List Int)) :=
 (Z00 t1.Dims a).bind fun b =>
 if (0 ≤ b ∧ b < (t1.Data.length : Int)) then
 some (t1.Data.set b.toNat e)
 else none
def Zt_J1 (a : Tensor) (b : (List Int)) : Option (Tensor) :=
 some (⟨a.Dims, b⟩ : Tensor)
def Zt_L1 (t1 : Tensor) (a : Int) (e : Int) (h : Int) (j : Tensor) (i : (List Int)) (b : Int) : Option (((List Int) × Int) ⊕ ((List Int))) :=
 if (decide (b < (t1.Data.length : Int))) = true then (
 (Zh t1.Dims b).bind fun g =>
 if (0 ≤ a ∧ a < (g.length : Int)) then
 (Z18 g a (aG (e + (aG ((ix g a) * (aG (h + (1 : Int)))))))).bind fun m =>
 if (0 ≤ b ∧ b < (t1.Data.length : Int)) then
 (Z1l (⟨j.Dims, i⟩ : Tensor) m (ix t1.Data b)).bind fun q =>
 some (.inl (q, (aG (b + (1 : Int)))))
 else none
 else none)
 else (
 some (.inr i))
def Zt (t1 : Tensor) (a : Int) (b : Int) (g : Int) (h : Int) : Option (Tensor) :=
 (Z1b t1 a).bind fun m =>
 if (((((((!m) || (decide (b < (0 : Int)))) || (decide (b > (4096 : Int)))) || (decide (g < (0 : Int)))) || (decide (g > (4096 : Int)))) || (decide (h < (0 : Int)))) || (decide (h > (4096 : Int)))) = true then (
 some (⟨([] : List Int), ([] : List Int)⟩ : Tensor))
 else (
 if (0 ≤ a ∧ a < (t1.Dims.length : Int)) then
 (Z18 t1.Dims a (aG ((aG ((aG (b + (ix t1.Dims a))) + (aG ((aG ((ix t1.Dims a) - (1 : Int))) * h)))) + g))).bind fun j =>
 (Z0c j).bind fun q =>
 if (!q) = true then (
 some (⟨([] : List Int), ([] : List Int)⟩ : Tensor))
 else (
 (Z0m j).bind fun i =>
 (bC (fun s : (List Int) × Int => Zt_L1 t1 a b h i s.1 s.2) (i.Data, (0 : Int))).bind fun e => Zt_J1 i e)
 else none)
def Zu_J3 (v1 : View) (a : (List Int)) : Option (View) :=
 some (⟨v1.Dims, a, v1.Offset, v1.Base⟩ : View)
def Zu_J2 (a : Int) (b : (List Int)) : Option ((Int × (List Int)) ⊕ ((List Int))) :=
 some (.inl ((aG (a + (1 : Int))), b))
def Zu_L1 (v1 : View) (a : Int) (b : (List Int)) : Option ((Int × (List Int)) ⊕ ((List Int))) :=
 if (decide (a < (v1.Dims.length : Int))) = true then (
 if (0 ≤ a ∧ a < (v1.Dims.length : Int)) then
 if ((ix v1.Dims a) == (1 : Int)) = true then (
 if (0 ≤ a ∧ a < (v1.Strides.length : Int)) then
 Zu_J2 a (b.set a.toNat (0 : Int))
 else none)
 else (
 Zu_J2 a b)
 else none)
 else (
 some (.inr b))
def Zu (v1 : View) : Option (View) :=
 (bC (fun s : Int × (List Int) => Zu_L1 v1 s.1 s.2) ((0 : Int), v1.Strides)).bind fun e => Zu_J3 v1 e
def Z01_J1 (g : (List Int)) (a : Int) (e : (List Int)) : Option (View) :=
 (Zu (⟨g, e, (0 : Int), a⟩ : View)).bind fun b =>
 some b
def Z01_L1 (a : (List Int)) (e : (List Int)) (b : Int) : Option (((List Int) × Int) ⊕ ((List Int))) :=
 if (decide (b < (a.length : Int))) = true then (
 if (0 ≤ (aG (b + (1 : Int))) ∧ (aG (b + (1 : Int))) ≤ (a.length : Int) ∧ (a.length : Int) ≤ (a.length : Int)) then
 (Zj (sub a (aG (b + (1 : Int))) (a.length : Int))).bind fun g =>
 if e.length + ([g] : List Int).length ≤ 17592186044416 then
 some (.inl ((e ++ ([g] : List Int)), (aG (b + (1 : Int)))))
 else none
 else none)
 else (
 some (.inr e))
def Z01 (a : (List Int)) : Option (View) :=
 (Z0c a).bind fun g =>
 if (!g) = true then (
 some (⟨([] : List Int), ([] : List Int), (0 : Int), (0 : Int)⟩ : View))
 else (
 (Z0k a).bind fun h =>
 (Zj a).bind fun b =>
 (bC (fun s : (List Int) × Int => Z01_L1 a s.1 s.2) (([] : List Int), (0 : Int))).bind fun e => Z01_J1 h b e)
def Z0d_J1 (a : Int) : Option (Int) :=
 some a
def Z0d_L1 (v1 : View) (a : (List Int)) (e : Int) (b : Int) : Option ((Int × Int) ⊕ (Int)) :=
 if (decide (b < (a.length : Int))) = true then (
 if (0 ≤ b ∧ b < (a.length : Int)) then
 if (0 ≤ b ∧ b < (v1.Strides.length : Int)) then
 some (.inl ((aG (e + (aG ((ix a b) * (ix v1.Strides b))))), (aG (b + (1 : Int)))))
 else none
 else none)
 else (
 some (.inr e))
def Z0d (v1 : View) (a : (List Int)) : Option (Int) :=
 (bC (fun s : Int × Int => Z0d_L1 v1 a s.1 s.2) (v1.Offset, (0 : Int))).bind fun e => Z0d_J1 e
def Z06_J1 (a : (List Int)) : Option ((List Int)) :=
 some a
def Z06_L1 (v1 : View) (h : Int) (b : (List Int)) (a : Int) : Option (((List Int) × Int) ⊕ ((List Int))) :=
 if (decide (a < h)) = true then (
 (Zh v1.Dims a).bind fun g =>
 (Z0d v1 g).bind fun e =>
 if b.length + ([e] : List Int).length ≤ 17592186044416 then
 some (.inl ((b ++ ([e] : List Int)), (aG (a + (1 : Int)))))
 else none)
 else (
 some (.inr b))
def Z06 (v1 : View) : Option ((List Int)) :=
 (Zj v1.Dims).bind fun a =>
 (bC (fun s : (List Int) × Int => Z06_L1 v1 a s.1 s.2) (([] : List Int), (0 : Int))).bind fun e => Z06_J1 e
def Zc_J2 : Option (Bool) :=
 some true
def Zc_L2 (v1 : View) (b : (List Int)) (a : Int) : Option ((Int) ⊕ ((Bool) ⊕ (Unit))) :=
 if (decide (a < (b.length : Int))) = true then (
 if (0 ≤ a ∧ a < (b.length : Int)) then
 if ((decide ((ix b a) < (0 : Int))) || (decide ((ix b a) ≥ v1.Base))) = true then (
 some (.inr (.inl false)))
 else (
 some (.inl (aG (a + (1 : Int)))))
 else none)
 else (
 some (.inr (.inr ())))
def Zc_J1 (v1 : View) : Option (Bool) :=
 (Z06 v1).bind fun a =>
 (bC (fun s : Int => Zc_L2 v1 a s) (0 : Int)).bind fun e => match e with
 | .inl e => some e
 | .inr e => Zc_J2
def Zc_L1 (v1 : View) (a : Int) : Option ((Int) ⊕ ((Bool) ⊕ (Unit))) :=
 if (decide (a < (v1.Strides.length : Int))) = true then (
 if (0 ≤ a ∧ a < (v1.Strides.length : Int)) then
 if ((decide ((ix v1.Strides a) < (-4096 : Int))) || (decide ((ix v1.Strides a) > (4096 : Int)))) = true then (
 some (.inr (.inl false)))
 else (
 some (.inl (aG (a + (1 : Int)))))
 else none)
 else (
 some (.inr (.inr ())))
def Zc (v1 : View) : Option (Bool) :=
 (Z0c v1.Dims).bind fun a =>
 if ((((((!a) || ((v1.Strides.length : Int) != (v1.Dims.length : Int))) || (decide (v1.Base < (1 : Int)))) || (decide (v1.Base > (4096 : Int)))) || (decide (v1.Offset < (0 : Int)))) || (decide (v1.Offset ≥ v1.Base))) = true then (
 some false)
 else (
 (bC (fun s : Int => Zc_L1 v1 s) (0 : Int)).bind fun e => match e with
 | .inl e => some e
 | .inr e => Zc_J1 v1)
def Z1a (v1 : View) (a : Int) : Option (Bool) :=
 (Zc v1).bind fun b =>
 some ((b && (decide (a ≥ (0 : Int)))) && (decide (a < (v1.Dims.length : Int))))
def Z1x (v1 : View) : Option (View) :=
 (Z0k v1.Dims).bind fun a =>
 (Z0k v1.Strides).bind fun b =>
 some (⟨a, b, v1.Offset, v1.Base⟩ : View)
def Z1y (v1 : View) : Option (View) :=
 (Zc v1).bind fun a =>
 if (!a) = true then (
 some (⟨([] : List Int), ([] : List Int), (0 : Int), (0 : Int)⟩ : View))
 else (
 some v1)
def Zn_J2 (a : Int) (b : View) (h : (List Int)) (e : (List Int)) (g : Int) : Option (View) :=
 if e.length + ([g] : List Int).length ≤ 17592186044416 then
 (Z1y (⟨(h ++ ([a] : List Int)), (e ++ ([g] : List Int)), b.Offset, b.Base⟩ : View)).bind fun i =>
 some i
 else none
def Zn_J1 (v1 : View) (b : Int) (a : Int) (g : View) (e : (List Int)) (h : (List Int)) : Option (View) :=
 if e.length + ([a] : List Int).length ≤ 17592186044416 then
 if (a == (1 : Int)) = true then (
 Zn_J2 a g e h (0 : Int))
 else (
 Zn_J2 a g e h (ix v1.Strides b))
 else none
def Zn (v1 : View) (a : Int) (b : Int) (e : Int) : Option (View) :=
 (Z1a v1 a).bind fun j =>
 if (((!j) || (decide (b < (1 : Int)))) || (decide (e < (1 : Int)))) = false → (0 ≤ a ∧ a < (v1.Dims.length : Int)) then
 if ((((!j) || (decide (b < (1 : Int)))) || (decide (e < (1 : Int)))) || (decide (b > (ix v1.Dims a)))) = true then (
 some (⟨([] : List Int), ([] : List Int), (0 : Int), (0 : Int)⟩ : View))
 else (
 (Z1x v1).bind fun g =>
 if (0 ≤ a ∧ a < (v1.Dims.length : Int)) then
 if e ≠ 0 then
 if (0 ≤ a ∧ a < (v1.Strides.length : Int)) then
 if (0 ≤ a ∧ a < (g.Dims.length : Int)) then
 (nm (g.Dims.set a.toNat (aG ((aG ((aG ((ix v1.Dims a) - b)).tdiv e)) + (1 : Int))))).bind fun h =>
 if (0 ≤ a ∧ a < (g.Strides.length : Int)) then
 if (decide ((aG ((aG ((aG ((ix v1.Dims a) - b)).tdiv e)) + (1 : Int))) > (1 : Int))) = true then (
 (nm ((g.Strides.set a.toNat (0 : Int)).set a.toNat (aG ((ix v1.Strides a) * e)))).bind fun i =>
 Zn_J1 v1 a b g h i)
 else (
 Zn_J1 v1 a b g h (g.Strides.set a.toNat (0 : Int)))
 else none
 else none
 else none
 else none
 else none)
 else none
def Zx_J1 (a : (List Int)) (b : (List Int)) : Option (Tensor) :=
 some (⟨a, b⟩ : Tensor)
def Zx_L1 (t1 : Tensor) (b : (List Int)) (e : (List Int)) (a : Int) : Option (((List Int) × Int) ⊕ ((List Int))) :=
 if (decide (a < (b.length : Int))) = true then (
 if (0 ≤ a ∧ a < (b.length : Int)) then
 if (0 ≤ (ix b a) ∧ (ix b a) < (t1.Data.length : Int)) then
 if e.length + ([(ix t1.Data (ix b a))] : List Int).length ≤ 17592186044416 then
 some (.inl ((e ++ ([(ix t1.Data (ix b a))] : List Int)), (aG (a + (1 : Int)))))
 else none
 else none
 else none)
 else (
 some (.inr e))
def Zx (t1 : Tensor) (v4 : View) : Option (Tensor) :=
 (Zm t1).bind fun a =>
 (cT (!(!a)) (Zc v4)).bind fun b =>
 if (((!a) || (!b)) || (v4.Base != (t1.Data.length : Int))) = true then (
 some (⟨([] : List Int), ([] : List Int)⟩ : Tensor))
 else (
 (Z0k v4.Dims).bind fun g =>
 (Z06 v4).bind fun h =>
 (bC (fun s : (List Int) × Int => Zx_L1 t1 h s.1 s.2) (([] : List Int), (0 : Int))).bind fun e => Zx_J1 g e)
def Z08_J1 (p1 : aO) : Option (Bool) :=
 some (decide ((p1.length : Int) ≤ (6 : Int)))
def Z08_L1 (p1 : aO) (a : Int) : Option ((Int) ⊕ ((Bool) ⊕ (Unit))) :=
 if (decide (a < (p1.length : Int))) = true then (
 if (0 ≤ a ∧ a < (p1.length : Int)) then
 if ((decide ((bt p1 a) < (97 : Int))) || (decide ((bt p1 a) > (122 : Int)))) = true then (
 some (.inr (.inl false)))
 else (
 some (.inl (aG (a + (1 : Int)))))
 else none)
 else (
 some (.inr (.inr ())))
def Z08 (p1 : aO) : Option (Bool) :=
 (bC (fun s : Int => Z08_L1 p1 s) (0 : Int)).bind fun e => match e with
 | .inl e => some e
 | .inr e => Z08_J1 p1
def Z07_J1 : Option (Bool) :=
 some false
def Z07_L1 (p1 : aO) (b : Int) (a : Int) : Option ((Int) ⊕ ((Bool) ⊕ (Unit))) :=
 if (decide (a < (p1.length : Int))) = true then (
 if (0 ≤ a ∧ a < (p1.length : Int)) then
 if ((bt p1 a) == b) = true then (
 some (.inr (.inl true)))
 else (
 some (.inl (aG (a + (1 : Int)))))
 else none)
 else (
 some (.inr (.inr ())))
def Z07 (p1 : aO) (a : Int) : Option (Bool) :=
 (bC (fun s : Int => Z07_L1 p1 a s) (0 : Int)).bind fun e => match e with
 | .inl e => some e
 | .inr e => Z07_J1
def Z0_J8 (b : aO) (e : Int) (a : (List aO)) : Option ((List aO) × aO × Bool) :=
 some (a, (sub b (aG (e + (2 : Int))) (b.length : Int)), true)
def Z0_J7 (a : aO) (g : Int) (b : Int) (e : Bool) : Option ((Int) ⊕ (((List aO) × aO × Bool) ⊕ (Unit))) :=
 if (!e) = false → (0 ≤ (0 : Int) ∧ (0 : Int) ≤ b ∧ b ≤ ((sub a (aG (g + (2 : Int))) (a.length : Int)).length : Int)) then
 if (!e) = false → (0 ≤ b ∧ b < ((sub a (aG (g + (2 : Int))) (a.length : Int)).length : Int)) then
 (cT (!(!e)) (Z07 (sub (sub a (aG (g + (2 : Int))) (a.length : Int)) (0 : Int) b) (bt (sub a (aG (g + (2 : Int))) (a.length : Int)) b))).bind fun h =>
 if ((!e) || h) = true then (
 some (.inr (.inl (([] : List aO), ([] : aO), false))))
 else (
 some (.inl (aG (b + (1 : Int)))))
 else none
 else none
def Z0_L5 (b : aO) (j : Int) (a : (List aO)) (h : Int) (g : Bool) (e : Int) : Option ((Bool × Int) ⊕ (Bool)) :=
 if (decide (e < (a.length : Int))) = true then (
 if g = false → (0 ≤ e ∧ e < (a.length : Int)) then
 if g = false → (0 ≤ h ∧ h < ((sub b (aG (j + (2 : Int))) (b.length : Int)).length : Int)) then
 (cT (!g) (Z07 (ix a e) (bt (sub b (aG (j + (2 : Int))) (b.length : Int)) h))).bind fun i =>
 some (.inl ((g || i), (aG (e + (1 : Int)))))
 else none
 else none)
 else (
 some (.inr g))
def Z0_L4 (a : aO) (h : Int) (b : (List aO)) (g : Int) : Option ((Int) ⊕ (((List aO) × aO × Bool) ⊕ (Unit))) :=
 if (decide (g < ((sub a (aG (h + (2 : Int))) (a.length : Int)).length : Int))) = true then (
 (bC (fun s : Bool × Int => Z0_L5 a h b g s.1 s.2) (false, (0 : Int))).bind fun e => Z0_J7 a h g e)
 else (
 some (.inr (.inr ())))
def Z0_J5 (b : aO) (g : Int) (a : (List aO)) : Option ((List aO) × aO × Bool) :=
 (bC (fun s : Int => Z0_L4 b g a s) (0 : Int)).bind fun e => match e with
 | .inl e => some e
 | .inr e => Z0_J8 b g a
def Z0_L3 (a : (List aO)) (b : Int) : Option ((Int) ⊕ (((List aO) × aO × Bool) ⊕ (Unit))) :=
 if (decide (b < (a.length : Int))) = true then (
 if (0 ≤ b ∧ b < (a.length : Int)) then
 (Z08 (ix a b)).bind fun e =>
 if (!e) = true then (
 some (.inr (.inl (([] : List aO), ([] : aO), false))))
 else (
 some (.inl (aG (b + (1 : Int)))))
 else none)
 else (
 some (.inr (.inr ())))
def Z0_J4 (b : aO) (g : Int) (a : (List aO)) : Option ((List aO) × aO × Bool) :=
 if (0 ≤ (aG (g + (2 : Int))) ∧ (aG (g + (2 : Int))) ≤ (b.length : Int) ∧ (b.length : Int) ≤ (b.length : Int)) then
 (cT (!(decide ((a.length : Int) > (6 : Int)))) (Z08 (sub b (aG (g + (2 : Int))) (b.length : Int)))).bind fun h =>
 if ((decide ((a.length : Int) > (6 : Int))) || (!h)) = true then (
 some (([] : List aO), ([] : aO), false))
 else (
 (bC (fun s : Int => Z0_L3 a s) (0 : Int)).bind fun e => match e with
 | .inl e => some e
 | .inr e => Z0_J5 b g a)
 else none
def Z0_J3 (b : Int) (a : (List aO)) (e : Int) : Option (((List aO) × Int × Int) ⊕ ((List aO))) :=
 some (.inl (a, e, (aG (b + (1 : Int)))))
def Z0_L2 (e : aO) (h : Int) (a : (List aO)) (g : Int) (b : Int) : Option (((List aO) × Int × Int) ⊕ ((List aO))) :=
 if (decide (b ≤ h)) = true then (
 if (b == h) = false → (0 ≤ b ∧ b < (e.length : Int)) then
 if ((b == h) || ((bt e b) == (44 : Int))) = true then (
 if (0 ≤ g ∧ g ≤ b ∧ b ≤ (e.length : Int)) then
 if a.length + ([(sub e g b)] : List aO).length ≤ 8796093022208 then
 Z0_J3 b (a ++ ([(sub e g b)] : List aO)) (aG (b + (1 : Int)))
 else none
 else none)
 else (
 Z0_J3 b a g)
 else none)
 else (
 some (.inr a))
def Z0_J1 (a : aO) (b : Int) : Option ((List aO) × aO × Bool) :=
 if (decide ((aG (b + (1 : Int))) ≥ (a.length : Int))) = true then (
 some (([] : List aO), ([] : aO), false))
 else (
 (bC (fun s : (List aO) × Int × Int => Z0_L2 a b s.1 s.2.1 s.2.2) (([] : List aO), (0 : Int), (0 : Int))).bind fun e => Z0_J4 a b e)
def Z0_L1 (a : aO) (b : Int) : Option ((Int) ⊕ (Int)) :=
 if (decide ((aG (b + (1 : Int))) < (a.length : Int))) = true → (0 ≤ b ∧ b ≤ (aG (b + (2 : Int))) ∧ (aG (b + (2 : Int))) ≤ (a.length : Int)) then
 if ((decide ((aG (b + (1 : Int))) < (a.length : Int))) && (!((sub a b (aG (b + (2 : Int)))) == str1))) = true then (
 some (.inl (aG (b + (1 : Int)))))
 else (
 some (.inr b))
 else none
def Z0 (a : aO) : Option ((List aO) × aO × Bool) :=
 (bC (fun s : Int => Z0_L1 a s) (0 : Int)).bind fun e => Z0_J1 a e
def Z2_J12 (b : aO) (a : (List Int)) : Option (aO × (List Int) × Bool) :=
 some (b, a, true)
def Z2_L4 (a : (List Int)) (e : Int) (b : Int) : Option ((Int × Int) ⊕ ((aO × (List Int) × Bool) ⊕ (Unit))) :=
 if (decide (b < (a.length : Int))) = true then (
 if (0 ≤ b ∧ b < (a.length : Int)) then
 if (decide ((aG (e * (ix a b))) > (65536 : Int))) = true then (
 some (.inr (.inl (([] : aO), a, false))))
 else (
 some (.inl ((aG (e * (ix a b))), (aG (b + (1 : Int))))))
 else none)
 else (
 some (.inr (.inr ())))
def Z2_J11 (b : aO) (a : (List Int)) : Option (aO × (List Int) × Bool) :=
 (bC (fun s : Int × Int => Z2_L4 a s.1 s.2) ((1 : Int), (0 : Int))).bind fun e => match e with
 | .inl e => some e
 | .inr e => Z2_J12 b a
def Z2_J10 (e : Int) (b : aO) (a : (List Int)) : Option ((aO × (List Int) × Int) ⊕ ((aO × (List Int) × Bool) ⊕ (aO × (List Int)))) :=
 some (.inl (b, a, (aG (e + (1 : Int)))))
def Z2_J9 (g : (List (List Int))) (i : Int) (b : Int) (e : Int) (h : aO) (a : (List Int)) : Option ((aO × (List Int) × Int) ⊕ ((aO × (List Int) × Bool) ⊕ (aO × (List Int)))) :=
 if (0 ≤ e ∧ e < (a.length : Int)) then
 if ((ix a e) != (0 : Int)) = true → (0 ≤ b ∧ b < ((ix g i).length : Int)) then
 if (((ix a e) != (0 : Int)) && ((ix a e) != (ix (ix g i) b))) = true then (
 some (.inr (.inl (([] : aO), a, false))))
 else (
 if (0 ≤ b ∧ b < ((ix g i).length : Int)) then
 some (.inl (h, (a.set e.toNat (ix (ix g i) b)), (aG (b + (1 : Int)))))
 else none)
 else none
 else none
def Z2_J8 (g : (List aO)) (i : (List (List Int))) (h : Int) (a : aO) (b : (List Int)) (e : Int) (j : Int) : Option ((aO × (List Int) × Int) ⊕ ((aO × (List Int) × Bool) ⊕ (aO × (List Int)))) :=
 if (j == (a.length : Int)) = true then (
 if (0 ≤ e ∧ e ≤ (aG (e + (1 : Int))) ∧ (aG (e + (1 : Int))) ≤ ((ix g h).length : Int)) then
 if a.length + (sub (ix g h) e (aG (e + (1 : Int)))).length ≤ 9223372036854775807 then
 if b.length + ([(0 : Int)] : List Int).length ≤ 17592186044416 then
 Z2_J9 i h e j (a ++ (sub (ix g h) e (aG (e + (1 : Int))))) (b ++ ([(0 : Int)] : List Int))
 else none
 else none
 else none)
 else (
 Z2_J9 i h e j a b)
def Z2_L3 (e : (List aO)) (h : Int) (a : aO) (g : Int) (b : Int) : Option ((Int) ⊕ (Int)) :=
 if (decide (b < (a.length : Int))) = true → (0 ≤ b ∧ b < (a.length : Int)) then
 if (decide (b < (a.length : Int))) = true → (0 ≤ g ∧ g < ((ix e h).length : Int)) then
 if ((decide (b < (a.length : Int))) && ((bt a b) != (bt (ix e h) g))) = true then (
 some (.inl (aG (b + (1 : Int)))))
 else (
 some (.inr b))
 else none
 else none
def Z2_L2 (g : (List aO)) (j : (List (List Int))) (i : Int) (a : aO) (b : (List Int)) (h : Int) : Option ((aO × (List Int) × Int) ⊕ ((aO × (List Int) × Bool) ⊕ (aO × (List Int)))) :=
 if (decide (h < ((ix g i).length : Int))) = true then (
 (bC (fun s : Int => Z2_L3 g i a h s) (0 : Int)).bind fun e => Z2_J8 g j i a b h e)
 else (
 some (.inr (.inr (a, b))))
def Z2_L1 (b : (List aO)) (i : (List (List Int))) (h : aO) (a : (List Int)) (g : Int) : Option ((aO × (List Int) × Int) ⊕ ((aO × (List Int) × Bool) ⊕ (aO × (List Int)))) :=
 if (decide (g < (b.length : Int))) = true then (
 if (0 ≤ g ∧ g < (i.length : Int)) then
 if (0 ≤ g ∧ g < (b.length : Int)) then
 if (((ix i g).length : Int) != ((ix b g).length : Int)) = true then (
 some (.inr (.inl (([] : aO), a, false))))
 else (
 (bC (fun s : aO × (List Int) × Int => Z2_L2 b i g s.1 s.2.1 s.2.2) (h, a, (0 : Int))).bind fun e => match e with
 | .inl e => some (.inr (.inl e))
 | .inr e => Z2_J10 g e.1 e.2)
 else none
 else none)
 else (
 some (.inr (.inr (h, a))))
def Z2 (a : (List aO)) (g : aO) (b : (List (List Int))) : Option (aO × (List Int) × Bool) :=
 if (0 ≤ (g.length : Int) ∧ (g.length : Int) ≤ 140737488355328 ∧ 8 * (g.length : Int) ≤ 281474976710656) then
 (bC (fun s : aO × (List Int) × Int => Z2_L1 a b s.1 s.2.1 s.2.2) (g, (List.replicate (g.length : Int).toNat (0 : Int)), (0 : Int))).bind fun e => match e with
 | .inl e => some e
 | .inr e => Z2_J11 e.1 e.2
 else none
def Zf_J7 (a : (List Int)) : Option ((List Int)) :=
 some a
def Zf_J6 (a : Int) (b : (List Int)) : Option (((List Int) × Int) ⊕ ((List Int))) :=
 some (.inl (b, (aG (a + (1 : Int)))))
def Zf_J5 (a : Int) (b : (List Int)) : Option (((List Int) × Int) ⊕ ((List Int))) :=
 some (.inl (b, (aG (a + (1 : Int)))))
def Zf_L2 (g : aO) (a : aO) (b : (List Int)) (i : Int) (h : (List Int)) (e : Int) : Option (((List Int) × Int) ⊕ ((List Int))) :=
 if (decide (e < (a.length : Int))) = true then (
 if (0 ≤ e ∧ e < (a.length : Int)) then
 if (0 ≤ i ∧ i < (g.length : Int)) then
 if ((bt a e) == (bt g i)) = true then (
 if (0 ≤ e ∧ e < (b.length : Int)) then
 if h.length + ([(ix b e)] : List Int).length ≤ 17592186044416 then
 Zf_J5 e (h ++ ([(ix b e)] : List Int))
 else none
 else none)
 else (
 Zf_J5 e h)
 else none
 else none)
 else (
 some (.inr h))
def Zf_L1 (a : aO) (b : aO) (g : (List Int)) (i : (List Int)) (h : Int) : Option (((List Int) × Int) ⊕ ((List Int))) :=
 if (decide (h < (a.length : Int))) = true then (
 (bC (fun s : (List Int) × Int => Zf_L2 a b g h s.1 s.2) (i, (0 : Int))).bind fun e => Zf_J6 h e)
 else (
 some (.inr i))
def Zf (g : aO) (a : aO) (b : (List Int)) : Option ((List Int)) :=
 (bC (fun s : (List Int) × Int => Zf_L1 g a b s.1 s.2) (([] : List Int), (0 : Int))).bind fun e => Zf_J7 e
def Z4_J5 (b : Tensor) (a : (List Int)) : Option (Tensor) :=
 some (⟨b.Dims, a⟩ : Tensor)
def Z4_J4 (m : (List aO) × aO × Bool) (i : Tensor) (b : (List Int)) (g : Int) (e : (List Int)) (j : Int) : Option (((List Int) × Int) ⊕ ((List Int))) :=
 if (0 ≤ (0 : Int) ∧ (0 : Int) ≤ (m.2.1.length : Int) ∧ (m.2.1.length : Int) ≤ (e.length : Int)) then
 (Z00 i.Dims (sub e (0 : Int) (m.2.1.length : Int))).bind fun a =>
 if (0 ≤ a ∧ a < (i.Data.length : Int)) then
 (Z17 (ix b a) j).bind fun h =>
 some (.inl ((b.set a.toNat h), (aG (g + (1 : Int)))))
 else none
 else none
def Z4_L4 (j : (List Tensor)) (q : (List aO) × aO × Bool) (m : aO × (List Int) × Bool) (e : (List Int)) (b : Int) (a : Int) : Option ((Int × Int) ⊕ (Int)) :=
 if (decide (a < (q.1.length : Int))) = true then (
 if (0 ≤ a ∧ a < (j.length : Int)) then
 if (0 ≤ a ∧ a < (q.1.length : Int)) then
 (Zf (ix q.1 a) m.1 e).bind fun g =>
 (Z11 (ix j a) g).bind fun h =>
 (Z0l b h).bind fun i =>
 some (.inl (i, (aG (a + (1 : Int)))))
 else none
 else none)
 else (
 some (.inr b))
def Z4_L3 (m : (List Tensor)) (q : (List aO) × aO × Bool) (i : aO × (List Int) × Bool) (j : Tensor) (g : Int) (a : (List Int)) (b : Int) : Option (((List Int) × Int) ⊕ ((List Int))) :=
 if (decide (b < g)) = true then (
 (Zh i.2.1 b).bind fun h =>
 (bC (fun s : Int × Int => Z4_L4 m q i h s.1 s.2) ((1 : Int), (0 : Int))).bind fun e => Z4_J4 q j a b h e)
 else (
 some (.inr a))
def Z4_J2 (h : (List Tensor)) (i : (List aO) × aO × Bool) (g : aO × (List Int) × Bool) (b : Tensor) (a : Int) : Option (Tensor) :=
 (bC (fun s : (List Int) × Int => Z4_L3 h i g b a s.1 s.2) (b.Data, (0 : Int))).bind fun e => Z4_J5 b e
def Z4_L2 (e : aO × (List Int) × Bool) (a : Int) (b : Int) : Option ((Int × Int) ⊕ (Int)) :=
 if (decide (b < (e.2.1.length : Int))) = true then (
 if (0 ≤ b ∧ b < (e.2.1.length : Int)) then
 some (.inl ((aG (a * (ix e.2.1 b))), (aG (b + (1 : Int)))))
 else none)
 else (
 some (.inr a))
def Z4_J1 (j : (List Tensor)) (g : (List aO) × aO × Bool) (b : (List (List Int))) : Option (Tensor) :=
 (Z2 g.1 g.2.1 b).bind fun a =>
 if (!a.2.2) = false → (0 ≤ (0 : Int) ∧ (0 : Int) ≤ (g.2.1.length : Int) ∧ (g.2.1.length : Int) ≤ (a.2.1.length : Int)) then
 (cT (!(!a.2.2)) (Z0c (sub a.2.1 (0 : Int) (g.2.1.length : Int)))).bind fun h =>
 if ((!a.2.2) || (!h)) = true then (
 some (⟨([] : List Int), ([] : List Int)⟩ : Tensor))
 else (
 if (0 ≤ (0 : Int) ∧ (0 : Int) ≤ (g.2.1.length : Int) ∧ (g.2.1.length : Int) ≤ (a.2.1.length : Int)) then
 (Z0m (sub a.2.1 (0 : Int) (g.2.1.length : Int))).bind fun i =>
 (bC (fun s : Int × Int => Z4_L2 a s.1 s.2) ((1 : Int), (0 : Int))).bind fun e => Z4_J2 j g a i e
 else none)
 else none
def Z4_L1 (e : (List Tensor)) (a : (List (List Int))) (b : Int) : Option (((List (List Int)) × Int) ⊕ ((Tensor) ⊕ ((List (List Int))))) :=
 if (decide (b < (e.length : Int))) = true then (
 if (0 ≤ b ∧ b < (e.length : Int)) then
 (Zm (ix e b)).bind fun g =>
 if (!g) = true then (
 some (.inr (.inl (⟨([] : List Int), ([] : List Int)⟩ : Tensor))))
 else (
 if a.length + ([(ix e b).Dims] : List (List Int)).length ≤ 5864062014805 then
 some (.inl ((a ++ ([(ix e b).Dims] : List (List Int))), (aG (b + (1 : Int)))))
 else none)
 else none)
 else (
 some (.inr (.inr a)))
def Z4 (a : aO) (b : (List Tensor)) : Option (Tensor) :=
 (Z0 a).bind fun g =>
 if ((!g.2.2) || ((g.1.length : Int) != (b.length : Int))) = true then (
 some (⟨([] : List Int), ([] : List Int)⟩ : Tensor))
 else (
 (bC (fun s : (List (List Int)) × Int => Z4_L1 b s.1 s.2) (([] : List (List Int)), (0 : Int))).bind fun e => match e with
 | .inl e => some e
 | .inr e => Z4_J1 b g e)
def Z1u (b : (List Int)) : Option (Bool) :=
 (Z1v b).bind fun r3 =>
 if r3 = true then (
 some true)
 else (
 (Zz b).bind fun a =>
 (Z0i ([(1 : Int), (1 : Int), (1 : Int), (1 : Int)] : List Int) (1 : Int)).bind fun g =>
 (Z3 g g (1 : Int) (0 : Int) (1 : Int) (1 : Int)).bind fun E =>
 (Z12 E g).bind fun F =>
 if ((!F) || ((g.Data.length : Int) != (1 : Int))) = true then (
 some false)
 else (
 (Z3 a.1 a.2.1 a.2.2.1 a.2.2.2.1 (1 : Int) (1 : Int)).bind fun i =>
 (Ze a.1 a.2.1 a.2.2.1 a.2.2.2.1 (1 : Int) (1 : Int)).bind fun G =>
 if ((i.Data.length : Int) != (G.Data.length : Int)) = true then (
 some false)
 else (
 if ((i.Data.length : Int) == (0 : Int)) = true then (
 some true)
 else (
 (Z0e a.1 (2 : Int) a.2.2.2.1 a.2.2.2.1 (0 : Int)).bind fun I =>
 (Z0e I (3 : Int) a.2.2.2.1 a.2.2.2.1 (0 : Int)).bind fun u =>
 (Z14 u.Dims).bind fun J =>
 if (0 ≤ (2 : Int) ∧ (2 : Int) < (a.2.1.Dims.length : Int)) then
 (Z0o J (2 : Int) (ix a.2.1.Dims (2 : Int)) a.2.2.1).bind fun L =>
 if (0 ≤ (3 : Int) ∧ (3 : Int) < (a.2.1.Dims.length : Int)) then
 (Z0o L (3 : Int) (ix a.2.1.Dims (3 : Int)) a.2.2.1).bind fun M =>
 (Z0n u M).bind fun e =>
 (Z0q gD ([e, a.2.1] : List Tensor)).bind fun h =>
 (Zt a.1 (2 : Int) a.2.2.2.1 a.2.2.2.1 (0 : Int)).bind fun T =>
 (Zt T (3 : Int) a.2.2.2.1 a.2.2.2.1 (0 : Int)).bind fun D =>
 (Z01 D.Dims).bind fun U =>
 (Zn U (2 : Int) (ix a.2.1.Dims (2 : Int)) a.2.2.1).bind fun a0 =>
 (Zn a0 (3 : Int) (ix a.2.1.Dims (3 : Int)) a.2.2.1).bind fun a1 =>
 (Zx D a1).bind fun j =>
 (cT (!((e.Data.length : Int) != (j.Data.length : Int))) (Z4 gD ([j, a.2.1] : List Tensor))).bind fun m =>
 if (((e.Data.length : Int) != (j.Data.length : Int)) || ((h.Data.length : Int) != (m.Data.length : Int))) = true then (
 some false)
 else (
 (cT (!(((e.Data.length : Int) == (0 : Int)) || ((h.Data.length : Int) == (0 : Int)))) (Z12 i h)).bind fun q =>
 some ((((e.Data.length : Int) == (0 : Int)) || ((h.Data.length : Int) == (0 : Int))) || q))
 else none
 else none))))
end
end Go.Proofs.YthfhllekobdelaaGreatDoor
