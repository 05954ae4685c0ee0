/- Part 4 of the proof: see the last text. Condition: none. -/
import Derived.Laws.BitsAllLaws
import Derived.Lib.ItoaLen
import Derived.Test.YtafikkmnkeddpaaGreatDoorM3
set_option linter.unusedVariables false
set_option linter.unusedSimpArgs false
set_option maxRecDepth 100000
namespace Go.Proofs.YtafikkmnkeddpaaGreatDoor.P
open Go.RowKit Go.Proofs.YtafikkmnkeddpaaGreatDoorW.PrintWords Go.Proofs.YtafikkmnkeddpaaGreatDoorW.PrintLast Go.Proofs.YtafikkmnkeddpaaGreatDoorW.PrintMore Go.Proofs.Tryz
def iy.f (a : Int) : Option (Bool) := if a ≥ 0 then (some (decide (a ≤ 5))) else (some false)
def iC.f (a : Int) : Option (Bool) := if a ≥ 48 then (some (decide (a ≤ 57))) else (some false)
mutual
def aJ.j0 : Nat → ByteArray → Int → Bool → Option (Int × Bool)
 | 0, _, _, _ => none
 | k + 1, a, b, c => if c = true then (some (0, false)) else (if 1 ≤ (a.size : Int) then (if (a.extract 1 a.size).toList = ([] : List UInt8) then (aJ.j1 k (a.extract 1 a.size) b false) else (if 0 < ((a.extract 1 a.size).size : Int) then (aJ.j1 k (a.extract 1 a.size) b ((bt (a.extract 1 a.size) 0) == 45)) else (none))) else (none))
def aJ.j1 : Nat → ByteArray → Int → Bool → Option (Int × Bool)
 | 0, _, _, _ => none
 | k + 1, a, b, c => if c = true then (aJ.j2 k a b c true) else (if a.toList = ([] : List UInt8) then (aJ.j2 k a b c false) else (if 0 < (a.size : Int) then (aJ.j2 k a b c ((bt a 0) == 43)) else (none)))
def aJ.j2 : Nat → ByteArray → Int → Bool → Bool → Option (Int × Bool)
 | 0, _, _, _, _ => none
 | k + 1, a, b, c, d => if d = true then (if 1 ≤ (a.size : Int) then (aJ.j3 k (a.extract 1 a.size) b c) else (none)) else (aJ.j3 k a b c)
def aJ.j3 : Nat → ByteArray → Int → Bool → Option (Int × Bool)
 | 0, _, _, _ => none
 | k + 1, a, b, c => if a.toList = ([] : List UInt8) then (some (0, false)) else (aJ.l0 k a b c (a.size : Int) 0)
def aJ.l0 : Nat → ByteArray → Int → Bool → Int → Int → Option (Int × Bool)
 | 0, _, _, _, _, _ => none
 | k + 1, a, b, c, d, e => if e < d then (if 0 ≤ e then (if e < (a.size : Int) then ((iC.f (bt a e)).bind fun f => (if f = true then (aJ.l0 k a (mn (wrap64 ((wrap64 (10 * b)) + (((bt a e) - 48) % 256))) 1048576) c d (wrap64 (e + 1))) else (some (0, false)))) else (none)) else (none)) else (if c = true then (some (wrap64 (-b), true)) else (some (b, true)))
end
def aJ.f (k : Nat) (a : ByteArray) : Option (Int × Bool) := if 0 < (a.size : Int) then (if (bt a 0) = 101 then (aJ.j0 k a 0 false) else (aJ.j0 k a 0 ((bt a 0) != 69))) else (none)
mutual
def aW.j0 : Nat → ByteArray → Bool → Bool → ByteArray → ByteArray → Int → Option (Bool × ByteArray × ByteArray × Int × Bool)
 | 0, _, _, _, _, _, _ => none
 | k + 1, a, b, c, d, e, f => if b = true then (if 0 < (a.size : Int) then (if 1 ≤ (a.size : Int) then (aW.j1 k (a.extract 1 a.size) ((bt a 0) == 45) d e f) else (none)) else (none)) else (aW.j1 k a c d e f)
def aW.j1 : Nat → ByteArray → Bool → ByteArray → ByteArray → Int → Option (Bool × ByteArray × ByteArray × Int × Bool)
 | 0, _, _, _, _, _ => none
 | k + 1, a, b, c, d, e => (iR.f a).bind fun f => (if (a.size : Int) = 3 then (if f.toList = ([105, 110, 102] : List UInt8) then (aW.j2 k a f true b c d e) else (aW.j2 k a f (f.toList == ([110, 97, 110] : List UInt8)) b c d e)) else (aW.j2 k a f false b c d e))
def aW.j2 : Nat → ByteArray → ByteArray → Bool → Bool → ByteArray → ByteArray → Int → Option (Bool × ByteArray × ByteArray × Int × Bool)
 | 0, _, _, _, _, _, _, _ => none
 | k + 1, a, b, c, d, e, f, g => if c = true then (some (d, b, f, g, true)) else (if 0 ≤ (a.size : Int) then (if ((a.size : Int) : Int).toNat ≤ 281474976710656 then (aW.l0 k a (([] : List Int)) false 0 d e f g) else (none)) else (none))
def aW.j4 : Nat → ByteArray → List Int → Int → Bool → ByteArray → ByteArray → Int → Option (Bool × ByteArray × ByteArray × Int × Bool)
 | 0, _, _, _, _, _, _, _ => none
 | k + 1, a, b, c, d, e, f, g => if (b.length : Int) = 0 then (some (d, e, strOfNums b, g, false)) else (if c = (a.size : Int) then (some (d, e, strOfNums b, g, true)) else (if 0 ≤ c then (if c ≤ (a.size : Int) then ((aJ.f k (a.extract (c : Int).toNat a.size)).bind fun i => (some (d, e, strOfNums b, wrap64 (g + i.1), i.2))) else (none)) else (none)))
def aW.l0 : Nat → ByteArray → List Int → Bool → Int → Bool → ByteArray → ByteArray → Int → Option (Bool × ByteArray × ByteArray × Int × Bool)
 | 0, _, _, _, _, _, _, _, _ => none
 | k + 1, a, b, c, d, e, f, g, i => if d < (a.size : Int) then (if 0 ≤ d then ((iC.f (bt a d)).bind fun j => (if j = true then (if b.length < 140737488355328 then ((some (b ++ [bt a d] : List Int)).bind fun m => (if c = true then (aW.l0 k a m c (wrap64 (d + 1)) e f g (wrap64 (i - 1))) else (aW.l0 k a m c (wrap64 (d + 1)) e f g i))) else (none)) else (if (bt a d) = 46 then (if c = true then (aW.j4 k a b d e f g i) else (aW.l0 k a b true (wrap64 (d + 1)) e f g i)) else (aW.j4 k a b d e f g i)))) else (none)) else (aW.j4 k a b d e f g i)
end
def aW.f (k : Nat) (a : ByteArray) : Option (Bool × ByteArray × ByteArray × Int × Bool) := if a.toList = ([] : List UInt8) then (aW.j0 k a false false (⟨#[]⟩ : ByteArray) (⟨#[]⟩ : ByteArray) 0) else (if 0 < (a.size : Int) then (if (bt a 0) = 43 then (aW.j0 k a true false (⟨#[]⟩ : ByteArray) (⟨#[]⟩ : ByteArray) 0) else (aW.j0 k a ((bt a 0) == 45) false (⟨#[]⟩ : ByteArray) (⟨#[]⟩ : ByteArray) 0)) else (none))
def gY.f (a : Int) : Option (Int) := if a < 0 then (some 3) else (if a > 5 then (some 3) else (some 0))
def iI.f (a : Int) (b : Int) : Option (Int × Int × Int × Int × Int) := (dn.f a).bind fun c => (if c.2.2.2.2 = 0 then ((gY.f b).bind fun d => (some (c.1, c.2.1, c.2.2.1, c.2.2.2.1, d))) else (some (c.1, c.2.1, c.2.2.1, c.2.2.2.1, c.2.2.2.2)))
def jF.f (a : Int) (b : Bool) : Option (Int × Int × Int) := (jc.f a b).bind fun c => (some (c.1, 0, c.2))
mutual
def bF.l0 : Nat → List Int → Int → List Int → Bool → List Int → Int → Bool → Option (Bool × List Int × Int × Bool)
 | 0, _, _, _, _, _, _, _ => none
 | k + 1, a, b, c, d, e, f, g => (ji.f e).bind fun i => (if i < b then (bF.j1 k a b c (decide (0 < c.length)) d e f g) else (bF.j1 k a b c false d e f g))
def bF.j1 : Nat → List Int → Int → List Int → Bool → Bool → List Int → Int → Bool → Option (Bool × List Int × Int × Bool)
 | 0, _, _, _, _, _, _, _, _ => none
 | k + 1, a, b, c, d, e, f, g, i => if d = true then ((jE.f f f).bind fun j => ((jE.f c c).bind fun m => ((jd.f m a).bind fun n => (if n ≥ 0 then ((kV.f m a).bind fun o => ((jE.f j (([1] : List Int))).bind fun p => (bF.l0 k a b o.1 e p (wrap64 (g - 1)) i))) else (bF.l0 k a b m e j (wrap64 (g - 1)) i))))) else (some (e, f, g, decide (0 < c.length)))
end
def bF.f (k : Nat) (a : List Int) (b : List Int) (c : Int) : Option (Bool × List Int × Int × Bool) := (ji.f b).bind fun d => ((ji.f a).bind fun e => ((ig.f a (mx 0 (wrap64 ((wrap64 (d - e)) - 1)))).bind fun f => ((jf.f f.1 b).bind fun g => (bF.l0 k b c g.2.1 false g.1 (wrap64 (-(mx 0 (wrap64 ((wrap64 (d - e)) - 1))))) false))))
def gQ.f (a : Bool) (b : List Int) (c : Int) (d : Bool) : Option (Int) := (ji.f b).bind fun e => (some (wrap64 ((wrap64 (c + e)) - 1)))
def bV.j0 : Nat → Int → Bool → Bool → Option (Int)
 | 0, _, _, _ => none
 | k + 1, a, b, c => if c = true then ((gV.f a b).bind fun d => (some d.1)) else ((iM.f a b).bind fun e => (some e.1))
def bV.f (k : Nat) (a : Int) (b : Int) (c : Bool) : Option (Int) := if b = 0 then (bV.j0 k a c true) else (if b = 1 then (bV.j0 k a c true) else (if b = 3 then (if c = true then (if b = 4 then (bV.j0 k a c c) else (bV.j0 k a c false)) else (bV.j0 k a c true)) else (if b = 4 then (bV.j0 k a c c) else (bV.j0 k a c false))))
def iJ.f (a : Int) (b : Bool) (c : Bool) (d : Int) : Option (Bool) := if a = 4 then (some (!(!b))) else (if a = 3 then (some (!b)) else (if a = 0 then (if d = 2 then (some c) else (some (decide (d ≥ 2)))) else (if a = 1 then (some (decide (d ≥ 2))) else (if a = 5 then (some (!c)) else (some false)))))
mutual
def aC.j0 : Nat → Int → List Int → Bool → List Int → Int → Bool → Option (List Int × Bool)
 | 0, _, _, _, _, _, _ => none
 | k + 1, a, b, c, d, e, f => if (b.length : Int) > 0 then (if 0 < (b.length : Int) then (aC.j1 k a b (Go.bits .and .u64 (rd b 0) 3) c d e f) else (none)) else (aC.j1 k a b 0 c d e f)
def aC.j1 : Nat → Int → List Int → Int → Bool → List Int → Int → Bool → Option (List Int × Bool)
 | 0, _, _, _, _, _, _, _ => none
 | k + 1, a, b, c, d, e, f, g => if g = true then (aC.j2 k a b (Go.bits .or .u64 c 1) d e f g) else (aC.j2 k a b c d e f g)
def aC.j2 : Nat → Int → List Int → Int → Bool → List Int → Int → Bool → Option (List Int × Bool)
 | 0, _, _, _, _, _, _, _ => none
 | k + 1, a, b, c, d, e, f, g => (lS.f b 2).bind fun i => (if (i.1.length : Int) > 0 then (if 0 < (i.1.length : Int) then (aC.j3 k a c i.1 ((Go.bits .and .u64 (rd i.1 0) 1) == 1) d e f g) else (none)) else (aC.j3 k a c i.1 false d e f g))
def aC.j3 : Nat → Int → Int → List Int → Bool → Bool → List Int → Int → Bool → Option (List Int × Bool)
 | 0, _, _, _, _, _, _, _, _ => none
 | k + 1, a, b, c, d, e, f, g, i => if b = 0 then (some (c, (b != 0))) else ((iJ.f a e d b).bind fun j => (if j = true then ((jE.f c (([1] : List Int))).bind fun m => (some (m, (b != 0)))) else (some (c, (b != 0)))))
end
def aC.f (k : Nat) (a : Bool) (b : List Int) (c : Int) (d : Bool) (e : Int) (f : Int) : Option (List Int × Bool) := if (wrap64 (f - c)) ≥ 2 then ((lQ.f b (wrap64 ((wrap64 (f - c)) - 2))).bind fun g => (aC.j0 k e g.1 a b c d)) else ((ig.f b (wrap64 (2 - (wrap64 (f - c))))).bind fun i => (aC.j0 k e i.1 a b c d))
def f_.f (k : Nat) (a : Bool) (b : List Int) (c : Int) (d : Bool) (e : Int) (f : Int) (g : Int) (i : Int) (j : Int) (m : Int) : Option (Bool) := if m ≥ g then (some false) else ((aC.f k a b c d j (wrap64 ((wrap64 (m - f)) + 1))).bind fun n => ((ji.f n.1).bind fun o => (some (decide ((wrap64 ((wrap64 (m - f)) + o)) < g)))))
mutual
def aY.j0 : Nat → Int → Int → Int → Int → List Int → Bool → Int → Bool → List Int → Int → Bool → Int → Int → Int → Int → Option (Int × Int)
 | 0, _, _, _, _, _, _, _, _, _, _, _, _, _, _, _ => none
 | k + 1, a, b, c, d, e, f, g, i, j, m, n, o, p, q, t => (ji.f e).bind fun u => (if (wrap64 ((wrap64 (d + u)) - 1)) > t then ((bV.f k a b i).bind fun v => (some (v, 20))) else (if i = true then (if 0 ≤ (wrap64 (o - 1)) then (aY.j1 k b c f (Go.bits .or .u64 g (shl .u64 1 (wrap64 (o - 1)))) i j m n o p q t) else (none)) else (aY.j1 k b c f g i j m n o p q t)))
def aY.j1 : Nat → Int → Int → Bool → Int → Bool → List Int → Int → Bool → Int → Int → Int → Int → Option (Int × Int)
 | 0, _, _, _, _, _, _, _, _, _, _, _, _ => none
 | k + 1, a, b, c, d, e, f, g, i, j, m, n, o => if c = true then ((f_.f k e f g i j m n o a b).bind fun p => (if p = true then (some (d, 24)) else (some (d, 16)))) else (some (d, 0))
end
def aY.f (k : Nat) (a : Bool) (b : List Int) (c : Int) (d : Bool) (e : Int) (f : Int) (g : Int) (i : Int) (j : Int) (m : Int) : Option (Int × Int) := (gQ.f a b c d).bind fun n => (if n > j then ((bV.f k e m a).bind fun o => (some (o, 20))) else ((aC.f k a b c d m (wrap64 ((wrap64 ((mx n i) - g)) + 1))).bind fun p => (if 0 ≤ (wrap64 (g - 1)) then (if (p.1.length : Int) > 0 then (if 0 < (p.1.length : Int) then (aY.j0 k e m n (wrap64 ((wrap64 ((mx n i) - g)) + 1)) p.1 p.2 (IntKind.u64.wrap ((shl .u64 (IntKind.u64.wrap (wrap64 ((wrap64 ((wrap64 ((mx n i) - g)) + 1)) - (wrap64 ((wrap64 (i - g)) + 1))))) (wrap64 (g - 1))) + (rd p.1 0))) a b c d f g i j) else (none)) else (aY.j0 k e m n (wrap64 ((wrap64 ((mx n i) - g)) + 1)) p.1 p.2 (shl .u64 (IntKind.u64.wrap (wrap64 ((wrap64 ((wrap64 ((mx n i) - g)) + 1)) - (wrap64 ((wrap64 (i - g)) + 1))))) (wrap64 (g - 1))) a b c d f g i j)) else (none))))
def d_.j0 : Nat → Int → Int → Bool → List Int → List Int → Int → Bool → Int → Int → Int → Int → Option (Int × Int × Int)
 | 0, _, _, _, _, _, _, _, _, _, _, _ => none
 | k + 1, a, b, c, d, e, f, g, i, j, m, n => if g = true then (some (0, 0, 30)) else (if (e.length : Int) = 0 then (some (0, 0, 10)) else (if (d.length : Int) = 0 then ((jF.f a c).bind fun o => (some (o.1, o.2.1, o.2.2))) else ((bF.f k d e (wrap64 (j + 3))).bind fun p => ((aY.f k c p.2.1 (wrap64 (p.2.2.1 + f)) p.2.2.2 a i j m n b).bind fun q => (some (q.1, q.2, 0))))))
def d_.f (k : Nat) (a : Int) (b : Int) (c : Bool) (d : List Int) (e : List Int) (f : Int) : Option (Int × Int × Int) := (iI.f a b).bind fun g => (if g.2.2.2.2 = 0 then ((kE.f d).bind fun i => ((kE.f e).bind fun j => (if (wrap64 ((i.length : Int) + (j.length : Int))) > 1024 then (some (0, 0, 5)) else (if f < (-40000) then (d_.j0 k a b c i j f true g.1 g.2.1 g.2.2.1 g.2.2.2.1) else (d_.j0 k a b c i j f (decide (f > 40000)) g.1 g.2.1 g.2.2.1 g.2.2.2.1))))) else (some (0, 0, g.2.2.2.2)))
def gy.f (a : Int) : Option (List Int) := (gX.f 10 a).bind fun b => (some b.1)
def gU.f (k : Nat) (a : Int) (b : Int) (c : ByteArray) : Option (Int × Int × Int) := (dn.f a).bind fun d => (if d.2.2.2.2 = 0 then ((iy.f b).bind fun e => (if e = true then (if (c.size : Int) > 2000 then (some (0, 0, 5)) else ((aW.f k c).bind fun f => (if f.2.2.2.2 = true then ((iK.f f.2.2.1 (⟨#[48]⟩ : ByteArray)).bind fun g => (if f.2.1.toList = ([105, 110, 102] : List UInt8) then ((gV.f a f.1).bind fun i => (some (i.1, 0, i.2))) else (if f.2.1.toList = ([110, 97, 110] : List UInt8) then ((jQ.f a).bind fun j => (some (j.1, 0, j.2))) else (if g.toList = ([] : List UInt8) then ((jc.f a f.1).bind fun m => (some (m.1, 0, m.2))) else ((jX.f g).bind fun n => (if (mx (wrap64 ((-400) - (g.size : Int))) (mn f.2.2.2.1 (wrap64 (400 - (g.size : Int))))) < 0 then ((gy.f (wrap64 (-(mx (wrap64 ((-400) - (g.size : Int))) (mn f.2.2.2.1 (wrap64 (400 - (g.size : Int)))))))).bind fun o => ((d_.f k a b f.1 n.1 o 0).bind fun p => (some (p.1, p.2.1, p.2.2)))) else ((gy.f (mx (wrap64 ((-400) - (g.size : Int))) (mn f.2.2.2.1 (wrap64 (400 - (g.size : Int)))))).bind fun q => ((iP.f n.1 q).bind fun t => ((d_.f k a b f.1 t.1 (([1] : List Int)) 0).bind fun u => (some (u.1, u.2.1, u.2.2))))))))))) else (some (0, 0, 8))))) else (some (0, 0, 3)))) else (some (0, 0, d.2.2.2.2)))
def bJ.f (a : Int) : Option (Int × Int × Int × Int × Bool) := if a = 0 then (some (16, 11, (-14), 15, true)) else (if a = 1 then (some (16, 8, (-126), 127, true)) else (if a = 2 then (some (32, 24, (-126), 127, true)) else (if a = 3 then (some (64, 53, (-1022), 1023, true)) else (some (0, 0, 0, 0, false)))))
def dL.f (a : Int) (b : Int) : Option (Int) := (bJ.f a).bind fun c => (if c.2.2.2.2 = true then (if c.1 < 64 then (if 0 ≤ (IntKind.u64.wrap (c.1)) then (if (shr .u64 b (IntKind.u64.wrap (c.1))) = 0 then (some 0) else (some 4)) else (none)) else (some 0)) else (some 2))
mutual
def dR.j0 : Nat → Int → List Int → Bool → Option (Int)
 | 0, _, _, _ => none
 | k + 1, a, b, c => if c = true then (some 3) else (dR.l0 k a b (b.length : Int) 0)
def dR.l0 : Nat → Int → List Int → Int → Int → Option (Int)
 | 0, _, _, _, _ => none
 | k + 1, a, b, c, d => if d < c then (if 0 ≤ d then (if d < (b.length : Int) then ((dL.f a (rd b d)).bind fun e => (if e = 0 then (dR.l0 k a b c (wrap64 (d + 1))) else (some e))) else (none)) else (none)) else (some 0)
end
def dR.f (k : Nat) (a : Int) (b : Int) (c : List Int) : Option (Int) := (bJ.f a).bind fun d => (if d.2.2.2.2 = true then (if b < 0 then (dR.j0 k a c true) else (dR.j0 k a c (decide (b > 5)))) else (some 2))
def fP.l0 : Nat → ByteArray → ByteArray → Int → Option (ByteArray)
 | 0, _, _, _ => none
 | k + 1, a, b, c => if c < (a.size : Int) then (if 0 ≤ c then (if (bt a c) ≥ 65 then (if (bt a c) ≤ 90 then ((some (([((bt a c) + 32) % 256] : List Int) : List Int)).bind fun d => (if b.size + (strOfNums d).size ≤ 9223372036854775807 then (fP.l0 k a (b ++ (strOfNums d)) (wrap64 (c + 1))) else (none))) else ((some (([bt a c] : List Int) : List Int)).bind fun e => (if b.size + (strOfNums e).size ≤ 9223372036854775807 then (fP.l0 k a (b ++ (strOfNums e)) (wrap64 (c + 1))) else (none)))) else ((some (([bt a c] : List Int) : List Int)).bind fun f => (if b.size + (strOfNums f).size ≤ 9223372036854775807 then (fP.l0 k a (b ++ (strOfNums f)) (wrap64 (c + 1))) else (none)))) else (none)) else (some b)
def fP.f (k : Nat) (a : ByteArray) : Option (ByteArray) := fP.l0 k a (⟨#[]⟩ : ByteArray) 0
def jl.f (a : Int) : Option (Bool) := if a ≥ 48 then (some (decide (a ≤ 57))) else (some false)
mutual
def bG.j0 : Nat → ByteArray → Bool → Option (Int × Bool)
 | 0, _, _ => none
 | k + 1, a, b => if (a.size : Int) > 0 then (if 0 < (a.size : Int) then (if (bt a 0) = 45 then (bG.j1 k a b true) else (bG.j1 k a b ((bt a 0) == 43))) else (none)) else (bG.j1 k a b false)
def bG.j1 : Nat → ByteArray → Bool → Bool → Option (Int × Bool)
 | 0, _, _, _ => none
 | k + 1, a, b, c => if c = true then (if 1 ≤ (a.size : Int) then (bG.j2 k (a.extract 1 a.size) b) else (none)) else (bG.j2 k a b)
def bG.j2 : Nat → ByteArray → Bool → Option (Int × Bool)
 | 0, _, _ => none
 | k + 1, a, b => bG.l0 k a b 0 0
def bG.l0 : Nat → ByteArray → Bool → Int → Int → Option (Int × Bool)
 | 0, _, _, _, _ => none
 | k + 1, a, b, c, d => if d < (a.size : Int) then (if 0 ≤ d then ((jl.f (bt a d)).bind fun e => (if e = true then (bG.l0 k a b (mn (wrap64 ((wrap64 (10 * c)) + (((bt a d) - 48) % 256))) 1000000000) (wrap64 (d + 1))) else (some (0, false)))) else (none)) else (if b = true then (some (wrap64 (-c), decide ((a.size : Int) > 0))) else (some (c, decide ((a.size : Int) > 0))))
end
def bG.f (k : Nat) (a : ByteArray) : Option (Int × Bool) := if (a.size : Int) > 0 then (if 0 < (a.size : Int) then (bG.j0 k a ((bt a 0) == 45)) else (none)) else (bG.j0 k a false)
mutual
def aZ.j0 : Nat → ByteArray → Bool → Bool → Bool → Bool → ByteArray → Int → Option (Bool × Bool × Bool × ByteArray × Int × Bool)
 | 0, _, _, _, _, _, _, _ => none
 | k + 1, a, b, c, d, e, f, g => if b = true then (if 0 < (a.size : Int) then (if 1 ≤ (a.size : Int) then (aZ.j1 k (a.extract 1 a.size) ((bt a 0) == 45) d e f g) else (none)) else (none)) else (aZ.j1 k a c d e f g)
def aZ.j1 : Nat → ByteArray → Bool → Bool → Bool → ByteArray → Int → Option (Bool × Bool × Bool × ByteArray × Int × Bool)
 | 0, _, _, _, _, _, _ => none
 | k + 1, a, b, c, d, e, f => if (a.size : Int) = 3 then ((fP.f k a).bind fun g => ((fP.f k a).bind fun i => (if g.toList = ([105, 110, 102] : List UInt8) then (some (b, (g.toList == ([105, 110, 102] : List UInt8)), (i.toList == ([110, 97, 110] : List UInt8)), e, f, true)) else (if i.toList = ([110, 97, 110] : List UInt8) then (some (b, (g.toList == ([105, 110, 102] : List UInt8)), (i.toList == ([110, 97, 110] : List UInt8)), e, f, true)) else (aZ.j2 k a b (g.toList == ([105, 110, 102] : List UInt8)) (i.toList == ([110, 97, 110] : List UInt8)) e f))))) else (aZ.j2 k a b c d e f)
def aZ.j2 : Nat → ByteArray → Bool → Bool → Bool → ByteArray → Int → Option (Bool × Bool × Bool × ByteArray × Int × Bool)
 | 0, _, _, _, _, _, _ => none
 | k + 1, a, b, c, d, e, f => aZ.l0 k a (-1) 0 b c d e f
def aZ.l0 : Nat → ByteArray → Int → Int → Bool → Bool → Bool → ByteArray → Int → Option (Bool × Bool × Bool × ByteArray × Int × Bool)
 | 0, _, _, _, _, _, _, _, _ => none
 | k + 1, a, b, c, d, e, f, g, i => if c < (a.size : Int) then (if 0 ≤ c then ((jl.f (bt a c)).bind fun j => (if j = true then (if c ≤ (wrap64 (c + 1)) then (if (wrap64 (c + 1)) ≤ (a.size : Int) then (if g.size + (a.extract (c : Int).toNat ((wrap64 (c + 1)) : Int).toNat).size ≤ 9223372036854775807 then (if b ≥ 0 then (aZ.l0 k a (wrap64 (b + 1)) (wrap64 (c + 1)) d e f (g ++ (a.extract (c : Int).toNat ((wrap64 (c + 1)) : Int).toNat)) i) else (aZ.l0 k a b (wrap64 (c + 1)) d e f (g ++ (a.extract (c : Int).toNat ((wrap64 (c + 1)) : Int).toNat)) i)) else (none)) else (none)) else (none)) else (if (bt a c) = 46 then (aZ.j4 k a b c (decide (b < 0)) d e f g i) else (aZ.j4 k a b c false d e f g i)))) else (none)) else (some (d, e, f, g, wrap64 (-(mx 0 b)), (g.toList != ([] : List UInt8))))
def aZ.j4 : Nat → ByteArray → Int → Int → Bool → Bool → Bool → Bool → ByteArray → Int → Option (Bool × Bool × Bool × ByteArray × Int × Bool)
 | 0, _, _, _, _, _, _, _, _, _ => none
 | k + 1, a, b, c, d, e, f, g, i, j => if d = true then (aZ.l0 k a 0 (wrap64 (c + 1)) e f g i j) else (if 0 ≤ c then (if c < (a.size : Int) then (if (bt a c) = 101 then (if 0 ≤ (wrap64 (c + 1)) then (if (wrap64 (c + 1)) ≤ (a.size : Int) then ((bG.f k (a.extract ((wrap64 (c + 1)) : Int).toNat a.size)).bind fun m => (if m.2 = true then (some (e, f, g, i, wrap64 (m.1 - (mx 0 b)), (i.toList != ([] : List UInt8)))) else (some (e, f, g, i, wrap64 (m.1 - (mx 0 b)), false)))) else (none)) else (none)) else (if (bt a c) = 69 then (if 0 ≤ (wrap64 (c + 1)) then (if (wrap64 (c + 1)) ≤ (a.size : Int) then ((bG.f k (a.extract ((wrap64 (c + 1)) : Int).toNat a.size)).bind fun n => (if n.2 = true then (some (e, f, g, i, wrap64 (n.1 - (mx 0 b)), (i.toList != ([] : List UInt8)))) else (some (e, f, g, i, wrap64 (n.1 - (mx 0 b)), false)))) else (none)) else (none)) else (some (e, f, g, i, j, false)))) else (none)) else (none))
end
def aZ.f (k : Nat) (a : ByteArray) : Option (Bool × Bool × Bool × ByteArray × Int × Bool) := if (a.size : Int) > 0 then (if 0 < (a.size : Int) then (if (bt a 0) = 45 then (aZ.j0 k a true false false false (⟨#[]⟩ : ByteArray) 0) else (aZ.j0 k a ((bt a 0) == 43) false false false (⟨#[]⟩ : ByteArray) 0)) else (none)) else (aZ.j0 k a false false false false (⟨#[]⟩ : ByteArray) 0)
def bY.f (a : Int) (b : Int) (c : Int) (d : Int) : Option (Int) := (bJ.f a).bind fun e => (if 0 ≤ (IntKind.u64.wrap (wrap64 (e.1 - 1))) then (if 0 ≤ (IntKind.u64.wrap (wrap64 (e.2.1 - 1))) then (some (Go.bits .or .u64 (Go.bits .or .u64 (shl .u64 b (IntKind.u64.wrap (wrap64 (e.1 - 1)))) (shl .u64 c (IntKind.u64.wrap (wrap64 (e.2.1 - 1))))) d)) else (none)) else (none))
def jY.f (a : Int) : Option (Int) := (bJ.f a).bind fun b => (if 0 ≤ (IntKind.u64.wrap (wrap64 (b.2.1 - 2))) then ((bY.f a 0 (IntKind.u64.wrap (wrap64 ((wrap64 (2 * b.2.2.2.1)) + 1))) (shl .u64 1 (IntKind.u64.wrap (wrap64 (b.2.1 - 2))))).bind fun c => (some c)) else (none))
def fK.f (a : Int) (b : Int) : Option (Int) := (bJ.f a).bind fun c => ((bY.f a b (IntKind.u64.wrap (wrap64 ((wrap64 (2 * c.2.2.2.1)) + 1))) 0).bind fun d => (some d))
def bg.l0 : Nat → List Int → List Int → Int → Option (List Int)
 | 0, _, _, _ => none
 | k + 1, a, b, c => if c < (a.length : Int) then (if 0 ≤ (wrap64 (Int.tdiv c 2)) then (if (wrap64 (Int.tdiv c 2)) < (b.length : Int) then (if 0 ≤ c then (if 0 ≤ (IntKind.u64.wrap (wrap64 (32 * (Int.tmod c 2)))) then (bg.l0 k a (b.set ((wrap64 (Int.tdiv c 2)) : Int).toNat (Go.bits .or .u64 (rd b (wrap64 (Int.tdiv c 2))) (shl .u64 (rd a c) (IntKind.u64.wrap (wrap64 (32 * (Int.tmod c 2))))))) (wrap64 (c + 1))) else (none)) else (none)) else (none)) else (none)) else ((bI.f b).bind fun d => (some d))
def bg.f (k : Nat) (a : List Int) : Option (List Int) := if 0 ≤ (wrap64 (Int.tdiv (wrap64 ((a.length : Int) + 1)) 2)) then (if (wrap64 (Int.tdiv (wrap64 ((a.length : Int) + 1)) 2) : Int).toNat ≤ 35184372088832 then (bg.l0 k a (List.replicate (wrap64 (Int.tdiv (wrap64 ((a.length : Int) + 1)) 2) : Int).toNat 0) 0) else (none)) else (none)
mutual
def bP.l0 : Nat → ByteArray → List Int → Int → Int → Int → Option (List Int × Int)
 | 0, _, _, _, _, _ => none
 | k + 1, a, b, c, d, e => if e < (a.size : Int) then (if 0 ≤ e then (if (bt a e) < 48 then (bP.j1 k a b c d e true) else (bP.j1 k a b c d e (decide ((bt a e) > 57)))) else (none)) else ((bg.f k b).bind fun f => (if (f.length : Int) > 1024 then (some (([] : List Int), 5)) else (some (f, 0))))
def bP.j1 : Nat → ByteArray → List Int → Int → Int → Int → Bool → Option (List Int × Int)
 | 0, _, _, _, _, _, _ => none
 | k + 1, a, b, c, d, e, f => if f = true then (some (([] : List Int), 8)) else (if 0 ≤ e then (if e < (a.size : Int) then (if (Int.tmod e 9) = 8 then (bP.j2 k a b (IntKind.u64.wrap ((IntKind.u64.wrap (10 * c)) + (((bt a e) - 48) % 256))) (IntKind.u64.wrap (10 * d)) e true) else (bP.j2 k a b (IntKind.u64.wrap ((IntKind.u64.wrap (10 * c)) + (((bt a e) - 48) % 256))) (IntKind.u64.wrap (10 * d)) e (e == (wrap64 ((a.size : Int) - 1))))) else (none)) else (none))
def bP.j2 : Nat → ByteArray → List Int → Int → Int → Int → Bool → Option (List Int × Int)
 | 0, _, _, _, _, _, _ => none
 | k + 1, a, b, c, d, e, f => if f = true then (bP.l1 k a b d e c 0) else (bP.l0 k a b c d (wrap64 (e + 1)))
def bP.l1 : Nat → ByteArray → List Int → Int → Int → Int → Int → Option (List Int × Int)
 | 0, _, _, _, _, _, _ => none
 | k + 1, a, b, c, d, e, f => if f < (b.length : Int) then (if 0 ≤ f then (bP.l1 k a (b.set (f : Int).toNat (Go.bits .and .u64 (IntKind.u64.wrap ((IntKind.u64.wrap ((rd b f) * c)) + e)) 4294967295)) c d ((IntKind.u64.wrap ((IntKind.u64.wrap ((rd b f) * c)) + e)) / 4294967296) (wrap64 (f + 1))) else (none)) else (if e > 0 then (if b.length < 17592186044416 then (bP.l0 k a (b ++ [e]) 0 1 (wrap64 (d + 1))) else (none)) else (bP.l0 k a b 0 1 (wrap64 (d + 1))))
end
def bP.f (k : Nat) (a : ByteArray) : Option (List Int × Int) := if (a.size : Int) > 20000 then (some (([] : List Int), 5)) else (if (a.size : Int) = 0 then (some (([] : List Int), 8)) else (if 0 ≤ (wrap64 ((wrap64 ((a.size : Int) / 9)) + 2)) then (if (wrap64 ((wrap64 ((a.size : Int) / 9)) + 2) : Int).toNat ≤ 35184372088832 then (bP.l0 k a (([] : List Int)) 0 1 0) else (none)) else (none)))
def fE.f (a : Int) (b : Int) : Option (Int) := (bY.f a b 0 0).bind fun c => (some c)
def aH.l0 : Nat → List Int → Int → Option (Int)
 | 0, _, _ => none
 | k + 1, a, b => if b > 0 then (if 0 ≤ (wrap64 (b - 1)) then (if (wrap64 (b - 1)) < (a.length : Int) then (if (rd a (wrap64 (b - 1))) = 0 then (aH.l0 k a (wrap64 (b - 1))) else (some b)) else (none)) else (none)) else (some b)
def aH.f (k : Nat) (a : List Int) : Option (Int) := aH.l0 k a (a.length : Int)
def aX.l0 : Nat → List Int → Int → List Int → Int → Option (List Int)
 | 0, _, _, _, _ => none
 | k + 1, a, b, c, d => if d < b then (if 0 ≤ d then (if d < (a.length : Int) then (if 0 ≤ (wrap64 (2 * d)) then (if (wrap64 (2 * d)) < (c.length : Int) then (if 0 ≤ (wrap64 ((wrap64 (2 * d)) + 1)) then (if (wrap64 ((wrap64 (2 * d)) + 1)) < (c.length : Int) then (aX.l0 k a b ((c.set ((wrap64 (2 * d)) : Int).toNat (Go.bits .and .u64 (rd a d) 4294967295)).set ((wrap64 ((wrap64 (2 * d)) + 1)) : Int).toNat ((rd a d) / 4294967296)) (wrap64 (d + 1))) else (none)) else (none)) else (none)) else (none)) else (none)) else (none)) else (some c)
def aX.f (k : Nat) (a : List Int) : Option (List Int) := (aH.f k a).bind fun b => (if 0 ≤ (wrap64 (2 * b)) then (if (wrap64 (2 * b) : Int).toNat ≤ 35184372088832 then (aX.l0 k a b (List.replicate (wrap64 (2 * b) : Int).toNat 0) 0) else (none)) else (none))
mutual
def ah.l0 : Nat → List Int → List Int → Int → Option (ByteArray × Int)
 | 0, _, _, _ => none
 | k + 1, a, b, c => if c > 0 then (ah.l1 k a b c 0 (wrap64 (c - 1))) else (if 0 ≤ (b.length : Int) then (if ((b.length : Int) : Int).toNat ≤ 281474976710656 then (ah.l4 k b (List.replicate ((b.length : Int) : Int).toNat 0) 0) else (none)) else (none))
def ah.l1 : Nat → List Int → List Int → Int → Int → Int → Option (ByteArray × Int)
 | 0, _, _, _, _, _ => none
 | k + 1, a, b, c, d, e => if e ≥ 0 then (if 0 ≤ e then (if e < (a.length : Int) then (ah.l1 k (a.set (e : Int).toNat (IntKind.u64.wrap (Int.tdiv (Go.bits .or .u64 (IntKind.u64.wrap (d * 4294967296)) (rd a e)) 1000000000))) b c (Int.tmod (Go.bits .or .u64 (IntKind.u64.wrap (d * 4294967296)) (rd a e)) 1000000000) (wrap64 (e - 1))) else (none)) else (none)) else (ah.l2 k a b c d)
def ah.j3 : Nat → List Int → List Int → Int → Int → Option (ByteArray × Int)
 | 0, _, _, _, _ => none
 | k + 1, a, b, c, d => ah.l3 k a b c d 0
def ah.l3 : Nat → List Int → List Int → Int → Int → Int → Option (ByteArray × Int)
 | 0, _, _, _, _, _ => none
 | k + 1, a, b, c, d, e => if e < 9 then (if c > 0 then (if b.length < 140737488355328 then (ah.l3 k a (b ++ [(IntKind.u64.wrap (48 + (Int.tmod d 10))) % 256]) c (IntKind.u64.wrap (Int.tdiv d 10)) (wrap64 (e + 1))) else (none)) else (if d > 0 then (if b.length < 140737488355328 then (ah.l3 k a (b ++ [(IntKind.u64.wrap (48 + (Int.tmod d 10))) % 256]) c (IntKind.u64.wrap (Int.tdiv d 10)) (wrap64 (e + 1))) else (none)) else (ah.l0 k a b c))) else (ah.l0 k a b c)
def ah.l2 : Nat → List Int → List Int → Int → Int → Option (ByteArray × Int)
 | 0, _, _, _, _ => none
 | k + 1, a, b, c, d => if c > 0 then (if 0 ≤ (wrap64 (c - 1)) then (if (wrap64 (c - 1)) < (a.length : Int) then (if (rd a (wrap64 (c - 1))) = 0 then (ah.l2 k a b (wrap64 (c - 1)) d) else (ah.j3 k a b c d)) else (none)) else (none)) else (ah.j3 k a b c d)
def ah.l4 : Nat → List Int → List Int → Int → Option (ByteArray × Int)
 | 0, _, _, _ => none
 | k + 1, a, b, c => if c < (a.length : Int) then (if 0 ≤ (wrap64 ((wrap64 ((a.length : Int) - 1)) - c)) then (if (wrap64 ((wrap64 ((a.length : Int) - 1)) - c)) < (a.length : Int) then (if 0 ≤ c then (if c < (b.length : Int) then (ah.l4 k a (b.set (c : Int).toNat (rd a (wrap64 ((wrap64 ((a.length : Int) - 1)) - c)))) (wrap64 (c + 1))) else (none)) else (none)) else (none)) else (none)) else (some (strOfNums b, 0))
end
def ah.f (k : Nat) (a : List Int) : Option (ByteArray × Int) := (aH.f k a).bind fun b => (if b > 1024 then (some ((⟨#[]⟩ : ByteArray), 5)) else ((aH.f k a).bind fun c => (if c = 0 then (some ((⟨#[48]⟩ : ByteArray), 0)) else ((aX.f k a).bind fun d => (ah.l0 k d ([] : List Int) (d.length : Int))))))
mutual
def aA.l0 : Nat → List Int → List Int → List Int → Int → Option (List Int)
 | 0, _, _, _, _ => none
 | k + 1, a, b, c, d => if d < (a.length : Int) then (aA.l1 k a b c d 0 0) else ((bg.f k c).bind fun e => (some e))
def aA.l1 : Nat → List Int → List Int → List Int → Int → Int → Int → Option (List Int)
 | 0, _, _, _, _, _, _ => none
 | k + 1, a, b, c, d, e, f => if f < (b.length : Int) then (if 0 ≤ d then (if d < (a.length : Int) then (if 0 ≤ f then (if 0 ≤ (wrap64 (d + f)) then (if (wrap64 (d + f)) < (c.length : Int) then (aA.l1 k a b (c.set ((wrap64 (d + f)) : Int).toNat (Go.bits .and .u64 (IntKind.u64.wrap ((IntKind.u64.wrap ((IntKind.u64.wrap ((rd a d) * (rd b f))) + (rd c (wrap64 (d + f))))) + e)) 4294967295)) d ((IntKind.u64.wrap ((IntKind.u64.wrap ((IntKind.u64.wrap ((rd a d) * (rd b f))) + (rd c (wrap64 (d + f))))) + e)) / 4294967296) (wrap64 (f + 1))) else (none)) else (none)) else (none)) else (none)) else (none)) else (if (b.length : Int) > 0 then (if 0 ≤ (wrap64 (d + (b.length : Int))) then (if (wrap64 (d + (b.length : Int))) < (c.length : Int) then (aA.l0 k a b (c.set ((wrap64 (d + (b.length : Int))) : Int).toNat e) (wrap64 (d + 1))) else (none)) else (none)) else (aA.l0 k a b c (wrap64 (d + 1))))
end
def aA.f (k : Nat) (a : List Int) (b : List Int) : Option (List Int) := (aX.f k a).bind fun c => ((aX.f k b).bind fun d => (if 0 ≤ (wrap64 ((c.length : Int) + (d.length : Int))) then (if (wrap64 ((c.length : Int) + (d.length : Int)) : Int).toNat ≤ 35184372088832 then (aA.l0 k c d (List.replicate (wrap64 ((c.length : Int) + (d.length : Int)) : Int).toNat 0) 0) else (none)) else (none)))
def bQ.f (k : Nat) (a : List Int) (b : List Int) : Option (List Int) := (aA.f k a b).bind fun c => (some c)
mutual
def au.j0 : Nat → Int → Int → Bool → Option (List Int × Int)
 | 0, _, _, _ => none
 | k + 1, a, b, c => if c = true then (some (([] : List Int), 7)) else (au.l0 k a b (([1] : List Int)) 0)
def au.l0 : Nat → Int → Int → List Int → Int → Option (List Int × Int)
 | 0, _, _, _, _ => none
 | k + 1, a, b, c, d => if d < b then (au.j2 k a b c d (a != 1)) else (au.j2 k a b c d false)
def au.j2 : Nat → Int → Int → List Int → Int → Bool → Option (List Int × Int)
 | 0, _, _, _, _, _ => none
 | k + 1, a, b, c, d, e => if e = true then ((aA.f k c (([a] : List Int))).bind fun f => (if (f.length : Int) > 1024 then (some (([] : List Int), 5)) else (if (f.length : Int) = 0 then (some (f, 0)) else (au.l0 k a b f (wrap64 (d + 1)))))) else (some (c, 0))
end
def au.f (k : Nat) (a : Int) (b : Int) : Option (List Int × Int) := if b < 0 then (au.j0 k a b true) else (au.j0 k a b (decide (b > 20000)))
def dQ.f (k : Nat) (a : Int) : Option (List Int) := (au.f k 10 a).bind fun b => (some b.1)
def aN.l0 : Nat → Int → Int → Int → Option (Int)
 | 0, _, _, _ => none
 | k + 1, a, b, c => if c > 0 then (aN.l0 k a (wrap64 (b + 1)) (c / 2)) else (some (wrap64 ((wrap64 (64 * (wrap64 (a - 1)))) + b)))
def aN.f (k : Nat) (a : List Int) : Option (Int) := (aH.f k a).bind fun b => (if b = 0 then (some 0) else (if 0 ≤ (wrap64 (b - 1)) then (if (wrap64 (b - 1)) < (a.length : Int) then (aN.l0 k b 0 (rd a (wrap64 (b - 1)))) else (none)) else (none)))
def dP.f (a : Bool) : Option (Int) := if a = true then (some 1) else (some 0)
def bH.l0 : Nat → List Int → Int → Int → List Int → Int → Option (List Int)
 | 0, _, _, _, _, _ => none
 | k + 1, a, b, c, d, e => if e < c then (if 0 ≤ (wrap64 (e + (wrap64 (Int.tdiv b 64)))) then (if (wrap64 (e + (wrap64 (Int.tdiv b 64)))) < (d.length : Int) then (if 0 ≤ e then (if e < (a.length : Int) then (if 0 ≤ (IntKind.u64.wrap (Int.tmod b 64)) then ((some (d.set ((wrap64 (e + (wrap64 (Int.tdiv b 64)))) : Int).toNat (Go.bits .or .u64 (rd d (wrap64 (e + (wrap64 (Int.tdiv b 64))))) (shl .u64 (rd a e) (IntKind.u64.wrap (Int.tmod b 64)))) : List Int)).bind fun f => (if (Int.tmod b 64) > 0 then (if 0 ≤ (IntKind.u64.wrap (wrap64 (64 - (Int.tmod b 64)))) then (if 0 ≤ (wrap64 ((wrap64 (e + (wrap64 (Int.tdiv b 64)))) + 1)) then (if (wrap64 ((wrap64 (e + (wrap64 (Int.tdiv b 64)))) + 1)) < (d.length : Int) then (bH.l0 k a b c (f.set ((wrap64 ((wrap64 (e + (wrap64 (Int.tdiv b 64)))) + 1)) : Int).toNat (shr .u64 (rd a e) (IntKind.u64.wrap (wrap64 (64 - (Int.tmod b 64)))))) (wrap64 (e + 1))) else (none)) else (none)) else (none)) else (bH.l0 k a b c f (wrap64 (e + 1))))) else (none)) else (none)) else (none)) else (none)) else (none)) else ((bI.f d).bind fun g => (some g))
def bH.f (k : Nat) (a : List Int) (b : Int) : Option (List Int) := (aH.f k a).bind fun c => (if 0 ≤ (wrap64 ((wrap64 (c + (wrap64 (Int.tdiv b 64)))) + 1)) then (if (wrap64 ((wrap64 (c + (wrap64 (Int.tdiv b 64)))) + 1) : Int).toNat ≤ 35184372088832 then (bH.l0 k a b c (List.replicate (wrap64 ((wrap64 (c + (wrap64 (Int.tdiv b 64)))) + 1) : Int).toNat 0) 0) else (none)) else (none))
def dB.f (k : Nat) (a : List Int) (b : Int) : Option (List Int) := (bH.f k a b).bind fun c => (some c)
def fC.f (a : List Int) (b : Int) : Option (Int) := if b < (a.length : Int) then (if 0 ≤ b then (some (rd a b)) else (none)) else (some 0)
mutual
def ak.j0 : Nat → List Int → List Int → Int → Option (List Int)
 | 0, _, _, _ => none
 | k + 1, a, b, c => if 0 ≤ (wrap64 (c + 1)) then (if (wrap64 (c + 1) : Int).toNat ≤ 35184372088832 then (ak.l0 k a b c (List.replicate (wrap64 (c + 1) : Int).toNat 0) 0 0) else (none)) else (none)
def ak.l0 : Nat → List Int → List Int → Int → List Int → Int → Int → Option (List Int)
 | 0, _, _, _, _, _, _ => none
 | k + 1, a, b, c, d, e, f => if f < c then ((fC.f a f).bind fun g => ((fC.f b f).bind fun i => (if (IntKind.u64.wrap (g + i)) < g then (if 0 ≤ f then (if f < (d.length : Int) then (ak.l0 k a b c (d.set (f : Int).toNat (IntKind.u64.wrap ((IntKind.u64.wrap (g + i)) + e))) 1 (wrap64 (f + 1))) else (none)) else (none)) else (if (IntKind.u64.wrap ((IntKind.u64.wrap (g + i)) + e)) < (IntKind.u64.wrap (g + i)) then (if 0 ≤ f then (if f < (d.length : Int) then (ak.l0 k a b c (d.set (f : Int).toNat (IntKind.u64.wrap ((IntKind.u64.wrap (g + i)) + e))) 1 (wrap64 (f + 1))) else (none)) else (none)) else (if 0 ≤ f then (if f < (d.length : Int) then (ak.l0 k a b c (d.set (f : Int).toNat (IntKind.u64.wrap ((IntKind.u64.wrap (g + i)) + e))) 0 (wrap64 (f + 1))) else (none)) else (none)))))) else (if 0 ≤ c then (if c < (d.length : Int) then ((bI.f (d.set (c : Int).toNat e)).bind fun j => (some j)) else (none)) else (none))
end
def ak.f (k : Nat) (a : List Int) (b : List Int) : Option (List Int) := (aH.f k a).bind fun c => ((aH.f k b).bind fun d => (if d > c then ((aH.f k b).bind fun e => (ak.j0 k a b e)) else (ak.j0 k a b c)))
def aU.l0 : Nat → List Int → List Int → Int → Option (Int)
 | 0, _, _, _ => none
 | k + 1, a, b, c => if c ≥ 0 then (if 0 ≤ c then (if c < (a.length : Int) then (if c < (b.length : Int) then (if (rd a c) < (rd b c) then (some (-1)) else (if (rd a c) > (rd b c) then (some 1) else (aU.l0 k a b (wrap64 (c - 1))))) else (none)) else (none)) else (none)) else (some 0)
def aU.f (k : Nat) (a : List Int) (b : List Int) : Option (Int) := (aH.f k a).bind fun c => ((aH.f k b).bind fun d => (if c = d then (aU.l0 k a b (wrap64 (d - 1))) else (if c < d then (some (-1)) else (some 1))))
def eU.f (a : List Int) (b : Int) : Option (Int) := if b < 0 then (some 0) else (if (wrap64 (Int.tdiv b 64)) ≥ (a.length : Int) then (some 0) else (if 0 ≤ (wrap64 (Int.tdiv b 64)) then (if (wrap64 (Int.tdiv b 64)) < (a.length : Int) then (if 0 ≤ (IntKind.u64.wrap (Int.tmod b 64)) then (some (Go.bits .and .u64 (shr .u64 (rd a (wrap64 (Int.tdiv b 64))) (IntKind.u64.wrap (Int.tmod b 64))) 1)) else (none)) else (none)) else (none)))
def bC.l0 : Nat → List Int → Int → Int → List Int → Int → Option (List Int)
 | 0, _, _, _, _, _ => none
 | k + 1, a, b, c, d, e => if e < (d.length : Int) then (if 0 ≤ (wrap64 (e + (wrap64 (Int.tdiv b 64)))) then (if (wrap64 (e + (wrap64 (Int.tdiv b 64)))) < (a.length : Int) then (if 0 ≤ (IntKind.u64.wrap (Int.tmod b 64)) then (if 0 ≤ e then ((some (d.set (e : Int).toNat (shr .u64 (rd a (wrap64 (e + (wrap64 (Int.tdiv b 64))))) (IntKind.u64.wrap (Int.tmod b 64))) : List Int)).bind fun f => (if (Int.tmod b 64) > 0 then (if (wrap64 ((wrap64 (e + (wrap64 (Int.tdiv b 64)))) + 1)) < c then (if 0 ≤ (wrap64 ((wrap64 (e + (wrap64 (Int.tdiv b 64)))) + 1)) then (if (wrap64 ((wrap64 (e + (wrap64 (Int.tdiv b 64)))) + 1)) < (a.length : Int) then (if 0 ≤ (IntKind.u64.wrap (wrap64 (64 - (Int.tmod b 64)))) then (bC.l0 k a b c (f.set (e : Int).toNat (Go.bits .or .u64 (rd f e) (shl .u64 (rd a (wrap64 ((wrap64 (e + (wrap64 (Int.tdiv b 64)))) + 1))) (IntKind.u64.wrap (wrap64 (64 - (Int.tmod b 64))))))) (wrap64 (e + 1))) else (none)) else (none)) else (none)) else (bC.l0 k a b c f (wrap64 (e + 1)))) else (bC.l0 k a b c f (wrap64 (e + 1))))) else (none)) else (none)) else (none)) else (none)) else ((bI.f d).bind fun g => (some g))
def bC.f (k : Nat) (a : List Int) (b : Int) : Option (List Int) := (aN.f k a).bind fun c => (if b ≥ c then (some ([] : List Int)) else ((aH.f k a).bind fun d => (if 0 ≤ (wrap64 (d - (wrap64 (Int.tdiv b 64)))) then (if (wrap64 (d - (wrap64 (Int.tdiv b 64))) : Int).toNat ≤ 35184372088832 then (bC.l0 k a b d (List.replicate (wrap64 (d - (wrap64 (Int.tdiv b 64))) : Int).toNat 0) 0) else (none)) else (none))))
def aQ.l0 : Nat → List Int → List Int → Int → List Int → Int → Int → Option (List Int)
 | 0, _, _, _, _, _, _ => none
 | k + 1, a, b, c, d, e, f => if f < c then (if 0 ≤ f then (if f < (a.length : Int) then ((fC.f b f).bind fun g => (if f < (d.length : Int) then ((some (d.set (f : Int).toNat (IntKind.u64.wrap ((IntKind.u64.wrap ((rd a f) - g)) - e)) : List Int)).bind fun i => (if (rd a f) < g then (aQ.l0 k a b c i 1 (wrap64 (f + 1))) else (if (rd a f) = g then (if e = 1 then (aQ.l0 k a b c i 1 (wrap64 (f + 1))) else (aQ.l0 k a b c i 0 (wrap64 (f + 1)))) else (aQ.l0 k a b c i 0 (wrap64 (f + 1)))))) else (none))) else (none)) else (none)) else ((bI.f d).bind fun j => (some j))
def aQ.f (k : Nat) (a : List Int) (b : List Int) : Option (List Int) := (aH.f k a).bind fun c => (if 0 ≤ c then (if (c : Int).toNat ≤ 35184372088832 then (aQ.l0 k a b c (List.replicate (c : Int).toNat 0) 0 0) else (none)) else (none))
mutual
def aG.l0 : Nat → List Int → List Int → List Int → List Int → Int → Option (List Int × List Int)
 | 0, _, _, _, _, _ => none
 | k + 1, a, b, c, d, e => if e ≥ 0 then ((bH.f k d 1).bind fun f => ((eU.f a e).bind fun g => (if g = 1 then ((ak.f k f (([1] : List Int))).bind fun i => (aG.j1 k a b c i e)) else (aG.j1 k a b c f e)))) else ((bI.f c).bind fun j => (some (j, d)))
def aG.j1 : Nat → List Int → List Int → List Int → List Int → Int → Option (List Int × List Int)
 | 0, _, _, _, _, _ => none
 | k + 1, a, b, c, d, e => (aU.f k d b).bind fun f => (if f ≥ 0 then ((aQ.f k d b).bind fun g => (if 0 ≤ (wrap64 (Int.tdiv e 64)) then (if (wrap64 (Int.tdiv e 64)) < (c.length : Int) then (if 0 ≤ (IntKind.u64.wrap (Int.tmod e 64)) then (aG.l0 k a b (c.set ((wrap64 (Int.tdiv e 64)) : Int).toNat (Go.bits .or .u64 (rd c (wrap64 (Int.tdiv e 64))) (shl .u64 1 (IntKind.u64.wrap (Int.tmod e 64))))) g (wrap64 (e - 1))) else (none)) else (none)) else (none))) else (aG.l0 k a b c d (wrap64 (e - 1))))
end
def aG.f (k : Nat) (a : List Int) (b : List Int) : Option (List Int × List Int) := (aN.f k a).bind fun c => ((aN.f k b).bind fun d => (if c < d then ((bI.f a).bind fun e => (some (([] : List Int), e))) else ((aH.f k a).bind fun f => (if 0 ≤ f then (if (f : Int).toNat ≤ 35184372088832 then ((bC.f k a (wrap64 ((wrap64 (c - d)) + 1))).bind fun g => (aG.l0 k a b (List.replicate (f : Int).toNat 0) g (wrap64 (c - d)))) else (none)) else (none)))))
def cO.f (k : Nat) (a : List Int) (b : List Int) : Option (List Int × List Int) := (aG.f k a b).bind fun c => (some (c.1, c.2))
def dD.f (k : Nat) (a : Bool) (b : List Int) (c : List Int) (d : Int) (e : Int) : Option (List Int × Int) := if d ≥ e then ((dB.f k b (wrap64 (d - e))).bind fun f => ((cO.f k f c).bind fun g => (if (g.2.length : Int) = 0 then (some (g.1, 0)) else ((dB.f k g.2 1).bind fun i => ((aU.f k i c).bind fun j => (some (g.1, wrap64 (2 + j)))))))) else ((dB.f k c (wrap64 (e - d))).bind fun m => ((cO.f k b m).bind fun n => (if (n.2.length : Int) = 0 then (some (n.1, 0)) else ((dB.f k n.2 1).bind fun o => ((aU.f k o m).bind fun p => (some (n.1, wrap64 (2 + p))))))))
def fQ.f (k : Nat) (a : Bool) (b : List Int) (c : List Int) (d : Int) : Option (Int) := (aN.f k b).bind fun e => ((aN.f k c).bind fun f => ((dD.f k a b c d (wrap64 ((wrap64 (e - f)) + d))).bind fun g => (if (g.1.length : Int) = 0 then (some (wrap64 ((wrap64 ((wrap64 (e - f)) + d)) - 1))) else (some (wrap64 ((wrap64 (e - f)) + d))))))
def dU.f (k : Nat) (a : Int) (b : Bool) (c : List Int) (d : Int) : Option (List Int) := (eU.f c 0).bind fun e => (if a = 0 then (if d = 3 then (if d > 0 then ((ak.f k c (([1] : List Int))).bind fun f => (some f)) else (some c)) else (if d = 2 then (if d > 0 then (if e = 1 then ((ak.f k c (([1] : List Int))).bind fun g => (some g)) else (some c)) else (some c)) else (if d > 0 then (some c) else (some c)))) else (if a = 1 then (if d > 0 then (if d ≥ 2 then ((ak.f k c (([1] : List Int))).bind fun i => (some i)) else (some c)) else (some c)) else (if a = 3 then (if d > 0 then (if b = true then (some c) else ((ak.f k c (([1] : List Int))).bind fun j => (some j))) else (some c)) else (if a = 4 then (if d > 0 then (if b = true then ((ak.f k c (([1] : List Int))).bind fun m => (some m)) else (some c)) else (some c)) else (if a = 5 then (if d > 0 then (if e = 1 then (some c) else ((ak.f k c (([1] : List Int))).bind fun n => (some n))) else (some c)) else (if d > 0 then (some c) else (some c)))))))
def dZ.f (a : Int) (b : Int) : Option (Int) := (bJ.f a).bind fun c => (if 0 ≤ (IntKind.u64.wrap (wrap64 (c.2.1 - 1))) then ((bY.f a b (IntKind.u64.wrap (wrap64 (2 * c.2.2.2.1))) (IntKind.u64.wrap ((shl .u64 1 (IntKind.u64.wrap (wrap64 (c.2.1 - 1)))) - 1))).bind fun d => (some d)) else (none))
def aK.j0 : Nat → Int → Bool → Bool → Option (Int)
 | 0, _, _, _ => none
 | k + 1, a, b, c => if c = true then ((dP.f b).bind fun d => ((fK.f a d).bind fun e => (some e))) else ((dP.f b).bind fun f => ((dZ.f a f).bind fun g => (some g)))
def aK.f (k : Nat) (a : Int) (b : Int) (c : Bool) : Option (Int) := if b = 0 then (aK.j0 k a c true) else (if b = 1 then (aK.j0 k a c true) else (if b = 3 then (if c = true then (if b = 4 then (aK.j0 k a c c) else (aK.j0 k a c false)) else (aK.j0 k a c true)) else (if b = 4 then (aK.j0 k a c c) else (aK.j0 k a c false))))
mutual
def aI.j0 : Nat → Int → Int → Int → Int → Int → Bool → List Int → List Int → Int → Int → Int → Int → Int → Option (Int × Int)
 | 0, _, _, _, _, _, _, _, _, _, _, _, _, _ => none
 | k + 1, a, b, c, d, e, f, g, i, j, m, n, o, p => (dD.f k f g i j e).bind fun q => ((dU.f k b f q.1 q.2).bind fun t => ((aN.f k t).bind fun u => (if (wrap64 (u + e)) > (wrap64 (p + 1)) then ((aK.f k a b f).bind fun v => (some (v, 20))) else (if q.2 > 0 then ((dD.f k f g i j (wrap64 ((wrap64 (c - n)) + 1))).bind fun w => ((dU.f k b f w.1 w.2).bind fun x => ((aN.f k x).bind fun y => (if (wrap64 ((wrap64 ((wrap64 (y + c)) - n)) + 1)) ≤ o then (aI.j1 k a d e t 24 f g i j m n o p) else (aI.j1 k a d e t 16 f g i j m n o p))))) else (aI.j1 k a d e t 0 f g i j m n o p)))))
def aI.j1 : Nat → Int → Int → Int → List Int → Int → Bool → List Int → List Int → Int → Int → Int → Int → Int → Option (Int × Int)
 | 0, _, _, _, _, _, _, _, _, _, _, _, _, _ => none
 | k + 1, a, b, c, d, e, f, g, i, j, m, n, o, p => if (d.length : Int) > 0 then (if 0 < (d.length : Int) then ((dP.f f).bind fun q => ((bY.f a q 0 0).bind fun t => (if 0 ≤ (IntKind.u64.wrap (wrap64 (n - 1))) then (some (Go.bits .or .u64 t (IntKind.u64.wrap ((shl .u64 (IntKind.u64.wrap (wrap64 (c - b))) (IntKind.u64.wrap (wrap64 (n - 1)))) + (rd d 0))), e)) else (none)))) else (none)) else ((dP.f f).bind fun u => ((bY.f a u 0 0).bind fun v => (if 0 ≤ (IntKind.u64.wrap (wrap64 (n - 1))) then (some (Go.bits .or .u64 v (IntKind.u64.wrap ((shl .u64 (IntKind.u64.wrap (wrap64 (c - b))) (IntKind.u64.wrap (wrap64 (n - 1)))) + 0)), e)) else (none))))
end
def aI.f (k : Nat) (a : Int) (b : Int) (c : Bool) (d : List Int) (e : List Int) (f : Int) : Option (Int × Int) := (bI.f d).bind fun g => (if (g.length : Int) = 0 then ((dP.f c).bind fun i => ((fE.f a i).bind fun j => (some (j, 0)))) else ((bJ.f a).bind fun m => ((fQ.f k c d e f).bind fun n => (if (wrap64 ((wrap64 (n - m.2.1)) + 1)) < (wrap64 ((wrap64 (m.2.2.1 - m.2.1)) + 1)) then (aI.j0 k a b n (wrap64 ((wrap64 (m.2.2.1 - m.2.1)) + 1)) (wrap64 ((wrap64 (m.2.2.1 - m.2.1)) + 1)) c d e f m.1 m.2.1 m.2.2.1 m.2.2.2.1) else (aI.j0 k a b n (wrap64 ((wrap64 (m.2.2.1 - m.2.1)) + 1)) (wrap64 ((wrap64 (n - m.2.1)) + 1)) c d e f m.1 m.2.1 m.2.2.1 m.2.2.2.1)))))
def gW.j0 : Nat → Int → Int → Bool → Int → Bool → Bool → Bool → ByteArray → Int → Option (Int × Int × Int)
 | 0, _, _, _, _, _, _, _, _, _ => none
 | k + 1, a, b, c, d, e, f, g, i, j => if c = true then (if g = true then ((jY.f a).bind fun m => (some (m, 0, 0))) else (if f = true then ((fK.f a d).bind fun n => (some (n, 0, 0))) else ((bP.f k i).bind fun o => (if (o.1.length : Int) = 0 then ((fE.f a d).bind fun p => (some (p, 0, 0))) else ((ah.f k o.1).bind fun q => (if (wrap64 ((mx (-500) (mn (wrap64 ((wrap64 ((q.1.size : Int) - 1)) + j)) 500)) - (wrap64 ((q.1.size : Int) - 1)))) ≥ 0 then ((dQ.f k (wrap64 ((mx (-500) (mn (wrap64 ((wrap64 ((q.1.size : Int) - 1)) + j)) 500)) - (wrap64 ((q.1.size : Int) - 1))))).bind fun t => ((bQ.f k o.1 t).bind fun u => ((aI.f k a b e u (([1] : List Int)) 0).bind fun v => (some (v.1, v.2, 0))))) else ((dQ.f k (wrap64 (-(wrap64 ((mx (-500) (mn (wrap64 ((wrap64 ((q.1.size : Int) - 1)) + j)) 500)) - (wrap64 ((q.1.size : Int) - 1))))))).bind fun w => ((aI.f k a b e o.1 w 0).bind fun x => (some (x.1, x.2, 0)))))))))) else (some (0, 0, 8))
def gW.f (k : Nat) (a : Int) (b : Int) (c : ByteArray) : Option (Int × Int × Int) := (dR.f k a b ([] : List Int)).bind fun d => (if d = 0 then (if (c.size : Int) > 2000 then (some (0, 0, 5)) else ((aZ.f k c).bind fun e => (if e.1 = true then (gW.j0 k a b e.2.2.2.2.2 1 e.1 e.2.1 e.2.2.1 e.2.2.2.1 e.2.2.2.2.1) else (gW.j0 k a b e.2.2.2.2.2 0 e.1 e.2.1 e.2.2.1 e.2.2.2.1 e.2.2.2.2.1)))) else (some (0, 0, d)))
def b_.f (a : Int) (b : Int) : Option (Int) := (dn.f a).bind fun c => (if c.2.2.2.2 = 0 then (if c.1 < 64 then (if 0 ≤ c.1 then (if (shr .u64 b c.1) = 0 then (some 0) else (some 4)) else (none)) else (some 0)) else (some c.2.2.2.2))
mutual
def bD.j0 : Nat → Int → Bool → Int → Int → ByteArray → Int → Int → Int → Int → Option (Bool × Int × Int × Int × ByteArray)
 | 0, _, _, _, _, _, _, _, _, _ => none
 | k + 1, a, b, c, d, e, f, g, i, j => if a = 1 then (bD.j1 k b c d e a (a == 1) f g i j) else (bD.j1 k b c d e a (a == 0) f g i j)
def bD.j1 : Nat → Bool → Int → Int → ByteArray → Int → Bool → Int → Int → Int → Int → Option (Bool × Int × Int × Int × ByteArray)
 | 0, _, _, _, _, _, _, _, _, _, _ => none
 | k + 1, a, b, c, d, e, f, g, i, j, m => if f = true then (some (false, 0, 0, 0, (⟨#[110, 97, 110]⟩ : ByteArray))) else (if e = 2 then (bD.j2 k a b c d e (e == 2) g i j m) else (bD.j2 k a b c d e (e == 9) g i j m))
def bD.j2 : Nat → Bool → Int → Int → ByteArray → Int → Bool → Int → Int → Int → Int → Option (Bool × Int × Int × Int × ByteArray)
 | 0, _, _, _, _, _, _, _, _, _, _ => none
 | k + 1, a, b, c, d, e, f, g, i, j, m => if f = true then (if d.size + 3 ≤ 9223372036854775807 then (some (false, 0, 0, 0, d ++ (⟨#[105, 110, 102]⟩ : ByteArray))) else (none)) else (if e = 5 then (if d.size + 1 ≤ 9223372036854775807 then (some (false, 0, 0, 0, d ++ (⟨#[48]⟩ : ByteArray))) else (none)) else (if e = 6 then (if d.size + 1 ≤ 9223372036854775807 then (some (false, 0, 0, 0, d ++ (⟨#[48]⟩ : ByteArray))) else (none)) else (if b > 0 then (if 0 ≤ (wrap64 (i - 1)) then (if c = 0 then (if b > 1 then (some (a, Go.bits .or .u64 c (shl .u64 1 (wrap64 (i - 1))), wrap64 ((wrap64 ((wrap64 (j - i)) + 1)) + (wrap64 ((wrap64 (b)) - 1))), 1, (⟨#[]⟩ : ByteArray))) else (some (a, Go.bits .or .u64 c (shl .u64 1 (wrap64 (i - 1))), wrap64 ((wrap64 ((wrap64 (j - i)) + 1)) + (wrap64 ((wrap64 (b)) - 1))), 2, (⟨#[]⟩ : ByteArray)))) else (some (a, Go.bits .or .u64 c (shl .u64 1 (wrap64 (i - 1))), wrap64 ((wrap64 ((wrap64 (j - i)) + 1)) + (wrap64 ((wrap64 (b)) - 1))), 2, (⟨#[]⟩ : ByteArray)))) else (none)) else (some (a, c, wrap64 ((wrap64 (j - i)) + 1), 2, (⟨#[]⟩ : ByteArray))))))
end
def bD.f (k : Nat) (a : Int) (b : Int) : Option (Bool × Int × Int × Int × ByteArray) := (dn.f a).bind fun c => ((jk.f a b).bind fun d => ((iW.f a b).bind fun e => (if e.1 = true then (bD.j0 k d.1 e.1 e.2.1 e.2.2.1 (⟨#[45]⟩ : ByteArray) c.1 c.2.1 c.2.2.1 c.2.2.2.1) else (bD.j0 k d.1 e.1 e.2.1 e.2.2.1 (⟨#[]⟩ : ByteArray) c.1 c.2.1 c.2.2.1 c.2.2.2.1))))
def dI.f (a : Bool) (b : Int) (c : Int) (d : Int) : Option (ByteArray) := if a = true then (some (⟨#[45]⟩ : ByteArray)) else (some (⟨#[]⟩ : ByteArray))
def iO.f (a : ByteArray) (b : Int) : Option (ByteArray) := if b < 0 then ((strings_Repeat.f (⟨#[48]⟩ : ByteArray) (wrap64 ((wrap64 (-b)) - 1))).bind fun c => (if 2 + c.size ≤ 9223372036854775807 then (if ((⟨#[48, 46]⟩ : ByteArray) ++ c).size + a.size ≤ 9223372036854775807 then (some (((⟨#[48, 46]⟩ : ByteArray) ++ c) ++ a)) else (none)) else (none))) else (if b ≥ (wrap64 ((a.size : Int) - 1)) then ((strings_Repeat.f (⟨#[48]⟩ : ByteArray) (wrap64 ((wrap64 (b - (a.size : Int))) + 1))).bind fun d => (if a.size + d.size ≤ 9223372036854775807 then (some (a ++ d)) else (none))) else (if 0 ≤ (wrap64 (b + 1)) then (if (wrap64 (b + 1)) ≤ (a.size : Int) then (if (a.extract 0 ((wrap64 (b + 1)) : Int).toNat).size + 1 ≤ 9223372036854775807 then (if ((a.extract 0 ((wrap64 (b + 1)) : Int).toNat) ++ (⟨#[46]⟩ : ByteArray)).size + (a.extract ((wrap64 (b + 1)) : Int).toNat a.size).size ≤ 9223372036854775807 then (some (((a.extract 0 ((wrap64 (b + 1)) : Int).toNat) ++ (⟨#[46]⟩ : ByteArray)) ++ (a.extract ((wrap64 (b + 1)) : Int).toNat a.size))) else (none)) else (none)) else (none)) else (none)))
def jg.f (a : ByteArray) (b : Int) : Option (ByteArray) := if 0 ≤ 1 then (if 1 ≤ (a.size : Int) then (if (a.size : Int) > 1 then (if 1 + (a.extract 1 a.size).size ≤ 9223372036854775807 then (if (a.extract 0 1).size + ((⟨#[46]⟩ : ByteArray) ++ (a.extract 1 a.size)).size ≤ 9223372036854775807 then (if ((a.extract 0 1) ++ ((⟨#[46]⟩ : ByteArray) ++ (a.extract 1 a.size))).size + 1 ≤ 9223372036854775807 then ((strconv_Itoa.f b).bind fun c => (if (((a.extract 0 1) ++ ((⟨#[46]⟩ : ByteArray) ++ (a.extract 1 a.size))) ++ (⟨#[101]⟩ : ByteArray)).size + c.size ≤ 9223372036854775807 then (some ((((a.extract 0 1) ++ ((⟨#[46]⟩ : ByteArray) ++ (a.extract 1 a.size))) ++ (⟨#[101]⟩ : ByteArray)) ++ c)) else (none))) else (none)) else (none)) else (none)) else (if (a.extract 0 1).size + 1 ≤ 9223372036854775807 then ((strconv_Itoa.f b).bind fun d => (if ((a.extract 0 1) ++ (⟨#[101]⟩ : ByteArray)).size + d.size ≤ 9223372036854775807 then (some (((a.extract 0 1) ++ (⟨#[101]⟩ : ByteArray)) ++ d)) else (none))) else (none))) else (none)) else (none)
def bW.j0 : Nat → ByteArray → Int → Bool → Bool → Int → Int → Int → Option (ByteArray × Int)
 | 0, _, _, _, _, _, _, _ => none
 | k + 1, a, b, c, d, e, f, g => if c = true then ((dI.f d e f g).bind fun i => ((iO.f a b).bind fun j => (if i.size + j.size ≤ 9223372036854775807 then (some (i ++ j, 0)) else (none)))) else ((dI.f d e f g).bind fun m => ((jg.f a b).bind fun n => (if m.size + n.size ≤ 9223372036854775807 then (some (m ++ n, 0)) else (none))))
def bW.f (k : Nat) (a : Int) (b : Int) : Option (ByteArray × Int) := (b_.f a b).bind fun c => (if c = 0 then ((bD.f k a b).bind fun d => (if d.2.2.2.2.toList = ([] : List UInt8) then ((gI.f d.1 d.2.1 d.2.2.1 d.2.2.2.1).bind fun e => (if e.2 ≥ (-5) then (bW.j0 k e.1 e.2 (decide (e.2 ≤ 15)) d.1 d.2.1 d.2.2.1 d.2.2.2.1) else (bW.j0 k e.1 e.2 false d.1 d.2.1 d.2.2.1 d.2.2.2.1))) else (some (d.2.2.2.2, 0)))) else (some ((⟨#[]⟩ : ByteArray), c)))
def dS.f (k : Nat)  : Option (Bool) := (gU.f k 3 0 (⟨#[48, 46, 49]⟩ : ByteArray)).bind fun a => ((bW.f k 0 13653).bind fun b => (if a.1 = 4591870180066957722 then (if a.2.1 = 16 then (if a.2.2 = 0 then (if b.1.toList = ([48, 46, 51, 51, 51, 51] : List UInt8) then (some (b.2 == 0)) else (some false)) else (some false)) else (some false)) else (some false)))
def jK.f (k : Nat) (a : Int) (b : Int) (c : ByteArray) : Option (Bool) := (gU.f k a b c).bind fun d => ((gW.f k a b c).bind fun e => ((dS.f k).bind fun f => (if f = true then (if d.1 = e.1 then (if d.2.1 = e.2.1 then (some (d.2.2 == e.2.2)) else (some false)) else (some false)) else (some false))))
def fJ.l0 : Nat → Int → ByteArray → Option (ByteArray)
 | 0, _, _ => none
 | k + 1, a, b => if a > 9 then ((some (([(IntKind.u64.wrap (48 + (Int.tmod a 10))) % 256] : List Int) : List Int)).bind fun c => (if (strOfNums c).size + b.size ≤ 9223372036854775807 then (fJ.l0 k (IntKind.u64.wrap (Int.tdiv a 10)) ((strOfNums c) ++ b)) else (none))) else ((some (([(IntKind.u64.wrap (48 + a)) % 256] : List Int) : List Int)).bind fun d => (if (strOfNums d).size + b.size ≤ 9223372036854775807 then (some ((strOfNums d) ++ b)) else (none)))
def fJ.f (k : Nat) (a : Int) : Option (ByteArray) := fJ.l0 k a (⟨#[]⟩ : ByteArray)
def iF.f (k : Nat) (a : Int) : Option (ByteArray) := if a < 0 then ((fJ.f k (IntKind.u64.wrap (wrap64 (-a)))).bind fun b => (if 1 + b.size ≤ 9223372036854775807 then (some ((⟨#[45]⟩ : ByteArray) ++ b)) else (none))) else ((fJ.f k (IntKind.u64.wrap (a))).bind fun c => (some c))
def lT.j0 : Nat → Int → Int → ByteArray → Int → Int → Int → Int → Bool → Option (Bool)
 | 0, _, _, _, _, _, _, _, _ => none
 | k + 1, a, b, c, d, e, f, g, i => if i = true then (if e = g then (if d = 0 then (some (f == 0)) else (some false)) else (some false)) else ((fJ.f k b).bind fun j => (if j.size + c.size ≤ 9223372036854775807 then ((gU.f k a 4 (j ++ c)).bind fun m => ((fJ.f k b).bind fun n => (if n.size + c.size ≤ 9223372036854775807 then ((gU.f k a 3 (n ++ c)).bind fun o => (if m.2.2 = 0 then (if o.2.2 = 0 then (if d > f then (some false) else (if m.1 > d then (some false) else (if d > o.1 then (some false) else (if ((m.1 == o.1) != ((Go.bits .and .i64 m.2.1 16) == 0)) = true then (some false) else (if ((m.1 == o.1) != ((Go.bits .and .i64 o.2.1 16) == 0)) = true then (some false) else (if m.1 = o.1 then (some true) else (some (o.1 == (IntKind.u64.wrap (m.1 + 1)))))))))) else (some false)) else (some false))) else (none)))) else (none)))
def lT.f (k : Nat) (a : Int) (b : Int) (c : Int) (d : Int) (e : Int) (f : Int) (g : Int) : Option (Bool) := (dS.f k).bind fun i => (if i = true then ((iF.f k (wrap64 (d))).bind fun j => (if 1 + j.size ≤ 9223372036854775807 then ((fJ.f k (mn c g)).bind fun m => (if m.size + ((⟨#[101]⟩ : ByteArray) ++ j).size ≤ 9223372036854775807 then ((gU.f k a b (m ++ ((⟨#[101]⟩ : ByteArray) ++ j))).bind fun n => ((fJ.f k (mx c g)).bind fun o => (if o.size + ((⟨#[101]⟩ : ByteArray) ++ j).size ≤ 9223372036854775807 then ((gU.f k a b (o ++ ((⟨#[101]⟩ : ByteArray) ++ j))).bind fun p => (if n.2.2 = 0 then (lT.j0 k a (mn c g) ((⟨#[101]⟩ : ByteArray) ++ j) n.1 n.2.2 p.1 p.2.2 (p.2.2 != 0)) else (lT.j0 k a (mn c g) ((⟨#[101]⟩ : ByteArray) ++ j) n.1 n.2.2 p.1 p.2.2 true))) else (none)))) else (none))) else (none))) else (some false))
def mJ.f (a : Int) (b : Int) : Option (Int × Int) := (b_.f a b).bind fun c => (if c = 0 then ((qy.f a).bind fun d => (some (Go.bits .xor .u64 b d, 0))) else (some (0, c)))
mutual
def jm.l0 : Nat → Int → Int → ByteArray → Int → Int → Int → Int → ByteArray → Int → Int → Int → Int → Int → Int → Int → Int → Option (Bool)
 | 0, _, _, _, _, _, _, _, _, _, _, _, _, _, _, _, _ => none
 | k + 1, a, b, c, d, e, f, g, i, j, m, n, o, p, q, t, u => if m < j then (if i.size + 1 ≤ 9223372036854775807 then (jm.l0 k a b c d e f g (i ++ (⟨#[48]⟩ : ByteArray)) j ((m + 1) % 256) n o p q t u) else (none)) else (if (wrap64 ((c.size : Int) + 1)) = 0 then (none) else (if 1 + i.size ≤ 9223372036854775807 then (if 0 ≤ (Int.tmod (wrap64 (u)) (wrap64 ((c.size : Int) + 1))) then (if (Int.tmod (wrap64 (u)) (wrap64 ((c.size : Int) + 1))) ≤ (c.size : Int) then (if ((⟨#[43]⟩ : ByteArray) ++ i).size + (c.extract 0 ((Int.tmod (wrap64 (u)) (wrap64 ((c.size : Int) + 1))) : Int).toNat).size ≤ 9223372036854775807 then (if (((⟨#[43]⟩ : ByteArray) ++ i) ++ (c.extract 0 ((Int.tmod (wrap64 (u)) (wrap64 ((c.size : Int) + 1))) : Int).toNat)).size + 1 ≤ 9223372036854775807 then (if ((((⟨#[43]⟩ : ByteArray) ++ i) ++ (c.extract 0 ((Int.tmod (wrap64 (u)) (wrap64 ((c.size : Int) + 1))) : Int).toNat)) ++ (⟨#[46]⟩ : ByteArray)).size + (c.extract ((Int.tmod (wrap64 (u)) (wrap64 ((c.size : Int) + 1))) : Int).toNat c.size).size ≤ 9223372036854775807 then (if (((((⟨#[43]⟩ : ByteArray) ++ i) ++ (c.extract 0 ((Int.tmod (wrap64 (u)) (wrap64 ((c.size : Int) + 1))) : Int).toNat)) ++ (⟨#[46]⟩ : ByteArray)) ++ (c.extract ((Int.tmod (wrap64 (u)) (wrap64 ((c.size : Int) + 1))) : Int).toNat c.size)).size + 1 ≤ 9223372036854775807 then ((iF.f k (wrap64 ((wrap64 (d + (c.size : Int))) - (Int.tmod (wrap64 (u)) (wrap64 ((c.size : Int) + 1)))))).bind fun v => (if ((((((⟨#[43]⟩ : ByteArray) ++ i) ++ (c.extract 0 ((Int.tmod (wrap64 (u)) (wrap64 ((c.size : Int) + 1))) : Int).toNat)) ++ (⟨#[46]⟩ : ByteArray)) ++ (c.extract ((Int.tmod (wrap64 (u)) (wrap64 ((c.size : Int) + 1))) : Int).toNat c.size)) ++ (⟨#[69]⟩ : ByteArray)).size + v.size ≤ 9223372036854775807 then ((gU.f k a b (((((((⟨#[43]⟩ : ByteArray) ++ i) ++ (c.extract 0 ((Int.tmod (wrap64 (u)) (wrap64 ((c.size : Int) + 1))) : Int).toNat)) ++ (⟨#[46]⟩ : ByteArray)) ++ (c.extract ((Int.tmod (wrap64 (u)) (wrap64 ((c.size : Int) + 1))) : Int).toNat c.size)) ++ (⟨#[69]⟩ : ByteArray)) ++ v)).bind fun w => (if e = w.1 then (if f = w.2.1 then (jm.j1 k a b c d e f g (g != w.2.2)) else (jm.j1 k a b c d e f g true)) else (jm.j1 k a b c d e f g true))) else (none))) else (none)) else (none)) else (none)) else (none)) else (none)) else (none)) else (none)))
def jm.j1 : Nat → Int → Int → ByteArray → Int → Int → Int → Int → Bool → Option (Bool)
 | 0, _, _, _, _, _, _, _, _ => none
 | k + 1, a, b, c, d, e, f, g, i => if i = true then (some false) else (if g = 0 then (if b = 3 then (if 1 + c.size ≤ 9223372036854775807 then (if ((⟨#[45]⟩ : ByteArray) ++ c).size + 1 ≤ 9223372036854775807 then ((iF.f k d).bind fun j => (if (((⟨#[45]⟩ : ByteArray) ++ c) ++ (⟨#[101]⟩ : ByteArray)).size + j.size ≤ 9223372036854775807 then ((gU.f k a 4 ((((⟨#[45]⟩ : ByteArray) ++ c) ++ (⟨#[101]⟩ : ByteArray)) ++ j)).bind fun m => ((mJ.f a e).bind fun n => (if m.2.2 = 0 then (if n.2 = 0 then (if m.1 = n.1 then (some (f == m.2.1)) else (some false)) else (some false)) else (some false)))) else (none))) else (none)) else (none)) else (if b = 4 then (if 1 + c.size ≤ 9223372036854775807 then (if ((⟨#[45]⟩ : ByteArray) ++ c).size + 1 ≤ 9223372036854775807 then ((iF.f k d).bind fun o => (if (((⟨#[45]⟩ : ByteArray) ++ c) ++ (⟨#[101]⟩ : ByteArray)).size + o.size ≤ 9223372036854775807 then ((gU.f k a 3 ((((⟨#[45]⟩ : ByteArray) ++ c) ++ (⟨#[101]⟩ : ByteArray)) ++ o)).bind fun p => ((mJ.f a e).bind fun q => (if p.2.2 = 0 then (if q.2 = 0 then (if p.1 = q.1 then (some (f == p.2.1)) else (some false)) else (some false)) else (some false)))) else (none))) else (none)) else (none)) else (if 1 + c.size ≤ 9223372036854775807 then (if ((⟨#[45]⟩ : ByteArray) ++ c).size + 1 ≤ 9223372036854775807 then ((iF.f k d).bind fun t => (if (((⟨#[45]⟩ : ByteArray) ++ c) ++ (⟨#[101]⟩ : ByteArray)).size + t.size ≤ 9223372036854775807 then ((gU.f k a b ((((⟨#[45]⟩ : ByteArray) ++ c) ++ (⟨#[101]⟩ : ByteArray)) ++ t)).bind fun u => ((mJ.f a e).bind fun v => (if u.2.2 = 0 then (if v.2 = 0 then (if u.1 = v.1 then (some (f == u.2.1)) else (some false)) else (some false)) else (some false)))) else (none))) else (none)) else (none)))) else (if e = 0 then (some (f == 0)) else (some false)))
end
def jm.f (k : Nat) (a : Int) (b : Int) (c : Int) (d : Int) (e : Int) (f : Int) : Option (Bool) := (dS.f k).bind fun g => (if g = true then ((fJ.f k c).bind fun i => (if i.size + 1 ≤ 9223372036854775807 then ((iF.f k (wrap64 (d))).bind fun j => (if (i ++ (⟨#[101]⟩ : ByteArray)).size + j.size ≤ 9223372036854775807 then ((gU.f k a b ((i ++ (⟨#[101]⟩ : ByteArray)) ++ j)).bind fun m => (jm.l0 k a b i (wrap64 (d)) m.1 m.2.1 m.2.2 (⟨#[]⟩ : ByteArray) (Go.bits .and .u8 e 15) 0 a b c d e f)) else (none))) else (none))) else (some false))
def dA.j0 : Nat → Int → List Int → List Int → Option (List Int × List Int)
 | 0, _, _, _ => none
 | k + 1, a, b, c => if a ≥ 0 then ((ig.f b a).bind fun d => (some (d.1, c))) else ((ig.f c (wrap64 (-a))).bind fun e => (some (b, e.1)))
def dA.f (k : Nat) (a : Int) (b : Int) (c : Int) : Option (List Int × List Int) := (some (([a] : List Int) : List Int)).bind fun d => (if c ≥ 0 then ((gy.f c).bind fun e => ((iP.f d e).bind fun f => (dA.j0 k b f.1 (([1] : List Int))))) else ((gy.f (wrap64 (-c))).bind fun g => (dA.j0 k b d g)))
def ru.f (a : Int) (b : Bool) (c : Bool) (d : Int) : Option (Bool) := if a = 0 then (if d > 0 then (some true) else (if d = 0 then (some c) else (some false))) else (if a = 1 then (some (decide (d ≥ 0))) else (if a = 3 then (some (!b)) else (if a = 4 then (some b) else (if a = 5 then (some (!c)) else (some false)))))
mutual
def gB.j0 : Nat → Int → Int → Int → Int → Bool → Option (ByteArray × Bool × Int)
 | 0, _, _, _, _, _ => none
 | k + 1, a, b, c, d, e => if e = true then (some ((⟨#[]⟩ : ByteArray), false, 7)) else ((bD.f k a c).bind fun f => ((strings_HasSuffix.f f.2.2.2.2 (⟨#[48]⟩ : ByteArray)).bind fun g => (if g = true then (if 0 ≤ (wrap64 ((f.2.2.2.2.size : Int) - 1)) then (if (wrap64 ((f.2.2.2.2.size : Int) - 1)) ≤ (f.2.2.2.2.size : Int) then ((strings_Repeat.f (⟨#[48]⟩ : ByteArray) d).bind fun i => ((jg.f i 0).bind fun j => (if (f.2.2.2.2.extract 0 ((wrap64 ((f.2.2.2.2.size : Int) - 1)) : Int).toNat).size + j.size ≤ 9223372036854775807 then (some ((f.2.2.2.2.extract 0 ((wrap64 ((f.2.2.2.2.size : Int) - 1)) : Int).toNat) ++ j, false, 0)) else (none)))) else (none)) else (none)) else (if f.2.2.2.2.toList = ([] : List UInt8) then ((jC.f f.1 f.2.1 f.2.2.1 f.2.2.2.1).bind fun m => ((dA.f k f.2.1 f.2.2.1 (wrap64 ((wrap64 (d - 1)) - m))).bind fun n => ((jf.f n.1 n.2).bind fun o => ((ig.f o.2.1 1).bind fun p => (if (o.2.1.length : Int) > 0 then (if 0 < (o.1.length : Int) then ((jd.f p.1 n.2).bind fun q => ((ru.f b f.1 ((Int.tmod (rd o.1 0) 2) == 1) q).bind fun t => (gB.j1 k d m o.1 (decide (0 < o.2.1.length)) t f.1 f.2.1 f.2.2.1 f.2.2.2.1))) else (none)) else (gB.j1 k d m o.1 (decide (0 < o.2.1.length)) false f.1 f.2.1 f.2.2.1 f.2.2.2.1)))))) else (some (f.2.2.2.2, false, 0))))))
def gB.j1 : Nat → Int → Int → List Int → Bool → Bool → Bool → Int → Int → Int → Option (ByteArray × Bool × Int)
 | 0, _, _, _, _, _, _, _, _, _ => none
 | k + 1, a, b, c, d, e, f, g, i, j => if e = true then ((jE.f c (([1] : List Int))).bind fun m => (gB.j2 k a b m d f g i j)) else (gB.j2 k a b c d f g i j)
def gB.j2 : Nat → Int → Int → List Int → Bool → Bool → Int → Int → Int → Option (ByteArray × Bool × Int)
 | 0, _, _, _, _, _, _, _, _ => none
 | k + 1, a, b, c, d, e, f, g, i => (dG.f c).bind fun j => (if (j.1.size : Int) > a then (if 0 ≤ a then (if a ≤ (j.1.size : Int) then ((dI.f e f g i).bind fun m => ((jg.f (j.1.extract 0 (a : Int).toNat) (wrap64 (b + 1))).bind fun n => (if m.size + n.size ≤ 9223372036854775807 then (some (m ++ n, d, 0)) else (none)))) else (none)) else (none)) else ((dI.f e f g i).bind fun o => ((jg.f j.1 b).bind fun p => (if o.size + p.size ≤ 9223372036854775807 then (some (o ++ p, d, 0)) else (none)))))
end
def gB.f (k : Nat) (a : Int) (b : Int) (c : Int) (d : Int) : Option (ByteArray × Bool × Int) := (dn.f a).bind fun e => (if e.2.2.2.2 = 0 then ((iy.f b).bind fun f => (if f = true then ((b_.f a c).bind fun g => (if g = 0 then (if d < 1 then (gB.j0 k a b c d true) else (gB.j0 k a b c d (decide (d > 1200)))) else (some ((⟨#[]⟩ : ByteArray), false, g)))) else (some ((⟨#[]⟩ : ByteArray), false, 3)))) else (some ((⟨#[]⟩ : ByteArray), false, e.2.2.2.2)))
def bT.f (a : Int) (b : Int) : Option (Int × Int × Int × Int) := (bJ.f a).bind fun c => (if 0 ≤ (IntKind.u64.wrap (wrap64 (c.1 - 1))) then (if 0 ≤ (IntKind.u64.wrap (wrap64 (c.2.1 - 1))) then (if (shl .u64 1 (IntKind.u64.wrap (wrap64 (c.2.1 - 1)))) = 0 then (none) else (some (Go.bits .and .u64 (shr .u64 b (IntKind.u64.wrap (wrap64 (c.1 - 1)))) 1, Go.bits .and .u64 (shr .u64 b (IntKind.u64.wrap (wrap64 (c.2.1 - 1)))) (IntKind.u64.wrap (wrap64 ((wrap64 (2 * c.2.2.2.1)) + 1))), Int.tmod b (shl .u64 1 (IntKind.u64.wrap (wrap64 (c.2.1 - 1)))), IntKind.u64.wrap (wrap64 ((wrap64 (2 * c.2.2.2.1)) + 1))))) else (none)) else (none))
def eu.f (a : Int) (b : Int) : Option (Bool) := (bT.f a b).bind fun c => (if c.2.1 = 0 then (some (c.2.2.1 == 0)) else (some false))
def dJ.f (a : Int) (b : Int) : Option (Int) := (bT.f a b).bind fun c => (some c.1)
def fG.f (a : Int) (b : Int) : Option (Bool) := (bT.f a b).bind fun c => (if c.2.1 = c.2.2.2 then (some (c.2.2.1 != 0)) else (some false))
def fH.f (a : Int) (b : Int) : Option (Bool) := (bT.f a b).bind fun c => (if c.2.1 = c.2.2.2 then (some (c.2.2.1 == 0)) else (some false))
def aT.j0 : Nat → Int → Int → ByteArray → Option (ByteArray)
 | 0, _, _, _ => none
 | k + 1, a, b, c => (fG.f a b).bind fun d => (if d = true then (some (⟨#[110, 97, 110]⟩ : ByteArray)) else ((fH.f a b).bind fun e => (if e = true then (if c.size + 3 ≤ 9223372036854775807 then (some (c ++ (⟨#[105, 110, 102]⟩ : ByteArray))) else (none)) else ((eu.f a b).bind fun f => (if f = true then (if c.size + 1 ≤ 9223372036854775807 then (some (c ++ (⟨#[48]⟩ : ByteArray))) else (none)) else (some (⟨#[]⟩ : ByteArray)))))))
def aT.f (k : Nat) (a : Int) (b : Int) : Option (ByteArray) := (dJ.f a b).bind fun c => (if c = 1 then (aT.j0 k a b (⟨#[45]⟩ : ByteArray)) else (aT.j0 k a b (⟨#[]⟩ : ByteArray)))
def fB.f (a : Int) (b : Int) : Option (Int × Int) := (bJ.f a).bind fun c => ((bT.f a b).bind fun d => (if d.2.1 = 0 then (some (d.2.2.1, wrap64 ((wrap64 (c.2.2.1 - c.2.1)) + 1))) else (if 0 ≤ (IntKind.u64.wrap (wrap64 (c.2.1 - 1))) then (some (IntKind.u64.wrap ((shl .u64 1 (IntKind.u64.wrap (wrap64 (c.2.1 - 1)))) + d.2.2.1), wrap64 ((wrap64 ((wrap64 ((wrap64 ((wrap64 (d.2.1)) - 1)) + c.2.2.1)) - c.2.1)) + 1))) else (none))))
def dw.f (k : Nat) (a : Int) (b : Int) : Option (List Int × List Int) := (fB.f a b).bind fun c => (if c.2 ≥ 0 then ((dB.f k (([c.1] : List Int)) c.2).bind fun d => (some (d, (([1] : List Int))))) else ((bI.f (([c.1] : List Int))).bind fun e => ((dB.f k (([1] : List Int)) (wrap64 (-c.2))).bind fun f => (some (e, f)))))
def bK.l0 : Nat → List Int → List Int → Int → Option (Int)
 | 0, _, _, _ => none
 | k + 1, a, b, c => (aU.f k a b).bind fun d => (if d < 0 then ((bQ.f k a (([10] : List Int))).bind fun e => (bK.l0 k e b (wrap64 (c - 1)))) else (some c))
def bK.f (k : Nat) (a : List Int) (b : List Int) : Option (Int) := (cO.f k a b).bind fun c => (if (c.1.length : Int) > 0 then ((ah.f k c.1).bind fun d => (some (wrap64 ((d.1.size : Int) - 1)))) else (bK.l0 k a b 0))
def bn.j0 : Nat → List Int → List Int → Option (List Int × Int)
 | 0, _, _ => none
 | k + 1, a, b => (cO.f k a b).bind fun c => (if (c.2.length : Int) = 0 then (some (c.1, 0)) else ((dB.f k c.2 1).bind fun d => ((aU.f k d b).bind fun e => (some (c.1, wrap64 (2 + e))))))
def bn.f (k : Nat) (a : List Int) (b : List Int) (c : Int) : Option (List Int × Int) := if c ≥ 0 then ((dQ.f k c).bind fun d => ((bQ.f k a d).bind fun e => (bn.j0 k e b))) else ((dQ.f k (wrap64 (-c))).bind fun f => ((bQ.f k b f).bind fun g => (bn.j0 k a g)))
def bU.f (a : Int) (b : Int) : Option (ByteArray) := (dJ.f a b).bind fun c => (if c = 1 then (some (⟨#[45]⟩ : ByteArray)) else (some (⟨#[]⟩ : ByteArray)))
def cZ.f : Nat → Int → Option (ByteArray)
 | 0, _ => none
 | k + 1, a => if a < 0 then ((cZ.f k (wrap64 (-a))).bind fun b => (if 1 + b.size ≤ 9223372036854775807 then (some ((⟨#[45]⟩ : ByteArray) ++ b)) else (none))) else ((ah.f k (([IntKind.u64.wrap (a)] : List Int))).bind fun c => (some c.1))
def dH.f (k : Nat) (a : ByteArray) (b : Int) : Option (ByteArray) := if 0 ≤ 1 then (if 1 ≤ (a.size : Int) then (if (a.size : Int) > 1 then (if 1 + (a.extract 1 a.size).size ≤ 9223372036854775807 then (if (a.extract 0 1).size + ((⟨#[46]⟩ : ByteArray) ++ (a.extract 1 a.size)).size ≤ 9223372036854775807 then (if ((a.extract 0 1) ++ ((⟨#[46]⟩ : ByteArray) ++ (a.extract 1 a.size))).size + 1 ≤ 9223372036854775807 then ((cZ.f k b).bind fun c => (if (((a.extract 0 1) ++ ((⟨#[46]⟩ : ByteArray) ++ (a.extract 1 a.size))) ++ (⟨#[101]⟩ : ByteArray)).size + c.size ≤ 9223372036854775807 then (some ((((a.extract 0 1) ++ ((⟨#[46]⟩ : ByteArray) ++ (a.extract 1 a.size))) ++ (⟨#[101]⟩ : ByteArray)) ++ c)) else (none))) else (none)) else (none)) else (none)) else (if (a.extract 0 1).size + 1 ≤ 9223372036854775807 then ((cZ.f k b).bind fun d => (if ((a.extract 0 1) ++ (⟨#[101]⟩ : ByteArray)).size + d.size ≤ 9223372036854775807 then (some (((a.extract 0 1) ++ (⟨#[101]⟩ : ByteArray)) ++ d)) else (none))) else (none))) else (none)) else (none)
def aV.l0 : Nat → Int → ByteArray → Option (ByteArray)
 | 0, _, _ => none
 | k + 1, a, b => if (b.size : Int) < a then (if b.size + 1 ≤ 9223372036854775807 then (aV.l0 k a (b ++ (⟨#[48]⟩ : ByteArray))) else (none)) else (some b)
def aV.f (k : Nat) (a : Int) : Option (ByteArray) := aV.l0 k a (⟨#[]⟩ : ByteArray)
def gJ.j0 : Nat → Int → Bool → List Int → Int → Bool → Option (List Int)
 | 0, _, _, _, _, _ => none
 | k + 1, a, b, c, d, e => if a = 0 then (if d = 3 then (if d > 0 then ((ak.f k c (([1] : List Int))).bind fun f => (some f)) else (some c)) else (if d = 2 then (if d > 0 then (if e = true then ((ak.f k c (([1] : List Int))).bind fun g => (some g)) else (some c)) else (some c)) else (if d > 0 then (some c) else (some c)))) else (if a = 1 then (if d > 0 then (if d ≥ 2 then ((ak.f k c (([1] : List Int))).bind fun i => (some i)) else (some c)) else (some c)) else (if a = 3 then (if d > 0 then (if b = true then (some c) else ((ak.f k c (([1] : List Int))).bind fun j => (some j))) else (some c)) else (if a = 4 then (if d > 0 then (if b = true then ((ak.f k c (([1] : List Int))).bind fun m => (some m)) else (some c)) else (some c)) else (if a = 5 then (if d > 0 then (if e = true then (some c) else ((ak.f k c (([1] : List Int))).bind fun n => (some n))) else (some c)) else (if d > 0 then (some c) else (some c))))))
def gJ.f (k : Nat) (a : Int) (b : Bool) (c : List Int) (d : Int) : Option (List Int) := if (c.length : Int) > 0 then (if 0 < (c.length : Int) then (gJ.j0 k a b c d ((Int.tmod (rd c 0) 2) == 1)) else (none)) else (gJ.j0 k a b c d false)
def gK.j0 : Nat → Int → Int → Int → Int → Bool → Option (ByteArray × Bool × Int)
 | 0, _, _, _, _, _ => none
 | k + 1, a, b, c, d, e => if e = true then (some ((⟨#[]⟩ : ByteArray), false, 7)) else ((eu.f a c).bind fun f => (if f = true then ((bU.f a c).bind fun g => ((aV.f k d).bind fun i => ((dH.f k i 0).bind fun j => (if g.size + j.size ≤ 9223372036854775807 then (some (g ++ j, false, 0)) else (none))))) else ((aT.f k a c).bind fun m => (if m.toList = ([] : List UInt8) then ((dw.f k a c).bind fun n => ((bK.f k n.1 n.2).bind fun o => ((bn.f k n.1 n.2 (wrap64 ((wrap64 (d - 1)) - o))).bind fun p => ((dJ.f a c).bind fun q => ((gJ.f k b (q == 1) p.1 p.2).bind fun t => ((ah.f k t).bind fun u => (if (u.1.size : Int) > d then (if 0 ≤ d then (if d ≤ (u.1.size : Int) then ((bU.f a c).bind fun v => ((dH.f k (u.1.extract 0 (d : Int).toNat) (wrap64 (o + 1))).bind fun w => (if v.size + w.size ≤ 9223372036854775807 then (some (v ++ w, decide (p.2 > 0), 0)) else (none)))) else (none)) else (none)) else ((bU.f a c).bind fun x => ((dH.f k u.1 o).bind fun y => (if x.size + y.size ≤ 9223372036854775807 then (some (x ++ y, decide (p.2 > 0), 0)) else (none))))))))))) else (some (m, false, 0))))))
def gK.f (k : Nat) (a : Int) (b : Int) (c : Int) (d : Int) : Option (ByteArray × Bool × Int) := (dR.f k a b (([c] : List Int))).bind fun e => (if e = 0 then (if d < 1 then (gK.j0 k a b c d true) else (gK.j0 k a b c d (decide (d > 1200)))) else (some ((⟨#[]⟩ : ByteArray), false, e)))
def jL.f (k : Nat) (a : Int) (b : Int) (c : Int) (d : Int) : Option (Bool) := (gB.f k a b c d).bind fun e => ((gK.f k a b c d).bind fun f => ((dS.f k).bind fun g => (if g = true then (if e.1.toList = f.1.toList then (if (e.2.1 == f.2.1) = true then (some (e.2.2 == f.2.2)) else (some false)) else (some false)) else (some false))))
def eG.f (k : Nat) (a : Int) (b : Int) (c : List Int) (d : Int) : Option (Bool) := (dJ.f a b).bind fun e => (if d ≥ 0 then ((dQ.f k d).bind fun f => ((bQ.f k c f).bind fun g => ((aI.f k a 0 (e == 1) g (([1] : List Int)) 0).bind fun i => (some (i.1 == b))))) else ((dQ.f k (wrap64 (-d))).bind fun j => ((aI.f k a 0 (e == 1) c j 0).bind fun m => (some (m.1 == b)))))
def bZ.f (k : Nat) (a : ByteArray) (b : Int) : Option (ByteArray) := if b < 0 then ((aV.f k (wrap64 ((wrap64 (-b)) - 1))).bind fun c => (if 2 + c.size ≤ 9223372036854775807 then (if ((⟨#[48, 46]⟩ : ByteArray) ++ c).size + a.size ≤ 9223372036854775807 then (some (((⟨#[48, 46]⟩ : ByteArray) ++ c) ++ a)) else (none)) else (none))) else (if (a.size : Int) ≤ (wrap64 (b + 1)) then ((aV.f k (wrap64 ((wrap64 (b + 1)) - (a.size : Int)))).bind fun d => (if a.size + d.size ≤ 9223372036854775807 then (some (a ++ d)) else (none))) else (if 0 ≤ (wrap64 (b + 1)) then (if (wrap64 (b + 1)) ≤ (a.size : Int) then (if (a.extract 0 ((wrap64 (b + 1)) : Int).toNat).size + 1 ≤ 9223372036854775807 then (if ((a.extract 0 ((wrap64 (b + 1)) : Int).toNat) ++ (⟨#[46]⟩ : ByteArray)).size + (a.extract ((wrap64 (b + 1)) : Int).toNat a.size).size ≤ 9223372036854775807 then (some (((a.extract 0 ((wrap64 (b + 1)) : Int).toNat) ++ (⟨#[46]⟩ : ByteArray)) ++ (a.extract ((wrap64 (b + 1)) : Int).toNat a.size))) else (none)) else (none)) else (none)) else (none)))
def dY.j0 : Nat → ByteArray → Bool → Int → Int → Int → Option (ByteArray × Int)
 | 0, _, _, _, _, _ => none
 | k + 1, a, b, c, d, e => if 0 ≤ (wrap64 ((a.size : Int) + d)) then (if (wrap64 ((a.size : Int) + d)) ≤ (a.size : Int) then ((fZ.f (a.extract ((wrap64 ((a.size : Int) + d)) : Int).toNat a.size) (⟨#[48]⟩ : ByteArray)).bind fun f => (if f.toList = ([] : List UInt8) then ((dI.f b c d e).bind fun g => (if g.size + (a.extract 0 ((wrap64 ((a.size : Int) + d)) : Int).toNat).size ≤ 9223372036854775807 then (some (g ++ (a.extract 0 ((wrap64 ((a.size : Int) + d)) : Int).toNat), 0)) else (none))) else (if 1 + f.size ≤ 9223372036854775807 then (if (a.extract 0 ((wrap64 ((a.size : Int) + d)) : Int).toNat).size + ((⟨#[46]⟩ : ByteArray) ++ f).size ≤ 9223372036854775807 then ((dI.f b c d e).bind fun i => (if i.size + ((a.extract 0 ((wrap64 ((a.size : Int) + d)) : Int).toNat) ++ ((⟨#[46]⟩ : ByteArray) ++ f)).size ≤ 9223372036854775807 then (some (i ++ ((a.extract 0 ((wrap64 ((a.size : Int) + d)) : Int).toNat) ++ ((⟨#[46]⟩ : ByteArray) ++ f)), 0)) else (none))) else (none)) else (none)))) else (none)) else (none)
def dY.f (k : Nat) (a : Int) (b : Int) : Option (ByteArray × Int) := (b_.f a b).bind fun c => (if c = 0 then ((bD.f k a b).bind fun d => (if d.2.2.2.2.toList = ([] : List UInt8) then (if d.2.2.1 ≥ 0 then ((ig.f (([d.2.1] : List Int)) d.2.2.1).bind fun e => ((dG.f e.1).bind fun f => ((dI.f d.1 d.2.1 d.2.2.1 d.2.2.2.1).bind fun g => (if g.size + f.1.size ≤ 9223372036854775807 then (some (g ++ f.1, 0)) else (none))))) else ((gX.f 5 (wrap64 (-d.2.2.1))).bind fun i => ((iP.f (([d.2.1] : List Int)) i.1).bind fun j => ((dG.f j.1).bind fun m => (if (wrap64 ((wrap64 ((wrap64 (-d.2.2.1)) - (m.1.size : Int))) + 1)) > 0 then ((strings_Repeat.f (⟨#[48]⟩ : ByteArray) (wrap64 ((wrap64 ((wrap64 (-d.2.2.1)) - (m.1.size : Int))) + 1))).bind fun n => (if n.size + m.1.size ≤ 9223372036854775807 then (dY.j0 k (n ++ m.1) d.1 d.2.1 d.2.2.1 d.2.2.2.1) else (none))) else (dY.j0 k m.1 d.1 d.2.1 d.2.2.1 d.2.2.2.1)))))) else (some (d.2.2.2.2, 0)))) else (some ((⟨#[]⟩ : ByteArray), c)))
def bf.l0 : Nat → Int → Int → Int → ByteArray → Option (ByteArray × Int)
 | 0, _, _, _, _ => none
 | k + 1, a, b, c, d => if c > 0 then (if 0 ≤ (wrap64 ((d.size : Int) - 1)) then (if (wrap64 ((d.size : Int) - 1)) < (d.size : Int) then (if (bt d (wrap64 ((d.size : Int) - 1))) = 48 then (if (d.size : Int) > 1 then (if (wrap64 ((d.size : Int) - 1)) ≤ (d.size : Int) then (bf.l0 k a b (wrap64 (c - 1)) (d.extract 0 ((wrap64 ((d.size : Int) - 1)) : Int).toNat)) else (none)) else ((bU.f a b).bind fun e => ((bZ.f k d (wrap64 ((wrap64 ((d.size : Int) - 1)) - c))).bind fun f => (if e.size + f.size ≤ 9223372036854775807 then (some (e ++ f, 0)) else (none))))) else ((bU.f a b).bind fun g => ((bZ.f k d (wrap64 ((wrap64 ((d.size : Int) - 1)) - c))).bind fun i => (if g.size + i.size ≤ 9223372036854775807 then (some (g ++ i, 0)) else (none))))) else (none)) else (none)) else ((bU.f a b).bind fun j => ((bZ.f k d (wrap64 ((wrap64 ((d.size : Int) - 1)) - c))).bind fun m => (if j.size + m.size ≤ 9223372036854775807 then (some (j ++ m, 0)) else (none))))
def bf.f (k : Nat) (a : Int) (b : Int) : Option (ByteArray × Int) := (dL.f a b).bind fun c => (if c = 0 then ((aT.f k a b).bind fun d => (if d.toList = ([] : List UInt8) then ((dw.f k a b).bind fun e => ((aN.f k e.2).bind fun f => ((au.f k 5 (wrap64 (f - 1))).bind fun g => ((bQ.f k e.1 g.1).bind fun i => ((ah.f k i).bind fun j => (bf.l0 k a b (wrap64 (f - 1)) j.1)))))) else (some (d, 0)))) else (some ((⟨#[]⟩ : ByteArray), c)))
def aj.l19 : Nat → Int → Int → ByteArray → Int → Option (ByteArray × Int)
 | 0, _, _, _, _ => none
 | k + 1, a, b, c, d => if 0 ≤ wrap64 ((c.size : Int) - 1) then if wrap64 ((c.size : Int) - 1) < (c.size : Int) then if ((bt c (wrap64 ((c.size : Int) - 1))) == 48) then if 0 ≤ wrap64 ((c.size : Int) - 1) then if wrap64 ((c.size : Int) - 1) ≤ (c.size : Int) then aj.l19 k a b (c.extract 0 (wrap64 ((c.size : Int) - 1) : Int).toNat) d else none else none else if (decide (d < (-5))) = false then if (decide (d > 15)) then (bU.f a b).bind fun e => (dH.f k c d).bind fun f => if e.size + f.size ≤ 9223372036854775807 then some (e ++ f, 0) else none else (bU.f a b).bind fun g => (bZ.f k c d).bind fun i => if g.size + i.size ≤ 9223372036854775807 then some (g ++ i, 0) else none else (bU.f a b).bind fun j => (dH.f k c d).bind fun m => if j.size + m.size ≤ 9223372036854775807 then some (j ++ m, 0) else none else none else none
def aj.j17 : Nat → Int → Int → Int → Int → List Int → Option (ByteArray × Int)
 | 0, _, _, _, _, _ => none
 | k + 1, a, b, c, d, e => (ah.f k e).bind fun f => aj.l19 k a b f.1 (wrap64 ((wrap64 (c - d)) + (f.1.size : Int)))
def aj.j15 : Nat → Int → Int → Int → Int → List Int → Int → List Int → Bool → Bool → Option (ByteArray × Int)
 | 0, _, _, _, _, _, _, _, _, _ => none
 | k + 1, a, b, c, d, e, f, g, i, j => if (!i) = false then if j then if (f == 3) = false then if (f == 2) then if (0 : Int) ≤ 0 then if 0 < (e.length : Int) then if (2 : Int) = 0 then none else if ((Int.tmod (rd e 0) 2) == 1) then aj.j17 k a b c d g else aj.j17 k a b c d e else none else none else aj.j17 k a b c d e else aj.j17 k a b c d g else aj.j17 k a b c d e else aj.j17 k a b c d g
def aj.l11 : Nat → Int → Int → List Int → List Int → Int → Int → Option (ByteArray × Int)
 | 0, _, _, _, _, _, _ => none
 | k + 1, a, b, c, d, e, f => (bn.f k c d (wrap64 ((wrap64 (f - 1)) - e))).bind fun g => (ak.f k g.1 ([1] : List Int)).bind fun i => (eG.f k a b g.1 (wrap64 ((wrap64 (e - f)) + 1))).bind fun j => (eG.f k a b i (wrap64 ((wrap64 (e - f)) + 1))).bind fun m => if (!j) then if (!m) then aj.l11 k a b c d e (wrap64 (f + 1)) else aj.j15 k a b e f g.1 g.2 i j m else aj.j15 k a b e f g.1 g.2 i j m
def aj.f (k : Nat) (a : Int) (b : Int) : Option (ByteArray × Int) := (dL.f a b).bind fun c => if (c != 0) then some ((⟨#[]⟩ : ByteArray), c) else (aT.f k a b).bind fun d => if (d.toList != (⟨#[]⟩ : ByteArray).toList) then some (d, 0) else (dw.f k a b).bind fun e => (bK.f k e.1 e.2).bind fun f => aj.l11 k a b e.1 e.2 f 1
def dO.f (k : Nat) (a : Int) (b : Int) : Option (Bool) := (bW.f k a b).bind fun c => (aj.f k a b).bind fun d => (dS.f k).bind fun e => if (!e) = false then if (c.1.toList != d.1.toList) = false then if (c.2 != d.2) then some (false) else (dY.f k a b).bind fun f => (bf.f k a b).bind fun g => if (f.1.toList == g.1.toList) then some (f.2 == g.2) else some (false) else some (false) else some (false)
end Go.Proofs.YtafikkmnkeddpaaGreatDoor.P
namespace Go.Proofs.YtafikkmnkeddpaaGreatDoor.P
open Go.RowKit Go.Proofs.YtafikkmnkeddpaaGreatDoorW.PrintWords Go.Proofs.YtafikkmnkeddpaaGreatDoorW.PrintLast Go.Proofs.YtafikkmnkeddpaaGreatDoorW.PrintMore
theorem oL {xs : List Nat} (h : Wd xs) (hl : xs.length ≤ 1000000000) : bI.f (toI xs) = some (wI (val xs)) := by
 unfold bI.f
 rw [if_pos (OQ h hl), Ri]
theorem O_ {xs : List Nat} (hw : Wd xs) (hl : xs.length ≤ 1000000000) (n : Nat) (hn : n ≤ xs.length) (hz : ∀ k, n ≤ k → xs.getD k 0 = 0) : Ev (fun k => aH.l0 k (toI xs) (n : Int)) ((toW (val xs)).length : Int) := by
 induction n with
 | zero =>
  refine Ev.one fun k => ?_
  rw [aH.l0, if_neg (by omega), ← lZ hw 0 hn hz (.inl rfl)]
  simp
 | succ n ih =>
  have e : wrap64 (((n + 1 : Nat) : Int) - 1) = (n : Int) := by rw [w64 (by omega) (by omega)]; omega
  by_cases h0 : xs.getD n 0 = 0
  ·refine Ev.step (f := fun k => aH.l0 k (toI xs) (n : Int)) (fun k => ?_) (ih (by omega) fun k hk => ?_)
   ·rw [aH.l0, if_pos (by omega), e, if_pos (by omega), dM, if_pos (by omega), jV, if_pos (by rw [h0]; rfl)]
   ·rcases Nat.lt_or_ge n k with h1 | h1
    ·exact hz k h1
    ·rw [show k = n by omega]; exact h0
  ·refine Ev.one fun k => ?_
   rw [aH.l0, if_pos (by omega), e, if_pos (by omega), dM, if_pos (by omega), jV, if_neg (by omega)]
   rw [← lZ hw (n + 1) hn hz (.inr (by simpa using h0)), List.length_take, Nat.min_eq_left hn]
theorem wE {xs : List Nat} (hw : Wd xs) (hl : xs.length ≤ 1000000000) : Ev (fun k => aH.f k (toI xs)) ((toW (val xs)).length : Int) := by
 unfold aH.f
 rw [dM]
 exact O_ hw hl xs.length (Nat.le_refl _) fun k hk => by rw [List.getD_eq_getElem?_getD, List.getElem?_eq_none hk]; rfl
theorem Rx (m : Nat) (hm : m ≤ 1000000000) (x : Nat) : ∀ c : Nat, c + fM x ≤ 1000000 → Ev (fun k => aN.l0 k (m : Int) (c : Int) (x : Int)) (64 * ((m : Int) - 1) + c + fM x) := by
 induction x using Nat.strongRecOn with
 | _ x ih =>
  intro c hc
  by_cases h0 : x = 0
  ·subst h0
   refine Ev.one fun k => ?_
   rw [aN.l0, if_neg (by omega), w64 (x := (m : Int) - 1) (by omega) (by omega), w64 (x := 64 * ((m : Int) - 1)) (by omega) (by omega), w64 (by omega) (by omega), uG]
   simp
  ·have hb : fM x = fM (x / 2) + 1 := by
    have h1 := kY (x / 2)
    by_cases h2 : x / 2 = 0
    ·have : x = 1 := by omega
     subst this
     decide
    ·have h3 := nZ h2
     obtain ⟨b, hb⟩ : ∃ b, fM (x / 2) = b + 1 := ⟨fM (x / 2) - 1, by rw [lY h2]; omega⟩
     rw [hb] at h1 h3 ⊢
     rw [Nat.add_sub_cancel] at h3
     refine qC ?_ ?_
     ·rw [Nat.pow_succ]; omega
     ·rw [Nat.pow_succ]; omega
   have h1 := ih (x / 2) (by omega) (c + 1) (by omega)
   refine Ev.step (f := fun k => aN.l0 k (m : Int) ((c + 1 : Nat) : Int) ((x / 2 : Nat) : Int)) (fun k => ?_) ?_
   ·rw [aN.l0, if_pos (by omega), w64 (by omega) (by omega)]
    congr 1
   ·rw [hb, show (64 * ((m : Int) - 1) + (c : Int) + ((fM (x / 2) + 1 : Nat) : Int)) = 64 * ((m : Int) - 1) + ((c + 1 : Nat) : Int) + ((fM (x / 2) : Nat) : Int) by omega]
    exact h1
theorem Ry {xs : List Nat} (hw : Wd xs) (hl : xs.length ≤ 1000000000) : Ev (fun k => aN.f k (toI xs)) (fM (val xs) : Int) := by
 unfold aN.f
 refine Ev.bind (wE hw hl) ?_
 have hle := fO hw
 by_cases h0 : (toW (val xs)).length = 0
 ·refine Ev.pos (by omega) ?_
  rw [(oh _).1 h0]
  exact Ev.now _
 ·obtain ⟨n, hn⟩ : ∃ n, (toW (val xs)).length = n + 1 := ⟨(toW (val xs)).length - 1, by omega⟩
  have hx : (toW (val xs)).getD n 0 = xs.getD n 0 := by
   rw [m_ hw, List.getD_eq_getElem?_getD, List.getElem?_take, if_pos (by omega), ← List.getD_eq_getElem?_getD]
  refine Ev.neg (by omega) ?_
  rw [hn, show wrap64 (((n + 1 : Nat) : Int) - 1) = (n : Int) by rw [w64 (by omega) (by omega)]; omega, dM, jV]
  refine Ev.pos (by omega) (Ev.pos (by omega) ?_)
  have hb : fM (xs.getD n 0) ≤ 64 := mF (by have := hw.get n; show _ < 18446744073709551616; exact this)
  have := Rx (n + 1) (by omega) (xs.getD n 0) 0 (by omega)
  rw [ES hn, hx, show (((64 * n + fM (xs.getD n 0) : Nat)) : Int) = 64 * (((n + 1 : Nat) : Int) - 1) + ((0 : Nat) : Int) + ((fM (xs.getD n 0) : Nat) : Int) by omega]
  exact this
theorem Aq (xs : List Nat) (i : Nat) : fC.f (toI xs) (i : Int) = some ((xs.getD i 0 : Nat) : Int) := by
 unfold fC.f
 rw [dM, jV]
 by_cases h : i < xs.length
 ·rw [if_pos (by omega), if_pos (by omega)]
 ·rw [if_neg (by omega), List.getD_eq_getElem?_getD, List.getElem?_eq_none (by omega)]; rfl
theorem Rz {xs ys : List Nat} (hx : Wd xs) (hy : Wd ys) (hlx : xs.length ≤ 1000000000) (m : Nat) : ∀ (d : Nat), d ≤ m → m ≤ xs.length → m ≤ ys.length → (∀ j, d ≤ j → j < m → xs.getD j 0 = ys.getD j 0) →
  Ev (fun k => aU.l0 k (toI xs) (toI ys) ((d : Int) - 1)) (mV (val (xs.take m)) (val (ys.take m))) := by
 intro d
 induction d with
 | zero =>
  intro hd h1 h2 he
  refine Ev.one fun k => ?_
  rw [aU.l0, if_neg (by omega)]
  have : xs.take m = ys.take m := by
   refine Ci (by simp; omega) fun j => ?_
   rw [List.getD_eq_getElem?_getD, List.getD_eq_getElem?_getD, List.getElem?_take, List.getElem?_take]
   by_cases hj : j < m
   ·rw [if_pos hj, if_pos hj, ← List.getD_eq_getElem?_getD, ← List.getD_eq_getElem?_getD]; exact he j (by omega) hj
   ·rw [if_neg hj, if_neg hj]
  rw [this, yU]
 | succ d ih =>
  intro hd h1 h2 he
  have tk : ∀ (zs : List Nat) j, j < m → (zs.take m).getD j 0 = zs.getD j 0 := fun zs j hj => by
   rw [List.getD_eq_getElem?_getD, List.getElem?_take, if_pos hj, ← List.getD_eq_getElem?_getD]
  have hge : ∀ j, d + 1 ≤ j → (xs.take m).getD j 0 = (ys.take m).getD j 0 := fun j hj => by
   by_cases hjm : j < m
   ·rw [tk xs j hjm, tk ys j hjm]; exact he j hj hjm
   ·rw [List.getD_eq_getElem?_getD, List.getD_eq_getElem?_getD, List.getElem?_take, List.getElem?_take, if_neg hjm, if_neg hjm]
  have e : (((d + 1 : Nat) : Int) - 1) = (d : Int) := by omega
  rw [e]
  by_cases hlt : xs.getD d 0 < ys.getD d 0
  ·refine Ev.one fun k => ?_
   rw [aU.l0, if_pos (by omega), if_pos (by omega), dM, if_pos (by omega), dM, if_pos (by omega), jV, jV, if_pos (by omega)]
   rw [pU (uJ (hx.take m) (hy.take m) (by simp; omega) d (by simp; omega) hge (by rw [tk _ _ (by omega), tk _ _ (by omega)]; exact hlt))]
  ·by_cases hgt : ys.getD d 0 < xs.getD d 0
   ·refine Ev.one fun k => ?_
    rw [aU.l0, if_pos (by omega), if_pos (by omega), dM, if_pos (by omega), dM, if_pos (by omega), jV, jV, if_neg (by omega), if_pos (by omega)]
    rw [uK (uJ (hy.take m) (hx.take m) (by simp; omega) d (by simp; omega) (fun j hj => (hge j hj).symm) (by rw [tk _ _ (by omega), tk _ _ (by omega)]; exact hgt))]
   ·refine Ev.step (f := fun k => aU.l0 k (toI xs) (toI ys) ((d : Int) - 1)) (fun k => ?_) (ih (by omega) h1 h2 fun j h3 h4 => ?_)
    ·rw [aU.l0, if_pos (by omega), if_pos (by omega), dM, if_pos (by omega), dM, if_pos (by omega), jV, jV, if_neg (by omega), if_neg (by omega), w64 (by omega) (by omega)]
    ·rcases Nat.lt_or_ge d j with h5 | h5
     ·exact he j h5 h4
     ·rw [show j = d by omega]; omega
theorem RD {xs ys : List Nat} (hx : Wd xs) (hy : Wd ys) (hlx : xs.length ≤ 1000000000) (hly : ys.length ≤ 1000000000) : Ev (fun k => aU.f k (toI xs) (toI ys)) (mV (val xs) (val ys)) := by
 unfold aU.f
 refine Ev.bind (wE hx hlx) (Ev.bind (wE hy hly) ?_)
 have h1 := fO hx
 have h2 := fO hy
 by_cases he : (toW (val xs)).length = (toW (val ys)).length
 ·refine Ev.pos (by omega) ?_
  rw [w64 (by omega) (by omega)]
  have := Rz hx hy hlx (toW (val ys)).length (toW (val ys)).length (Nat.le_refl _) (by omega) h2 (fun j h3 h4 => by omega)
  rw [← m_ hy, ← he, ← m_ hx, dV, dV] at this
  rw [← he]
  exact this
 ·refine Ev.neg (by omega) ?_
  by_cases hlt : (toW (val xs)).length < (toW (val ys)).length
  ·rw [pU (pR hlt)]
   exact Ev.pos (by omega) (Ev.now _)
  ·rw [uK (pR (by omega))]
   exact Ev.neg (by omega) (Ev.now _)
end Go.Proofs.YtafikkmnkeddpaaGreatDoor.P
namespace Go.Proofs.YtafikkmnkeddpaaGreatDoor.P
open Go.RowKit Go.Proofs.YtafikkmnkeddpaaGreatDoorW.PrintWords Go.Proofs.YtafikkmnkeddpaaGreatDoorW.PrintLast Go.Proofs.YtafikkmnkeddpaaGreatDoorW.PrintMore
theorem wue (z : Int) : IntKind.u64.wrap z = z % 18446744073709551616 := IntKind.wrap_u64 z
def mX (v : Nat) : Prop := (toW v).length ≤ 100000000
theorem mX.le {v : Nat} (h : mX v) : (toW v).length ≤ 1000000000 := by unfold mX at h; omega
theorem oM {v : Nat} (h : mX v) : Ev (fun k => aH.f k (wI v)) ((toW v).length : Int) := by
 have := wE (iT v) h.le
 rwa [dV] at this
theorem tV {v : Nat} (h : mX v) : Ev (fun k => aN.f k (wI v)) (fM v : Int) := by
 have := Ry (iT v) h.le
 rwa [dV] at this
theorem tX {a b : Nat} (h : mX a) (h' : mX b) : Ev (fun k => aU.f k (wI a) (wI b)) (mV a b) := by
 have := RD (iT a) (iT b) h.le h'.le
 rwa [dV, dV] at this
theorem Pg {k q : Nat} (h : k < 1000000000000000000) (h' : q < 1000000000000000000) : wrap64 ((k : Int) + (q : Int)) = ((q + k : Nat) : Int) := by rw [w64 (by omega) (by omega)]; omega
theorem MP {n : Nat} (h : n < 1000000000000000000) : wrap64 (Int.tdiv (n : Int) 64) = ((n / 64 : Nat) : Int) := by rw [Int.tdiv_eq_ediv_of_nonneg (by omega), w64 (by omega) (by omega)]; omega
theorem Ph (n : Nat) : Int.tmod (n : Int) 64 = ((n % 64 : Nat) : Int) := by rw [Int.tmod_eq_emod_of_nonneg (by omega)]; omega
theorem QD {s : Nat} (h : s < 64) : IntKind.u64.wrap (wrap64 (64 - (s : Int))) = ((64 - s : Nat) : Int) := by rw [w64 (by omega) (by omega), wu64 (by omega) (by omega)]; omega
theorem Ar {W a : Nat} (h1 : W ≤ a) (h2 : a < 2 * W) : a % W = a - W := by rw [Nat.mod_eq_sub_mod h1, Nat.mod_eq_of_lt (by omega)]
theorem QE {W a : Nat} (h1 : 2 * W ≤ a) (h2 : a < 3 * W) : a % W = a - 2 * W := by rw [Nat.mod_eq_sub_mod (by omega), Ar (by omega) (by omega)]; omega
theorem TK {W x y b : Nat} (hx : x < W) (hy : y < W) (hb : b ≤ 1) (h : (x + y) % W < x) : x + y + b = (x + y + b) % W + 1 * W := by
 rcases Nat.lt_or_ge (x + y) W with h1 | h1
 ·rw [Nat.mod_eq_of_lt h1] at h; omega
 ·rw [Ar (a := x + y + b) (by omega) (by omega)]; omega
theorem TL {W x y b : Nat} (hx : x < W) (hy : y < W) (hb : b ≤ 1) (h : (x + y + b) % W < (x + y) % W) : x + y + b = (x + y + b) % W + 1 * W := by
 rcases Nat.lt_or_ge (x + y + b) W with h1 | h1
 ·rw [Nat.mod_eq_of_lt h1, Nat.mod_eq_of_lt (by omega)] at h; omega
 ·rw [Ar h1 (by omega), Nat.one_mul, Nat.sub_add_cancel h1]
theorem TM {W x y b : Nat} (hW2 : 2 ≤ W) (hx : x < W) (hy : y < W) (hb : b ≤ 1) (h : ¬ (x + y) % W < x) (h' : ¬ (x + y + b) % W < (x + y) % W) : x + y + b = (x + y + b) % W + 0 * W := by
 rcases Nat.lt_or_ge (x + y) W with h1 | h1
 ·rcases Nat.lt_or_ge (x + y + b) W with h2 | h2
  ·rw [Nat.mod_eq_of_lt h2]; omega
  ·exfalso; apply h'; rw [Nat.mod_eq_of_lt h1, Ar h2 (by omega)]; omega
 ·rw [Ar h1 (by omega)] at h; omega
theorem I7 {W : Nat} (hW : W = WB) (x y : Nat) : IntKind.u64.wrap ((x : Int) + (y : Int)) = (((x + y) % W : Nat) : Int) := by rw [wue, Int.natCast_emod, hW]; rfl
theorem MQ {W : Nat} (hW : W = WB) (x y b : Nat) : IntKind.u64.wrap ((((x + y) % W : Nat) : Int) + (b : Int)) = (((x + y + b) % W : Nat) : Int) := by
 rw [I7 hW]
 congr 1
 rw [Nat.mod_add_mod]
theorem RF {W : Nat} (hW : W = WB) {xs ys : List Nat} (hx : Wd xs) (hy : Wd ys) (n : Nat) (hn : n ≤ 100000000) : ∀ d k, k + d = n → ∀ (zs : List Nat) (b : Nat), zs.length = n + 1 → Wd zs → b ≤ 1 → val (zs.take k) + b * W ^ k = val (xs.take k) + val (ys.take k) →
  Ev (fun f => ak.l0 f (toI xs) (toI ys) (n : Int) (toI zs) (b : Int) (k : Int)) (wI (val (xs.take n) + val (ys.take n))) := by
 intro d
 induction d with
 | zero =>
  intro k hk zs b hl hw hb he
  have hkn : k = n := by omega
  subst hkn
  have hv : val (zs.set k b) = val (xs.take k) + val (ys.take k) := by
   have := iY zs k b (by omega)
   rw [iG _ (by rw [List.length_set]; omega), Nat.mul_comm, ← hW] at this
   omega
  refine Ev.one fun f => ?_
  rw [ak.l0, if_neg (by omega), if_pos (by omega), dM, if_pos (by omega), kX, oL (hw.set _ _ (by have : WB = 18446744073709551616 := rfl; omega)) (by rw [List.length_set]; omega), hv]
  rfl
 | succ d ih =>
  intro k hk zs b hl hw hb he
  have c1 : (k : Int) < (n : Int) := by omega
  have c2 : (0 : Int) ≤ (k : Int) := by omega
  have c3 : (k : Int) < (zs.length : Int) := by omega
  have c4 : k < zs.length := by omega
  have ck : k < 1000000000000000000 := by omega
  have c5 : k + 1 + d = n := by omega
  have hW2 : 2 ≤ W := by rw [hW]; decide
  have hW0 : 0 < W := by rw [hW]; decide
  have hxk : xs.getD k 0 < W := hW ▸ hx.get k
  have hyk : ys.getD k 0 < W := hW ▸ hy.get k
  have key : ∀ (s b' : Nat), s < W → b' ≤ 1 → xs.getD k 0 + ys.getD k 0 + b = s + b' * W → Ev (fun f => ak.l0 f (toI xs) (toI ys) (n : Int) (toI (zs.set k s)) (b' : Int) ((k + 1 : Nat) : Int)) (wI (val (xs.take n) + val (ys.take n))) := fun s b' h1 h2 h3 =>
   ih (k + 1) c5 _ _ (by rw [List.length_set]; exact hl) (hw.set _ _ (hW ▸ h1)) h2 (by
    subst hW
    rw [iY _ _ _ c4, eP, eP, Nat.pow_succ]
    exact Cj _ _ _ _ _ _ _ _ _ he h3)
  have ek := sD ck
  have step : ∀ b' : Nat, b' ≤ 1 → xs.getD k 0 + ys.getD k 0 + b = (xs.getD k 0 + ys.getD k 0 + b) % W + b' * W → (∀ f, ak.l0 (f + 1) (toI xs) (toI ys) (n : Int) (toI zs) (b : Int) (k : Int) = ak.l0 f (toI xs) (toI ys) (n : Int) (toI (zs.set k ((xs.getD k 0 + ys.getD k 0 + b) % W))) (b' : Int) ((k + 1 : Nat) : Int)) → Ev (fun f => ak.l0 f (toI xs) (toI ys) (n : Int) (toI zs) (b : Int) (k : Int)) (wI (val (xs.take n) + val (ys.take n))) := fun b' h1 h2 h3 =>
   Ev.step (f := fun f => ak.l0 f (toI xs) (toI ys) (n : Int) (toI (zs.set k ((xs.getD k 0 + ys.getD k 0 + b) % W))) (b' : Int) ((k + 1 : Nat) : Int)) h3 (key _ _ (Nat.mod_lt _ hW0) h1 h2)
  by_cases h1 : (xs.getD k 0 + ys.getD k 0) % W < xs.getD k 0
  ·refine step 1 (Nat.le_refl _) (TK hxk hyk hb h1) fun f => ?_
   rw [ak.l0, if_pos c1, Aq, Aq]
   simp only [Option.bind_some]
   rw [I7 hW, MQ hW, if_pos (Int.ofNat_lt.2 h1), if_pos c2, dM, if_pos c3, kX, ek, Int.natCast_one]
  ·by_cases h2 : (xs.getD k 0 + ys.getD k 0 + b) % W < (xs.getD k 0 + ys.getD k 0) % W
   ·refine step 1 (Nat.le_refl _) (TL hxk hyk hb h2) fun f => ?_
    rw [ak.l0, if_pos c1, Aq, Aq]
    simp only [Option.bind_some]
    rw [I7 hW, MQ hW, if_neg (fun h => h1 (Int.ofNat_lt.1 h)), if_pos (Int.ofNat_lt.2 h2), if_pos c2, dM, if_pos c3, kX, ek, Int.natCast_one]
   ·refine step 0 (Nat.zero_le _) (TM hW2 hxk hyk hb h1 h2) fun f => ?_
    rw [ak.l0, if_pos c1, Aq, Aq]
    simp only [Option.bind_some]
    rw [I7 hW, MQ hW, if_neg (fun h => h1 (Int.ofNat_lt.1 h)), if_neg (fun h => h2 (Int.ofNat_lt.1 h)), if_pos c2, dM, if_pos c3, kX, ek, Int.natCast_zero]
theorem MR {a b : Nat} (n : Nat) (hn : n ≤ 90000000) (h1 : (toW a).length ≤ n) (h2 : (toW b).length ≤ n) : Ev (fun k => ak.j0 k (wI a) (wI b) (n : Int)) (wI (a + b)) := by
 have := RF rfl (iT a) (iT b) n (by omega) n 0 (by omega) (List.replicate (n + 1) 0) 0 (by simp) (Wd.replicate _) (by omega) (by simp [val])
 rw [iG _ h1, iG _ h2, dV, dV] at this
 refine Ev.step (f := fun k => ak.l0 k (wI a) (wI b) (n : Int) (toI (List.replicate (n + 1) 0)) 0 0) (fun k => ?_) this
 have e : wrap64 ((n : Int) + 1) = ((n + 1 : Nat) : Int) := by rw [w64 (by omega) (by omega)]; omega
 rw [ak.j0, e, if_pos (by omega), if_pos (by omega), pK]
theorem Hl {a b : Nat} (h1 : (toW a).length ≤ 90000000) (h2 : (toW b).length ≤ 90000000) : Ev (fun k => ak.f k (wI a) (wI b)) (wI (a + b)) := by
 unfold ak.f
 refine Ev.bind (oM (by unfold mX; omega)) (Ev.bind (oM (by unfold mX; omega)) ?_)
 by_cases h : (toW a).length < (toW b).length
 ·refine Ev.pos (by omega) (Ev.bind (oM (by unfold mX; omega)) ?_)
  exact MR _ h2 (by omega) (Nat.le_refl _)
 ·refine Ev.neg (by omega) ?_
  exact MR _ h1 (Nat.le_refl _) (by omega)
def tY (W x y b : Nat) : Nat := (x + 2 * W - y - b) % W
theorem TN {W x y b : Nat} (hx : x < W) (hy : y < W) (hb : b ≤ 1) (h : x < y) : x + 1 * W = tY W x y b + y + b := by
 unfold tY
 rcases Nat.lt_or_ge (x + 2 * W - y - b) W with h1 | h1
 ·omega
 ·rw [Ar h1 (by omega)]; omega
theorem TP {W x y b : Nat} (hx : x < W) (hy : y < W) (h : x = y) (hb : b = 1) : x + 1 * W = tY W x y b + y + b := by unfold tY; rw [Ar (by omega) (by omega)]; omega
theorem TQ {W x y b : Nat} (hx : x < W) (hy : y < W) (h : x = y) (hb : b ≤ 1) (hb' : b ≠ 1) : x + 0 * W = tY W x y b + y + b := by unfold tY; rw [QE (by omega) (by omega)]; omega
theorem TS {W x y b : Nat} (hx : x < W) (hy : y < W) (hb : b ≤ 1) (h : ¬ x < y) (h' : ¬ x = y) : x + 0 * W = tY W x y b + y + b := by unfold tY; rw [QE (by omega) (by omega)]; omega
theorem TT (x y b : Nat) : tY WB x y b < WB := Nat.mod_lt _ (by decide)
theorem TU {W : Nat} (hW : W = WB) {x y b : Nat} (hy : y < W) (hb : b ≤ 1) : IntKind.u64.wrap ((IntKind.u64.wrap ((x : Int) - (y : Int))) - (b : Int)) = ((tY W x y b : Nat) : Int) := by
 have hy' : y < 18446744073709551616 := by rw [hW] at hy; exact hy
 rw [wue, wue, hW]
 show _ = (((x + 2 * 18446744073709551616 - y - b) % 18446744073709551616 : Nat) : Int)
 clear hy hW
 omega
theorem Pm {W : Nat} (hW : W = WB) {xs ys : List Nat} (hx : Wd xs) (hy : Wd ys) (hl1 : xs.length ≤ 100000000) (hly : ys.length ≤ xs.length) (hle : val ys ≤ val xs) : ∀ d k, k + d = xs.length → ∀ (zs : List Nat) (b : Nat), zs.length = xs.length → Wd zs → b ≤ 1 → val (zs.take k) + val (ys.take k) = val (xs.take k) + b * W ^ k →
  Ev (fun f => aQ.l0 f (toI xs) (toI ys) (xs.length : Int) (toI zs) (b : Int) (k : Int)) (wI (val xs - val ys)) := by
 intro d
 induction d with
 | zero =>
  intro k hk zs b hl hw hb he
  have hkn : k = xs.length := by omega
  subst hkn
  have hi : oK xs ys xs.length zs b := ⟨hl, hw, hb, hW ▸ he, fun j hj => by
   rw [List.getD_eq_getElem?_getD, List.getD_eq_getElem?_getD, List.getElem?_eq_none (by omega), List.getElem?_eq_none hj]⟩
  refine Ev.one fun f => ?_
  rw [aQ.l0, if_neg (by omega), oL hw (by omega), hi.done hly hle]
  rfl
 | succ d ih =>
  intro k hk zs b hl hw hb he
  have c1 : (k : Int) < (xs.length : Int) := by omega
  have c2 : (0 : Int) ≤ (k : Int) := by omega
  have c3 : (k : Int) < (zs.length : Int) := by omega
  have c4 : k < zs.length := by omega
  have ck : k < 1000000000000000000 := by omega
  have c5 : k + 1 + d = xs.length := by omega
  have hb0 : b ≠ 1 → ¬ (b : Int) = 1 := fun h => by omega
  have hxk : xs.getD k 0 < W := hW ▸ hx.get k
  have hyk : ys.getD k 0 < W := hW ▸ hy.get k
  have ek := sD ck
  have step : ∀ b' : Nat, b' ≤ 1 → xs.getD k 0 + b' * W = tY W (xs.getD k 0) (ys.getD k 0) b + ys.getD k 0 + b → (∀ f, aQ.l0 (f + 1) (toI xs) (toI ys) (xs.length : Int) (toI zs) (b : Int) (k : Int) = aQ.l0 f (toI xs) (toI ys) (xs.length : Int) (toI (zs.set k (tY W (xs.getD k 0) (ys.getD k 0) b))) (b' : Int) ((k + 1 : Nat) : Int)) → Ev (fun f => aQ.l0 f (toI xs) (toI ys) (xs.length : Int) (toI zs) (b : Int) (k : Int)) (wI (val xs - val ys)) := fun b' h1 h2 h3 =>
   Ev.step (f := fun f => aQ.l0 f (toI xs) (toI ys) (xs.length : Int) (toI (zs.set k (tY W (xs.getD k 0) (ys.getD k 0) b))) (b' : Int) ((k + 1 : Nat) : Int)) h3 (ih (k + 1) c5 _ _ (by rw [List.length_set]; exact hl) (hw.set _ _ (by rw [hW]; exact TT _ _ _)) h1 (by
    subst hW
    rw [iY _ _ _ c4, eP, eP, Nat.pow_succ]
    exact Ag _ _ _ _ _ _ _ _ _ he h2))
  have hd : ∀ f, aQ.l0 (f + 1) (toI xs) (toI ys) (xs.length : Int) (toI zs) (b : Int) (k : Int) = if (xs.getD k 0 : Int) < (ys.getD k 0 : Int) then (aQ.l0 f (toI xs) (toI ys) (xs.length : Int) (toI (zs.set k (tY W (xs.getD k 0) (ys.getD k 0) b))) 1 ((k + 1 : Nat) : Int)) else (if (xs.getD k 0 : Int) = (ys.getD k 0 : Int) then (if (b : Int) = 1 then (aQ.l0 f (toI xs) (toI ys) (xs.length : Int) (toI (zs.set k (tY W (xs.getD k 0) (ys.getD k 0) b))) 1 ((k + 1 : Nat) : Int)) else (aQ.l0 f (toI xs) (toI ys) (xs.length : Int) (toI (zs.set k (tY W (xs.getD k 0) (ys.getD k 0) b))) 0 ((k + 1 : Nat) : Int))) else (aQ.l0 f (toI xs) (toI ys) (xs.length : Int) (toI (zs.set k (tY W (xs.getD k 0) (ys.getD k 0) b))) 0 ((k + 1 : Nat) : Int))) := fun f => by
   rw [aQ.l0, if_pos c1, if_pos c2, dM, if_pos c1, Aq]
   simp only [Option.bind_some]
   rw [dM, if_pos c3]
   simp only [jV]
   rw [TU hW hyk hb, kX, ek]
  by_cases h1 : xs.getD k 0 < ys.getD k 0
  ·exact step 1 (Nat.le_refl _) (TN hxk hyk hb h1) fun f => by rw [hd, if_pos (Int.ofNat_lt.2 h1), Int.natCast_one]
  ·by_cases h2 : xs.getD k 0 = ys.getD k 0
   ·by_cases h3 : b = 1
    ·exact step 1 (Nat.le_refl _) (TP hxk hyk h2 h3) fun f => by rw [hd, if_neg (fun h => h1 (Int.ofNat_lt.1 h)), if_pos (by rw [h2]), if_pos (by rw [h3]; rfl), Int.natCast_one]
    ·exact step 0 (Nat.zero_le _) (TQ hxk hyk h2 hb h3) fun f => by rw [hd, if_neg (fun h => h1 (Int.ofNat_lt.1 h)), if_pos (by rw [h2]), if_neg (hb0 h3), Int.natCast_zero]
   ·exact step 0 (Nat.zero_le _) (TS hxk hyk hb h1 h2) fun f => by rw [hd, if_neg (fun h => h1 (Int.ofNat_lt.1 h)), if_neg (fun h => h2 (Int.ofNat_inj.1 h)), Int.natCast_zero]
theorem Pn {a b : Nat} (h1 : mX a) (h : b ≤ a) : Ev (fun k => aQ.f k (wI a) (wI b)) (wI (a - b)) := by
 unfold aQ.f
 refine Ev.bind (oM h1) ?_
 have hl := jo h
 unfold mX at h1
 refine Ev.pos (by omega) (Ev.pos (by omega) ?_)
 have := Pm rfl (iT a) (iT b) h1 hl (by rw [dV, dV]; exact h) (toW a).length 0 (by omega) (List.replicate (toW a).length 0) 0 (by simp) (Wd.replicate _) (by omega) (by simp [val])
 rw [dV, dV] at this
 rw [pK]
 exact this
theorem wF (x s : Nat) (hs : s ≤ 64) : shl .u64 (x : Int) (s : Int) = IntKind.u64.wrap ((x : Int) * 2 ^ s) := by
 unfold shl
 rw [Int.toNat_natCast, Nat.min_eq_left (by simpa [IntKind.bits] using hs)]
theorem qV (x s : Nat) (hs : s ≤ 64) : shr .u64 (x : Int) (s : Int) = ((x / 2 ^ s : Nat) : Int) := by
 unfold shr
 rw [Int.toNat_natCast, Nat.min_eq_left (by simpa [IntKind.bits] using hs), uH]
theorem MS (zs : List Nat) (j : Nat) (h : zs.getD j 0 = 0) : zs.set j 0 = zs := by
 by_cases hj : j < zs.length
 ·rw [List.getD_eq_getElem?_getD, List.getElem?_eq_getElem hj] at h
  have : zs[j] = 0 := h
  conv => lhs; rw [← this]
  exact List.set_getElem_self hj
 ·exact List.set_eq_of_length_le (by omega)
theorem TV {xs : List Nat} (hx : Wd xs) (hl : xs.length ≤ 100000000) (q s : Nat) (hq : q ≤ 100000000) (hs : s < 64) : ∀ d i, i + d = xs.length → ∀ (zs : List Nat), ou xs q s i zs → (∀ j, q + i < j → zs.getD j 0 = 0) →
  Ev (fun f => bH.l0 f (toI xs) ((64 * q + s : Nat) : Int) (xs.length : Int) (toI zs) (i : Int)) (wI (val xs * 2 ^ (64 * q + s))) := by
 intro d
 induction d with
 | zero =>
  intro i hi zs h hz
  have : i = xs.length := by omega
  subst this
  refine Ev.one fun f => ?_
  rw [bH.l0, if_neg (by omega), oL h.wd (by rw [h.len]; omega), h.done]
  rfl
 | succ d ih =>
  intro i hi zs h hz
  have hlen := h.len
  have c1 : (i : Int) < (xs.length : Int) := by omega
  have c2 : (0 : Int) ≤ ((q + i : Nat) : Int) := by omega
  have c3 : ((q + i : Nat) : Int) < (zs.length : Int) := by omega
  have c4 : (0 : Int) ≤ (i : Int) := by omega
  have c5 : (0 : Int) ≤ (s : Int) := by omega
  have c6 : (0 : Int) ≤ ((64 - s : Nat) : Int) := by omega
  have c7 : (0 : Int) ≤ ((q + i + 1 : Nat) : Int) := by omega
  have c8 : ((q + i + 1 : Nat) : Int) < (zs.length : Int) := by omega
  have c9 : i + 1 + d = xs.length := by omega
  have c10 : 64 - s ≤ 64 := by omega
  have hi' : i < xs.length := by omega
  have d1 : 64 * q + s < 1000000000000000000 := by omega
  have d2 : i < 1000000000000000000 := by omega
  have d3 : q < 1000000000000000000 := by omega
  have d4 : q + i < 1000000000000000000 := by omega
  have d5 : s < 18446744073709551616 := by omega
  have d6 : (64 * q + s) / 64 = q := by omega
  have d7 : (64 * q + s) % 64 = s := by omega
  have hst := h.step hi' hx hs (Ai h.top hs)
  have hz' : ∀ j, q + (i + 1) < j → ((zs.set (q + i) (zs.getD (q + i) 0 + xs.getD i 0 * 2 ^ s % WB)).set (q + i + 1) (xs.getD i 0 * 2 ^ s / WB)).getD j 0 = 0 := fun j hj => by
   rw [getD_set_ne _ _ _ _ (by omega), getD_set_ne _ _ _ _ (by omega)]
   exact hz j (by omega)
  have e1 := MP d1
  rw [d6] at e1
  have e2 := Ph (64 * q + s)
  rw [d7] at e2
  have e3 := Pg d2 d3
  have e4 := sD d4
  have e5 := sD d2
  have e6 := tq d5
  have e7 := QD hs
  refine Ev.step (f := fun f => bH.l0 f (toI xs) ((64 * q + s : Nat) : Int) (xs.length : Int) (toI ((zs.set (q + i) (zs.getD (q + i) 0 + xs.getD i 0 * 2 ^ s % WB)).set (q + i + 1) (xs.getD i 0 * 2 ^ s / WB))) ((i + 1 : Nat) : Int)) (fun f => ?_) (ih (i + 1) c9 _ hst hz')
  rw [bH.l0, if_pos c1]
  simp only [e1, e2, e3, e4, e5, e6, e7, dM, jV]
  rw [if_pos c2, if_pos c3, if_pos c4, if_pos c1, if_pos c5, wF _ _ (Nat.le_of_lt hs), G8 _ _ _ h.top hs (hx.get i), kX]
  simp only [Option.bind_some]
  by_cases h0 : 0 < s
  ·rw [if_pos (show (s : Int) > 0 from Int.natCast_pos.2 h0), if_pos c6, if_pos c7, if_pos c8, qV _ _ c10, kX]
   congr 3
   have := z_ (xs.getD i 0) s (Nat.le_of_lt hs) (hx.get i)
   rw [uH] at this
   exact Int.ofNat_inj.1 this
  ·have hs0 : s = 0 := Nat.eq_zero_of_not_pos h0
   subst hs0
   have e0 : xs.getD i 0 * 2 ^ 0 / WB = 0 := by rw [Nat.pow_zero, Nat.mul_one]; exact Nat.div_eq_of_lt (hx.get i)
   rw [if_neg (by decide), e0, MS _ (q + i + 1)]
   rw [getD_set_ne _ _ _ _ (Nat.ne_of_lt (Nat.lt_succ_self _))]
   exact hz _ (Nat.lt_succ_self _)
theorem QF {a : Nat} (n : Nat) (h : (toW a).length ≤ 10000000) (hn : n ≤ 1000000000) : Ev (fun k => bH.f k (wI a) (n : Int)) (wI (a * 2 ^ n)) := by
 unfold bH.f
 refine Ev.bind (oM (by unfold mX; omega)) ?_
 have hs : n % 64 < 64 := Nat.mod_lt _ (by decide)
 have hq : n / 64 ≤ 100000000 := by omega
 have e1 : wrap64 (Int.tdiv (n : Int) 64) = ((n / 64 : Nat) : Int) := by rw [Int.tdiv_eq_ediv_of_nonneg (by omega), w64 (by omega) (by omega)]; omega
 have e2 : wrap64 ((wrap64 (((toW a).length : Int) + ((n / 64 : Nat) : Int))) + 1) = ((n / 64 + (toW a).length + 1 : Nat) : Int) := by rw [w64 (x := ((toW a).length : Int) + ((n / 64 : Nat) : Int)) (by omega) (by omega), w64 (by omega) (by omega)]; omega
 rw [e1, e2, pK]
 refine Ev.pos (by omega) (Ev.pos (by omega) ?_)
 have := TV (iT a) (by omega) (n / 64) (n % 64) hq hs (toW a).length 0 (by omega) _ (ou.start _ _ _) fun j _ => by
  rw [List.getD_eq_getElem?_getD, List.getElem?_replicate]; split <;> rfl
 rw [Nat.div_add_mod, dV] at this
 exact this
theorem E8 {a : Nat} (n : Nat) (h : (toW a).length ≤ 10000000) (hn : n ≤ 1000000000) : Ev (fun k => dB.f k (wI a) (n : Int)) (wI (a * 2 ^ n)) := by
 unfold dB.f
 exact Ev.bind (QF n h hn) (Ev.now _)
end Go.Proofs.YtafikkmnkeddpaaGreatDoor.P
namespace Go.Proofs.YtafikkmnkeddpaaGreatDoor.P
open Go.RowKit Go.Proofs.YtafikkmnkeddpaaGreatDoorW.PrintWords Go.Proofs.YtafikkmnkeddpaaGreatDoorW.PrintLast Go.Proofs.YtafikkmnkeddpaaGreatDoorW.PrintMore
theorem Po {xs : List Nat} (hx : Wd xs) (hl : xs.length ≤ 100000000) (q s : Nat) (hq : q ≤ xs.length) (hs : s < 64) : ∀ d i, i + d = xs.length - q → ∀ (zs : List Nat), lF xs q s i zs →
  Ev (fun f => bC.l0 f (toI xs) ((64 * q + s : Nat) : Int) (xs.length : Int) (toI zs) (i : Int)) (wI (val xs / 2 ^ (64 * q + s))) := by
 intro d
 induction d with
 | zero =>
  intro i hi zs h
  have hi' : i = xs.length - q := by omega
  subst hi'
  have hlen := h.len
  refine Ev.one fun f => ?_
  rw [bC.l0, dM, if_neg (by omega), oL h.wd (by omega), h.done hx]
  rfl
 | succ d ih =>
  intro i hi zs h
  have hlen := h.len
  have c1 : (i : Int) < (zs.length : Int) := by omega
  have c2 : (0 : Int) ≤ ((q + i : Nat) : Int) := by omega
  have c3 : ((q + i : Nat) : Int) < (xs.length : Int) := by omega
  have c4 : (0 : Int) ≤ (i : Int) := by omega
  have c5 : (0 : Int) ≤ (s : Int) := by omega
  have c6 : (0 : Int) ≤ ((64 - s : Nat) : Int) := by omega
  have c7 : (0 : Int) ≤ ((q + i + 1 : Nat) : Int) := by omega
  have c8 : q + i + 1 < xs.length → ((q + i + 1 : Nat) : Int) < (xs.length : Int) := fun _ => by omega
  have c8' : ¬ q + i + 1 < xs.length → ¬ ((q + i + 1 : Nat) : Int) < (xs.length : Int) := fun _ => by omega
  have c9 : i + 1 + d = xs.length - q := by omega
  have c10 : 64 - s ≤ 64 := by omega
  have c11 : i < zs.length := by omega
  have hi' : i < xs.length - q := by omega
  have d1 : 64 * q + s < 1000000000000000000 := by omega
  have d2 : i < 1000000000000000000 := by omega
  have d3 : q < 1000000000000000000 := by omega
  have d4 : q + i < 1000000000000000000 := by omega
  have d5 : s < 18446744073709551616 := by omega
  have d6 : (64 * q + s) / 64 = q := by omega
  have d7 : (64 * q + s) % 64 = s := by omega
  have hge : ¬ q + i + 1 < xs.length → xs.getD (q + i + 1) 0 = 0 := fun h => by rw [List.getD_eq_getElem?_getD, List.getElem?_eq_none (by omega)]; rfl
  have hw := qK (x := xs.getD (q + i) 0) (y := xs.getD (q + i + 1) 0) (hx.get _) hs
  have hst := h.step hx hs hi' hw
  have e1 := MP d1
  rw [d6] at e1
  have e2 := Ph (64 * q + s)
  rw [d7] at e2
  have e3 := Pg d2 d3
  have e4 := sD d4
  have e5 := sD d2
  have e6 := tq d5
  have e7 := QD hs
  refine Ev.step (f := fun f => bC.l0 f (toI xs) ((64 * q + s : Nat) : Int) (xs.length : Int) (toI (zs.set i (xs.getD (q + i) 0 / 2 ^ s + xs.getD (q + i + 1) 0 * 2 ^ (64 - s) % WB))) ((i + 1 : Nat) : Int)) (fun f => ?_) (ih (i + 1) c9 _ hst)
  rw [bC.l0, dM, if_pos c1]
  simp only [e1, e2, e3, e4, e5, e6, e7, dM, jV]
  rw [if_pos c2, if_pos c3, if_pos c5, if_pos c4, qV _ _ (Nat.le_of_lt hs), kX]
  simp only [Option.bind_some]
  by_cases h0 : 0 < s
  ·rw [if_pos (show (s : Int) > 0 from Int.natCast_pos.2 h0)]
   by_cases hm : q + i + 1 < xs.length
   ·rw [if_pos (c8 hm), if_pos c7, if_pos (c8 hm), if_pos c6, jV, jP _ _ _ c11, wF _ _ c10, Cc _ _ _ (hx.get _) hs, kX, List.set_set]
   ·rw [if_neg (c8' hm), hge hm, Nat.zero_mul, Nat.zero_mod, Nat.add_zero (xs.getD (q + i) 0 / 2 ^ s)]
  ·have hs0 : s = 0 := Nat.eq_zero_of_not_pos h0
   subst hs0
   have ez : xs.getD (q + i + 1) 0 * 2 ^ (64 - 0) % WB = 0 := Nat.mul_mod_left _ _
   rw [if_neg (by decide), ez, Nat.add_zero (xs.getD (q + i) 0 / 2 ^ 0)]
theorem Pq {a : Nat} (n : Nat) (h : (toW a).length ≤ 10000000) : Ev (fun k => bC.f k (wI a) (n : Int)) (wI (a / 2 ^ n)) := by
 unfold bC.f
 refine Ev.bind (tV (by unfold mX; omega)) ?_
 by_cases hn : fM a ≤ n
 ·refine Ev.pos (by omega) ?_
  have : a / 2 ^ n = 0 := Nat.div_eq_of_lt (Nat.lt_of_lt_of_le (kY a) (Nat.pow_le_pow_right (by decide) hn))
  rw [this]
  unfold wI
  rw [jB]
  exact Ev.now _
 ·refine Ev.neg (by omega) (Ev.bind (oM (by unfold mX; omega)) ?_)
  have hb : fM a ≤ 64 * (toW a).length := mF (by have := lW a; rwa [show WB = 2 ^ 64 from rfl, ← Nat.pow_mul] at this)
  have hs : n % 64 < 64 := Nat.mod_lt _ (by decide)
  have hq : n / 64 ≤ (toW a).length := by omega
  have e1 : wrap64 (Int.tdiv (n : Int) 64) = ((n / 64 : Nat) : Int) := MP (by omega)
  have e2 : wrap64 (((toW a).length : Int) - ((n / 64 : Nat) : Int)) = (((toW a).length - n / 64 : Nat) : Int) := by rw [w64 (by omega) (by omega)]; omega
  have c1 : (0 : Int) ≤ (((toW a).length - n / 64 : Nat) : Int) := by omega
  have c2 : (((toW a).length - n / 64 : Nat) : Int).toNat ≤ 35184372088832 := by omega
  have hr := Po (iT a) (by omega) (n / 64) (n % 64) hq hs ((toW a).length - n / 64) 0 (by omega) _ (lF.start _ _ _)
  rw [Nat.div_add_mod, dV] at hr
  rw [e1, e2, pK]
  exact Ev.pos c1 (Ev.pos c2 hr)
theorem Pv (a i : Nat) : (toW a).getD i 0 = a / WB ^ i % WB := by
 have h1 := qE (iT a) (k := i)
 rw [dV] at h1
 rw [h1, mZ, Nat.add_mul_mod_self_left, Nat.mod_eq_of_lt ((iT a).get i)]
theorem MV (a i : Nat) : (toW a).getD (i / 64) 0 / 2 ^ (i % 64) % 2 = a / 2 ^ i % 2 := by
 rw [Pv]
 have h64 : i % 64 < 64 := Nat.mod_lt _ (by decide)
 have e1 : WB = 2 ^ (i % 64) * 2 ^ (64 - i % 64) := by rw [← Nat.pow_add, Nat.add_sub_cancel' (by omega)]
 have e2 : a / 2 ^ i = a / WB ^ (i / 64) / 2 ^ (i % 64) := by
  rw [show WB = 2 ^ 64 from rfl, ← Nat.pow_mul, Nat.div_div_eq_div_mul, ← Nat.pow_add, Nat.div_add_mod]
 rw [e2]
 generalize a / WB ^ (i / 64) = b
 obtain ⟨m, hm⟩ : ∃ m, 64 - i % 64 = m + 1 := ⟨63 - i % 64, by omega⟩
 rw [hm] at e1
 rw [e1, Nat.mod_mul_right_div_self, Nat.pow_succ, Nat.mul_comm (2 ^ m) 2, Nat.mod_mul_right_mod]
theorem and_one (x : Nat) (h : x < WB) : Go.bits .and .u64 (x : Int) 1 = ((x % 2 : Nat) : Int) := by
 have := u64_and_nat x 1 h (by decide)
 rw [show ((1 : Nat) : Int) = 1 from rfl] at this
 rw [this, Nat.and_one_is_mod]
theorem MW {a : Nat} (i : Nat) (h : (toW a).length ≤ 10000000) (hi : i ≤ 1000000000000000) : eU.f (wI a) (i : Int) = some ((a / 2 ^ i % 2 : Nat) : Int) := by
 have h1 : ¬ ((i : Int) < 0) := by omega
 have e2 := Ph i
 have c1 : (0 : Int) ≤ ((i / 64 : Nat) : Int) := by omega
 have c2 : (0 : Int) ≤ ((i % 64 : Nat) : Int) := by omega
 have c3 : i % 64 ≤ 64 := by omega
 have c4 : i % 64 < 18446744073709551616 := by omega
 have c5 : (toW a).length ≤ i / 64 → ((i / 64 : Nat) : Int) ≥ ((toW a).length : Int) := fun _ => by omega
 have c6 : ¬ (toW a).length ≤ i / 64 → ¬ ((i / 64 : Nat) : Int) ≥ ((toW a).length : Int) := fun _ => by omega
 have c7 : ¬ (toW a).length ≤ i / 64 → ((i / 64 : Nat) : Int) < ((toW a).length : Int) := fun _ => by omega
 have e1 := MP (n := i) (by omega)
 unfold eU.f wI
 rw [if_neg h1, e1, e2, dM]
 by_cases hl : (toW a).length ≤ i / 64
 ·rw [if_pos (c5 hl), ← MV, List.getD_eq_getElem?_getD, List.getElem?_eq_none hl]
  simp
 ·rw [if_neg (c6 hl), if_pos c1, if_pos (c7 hl), tq c4, if_pos c2, jV, qV _ _ c3, and_one _ (Nat.lt_of_le_of_lt (Nat.div_le_self _ _) ((iT a).get _)), MV]
theorem I8 {zs : List Nat} (h : Wd zs) (k : Nat) : zs.getD k 0 = val zs / WB ^ k % WB := by
 rw [qE h, mZ, Nat.add_mul_mod_self_left, Nat.mod_eq_of_lt (h.get k)]
theorem I9 {zs : List Nat} {k : Nat} (h : k < zs.length) (v : Nat) : val (zs.set k v) + WB ^ k * zs.getD k 0 = val zs + WB ^ k * v := by
 have h1 := kJ (zs.set k v) (k + 1)
 have h2 := kJ zs (k + 1)
 rw [iY _ _ _ h, tJ (ys := zs) (by rw [List.length_set]) (k + 1) (fun j hj => getD_set_ne _ _ _ _ (by omega))] at h1
 rw [eP] at h2
 omega
theorem MX {zs : List Nat} (hw : Wd zs) {j : Nat} (hj : j / 64 < zs.length) (m : Nat) (hm : val zs = m * 2 ^ (j + 1)) :
  Go.bits .or .u64 ((zs.getD (j / 64) 0 : Nat) : Int) (shl .u64 1 ((j % 64 : Nat) : Int)) = ((zs.getD (j / 64) 0 + 2 ^ (j % 64) : Nat) : Int) ∧ zs.getD (j / 64) 0 + 2 ^ (j % 64) < WB ∧ val (zs.set (j / 64) (zs.getD (j / 64) 0 + 2 ^ (j % 64))) = val zs + 2 ^ j := by
 have hs : j % 64 < 64 := Nat.mod_lt _ (by decide)
 have hs' : j % 64 ≤ 64 := Nat.le_of_lt hs
 have e0 : 64 * (j / 64) + j % 64 = j := Nat.div_add_mod j 64
 have e3 : j + 1 = 64 * (j / 64) + (j % 64 + 1) := by omega
 obtain ⟨c, hc⟩ : ∃ c, 64 = (j % 64 + 1) + c := ⟨63 - j % 64, by omega⟩
 have hval := I9 hj (zs.getD (j / 64) 0 + 2 ^ (j % 64))
 have hword := I8 hw (j / 64)
 have hx := hw.get (j / 64)
 generalize j / 64 = k at *
 generalize j % 64 = s at *
 have e1 : val zs / WB ^ k = m * 2 ^ (s + 1) := by
  rw [hm, e3, Nat.pow_add, show WB ^ k = 2 ^ (64 * k) by rw [show WB = 2 ^ 64 from rfl, ← Nat.pow_mul], Nat.mul_left_comm, Nat.mul_div_cancel_left _ (Nat.two_pow_pos _)]
 have e2 : WB = 2 ^ c * 2 ^ (s + 1) := by rw [← Nat.pow_add, Nat.add_comm c, ← hc]
 rw [e1, e2, Nat.mul_mod_mul_right] at hword
 have hy : m % 2 ^ c < 2 ^ c := Nat.mod_lt _ (Nat.two_pow_pos _)
 generalize m % 2 ^ c = y at *
 have hp : 2 ^ (s + 1) = 2 * 2 ^ s := by rw [Nat.pow_succ, Nat.mul_comm]
 have hlt : zs.getD k 0 + 2 ^ s < WB := by
  rw [hword, e2]
  have h1 : (y + 1) * 2 ^ (s + 1) ≤ 2 ^ c * 2 ^ (s + 1) := Nat.mul_le_mul_right _ hy
  have h2 := Nat.two_pow_pos s
  rw [Nat.add_mul, hp] at h1
  rw [hp]
  omega
 refine ⟨?_, hlt, ?_⟩
 ·have h1 : shl .u64 1 (s : Int) = ((2 ^ s : Nat) : Int) := by
   have := wF 1 s hs'
   rw [show ((1 : Nat) : Int) = 1 from rfl] at this
   rw [this, Int.one_mul]
   have h2 : 2 ^ s < 18446744073709551616 := Nat.lt_of_le_of_lt (Nat.le_add_left _ _) hlt
   have := tq h2
   rwa [Int.natCast_pow] at this
  rw [h1, u64_or_nat _ _ hx (Nat.lt_of_le_of_lt (Nat.le_add_left _ _) hlt), hword, Nat.mul_comm y, ← Nat.two_pow_add_eq_or_of_lt (by rw [hp]; have := Nat.two_pow_pos s; omega)]
 ·rw [Nat.mul_add] at hval
  have h3 : WB ^ k * 2 ^ s = 2 ^ j := by rw [show WB = 2 ^ 64 from rfl, ← Nat.pow_mul, ← Nat.pow_add, e0]
  rw [h3] at hval
  omega
def QR (a b : Nat) : List Int × List Int := (wI (a / b), wI (a % b))
theorem MZ (a j : Nat) : a / 2 ^ j = 2 * (a / 2 ^ (j + 1)) + a / 2 ^ j % 2 := by
 rw [Nat.pow_succ, ← Nat.div_div_eq_div_mul]; omega
theorem RG {a b : Nat} (hb : 0 < b) (ha : (toW a).length ≤ 1000000) (hbl : (toW b).length ≤ 1000000) : ∀ j : Nat, j ≤ 64 * (toW a).length → ∀ zs : List Nat, Wd zs → zs.length = (toW a).length → val zs = a / 2 ^ j / b * 2 ^ j →
  Ev (fun k => aG.l0 k (wI a) (wI b) (toI zs) (wI (a / 2 ^ j % b)) ((j : Int) - 1)) (QR a b) := by
 intro j
 induction j with
 | zero =>
  intro hj zs hw hl hv
  rw [Nat.pow_zero, Nat.div_one, Nat.mul_one] at hv
  refine Ev.one fun k => ?_
  rw [aG.l0, if_neg (by omega), oL hw (by omega), hv]
  simp only [Option.bind_some, Nat.pow_zero, Nat.div_one]
  rfl
 | succ j ih =>
  intro hj zs hw hl hv
  have c1 : (j : Int) ≥ 0 := by omega
  have c2 : (0 : Int) ≤ ((j / 64 : Nat) : Int) := by omega
  have c3 : ((j / 64 : Nat) : Int) < (zs.length : Int) := by omega
  have c4 : (0 : Int) ≤ ((j % 64 : Nat) : Int) := by omega
  have c5 : j % 64 < 18446744073709551616 := by omega
  have c6 : j / 64 < zs.length := by omega
  have c7 : ((j + 1 : Nat) : Int) - 1 = (j : Int) := by omega
  have c8 : j ≤ 64 * (toW a).length := by omega
  have c9 : j < 1000000000000000000 := by omega
  have c10 : j ≤ 1000000000000000 := by omega
  have c11 : wrap64 ((j : Int) - 1) = (j : Int) - 1 := w64 (by omega) (by omega)
  have c12 : (toW a).length ≤ 10000000 := by omega
  have hlen2 : ∀ v, v < 2 * b → (toW v).length ≤ 1000001 := fun v hv => by
   refine Nat.le_trans (jG (k := (toW b).length + 1) (Nat.lt_of_lt_of_le hv ?_)) (Nat.succ_le_succ hbl)
   have h1 := lW b
   rw [Nat.pow_succ, Nat.mul_comm]
   exact Nat.mul_le_mul (Nat.le_of_lt h1) (by decide)
  have hR : a / 2 ^ (j + 1) % b < b := Nat.mod_lt _ hb
  have hQR := Nat.div_add_mod (a / 2 ^ (j + 1)) b
  have hd := MZ a j
  have hbit : a / 2 ^ j % 2 < 2 := Nat.mod_lt _ (by decide)
  have hB := MW (a := a) j c12 c10
  generalize hbb : a / 2 ^ j % 2 = bit at *
  generalize hRR : a / 2 ^ (j + 1) % b = R at *
  generalize hQQ : a / 2 ^ (j + 1) / b = Q at *
  have hsum : a / 2 ^ j = b * (2 * Q) + (2 * R + bit) := by rw [hd, ← hQR]; rw [Nat.mul_left_comm b 2 Q]; omega
  have hup := QF (a := R) 1 (by have := hlen2 R (by omega); omega) (by omega)
  rw [Nat.pow_one, show R * 2 = 2 * R by omega] at hup
  have hj1 : Ev (fun k => aG.j1 k (wI a) (wI b) (toI zs) (wI (2 * R + bit)) (j : Int)) (QR a b) := by
   have hr1 := hlen2 (2 * R + bit) (by omega)
   have hcmp := tX (a := 2 * R + bit) (b := b) (by unfold mX; omega) (by unfold mX; omega)
   refine Ev.step (f := fun k => (aU.f k (wI (2 * R + bit)) (wI b)).bind fun t504 => (if t504 ≥ 0 then ((aQ.f k (wI (2 * R + bit)) (wI b)).bind fun t505 => aG.l0 k (wI a) (wI b) (toI (zs.set (j / 64) (zs.getD (j / 64) 0 + 2 ^ (j % 64)))) t505 ((j : Int) - 1)) else aG.l0 k (wI a) (wI b) (toI zs) (wI (2 * R + bit)) ((j : Int) - 1))) (fun k => ?_) ?_
   ·have hsb := (MX hw c6 Q hv).1
    rw [aG.j1]
    simp only [MP c9, Ph, dM, tq c5, jV, hsb, kX, c11, if_pos c2, if_pos c3, if_pos c4]
   ·refine Ev.bind hcmp ?_
    by_cases hge : b ≤ 2 * R + bit
    ·have hc : mV (2 * R + bit) b ≥ 0 := by
      rcases Nat.lt_or_ge b (2 * R + bit) with h | h
      ·rw [uK h]; decide
      ·rw [show 2 * R + bit = b by omega, yU]; decide
     refine Ev.pos hc (Ev.bind (Pn (by unfold mX; omega) hge) ?_)
     have hsb := (MX hw c6 Q hv).2
     have hq1 : a / 2 ^ j / b = 2 * Q + 1 := by
      rw [hsum, Nat.mul_add_div hb, show 2 * R + bit = b + (2 * R + bit - b) by omega, Nat.add_div_left _ hb, Nat.div_eq_of_lt (show 2 * R + bit - b < b by omega)]
     have hm1 : a / 2 ^ j % b = 2 * R + bit - b := by
      rw [hsum, Nat.mul_add_mod, show 2 * R + bit = b + (2 * R + bit - b) by omega, Nat.add_mod_left, Nat.mod_eq_of_lt (show 2 * R + bit - b < b by omega)]
      omega
     have := ih c8 (zs.set (j / 64) (zs.getD (j / 64) 0 + 2 ^ (j % 64))) (hw.set _ _ hsb.1) (by rw [List.length_set]; exact hl) (by rw [hsb.2, hv, hq1, Nat.add_mul, Nat.pow_succ]; rw [Nat.one_mul, Nat.mul_comm 2 Q, Nat.mul_assoc, Nat.mul_comm (2 ^ j) 2])
     rwa [hm1] at this
    ·have hc : ¬ mV (2 * R + bit) b ≥ 0 := by rw [pU (by omega)]; decide
     refine Ev.neg hc ?_
     have hq1 : a / 2 ^ j / b = 2 * Q := by rw [hsum, Nat.mul_add_div hb, Nat.div_eq_of_lt (show 2 * R + bit < b by omega), Nat.add_zero]
     have hm1 : a / 2 ^ j % b = 2 * R + bit := by rw [hsum, Nat.mul_add_mod, Nat.mod_eq_of_lt (show 2 * R + bit < b by omega)]
     have := ih c8 zs hw hl (by rw [hv, hq1, Nat.pow_succ, Nat.mul_comm 2 Q, Nat.mul_assoc, Nat.mul_comm (2 ^ j) 2])
     rwa [hm1] at this
  refine Ev.step (f := fun k => (bH.f k (wI R) 1).bind fun t494 => ((eU.f (wI a) (j : Int)).bind fun t497 => (if t497 = 1 then ((ak.f k t494 (([1] : List Int))).bind fun t501 => (aG.j1 k (wI a) (wI b) (toI zs) t501 (j : Int))) else (aG.j1 k (wI a) (wI b) (toI zs) t494 (j : Int))))) (fun k => ?_) ?_
  ·rw [aG.l0, c7, if_pos c1]
  ·refine Ev.bind hup ?_
   rw [hB]
   simp only [Option.bind_some]
   have hr2 := hlen2 (2 * R) (by omega)
   rcases (show bit = 1 ∨ bit = 0 by omega) with h1 | h1
   ·subst h1
    have hadd := Hl (a := 2 * R) (b := 1) (by omega) (by rw [n_]; decide)
    rw [show wI 1 = [1] by unfold wI; rw [n_]; rfl] at hadd
    exact Ev.pos rfl (Ev.bind hadd hj1)
   ·subst h1
    exact Ev.neg (by decide) hj1
theorem RH {a b : Nat} (hb : b ≠ 0) (ha : (toW a).length ≤ 1000000) (hbl : (toW b).length ≤ 1000000) : Ev (fun k => aG.f k (wI a) (wI b)) (QR a b) := by
 unfold aG.f
 refine Ev.bind (tV (by unfold mX; omega)) (Ev.bind (tV (by unfold mX; omega)) ?_)
 have h1 := kY a
 have h2 := nZ hb
 by_cases h : fM a < fM b
 ·refine Ev.pos (by omega) ?_
  have hlt : a < b := Nat.lt_of_lt_of_le h1 (Nat.le_trans (Nat.pow_le_pow_right (by decide) (by omega)) h2)
  have ht := oL (iT a) (by omega)
  rw [dV] at ht
  rw [show wI a = toI (toW a) from rfl, ht]
  unfold QR
  rw [Nat.div_eq_of_lt hlt, Nat.mod_eq_of_lt hlt, show wI 0 = [] by unfold wI; rw [jB]; rfl]
  exact Ev.now _
 ·refine Ev.neg (by omega) (Ev.bind (oM (by unfold mX; omega)) ?_)
  have hbp : 0 < fM b := by rw [lY hb]; omega
  have hba : fM a ≤ 64 * (toW a).length := mF (by have := lW a; rwa [show WB = 2 ^ 64 from rfl, ← Nat.pow_mul] at this)
  have c1 : (0 : Int) ≤ ((toW a).length : Int) := by omega
  have c2 : (((toW a).length : Nat) : Int).toNat ≤ 35184372088832 := by omega
  have e1 : wrap64 ((wrap64 ((fM a : Int) - (fM b : Int))) + 1) = ((fM a - fM b + 1 : Nat) : Int) := by rw [w64 (x := (fM a : Int) - (fM b : Int)) (by omega) (by omega), w64 (by omega) (by omega)]; omega
  have e2 : wrap64 ((fM a : Int) - (fM b : Int)) = ((fM a - fM b + 1 : Nat) : Int) - 1 := by rw [w64 (by omega) (by omega)]; omega
  have hsm : a / 2 ^ (fM a - fM b + 1) < b := by
   refine Nat.lt_of_lt_of_le ?_ h2
   refine Nat.div_lt_of_lt_mul ?_
   rw [← Nat.pow_add]
   exact Nat.lt_of_lt_of_le h1 (Nat.pow_le_pow_right (by decide) (by omega))
  have hq := RG (a := a) (b := b) (by omega) ha hbl (fM a - fM b + 1) (by omega) (List.replicate (toW a).length 0) (Wd.replicate _) (by simp) (by rw [kD, Nat.div_eq_of_lt hsm, Nat.zero_mul])
  rw [Nat.mod_eq_of_lt hsm] at hq
  rw [e1, e2, pK]
  exact Ev.pos c1 (Ev.pos c2 (Ev.bind (Pq _ (by omega)) hq))
theorem Cm {a b : Nat} (hb : b ≠ 0) (ha : (toW a).length ≤ 1000000) (hbl : (toW b).length ≤ 1000000) : Ev (fun k => cO.f k (wI a) (wI b)) (QR a b) := by
 unfold cO.f
 exact Ev.bind (RH hb ha hbl) (Ev.now _)
end Go.Proofs.YtafikkmnkeddpaaGreatDoor.P
namespace Go.Proofs.YtafikkmnkeddpaaGreatDoor.P
open Go.RowKit Go.Proofs.YtafikkmnkeddpaaGreatDoorW.PrintWords Go.Proofs.YtafikkmnkeddpaaGreatDoorW.PrintLast Go.Proofs.YtafikkmnkeddpaaGreatDoorW.PrintMore
abbrev HB : Nat := 4294967296
def vB (B : Nat) : List Nat → Nat
 | [] => 0
 | x :: xs => x + B * vB B xs
def WdB (B : Nat) (xs : List Nat) : Prop := ∀ x ∈ xs, x < B
theorem WdB.get {B : Nat} (hB : 0 < B) {xs : List Nat} (h : WdB B xs) (i : Nat) : xs.getD i 0 < B := by
 by_cases hi : i < xs.length
 ·rw [List.getD_eq_getElem?_getD, List.getElem?_eq_getElem hi]; exact h _ (List.getElem_mem hi)
 ·rw [List.getD_eq_getElem?_getD, List.getElem?_eq_none (by omega)]; exact hB
theorem WdB.set {B : Nat} {xs : List Nat} (h : WdB B xs) (i y : Nat) (hy : y < B) : WdB B (xs.set i y) := fun z hz => by
 rcases List.mem_or_eq_of_mem_set hz with hz | rfl
 ·exact h z hz
 ·exact hy
theorem WdB.rep {B : Nat} (hB : 0 < B) (n : Nat) : WdB B (List.replicate n 0) := fun z hz => by
 have := List.eq_of_mem_replicate hz
 subst this
 exact hB
theorem JQ (B : Nat) (xs ys : List Nat) : vB B (xs ++ ys) = vB B xs + B ^ xs.length * vB B ys := by
 induction xs with
 | nil => simp [vB]
 | cons x xs ih =>
  simp only [List.cons_append, vB, ih, List.length_cons, Nat.pow_succ]
  rw [Nat.mul_add, Nat.mul_comm (B ^ xs.length) B, Nat.mul_assoc]
  omega
theorem RI (B n : Nat) : vB B (List.replicate n 0) = 0 := by
 induction n with
 | zero => rfl
 | succ n ih => simp [List.replicate_succ, vB, ih]
theorem TW {B : Nat} {xs : List Nat} (h : WdB B xs) : vB B xs < B ^ xs.length := by
 induction xs with
 | nil => simp [vB]
 | cons x xs ih =>
  have h1 := ih fun y hy => h y (by simp [hy])
  have h2 := h x (by simp)
  simp only [vB, List.length_cons, Nat.pow_succ]
  have : B * (vB B xs + 1) ≤ B * B ^ xs.length := Nat.mul_le_mul_left _ h1
  rw [Nat.mul_comm (B ^ xs.length) B]
  rw [Nat.mul_add] at this
  omega
theorem oz (B : Nat) (xs : List Nat) (i : Nat) : vB B (xs.take (i + 1)) = vB B (xs.take i) + B ^ i * xs.getD i 0 := by
 by_cases h : i < xs.length
 ·rw [ql xs i h, JQ, List.length_take, Nat.min_eq_left (by omega)]
  simp [vB]
 ·rw [List.take_of_length_le (by omega), List.take_of_length_le (by omega), List.getD_eq_getElem?_getD, List.getElem?_eq_none (by omega)]
  simp
theorem DV (B : Nat) : ∀ (xs : List Nat) (k v : Nat), k < xs.length → vB B (xs.set k v) + B ^ k * xs.getD k 0 = vB B xs + B ^ k * v
 | [], k, v, h => by simp at h
 | x :: xs, 0, v, h => by simp [vB]; omega
 | x :: xs, k + 1, v, h => by
  have := DV B xs k v (by simpa using h)
  simp only [List.set_cons_succ, vB, List.getD_cons_succ, Nat.pow_succ]
  have h2 := congrArg (B * ·) this
  simp only [Nat.mul_add] at h2
  rw [Nat.mul_comm (B ^ k) B, Nat.mul_assoc, Nat.mul_assoc]
  omega
def ng : List Nat → List Nat
 | [] => []
 | x :: xs => x % HB :: x / HB :: ng xs
theorem oV (xs : List Nat) : (ng xs).length = 2 * xs.length := by
 induction xs with
 | nil => rfl
 | cons x xs ih => simp only [ng, List.length_cons, ih]; omega
theorem DW {xs : List Nat} (h : Wd xs) : WdB HB (ng xs) := by
 induction xs with
 | nil => intro y hy; simp [ng] at hy
 | cons x xs ih =>
  intro y hy
  simp only [ng, List.mem_cons] at hy
  rcases hy with rfl | rfl | hy
  ·exact Nat.mod_lt _ (by decide)
  ·refine Nat.div_lt_of_lt_mul ?_; exact h.head
  ·exact ih h.tail y hy
theorem Au (xs : List Nat) : vB HB (ng xs) = val xs := by
 induction xs with
 | nil => rfl
 | cons x xs ih =>
  simp only [ng, vB, val, ih]
  have := Nat.mod_add_div x HB
  rw [Nat.mul_add, ← Nat.mul_assoc, show HB * HB = WB from rfl]
  omega
theorem JR (xs : List Nat) (x : Nat) : ng (xs ++ [x]) = ng xs ++ [x % HB, x / HB] := by
 induction xs with
 | nil => rfl
 | cons y ys ih => simp only [List.cons_append, ng, ih]
theorem E_ (n : Nat) (h : n < WB) : Go.bits .and .u64 (n : Int) 4294967295 = ((n % HB : Nat) : Int) := Gl n h
theorem JU {xs : List Nat} (hx : Wd xs) (hl : xs.length ≤ 100000000) : ∀ d i, i + d = xs.length →
  Ev (fun k => aX.l0 k (toI xs) (xs.length : Int) (toI (ng (xs.take i) ++ List.replicate (2 * d) 0)) (i : Int)) (toI (ng xs)) := by
 intro d
 induction d with
 | zero =>
  intro i hi
  refine Ev.one fun k => ?_
  rw [aX.l0, if_neg (by omega), List.take_of_length_le (by omega)]
  simp
 | succ d ih =>
  intro i hi
  have hlt : i < xs.length := by omega
  have c1 : (i : Int) < (xs.length : Int) := by omega
  have c2 : (0 : Int) ≤ (i : Int) := by omega
  have hlen : (ng (xs.take i) ++ List.replicate (2 * (d + 1)) 0).length = 2 * xs.length := by
   rw [List.length_append, oV, List.length_take, List.length_replicate]; omega
  have c3 : (0 : Int) ≤ ((2 * i : Nat) : Int) := by omega
  have c4 : ((2 * i : Nat) : Int) < ((2 * xs.length : Nat) : Int) := by omega
  have c5 : (0 : Int) ≤ ((2 * i + 1 : Nat) : Int) := by omega
  have c6 : ((2 * i + 1 : Nat) : Int) < ((2 * xs.length : Nat) : Int) := by omega
  have c7 : i + 1 + d = xs.length := by omega
  have c8 : i < 1000000000000000000 := by omega
  have c9 : 2 * i < 1000000000000000000 := by omega
  have hdl : (ng (xs.take i)).length = 2 * i := by rw [oV, List.length_take]; omega
  have hset : ((ng (xs.take i) ++ List.replicate (2 * (d + 1)) 0).set (2 * i) (xs.getD i 0 % HB)).set (2 * i + 1) (xs.getD i 0 / HB) = ng (xs.take (i + 1)) ++ List.replicate (2 * d) 0 := by
   rw [show 2 * (d + 1) = 2 * d + 1 + 1 by omega, List.replicate_succ, List.replicate_succ, List.set_append_right _ _ (by omega), List.set_append_right _ _ (by omega), hdl, ql xs i hlt, JR, show 2 * i - 2 * i = 0 by omega, show 2 * i + 1 - 2 * i = 1 by omega]
   simp
  have e1 : wrap64 (2 * (i : Int)) = ((2 * i : Nat) : Int) := by rw [w64 (by omega) (by omega)]; omega
  have e2 := sD c9
  have e3 := sD c8
  have e4 : ((xs.getD i 0 : Nat) : Int) / 4294967296 = ((xs.getD i 0 / HB : Nat) : Int) := by rw [Int.natCast_ediv]; rfl
  have := ih (i + 1) c7
  refine Ev.step (f := fun k => aX.l0 k (toI xs) (xs.length : Int) (toI (ng (xs.take (i + 1)) ++ List.replicate (2 * d) 0)) ((i + 1 : Nat) : Int)) (fun k => ?_) this
  rw [aX.l0, if_pos c1, if_pos c2, dM, if_pos c1]
  simp only [e1, e2, e3, dM, hlen, jV]
  rw [if_pos c3, if_pos c4, if_pos c5, if_pos c6, E_ _ (hx.get i), kX, e4, kX, hset]
theorem xE {a : Nat} (h : (toW a).length ≤ 10000000) : Ev (fun k => aX.f k (wI a)) (toI (ng (toW a))) := by
 unfold aX.f
 refine Ev.bind (oM (by unfold mX; omega)) ?_
 have e1 : wrap64 (2 * ((toW a).length : Int)) = ((2 * (toW a).length : Nat) : Int) := by rw [w64 (by omega) (by omega)]; omega
 have c1 : (0 : Int) ≤ ((2 * (toW a).length : Nat) : Int) := by omega
 have c2 : ((2 * (toW a).length : Nat) : Int).toNat ≤ 35184372088832 := by omega
 have := JU (iT a) (by omega) (toW a).length 0 (by omega)
 rw [e1, pK]
 exact Ev.pos c1 (Ev.pos c2 this)
theorem Px (k : Nat) : HB ^ (2 * k) = WB ^ k := by rw [Nat.pow_mul, show HB ^ 2 = WB from rfl]
theorem M_ {ds : List Nat} (hd : WdB HB ds) (hl : ds.length ≤ 100000000) : ∀ d i, i + d = ds.length → ∀ zs : List Nat, Wd zs → zs.length = (ds.length + 1) / 2 → val zs = vB HB (ds.take i) →
  Ev (fun k => bg.l0 k (toI ds) (toI zs) (i : Int)) (wI (vB HB ds)) := by
 intro d
 induction d with
 | zero =>
  intro i hi zs hw hz hv
  refine Ev.one fun k => ?_
  rw [bg.l0, dM, if_neg (by omega), oL hw (by omega), hv, List.take_of_length_le (by omega)]
  rfl
 | succ d ih =>
  intro i hi zs hw hz hv
  have hlt : i < ds.length := by omega
  have c1 : (i : Int) < (ds.length : Int) := by omega
  have c2 : (0 : Int) ≤ (i : Int) := by omega
  have c3 : (0 : Int) ≤ ((i / 2 : Nat) : Int) := by omega
  have c4 : ((i / 2 : Nat) : Int) < (zs.length : Int) := by omega
  have c4' : i / 2 < zs.length := by omega
  have c5 : (0 : Int) ≤ ((32 * (i % 2) : Nat) : Int) := by omega
  have c6 : 32 * (i % 2) < 64 := by omega
  have c7 : i + 1 + d = ds.length := by omega
  have c8 : i < 1000000000000000000 := by omega
  have c9 : 2 * (i / 2) + i % 2 = i := by omega
  have e1 : wrap64 (Int.tdiv (i : Int) 2) = ((i / 2 : Nat) : Int) := by rw [Int.tdiv_eq_ediv_of_nonneg (by omega), w64 (by omega) (by omega)]; omega
  have e2 : wrap64 (32 * (Int.tmod (i : Int) 2)) = ((32 * (i % 2) : Nat) : Int) := by rw [Int.tmod_eq_emod_of_nonneg (by omega), w64 (by omega) (by omega)]; omega
  have hm2 : i % 2 < 2 := by omega
  have hdi := hd.get (by decide) i
  have hword := I8 hw (i / 2)
  have hvl : vB HB (ds.take i) < HB ^ i := by
   have := TW (B := HB) (xs := ds.take i) fun x hx => hd x (List.mem_of_mem_take hx)
   rwa [List.length_take, Nat.min_eq_left (by omega)] at this
  have hpow : HB ^ i = WB ^ (i / 2) * HB ^ (i % 2) := by rw [← Px, ← Nat.pow_add, c9]
  have hsm : zs.getD (i / 2) 0 < HB ^ (i % 2) := by
   rw [hword, hv]
   refine Nat.lt_of_le_of_lt (Nat.mod_le _ _) (Nat.div_lt_of_lt_mul ?_)
   rwa [← hpow]
  have hvs := I9 c4' (zs.getD (i / 2) 0 + ds.getD i 0 * HB ^ (i % 2))
  have hts := oz HB ds i
  have hor : Go.bits .or .u64 ((zs.getD (i / 2) 0 : Nat) : Int) (shl .u64 ((ds.getD i 0 : Nat) : Int) ((32 * (i % 2) : Nat) : Int)) = ((zs.getD (i / 2) 0 + ds.getD i 0 * HB ^ (i % 2) : Nat) : Int) ∧ zs.getD (i / 2) 0 + ds.getD i 0 * HB ^ (i % 2) < WB := by
   have hp : HB ^ (i % 2) = 2 ^ (32 * (i % 2)) := by rw [show HB = 2 ^ 32 from rfl, ← Nat.pow_mul]
   have hprod : ds.getD i 0 * HB ^ (i % 2) + HB ^ (i % 2) ≤ WB := by
    have h1 : (ds.getD i 0 + 1) * HB ^ (i % 2) ≤ HB * HB ^ (i % 2) := Nat.mul_le_mul_right _ hdi
    have h2 : HB * HB ^ (i % 2) ≤ WB := by
     have : HB ^ (i % 2) ≤ HB ^ 1 := Nat.pow_le_pow_right (by decide) (by omega)
     exact Nat.mul_le_mul_left HB this
    rw [Nat.add_mul, Nat.one_mul] at h1
    exact Nat.le_trans h1 h2
   have hlt2 : ds.getD i 0 * HB ^ (i % 2) < WB := Nat.lt_of_lt_of_le (Nat.lt_add_of_pos_right (Nat.pow_pos (by decide))) hprod
   have hsum : zs.getD (i / 2) 0 + ds.getD i 0 * HB ^ (i % 2) < WB := by
    refine Nat.lt_of_lt_of_le ?_ hprod
    rw [Nat.add_comm]
    exact Nat.add_lt_add_left hsm _
   rw [hp] at hsm hlt2 hsum ⊢
   refine ⟨?_, hsum⟩
   rw [wF _ _ (Nat.le_of_lt c6), G8 _ _ _ hsm c6 (Nat.lt_of_lt_of_le hdi (by decide)), Nat.mod_eq_of_lt hlt2]
  have hv2 : val (zs.set (i / 2) (zs.getD (i / 2) 0 + ds.getD i 0 * HB ^ (i % 2))) = vB HB (ds.take (i + 1)) := by
   rw [hts, hpow, Nat.mul_assoc, Nat.mul_comm (HB ^ (i % 2)) (ds.getD i 0), ← hv]
   rw [Nat.mul_add] at hvs
   omega
  have e3 := sD c8
  have e4 := tq (s := 32 * (i % 2)) (Nat.lt_trans c6 (by decide))
  have := ih (i + 1) c7 _ (hw.set _ _ hor.2) (by rw [List.length_set]; exact hz) hv2
  refine Ev.step (f := fun k => bg.l0 k (toI ds) (toI (zs.set (i / 2) (zs.getD (i / 2) 0 + ds.getD i 0 * HB ^ (i % 2)))) ((i + 1 : Nat) : Int)) (fun k => ?_) this
  rw [bg.l0, dM, if_pos c1]
  simp only [e1, e2, e3, e4, dM, jV]
  rw [if_pos c3, if_pos c4, if_pos c2, if_pos c5, hor.1, kX]
theorem Na {ds : List Nat} (hd : WdB HB ds) (hl : ds.length ≤ 100000000) : Ev (fun k => bg.f k (toI ds)) (wI (vB HB ds)) := by
 unfold bg.f
 have e1 : wrap64 (Int.tdiv (wrap64 (((toI ds).length : Int) + 1)) 2) = (((ds.length + 1) / 2 : Nat) : Int) := by
  rw [dM, w64 (x := (ds.length : Int) + 1) (by omega) (by omega), Int.tdiv_eq_ediv_of_nonneg (by omega), w64 (by omega) (by omega)]; omega
 have c1 : (0 : Int) ≤ (((ds.length + 1) / 2 : Nat) : Int) := by omega
 have c2 : (((ds.length + 1) / 2 : Nat) : Int).toNat ≤ 35184372088832 := by omega
 have := M_ hd hl ds.length 0 (by omega) (List.replicate ((ds.length + 1) / 2) 0) (Wd.replicate _) (by simp) (by rw [kD]; rfl)
 rw [e1, pK]
 exact Ev.pos c1 (Ev.pos c2 this)
theorem Nb {H x y p c : Nat} (hx : x < H) (hy : y < H) (hp : p < H) (hc : c < H) : x * y + p + c < H * H := by
 obtain ⟨h, rfl⟩ : ∃ h, H = h + 1 := ⟨H - 1, by omega⟩
 have h1 : x * y ≤ h * h := Nat.mul_le_mul (by omega) (by omega)
 have h2 : (h + 1) * (h + 1) = h * h + h + h + 1 := by rw [Nat.add_mul, Nat.mul_add]; omega
 omega
theorem JV {H P V V' Y t p c x y : Nat} (ht : t = x * y + p + c) (h1 : V' + P * p = V + P * (t % H)) : V' + t / H * (P * H) = V + P * (x * y) + c * P := by
 have h2 := Nat.mod_add_div t H
 have h3 : P * (t % H) + P * (H * (t / H)) = P * (x * y) + P * p + P * c := by rw [← Nat.mul_add, h2, ht, Nat.mul_add, Nat.mul_add]
 have h4 : t / H * (P * H) = P * (H * (t / H)) := by rw [Nat.mul_comm, Nat.mul_assoc]
 have h5 : c * P = P * c := Nat.mul_comm _ _
 omega
theorem Fa {V V' V0 P Pi Pj x y Y c c' H : Nat} (h1 : V' + c' * (P * H) = V + P * (x * y) + c * P) (h2 : V + c * P = V0 + x * Y * Pi) (hP : P = Pj * Pi) : V' + c' * (P * H) = V0 + x * (Y + Pj * y) * Pi := by
 have h3 : P * (x * y) = x * (Pj * y) * Pi := by rw [hP, Nat.mul_left_comm x Pj y, Nat.mul_right_comm]
 rw [h1, Nat.mul_add, Nat.add_mul, h3]
 omega
theorem RJ {a b : Nat} (h : a * b < 18446744073709551616) : IntKind.u64.wrap ((a : Int) * (b : Int)) = ((a * b : Nat) : Int) := by rw [← Int.natCast_mul]; exact tq h
theorem RN {a b : Nat} (h : a + b < 18446744073709551616) : IntKind.u64.wrap ((a : Int) + (b : Int)) = ((a + b : Nat) : Int) := by rw [← Int.natCast_add]; exact tq h
theorem Py {xs ys : List Nat} (hx : WdB HB xs) (hy : WdB HB ys) (hlx : xs.length ≤ 10000000) (hly : ys.length ≤ 10000000) (i : Nat) (hi : i < xs.length) (V0 : Nat) {r : List Int}
  (hend : ∀ (ps : List Nat) (c : Nat), WdB HB ps → ps.length = xs.length + ys.length → c < HB → vB HB ps + c * HB ^ (i + ys.length) = V0 + xs.getD i 0 * vB HB ys * HB ^ i → (∀ m, i + ys.length ≤ m → ps.getD m 0 = 0) →
   Ev (fun k => aA.l1 k (toI xs) (toI ys) (toI ps) (i : Int) (c : Int) (ys.length : Int)) r) :
  ∀ d j, j + d = ys.length → ∀ (ps : List Nat) (c : Nat), WdB HB ps → ps.length = xs.length + ys.length → c < HB → vB HB ps + c * HB ^ (i + j) = V0 + xs.getD i 0 * vB HB (ys.take j) * HB ^ i → (∀ m, i + ys.length ≤ m → ps.getD m 0 = 0) →
   Ev (fun k => aA.l1 k (toI xs) (toI ys) (toI ps) (i : Int) (c : Int) (j : Int)) r := by
 intro d
 induction d with
 | zero =>
  intro j hj ps c h1 h2 h3 h4 h5
  have : j = ys.length := by omega
  subst this
  rw [List.take_of_length_le (Nat.le_refl _)] at h4
  exact hend ps c h1 h2 h3 h4 h5
 | succ d ih =>
  intro j hj ps c h1 h2 h3 h4 h5
  have c1 : (j : Int) < (ys.length : Int) := by omega
  have c2 : (0 : Int) ≤ (i : Int) := by omega
  have c3 : (i : Int) < (xs.length : Int) := by omega
  have c4 : (0 : Int) ≤ (j : Int) := by omega
  have c5 : (0 : Int) ≤ ((j + i : Nat) : Int) := by omega
  have c6 : ((j + i : Nat) : Int) < (ps.length : Int) := by omega
  have c6' : j + i < ps.length := by omega
  have c7 : j + 1 + d = ys.length := by omega
  have c8 : j < 1000000000000000000 := by omega
  have c9 : i < 1000000000000000000 := by omega
  have q1 : i + (j + 1) = (j + i) + 1 := by omega
  have q2 : i + j = j + i := by omega
  have q3 : ∀ m, i + ys.length ≤ m → j + i ≠ m := fun m hm => by omega
  rw [q2] at h4
  have hxi := hx.get (by decide) i
  have hyj := hy.get (by decide) j
  have hp := h1.get (by decide) (j + i)
  have ht := Nb hxi hyj hp h3
  have hW : HB * HB = 18446744073709551616 := rfl
  have e1 := Pg c9 c8
  have e2 := sD c8
  have hvs := DV HB ps (j + i) ((xs.getD i 0 * ys.getD j 0 + ps.getD (j + i) 0 + c) % HB) c6'
  have hpv := JV (Y := 0) rfl hvs
  have hts := oz HB ys j
  have hW1 : xs.getD i 0 * ys.getD j 0 < 18446744073709551616 := by
   rw [← hW]; exact Nat.lt_of_le_of_lt (Nat.le_trans (Nat.le_add_right _ _) (Nat.le_add_right _ _)) ht
  have hW2 : xs.getD i 0 * ys.getD j 0 + ps.getD (j + i) 0 < 18446744073709551616 := by
   rw [← hW]; exact Nat.lt_of_le_of_lt (Nat.le_add_right _ _) ht
  have hW3 : xs.getD i 0 * ys.getD j 0 + ps.getD (j + i) 0 + c < 18446744073709551616 := by rw [← hW]; exact ht
  have hdiv : (((xs.getD i 0 * ys.getD j 0 + ps.getD (j + i) 0 + c : Nat)) : Int) / 4294967296 = (((xs.getD i 0 * ys.getD j 0 + ps.getD (j + i) 0 + c) / HB : Nat) : Int) := by rw [Int.natCast_ediv]; rfl
  have hcy : (xs.getD i 0 * ys.getD j 0 + ps.getD (j + i) 0 + c) / HB < HB := Nat.div_lt_of_lt_mul ht
  have hnew := ih (j + 1) c7 (ps.set (j + i) ((xs.getD i 0 * ys.getD j 0 + ps.getD (j + i) 0 + c) % HB)) ((xs.getD i 0 * ys.getD j 0 + ps.getD (j + i) 0 + c) / HB) (h1.set _ _ (Nat.mod_lt _ (by decide))) (by rw [List.length_set]; exact h2) hcy (by
    rw [q1, Nat.pow_succ, hts]
    exact Fa hpv h4 (Nat.pow_add _ _ _)) (fun m hm => by rw [getD_set_ne _ _ _ _ (q3 m hm)]; exact h5 m hm)
  refine Ev.step (f := fun k => aA.l1 k (toI xs) (toI ys) (toI (ps.set (j + i) ((xs.getD i 0 * ys.getD j 0 + ps.getD (j + i) 0 + c) % HB))) (i : Int) (((xs.getD i 0 * ys.getD j 0 + ps.getD (j + i) 0 + c) / HB : Nat) : Int) ((j + 1 : Nat) : Int)) (fun k => ?_) hnew
  rw [aA.l1, dM, if_pos c1]
  simp only [e1, e2, dM, jV]
  rw [if_pos c2, if_pos c3, if_pos c4, if_pos c5, if_pos c6, RJ hW1, RN hW2, RN hW3, E_ _ hW3, kX, hdiv]
theorem Pz {xs ys : List Nat} (hx : WdB HB xs) (hy : WdB HB ys) (hlx : xs.length ≤ 10000000) (hly : ys.length ≤ 10000000) : ∀ d i, i + d = xs.length → ∀ (ps : List Nat), WdB HB ps → ps.length = xs.length + ys.length → vB HB ps = vB HB (xs.take i) * vB HB ys → (∀ m, i + ys.length ≤ m → ps.getD m 0 = 0) →
  Ev (fun k => aA.l0 k (toI xs) (toI ys) (toI ps) (i : Int)) (wI (vB HB xs * vB HB ys)) := by
 intro d
 induction d with
 | zero =>
  intro i hi ps h1 h2 h3 h4
  rw [List.take_of_length_le (by omega)] at h3
  have hw := Na h1 (by omega)
  rw [h3] at hw
  have c1 : ¬ ((i : Int) < (xs.length : Int)) := by omega
  refine Ev.step (f := fun k => (bg.f k (toI ps)).bind fun t392 => (some t392)) (fun k => ?_) (Ev.bind hw (Ev.now _))
  rw [aA.l0, dM, if_neg c1]
 | succ d ih =>
  intro i hi ps h1 h2 h3 h4
  have hlt : i < xs.length := by omega
  have c1 : (i : Int) < (xs.length : Int) := by omega
  have c2 : ¬ ((ys.length : Int) < (ys.length : Int)) := by omega
  have c3 : (0 : Int) ≤ ((ys.length + i : Nat) : Int) := by omega
  have c5 : i < 1000000000000000000 := by omega
  have c6 : ys.length < 1000000000000000000 := by omega
  have c7 : i + 1 + d = xs.length := by omega
  have q6 : ∀ m, i + 1 + ys.length ≤ m → i + ys.length ≤ m := fun m hm => by omega
  have e1 := Pg c5 c6
  have e2 := sD c5
  have hts := oz HB xs i
  refine Ev.step (f := fun k => aA.l1 k (toI xs) (toI ys) (toI ps) (i : Int) ((0 : Nat) : Int) ((0 : Nat) : Int)) (fun k => by rw [aA.l0, dM, if_pos c1]; rfl) ?_
  refine Py hx hy hlx hly i hlt (vB HB ps) (fun qs c g1 g2 g3 g4 g5 => ?_) ys.length 0 (Nat.zero_add _) ps 0 h1 h2 (by decide) (by simp [vB]) h4
  by_cases h0 : 0 < ys.length
  ·have c4 : ((ys.length + i : Nat) : Int) < (qs.length : Int) := by omega
   have c4' : ys.length + i < qs.length := by omega
   have q4 : ys.length + i = i + ys.length := Nat.add_comm _ _
   have q5 : ∀ m, i + 1 + ys.length ≤ m → ys.length + i ≠ m := fun m hm => by omega
   have hz := g5 (ys.length + i) (Nat.le_of_eq q4.symm)
   have hvs := DV HB qs (ys.length + i) c c4'
   rw [hz, Nat.mul_zero, Nat.add_zero, q4] at hvs
   have := ih (i + 1) c7 (qs.set (ys.length + i) c) (g1.set _ _ g3) (by rw [List.length_set]; exact g2) (by
    rw [q4, hvs, hts, Nat.add_mul, ← h3, Nat.mul_comm (HB ^ (i + ys.length)) c, g4, Nat.mul_comm (HB ^ i), Nat.mul_right_comm]) (fun m hm => by rw [getD_set_ne _ _ _ _ (q5 m hm)]; exact g5 m (q6 m hm))
   refine Ev.step (f := fun k => aA.l0 k (toI xs) (toI ys) (toI (qs.set (ys.length + i) c)) ((i + 1 : Nat) : Int)) (fun k => ?_) this
   rw [aA.l1]
   simp only [dM, e1, e2]
   rw [if_neg c2, if_pos (show (ys.length : Int) > 0 from Int.natCast_pos.2 h0), if_pos c3, if_pos c4, kX]
  ·have hy0 : ys = [] := List.length_eq_zero_iff.1 (Nat.eq_zero_of_not_pos h0)
   subst hy0
   have hc0 : c = 0 := by
    simp only [vB, Nat.mul_zero, Nat.zero_mul, Nat.add_zero, List.length_nil] at g4 h3
    rcases Nat.eq_zero_or_pos c with h | h
    ·exact h
    ·have := Nat.pow_pos (n := i) (show 0 < HB by decide)
     have h6 := Nat.mul_pos h this
     omega
   subst hc0
   have := ih (i + 1) c7 qs g1 g2 (by rw [hts]; simp only [vB, Nat.mul_zero, Nat.zero_mul, Nat.add_zero] at *; rw [g4, h3]) (fun m hm => g5 m (q6 m hm))
   refine Ev.step (f := fun k => aA.l0 k (toI xs) (toI []) (toI qs) ((i + 1 : Nat) : Int)) (fun k => ?_) this
   rw [aA.l1]
   simp only [dM, e2]
   rw [if_neg c2, if_neg (by decide)]
theorem Aw {a b : Nat} (ha : (toW a).length ≤ 1000000) (hb : (toW b).length ≤ 1000000) : Ev (fun k => aA.f k (wI a) (wI b)) (wI (a * b)) := by
 unfold aA.f
 refine Ev.bind (xE (by omega)) (Ev.bind (xE (by omega)) ?_)
 have hl1 := oV (toW a)
 have hl2 := oV (toW b)
 have e1 : wrap64 (((toI (ng (toW a))).length : Int) + ((toI (ng (toW b))).length : Int)) = (((ng (toW a)).length + (ng (toW b)).length : Nat) : Int) := by
  rw [dM, dM, w64 (by omega) (by omega)]; omega
 have c1 : (0 : Int) ≤ (((ng (toW a)).length + (ng (toW b)).length : Nat) : Int) := by omega
 have c2 : (((ng (toW a)).length + (ng (toW b)).length : Nat) : Int).toNat ≤ 35184372088832 := by omega
 have := Pz (DW (iT a)) (DW (iT b)) (by omega) (by omega) (ng (toW a)).length 0 (by omega) (List.replicate ((ng (toW a)).length + (ng (toW b)).length) 0) (WdB.rep (by decide) _) (by simp) (by rw [RI]; simp [vB]) (fun m _ => by
  rw [List.getD_eq_getElem?_getD, List.getElem?_replicate]; split <;> rfl)
 rw [Au, Au, dV, dV] at this
 rw [e1, pK]
 exact Ev.pos c1 (Ev.pos c2 this)
theorem tZ {a b : Nat} (ha : (toW a).length ≤ 1000000) (hb : (toW b).length ≤ 1000000) : Ev (fun k => bQ.f k (wI a) (wI b)) (wI (a * b)) := by
 unfold bQ.f
 exact Ev.bind (Aw ha hb) (Ev.now _)
theorem uN {b : Nat} (h0 : b ≠ 0) (h : b < WB) : wI b = [(b : Int)] := by
 unfold wI
 rw [mQ h0, Nat.mod_eq_of_lt h, Nat.div_eq_of_lt h, jB]
 rfl
theorem RP {b n : Nat} (h2 : 2 ≤ b) (hb : b < WB) (hn : n ≤ 20000) (hf : iL (b ^ n)) : ∀ d i, i + d = n → Ev (fun k => au.l0 k (b : Int) (n : Int) (wI (b ^ i)) (i : Int)) (wI (b ^ n), 0) := by
 intro d
 induction d with
 | zero =>
  intro i hi
  have hin : i = n := by omega
  subst hin
  have c1 : ¬ ((i : Int) < (i : Int)) := by omega
  refine Ev.step (f := fun k => au.j2 k (b : Int) (i : Int) (wI (b ^ i)) (i : Int) false) (fun k => by rw [au.l0, if_neg c1]) ?_
  exact Ev.one fun k => by rw [au.j2, if_neg (by decide)]
 | succ d ih =>
  intro i hi
  have c1 : (i : Int) < (n : Int) := by omega
  have c2 : i < 1000000000000000000 := by omega
  have c3 : i + 1 + d = n := by omega
  have c4 : ((b : Int) != 1) = true := by simp; omega
  have hfi : (toW (b ^ i)).length ≤ 1024 := Nat.le_trans (jo (Nat.pow_le_pow_right (by omega) (by omega))) hf
  have hfi1 : (toW (b ^ (i + 1))).length ≤ 1024 := Nat.le_trans (jo (Nat.pow_le_pow_right (by omega) (by omega))) hf
  have hp0 : b ^ (i + 1) ≠ 0 := Nat.pos_iff_ne_zero.1 (Nat.pow_pos (by omega))
  have hpl := kR hp0
  have hw1 := uN (b := b) (by omega) hb
  have hb1 : (toW b).length ≤ 1000000 := by rw [← kF, hw1]; simp
  have hprod := Aw (a := b ^ i) (b := b) (by omega) hb1
  rw [← Nat.pow_succ, hw1] at hprod
  have c5 : ¬ (((wI (b ^ (i + 1))).length : Int) > 1024) := by rw [kF]; omega
  have c6 : ¬ (((wI (b ^ (i + 1))).length : Int) = 0) := by rw [kF]; omega
  refine Ev.step (f := fun k => au.j2 k (b : Int) (n : Int) (wI (b ^ i)) (i : Int) true) (fun k => by rw [au.l0, if_pos c1, c4]) ?_
  refine Ev.step (f := fun k => (aA.f k (wI (b ^ i)) (([(b : Int)] : List Int))).bind fun t409 => (if (t409.length : Int) > 1024 then (some (([] : List Int), 5)) else (if (t409.length : Int) = 0 then (some (t409, 0)) else (au.l0 k (b : Int) (n : Int) t409 ((i + 1 : Nat) : Int))))) (fun k => by rw [au.j2, if_pos rfl, sD c2]) ?_
  exact Ev.bind hprod (Ev.neg c5 (Ev.neg c6 (ih (i + 1) c3)))
theorem Fb {b n : Nat} (h2 : 2 ≤ b) (hb : b < WB) (hn : n ≤ 20000) (hf : iL (b ^ n)) : Ev (fun k => au.f k (b : Int) (n : Int)) (wI (b ^ n), 0) := by
 unfold au.f
 have c1 : ¬ ((n : Int) < 0) := by omega
 have c2 : decide ((n : Int) > 20000) = false := by simp; omega
 refine Ev.neg c1 ?_
 rw [c2]
 have := RP h2 hb hn hf n 0 (by omega)
 rw [Nat.pow_zero, show wI 1 = [1] by unfold wI; rw [n_]; rfl] at this
 exact Ev.step (f := fun k => au.l0 k (b : Int) (n : Int) [1] 0) (fun k => by rw [au.j0, if_neg (by decide)]) this
theorem DX {n : Nat} (hn : n ≤ 20000) (hf : iL (10 ^ n)) : Ev (fun k => dQ.f k (n : Int)) (wI (10 ^ n)) := by
 unfold dQ.f
 exact Ev.bind (Fb (b := 10) (by decide) (by decide) hn hf) (Ev.now _)
end Go.Proofs.YtafikkmnkeddpaaGreatDoor.P
namespace Go.Proofs.YtafikkmnkeddpaaGreatDoor.P
open Go.RowKit Go.Proofs.YtafikkmnkeddpaaGreatDoorW.PrintWords Go.Proofs.YtafikkmnkeddpaaGreatDoorW.PrintLast Go.Proofs.YtafikkmnkeddpaaGreatDoorW.PrintMore
def byt (s : ByteArray) (i : Nat) : Nat := (s.data.toList.getD i 0).toNat
theorem I_ (s : ByteArray) (i : Nat) : bt s (i : Int) = ((byt s i : Nat) : Int) := by
 unfold bt byt
 by_cases h : i < s.size
 ·have h' : (i : Int).toNat < s.size := by rw [Int.toNat_natCast]; exact h
  rw [dif_pos h']
  congr 2
  rw [List.getD_eq_getElem?_getD, Lib.data_getElem? s i h]
  rfl
 ·have h' : ¬ (i : Int).toNat < s.size := by rw [Int.toNat_natCast]; exact h
  rw [dif_neg h', List.getD_eq_getElem?_getD, List.getElem?_eq_none (by rw [Array.length_toList]; exact Nat.le_of_not_lt h)]
  rfl
end Go.Proofs.YtafikkmnkeddpaaGreatDoor.P
namespace Go.Proofs.YtafikkmnkeddpaaGreatDoor.P
open Go.RowKit Go.Proofs.YtafikkmnkeddpaaGreatDoorW.PrintWords Go.Proofs.YtafikkmnkeddpaaGreatDoorW.PrintLast Go.Proofs.YtafikkmnkeddpaaGreatDoorW.PrintMore
theorem PD (bs : List Nat) (hl : bs.length ≤ 1000000) : ∀ d i, i + d = bs.length → ∀ zs : List Nat, zs.length = bs.length → (∀ m, m < i → zs.getD m 0 = bs.getD (bs.length - 1 - m) 0) →
  Ev (fun k => ah.l4 k (toI bs) (toI zs) (i : Int)) (strOfNums (toI bs.reverse), 0) := by
 intro d
 induction d with
 | zero =>
  intro i hi zs h1 h2
  have c1 : ¬ ((i : Int) < (bs.length : Int)) := by omega
  have he : zs = bs.reverse := by
   refine List.ext_getElem (by rw [h1, List.length_reverse]) fun m g1 g2 => ?_
   have := h2 m (by omega)
   rw [List.getD_eq_getElem?_getD, List.getD_eq_getElem?_getD, List.getElem?_eq_getElem g1, List.getElem?_eq_getElem (by omega)] at this
   rw [List.getElem_reverse]
   exact this
  exact Ev.one fun k => by rw [ah.l4, dM, if_neg c1, he]
 | succ d ih =>
  intro i hi zs h1 h2
  have c1 : (i : Int) < (bs.length : Int) := by omega
  have c2 : (0 : Int) ≤ ((bs.length - 1 - i : Nat) : Int) := by omega
  have c3 : ((bs.length - 1 - i : Nat) : Int) < (bs.length : Int) := by omega
  have c4 : (0 : Int) ≤ (i : Int) := by omega
  have c5 : (i : Int) < (zs.length : Int) := by omega
  have c5' : i < zs.length := by omega
  have c6 : i + 1 + d = bs.length := by omega
  have c7 : i < 1000000000000000000 := by omega
  have e1 : wrap64 ((wrap64 ((bs.length : Int) - 1)) - (i : Int)) = ((bs.length - 1 - i : Nat) : Int) := by rw [w64 (x := (bs.length : Int) - 1) (by omega) (by omega), w64 (by omega) (by omega)]; omega
  have := ih (i + 1) c6 (zs.set i (bs.getD (bs.length - 1 - i) 0)) (by rw [List.length_set]; exact h1) (fun m hm => by
   by_cases hmi : m = i
   ·subst hmi; rw [jP _ _ _ c5']
   ·rw [getD_set_ne _ _ _ _ (fun h => hmi h.symm)]; exact h2 m (by clear e1; omega))
  refine Ev.step (f := fun k => ah.l4 k (toI bs) (toI (zs.set i (bs.getD (bs.length - 1 - i) 0))) ((i + 1 : Nat) : Int)) (fun k => ?_) this
  rw [ah.l4, dM, if_pos c1, e1, if_pos c2, if_pos c3, if_pos c4, dM, if_pos c5, jV, kX, sD c7]
theorem UM (r d : Nat) (hr : r < 1000000000) (hd : d < HB) : Go.bits .or .u64 (IntKind.u64.wrap ((r : Int) * 4294967296)) ((d : Nat) : Int) = ((r * HB + d : Nat) : Int) := by
 have h1 : r * HB < WB := Nat.lt_of_lt_of_le (Nat.mul_lt_mul_of_pos_right hr (by decide)) (by decide)
 have := or_hi r d 32 hd h1 (by decide)
 have e := RJ (a := r) (b := HB) h1
 rw [show ((HB : Nat) : Int) = 4294967296 from rfl] at e
 rw [e]
 exact this
theorem Ho {H N P V V' Dl d t r X : Nat} (ht : t = r * H + d) (h1 : V' + P * d = V + P * (t / N)) (h3 : X + (Dl + P * d) * N = V * N + r * (P * H) + (Dl + P * d)) : X + Dl * N = V' * N + t % N * P + Dl := by
 have e1 := Nat.mod_add_div t N
 have e2 : P * (t % N) + P * (N * (t / N)) = P * (r * H) + P * d := by rw [← Nat.mul_add, e1, ht, Nat.mul_add]
 have e3 : P * (N * (t / N)) = P * (t / N) * N := by rw [Nat.mul_comm N, Nat.mul_assoc]
 have e4 : r * (P * H) = P * (r * H) := Nat.mul_left_comm _ _ _
 have e5 : t % N * P = P * (t % N) := Nat.mul_comm _ _
 have e6 : V' * N + P * d * N = V * N + P * (t / N) * N := by rw [← Nat.add_mul, h1, Nat.add_mul]
 have e7 : (Dl + P * d) * N = Dl * N + P * d * N := Nat.add_mul _ _ _
 generalize P * (t / N) * N = A at *
 generalize P * (t % N) = B at *
 generalize P * (r * H) = C at *
 generalize P * d * N = D at *
 omega
theorem PE (bs : List Int) (left : Nat) (ds0 : List Nat) (hl : left ≤ ds0.length) (hl2 : ds0.length ≤ 1000000) {r : ByteArray × Int}
  (hend : ∀ (es : List Nat) (q : Nat), WdB HB es → es.length = ds0.length → q < 1000000000 → vB HB (ds0.take left) = vB HB (es.take left) * 1000000000 + q → Ev (fun k => ah.l2 k (toI es) bs (left : Int) (q : Int)) r) :
  ∀ i, i ≤ left → ∀ (es : List Nat) (q : Nat), WdB HB es → es.length = ds0.length → q < 1000000000 → vB HB (ds0.take left) + vB HB (ds0.take i) * 1000000000 = vB HB (es.take left) * 1000000000 + q * HB ^ i + vB HB (ds0.take i) → (∀ m, m < i → es.getD m 0 = ds0.getD m 0) →
   Ev (fun k => ah.l1 k (toI es) bs (left : Int) (q : Int) ((i : Int) - 1)) r := by
 intro i
 induction i with
 | zero =>
  intro hi es q h1 h2 h3 h4 h5
  have c1 : ¬ (((0 : Nat) : Int) - 1 ≥ 0) := by omega
  refine Ev.step (f := fun k => ah.l2 k (toI es) bs (left : Int) (q : Int)) (fun k => by rw [ah.l1, if_neg c1]) (hend es q h1 h2 h3 ?_)
  simpa [vB] using h4
 | succ i ih =>
  intro hi es q h1 h2 h3 h4 h5
  have c0 : ((i + 1 : Nat) : Int) - 1 = (i : Int) := by omega
  have c1 : (i : Int) ≥ 0 := by omega
  have c2 : (0 : Int) ≤ (i : Int) := by omega
  have c3 : (i : Int) < (es.length : Int) := by omega
  have c3' : i < es.length := by omega
  have c4 : i ≤ left := by omega
  have c5 : wrap64 ((i : Int) - 1) = (i : Int) - 1 := w64 (by omega) (by omega)
  have q1 : ∀ m, m < i → i ≠ m := fun m hm => by omega
  have q2 : ∀ m, m < i → m < i + 1 := fun m hm => by omega
  have c6 : i < (es.take left).length := by rw [List.length_take]; omega
  have hdi := h1.get (by decide) i
  have hdd := h5 i (Nat.lt_succ_self i)
  have ht : q * HB + es.getD i 0 < 1000000000 * HB := by
   have : (q + 1) * HB ≤ 1000000000 * HB := Nat.mul_le_mul_right _ h3
   rw [Nat.add_mul, Nat.one_mul] at this
   exact Nat.lt_of_lt_of_le (Nat.add_lt_add_left hdi _) this
  have hq : (q * HB + es.getD i 0) / 1000000000 < HB := Nat.div_lt_of_lt_mul ht
  have hor := UM q (es.getD i 0) h3 hdi
  have hnn : ((q * HB + es.getD i 0 : Nat) : Int).tdiv 1000000000 = (((q * HB + es.getD i 0) / 1000000000 : Nat) : Int) := by
   rw [Int.tdiv_eq_ediv_of_nonneg (Int.natCast_nonneg _), Int.natCast_ediv]; rfl
  have hmm : ((q * HB + es.getD i 0 : Nat) : Int).tmod 1000000000 = (((q * HB + es.getD i 0) % 1000000000 : Nat) : Int) := by
   rw [Int.tmod_eq_emod_of_nonneg (Int.natCast_nonneg _), Int.natCast_emod]; rfl
  have hw : IntKind.u64.wrap (((q * HB + es.getD i 0) / 1000000000 : Nat) : Int) = (((q * HB + es.getD i 0) / 1000000000 : Nat) : Int) := tq (Nat.lt_trans hq (by decide))
  have hts := oz HB ds0 i
  have hset : (es.set i ((q * HB + es.getD i 0) / 1000000000)).take left = (es.take left).set i ((q * HB + es.getD i 0) / 1000000000) := List.take_set
  have htk : (es.take left).getD i 0 = es.getD i 0 := by
   rw [List.getD_eq_getElem?_getD, List.getElem?_take, if_pos (by rw [List.length_take] at c6; exact Nat.lt_of_lt_of_le c6 (Nat.min_le_left _ _)), ← List.getD_eq_getElem?_getD]
  have hvs := DV HB (es.take left) i ((q * HB + es.getD i 0) / 1000000000) c6
  rw [htk] at hvs
  rw [hts, ← hdd, Nat.pow_succ] at h4
  have := ih c4 (es.set i ((q * HB + es.getD i 0) / 1000000000)) ((q * HB + es.getD i 0) % 1000000000) (h1.set _ _ hq) (by rw [List.length_set]; exact h2) (Nat.mod_lt _ (by decide)) (by
   rw [hset]
   exact Ho rfl hvs h4) (fun m hm => by rw [getD_set_ne _ _ _ _ (q1 m hm)]; exact h5 m (q2 m hm))
  refine Ev.step (f := fun k => ah.l1 k (toI (es.set i ((q * HB + es.getD i 0) / 1000000000))) bs (left : Int) (((q * HB + es.getD i 0) % 1000000000 : Nat) : Int) ((i : Int) - 1)) (fun k => ?_) this
  rw [c0, ah.l1, if_pos c1, if_pos c2, dM, if_pos c3, jV, hor, hnn, hmm, hw, kX, c5]
theorem PG (bs : List Int) (q : Nat) (es : List Nat) (hw : WdB HB es) (hl2 : es.length ≤ 1000000) {r : ByteArray × Int} :
  ∀ n, n ≤ es.length → (∀ m, m ≤ n → vB HB (es.take m) = vB HB (es.take n) → (vB HB (es.take m) = 0 → m = 0) → Ev (fun k => ah.j3 k (toI es) bs (m : Int) (q : Int)) r) →
   Ev (fun k => ah.l2 k (toI es) bs (n : Int) (q : Int)) r := by
 intro n
 induction n with
 | zero =>
  intro hn h
  have c1 : ¬ (((0 : Nat) : Int) > 0) := by omega
  exact Ev.step (f := fun k => ah.j3 k (toI es) bs ((0 : Nat) : Int) (q : Int)) (fun k => by rw [ah.l2, if_neg c1]) (h 0 (Nat.le_refl _) rfl fun _ => rfl)
 | succ n ih =>
  intro hn h
  have c1 : ((n + 1 : Nat) : Int) > 0 := by omega
  have c2 : (0 : Int) ≤ (n : Int) := by omega
  have c3 : (n : Int) < (es.length : Int) := by omega
  have c4 : n < 1000000000000000000 := by omega
  have c5 : n ≤ es.length := by omega
  have hts := oz HB es n
  by_cases h0 : es.getD n 0 = 0
  ·have hts' : vB HB (es.take (n + 1)) = vB HB (es.take n) := by rw [h0, Nat.mul_zero] at hts; exact hts
   have := ih c5 fun m h1 h2 h3 => h m (Nat.le_succ_of_le h1) (by rw [h2, hts']) h3
   refine Ev.step (f := fun k => ah.l2 k (toI es) bs (n : Int) (q : Int)) (fun k => ?_) this
   rw [ah.l2, if_pos c1, Ti c4, if_pos c2, dM, if_pos c3, jV, h0, if_pos (show ((0 : Nat) : Int) = 0 from rfl)]
  ·have hp := Nat.pow_pos (n := n) (show 0 < HB by decide)
   have h6 := Nat.mul_pos hp (Nat.pos_of_ne_zero h0)
   have hne : ¬ ((es.getD n 0 : Nat) : Int) = 0 := fun h => h0 (Int.ofNat_inj.1 h)
   refine Ev.step (f := fun k => ah.j3 k (toI es) bs ((n + 1 : Nat) : Int) (q : Int)) (fun k => ?_) (h (n + 1) (Nat.le_refl _) rfl fun hz => ?_)
   ·rw [ah.l2, if_pos c1, Ti c4, if_pos c2, dM, if_pos c3, jV, if_neg hne]
   ·rw [hts] at hz; omega
theorem PK (es : List Nat) (left : Nat) (Q : Nat) (hQ : Q = 0 ↔ left = 0) (v : Nat) {r : ByteArray × Int}
  (hend : ∀ bs : List Nat, bs.length ≤ 1000000 → mG v = bs ++ mG Q → Ev (fun k => ah.l0 k (toI es) (asc bs) (left : Int)) r) :
  ∀ d j : Nat, j + d = 9 → ∀ (bs : List Nat) (q : Nat), bs.length + d ≤ 1000000 → q < 10 ^ d → mG v = bs ++ mG (Q * 10 ^ d + q) → Ev (fun k => ah.l3 k (toI es) (asc bs) (left : Int) (q : Int) (j : Int)) r := by
 intro d
 induction d with
 | zero =>
  intro j hj bs q h1 h2 h3
  have hq : q = 0 := by simpa using h2
  subst hq
  have c1 : ¬ ((j : Int) < 9) := by omega
  rw [Nat.pow_zero, Nat.mul_one, Nat.add_zero] at h3
  exact Ev.step (f := fun k => ah.l0 k (toI es) (asc bs) (left : Int)) (fun k => by rw [ah.l3, if_neg c1]) (hend bs h1 h3)
 | succ d ih =>
  intro j hj bs q h1 h2 h3
  have c1 : (j : Int) < 9 := by omega
  have c2 : j < 1000000000000000000 := by omega
  have c3 : j + 1 + d = 9 := by omega
  have hpow : 10 ^ (d + 1) = 10 * 10 ^ d := by rw [Nat.pow_succ, Nat.mul_comm]
  have hq10 : q / 10 < 10 ^ d := Nat.div_lt_of_lt_mul (by rw [← hpow]; exact h2)
  have hb1 : (bs ++ [q % 10]).length + d ≤ 1000000 := by rw [List.length_append]; simp; omega
  have hb2 : bs.length < 140737488355328 := by omega
  have hqs : q < 10000000000 := by
   have : 10 ^ (d + 1) ≤ 10 ^ 10 := Nat.pow_le_pow_right (by decide) (by omega)
   exact Nat.lt_of_lt_of_le h2 this
  have e1 : (IntKind.u64.wrap (48 + (Int.tmod (q : Int) 10))) % 256 = ((48 + q % 10 : Nat) : Int) := by
   rw [Int.tmod_eq_emod_of_nonneg (Int.natCast_nonneg _), wu64 (by omega) (by omega)]; omega
  have e2 : IntKind.u64.wrap (Int.tdiv (q : Int) 10) = ((q / 10 : Nat) : Int) := by
   rw [Int.tdiv_eq_ediv_of_nonneg (Int.natCast_nonneg _), wu64 (by omega) (by omega)]; omega
  have go : (Q * 10 ^ (d + 1) + q ≠ 0) → Ev (fun k => ah.l3 k (toI es) (asc (bs ++ [q % 10])) (left : Int) ((q / 10 : Nat) : Int) ((j + 1 : Nat) : Int)) r := fun hne =>
   ih (j + 1) c3 (bs ++ [q % 10]) (q / 10) hb1 hq10 (by
    rw [h3, wQ hne, hpow, Nat.mul_left_comm Q 10, Nat.mul_add_mod, Nat.mul_add_div (by decide), List.append_assoc]
    rfl)
  by_cases hL : 0 < left
  ·have hQ0 : Q ≠ 0 := fun h => by rw [hQ.1 h] at hL; exact Nat.lt_irrefl 0 hL
   have hne : Q * 10 ^ (d + 1) + q ≠ 0 := by
    have := Nat.mul_pos (Nat.pos_of_ne_zero hQ0) (Nat.pow_pos (n := d + 1) (show 0 < 10 by decide))
    omega
   refine Ev.step (f := fun k => ah.l3 k (toI es) (asc (bs ++ [q % 10])) (left : Int) ((q / 10 : Nat) : Int) ((j + 1 : Nat) : Int)) (fun k => ?_) (go hne)
   rw [ah.l3, if_pos c1, if_pos (show (left : Int) > 0 from Int.natCast_pos.2 hL), lu, if_pos hb2, e1, e2, uj, sD c2]
  ·have hL0 : left = 0 := Nat.eq_zero_of_not_pos hL
   have hQ0 := hQ.2 hL0
   subst hL0 hQ0
   by_cases hq0 : 0 < q
   ·refine Ev.step (f := fun k => ah.l3 k (toI es) (asc (bs ++ [q % 10])) ((0 : Nat) : Int) ((q / 10 : Nat) : Int) ((j + 1 : Nat) : Int)) (fun k => ?_) (go (by omega))
    rw [ah.l3, if_pos c1, if_neg (by decide), if_pos (show (q : Int) > 0 from Int.natCast_pos.2 hq0), lu, if_pos hb2, e1, e2, uj, sD c2]
   ·have hq1 : q = 0 := Nat.eq_zero_of_not_pos hq0
    subst hq1
    rw [Nat.zero_mul, Nat.add_zero] at h3
    refine Ev.step (f := fun k => ah.l0 k (toI es) (asc bs) ((0 : Nat) : Int)) (fun k => ?_) (hend bs (by omega) h3)
    rw [ah.l3, if_pos c1, if_neg (by decide), if_neg (by decide)]
theorem PL (v : Nat) (hv : v ≠ 0) (hd1 : (mG v).length ≤ 900000) : ∀ V : Nat, ∀ (ds : List Nat) (left : Nat) (bs : List Nat), WdB HB ds → ds.length ≤ 1000000 → left ≤ ds.length → vB HB (ds.take left) = V → (0 < left → V ≠ 0) → mG v = bs ++ mG V →
  Ev (fun k => ah.l0 k (toI ds) (asc bs) (left : Int)) (strOfNums (asc (mG v).reverse), 0) := by
 intro V
 induction V using Nat.strongRecOn with
 | _ V ih =>
  intro ds left bs h1 h2 h3 h4 h5 h6
  have hbl : bs.length ≤ 900000 := by
   have := congrArg List.length h6
   rw [List.length_append] at this
   omega
  by_cases hL : 0 < left
  ·have c5 : (left : Int) - 1 = wrap64 ((left : Int) - 1) := (w64 (by omega) (by omega)).symm
   have hVp := h5 hL
   refine Ev.step (f := fun k => ah.l1 k (toI ds) (asc bs) (left : Int) ((0 : Nat) : Int) ((left : Int) - 1)) (fun k => by rw [ah.l0, if_pos (show (left : Int) > 0 from Int.natCast_pos.2 hL), ← c5]; rfl) ?_
   refine PE (asc bs) left ds h3 h2 (fun es q g1 g2 g3 g4 => ?_) left (Nat.le_refl _) ds 0 h1 rfl (by decide) (by rw [Nat.zero_mul]; omega) (fun m _ => rfl)
   rw [h4] at g4
   refine PG (asc bs) q es g1 (by omega) left (by omega) fun m k1 k2 k3 => ?_
   refine Ev.step (f := fun k => ah.l3 k (toI es) (asc bs) (m : Int) (q : Int) ((0 : Nat) : Int)) (fun k => by rw [ah.j3]; rfl) ?_
   have hQ : vB HB (es.take m) = 0 ↔ m = 0 := ⟨k3, fun h => by rw [h]; rfl⟩
   refine PK es m (vB HB (es.take m)) hQ v (fun cs l1 l2 => ?_) 9 0 rfl bs q (by omega) g3 (by rw [k2, h6, g4])
   refine ih (vB HB (es.take m)) (by rw [k2]; omega) es m cs g1 (by omega) (by omega) rfl (fun h => fun hz => by rw [k3 hz] at h; exact Nat.lt_irrefl 0 h) l2
  ·have hL0 : left = 0 := Nat.eq_zero_of_not_pos hL
   subst hL0
   have hV0 : V = 0 := h4.symm
   rw [hV0, uP, List.append_nil] at h6
   rw [h6]
   have e1 : (0 : Int) ≤ (((asc bs).length : Nat) : Int) := Int.natCast_nonneg _
   have e2 : (((asc bs).length : Nat) : Int).toNat ≤ 281474976710656 := by rw [lu]; omega
   have := PD (bs.map (48 + ·)) (by rw [List.length_map]; omega) (bs.map (48 + ·)).length 0 (Nat.zero_add _) (List.replicate (bs.map (48 + ·)).length 0) (by simp) (fun m hm => absurd hm (Nat.not_lt_zero m))
   rw [← List.map_reverse] at this
   refine Ev.step (f := fun k => ah.l4 k (asc bs) (toI (List.replicate (bs.map (48 + ·)).length 0)) ((0 : Nat) : Int)) (fun k => ?_) this
   rw [ah.l0, if_neg (by decide), if_pos e1, if_pos e2, pK, lu, List.length_map]
   rfl
theorem PN {v : Nat} (hv : v ≠ 0) (hf : iL v) : Ev (fun k => ah.f k (wI v)) (strOfNums (asc (mG v).reverse), 0) := by
 unfold iL at hf
 unfold ah.f
 have hp := kR hv
 have c1 : ¬ (((toW v).length : Int) > 1024) := by omega
 have c2 : ¬ (((toW v).length : Int) = 0) := by omega
 have hl := oV (toW v)
 refine Ev.bind (oM (by unfold mX; omega)) (Ev.neg c1 (Ev.bind (oM (by unfold mX; omega)) (Ev.neg c2 (Ev.bind (xE (by omega)) ?_))))
 have hlen : (mG v).length ≤ 900000 := by
  have h1 := (o7 hv).1
  have h2 := lW v
  rw [show WB = 2 ^ 64 from rfl, ← Nat.pow_mul] at h2
  have h3 := wB (Nat.lt_of_le_of_lt (Nat.le_trans (Nat.pow_le_pow_left (show 2 ≤ 10 by decide) _) h1) h2)
  omega
 rw [dM]
 refine PL v hv hlen v (ng (toW v)) (ng (toW v)).length [] (DW (iT v)) (by omega) (Nat.le_refl _) (by rw [List.take_of_length_le (Nat.le_refl _), Au, dV]) (fun _ => hv) rfl
end Go.Proofs.YtafikkmnkeddpaaGreatDoor.P
namespace Go.Proofs.YtafikkmnkeddpaaGreatDoor
theorem JY {a b : Nat} (h : a ≤ b) : fM a ≤ fM b := mF (Nat.lt_of_le_of_lt h (kY b))
def qm (r d : Nat) : Nat := if r = 0 then 0 else if 2 * r < d then 1 else if 2 * r = d then 2 else 3
def lOf (a d : Nat) : Nat := qm (a % d) d
theorem JZ (r d : Nat) {k : Nat} (hk : 0 < k) : qm (r * k) (d * k) = qm r d := by
 unfold qm
 have e1 : (r * k = 0) = (r = 0) := by
  apply propext
  constructor
  ·intro h
   rcases Nat.mul_eq_zero.1 h with h | h
   ·exact h
   ·omega
  ·rintro rfl; simp
 have e2 : (2 * (r * k) < d * k) = (2 * r < d) := by
  rw [← Nat.mul_assoc]
  exact propext (Nat.mul_lt_mul_right hk)
 have e3 : (2 * (r * k) = d * k) = (2 * r = d) := by
  rw [← Nat.mul_assoc]
  exact propext (Nat.mul_left_inj (by omega))
 simp only [e1, e2, e3]
theorem D7 (a d : Nat) {k : Nat} (hk : 0 < k) : lOf (a * k) (d * k) = lOf a d := by
 unfold lOf
 rw [Nat.mul_mod_mul_right, JZ _ _ hk]
theorem yZ (a d : Nat) {k : Nat} (hk : 0 < k) : a * k / (d * k) = a / d := Nat.mul_div_mul_right _ _ hk
theorem Fp (r d : Nat) : qm r d ≤ 3 := by unfold qm; split <;> (try split) <;> (try split) <;> omega
def upN (num : Nat) (E q : Int) : Nat := num * 2 ^ (E - q).toNat
def dnN (den : Nat) (E q : Int) : Nat := den * 2 ^ (q - E).toNat
def plU (num den : Nat) (E q : Int) : Nat := upN num E q / dnN den E q
def plL (num den : Nat) (E q : Int) : Nat := lOf (upN num E q) (dnN den E q)
theorem P5 {den : Nat} (h : 0 < den) (E q : Int) : 0 < dnN den E q := Nat.mul_pos h (Nat.two_pow_pos _)
theorem rU (num den : Nat) (E e q : Int) (h : e ≤ q) : plU num den E q = upN num E e / (dnN den E e * 2 ^ (q - e).toNat) ∧ plL num den E q = lOf (upN num E e) (dnN den E e * 2 ^ (q - e).toNat) := by
 have e1 : upN num E q * 2 ^ (E - e).toNat = upN num E e * 2 ^ (E - q).toNat := by
  unfold upN
  rw [Nat.mul_assoc, Nat.mul_assoc, Nat.mul_comm (2 ^ _)]
 have e2 : dnN den E q * 2 ^ (E - e).toNat = dnN den E e * 2 ^ (q - e).toNat * 2 ^ (E - q).toNat := by
  unfold dnN
  simp only [Nat.mul_assoc, ← Nat.pow_add]
  congr 2
  omega
 unfold plU plL
 constructor
 ·rw [← yZ _ _ (Nat.two_pow_pos (E - e).toNat), e1, e2, yZ _ _ (Nat.two_pow_pos _)]
 ·rw [← D7 _ _ (Nat.two_pow_pos (E - e).toNat), e1, e2, D7 _ _ (Nat.two_pow_pos _)]
theorem qF (num den : Nat) (E e q : Int) (h : e ≤ q) : plU num den E q = plU num den E e / 2 ^ (q - e).toNat := by
 rw [(rU num den E e q h).1]
 unfold plU
 rw [Nat.div_div_eq_div_mul]
theorem wJ {num den : Nat} {E t q : Int} (h : plU num den E t = 1) (hq : q ≤ t) : fM (plU num den E q) = (t - q).toNat + 1 := by
 have := qF num den E q t hq
 rw [h] at this
 have hP := Nat.two_pow_pos (t - q).toNat
 generalize plU num den E q = n at *
 have h1 := (Nat.div_eq_iff hP).1 this.symm
 refine qC (by omega) ?_
 rw [Nat.pow_succ]
 omega
theorem AB {num den : Nat} {E t q : Int} (h : plU num den E t = 1) (hq : t < q) : plU num den E q = 0 := by
 rw [qF num den E t q (by omega), h]
 obtain ⟨k, hk⟩ : ∃ k, (q - t).toNat = k + 1 := ⟨(q - t).toNat - 1, by omega⟩
 rw [hk, Nat.pow_succ]
 exact Nat.div_eq_of_lt (by have := Nat.two_pow_pos k; omega)
def vG (num den : Nat) (E : Int) : Int := if plU num den E ((fM num : Int) - fM den + E) = 0 then (fM num : Int) - fM den + E - 1 else (fM num : Int) - fM den + E
theorem xQ {num den : Nat} (hn : num ≠ 0) (hd : 0 < den) (E : Int) : plU num den E (vG num den E) = 1 := by
 have hn1 := kY num
 have hn2 := nZ hn
 have hd1 := kY den
 have hd2 := nZ (v := den) (by omega)
 have hnp : 0 < fM num := by rw [lY hn]; omega
 have hdp : 0 < fM den := by rw [lY (by omega)]; omega
 generalize hb : fM num = b at *
 generalize hc : fM den = c at *
 obtain ⟨b', rfl⟩ : ∃ k, b = k + 1 := ⟨b - 1, by omega⟩
 obtain ⟨c', rfl⟩ : ∃ k, c = k + 1 := ⟨c - 1, by omega⟩
 rw [Nat.add_sub_cancel] at *
 have lt2 : plU num den E (((b' + 1 : Nat) : Int) - ((c' + 1 : Nat) : Int) + E) < 2 := by
  unfold plU upN dnN
  rw [Nat.div_lt_iff_lt_mul (Nat.mul_pos hd (Nat.two_pow_pos _))]
  calc num * 2 ^ (E - (((b' + 1 : Nat) : Int) - ((c' + 1 : Nat) : Int) + E)).toNat < 2 ^ (b' + 1) * 2 ^ (E - (((b' + 1 : Nat) : Int) - ((c' + 1 : Nat) : Int) + E)).toNat := Nat.mul_lt_mul_of_pos_right hn1 (Nat.two_pow_pos _)
   _ = 2 * (2 ^ c' * 2 ^ ((((b' + 1 : Nat) : Int) - ((c' + 1 : Nat) : Int) + E) - E).toNat) := by
    rw [← Nat.pow_add, ← Nat.pow_add, ← Nat.pow_succ']
    congr 1
    omega
   _ ≤ 2 * (den * 2 ^ ((((b' + 1 : Nat) : Int) - ((c' + 1 : Nat) : Int) + E) - E).toNat) := Nat.mul_le_mul_left _ (Nat.mul_le_mul_right _ hd2)
 have ge1 : 1 ≤ plU num den E (((b' + 1 : Nat) : Int) - ((c' + 1 : Nat) : Int) + E - 1) := by
  unfold plU upN dnN
  rw [Nat.le_div_iff_mul_le (Nat.mul_pos hd (Nat.two_pow_pos _)), Nat.one_mul]
  calc den * 2 ^ ((((b' + 1 : Nat) : Int) - ((c' + 1 : Nat) : Int) + E - 1) - E).toNat ≤ 2 ^ (c' + 1) * 2 ^ ((((b' + 1 : Nat) : Int) - ((c' + 1 : Nat) : Int) + E - 1) - E).toNat := Nat.mul_le_mul_right _ (by omega)
   _ = 2 ^ b' * 2 ^ (E - (((b' + 1 : Nat) : Int) - ((c' + 1 : Nat) : Int) + E - 1)).toNat := by
    rw [← Nat.pow_add, ← Nat.pow_add]
    congr 1
    omega
   _ ≤ _ := Nat.mul_le_mul_right _ hn2
 have hcl := qF num den E (((b' + 1 : Nat) : Int) - ((c' + 1 : Nat) : Int) + E - 1) (((b' + 1 : Nat) : Int) - ((c' + 1 : Nat) : Int) + E) (by omega)
 rw [show (((b' + 1 : Nat) : Int) - ((c' + 1 : Nat) : Int) + E - (((b' + 1 : Nat) : Int) - ((c' + 1 : Nat) : Int) + E - 1)).toNat = 1 by omega, Nat.pow_one] at hcl
 unfold vG
 rw [hb, hc]
 split
 ·rename_i h0; rw [h0] at hcl; omega
 ·omega
def xR (m : Int) (neg odd : Bool) (l : Nat) : Bool :=
 if m = 0 then decide (l = 3) || (decide (l = 2) && odd) else if m = 1 then decide (2 ≤ l) else if m = 3 then !neg else if m = 4 then neg else if m = 5 then !odd else false
def jq (m : Int) (neg : Bool) (u l : Nat) : Nat := if l ≠ 0 ∧ xR m neg (decide (u % 2 = 1)) l = true then u + 1 else u
theorem xU (m : Int) (neg : Bool) (u l : Nat) : u ≤ jq m neg u l := by unfold jq; split <;> omega
theorem uO (m : Int) (neg : Bool) (u l : Nat) : jq m neg u l ≤ u + 1 := by unfold jq; split <;> omega
structure Fm where
 W : Nat
 P : Nat
 emin : Int
 emax : Int
structure Fm.Ok (F : Fm) : Prop where
 p2 : 2 ≤ F.P
 pw : F.P < F.W
 w64 : F.W ≤ 64
 ee : F.emin ≤ F.emax
 fld : F.emax - F.emin + 2 < 2 ^ (F.W - F.P)
def oC (F : Fm) (m : Int) (neg : Bool) : Nat :=
 (if m = 0 ∨ m = 1 ∨ (m = 3 ∧ neg = false) ∨ (m = 4 ∧ neg = true) then (2 ^ (F.W - F.P) - 1) * 2 ^ (F.P - 1) else (2 ^ (F.W - F.P) - 2) * 2 ^ (F.P - 1) + (2 ^ (F.P - 1) - 1)) + if neg then 2 ^ (F.W - 1) else 0
def oZ (F : Fm) (m : Int) (neg : Bool) (num den : Nat) (E : Int) : Nat × Nat :=
 let t := vG num den E
 let least := F.emin - F.P + 1
 let q := max (t - F.P + 1) least
 let n := jq m neg (plU num den E q) (plL num den E q)
 if F.emax + 1 < (fM n : Int) + q then (oC F m neg, 20)
 else ((q - least).toNat * 2 ^ (F.P - 1) + n + (if neg then 2 ^ (F.W - 1) else 0),
  if plL num den E q = 0 then 0 else if (fM (jq m neg (plU num den E (t - F.P + 1)) (plL num den E (t - F.P + 1))) : Int) + (t - F.P + 1) ≤ F.emin then 24 else 16)
end Go.Proofs.YtafikkmnkeddpaaGreatDoor
namespace Go.Proofs.YtafikkmnkeddpaaGreatDoor
theorem RV {F : Fm} (hF : F.Ok) (m : Int) (neg : Bool) {num den : Nat} {E : Int} (hn : num ≠ 0) (hd : 0 < den) : (oZ F m neg num den E).1 < 2 ^ F.W := by
 have hts := xQ hn hd E
 have hp2 := hF.p2
 have hpw := hF.pw
 have hfld := hF.fld
 have hsg : (if neg = true then 2 ^ (F.W - 1) else 0) ≤ 2 ^ (F.W - 1) := by split <;> simp
 have hW : 2 ^ F.W = 2 ^ (F.W - 1) + 2 ^ (F.W - 1) := by
  have : F.W = (F.W - 1) + 1 := by omega
  rw [this, Nat.pow_succ, Nat.add_sub_cancel]
  omega
 have hW1 : 2 ^ (F.W - 1) = 2 ^ (F.W - F.P) * 2 ^ (F.P - 1) := by rw [← Nat.pow_add]; congr 1; omega
 have h2 : 2 ≤ 2 ^ (F.W - F.P) := by
  have := Nat.pow_le_pow_right (show 0 < 2 by decide) (show 1 ≤ F.W - F.P by omega)
  simpa using this
 have hP := Nat.two_pow_pos (F.P - 1)
 have hby : oC F m neg < 2 ^ F.W := by
  unfold oC
  generalize 2 ^ (F.W - F.P) = a at *
  generalize 2 ^ (F.P - 1) = b at *
  obtain ⟨c, rfl⟩ : ∃ c, a = c + 2 := ⟨a - 2, by omega⟩
  have e1 : (c + 2) * b = c * b + 2 * b := by rw [Nat.add_mul]
  have e2 : (c + 2 - 1) * b = c * b + b := by rw [show c + 2 - 1 = c + 1 by omega, Nat.add_mul]; omega
  have e3 : (c + 2 - 2) * b = c * b := rfl
  rw [e2, e3]
  split <;> omega
 unfold oZ
 generalize vG num den E = t at *
 simp only []
 obtain ⟨q, hq⟩ : ∃ q, q = max (t - F.P + 1) (F.emin - F.P + 1) := ⟨_, rfl⟩
 rw [← hq]
 split
 ·exact hby
 ·rename_i hov
  simp only []
  generalize hn : jq m neg (plU num den E q) (plL num den E q) = n at *
  have hn1 := kY n
  have hnle : n ≤ 2 ^ F.P := by
   have h3 := uO m neg (plU num den E q) (plL num den E q)
   rw [hn] at h3
   have h4 : plU num den E q < 2 ^ F.P := by
    rcases Int.lt_or_le t q with h5 | h5
    ·rw [AB hts h5]; exact Nat.two_pow_pos _
    ·have h6 := wJ hts h5
     have h7 := kY (plU num den E q)
     rw [h6] at h7
     exact Nat.lt_of_lt_of_le h7 (Nat.pow_le_pow_right (by decide) (by omega))
   omega
  have hPP : 2 ^ F.P = 2 * 2 ^ (F.P - 1) := by
   have : F.P = (F.P - 1) + 1 := by omega
   rw [this, Nat.pow_succ, Nat.add_sub_cancel]
   omega
  obtain ⟨k, hk⟩ : ∃ k, k = (q - (F.emin - F.P + 1)).toNat := ⟨_, rfl⟩
  rw [← hk]
  have key : k * 2 ^ (F.P - 1) + n < 2 ^ (F.W - 1) := by
   rw [hW1]
   by_cases hs : fM n ≤ F.P
   ·have h8 : n < 2 ^ F.P := Nat.lt_of_lt_of_le hn1 (Nat.pow_le_pow_right (by decide) hs)
    by_cases hqe : q ≤ F.emax - F.P + 1
    ·have hkl : k + 2 ≤ 2 ^ (F.W - F.P) := by
      have : ((k : Int) + 2) ≤ ((2 ^ (F.W - F.P) : Nat) : Int) := by push_cast; omega
      omega
     have := Nat.mul_le_mul_right (2 ^ (F.P - 1)) hkl
     rw [Nat.add_mul] at this
     omega
    ·
     have hqt : q = t - F.P + 1 := by have := hF.ee; omega
     have h9 := wJ hts (q := q) (by omega)
     have h10 := JY (xU m neg (plU num den E q) (plL num den E q))
     rw [hn, h9] at h10
     omega
   ·have hqe : q + 1 ≤ F.emax - F.P + 1 := by omega
    have hkl : k + 3 ≤ 2 ^ (F.W - F.P) := by
     have : ((k : Int) + 3) ≤ ((2 ^ (F.W - F.P) : Nat) : Int) := by push_cast; omega
     omega
    have := Nat.mul_le_mul_right (2 ^ (F.P - 1)) hkl
    rw [Nat.add_mul] at this
    omega
  omega
end Go.Proofs.YtafikkmnkeddpaaGreatDoor
namespace Go.Proofs.YtafikkmnkeddpaaGreatDoor
def QL (F : Fm) (m : Int) (neg : Bool) (n : Nat) (x : Int) : Nat × Nat := oZ F m neg (n * 10 ^ x.toNat) (10 ^ (-x).toNat) 0
structure Fm.Small (F : Fm) : Prop where
 ok : F.Ok
 top : F.emax ≤ 1023
 top0 : 0 ≤ F.emax
 low : -1075 ≤ F.emin - F.P
 low0 : F.emin - F.P ≤ 0
theorem mg (k : Nat) : 0 < 10 ^ k := Nat.pow_pos (by decide)
end Go.Proofs.YtafikkmnkeddpaaGreatDoor
namespace Go.Proofs.YtafikkmnkeddpaaGreatDoor.P
open Go.RowKit Go.Proofs.YtafikkmnkeddpaaGreatDoorW.PrintWords Go.Proofs.YtafikkmnkeddpaaGreatDoorW.PrintLast Go.Proofs.YtafikkmnkeddpaaGreatDoorW.PrintMore
structure IsF (a : Int) (F : Fm) : Prop where
 row : bJ.f a = some ((F.W : Int), (F.P : Int), F.emin, F.emax, true)
 small : F.Small
 ones : 2 * F.emax + 2 = ((2 ^ (F.W - F.P) : Nat) : Int)
 emin1 : -2000 ≤ F.emin
def fmH : Fm := ⟨16, 11, -14, 15⟩
def fmB : Fm := ⟨16, 8, -126, 127⟩
def fmS : Fm := ⟨32, 24, -126, 127⟩
def fmD : Fm := ⟨64, 53, -1022, 1023⟩
theorem UN : IsF 0 fmH := ⟨rfl, ⟨⟨by decide, by decide, by decide, by decide, by decide⟩, by decide, by decide, by decide, by decide⟩, by decide, by decide⟩
theorem UO : IsF 1 fmB := ⟨rfl, ⟨⟨by decide, by decide, by decide, by decide, by decide⟩, by decide, by decide, by decide, by decide⟩, by decide, by decide⟩
theorem UQ : IsF 2 fmS := ⟨rfl, ⟨⟨by decide, by decide, by decide, by decide, by decide⟩, by decide, by decide, by decide, by decide⟩, by decide, by decide⟩
theorem UR : IsF 3 fmD := ⟨rfl, ⟨⟨by decide, by decide, by decide, by decide, by decide⟩, by decide, by decide, by decide, by decide⟩, by decide, by decide⟩
theorem xG {v n : Nat} : (toW (v * 2 ^ n)).length ≤ (toW v).length + n / 64 + 1 := by
 refine jG ?_
 have h1 := lW v
 have h2 : 2 ^ n ≤ WB ^ (n / 64 + 1) := by
  rw [show WB = 2 ^ 64 from rfl, ← Nat.pow_mul]
  exact Nat.pow_le_pow_right (by decide) (by omega)
 rw [Nat.add_assoc, Nat.pow_add]
 exact Nat.lt_of_lt_of_le (Nat.mul_lt_mul_of_pos_right h1 (Nat.two_pow_pos n)) (Nat.mul_le_mul_left _ h2)
theorem DY {a b : Nat} (h : a ≤ b) : (toW a).length ≤ (toW b).length := jo h
theorem Nc {r d : Nat} (h : r ≠ 0) : wrap64 (2 + mV (r * 2) d) = ((qm r d : Nat) : Int) := by
 unfold qm mV
 rw [if_neg h, Nat.mul_comm]
 split
 ·rw [w64 (by decide) (by decide)]; rfl
 ·split
  ·rw [w64 (by decide) (by decide)]; rfl
  ·rw [w64 (by decide) (by decide)]; rfl
theorem yX {A D : Nat} (hD : D ≠ 0) (hA : (toW A).length ≤ 900000) (hDl : (toW D).length ≤ 900000) : Ev (fun k => (cO.f k (wI A) (wI D)).bind fun bt => (if (bt.2.length : Int) = 0 then (some (bt.1, 0)) else ((dB.f k bt.2 1).bind fun t => ((aU.f k t (wI D)).bind fun t' => (some (bt.1, wrap64 (2 + t'))))))) (wI (A / D), ((lOf A D : Nat) : Int)) := by
 refine Ev.bind (Cm hD (by omega) (by omega)) ?_
 have hr : A % D < D := Nat.mod_lt _ (Nat.pos_of_ne_zero hD)
 have hrl := DY (Nat.le_of_lt hr)
 unfold lOf QR
 simp only []
 rw [kF]
 by_cases h0 : A % D = 0
 ·rw [h0, jB]
  refine Ev.pos rfl ?_
  unfold qm
  rw [if_pos rfl]
  exact Ev.now _
 ·have hp := kR h0
  refine Ev.neg (by omega) ?_
  have hup := E8 (a := A % D) 1 (by omega) (by omega)
  rw [Nat.pow_one] at hup
  have hs := xG (v := A % D) (n := 1)
  rw [Nat.pow_one] at hs
  refine Ev.bind hup (Ev.bind (tX (by unfold mX; omega) (by unfold mX; omega)) ?_)
  rw [Nc h0]
  exact Ev.now _
theorem xH (neg : Bool) {num den : Nat} (hd : den ≠ 0) (hn : (toW num).length ≤ 100000) (hdl : (toW den).length ≤ 100000) {E q : Int} (h1 : -10000000 ≤ E - q) (h2 : E - q ≤ 10000000) (hE : -100000000 ≤ E) (hE2 : E ≤ 100000000) :
  Ev (fun k => dD.f k neg (wI num) (wI den) E q) (wI (plU num den E q), ((plL num den E q : Nat) : Int)) := by
 unfold dD.f plU plL upN dnN
 by_cases h : E ≥ q
 ·refine Ev.pos h ?_
  have e0 : (q - E).toNat = 0 := by omega
  have e1 : wrap64 (E - q) = (((E - q).toNat : Nat) : Int) := by rw [w64 (by omega) (by omega)]; omega
  have hs := xG (v := num) (n := (E - q).toNat)
  have c1 : (toW num).length ≤ 10000000 := by omega
  have c2 : (E - q).toNat ≤ 1000000000 := by omega
  have c3 : (toW (num * 2 ^ (E - q).toNat)).length ≤ 900000 := by omega
  rw [e0, Nat.pow_zero, Nat.mul_one, e1]
  exact Ev.bind (E8 (a := num) (E - q).toNat c1 c2) (yX hd c3 (by omega))
 ·refine Ev.neg h ?_
  have e0 : (E - q).toNat = 0 := by omega
  have e1 : wrap64 (q - E) = (((q - E).toNat : Nat) : Int) := by rw [w64 (by omega) (by omega)]; omega
  have hs := xG (v := den) (n := (q - E).toNat)
  have c1 : (toW den).length ≤ 10000000 := by omega
  have c2 : (q - E).toNat ≤ 1000000000 := by omega
  have c3 : (toW (den * 2 ^ (q - E).toNat)).length ≤ 900000 := by omega
  have c4 : (toW num).length ≤ 900000 := by omega
  have hd2 : den * 2 ^ (q - E).toNat ≠ 0 := Nat.mul_ne_zero hd (by have := Nat.two_pow_pos (q - E).toNat; omega)
  rw [e0, Nat.pow_zero, Nat.mul_one, e1]
  exact Ev.bind (E8 (a := den) (q - E).toNat c1 c2) (yX hd2 c4 c3)
theorem rM (v : Nat) : fM v ≤ 64 * (toW v).length := mF (by have := lW v; rwa [show WB = 2 ^ 64 from rfl, ← Nat.pow_mul] at this)
theorem RQ (neg : Bool) {num den : Nat} (hd : den ≠ 0) (hn : (toW num).length ≤ 10000) (hdl : (toW den).length ≤ 10000) {E : Int} (hE : -10000000 ≤ E) (hE2 : E ≤ 10000000) :
  Ev (fun k => fQ.f k neg (wI num) (wI den) E) (vG num den E) := by
 unfold fQ.f vG
 have b1 := rM num
 have b2 := rM den
 have e1 : wrap64 ((wrap64 ((fM num : Int) - (fM den : Int))) + E) = (fM num : Int) - fM den + E := by rw [w64 (x := (fM num : Int) - (fM den : Int)) (by omega) (by omega), w64 (by omega) (by omega)]
 have e2 : wrap64 (((fM num : Int) - fM den + E) - 1) = (fM num : Int) - fM den + E - 1 := w64 (by omega) (by omega)
 have c1 : -10000000 ≤ E - ((fM num : Int) - fM den + E) := by omega
 have c2 : E - ((fM num : Int) - fM den + E) ≤ 10000000 := by omega
 refine Ev.bind (tV (by unfold mX; omega)) (Ev.bind (tV (by unfold mX; omega)) ?_)
 rw [e1, e2]
 refine Ev.bind (xH neg hd (by omega) (by omega) c1 c2 (by omega) (by omega)) ?_
 simp only []
 rw [kF]
 by_cases h0 : plU num den E ((fM num : Int) - fM den + E) = 0
 ·rw [if_pos h0, h0, jB]
  exact Ev.pos rfl (Ev.now _)
 ·have hp := kR h0
  rw [if_neg h0]
  exact Ev.neg (by omega) (Ev.now _)
theorem CB (m : Int) (neg : Bool) {u : Nat} (hu : (toW u).length ≤ 1000000) {l : Nat} (hl : l ≤ 3) : Ev (fun k => dU.f k m neg (wI u) (l : Int)) (wI (jq m neg u l)) := by
 have hadd := Hl (a := u) (b := 1) (by omega) (by rw [n_]; decide)
 rw [show wI 1 = [1] by unfold wI; rw [n_]; rfl] at hadd
 have hA : Ev (fun k => (ak.f k (wI u) (([1] : List Int))).bind fun t => (some t)) (wI (u + 1)) := Ev.bind hadd (Ev.now _)
 have hN : Ev (fun _ : Nat => some (wI u)) (wI u) := Ev.now _
 have hb := MW (a := u) 0 (by omega) (by omega)
 rw [Nat.pow_zero, Nat.div_one] at hb
 have hpar : u % 2 = 0 ∨ u % 2 = 1 := by omega
 have hls : l = 0 ∨ l = 1 ∨ l = 2 ∨ l = 3 := by omega
 unfold dU.f jq xR
 rw [show ((0 : Nat) : Int) = 0 from rfl] at hb
 rw [hb]
 simp only [Option.bind_some]
 by_cases m0 : m = 0
 ·subst m0
  rcases hpar with hp | hp <;> rw [hp] <;> rcases hls with h | h | h | h <;> subst h <;> simp <;> first | exact hadd | exact hN
 ·by_cases m1 : m = 1
  ·subst m1
   rcases hls with h | h | h | h <;> subst h <;> simp <;> first | exact hadd | exact hN
  ·by_cases m3 : m = 3
   ·subst m3
    cases neg <;> rcases hls with h | h | h | h <;> subst h <;> simp <;> first | exact hadd | exact hN
   ·by_cases m4 : m = 4
    ·subst m4
     cases neg <;> rcases hls with h | h | h | h <;> subst h <;> simp <;> first | exact hadd | exact hN
    ·by_cases m5 : m = 5
     ·subst m5
      rcases hpar with hp | hp <;> rw [hp] <;> rcases hls with h | h | h | h <;> subst h <;> simp <;> first | exact hadd | exact hN
     ·simp [m0, m1, m3, m4, m5]
      exact hN
theorem rO {x s : Nat} (hs : s ≤ 64) (h : x * 2 ^ s < 18446744073709551616) : shl .u64 (x : Int) (s : Int) = ((x * 2 ^ s : Nat) : Int) := by
 rw [wF _ _ hs]
 have := RJ (a := x) (b := 2 ^ s) h
 rwa [Int.natCast_pow] at this
theorem yY {a : Int} {F : Fm} (hF : IsF a F) {s e f : Nat} (hs : s ≤ 1) (he : e < 2 ^ (F.W - F.P)) (hf : f < 2 ^ (F.P - 1)) : bY.f a (s : Int) (e : Int) (f : Int) = some ((s * 2 ^ (F.W - 1) + e * 2 ^ (F.P - 1) + f : Nat) : Int) := by
 have hp2 := hF.small.ok.p2
 have hpw := hF.small.ok.pw
 have hw := hF.small.ok.w64
 have hW1 : 2 ^ (F.W - 1) = 2 ^ (F.W - F.P) * 2 ^ (F.P - 1) := by rw [← Nat.pow_add]; congr 1; omega
 have hef : e * 2 ^ (F.P - 1) + 2 ^ (F.P - 1) ≤ 2 ^ (F.W - 1) := by
  have := Nat.mul_le_mul_right (2 ^ (F.P - 1)) he
  rw [Nat.succ_mul] at this
  rwa [hW1]
 have h64 : 2 * 2 ^ (F.W - 1) ≤ 18446744073709551616 := by
  rw [← Nat.pow_succ']
  have : 2 ^ (F.W - 1 + 1) ≤ 2 ^ 64 := Nat.pow_le_pow_right (by decide) (by omega)
  exact this
 have hsW : s * 2 ^ (F.W - 1) ≤ 2 ^ (F.W - 1) := by
  have := Nat.mul_le_mul_right (2 ^ (F.W - 1)) hs
  rwa [Nat.one_mul] at this
 have hpp := Nat.two_pow_pos (F.P - 1)
 have e1 : IntKind.u64.wrap (wrap64 ((F.W : Int) - 1)) = ((F.W - 1 : Nat) : Int) := by rw [w64 (by omega) (by omega), wu64 (by omega) (by omega)]; omega
 have e2 : IntKind.u64.wrap (wrap64 ((F.P : Int) - 1)) = ((F.P - 1 : Nat) : Int) := by rw [w64 (by omega) (by omega), wu64 (by omega) (by omega)]; omega
 have k1 : s * 2 ^ (F.W - 1) < 18446744073709551616 := by clear e1 e2; omega
 have k2 : e * 2 ^ (F.P - 1) < 18446744073709551616 := by clear e1 e2; omega
 have k3 : f < 18446744073709551616 := by clear e1 e2; omega
 have k4 : s * 2 ^ (F.W - 1) + e * 2 ^ (F.P - 1) < 18446744073709551616 := by clear e1 e2; omega
 have k5 : e * 2 ^ (F.P - 1) < 2 ^ (F.W - 1) := by clear e1 e2; omega
 have k6 : F.W - 1 ≤ 64 := by clear e1 e2; omega
 have k7 : F.P - 1 ≤ 64 := by clear e1 e2; omega
 have o1 : s * 2 ^ (F.W - 1) ||| e * 2 ^ (F.P - 1) = s * 2 ^ (F.W - 1) + e * 2 ^ (F.P - 1) := by
  rw [Nat.mul_comm s, ← Nat.two_pow_add_eq_or_of_lt k5]
 have o2 : (s * 2 ^ (F.W - 1) + e * 2 ^ (F.P - 1)) ||| f = s * 2 ^ (F.W - 1) + e * 2 ^ (F.P - 1) + f := by
  have : s * 2 ^ (F.W - 1) + e * 2 ^ (F.P - 1) = 2 ^ (F.P - 1) * (s * 2 ^ (F.W - F.P) + e) := by
   rw [hW1, Nat.mul_add, Nat.mul_comm (2 ^ (F.P - 1)) e, ← Nat.mul_assoc, Nat.mul_comm (2 ^ (F.P - 1))]
  rw [this, ← Nat.two_pow_add_eq_or_of_lt hf]
 unfold bY.f
 rw [hF.row]
 simp only [Option.bind_some]
 rw [e1, e2, if_pos (Int.natCast_nonneg _), if_pos (Int.natCast_nonneg _), rO k6 k1, rO k7 k2, u64_or_nat _ _ k1 k2, o1, u64_or_nat _ _ k4 k3, o2]
def sg (neg : Bool) : Nat := if neg then 1 else 0
theorem wG (neg : Bool) : dP.f neg = some ((sg neg : Nat) : Int) := by cases neg <;> rfl
theorem Ja (neg : Bool) : sg neg ≤ 1 := by cases neg <;> decide
theorem DZ (neg : Bool) (x : Nat) : sg neg * x = if neg = true then x else 0 := by cases neg <;> simp [sg]
theorem RS {a : Int} {F : Fm} (hF : IsF a F) (neg : Bool) : fK.f a ((sg neg : Nat) : Int) = some (((2 ^ (F.W - F.P) - 1) * 2 ^ (F.P - 1) + (if neg = true then 2 ^ (F.W - 1) else 0) : Nat) : Int) := by
 have ho := hF.ones
 have htop := hF.small.top
 have htop0 := hF.small.top0
 have hpos := Nat.two_pow_pos (F.W - F.P)
 have e1 : IntKind.u64.wrap (wrap64 ((wrap64 (2 * F.emax)) + 1)) = ((2 ^ (F.W - F.P) - 1 : Nat) : Int) := by
  rw [w64 (x := 2 * F.emax) (by omega) (by omega), w64 (by omega) (by omega), wu64 (by omega) (by omega)]; omega
 have hm := yY hF (s := sg neg) (e := 2 ^ (F.W - F.P) - 1) (f := 0) (Ja neg) (Nat.sub_lt hpos (by decide)) (Nat.two_pow_pos _)
 unfold fK.f
 rw [hF.row]
 simp only [Option.bind_some]
 rw [e1]
 rw [show ((0 : Nat) : Int) = 0 from rfl] at hm
 rw [hm, DZ]
 simp only [Option.bind_some]
 congr 2
 rw [Nat.add_zero, Nat.add_comm]
theorem PO {a : Int} {F : Fm} (hF : IsF a F) (neg : Bool) : fE.f a ((sg neg : Nat) : Int) = some (((if neg = true then 2 ^ (F.W - 1) else 0) : Nat) : Int) := by
 have hm := yY hF (s := sg neg) (e := 0) (f := 0) (Ja neg) (Nat.two_pow_pos _) (Nat.two_pow_pos _)
 unfold fE.f
 rw [show ((0 : Nat) : Int) = 0 from rfl] at hm
 rw [hm, DZ, Nat.zero_mul]
 rfl
theorem Fe {a : Int} {F : Fm} (hF : IsF a F) (neg : Bool) : dZ.f a ((sg neg : Nat) : Int) = some (((2 ^ (F.W - F.P) - 2) * 2 ^ (F.P - 1) + (2 ^ (F.P - 1) - 1) + (if neg = true then 2 ^ (F.W - 1) else 0) : Nat) : Int) := by
 have ho := hF.ones
 have htop := hF.small.top
 have htop0 := hF.small.top0
 have hp2 := hF.small.ok.p2
 have hpw := hF.small.ok.pw
 have hw := hF.small.ok.w64
 have hpos := Nat.two_pow_pos (F.W - F.P)
 have hpos1 := Nat.two_pow_pos (F.P - 1)
 have e1 : IntKind.u64.wrap (wrap64 (2 * F.emax)) = ((2 ^ (F.W - F.P) - 2 : Nat) : Int) := by
  rw [w64 (x := 2 * F.emax) (by omega) (by omega), wu64 (by omega) (by omega)]; omega
 have e2 : IntKind.u64.wrap (wrap64 ((F.P : Int) - 1)) = ((F.P - 1 : Nat) : Int) := by rw [w64 (by omega) (by omega), wu64 (by omega) (by omega)]; omega
 have k1 : F.P - 1 ≤ 64 := by clear e1 e2; omega
 have k2 : 1 * 2 ^ (F.P - 1) < 18446744073709551616 := by
  rw [Nat.one_mul]
  exact Nat.lt_of_lt_of_le (Nat.pow_lt_pow_right (by decide) (show F.P - 1 < 64 by clear e1 e2; omega)) (by decide)
 have hs := rO (x := 1) k1 k2
 rw [show ((1 : Nat) : Int) = 1 from rfl, Nat.one_mul] at hs
 rw [Nat.one_mul] at k2
 have e3 : IntKind.u64.wrap (((2 ^ (F.P - 1) : Nat) : Int) - 1) = ((2 ^ (F.P - 1) - 1 : Nat) : Int) := by
  clear e1 e2 hs
  generalize 2 ^ (F.P - 1) = x at *
  rw [wu64 (by omega) (by omega)]; omega
 have hm := yY hF (s := sg neg) (e := 2 ^ (F.W - F.P) - 2) (f := 2 ^ (F.P - 1) - 1) (Ja neg) (Nat.sub_lt hpos (by decide)) (Nat.sub_lt hpos1 (by decide))
 unfold dZ.f
 rw [hF.row]
 simp only [Option.bind_some]
 rw [e1, e2, if_pos (Int.natCast_nonneg _), hs, e3, hm, DZ]
 simp only [Option.bind_some]
 congr 2
 rw [Nat.add_assoc, Nat.add_comm]
theorem JW {a : Int} {F : Fm} (hF : IsF a F) (m : Int) (neg : Bool) : Ev (fun k => aK.f k a m neg) ((oC F m neg : Nat) : Int) := by
 have hI : ∀ neg : Bool, Ev (fun k => aK.j0 k a neg true) (((2 ^ (F.W - F.P) - 1) * 2 ^ (F.P - 1) + (if neg = true then 2 ^ (F.W - 1) else 0) : Nat) : Int) := fun neg => Ev.one fun k => by
  rw [aK.j0, if_pos rfl, wG]
  simp only [Option.bind_some]
  rw [RS hF]
  rfl
 have hG : ∀ neg : Bool, Ev (fun k => aK.j0 k a neg false) (((2 ^ (F.W - F.P) - 2) * 2 ^ (F.P - 1) + (2 ^ (F.P - 1) - 1) + (if neg = true then 2 ^ (F.W - 1) else 0) : Nat) : Int) := fun neg => Ev.one fun k => by
  rw [aK.j0, if_neg (by decide), wG]
  simp only [Option.bind_some]
  rw [Fe hF]
  rfl
 unfold aK.f oC
 by_cases m0 : m = 0
 ·subst m0; simpa using hI neg
 ·by_cases m1 : m = 1
  ·subst m1; simpa using hI neg
  ·by_cases m3 : m = 3
   ·subst m3
    cases neg
    ·simpa using hI false
    ·simpa using hG true
   ·by_cases m4 : m = 4
    ·subst m4
     cases neg
     ·simpa using hG false
     ·simpa using hI true
    ·simp only [m0, m1, m3, m4, if_false, false_or, false_and]
     exact hG neg
def Hq (F : Fm) (m : Int) (neg : Bool) (num den : Nat) (E t q : Int) : Nat × Nat :=
 if F.emax + 1 < (fM (jq m neg (plU num den E q) (plL num den E q)) : Int) + q then (oC F m neg, 20)
 else ((q - (F.emin - F.P + 1)).toNat * 2 ^ (F.P - 1) + jq m neg (plU num den E q) (plL num den E q) + (if neg then 2 ^ (F.W - 1) else 0),
  if plL num den E q = 0 then 0 else if (fM (jq m neg (plU num den E (t - F.P + 1)) (plL num den E (t - F.P + 1))) : Int) + (t - F.P + 1) ≤ F.emin then 24 else 16)
theorem PS (F : Fm) (m : Int) (neg : Bool) (num den : Nat) (E : Int) : oZ F m neg num den E = Hq F m neg num den E (vG num den E) (max (vG num den E - F.P + 1) (F.emin - F.P + 1)) := rfl
theorem Nh {a : Int} {F : Fm} (hF : IsF a F) (neg : Bool) (L1 L2 : List Int) (E : Int) {least q : Int} (h0 : least ≤ q) (h1 : q - least ≤ 100000000) (h2 : -1000000 ≤ least) (h3 : least ≤ 1000000) (n : Nat) (fl : Int) (hlt : (q - least).toNat * 2 ^ (F.P - 1) + n + (if neg = true then 2 ^ (F.W - 1) else 0) < 2 ^ F.W) :
  Ev (fun k => aI.j1 k a least q (wI n) fl neg L1 L2 E (F.W : Int) (F.P : Int) F.emin F.emax) ((((q - least).toNat * 2 ^ (F.P - 1) + n + (if neg = true then 2 ^ (F.W - 1) else 0) : Nat) : Int), fl) := by
 have hp2 := hF.small.ok.p2
 have hpw := hF.small.ok.pw
 have hw := hF.small.ok.w64
 have h64 : 2 ^ F.W ≤ 18446744073709551616 := by
  have : 2 ^ F.W ≤ 2 ^ 64 := Nat.pow_le_pow_right (by decide) hw
  exact this
 have hWW : 2 ^ F.W = 2 ^ (F.W - 1) + 2 ^ (F.W - 1) := by
  obtain ⟨w, hw'⟩ : ∃ w, F.W = w + 1 := ⟨F.W - 1, by omega⟩
  rw [hw', Nat.pow_succ, Nat.add_sub_cancel]; omega
 have hpp := Nat.two_pow_pos (F.P - 1)
 obtain ⟨k, hk⟩ : ∃ k : Nat, k = (q - least).toNat := ⟨_, rfl⟩
 rw [← hk] at hlt ⊢
 have g0 : wrap64 (q - least) = (k : Int) := by rw [w64 (by omega) (by omega)]; omega
 have gP : IntKind.u64.wrap (wrap64 ((F.P : Int) - 1)) = ((F.P - 1 : Nat) : Int) := by rw [w64 (by omega) (by omega), wu64 (by omega) (by omega)]; omega
 have k1 : F.P - 1 ≤ 64 := by clear g0 gP; omega
 have k2 : k * 2 ^ (F.P - 1) < 18446744073709551616 := by clear g0 gP; omega
 have k3 : k * 2 ^ (F.P - 1) + n < 18446744073709551616 := by clear g0 gP; omega
 have k4 : n < 18446744073709551616 := by clear g0 gP; omega
 have k5 : k < 18446744073709551616 := by clear g0 gP; omega
 have k6 : neg = true → k * 2 ^ (F.P - 1) + n < 2 ^ (F.W - 1) := fun h => by rw [if_pos h] at hlt; clear g0 gP; omega
 have k7 : 2 ^ (F.W - 1) < 18446744073709551616 := by clear g0 gP; have := Nat.two_pow_pos (F.W - 1); omega
 have hM := yY hF (s := sg neg) (e := 0) (f := 0) (Ja neg) (Nat.two_pow_pos _) (Nat.two_pow_pos _)
 rw [show ((0 : Nat) : Int) = 0 from rfl, Nat.zero_mul, Nat.add_zero, DZ] at hM
 have hor : Go.bits .or .u64 (((if neg = true then 2 ^ (F.W - 1) else 0 : Nat)) : Int) ((k * 2 ^ (F.P - 1) + n : Nat) : Int) = ((k * 2 ^ (F.P - 1) + n + (if neg = true then 2 ^ (F.W - 1) else 0) : Nat) : Int) := by
  cases neg
  ·have := u64_or_nat 0 (k * 2 ^ (F.P - 1) + n) (by decide) k3
   rw [Nat.zero_or] at this
   simpa using this
  ·have h6 := k6 rfl
   have := u64_or_nat (2 ^ (F.W - 1)) (k * 2 ^ (F.P - 1) + n) k7 k3
   have h7 := Nat.two_pow_add_eq_or_of_lt h6 1
   rw [Nat.mul_one] at h7
   rw [← h7] at this
   rw [if_pos rfl, this, Nat.add_comm]
 have hsh := rO k1 k2
 have hwk := tq k5
 have hadd := RN k3
 refine Ev.one fun f => ?_
 by_cases hn : n = 0
 ·subst hn
  rw [aI.j1, kF, jB, if_neg (by decide), wG]
  simp only [Option.bind_some]
  rw [hM]
  simp only [Option.bind_some]
  rw [gP, if_pos (Int.natCast_nonneg _), g0, hwk, hsh]
  rw [show (0 : Int) = ((0 : Nat) : Int) from rfl, hadd, hor]
 ·have hw1 := uN hn k4
  have hrd : rd (wI n) 0 = (n : Int) := by rw [hw1]; rfl
  have hlen : (wI n).length = 1 := by rw [hw1]; rfl
  rw [aI.j1, hlen, if_pos (by decide), if_pos (by decide), wG]
  simp only [Option.bind_some]
  rw [hM]
  simp only [Option.bind_some]
  rw [gP, if_pos (Int.natCast_nonneg _), g0, hwk, hsh, hrd, hadd, hor]
theorem Nj {a : Int} {F : Fm} (hF : IsF a F) (m : Int) (neg : Bool) {num den : Nat} (hn : num ≠ 0) (hd : den ≠ 0) (hnl : (toW num).length ≤ 1000) (hdl : (toW den).length ≤ 1000) {E : Int} (hE : -1000000 ≤ E) (hE2 : E ≤ 1000000) {t q : Int} (ht : plU num den E t = 1)
  (htb : -200000 ≤ t - E ∧ t - E ≤ 200000) (hq : q = max (t - F.P + 1) (F.emin - F.P + 1)) (hlt : F.emax + 1 < (fM (jq m neg (plU num den E q) (plL num den E q)) : Int) + q ∨ (q - (F.emin - F.P + 1)).toNat * 2 ^ (F.P - 1) + jq m neg (plU num den E q) (plL num den E q) + (if neg = true then 2 ^ (F.W - 1) else 0) < 2 ^ F.W) :
  Ev (fun k => aI.j0 k a m t (F.emin - F.P + 1) q neg (wI num) (wI den) E (F.W : Int) (F.P : Int) F.emin F.emax) (((Hq F m neg num den E t q).1 : Int), ((Hq F m neg num den E t q).2 : Int)) := by
 have hp2 := hF.small.ok.p2
 have hpw := hF.small.ok.pw
 have hw := hF.small.ok.w64
 have htop := hF.small.top
 have htop0 := hF.small.top0
 have hemin := hF.emin1
 have hee := hF.small.ok.ee
 have short : ∀ q' : Int, t - F.P + 1 ≤ q' → plL num den E q' ≤ 3 ∧ fM (plU num den E q') ≤ F.P ∧ fM (jq m neg (plU num den E q') (plL num den E q')) ≤ F.P + 1 := fun q' h => by
  have hb : fM (plU num den E q') ≤ F.P := by
   rcases Int.lt_or_le t q' with h5 | h5
   ·rw [AB ht h5, uG]; omega
   ·rw [wJ ht h5]; omega
  refine ⟨Fp _ _, hb, mF ?_⟩
  have h3 := uO m neg (plU num den E q') (plL num den E q')
  have h4 := Nat.lt_of_lt_of_le (kY (plU num den E q')) (Nat.pow_le_pow_right (show 0 < 2 by decide) hb)
  rw [Nat.pow_succ]
  have := Nat.two_pow_pos F.P
  omega
 have JX : ∀ v : Nat, fM v ≤ 66 → (toW v).length ≤ 2 := fun v h => jG (by
  have h1 := Nat.lt_of_lt_of_le (kY v) (Nat.pow_le_pow_right (show 0 < 2 by decide) h)
  exact Nat.lt_of_lt_of_le h1 (by decide))
 have s1 := short q (by omega)
 have s2 := short (t - F.P + 1) (Int.le_refl _)
 have f1 := JX _ (Nat.le_trans s1.2.1 (by omega))
 have f2 := JX _ (Nat.le_trans s1.2.2 (by omega))
 have f3 := JX _ (Nat.le_trans s2.2.1 (by omega))
 have f4 := JX _ (Nat.le_trans s2.2.2 (by omega))
 have p1 := xH neg hd (q := q) (E := E) (Nat.le_trans hnl (by decide)) (Nat.le_trans hdl (by decide)) (by omega) (by omega) (by omega) (by omega)
 have p2 := xH neg hd (q := t - F.P + 1) (E := E) (Nat.le_trans hnl (by decide)) (Nat.le_trans hdl (by decide)) (by omega) (by omega) (by omega) (by omega)
 have ch1 := CB m neg (u := plU num den E q) (Nat.le_trans f1 (by decide)) s1.1
 have ch2 := CB m neg (u := plU num den E (t - F.P + 1)) (Nat.le_trans f3 (by decide)) s2.1
 have l1 := tV (v := jq m neg (plU num den E q) (plL num den E q)) (Nat.le_trans f2 (by decide))
 have l2 := tV (v := jq m neg (plU num den E (t - F.P + 1)) (plL num den E (t - F.P + 1))) (Nat.le_trans f4 (by decide))
 have j1 := fun fl hlt => Nh hF neg (wI num) (wI den) E (least := F.emin - F.P + 1) (q := q) (by omega) (by omega) (by omega) (by omega) (jq m neg (plU num den E q) (plL num den E q)) fl hlt
 have bb := JW hF m neg
 clear JX short f1 f2 f3 f4
 unfold Hq
 generalize hn1 : jq m neg (plU num den E q) (plL num den E q) = n1 at *
 generalize hn2 : jq m neg (plU num den E (t - F.P + 1)) (plL num den E (t - F.P + 1)) = n2 at *
 have c1 : (F.emax + 1 < (fM n1 : Int) + q) ↔ wrap64 ((fM n1 : Int) + q) > wrap64 (F.emax + 1) := by rw [w64 (x := (fM n1 : Int) + q) (by omega) (by omega), w64 (x := F.emax + 1) (by omega) (by omega)]
 have c2 : ((fM n2 : Int) + (t - F.P + 1) ≤ F.emin) ↔ wrap64 ((wrap64 ((wrap64 ((fM n2 : Int) + t)) - (F.P : Int))) + 1) ≤ F.emin := by
  rw [w64 (x := (fM n2 : Int) + t) (by omega) (by omega), w64 (x := (fM n2 : Int) + t - (F.P : Int)) (by omega) (by omega), w64 (x := (fM n2 : Int) + t - (F.P : Int) + 1) (by omega) (by omega)]; omega
 have e1 : wrap64 ((wrap64 (t - (F.P : Int))) + 1) = t - F.P + 1 := by rw [w64 (x := t - (F.P : Int)) (by omega) (by omega), w64 (by omega) (by omega)]
 refine Ev.step (f := fun k => (dD.f k neg (wI num) (wI den) E q).bind fun bt611 => ((dU.f k m neg bt611.1 bt611.2).bind fun t615 => ((aN.f k t615).bind fun t618 => (if (wrap64 (t618 + q)) > (wrap64 (F.emax + 1)) then ((aK.f k a m neg).bind fun t619 => (some (t619, 20))) else (if bt611.2 > 0 then ((dD.f k neg (wI num) (wI den) E (wrap64 ((wrap64 (t - (F.P : Int))) + 1))).bind fun bt620 => ((dU.f k m neg bt620.1 bt620.2).bind fun t624 => ((aN.f k t624).bind fun t627 => (if (wrap64 ((wrap64 ((wrap64 (t627 + t)) - (F.P : Int))) + 1)) ≤ F.emin then (aI.j1 k a (F.emin - F.P + 1) q t615 24 neg (wI num) (wI den) E (F.W : Int) (F.P : Int) F.emin F.emax) else (aI.j1 k a (F.emin - F.P + 1) q t615 16 neg (wI num) (wI den) E (F.W : Int) (F.P : Int) F.emin F.emax))))) else (aI.j1 k a (F.emin - F.P + 1) q t615 0 neg (wI num) (wI den) E (F.W : Int) (F.P : Int) F.emin F.emax)))))) (fun k => by rw [aI.j0]) ?_
 refine Ev.bind p1 (Ev.bind ch1 (Ev.bind l1 ?_))
 by_cases hov : F.emax + 1 < (fM n1 : Int) + q
 ·rw [if_pos hov]
  exact Ev.pos (c1.1 hov) (Ev.bind bb (Ev.now _))
 ·have hlt' := hlt.resolve_left hov
  rw [if_neg hov]
  refine Ev.neg (fun h => hov (c1.2 h)) ?_
  by_cases hl : plL num den E q = 0
  ·rw [if_pos hl]
   refine Ev.neg (by simp only []; rw [hl]; decide) ?_
   exact j1 0 hlt'
  ·rw [if_neg hl]
   refine Ev.pos (show ((plL num den E q : Nat) : Int) > 0 from Int.natCast_pos.2 (Nat.pos_of_ne_zero hl)) ?_
   rw [e1]
   refine Ev.bind p2 (Ev.bind ch2 (Ev.bind l2 ?_))
   by_cases hu : (fM n2 : Int) + (t - F.P + 1) ≤ F.emin
   ·rw [if_pos hu]
    exact Ev.pos (c2.1 hu) (j1 24 hlt')
   ·rw [if_neg hu]
    exact Ev.neg (fun h => hu (c2.2 h)) (j1 16 hlt')
theorem Nk {a : Int} {F : Fm} (hF : IsF a F) (m : Int) (neg : Bool) {num den : Nat} (hn : num ≠ 0) (hd : den ≠ 0) (hnl : (toW num).length ≤ 1000) (hdl : (toW den).length ≤ 1000) {E : Int} (hE : -1000000 ≤ E) (hE2 : E ≤ 1000000) :
  Ev (fun k => aI.f k a m neg (wI num) (wI den) E) (((oZ F m neg num den E).1 : Int), ((oZ F m neg num den E).2 : Int)) := by
 have hp2 := hF.small.ok.p2
 have hpw := hF.small.ok.pw
 have hw := hF.small.ok.w64
 have htop := hF.small.top
 have htop0 := hF.small.top0
 have hemin := hF.emin1
 have hee := hF.small.ok.ee
 have b1 := rM num
 have b2 := rM den
 have hts := xQ hn (Nat.pos_of_ne_zero hd) E
 have htb : -200000 ≤ vG num den E - E ∧ vG num den E - E ≤ 200000 := by unfold vG; split <;> omega
 have hlt := RV hF.small.ok m neg (E := E) hn (Nat.pos_of_ne_zero hd)
 have hlp := kR hn
 have htr := oL (iT num) (by omega)
 rw [dV, ← EJ] at htr
 have c1 : ¬ (((wI num).length : Int) = 0) := by rw [kF]; omega
 unfold aI.f
 rw [htr]
 simp only [Option.bind_some]
 refine Ev.neg c1 ?_
 rw [hF.row]
 simp only [Option.bind_some]
 refine Ev.bind (RQ neg hd (by omega) (by omega) (by omega) (by omega)) ?_
 rw [PS] at hlt ⊢
 generalize vG num den E = t at *
 have e1 : wrap64 ((wrap64 (t - (F.P : Int))) + 1) = t - F.P + 1 := by rw [w64 (x := t - (F.P : Int)) (by omega) (by omega), w64 (by omega) (by omega)]
 have e2 : wrap64 ((wrap64 (F.emin - (F.P : Int))) + 1) = F.emin - F.P + 1 := by rw [w64 (x := F.emin - (F.P : Int)) (by omega) (by omega), w64 (by omega) (by omega)]
 have fin : ∀ q : Int, q = max (t - F.P + 1) (F.emin - F.P + 1) → Ev (fun k => aI.j0 k a m t (F.emin - F.P + 1) q neg (wI num) (wI den) E (F.W : Int) (F.P : Int) F.emin F.emax) (((Hq F m neg num den E t q).1 : Int), ((Hq F m neg num den E t q).2 : Int)) := fun q hq => by
  rw [← hq] at hlt
  refine Nj hF m neg hn hd hnl hdl hE hE2 hts htb hq ?_
  unfold Hq at hlt
  by_cases hov : F.emax + 1 < (fM (jq m neg (plU num den E q) (plL num den E q)) : Int) + q
  ·exact .inl hov
  ·rw [if_neg hov] at hlt; exact .inr hlt
 rw [e1, e2]
 by_cases hc : t - F.P + 1 < F.emin - F.P + 1
 ·refine Ev.pos hc ?_
  have := fin (F.emin - F.P + 1) (by clear e1 e2; omega)
  rw [show max (t - (F.P : Int) + 1) (F.emin - F.P + 1) = F.emin - F.P + 1 by clear e1 e2; omega]
  exact this
 ·refine Ev.neg hc ?_
  have := fin (t - F.P + 1) (by clear e1 e2; omega)
  rw [show max (t - (F.P : Int) + 1) (F.emin - F.P + 1) = t - F.P + 1 by clear e1 e2; omega]
  exact this
end Go.Proofs.YtafikkmnkeddpaaGreatDoor.P
namespace Go.Proofs.YtafikkmnkeddpaaGreatDoor.P
open Go.RowKit Go.Proofs.YtafikkmnkeddpaaGreatDoorW.PrintWords Go.Proofs.YtafikkmnkeddpaaGreatDoorW.PrintLast Go.Proofs.YtafikkmnkeddpaaGreatDoorW.PrintMore
abbrev bl (s : ByteArray) : List UInt8 := s.data.toList
theorem xI (s : ByteArray) : (bl s).length = s.size := Array.length_toList
theorem qc (s : ByteArray) : s.toList = bl s := ByteArray.toList_eq s
theorem vF (s : ByteArray) (i : Nat) : bl (s.extract i s.size) = (bl s).drop i := by
 have : bl (s.extract i s.size) = ((bl s).drop i).take (s.size - i) := by simp [bl]
 rw [this, List.take_of_length_le (by rw [List.length_drop, xI]; exact Nat.le_refl _)]
theorem nK (s : ByteArray) (i : Nat) : (s.extract i s.size).size = s.size - i := by rw [← xI, vF, List.length_drop, xI]
theorem D5 (s : ByteArray) (i : Nat) : byt s i = ((bl s).getD i 0).toNat := rfl
theorem QG (c : UInt8) (n : Nat) (h : n < 256) : ((c.toNat : Int) = (n : Int)) = (c = UInt8.ofNat n) := by
 apply propext
 constructor
 ·intro e
  apply UInt8.toNat_inj.1
  rw [Int.ofNat_inj.1 e, UInt8.toNat_ofNat', Nat.mod_eq_of_lt h]
 ·rintro rfl
  rw [UInt8.toNat_ofNat', Nat.mod_eq_of_lt h]
theorem Nl (x : Int) (n : Int) (p : Prop) [Decidable p] (h : (x = n) = p) : (x == n) = decide p := by
 rw [Bool.eq_iff_iff, beq_iff_eq, decide_eq_true_eq, h]
end Go.Proofs.YtafikkmnkeddpaaGreatDoor.P
namespace Go.Proofs.YtafikkmnkeddpaaGreatDoor.P
open Go.RowKit Go.Proofs.YtafikkmnkeddpaaGreatDoorW.PrintWords Go.Proofs.YtafikkmnkeddpaaGreatDoorW.PrintLast Go.Proofs.YtafikkmnkeddpaaGreatDoorW.PrintMore
def l9 (a : Int) : Option Fm := if a = 0 then some fmH else if a = 1 then some fmB else if a = 2 then some fmS else if a = 3 then some fmD else none
theorem wH {a : Int} {F : Fm} (h : l9 a = some F) : IsF a F := by
 unfold l9 at h
 split at h
 ·rename_i h0; subst h0; cases h; exact UN
 ·split at h
  ·rename_i h0; subst h0; cases h; exact UO
  ·split at h
   ·rename_i h0; subst h0; cases h; exact UQ
   ·split at h
    ·rename_i h0; subst h0; cases h; exact UR
    ·cases h
theorem xJ {a : Int} (h : l9 a = none) : a ≠ 0 ∧ a ≠ 1 ∧ a ≠ 2 ∧ a ≠ 3 := by
 unfold l9 at h
 split at h
 ·cases h
 ·split at h
  ·cases h
  ·split at h
   ·cases h
   ·split at h
    ·cases h
    ·exact ⟨by assumption, by assumption, by assumption, by assumption⟩
theorem CG {v k : Nat} (h : v < 10 ^ k) : (toW v).length ≤ k / 19 + 1 := jG (Nat.lt_of_lt_of_le h (Ak k))
theorem xK (k : Nat) : (toW (10 ^ k)).length ≤ (k + 1) / 19 + 1 := CG (by rw [Nat.pow_succ]; have := mg k; omega)
end Go.Proofs.YtafikkmnkeddpaaGreatDoor.P
namespace Go.Proofs.YtafikkmnkeddpaaGreatDoor.P
open Go.RowKit Go.Proofs.YtafikkmnkeddpaaGreatDoorW.PrintWords Go.Proofs.YtafikkmnkeddpaaGreatDoorW.PrintLast Go.Proofs.YtafikkmnkeddpaaGreatDoorW.PrintMore
theorem rP {P : Int → Fm → Prop} (h0 : P 0 fmH) (h1 : P 1 fmB) (h2 : P 2 fmS) (h3 : P 3 fmD) {a : Int} {F : Fm} (h : l9 a = some F) : P a F := by
 unfold l9 at h
 split at h
 ·rename_i e; subst e; cases h; exact h0
 ·split at h
  ·rename_i e; subst e; cases h; exact h1
  ·split at h
   ·rename_i e; subst e; cases h; exact h2
   ·split at h
    ·rename_i e; subst e; cases h; exact h3
    ·cases h
theorem Jb {a : Int} {F : Fm} (h : l9 a = some F) : dn.f a = some ((F.W : Int), (F.P : Int), F.emin, F.emax, 0) := by
 refine rP (P := fun a F => dn.f a = some ((F.W : Int), (F.P : Int), F.emin, F.emax, 0)) ?_ ?_ ?_ ?_ h <;> rfl
theorem yC {a : Int} (h : l9 a = none) : dn.f a = some (0, 0, 0, 0, 2) := by
 obtain ⟨h0, h1, h2, h3⟩ := xJ h
 unfold dn.f l7
 rw [if_neg h0, if_neg h1, if_neg h2, if_neg h3]
theorem RU {v : Nat} (h : v ≠ 0) : rd (wI v) 0 = ((v % WB : Nat) : Int) := by
 have := jV (toW v) 0
 rw [show ((0 : Nat) : Int) = 0 from rfl] at this
 rw [EJ, this, mQ h]
 rfl
theorem TY : wI 1 = [1] := by unfold wI; rw [n_]; rfl
end Go.Proofs.YtafikkmnkeddpaaGreatDoor.P
namespace Go.Proofs.YtafikkmnkeddpaaGreatDoor.P
def gN (n : Nat) (e t : Int) : Prop := tmD e t ≤ tmN n e t
theorem Oj {n : Nat} {e t : Int} (h : gN n e t) : gN n e (t + 1) := by
 unfold gN tmD tmN at *
 by_cases h0 : 0 ≤ t
 ·rw [show (-(t + 1)).toNat = 0 by omega, show (t + 1).toNat = t.toNat + 1 by omega]
  rw [show (-t).toNat = 0 by omega] at h
  refine Nat.le_trans h ?_
  rw [Nat.pow_succ, ← Nat.mul_assoc]
  exact Nat.mul_le_mul_right _ (Nat.le_mul_of_pos_right _ (by decide))
 ·rw [show (t + 1).toNat = t.toNat by omega]
  rw [show (-t).toNat = (-(t + 1)).toNat + 1 by omega, Nat.pow_succ] at h
  refine Nat.le_trans (Nat.mul_le_mul_right _ ?_) h
  exact Nat.le_mul_of_pos_right _ (by decide)
theorem Ie {n : Nat} {e t : Int} (h : gN n e t) : ∀ (k : Nat), gN n e (t + k)
 | 0 => by simpa using h
 | k + 1 => by
  have := Oj (Ie h k)
  rwa [show t + ((k + 1 : Nat) : Int) = t + (k : Int) + 1 by omega]
theorem S9 {n : Nat} {e t t' : Int} (h : gN n e t) (hl : t ≤ t') : gN n e t' := by
 have := Ie h (t' - t).toNat
 rwa [show t + ((t' - t).toNat : Int) = t' by omega] at this
def Eo (n : Nat) (e E : Int) : Prop := gN n e (-E) ∧ ¬ gN n e (-E - 1)
theorem BG (n : Nat) (e : Int) : ∀ (f : Nat) (x : Int), 0 < f → gN n e (-x) → ¬ gN n e (-(x + f)) → ∃ r, yE n e f x = some r ∧ Eo n e r ∧ x ≤ r ∧ r < x + f
 | 0, x, h0, _, _ => absurd h0 (by decide)
 | f + 1, x, _, h1, h2 => by
  rw [yE]
  by_cases hc : tmN n e (-x - 1) < tmD e (-x - 1)
  ·rw [if_pos hc]
   exact ⟨x, rfl, ⟨h1, by unfold gN; omega⟩, by omega, by omega⟩
  ·rw [if_neg hc]
   have hg : gN n e (-(x + 1)) := by rw [show -(x + 1) = -x - 1 by omega]; unfold gN; omega
   have hf : 0 < f := Nat.pos_of_ne_zero fun hz => by subst hz; exact h2 (by simpa using hg)
   obtain ⟨r, h3, h4, h5, h6⟩ := BG n e f (x + 1) hf hg (by rwa [show x + 1 + (f : Int) = x + ((f + 1 : Nat) : Int) by omega])
   exact ⟨r, h3, h4, by omega, by omega⟩
def gss (b : Int) : Int := Int.tdiv (b * 30103) 100000 - 2
def QN (b : Int) : Bool :=
 decide (10 ^ (gss b).toNat * 2 ^ (-b).toNat ≤ 2 ^ b.toNat * 10 ^ (-(gss b)).toNat) && decide (2 ^ (b + 1).toNat * 10 ^ (-(gss b + 40)).toNat ≤ 10 ^ (gss b + 40).toNat * 2 ^ (-(b + 1)).toNat)
def Ol : Nat → Bool
 | 0 => true
 | n + 1 => QN ((n : Int) - 1110) && Ol n
theorem Om : Ol 2300 = true := by decide +kernel
theorem Ig : ∀ m n, n < m → Ol m = true → QN ((n : Int) - 1110) = true
 | m + 1, n, h, ha => by
  simp only [Ol, Bool.and_eq_true] at ha
  by_cases hn : n = m
  ·rw [hn]; exact ha.1
  ·exact Ig m n (by omega) ha.2
theorem Oo (b : Int) (h1 : -1110 ≤ b) (h2 : b ≤ 1180) : 10 ^ (gss b).toNat * 2 ^ (-b).toNat ≤ 2 ^ b.toNat * 10 ^ (-(gss b)).toNat ∧ 2 ^ (b + 1).toNat * 10 ^ (-(gss b + 40)).toNat ≤ 10 ^ (gss b + 40).toNat * 2 ^ (-(b + 1)).toNat := by
 have h := Ig 2300 (b + 1110).toNat (by omega) Om
 rw [show (((b + 1110).toNat : Nat) : Int) - 1110 = b by omega] at h
 unfold QN at h
 simpa only [Bool.and_eq_true, decide_eq_true_eq] using h
theorem Jp {n p : Nat} (h : 2 ^ p ≤ n) {e b : Int} (hb : b = e + p) {G : Int} (hg : 10 ^ G.toNat * 2 ^ (-b).toNat ≤ 2 ^ b.toNat * 10 ^ (-G).toNat) : gN n e (-G) := by
 unfold gN tmD tmN
 rw [show (-(-G)).toNat = G.toNat by omega]
 refine Nat.le_of_mul_le_mul_right (c := 2 ^ (-b).toNat) ?_ (Nat.two_pow_pos _)
 calc 10 ^ G.toNat * 2 ^ (-e).toNat * 2 ^ (-b).toNat = 10 ^ G.toNat * 2 ^ (-b).toNat * 2 ^ (-e).toNat := by rw [Nat.mul_assoc, Nat.mul_assoc, Nat.mul_comm (2 ^ (-e).toNat)]
  _ ≤ 2 ^ b.toNat * 10 ^ (-G).toNat * 2 ^ (-e).toNat := Nat.mul_le_mul_right _ hg
  _ = 10 ^ (-G).toNat * (2 ^ b.toNat * 2 ^ (-e).toNat) := by rw [Nat.mul_comm (2 ^ b.toNat), Nat.mul_assoc]
  _ = 10 ^ (-G).toNat * (2 ^ p * 2 ^ e.toNat * 2 ^ (-b).toNat) := by
   congr 1
   rw [← Nat.pow_add, ← Nat.pow_add, ← Nat.pow_add]
   congr 1
   omega
  _ = 2 ^ p * 10 ^ (-G).toNat * 2 ^ e.toNat * 2 ^ (-b).toNat := by
   rw [← Nat.mul_assoc, ← Nat.mul_assoc, Nat.mul_comm (10 ^ (-G).toNat)]
  _ ≤ n * 10 ^ (-G).toNat * 2 ^ e.toNat * 2 ^ (-b).toNat := Nat.mul_le_mul_right _ (Nat.mul_le_mul_right _ (Nat.mul_le_mul_right _ h))
theorem F8 {n p : Nat} (h : n < 2 ^ p) {e b : Int} (hb : b = e + p) {G : Int} (hg : 2 ^ b.toNat * 10 ^ (-G).toNat ≤ 10 ^ G.toNat * 2 ^ (-b).toNat) : ¬ gN n e (-G) := by
 unfold gN tmD tmN
 rw [show (-(-G)).toNat = G.toNat by omega, Nat.not_le]
 refine Nat.lt_of_mul_lt_mul_right (a := 2 ^ (-b).toNat) ?_
 calc n * 10 ^ (-G).toNat * 2 ^ e.toNat * 2 ^ (-b).toNat < 2 ^ p * 10 ^ (-G).toNat * 2 ^ e.toNat * 2 ^ (-b).toNat := Nat.mul_lt_mul_of_pos_right (Nat.mul_lt_mul_of_pos_right (Nat.mul_lt_mul_of_pos_right h (Nat.pow_pos (by decide))) (Nat.two_pow_pos _)) (Nat.two_pow_pos _)
  _ = 10 ^ (-G).toNat * (2 ^ p * 2 ^ e.toNat * 2 ^ (-b).toNat) := by
   rw [← Nat.mul_assoc, ← Nat.mul_assoc, Nat.mul_comm (10 ^ (-G).toNat)]
  _ = 10 ^ (-G).toNat * (2 ^ b.toNat * 2 ^ (-e).toNat) := by
   congr 1
   rw [← Nat.pow_add, ← Nat.pow_add, ← Nat.pow_add]
   congr 1
   omega
  _ = 2 ^ b.toNat * 10 ^ (-G).toNat * 2 ^ (-e).toNat := by rw [Nat.mul_comm (2 ^ b.toNat) (10 ^ (-G).toNat), Nat.mul_assoc]
  _ ≤ 10 ^ G.toNat * 2 ^ (-b).toNat * 2 ^ (-e).toNat := Nat.mul_le_mul_right _ hg
  _ = 10 ^ G.toNat * 2 ^ (-e).toNat * 2 ^ (-b).toNat := by rw [Nat.mul_assoc, Nat.mul_assoc, Nat.mul_comm (2 ^ (-b).toNat)]
theorem Jq (neg : Bool) (n : Nat) (e below : Int) (h : EO n e) : ∃ E, jC.f neg n e below = some E ∧ Eo n e E ∧ -400 ≤ E ∧ E ≤ 400 := by
 obtain ⟨o1, o2, o3, o4⟩ := h
 have hn0 : n ≠ 0 := by omega
 have hbn : fM n ≤ 54 := mF (show n < 2 ^ 54 by have : (2 : Nat) ^ 54 = 18014398509481984 := (by decide); omega)
 have hb0 := BL (m := n) (by omega)
 unfold jC.f
 rw [if_pos ⟨o1, o2, o3, o4⟩, show ((n : Int)).toNat = n by omega]
 have hb : e + ((fM n : Nat) : Int) - 1 = e + ((fM n - 1 : Nat) : Int) := by omega
 rw [hb]
 obtain ⟨c1, c2⟩ := Oo (e + ((fM n - 1 : Nat) : Int)) (by omega) (by omega)
 have g1 := Jp (nZ hn0) rfl c1
 have g2 := F8 (kY n) (e := e) (b := e + ((fM n - 1 : Nat) : Int) + 1) (by omega) c2
 obtain ⟨r, h1, h2, h3, h4⟩ := BG n e 40 (gss (e + ((fM n - 1 : Nat) : Int))) (by decide) g1 g2
 have hbd : -398 ≤ gss (e + ((fM n - 1 : Nat) : Int)) ∧ gss (e + ((fM n - 1 : Nat) : Int)) ≤ 358 := by
  unfold gss
  generalize he : e + ((fM n - 1 : Nat) : Int) = b
  have hb1 : -1100 ≤ b := by omega
  have hb2 : b ≤ 1153 := by omega
  rcases Int.le_total 0 b with h | h
  ·rw [Int.tdiv_eq_ediv_of_nonneg (by omega)]; omega
  ·obtain ⟨c, rfl⟩ : ∃ c, b = -c := ⟨-b, by omega⟩
   rw [Int.neg_mul, Int.neg_tdiv, Int.tdiv_eq_ediv_of_nonneg (by omega)]; omega
 refine ⟨r, h1, h2, by omega, by omega⟩
end Go.Proofs.YtafikkmnkeddpaaGreatDoor.P
namespace Go.Proofs.YtafikkmnkeddpaaGreatDoor.P
open Go.RowKit Go.Proofs.YtafikkmnkeddpaaGreatDoorW.PrintWords Go.Proofs.YtafikkmnkeddpaaGreatDoorW.PrintLast Go.Proofs.YtafikkmnkeddpaaGreatDoorW.PrintMore
def exN (F : Fm) (a : Nat) : Nat := a / 2 ^ (F.P - 1) % 2 ^ (F.W - F.P)
def frN (F : Fm) (a : Nat) : Nat := a % 2 ^ (F.P - 1)
def ngN (F : Fm) (a : Nat) : Bool := decide (a / 2 ^ (F.W - 1) ≠ 0)
def kdN (F : Fm) (a : Nat) : Nat := if exN F a = 2 ^ (F.W - F.P) - 1 then (if frN F a = 0 then 1 else 0) else if exN F a = 0 ∧ frN F a = 0 then 2 else 3
def sgB (neg : Bool) : ByteArray := if neg then ⟨#[45]⟩ else ⟨#[]⟩
def nameB (F : Fm) (a : Nat) : ByteArray := if kdN F a = 0 then ⟨#[110, 97, 110]⟩ else if kdN F a = 1 then sgB (ngN F a) ++ ⟨#[105, 110, 102]⟩ else if kdN F a = 2 then sgB (ngN F a) ++ ⟨#[48]⟩ else ⟨#[]⟩
def iE (F : Fm) (a : Nat) : Nat := if exN F a = 0 then frN F a else frN F a + 2 ^ (F.P - 1)
def g_ (F : Fm) (a : Nat) : Int := F.emin - F.P + 1 + ((exN F a - 1 : Nat) : Int)
def blN (F : Fm) (a : Nat) : Nat := if frN F a = 0 ∧ 1 < exN F a then 1 else 2
theorem MF {f : Int} {F : Fm} (h : l9 f = some F) : l7 f = some ((F.W : Int), (F.P : Int), F.emin, F.emax) := by
 refine rP (P := fun a F => l7 a = some ((F.W : Int), (F.P : Int), F.emin, F.emax)) ?_ ?_ ?_ ?_ h <;> rfl
theorem mW {f : Int} {F : Fm} (h : l9 f = some F) : 8 ≤ F.P ∧ F.P < F.W ∧ 16 ≤ F.W ∧ F.W ≤ 64 ∧ F.P ≤ 53 ∧ -1074 ≤ F.emin - F.P + 1 ∧ F.emin ≤ 0 ∧ F.emin - F.P + 1 + ((2 ^ (F.W - F.P) - 1 : Nat) : Int) ≤ 973 ∧ F.emax - F.emin + 3 = ((2 ^ (F.W - F.P) : Nat) : Int) := by
 refine rP (P := fun a F => 8 ≤ F.P ∧ F.P < F.W ∧ 16 ≤ F.W ∧ F.W ≤ 64 ∧ F.P ≤ 53 ∧ -1074 ≤ F.emin - F.P + 1 ∧ F.emin ≤ 0 ∧ F.emin - F.P + 1 + ((2 ^ (F.W - F.P) - 1 : Nat) : Int) ≤ 973 ∧ F.emax - F.emin + 3 = ((2 ^ (F.W - F.P) : Nat) : Int)) ?_ ?_ ?_ ?_ h <;> decide
theorem rH (k : Nat) : (2 : Int) ^ k = ((2 ^ k : Nat) : Int) := by simp
theorem MG (F : Fm) (h : 1 ≤ F.P) (hw : F.P ≤ F.W) (a : Nat) : JI (F.W : Int) (F.P : Int) (a : Int) = ((exN F a : Nat) : Int) := by
 unfold JI exN
 rw [show ((F.P : Int) - 1).toNat = F.P - 1 by omega, show ((F.W : Int) - (F.P : Int)).toNat = F.W - F.P by omega, rH, rH, ← Int.natCast_ediv, ← Int.natCast_emod]
theorem MH (F : Fm) (h : 1 ≤ F.P) (a : Nat) : GL (F.P : Int) (a : Int) = ((frN F a : Nat) : Int) := by
 unfold GL frN
 rw [show ((F.P : Int) - 1).toNat = F.P - 1 by omega, rH, ← Int.natCast_emod]
theorem MI (F : Fm) (h : 1 ≤ F.W) (a : Nat) : EM (F.W : Int) (a : Int) = ngN F a := by
 unfold EM ngN
 rw [show ((F.W : Int) - 1).toNat = F.W - 1 by omega, rH, ← Int.natCast_ediv]
 simp only [ne_eq, Int.natCast_eq_zero]
theorem IY {F : Fm} {a : Nat} (h : a < 2 ^ F.W) : uZ (F.W : Int) (a : Int) := by
 unfold uZ
 rw [show ((F.W : Int)).toNat = F.W by omega, rH]
 omega
def EY (F : Fm) (a : Nat) : Int :=
 if exN F a = 2 ^ (F.W - F.P) - 1 then (if frN F a = 0 then (if ngN F a then 2 else 9) else if frN F a / 2 ^ (F.P - 2) ≠ 0 then 1 else 0)
 else if exN F a = 0 then (if frN F a = 0 then (if ngN F a then 5 else 6) else if ngN F a then 4 else 7)
 else if ngN F a then 3 else 8
theorem TB (F : Fm) (h : 2 ≤ F.P) (hw : F.P ≤ F.W) (a : Nat) : LW (F.W : Int) (F.P : Int) (a : Int) = EY F a := by
 unfold LW EY
 rw [MG F (by omega) hw, MH F (by omega), MI F (by omega)]
 have e1 : (((exN F a : Nat) : Int) = 2 ^ ((F.W : Int) - (F.P : Int)).toNat - 1) = (exN F a = 2 ^ (F.W - F.P) - 1) := by
  rw [show ((F.W : Int) - (F.P : Int)).toNat = F.W - F.P by omega, rH]
  have := Nat.two_pow_pos (F.W - F.P)
  exact propext ⟨fun h => by omega, fun h => by omega⟩
 have e2 : (((frN F a : Nat) : Int) / 2 ^ ((F.P : Int) - 2).toNat ≠ 0) = (frN F a / 2 ^ (F.P - 2) ≠ 0) := by
  rw [show ((F.P : Int) - 2).toNat = F.P - 2 by omega, rH, ← Int.natCast_ediv]
  exact propext ⟨fun h => by omega, fun h => by omega⟩
 simp only [e1, e2, Int.natCast_eq_zero]
theorem Rl {f : Int} {F : Fm} (h : l9 f = some F) {a : Nat} (ha : a < 2 ^ F.W) : jk.f f (a : Int) = some (EY F a, 0) := by
 have b := mW h
 unfold jk.f
 rw [MF h]
 simp only []
 rw [if_pos (IY ha), TB F (by omega) (by omega)]
theorem O7 {f : Int} {F : Fm} (h : l9 f = some F) {a : Nat} (ha : a < 2 ^ F.W) : iW.f f (a : Int) = some (ngN F a, ((exN F a : Nat) : Int), ((frN F a : Nat) : Int), 0) := by
 have b := mW h
 unfold iW.f
 rw [MF h]
 simp only []
 rw [if_pos (IY ha), MG F (by omega) (by omega), MH F (by omega), MI F (by omega)]
theorem MJ (neg : Bool) (ex fr : Nat) (c : Int) (t : ByteArray) (p0 P mn mx : Int) (k : Nat) (ht : t.size ≤ 1) (hP : 8 ≤ P ∧ P ≤ 53) (hm : -2000 ≤ mn ∧ mn ≤ 2000) (he : ex ≤ 100000) (hf : fr < 2 ^ (P.toNat - 1)) :
  bD.j0 (k + 3) c neg (ex : Int) (fr : Int) t p0 P mn mx = if c = 1 ∨ c = 0 then some (false, 0, 0, 0, ⟨#[110, 97, 110]⟩) else if c = 2 ∨ c = 9 then some (false, 0, 0, 0, t ++ ⟨#[105, 110, 102]⟩) else if c = 5 ∨ c = 6 then some (false, 0, 0, 0, t ++ ⟨#[48]⟩)
   else some (neg, (((if ex = 0 then fr else fr + 2 ^ (P.toNat - 1)) : Nat) : Int), mn - P + 1 + ((ex - 1 : Nat) : Int), (((if fr = 0 ∧ 1 < ex then 1 else 2) : Nat) : Int), ⟨#[]⟩) := by
 have s3 : t.size + 3 ≤ 9223372036854775807 := by omega
 have s1 : t.size + 1 ≤ 9223372036854775807 := by omega
 have hw : wrap64 (P - 1) = ((P.toNat - 1 : Nat) : Int) := by rw [w64 (by omega) (by omega)]; omega
 have hp53 : 2 ^ (P.toNat - 1) ≤ 2 ^ 52 := Nat.pow_le_pow_right (by decide) (by omega)
 have hp52 : (2 : Nat) ^ 52 = 4503599627370496 := by decide
 have hor : Go.bits .or .u64 (fr : Int) (shl .u64 1 (wrap64 (P - 1))) = ((fr + 2 ^ (P.toNat - 1) : Nat) : Int) := by
  have h1 := rO (x := 1) (s := P.toNat - 1) (by omega) (by omega)
  rw [hw, show (1 : Int) = ((1 : Nat) : Int) from rfl, h1, Nat.one_mul, u64_or_nat _ _ (by omega) (by omega)]
  congr 1
  have := Nat.two_pow_add_eq_or_of_lt hf 1
  rw [Nat.mul_one] at this
  rw [Nat.or_comm, ← this, Nat.add_comm]
 have he1 : wrap64 ((wrap64 ((wrap64 (mn - P)) + 1)) + (wrap64 ((wrap64 (ex : Int)) - 1))) = mn - P + 1 + ((ex : Int) - 1) := by
  rw [w64 (x := mn - P) (by omega) (by omega), w64 (x := mn - P + 1) (by omega) (by omega), w64 (x := (ex : Int)) (by omega) (by omega), w64 (x := (ex : Int) - 1) (by omega) (by omega), w64 (by omega) (by omega)]
 have he2 : wrap64 ((wrap64 (mn - P)) + 1) = mn - P + 1 := by rw [w64 (x := mn - P) (by omega) (by omega), w64 (by omega) (by omega)]
 have hw0 : 0 ≤ wrap64 (P - 1) := by rw [hw]; omega
 by_cases h1 : c = 1
 ·subst h1; simp [bD.j0, bD.j1]
 by_cases h0 : c = 0
 ·subst h0; simp [bD.j0, bD.j1]
 by_cases h2 : c = 2
 ·subst h2; simp [bD.j0, bD.j1, bD.j2, s3]
 by_cases h9 : c = 9
 ·subst h9; simp [bD.j0, bD.j1, bD.j2, s3]
 by_cases h5 : c = 5
 ·subst h5; simp [bD.j0, bD.j1, bD.j2, s1]
 by_cases h6 : c = 6
 ·subst h6; simp [bD.j0, bD.j1, bD.j2, s1]
 have b1 : (c == 1) = false := by simp [h1]
 have b0 : (c == 0) = false := by simp [h0]
 have b2 : (c == 2) = false := by simp [h2]
 have b9 : (c == 9) = false := by simp [h9]
 rw [if_neg (by omega), if_neg (by omega), if_neg (by omega), bD.j0, if_neg h1, b0, bD.j1, if_neg (by decide), if_neg h2, b9, bD.j2, if_neg (by decide), if_neg h5, if_neg h6]
 by_cases hx : ex = 0
 ·subst hx
  rw [if_neg (by decide), he2]
  simp
 ·rw [if_pos (by omega), if_pos hw0, hor, he1, if_neg hx]
  by_cases hfr : fr = 0
  ·by_cases hx1 : 1 < ex
   ·rw [if_pos (by omega), if_pos (by omega), if_pos ⟨hfr, hx1⟩]; congr 4; omega
   ·rw [if_pos (by omega), if_neg (by omega), if_neg (by omega)]; congr 4; omega
  ·rw [if_neg (by omega), if_neg (by omega)]; congr 4; omega
theorem IZ (F : Fm) (a : Nat) : frN F a < 2 ^ (F.P - 1) := Nat.mod_lt _ (Nat.two_pow_pos _)
theorem Aj (F : Fm) (a : Nat) : exN F a < 2 ^ (F.W - F.P) := Nat.mod_lt _ (Nat.two_pow_pos _)
theorem I4 {f : Int} {F : Fm} (h : l9 f = some F) {a : Nat} (ha : a < 2 ^ F.W) (k : Nat) : bD.f (k + 3) f (a : Int) = some (if kdN F a = 3 then (ngN F a, ((iE F a : Nat) : Int), g_ F a, ((blN F a : Nat) : Int), nameB F a) else (false, 0, 0, 0, nameB F a)) := by
 have b := mW h
 have hex : exN F a ≤ 100000 := by have := Aj F a; omega
 have key := fun t ht => MJ (ngN F a) (exN F a) (frN F a) (EY F a) t F.W F.P F.emin F.emax k ht ⟨by omega, by omega⟩ ⟨by omega, by omega⟩ hex (by have := IZ F a; rwa [show ((F.P : Int)).toNat = F.P by omega])
 unfold bD.f
 rw [Jb h, Rl h ha, O7 h ha]
 simp only [Option.bind_some]
 have e : (if ngN F a = true then bD.j0 (k + 3) (EY F a) (ngN F a) ((exN F a : Nat) : Int) ((frN F a : Nat) : Int) (⟨#[45]⟩ : ByteArray) F.W F.P F.emin F.emax else bD.j0 (k + 3) (EY F a) (ngN F a) ((exN F a : Nat) : Int) ((frN F a : Nat) : Int) (⟨#[]⟩ : ByteArray) F.W F.P F.emin F.emax) = bD.j0 (k + 3) (EY F a) (ngN F a) ((exN F a : Nat) : Int) ((frN F a : Nat) : Int) (sgB (ngN F a)) F.W F.P F.emin F.emax := by
  cases ngN F a <;> rfl
 rw [e, key _ (by unfold sgB; split <;> decide), show ((F.P : Int)).toNat = F.P by omega]
 unfold nameB kdN EY iE g_ blN
 by_cases h1 : exN F a = 2 ^ (F.W - F.P) - 1
 ·have hx0 : exN F a ≠ 0 := by have : 2 ^ 1 ≤ 2 ^ (F.W - F.P) := Nat.pow_le_pow_right (by decide) (by omega); omega
  by_cases h2 : frN F a = 0
  ·cases ngN F a <;> simp [h1, h2]
  ·by_cases h3 : frN F a / 2 ^ (F.P - 2) = 0 <;> simp [h1, h2, h3]
 ·by_cases h0 : exN F a = 0
  ·by_cases h2 : frN F a = 0
   ·have h1' : ¬ 0 = 2 ^ (F.W - F.P) - 1 := by rwa [h0] at h1
    cases ngN F a <;> simp [h1', h2, h0]
   ·have h1' : ¬ 0 = 2 ^ (F.W - F.P) - 1 := by rwa [h0] at h1
    cases ngN F a <;> simp [h1', h2, h0]
  ·cases ngN F a <;> simp [h1, h0]
end Go.Proofs.YtafikkmnkeddpaaGreatDoor.P
namespace Go.Proofs.YtafikkmnkeddpaaGreatDoor.P
open Go.RowKit Go.Proofs.YtafikkmnkeddpaaGreatDoorW.PrintWords Go.Proofs.YtafikkmnkeddpaaGreatDoorW.PrintLast Go.Proofs.YtafikkmnkeddpaaGreatDoorW.PrintMore
theorem JX {v : Nat} (h : fM v ≤ 66) : (toW v).length ≤ 2 := jG (by
 have h1 := Nat.lt_of_lt_of_le (kY v) (Nat.pow_le_pow_right (show 0 < 2 by decide) h)
 exact Nat.lt_of_lt_of_le h1 (by decide))
theorem Ev.bs {α β : Type} {a : α} {f : Nat → α → Option β} {r : β} (k : Ev (fun n => f n a) r) : Ev (fun n => (some a).bind (f n)) r := k
end Go.Proofs.YtafikkmnkeddpaaGreatDoor.P
namespace Go.Proofs.YtafikkmnkeddpaaGreatDoor.P
open Go.RowKit Go.Proofs.YtafikkmnkeddpaaGreatDoorW.PrintWords Go.Proofs.YtafikkmnkeddpaaGreatDoorW.PrintLast Go.Proofs.YtafikkmnkeddpaaGreatDoorW.PrintMore
theorem PV (s : ByteArray) : (s.toList = ([] : List UInt8)) = (s.size = 0) := by
 rw [qc, ← xI]
 exact propext (List.length_eq_zero_iff.symm)
end Go.Proofs.YtafikkmnkeddpaaGreatDoor.P
namespace Go.Proofs.YtafikkmnkeddpaaGreatDoor.P
open Go.RowKit Go.Proofs.YtafikkmnkeddpaaGreatDoorW.PrintWords Go.Proofs.YtafikkmnkeddpaaGreatDoorW.PrintLast Go.Proofs.YtafikkmnkeddpaaGreatDoorW.PrintMore
theorem Ns (c : UInt8) (l : List UInt8) : iH (c :: l) = (c.toNat - 48) * 10 ^ l.length + iH l := by
 have := qL [c] l
 rw [List.singleton_append] at this
 rw [this]
 congr 1
 simp [iH]
end Go.Proofs.YtafikkmnkeddpaaGreatDoor.P
namespace Go.Proofs.YtafikkmnkeddpaaGreatDoor.P
open Go.RowKit Go.Proofs.YtafikkmnkeddpaaGreatDoorW.PrintWords Go.Proofs.YtafikkmnkeddpaaGreatDoorW.PrintLast Go.Proofs.YtafikkmnkeddpaaGreatDoorW.PrintMore
theorem Gy (k : Nat) : gU.f (k + 200) 3 0 (⟨#[48, 46, 49]⟩ : ByteArray) = some (4591870180066957722, 16, 0) := by kernel_rfl
theorem JF : b_.f 0 13653 = some 0 := by decide +kernel
theorem LP (k : Nat) : bD.f (k + 3) 0 13653 = some (false, 1365, -12, 2, (⟨#[]⟩ : ByteArray)) := by kernel_rfl
theorem Ev.far {α : Type} {g : Nat → Option α} {r : α} (c : Nat) (h : ∀ k, g (k + c) = some r) : Ev g r := ⟨c, fun k hk => by have := h (k - c); rwa [Nat.sub_add_cancel hk] at this⟩
theorem JG : gI.f false 1365 (-12) 2 = some ((⟨#[51, 51, 51, 51]⟩ : ByteArray), -1) := by decide +kernel
theorem Gz : iO.f (⟨#[51, 51, 51, 51]⟩ : ByteArray) (-1) = some (⟨#[48, 46, 51, 51, 51, 51]⟩ : ByteArray) := by decide +kernel
theorem OT : (⟨#[]⟩ : ByteArray) ++ (⟨#[48, 46, 51, 51, 51, 51]⟩ : ByteArray) = (⟨#[48, 46, 51, 51, 51, 51]⟩ : ByteArray) := by decide +kernel
theorem Dy : Ev (fun k => bW.f k 0 13653) ((⟨#[48, 46, 51, 51, 51, 51]⟩ : ByteArray), 0) := by
 unfold bW.f
 rw [JF]
 refine Ev.bs (Ev.pos rfl ?_)
 refine Ev.bind (Ev.far 3 LP) (Ev.pos (by rw [PV]; rfl) ?_)
 simp only []
 rw [JG]
 refine Ev.bs (Ev.pos (by decide) ?_)
 refine Ev.step (f := fun _ => some ((⟨#[48, 46, 51, 51, 51, 51]⟩ : ByteArray), 0)) (fun k => ?_) (Ev.now _)
 rw [bW.j0, if_pos (by decide)]
 rw [show dI.f false 1365 (-12) 2 = some (⟨#[]⟩ : ByteArray) from rfl]
 simp only [Option.bind_some]
 rw [Gz]
 simp only [Option.bind_some]
 rw [if_pos (by decide), OT]
theorem LQ : Ev (fun k => dS.f k) true := by
 have hp : Ev (fun k => gU.f k 3 0 (⟨#[48, 46, 49]⟩ : ByteArray)) (4591870180066957722, 16, 0) := Ev.far 200 Gy
 unfold dS.f
 refine Ev.bind hp (Ev.bind Dy ?_)
 refine Ev.pos rfl (Ev.pos rfl (Ev.pos rfl (Ev.pos ?_ ?_)))
 ·rw [qc]
 ·exact Ev.now _
end Go.Proofs.YtafikkmnkeddpaaGreatDoor.P
namespace Go.Proofs.YtafikkmnkeddpaaGreatDoor.P
open Go.RowKit Go.Proofs.YtafikkmnkeddpaaGreatDoorW.PrintWords Go.Proofs.YtafikkmnkeddpaaGreatDoorW.PrintLast Go.Proofs.YtafikkmnkeddpaaGreatDoorW.PrintMore
end Go.Proofs.YtafikkmnkeddpaaGreatDoor.P
namespace Go.Proofs.YtafikkmnkeddpaaGreatDoor
structure Fm.BZ (F : Fm) : Prop where
 ok : F.Ok
 eq : F.emax - F.emin + 3 = ((2 ^ (F.W - F.P) : Nat) : Int)
def vC (F : Fm) : Nat := (2 ^ (F.W - F.P) - 1) * 2 ^ (F.P - 1)
theorem GY {F : Fm} (hF : F.BZ) (m : Int) : oC F m false = if m = 0 ∨ m = 1 ∨ m = 3 then vC F else vC F - 1 := by
 have h1 := hF.eq
 have h2 := hF.ok.ee
 have hp := Nat.two_pow_pos (F.P - 1)
 unfold oC vC
 simp only [Bool.false_eq_true, and_false, or_false, if_false, Nat.add_zero, and_true]
 split
 ·rfl
 ·obtain ⟨a, ha⟩ : ∃ a, 2 ^ (F.W - F.P) = a + 2 := ⟨2 ^ (F.W - F.P) - 2, by omega⟩
  rw [ha, show a + 2 - 2 = a by omega, show a + 2 - 1 = a + 1 by omega, Nat.add_mul, Nat.one_mul]
  omega
def qOf (F : Fm) (num den : Nat) : Int := max (vG num den 0 - F.P + 1) (F.emin - F.P + 1)
def kOf (F : Fm) (num den : Nat) : Nat := (qOf F num den - (F.emin - F.P + 1)).toNat
def wz (F : Fm) (m : Int) (num den : Nat) : Nat := kOf F num den * 2 ^ (F.P - 1) + jq m false (plU num den 0 (qOf F num den)) (plL num den 0 (qOf F num den))
theorem ER {F : Fm} (hF : F.Ok) {num den : Nat} (hn : num ≠ 0) (hd : 0 < den) : plU num den 0 (qOf F num den) < 2 ^ F.P ∧ (kOf F num den ≠ 0 → 2 ^ (F.P - 1) ≤ plU num den 0 (qOf F num den)) := by
 have ht := xQ hn hd 0
 have hP := hF.p2
 unfold kOf qOf
 generalize vG num den 0 = t at *
 obtain ⟨q, hq⟩ : ∃ q, q = max (t - F.P + 1) (F.emin - F.P + 1) := ⟨_, rfl⟩
 rw [← hq]
 rcases Int.lt_or_le t q with h | h
 ·rw [AB ht h]
  exact ⟨Nat.two_pow_pos _, fun hk => by omega⟩
 ·have hb := wJ ht h
  have hne : plU num den 0 q ≠ 0 := fun e => by rw [e] at hb; exact absurd hb (by rw [uG]; omega)
  refine ⟨Nat.lt_of_lt_of_le (kY _) (Nat.pow_le_pow_right (by decide) (by omega)), fun hk => ?_⟩
  have := nZ hne
  rwa [show fM (plU num den 0 q) - 1 = F.P - 1 by omega] at this
theorem Me {F : Fm} (hF : F.BZ) {num den : Nat} (hn : num ≠ 0) (hd : 0 < den) (m : Int) :
  F.emax + 1 < (fM (jq m false (plU num den 0 (qOf F num den)) (plL num den 0 (qOf F num den))) : Int) + qOf F num den ↔ vC F ≤ wz F m num den := by
 obtain ⟨hu, hlo⟩ := ER hF.ok hn hd
 have hP := hF.ok.p2
 have he := hF.eq
 have hee := hF.ok.ee
 have g1 := xU m false (plU num den 0 (qOf F num den)) (plL num den 0 (qOf F num den))
 have g2 := uO m false (plU num den 0 (qOf F num den)) (plL num den 0 (qOf F num den))
 unfold wz vC
 have hk : qOf F num den = F.emin - F.P + 1 + kOf F num den := by unfold kOf; unfold qOf; omega
 rw [hk]
 rw [← hk]
 generalize plL num den 0 (qOf F num den) = l at *
 generalize plU num den 0 (qOf F num den) = u at *
 generalize jq m false u l = n at *
 generalize kOf F num den = k at *
 rw [hk]
 have e2 : 2 ^ F.P = 2 ^ (F.P - 1) + 2 ^ (F.P - 1) := by
  obtain ⟨p, hp⟩ : ∃ p, F.P = p + 1 := ⟨F.P - 1, by omega⟩
  rw [hp, Nat.add_sub_cancel, Nat.pow_succ]; omega
 obtain ⟨K, hK⟩ : ∃ K : Nat, F.emax - F.emin = K := ⟨(F.emax - F.emin).toNat, by omega⟩
 have eW : 2 ^ (F.W - F.P) - 1 = K + 2 := by omega
 rw [eW]
 have hH := Nat.two_pow_pos (F.P - 1)
 have key : F.emax + 1 < (fM n : Int) + (F.emin - F.P + 1 + k) ↔ K + F.P < fM n + k := by omega
 rw [key]
 have b1 : n < 2 ^ (F.P - 1) → fM n ≤ F.P - 1 := fun h => mF h
 have b2 : 2 ^ (F.P - 1) ≤ n → n < 2 ^ F.P → fM n = F.P := fun h1 h2 => by
  have := qC (v := n) (k := F.P - 1) h1 (by rwa [show F.P - 1 + 1 = F.P by omega])
  omega
 have b3 : n = 2 ^ F.P → fM n = F.P + 1 := fun h => by
  rw [h]; exact qC (Nat.le_refl _) (by rw [Nat.pow_succ]; have := Nat.two_pow_pos F.P; omega)
 rw [e2] at hu b2 b3
 generalize 2 ^ (F.P - 1) = H at *
 rcases Nat.lt_or_ge n H with h | h
 ·have hk0 : k = 0 := Classical.byContradiction fun e => by have := hlo e; omega
  have := b1 h
  subst hk0
  refine ⟨fun e => by omega, fun e => ?_⟩
  rw [Nat.add_mul] at e
  omega
 ·rcases Nat.lt_or_ge n (H + H) with h2 | h2
  ·have hb := b2 h h2
   rw [hb]
   refine ⟨fun e => ?_, fun e => Classical.byContradiction fun hc => ?_⟩
   ·have : (K + 1) * H ≤ k * H := Nat.mul_le_mul_right H (by omega)
    rw [Nat.add_mul] at this ⊢
    omega
   ·have : k * H ≤ K * H := Nat.mul_le_mul_right H (by omega)
    rw [Nat.add_mul] at e
    omega
  ·have hn2 : n = H + H := by omega
   rw [b3 hn2, hn2]
   refine ⟨fun e => ?_, fun e => Classical.byContradiction fun hc => ?_⟩
   ·have : K * H ≤ k * H := Nat.mul_le_mul_right H (by omega)
    rw [Nat.add_mul]
    omega
   ·have : (k + 1) * H ≤ K * H := Nat.mul_le_mul_right H (by omega)
    rw [Nat.add_mul] at this e
    omega
theorem O1 {F : Fm} (hF : F.BZ) {num den : Nat} (hn : num ≠ 0) (hd : 0 < den) (m : Int) :
  (oZ F m false num den 0).1 = (if wz F m num den < vC F then wz F m num den else if m = 0 ∨ m = 1 ∨ m = 3 then vC F else vC F - 1) ∧
  ((oZ F m false num den 0).2 = 0 ∨ (oZ F m false num den 0).2 = 16 ∨ (oZ F m false num den 0).2 = 20 ∨ (oZ F m false num den 0).2 = 24) ∧
  ((oZ F m false num den 0).2 = 0 ↔ wz F m num den < vC F ∧ plL num den 0 (qOf F num den) = 0) := by
 have ho := Me hF hn hd m
 have hb := GY hF m
 unfold oZ
 simp only []
 rw [show max (vG num den 0 - (F.P : Int) + 1) (F.emin - F.P + 1) = qOf F num den from rfl]
 by_cases h : F.emax + 1 < (fM (jq m false (plU num den 0 (qOf F num den)) (plL num den 0 (qOf F num den))) : Int) + qOf F num den
 ·have h2 := ho.1 h
  rw [if_pos h, if_neg (by omega)]
  refine ⟨hb, .inr (.inr (.inl rfl)), ⟨fun e => (by cases e), fun e => (by omega)⟩⟩
 ·have h2 : wz F m num den < vC F := Nat.lt_of_not_le fun e => h (ho.2 e)
  rw [if_neg h, if_pos h2]
  refine ⟨?_, ?_, ?_⟩
  ·simp only [Bool.false_eq_true, if_false, Nat.add_zero]; rfl
  ·simp only []
   split
   ·exact .inl rfl
   ·split
    ·exact .inr (.inr (.inr rfl))
    ·exact .inr (.inl rfl)
  ·simp only []
   split
   ·rename_i e; exact ⟨fun _ => ⟨h2, e⟩, fun _ => rfl⟩
   ·rename_i e
    refine ⟨fun e2 => ?_, fun e2 => absurd e2.2 e⟩
    split at e2 <;> cases e2
end Go.Proofs.YtafikkmnkeddpaaGreatDoor
namespace Go.Proofs.YtafikkmnkeddpaaGreatDoor.P
open Go.RowKit Go.Proofs.YtafikkmnkeddpaaGreatDoorW.PrintWords Go.Proofs.YtafikkmnkeddpaaGreatDoorW.PrintLast Go.Proofs.YtafikkmnkeddpaaGreatDoorW.PrintMore
def dgs (n : Nat) : List UInt8 := if n ≤ 9 then [UInt8.ofNat (48 + n)] else dgs (n / 10) ++ [UInt8.ofNat (48 + n % 10)]
termination_by n
decreasing_by omega
theorem u8n {x : Nat} (h : x < 256) : (UInt8.ofNat x).toNat = x := by simp [UInt8.toNat_ofNat']; omega
theorem Ua (n : Nat) : yH (dgs n) := by
 induction n using Nat.strongRecOn with
 | ind n ih =>
  unfold dgs
  split
  ·intro b hb
   obtain rfl := List.mem_singleton.1 hb
   rw [u8n (by omega)]; omega
  ·intro b hb
   rcases List.mem_append.1 hb with hb | hb
   ·exact ih (n / 10) (by omega) b hb
   ·obtain rfl := List.mem_singleton.1 hb
    rw [u8n (by omega)]; omega
theorem PZ (n : Nat) : iH (dgs n) = n := by
 induction n using Nat.strongRecOn with
 | ind n ih =>
  unfold dgs
  split
  ·show iH ([] ++ [_]) = n
   rw [tN, Hg, u8n (by omega)]; omega
  ·rw [tN, ih (n / 10) (by omega), u8n (by omega)]; omega
theorem o_ (s t : ByteArray) : bl (s ++ t) = bl s ++ bl t := by simp [bl]
theorem rQ {s t : ByteArray} (h : bl s = bl t) : s = t := ByteArray.ext (Array.ext' h)
end Go.Proofs.YtafikkmnkeddpaaGreatDoor.P
namespace Go.Proofs.YtafikkmnkeddpaaGreatDoor.P
open Go.RowKit Go.Proofs.YtafikkmnkeddpaaGreatDoorW.PrintWords Go.Proofs.YtafikkmnkeddpaaGreatDoorW.PrintLast Go.Proofs.YtafikkmnkeddpaaGreatDoorW.PrintMore
theorem MK (x : Nat) (h : x ≠ 0) (hx : x < 18446744073709551616) : ([(x : Int)] : List Int) = wI x := (uN h hx).symm
theorem wC {f : Int} {F : Fm} (h : l9 f = some F) {a : Nat} (ha : a < 2 ^ F.W) : bT.f f (a : Int) = some ((((if ngN F a then 1 else 0 : Nat)) : Int), ((exN F a : Nat) : Int), ((frN F a : Nat) : Int), ((2 ^ (F.W - F.P) - 1 : Nat) : Int)) := by
 have b := mW h
 have hF := wH h
 have hw64 : 2 ^ F.W ≤ 2 ^ 64 := Nat.pow_le_pow_right (by decide) (by omega)
 have e64 : (2 : Nat) ^ 64 = 18446744073709551616 := by decide
 have e1 : IntKind.u64.wrap (wrap64 ((F.W : Int) - 1)) = ((F.W - 1 : Nat) : Int) := by rw [w64 (by omega) (by omega), wu64 (by omega) (by omega)]; omega
 have e2 : IntKind.u64.wrap (wrap64 ((F.P : Int) - 1)) = ((F.P - 1 : Nat) : Int) := by rw [w64 (by omega) (by omega), wu64 (by omega) (by omega)]; omega
 have hpw : 2 ^ (F.W - F.P) ≤ 2 ^ 56 := Nat.pow_le_pow_right (by decide) (by omega)
 have e56 : (2 : Nat) ^ 56 = 72057594037927936 := by decide
 have hones := hF.ones
 have e3 : IntKind.u64.wrap (wrap64 ((wrap64 (2 * F.emax)) + 1)) = ((2 ^ (F.W - F.P) - 1 : Nat) : Int) := by
  have := Nat.two_pow_pos (F.W - F.P)
  rw [w64 (x := 2 * F.emax) (by omega) (by omega), w64 (by omega) (by omega), wu64 (by omega) (by omega)]; omega
 have hp52 : 2 ^ (F.P - 1) ≤ 2 ^ 52 := Nat.pow_le_pow_right (by decide) (by omega)
 have e52 : (2 : Nat) ^ 52 = 4503599627370496 := by decide
 have hsh : shl .u64 1 ((F.P - 1 : Nat) : Int) = ((2 ^ (F.P - 1) : Nat) : Int) := by
  have h1 := rO (x := 1) (s := F.P - 1) (by omega) (by omega)
  rw [show (1 : Int) = ((1 : Nat) : Int) from rfl, h1, Nat.one_mul]
 have hp0 := Nat.two_pow_pos (F.P - 1)
 have s1 : shr .u64 (a : Int) ((F.W - 1 : Nat) : Int) = ((a / 2 ^ (F.W - 1) : Nat) : Int) := qV a (F.W - 1) (by omega)
 have s2 : shr .u64 (a : Int) ((F.P - 1 : Nat) : Int) = ((a / 2 ^ (F.P - 1) : Nat) : Int) := qV a (F.P - 1) (by omega)
 have a1 : Go.bits .and .u64 ((a / 2 ^ (F.W - 1) : Nat) : Int) 1 = (((if ngN F a then 1 else 0 : Nat)) : Int) := by
  have hlt : a / 2 ^ (F.W - 1) < 2 := by
   rw [Nat.div_lt_iff_lt_mul (Nat.two_pow_pos _), ← Nat.pow_succ']
   rwa [show (F.W - 1).succ = F.W by omega]
  rw [and_one _ (show _ < WB from Nat.lt_of_lt_of_le hlt (by decide)), Nat.mod_eq_of_lt hlt]
  unfold ngN
  revert hlt
  generalize a / 2 ^ (F.W - 1) = z
  intro hlt
  have hz : z = 0 ∨ z = 1 := by omega
  rcases hz with rfl | rfl <;> rfl
 have a2 : Go.bits .and .u64 ((a / 2 ^ (F.P - 1) : Nat) : Int) ((2 ^ (F.W - F.P) - 1 : Nat) : Int) = ((exN F a : Nat) : Int) := by
  have hd : a / 2 ^ (F.P - 1) ≤ a := Nat.div_le_self _ _
  have := LY ((a / 2 ^ (F.P - 1) : Nat) : Int) ((2 ^ (F.W - F.P) - 1 : Nat) : Int) (F.W - F.P) (Int.natCast_nonneg _) (by omega) (by omega) (by rw [rH]; have := Nat.two_pow_pos (F.W - F.P); omega)
  rw [this, rH, ← Int.natCast_emod]
  rfl
 have a3 : Int.tmod (a : Int) ((2 ^ (F.P - 1) : Nat) : Int) = ((frN F a : Nat) : Int) := by
  rw [Int.tmod_eq_emod_of_nonneg (Int.natCast_nonneg _), ← Int.natCast_emod]
  rfl
 unfold bT.f
 rw [hF.row]
 simp only [Option.bind_some]
 rw [e1, e2, e3, hsh, s1, s2, a1, a2, a3, if_pos (Int.natCast_nonneg _), if_pos (Int.natCast_nonneg _), if_neg (by omega)]
theorem He {f : Int} {F : Fm} (h : l9 f = some F) {a : Nat} (ha : a < 2 ^ F.W) : dJ.f f (a : Int) = some (((if ngN F a then 1 else 0 : Nat)) : Int) := by
 unfold dJ.f
 rw [wC h ha]
 rfl
theorem O8 {f : Int} {F : Fm} (h : l9 f = some F) {a : Nat} (ha : a < 2 ^ F.W) : fG.f f (a : Int) = some (decide (kdN F a = 0)) := by
 unfold fG.f
 rw [wC h ha]
 simp only [Option.bind_some]
 unfold kdN
 by_cases h1 : exN F a = 2 ^ (F.W - F.P) - 1
 ·rw [if_pos (by omega), if_pos h1]
  by_cases h2 : frN F a = 0 <;> simp [h2]
 ·rw [if_neg (by omega), if_neg h1]
  by_cases h2 : exN F a = 0 ∧ frN F a = 0 <;> simp [h2]
theorem O9 {f : Int} {F : Fm} (h : l9 f = some F) {a : Nat} (ha : a < 2 ^ F.W) : fH.f f (a : Int) = some (decide (kdN F a = 1)) := by
 unfold fH.f
 rw [wC h ha]
 simp only [Option.bind_some]
 unfold kdN
 by_cases h1 : exN F a = 2 ^ (F.W - F.P) - 1
 ·rw [if_pos (by omega), if_pos h1]
  by_cases h2 : frN F a = 0 <;> simp [h2]
 ·rw [if_neg (by omega), if_neg h1]
  by_cases h2 : exN F a = 0 ∧ frN F a = 0 <;> simp [h2]
theorem ML {f : Int} {F : Fm} (h : l9 f = some F) {a : Nat} (ha : a < 2 ^ F.W) : eu.f f (a : Int) = some (decide (kdN F a = 2)) := by
 have b := mW h
 have hx0 : 2 ^ 1 ≤ 2 ^ (F.W - F.P) := Nat.pow_le_pow_right (by decide) (by omega)
 unfold eu.f
 rw [wC h ha]
 simp only [Option.bind_some]
 unfold kdN
 by_cases h0 : exN F a = 0
 ·rw [if_pos (by omega), if_neg (by omega)]
  by_cases h2 : frN F a = 0 <;> simp [h0, h2]
 ·rw [if_neg (by omega)]
  by_cases h1 : exN F a = 2 ^ (F.W - F.P) - 1
  ·rw [if_pos h1]; by_cases h2 : frN F a = 0 <;> simp [h2]
  ·rw [if_neg h1]; simp [h0]
theorem DN {f : Int} {F : Fm} (h : l9 f = some F) {a : Nat} (ha : a < 2 ^ F.W) : bU.f f (a : Int) = some (sgB (ngN F a)) := by
 unfold bU.f
 rw [He h ha]
 cases ngN F a <;> rfl
theorem uM {f : Int} {F : Fm} (h : l9 f = some F) {a : Nat} (ha : a < 2 ^ F.W) (k : Nat) : aT.f (k + 1) f (a : Int) = some (nameB F a) := by
 unfold aT.f
 rw [He h ha]
 simp only [Option.bind_some]
 have e : (if ((((if ngN F a then 1 else 0 : Nat)) : Int) = 1) then aT.j0 (k + 1) f (a : Int) (⟨#[45]⟩ : ByteArray) else aT.j0 (k + 1) f (a : Int) (⟨#[]⟩ : ByteArray)) = aT.j0 (k + 1) f (a : Int) (sgB (ngN F a)) := by
  cases ngN F a <;> rfl
 have hs : (sgB (ngN F a)).size ≤ 1 := by unfold sgB; split <;> decide
 rw [e, aT.j0, O8 h ha, O9 h ha, ML h ha]
 simp only [Option.bind_some, decide_eq_true_eq]
 unfold nameB
 split
 ·rfl
 ·split
  ·rw [if_pos (by omega)]
  ·split
   ·rw [if_pos (by omega)]
   ·rfl
theorem qR {F : Fm} {a : Nat} : (nameB F a).toList = ([] : List UInt8) ↔ kdN F a = 3 := by
 rw [qc]
 unfold nameB
 have hk : kdN F a = 0 ∨ kdN F a = 1 ∨ kdN F a = 2 ∨ kdN F a = 3 := by unfold kdN; (repeat' split) <;> simp
 rcases hk with h | h | h | h <;> rw [h] <;> simp [o_] <;> decide
def EZ (F : Fm) (a : Nat) : Nat := exN F a - 1
theorem Rn (F : Fm) (a : Nat) : g_ F a = F.emin - F.P + 1 + (EZ F a : Int) := rfl
theorem rJ {f : Int} {F : Fm} (h : l9 f = some F) (a : Nat) (hk : kdN F a = 3) : iE F a ≠ 0 ∧ iE F a < 2 ^ F.P ∧ (EZ F a ≠ 0 → 2 ^ (F.P - 1) ≤ iE F a) ∧ EZ F a * 2 ^ (F.P - 1) + iE F a = a % 2 ^ (F.W - 1) ∧ EZ F a * 2 ^ (F.P - 1) + iE F a < vC F := by
 have b := mW h
 have hfr := IZ F a
 have hex := Aj F a
 have e2 : 2 ^ F.P = 2 * 2 ^ (F.P - 1) := by rw [← Nat.pow_succ']; congr 1; omega
 have hc : a % 2 ^ (F.W - 1) = exN F a * 2 ^ (F.P - 1) + frN F a := by
  unfold exN frN
  rw [show F.W - 1 = (F.P - 1) + (F.W - F.P) by omega, Nat.pow_add, Nat.mod_mul, Nat.mul_comm (2 ^ (F.P - 1)), Nat.add_comm]
 have hne : exN F a ≠ 2 ^ (F.W - F.P) - 1 := fun e => by unfold kdN at hk; rw [if_pos e] at hk; split at hk <;> omega
 have hz : ¬ (exN F a = 0 ∧ frN F a = 0) := fun e => by unfold kdN at hk; rw [if_neg hne, if_pos e] at hk; omega
 have hlt : exN F a * 2 ^ (F.P - 1) + 2 ^ (F.P - 1) ≤ vC F := by
  unfold vC
  have := Nat.mul_le_mul_right (2 ^ (F.P - 1)) (show exN F a + 1 ≤ 2 ^ (F.W - F.P) - 1 by omega)
  rwa [Nat.add_mul, Nat.one_mul] at this
 unfold iE EZ
 rw [hc]
 clear hc
 generalize exN F a = x at *
 generalize frN F a = y at *
 generalize vC F = I at *
 generalize 2 ^ (F.P - 1) = H at *
 rw [e2]
 by_cases h0 : x = 0
 ·subst h0
  rw [if_pos rfl]
  simp only [Nat.zero_sub, Nat.zero_mul] at hlt ⊢
  refine ⟨by omega, by omega, fun h => absurd rfl h, trivial, by omega⟩
 ·obtain ⟨m, rfl⟩ : ∃ m, x = m + 1 := ⟨x - 1, by omega⟩
  rw [if_neg h0]
  rw [Nat.add_mul] at hlt ⊢
  simp only [Nat.add_sub_cancel]
  refine ⟨by omega, by omega, fun h => by omega, by omega, by omega⟩
theorem MN {f : Int} {F : Fm} (h : l9 f = some F) {a : Nat} (ha : a < 2 ^ F.W) : fB.f f (a : Int) = some (((iE F a : Nat) : Int), g_ F a) := by
 have b := mW h
 have hF := wH h
 have hfr := IZ F a
 have hex := Aj F a
 have e2 : IntKind.u64.wrap (wrap64 ((F.P : Int) - 1)) = ((F.P - 1 : Nat) : Int) := by rw [w64 (by omega) (by omega), wu64 (by omega) (by omega)]; omega
 have hp52 : 2 ^ (F.P - 1) ≤ 2 ^ 52 := Nat.pow_le_pow_right (by decide) (by omega)
 have e52 : (2 : Nat) ^ 52 = 4503599627370496 := by decide
 have hsh : shl .u64 1 ((F.P - 1 : Nat) : Int) = ((2 ^ (F.P - 1) : Nat) : Int) := by
  have h1 := rO (x := 1) (s := F.P - 1) (by omega) (by omega)
  rw [show (1 : Int) = ((1 : Nat) : Int) from rfl, h1, Nat.one_mul]
 unfold fB.f
 rw [hF.row, wC h ha]
 simp only [Option.bind_some]
 unfold iE g_
 by_cases h0 : exN F a = 0
 ·rw [if_pos (by omega), if_pos h0, h0, w64 (x := F.emin - (F.P : Int)) (by omega) (by omega), w64 (by omega) (by omega)]
  simp
 ·rw [if_neg (by omega), if_neg h0, e2, if_pos (by omega), hsh]
  rw [w64 (x := ((exN F a : Nat) : Int)) (by omega) (by omega), w64 (x := ((exN F a : Nat) : Int) - 1) (by omega) (by omega), w64 (x := ((exN F a : Nat) : Int) - 1 + F.emin) (by omega) (by omega), w64 (x := ((exN F a : Nat) : Int) - 1 + F.emin - F.P) (by omega) (by omega), w64 (by omega) (by omega), wu64 (by omega) (by omega)]
  congr 2 <;> omega
theorem yB {f : Int} {F : Fm} (h : l9 f = some F) {a : Nat} (ha : a < 2 ^ F.W) (hk : kdN F a = 3) : Ev (fun k => dw.f k f (a : Int)) (wI (iE F a * 2 ^ (g_ F a).toNat), wI (2 ^ (-(g_ F a)).toNat)) := by
 have b := mW h
 obtain ⟨s1, s2, _⟩ := rJ h a hk
 have hex := Aj F a
 have he : -1074 ≤ g_ F a ∧ g_ F a ≤ 973 := by unfold g_; omega
 have hp : 2 ^ F.P ≤ 2 ^ 53 := Nat.pow_le_pow_right (by decide) (by omega)
 have e53 : (2 : Nat) ^ 53 = 9007199254740992 := by decide
 have w1 : ([1] : List Int) = wI 1 := (vg (by decide) (by decide)).symm
 have hl1 : (toW (iE F a)).length ≤ 1 := jG (by rw [Nat.pow_one]; exact Nat.lt_of_lt_of_le s2 (Nat.le_trans hp (by decide)))
 unfold dw.f
 rw [MN h ha]
 simp only [Option.bind_some]
 rw [MK _ s1 (by omega), w1]
 by_cases hc : g_ F a ≥ 0
 ·refine Ev.pos hc ?_
  obtain ⟨n, hn⟩ := Int.eq_ofNat_of_zero_le hc
  rw [hn] at he ⊢
  rw [show ((-((n : Nat) : Int))).toNat = 0 by omega, Nat.pow_zero, Int.toNat_natCast]
  exact Ev.bind (E8 n (by omega) (by omega)) (Ev.now _)
 ·refine Ev.neg hc ?_
  obtain ⟨n, hn⟩ : ∃ n : Nat, g_ F a = -(n : Int) := ⟨(-(g_ F a)).toNat, by omega⟩
  rw [hn] at he ⊢
  rw [show (-((n : Nat) : Int)).toNat = 0 by omega, Nat.pow_zero, Nat.mul_one, w64 (by omega) (by omega), Int.neg_neg, Int.toNat_natCast]
  have ht := oL (xs := toW (iE F a)) (iT _) (by omega)
  rw [dV] at ht
  have hup := E8 (a := 1) n (by rw [n_]; decide) (by omega)
  rw [Nat.one_mul] at hup
  rw [show wI (iE F a) = toI (toW (iE F a)) from rfl, ht]
  exact Ev.bs (Ev.bind hup (Ev.now _))
end Go.Proofs.YtafikkmnkeddpaaGreatDoor.P
namespace Go.Proofs.YtafikkmnkeddpaaGreatDoor.P
open Go.RowKit Go.Proofs.YtafikkmnkeddpaaGreatDoorW.PrintWords Go.Proofs.YtafikkmnkeddpaaGreatDoorW.PrintLast Go.Proofs.YtafikkmnkeddpaaGreatDoorW.PrintMore
def txB (v : Nat) : ByteArray := ⟨(Lib.decDigits v).toArray⟩
theorem I5 {v : Nat} (hv : v ≠ 0) (hf : iL v) : Ev (fun k => ah.f k (wI v)) (txB v, 0) := by
 have := PN hv hf
 rwa [FN hv] at this
theorem QC {v : Nat} (hf : iL v) : dG.f (wI v) = some (txB v, 0) := by
 unfold dG.f
 rw [qj, if_pos ⟨nG hf, hf⟩]
 rfl
theorem DR {v : Nat} (hv : v ≠ 0) : (Lib.decDigits v).length = (mG v).length := by
 have h := congrArg List.length (AU hv)
 rw [lu, List.length_reverse, List.length_map] at h
 exact h.symm
theorem yV (v : Nat) : (txB v).size = (Lib.decDigits v).length := by show (Lib.decDigits v).toArray.size = _; simp
theorem Ro {v L : Nat} (h1 : 10 ^ L ≤ v) (h2 : v < 10 ^ (L + 1)) : (txB v).size = L + 1 := by
 have hv : v ≠ 0 := by have := mg L; omega
 rw [yV, DR hv]
 obtain ⟨a, b, c⟩ := o7 hv
 have p1 : (mG v).length - 1 < L + 1 := (Nat.pow_lt_pow_iff_right (show 1 < 10 by decide)).1 (Nat.lt_of_le_of_lt a h2)
 have p2 : L < (mG v).length := (Nat.pow_lt_pow_iff_right (show 1 < 10 by decide)).1 (Nat.lt_of_le_of_lt h1 b)
 omega
theorem oU (a b : Nat) : (toW (a * b)).length ≤ (toW a).length + (toW b).length := jG (by
 rw [Nat.pow_add]
 exact Nat.mul_lt_mul_of_lt_of_le (lW a) (Nat.le_of_lt (lW b)) (Nat.pow_pos (by decide)))
theorem TD : (toW 10).length ≤ 1 := jG (by rw [Nat.pow_one]; decide)
theorem Rq {N D : Nat} (hN : (toW N).length ≤ 100) (hD : (toW D).length ≤ 100) (m : Nat) (hm : m ≤ 2000) (h2 : D ≤ N * 10 ^ m) : ∀ d j, j + d = m → (∀ i, i < m → N * 10 ^ i < D) →
  Ev (fun k => bK.l0 k (wI (N * 10 ^ j)) (wI D) (-(j : Int))) (-(m : Int)) := by
 intro d
 induction d with
 | zero =>
  intro j hj h1
  obtain rfl : j = m := by omega
  have hl : (toW (N * 10 ^ j)).length ≤ 2000 := by
   have := oU N (10 ^ j)
   have := xK j
   omega
  refine Ev.step (fun k => by rw [bK.l0]) (Ev.bind (tX (by unfold mX; omega) (by unfold mX; omega)) ?_)
  refine Ev.neg ?_ (Ev.now _)
  rcases qo (N * 10 ^ j) D with h | h | h <;> omega
 | succ d ih =>
  intro j hj h1
  have hl : (toW (N * 10 ^ j)).length ≤ 2000 := by
   have := oU N (10 ^ j)
   have := xK j
   omega
  refine Ev.step (fun k => by rw [bK.l0]) (Ev.bind (tX (by unfold mX; omega) (by unfold mX; omega)) ?_)
  have hlt := h1 j (by omega)
  refine Ev.pos (by rcases qo (N * 10 ^ j) D with h | h | h <;> omega) ?_
  have w10 : ([10] : List Int) = wI 10 := (vg (by decide) (by decide)).symm
  rw [w10]
  refine Ev.bind (tZ (by omega) (by have := TD; omega)) ?_
  have := ih (j + 1) (by omega) h1
  rw [w64 (by omega) (by omega), show -(j : Int) - 1 = -((j + 1 : Nat) : Int) by omega, Nat.mul_assoc, ← Nat.pow_succ]
  exact this
theorem Rt {n : Nat} {e E : Int} (h0 : n ≠ 0) (hn : n < 2 ^ 53) (he1 : -1074 ≤ e) (he2 : e ≤ 973) (hE : Eo n e E) (hE1 : -400 ≤ E) (hE2 : E ≤ 400) : Ev (fun k => bK.f k (wI (n * 2 ^ e.toNat)) (wI (2 ^ (-e).toNat))) E := by
 have hn64 : n < 2 ^ 64 := Nat.lt_of_lt_of_le hn (Nat.pow_le_pow_right (by decide) (by decide))
 have hnum : n * 2 ^ e.toNat < 2 ^ (64 + e.toNat) := by rw [Nat.pow_add]; exact Nat.mul_lt_mul_of_pos_right hn64 (Nat.two_pow_pos _)
 have hl1 : (toW (n * 2 ^ e.toNat)).length ≤ 17 := pY hnum (by omega)
 have hl2 : (toW (2 ^ (-e).toNat)).length ≤ 17 := pY (Nat.pow_lt_pow_right (by decide) (Nat.lt_succ_self _)) (by omega)
 have hdp := Nat.two_pow_pos (-e).toNat
 have hnp : 0 < n * 2 ^ e.toNat := Nat.mul_pos (by omega) (Nat.two_pow_pos _)
 obtain ⟨g1, g2⟩ := hE
 unfold gN tmN tmD at g1 g2
 unfold bK.f
 refine Ev.bind (Cm (by omega) (by omega) (by omega)) ?_
 unfold QR
 simp only []
 have hlen := oN (n * 2 ^ e.toNat / 2 ^ (-e).toNat)
 have hul : (toW (n * 2 ^ e.toNat / 2 ^ (-e).toNat)).length ≤ 17 := Nat.le_trans (DY (Nat.div_le_self _ _)) hl1
 by_cases hu : n * 2 ^ e.toNat / 2 ^ (-e).toNat = 0
 ·refine Ev.neg (by omega) ?_
  have hlt : n * 2 ^ e.toNat < 2 ^ (-e).toNat := by
   rcases Nat.div_eq_zero_iff.1 hu with h | h
   ·omega
   ·exact h
  have hE0 : E < 0 := by
   refine Int.not_le.1 fun hc => ?_
   rw [show (-E).toNat = 0 by omega, show (-(-E)).toNat = E.toNat by omega, Nat.pow_zero, Nat.mul_one] at g1
   have := Nat.mul_le_mul_right (2 ^ (-e).toNat) (mg E.toNat)
   omega
  obtain ⟨m, rfl⟩ : ∃ m : Nat, E = -(m : Int) := ⟨(-E).toNat, by omega⟩
  rw [show (-(-(m : Int))).toNat = m by omega, show (-(-(-(m : Int)))).toNat = 0 by omega, Nat.pow_zero, Nat.one_mul, Nat.mul_assoc, Nat.mul_comm (10 ^ m), ← Nat.mul_assoc] at g1
  rw [show (-(-(m : Int)) - 1).toNat = m - 1 by omega, show (-(-(-(m : Int)) - 1)).toNat = 0 by omega, Nat.pow_zero, Nat.one_mul, Nat.mul_assoc, Nat.mul_comm (10 ^ (m - 1)), ← Nat.mul_assoc] at g2
  have := Rq (N := n * 2 ^ e.toNat) (D := 2 ^ (-e).toNat) (by omega) (by omega) m (by omega) g1 m 0 (by omega) (fun i hi => by
   have h1 : 10 ^ i ≤ 10 ^ (m - 1) := Nat.pow_le_pow_right (by decide) (by omega)
   have h2 := Nat.mul_le_mul_left (n * 2 ^ e.toNat) h1
   omega)
  rw [Nat.pow_zero, Nat.mul_one] at this
  exact this
 ·refine Ev.pos (by omega) ?_
  have hfit : iL (n * 2 ^ e.toNat / 2 ^ (-e).toNat) := by unfold iL; omega
  refine Ev.bind (I5 hu hfit) ?_
  obtain ⟨a, b, c⟩ := o7 hu
  have hE0 : 0 ≤ E := by
   refine Int.not_lt.1 fun hc => ?_
   rw [show (-E - 1).toNat = (-E).toNat - 1 by omega, show (-(-E - 1)).toNat = 0 by omega, Nat.pow_zero, Nat.one_mul, Nat.mul_assoc, Nat.mul_comm (10 ^ _), ← Nat.mul_assoc] at g2
   have h1 := Nat.div_mul_le_self (n * 2 ^ e.toNat) (2 ^ (-e).toNat)
   have h2 := Nat.mul_le_mul_right (2 ^ (-e).toNat) (Nat.pos_of_ne_zero hu)
   have h3 := Nat.le_mul_of_pos_right (n * 2 ^ e.toNat) (mg ((-E).toNat - 1))
   omega
  obtain ⟨m, rfl⟩ : ∃ m : Nat, E = (m : Int) := ⟨E.toNat, by omega⟩
  rw [show (-(m : Int)).toNat = 0 by omega, show (-(-(m : Int))).toNat = m by omega, Nat.pow_zero, Nat.mul_one] at g1
  rw [show (-(m : Int) - 1).toNat = 0 by omega, show (-(-(m : Int) - 1)).toNat = m + 1 by omega, Nat.pow_zero, Nat.mul_one] at g2
  have p1 : 10 ^ m ≤ n * 2 ^ e.toNat / 2 ^ (-e).toNat := (Nat.le_div_iff_mul_le hdp).2 g1
  have p2 : n * 2 ^ e.toNat / 2 ^ (-e).toNat < 10 ^ (m + 1) := (Nat.div_lt_iff_lt_mul hdp).2 (by omega)
  have hs := Ro p1 p2
  rw [show ((txB (n * 2 ^ e.toNat / 2 ^ (-e).toNat), (0 : Int))).1.size = m + 1 from hs, w64 (by omega) (by omega), show ((m + 1 : Nat) : Int) - 1 = (m : Int) by omega]
  exact Ev.now _
theorem E5 {n : Nat} {e t : Int} (h0 : n ≠ 0) (hn : n < 2 ^ 53) (he1 : -1074 ≤ e) (he2 : e ≤ 973) (ht1 : -1000 ≤ t) (ht2 : t ≤ 2000) : Ev (fun k => bn.f k (wI (n * 2 ^ e.toNat)) (wI (2 ^ (-e).toNat)) t) (wI (tmN n e t / tmD e t), ((lOf (tmN n e t) (tmD e t) : Nat) : Int)) := by
 have hn64 : n < 2 ^ 64 := Nat.lt_of_lt_of_le hn (Nat.pow_le_pow_right (by decide) (by decide))
 have hnum : n * 2 ^ e.toNat < 2 ^ (64 + e.toNat) := by rw [Nat.pow_add]; exact Nat.mul_lt_mul_of_pos_right hn64 (Nat.two_pow_pos _)
 have hl1 : (toW (n * 2 ^ e.toNat)).length ≤ 17 := pY hnum (by omega)
 have hl2 : (toW (2 ^ (-e).toNat)).length ≤ 17 := pY (Nat.pow_lt_pow_right (by decide) (Nat.lt_succ_self _)) (by omega)
 have hdp := Nat.two_pow_pos (-e).toNat
 unfold bn.f
 by_cases hc : t ≥ 0
 ·refine Ev.pos hc ?_
  obtain ⟨m, rfl⟩ := Int.eq_ofNat_of_zero_le hc
  have hml := oU (n * 2 ^ e.toNat) (10 ^ m)
  have h10 := xK m
  refine Ev.bind (DX (n := m) (by omega) (by unfold iL; omega)) (Ev.bind (tZ (by omega) (by omega)) ?_)
  have e1 : tmN n e (m : Int) = n * 2 ^ e.toNat * 10 ^ m := by unfold tmN; rw [Int.toNat_natCast, Nat.mul_assoc, Nat.mul_assoc, Nat.mul_comm (10 ^ m)]
  have e2 : tmD e (m : Int) = 2 ^ (-e).toNat := by unfold tmD; rw [show (-(m : Int)).toNat = 0 by omega, Nat.pow_zero, Nat.one_mul]
  rw [e1, e2]
  exact Ev.step (fun k => by rw [bn.j0]) (yX (by omega) (by omega) (by omega))
 ·refine Ev.neg hc ?_
  obtain ⟨m, rfl⟩ : ∃ m : Nat, t = -(m : Int) := ⟨(-t).toNat, by omega⟩
  rw [w64 (by omega) (by omega), Int.neg_neg]
  have hml := oU (2 ^ (-e).toNat) (10 ^ m)
  have h10 := xK m
  refine Ev.bind (DX (n := m) (by omega) (by unfold iL; omega)) (Ev.bind (tZ (by omega) (by omega)) ?_)
  have e1 : tmN n e (-(m : Int)) = n * 2 ^ e.toNat := by unfold tmN; rw [show (-(m : Int)).toNat = 0 by omega, Nat.pow_zero, Nat.mul_one]
  have e2 : tmD e (-(m : Int)) = 2 ^ (-e).toNat * 10 ^ m := by unfold tmD; rw [show (-(-(m : Int))).toNat = m by omega, Nat.mul_comm]
  rw [e1, e2]
  have hp := Nat.mul_pos hdp (mg m)
  exact Ev.step (fun k => by rw [bn.j0]) (yX (by omega) (by omega) (by omega))
theorem TF {x : Int} (h1 : -10000 ≤ x) (h2 : x ≤ 10000) : Ev (fun k => cZ.f k x) (⟨(Lib.itoa x).toArray⟩ : ByteArray) := by
 have hp : ∀ n : Nat, n ≤ 10000 → Ev (fun k => cZ.f k (n : Int)) (txB n) := fun n hn => by
  refine Ev.step (fun k => by rw [cZ.f, if_neg (by omega), tq (by omega)]) ?_
  by_cases hz : n = 0
  ·subst hz
   have hs := wE (xs := [0]) (by intro x hx; simp at hx; subst hx; decide) (by decide)
   rw [show (toW (val [0])).length = 0 by decide +kernel] at hs
   have ht : Ev (fun k => ah.f k (([((0 : Nat) : Int)] : List Int))) ((⟨#[48]⟩ : ByteArray), (0 : Int)) := by
    unfold ah.f
    refine Ev.bind hs ?_
    refine Ev.neg (by decide) ?_
    refine Ev.bind hs ?_
    exact Ev.pos rfl (Ev.now _)
   rw [show txB 0 = (⟨#[48]⟩ : ByteArray) by unfold txB; rw [Lib.decDigits_one (by decide)]; rfl]
   exact Ev.bind ht (Ev.now _)
  ·rw [MK n hz (by omega)]
   exact Ev.bind (I5 hz (by unfold iL; exact Nat.le_trans (jG (k := 1) (by rw [Nat.pow_one]; exact Nat.lt_of_le_of_lt hn (by decide))) (by decide))) (Ev.now _)
 by_cases hx : 0 ≤ x
 ·obtain ⟨n, rfl⟩ := Int.eq_ofNat_of_zero_le hx
  rw [Lib.itoa_nonneg]
  exact hp n (by omega)
 ·obtain ⟨n, rfl⟩ : ∃ n : Nat, x = -(n : Int) := ⟨(-x).toNat, by omega⟩
  rw [Lib.itoa_neg n (by omega)]
  refine Ev.step (fun k => by rw [cZ.f, if_pos (by omega), w64 (by omega) (by omega), Int.neg_neg]) (Ev.bind (hp n (by omega)) ?_)
  have hsz : (txB n).size ≤ 1000 := by
   by_cases hz : n = 0
   ·subst hz; decide +kernel
   ·rw [yV, DR hz]
    obtain ⟨a, b, c⟩ := o7 hz
    have p1 : (mG n).length - 1 < 5 := (Nat.pow_lt_pow_iff_right (show 1 < 10 by decide)).1 (Nat.lt_of_le_of_lt a (by omega))
    omega
  refine Ev.pos (by omega) ?_
  rw [show (⟨#[45]⟩ : ByteArray) ++ txB n = (⟨(45 :: Lib.decDigits n).toArray⟩ : ByteArray) from rQ (by rw [o_]; rfl)]
  exact Ev.now _
def Hf (D : ByteArray) (x : Int) : ByteArray := (if 1 < D.size then D.extract 0 1 ++ (⟨#[46]⟩ ++ D.extract 1 D.size) else D.extract 0 1) ++ ⟨#[101]⟩ ++ ⟨(Lib.itoa x).toArray⟩
theorem DT {x : Int} (h1 : -10000 ≤ x) (h2 : x ≤ 10000) : (⟨(Lib.itoa x).toArray⟩ : ByteArray).size ≤ 21 := by
 have := Lib.itoa_length_le x (by omega) (by omega)
 show (Lib.itoa x).toArray.size ≤ 21
 simpa using this
theorem DU (D : ByteArray) (h : 1 ≤ D.size) : (D.extract 0 1).size = 1 := by simp; omega
theorem Ru {D : ByteArray} (h0 : 1 ≤ D.size) (h : D.size ≤ 1000000) {x : Int} (h1 : -10000 ≤ x) (h2 : x ≤ 10000) : jg.f D x = some (Hf D x) := by
 have hi := DT h1 h2
 have s1 := DU D h0
 have s2 := nK D 1
 have hit : strconv_Itoa.f x = some (⟨(Lib.itoa x).toArray⟩ : ByteArray) := by unfold strconv_Itoa.f; rw [if_pos ⟨by omega, by omega⟩]
 unfold jg.f Hf
 rw [if_pos (by decide), if_pos (by omega)]
 by_cases hc : 1 < D.size
 ·rw [if_pos (by omega), if_pos (by omega), if_pos (by rw [ByteArray.size_append, s1, s2]; show 1 + (1 + _) ≤ _; omega), if_pos (by rw [ByteArray.size_append, ByteArray.size_append, s1, s2]; show 1 + (1 + _) + 1 ≤ _; omega), hit]
  simp only [Option.bind_some]
  rw [if_pos (by rw [ByteArray.size_append, ByteArray.size_append, ByteArray.size_append, s1, s2]; show 1 + (1 + _) + 1 + _ ≤ _; omega), if_pos hc]
 ·rw [if_neg (by omega), if_pos (by omega), hit]
  simp only [Option.bind_some]
  rw [if_pos (by rw [ByteArray.size_append, s1]; show 1 + 1 + _ ≤ _; omega), if_neg hc]
theorem Rw {D : ByteArray} (h0 : 1 ≤ D.size) (h : D.size ≤ 1000000) {x : Int} (h1 : -10000 ≤ x) (h2 : x ≤ 10000) : Ev (fun k => dH.f k D x) (Hf D x) := by
 have hi := DT h1 h2
 have s1 := DU D h0
 have s2 := nK D 1
 have hit := TF h1 h2
 unfold dH.f Hf
 refine Ev.pos (by decide) (Ev.pos (by omega) ?_)
 by_cases hc : 1 < D.size
 ·refine Ev.pos (by omega) (Ev.pos (by omega) (Ev.pos (by rw [ByteArray.size_append, s1, s2]; show 1 + (1 + _) ≤ _; omega) (Ev.pos (by rw [ByteArray.size_append, ByteArray.size_append, s1, s2]; show 1 + (1 + _) + 1 ≤ _; omega) (Ev.bind hit ?_))))
  rw [if_pos hc]
  exact Ev.pos (by rw [ByteArray.size_append, ByteArray.size_append, ByteArray.size_append, s1, s2]; show 1 + (1 + _) + 1 + _ ≤ _; omega) (Ev.now _)
 ·refine Ev.neg (by omega) (Ev.pos (by omega) (Ev.bind hit ?_))
  rw [if_neg hc]
  exact Ev.pos (by rw [ByteArray.size_append, s1]; show 1 + 1 + _ ≤ _; omega) (Ev.now _)
end Go.Proofs.YtafikkmnkeddpaaGreatDoor.P
namespace Go.Proofs.YtafikkmnkeddpaaGreatDoor.P
open Go.RowKit Go.Proofs.YtafikkmnkeddpaaGreatDoorW.PrintWords Go.Proofs.YtafikkmnkeddpaaGreatDoorW.PrintLast Go.Proofs.YtafikkmnkeddpaaGreatDoorW.PrintMore
theorem vM {a w : Nat} (hw : w ≤ 64) : (shr .u64 (a : Int) (w : Int) = 0) ↔ a < 2 ^ w := by
 rw [qV a w hw]
 have := Nat.div_eq_zero_iff (a := a) (b := 2 ^ w)
 have h2 := Nat.two_pow_pos w
 omega
theorem CW {f : Int} {F : Fm} (h : l9 f = some F) (a : Nat) (ha : a < 2 ^ 64) : b_.f f (a : Int) = some (if a < 2 ^ F.W then 0 else 4) := by
 have b := mW h
 unfold b_.f
 rw [Jb h]
 simp only [Option.bind_some]
 rw [if_pos trivial]
 by_cases hw : F.W < 64
 ·rw [if_pos (by omega), if_pos (by omega)]
  by_cases hc : a < 2 ^ F.W
  ·rw [if_pos ((vM (by omega)).2 hc), if_pos hc]
  ·rw [if_neg (fun e => hc ((vM (by omega)).1 e)), if_neg hc]
 ·rw [if_neg (by omega), if_pos (by rwa [show F.W = 64 by omega])]
theorem CX {f : Int} {F : Fm} (h : l9 f = some F) (a : Nat) (ha : a < 2 ^ 64) : dL.f f (a : Int) = some (if a < 2 ^ F.W then 0 else 4) := by
 have b := mW h
 unfold dL.f
 rw [(wH h).row]
 simp only [Option.bind_some]
 rw [if_pos trivial]
 by_cases hw : F.W < 64
 ·rw [if_pos (by omega), wu64 (by omega) (by omega), if_pos (by omega)]
  by_cases hc : a < 2 ^ F.W
  ·rw [if_pos ((vM (by omega)).2 hc), if_pos hc]
  ·rw [if_neg (fun e => hc ((vM (by omega)).1 e)), if_neg hc]
 ·rw [if_neg (by omega), if_pos (by rwa [show F.W = 64 by omega])]
def vN (n : Nat) : ByteArray := ⟨(List.replicate n 48).toArray⟩
theorem qX (n : Nat) : (vN n).size = n := by show (List.replicate n (48 : UInt8)).toArray.size = n; simp
theorem Ku (n : Nat) : vN n ++ ⟨#[48]⟩ = vN (n + 1) := rQ (by rw [o_]; show List.replicate n (48 : UInt8) ++ [48] = List.replicate (n + 1) 48; rw [← List.replicate_succ'])
theorem QO (n : Nat) (hn : n ≤ 1000000) : ∀ d i, i + d = n → Ev (fun k => aV.l0 k (n : Int) (vN i)) (vN n) := by
 intro d
 induction d with
 | zero =>
  intro i hi
  obtain rfl : i = n := by omega
  have := qX i
  exact Ev.one fun k => by rw [aV.l0, if_neg (by omega)]
 | succ d ih =>
  intro i hi
  have := qX i
  refine Ev.step (fun k => by rw [aV.l0, if_pos (by omega), if_pos (by omega), Ku]) (ih (i + 1) (by omega))
theorem QS {n : Nat} (hn : n ≤ 1000000) : Ev (fun k => aV.f k (n : Int)) (vN n) := by
 unfold aV.f
 exact QO n hn n 0 (by omega)
theorem S_ (n : Nat) : Lib.repeatL [48] n = List.replicate n 48 := by
 induction n with
 | zero => simp [Lib.repeatL]
 | succ n ih => rw [Lib.repeatL, ih, List.replicate_succ]; rfl
theorem UF {n : Nat} (hn : n ≤ 1000000) : strings_Repeat.f (⟨#[48]⟩ : ByteArray) (n : Int) = some (vN n) := by
 unfold strings_Repeat.f
 rw [if_pos ⟨by omega, by omega, by show (1 : Nat) ≤ 1000000; decide⟩, Int.toNat_natCast]
 show some (⟨(Lib.repeatL [48] n).toArray⟩ : ByteArray) = _
 rw [S_]
 rfl
theorem w_ (b : Bool) : (sgB b).size ≤ 1 := by cases b <;> decide
theorem Ih (neg : Bool) (x y z : Int) : dI.f neg x y z = some (sgB neg) := by cases neg <;> rfl
theorem Kv {D : ByteArray} (h0 : 1 ≤ D.size) (h : D.size ≤ 1000000) {x : Int} (h1 : -10000 ≤ x) (h2 : x ≤ 10000) : (Hf D x).size ≤ 2000000 := by
 have hi := DT h1 h2
 have s1 := DU D h0
 have s2 := nK D 1
 unfold Hf
 split
 ·rw [ByteArray.size_append, ByteArray.size_append, ByteArray.size_append, ByteArray.size_append, s1, s2]
  show 1 + (1 + _) + 1 + _ ≤ _
  omega
 ·rw [ByteArray.size_append, ByteArray.size_append, s1]
  show 1 + 1 + _ ≤ _
  omega
end Go.Proofs.YtafikkmnkeddpaaGreatDoor.P
namespace Go.Proofs.YtafikkmnkeddpaaGreatDoor.P
open Go.RowKit Go.Proofs.YtafikkmnkeddpaaGreatDoorW.PrintWords Go.Proofs.YtafikkmnkeddpaaGreatDoorW.PrintLast Go.Proofs.YtafikkmnkeddpaaGreatDoorW.PrintMore
theorem QT {u : Nat} (hz : u ≠ 0) : (Int.tmod (rd (wI u) 0) 2 == 1) = decide (u % 2 = 1) := by
 rw [RU hz, Int.tmod_eq_emod_of_nonneg (by omega)]
 have : u % WB % 2 = u % 2 := Nat.mod_mod_of_dvd _ (by decide)
 have e : (((u % WB : Nat) : Int) % 2) = ((u % 2 : Nat) : Int) := by omega
 rw [e, Nl _ _ (u % 2 = 1) (propext ⟨fun h => by omega, fun h => by omega⟩)]
theorem Kw {a b : Nat} (h : iL b) (hl : a ≤ b) : iL a := Nat.le_trans (DY hl) h
end Go.Proofs.YtafikkmnkeddpaaGreatDoor.P
namespace Go.Proofs.YtafikkmnkeddpaaGreatDoor
def mir (m : Int) : Int := if m = 3 then 4 else if m = 4 then 3 else m
theorem Md (m : Int) (odd : Bool) (l : Nat) : xR (mir m) true odd l = xR m false odd l := by
 unfold xR mir
 by_cases h3 : m = 3
 ·subst h3; rfl
 ·by_cases h4 : m = 4
  ·subst h4; rfl
  ·simp only [if_neg h3, if_neg h4]
theorem GV (m : Int) (u l : Nat) : jq (mir m) true u l = jq m false u l := by
 unfold jq
 rw [Md]
theorem GX (F : Fm) (m : Int) : oC F (mir m) true = oC F m false + 2 ^ (F.W - 1) := by
 unfold oC mir
 by_cases h3 : m = 3
 ·subst h3; simp
 ·by_cases h4 : m = 4
  ·subst h4; simp
  ·simp [h3, h4]
theorem OZ (F : Fm) (m : Int) (num den : Nat) (E : Int) : oZ F (mir m) true num den E = ((oZ F m false num den E).1 + 2 ^ (F.W - 1), (oZ F m false num den E).2) := by
 unfold oZ
 simp only [GV, GX]
 split
 ·rfl
 ·simp
end Go.Proofs.YtafikkmnkeddpaaGreatDoor
