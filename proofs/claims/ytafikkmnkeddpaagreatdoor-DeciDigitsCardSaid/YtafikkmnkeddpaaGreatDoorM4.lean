/- Part 4 of the proof: see the last text. Condition: none. -/
import Derived.Laws.BitsAllLaws
import Derived.Lib.ItoaLen
import Derived.Test.YtafikkmnkeddpaaGreatDoorM3
set_option linter.unusedVariables false
set_option linter.unusedSimpArgs false
set_option maxRecDepth 100000
namespace Go.Proofs.YtafikkmnkeddpaaGreatDoor.P
open Go.RowKit Go.Proofs.YtafikkmnkeddpaaGreatDoorW.PrintWords Go.Proofs.YtafikkmnkeddpaaGreatDoorW.PrintLast Go.Proofs.YtafikkmnkeddpaaGreatDoorW.PrintMore Go.Proofs.Tryz
def Ig : Option Int → Value
 | none => .nilIface
 | some c => .iface 0 (.int .i64 c)
def fH.f (a : Int) : Option (Bool) := if a ≥ 0 then (some (decide (a ≤ 5))) else (some false)
def gQ.f (a : Int) : Option (Bool) := if a ≥ 48 then (some (decide (a ≤ 57))) else (some false)
mutual
def aH.j0 : Nat → ByteArray → Int → Bool → Option (Int × Bool)
 | 0, _, _, _ => none
 | k + 1, a, b, c => if c = true then (some (0, false)) else (if 1 ≤ (a.size : Int) then (if (a.extract 1 a.size).toList = ([] : List UInt8) then (aH.j1 k (a.extract 1 a.size) b false) else (if 0 < ((a.extract 1 a.size).size : Int) then (aH.j1 k (a.extract 1 a.size) b ((bt (a.extract 1 a.size) 0) == 45)) else (none))) else (none))
def aH.j1 : Nat → ByteArray → Int → Bool → Option (Int × Bool)
 | 0, _, _, _ => none
 | k + 1, a, b, c => if c = true then (aH.j2 k a b c true) else (if a.toList = ([] : List UInt8) then (aH.j2 k a b c false) else (if 0 < (a.size : Int) then (aH.j2 k a b c ((bt a 0) == 43)) else (none)))
def aH.j2 : Nat → ByteArray → Int → Bool → Bool → Option (Int × Bool)
 | 0, _, _, _, _ => none
 | k + 1, a, b, c, d => if d = true then (if 1 ≤ (a.size : Int) then (aH.j3 k (a.extract 1 a.size) b c) else (none)) else (aH.j3 k a b c)
def aH.j3 : Nat → ByteArray → Int → Bool → Option (Int × Bool)
 | 0, _, _, _ => none
 | k + 1, a, b, c => if a.toList = ([] : List UInt8) then (some (0, false)) else (aH.l0 k a b c (a.size : Int) 0)
def aH.l0 : Nat → ByteArray → Int → Bool → Int → Int → Option (Int × Bool)
 | 0, _, _, _, _, _ => none
 | k + 1, a, b, c, d, e => if e < d then (if 0 ≤ e then (if e < (a.size : Int) then ((gQ.f (bt a e)).bind fun f => (if f = true then (aH.l0 k a (mn (wrap64 ((wrap64 (10 * b)) + (((bt a e) - 48) % 256))) 1048576) c d (wrap64 (e + 1))) else (some (0, false)))) else (none)) else (none)) else (if c = true then (some (wrap64 (-b), true)) else (some (b, true)))
end
def aH.f (k : Nat) (a : ByteArray) : Option (Int × Bool) := if 0 < (a.size : Int) then (if (bt a 0) = 101 then (aH.j0 k a 0 false) else (aH.j0 k a 0 ((bt a 0) != 69))) else (none)
mutual
def aN.j0 : Nat → ByteArray → Bool → Bool → ByteArray → ByteArray → Int → Option (Bool × ByteArray × ByteArray × Int × Bool)
 | 0, _, _, _, _, _, _ => none
 | k + 1, a, b, c, d, e, f => if b = true then (if 0 < (a.size : Int) then (if 1 ≤ (a.size : Int) then (aN.j1 k (a.extract 1 a.size) ((bt a 0) == 45) d e f) else (none)) else (none)) else (aN.j1 k a c d e f)
def aN.j1 : Nat → ByteArray → Bool → ByteArray → ByteArray → Int → Option (Bool × ByteArray × ByteArray × Int × Bool)
 | 0, _, _, _, _, _ => none
 | k + 1, a, b, c, d, e => (iI.f a).bind fun f => (if (a.size : Int) = 3 then (if f.toList = ([105, 110, 102] : List UInt8) then (aN.j2 k a f true b c d e) else (aN.j2 k a f (f.toList == ([110, 97, 110] : List UInt8)) b c d e)) else (aN.j2 k a f false b c d e))
def aN.j2 : Nat → ByteArray → ByteArray → Bool → Bool → ByteArray → ByteArray → Int → Option (Bool × ByteArray × ByteArray × Int × Bool)
 | 0, _, _, _, _, _, _, _ => none
 | k + 1, a, b, c, d, e, f, g => if c = true then (some (d, b, f, g, true)) else (if 0 ≤ (a.size : Int) then (if ((a.size : Int) : Int).toNat ≤ 281474976710656 then (aN.l0 k a (([] : List Int)) false 0 d e f g) else (none)) else (none))
def aN.j4 : Nat → ByteArray → List Int → Int → Bool → ByteArray → ByteArray → Int → Option (Bool × ByteArray × ByteArray × Int × Bool)
 | 0, _, _, _, _, _, _, _ => none
 | k + 1, a, b, c, d, e, f, g => if (b.length : Int) = 0 then (some (d, e, strOfNums b, g, false)) else (if c = (a.size : Int) then (some (d, e, strOfNums b, g, true)) else (if 0 ≤ c then (if c ≤ (a.size : Int) then ((aH.f k (a.extract (c : Int).toNat a.size)).bind fun i => (some (d, e, strOfNums b, wrap64 (g + i.1), i.2))) else (none)) else (none)))
def aN.l0 : Nat → ByteArray → List Int → Bool → Int → Bool → ByteArray → ByteArray → Int → Option (Bool × ByteArray × ByteArray × Int × Bool)
 | 0, _, _, _, _, _, _, _, _ => none
 | k + 1, a, b, c, d, e, f, g, i => if d < (a.size : Int) then (if 0 ≤ d then ((gQ.f (bt a d)).bind fun j => (if j = true then (if b.length < 140737488355328 then ((some (b ++ [bt a d] : List Int)).bind fun m => (if c = true then (aN.l0 k a m c (wrap64 (d + 1)) e f g (wrap64 (i - 1))) else (aN.l0 k a m c (wrap64 (d + 1)) e f g i))) else (none)) else (if (bt a d) = 46 then (if c = true then (aN.j4 k a b d e f g i) else (aN.l0 k a b true (wrap64 (d + 1)) e f g i)) else (aN.j4 k a b d e f g i)))) else (none)) else (aN.j4 k a b d e f g i)
end
def aN.f (k : Nat) (a : ByteArray) : Option (Bool × ByteArray × ByteArray × Int × Bool) := if a.toList = ([] : List UInt8) then (aN.j0 k a false false (⟨#[]⟩ : ByteArray) (⟨#[]⟩ : ByteArray) 0) else (if 0 < (a.size : Int) then (if (bt a 0) = 43 then (aN.j0 k a true false (⟨#[]⟩ : ByteArray) (⟨#[]⟩ : ByteArray) 0) else (aN.j0 k a ((bt a 0) == 45) false (⟨#[]⟩ : ByteArray) (⟨#[]⟩ : ByteArray) 0)) else (none))
def gy.f (a : Int) : Option (Int) := if a < 0 then (some 3) else (if a > 5 then (some 3) else (some 0))
def ig.f (a : Int) (b : Int) : Option (Int × Int × Int × Int × Int) := (bY.f a).bind fun c => (if c.2.2.2.2 = 0 then ((gy.f b).bind fun d => (some (c.1, c.2.1, c.2.2.1, c.2.2.2.1, d))) else (some (c.1, c.2.1, c.2.2.1, c.2.2.2.1, c.2.2.2.2)))
def jv.f (a : Int) (b : Bool) : Option (Int × Int × Int) := (iQ.f a b).bind fun c => (some (c.1, 0, c.2))
mutual
def bG.l0 : Nat → List Int → Int → List Int → Bool → List Int → Int → Bool → Option (Bool × List Int × Int × Bool)
 | 0, _, _, _, _, _, _, _ => none
 | k + 1, a, b, c, d, e, f, g => (iZ.f e).bind fun i => (if i < b then (bG.j1 k a b c (decide (0 < c.length)) d e f g) else (bG.j1 k a b c false d e f g))
def bG.j1 : Nat → List Int → Int → List Int → Bool → Bool → List Int → Int → Bool → Option (Bool × List Int × Int × Bool)
 | 0, _, _, _, _, _, _, _, _ => none
 | k + 1, a, b, c, d, e, f, g, i => if d = true then ((iV.f f f).bind fun j => ((iV.f c c).bind fun m => ((iD.f m a).bind fun n => (if n ≥ 0 then ((kS.f m a).bind fun o => ((iV.f j (([1] : List Int))).bind fun p => (bG.l0 k a b o.1 e p (wrap64 (g - 1)) i))) else (bG.l0 k a b m e j (wrap64 (g - 1)) i))))) else (some (e, f, g, decide (0 < c.length)))
end
def bG.f (k : Nat) (a : List Int) (b : List Int) (c : Int) : Option (Bool × List Int × Int × Bool) := (iZ.f b).bind fun d => ((iZ.f a).bind fun e => ((fV.f a (mx 0 (wrap64 ((wrap64 (d - e)) - 1)))).bind fun f => ((gZ.f f.1 b).bind fun g => (bG.l0 k b c g.2.1 false g.1 (wrap64 (-(mx 0 (wrap64 ((wrap64 (d - e)) - 1))))) false))))
def fM.f (a : Bool) (b : List Int) (c : Int) (d : Bool) : Option (Int) := (iZ.f b).bind fun e => (some (wrap64 ((wrap64 (c + e)) - 1)))
def bV.j0 : Nat → Int → Bool → Bool → Option (Int)
 | 0, _, _, _ => none
 | k + 1, a, b, c => if c = true then ((fP.f a b).bind fun d => (some d.1)) else ((iy.f a b).bind fun e => (some e.1))
def bV.f (k : Nat) (a : Int) (b : Int) (c : Bool) : Option (Int) := if b = 0 then (bV.j0 k a c true) else (if b = 1 then (bV.j0 k a c true) else (if b = 3 then (if c = true then (if b = 4 then (bV.j0 k a c c) else (bV.j0 k a c false)) else (bV.j0 k a c true)) else (if b = 4 then (bV.j0 k a c c) else (bV.j0 k a c false))))
def iq.f (a : Int) (b : Bool) (c : Bool) (d : Int) : Option (Bool) := if a = 4 then (some (!(!b))) else (if a = 3 then (some (!b)) else (if a = 0 then (if d = 2 then (some c) else (some (decide (d ≥ 2)))) else (if a = 1 then (some (decide (d ≥ 2))) else (if a = 5 then (some (!c)) else (some false)))))
mutual
def aA.j0 : Nat → Int → List Int → Bool → List Int → Int → Bool → Option (List Int × Bool)
 | 0, _, _, _, _, _, _ => none
 | k + 1, a, b, c, d, e, f => if (b.length : Int) > 0 then (if 0 < (b.length : Int) then (aA.j1 k a b (Go.bits .and .u64 (rd b 0) 3) c d e f) else (none)) else (aA.j1 k a b 0 c d e f)
def aA.j1 : Nat → Int → List Int → Int → Bool → List Int → Int → Bool → Option (List Int × Bool)
 | 0, _, _, _, _, _, _, _ => none
 | k + 1, a, b, c, d, e, f, g => if g = true then (aA.j2 k a b (Go.bits .or .u64 c 1) d e f g) else (aA.j2 k a b c d e f g)
def aA.j2 : Nat → Int → List Int → Int → Bool → List Int → Int → Bool → Option (List Int × Bool)
 | 0, _, _, _, _, _, _, _ => none
 | k + 1, a, b, c, d, e, f, g => (lN.f b 2).bind fun i => (if (i.1.length : Int) > 0 then (if 0 < (i.1.length : Int) then (aA.j3 k a c i.1 ((Go.bits .and .u64 (rd i.1 0) 1) == 1) d e f g) else (none)) else (aA.j3 k a c i.1 false d e f g))
def aA.j3 : Nat → Int → Int → List Int → Bool → Bool → List Int → Int → Bool → Option (List Int × Bool)
 | 0, _, _, _, _, _, _, _, _ => none
 | k + 1, a, b, c, d, e, f, g, i => if b = 0 then (some (c, (b != 0))) else ((iq.f a e d b).bind fun j => (if j = true then ((iV.f c (([1] : List Int))).bind fun m => (some (m, (b != 0)))) else (some (c, (b != 0)))))
end
def aA.f (k : Nat) (a : Bool) (b : List Int) (c : Int) (d : Bool) (e : Int) (f : Int) : Option (List Int × Bool) := if (wrap64 (f - c)) ≥ 2 then ((lM.f b (wrap64 ((wrap64 (f - c)) - 2))).bind fun g => (aA.j0 k e g.1 a b c d)) else ((fV.f b (wrap64 (2 - (wrap64 (f - c))))).bind fun i => (aA.j0 k e i.1 a b c d))
def fG.f (k : Nat) (a : Bool) (b : List Int) (c : Int) (d : Bool) (e : Int) (f : Int) (g : Int) (i : Int) (j : Int) (m : Int) : Option (Bool) := if m ≥ g then (some false) else ((aA.f k a b c d j (wrap64 ((wrap64 (m - f)) + 1))).bind fun n => ((iZ.f n.1).bind fun o => (some (decide ((wrap64 ((wrap64 (m - f)) + o)) < g)))))
mutual
def aT.j0 : Nat → Int → Int → Int → Int → List Int → Bool → Int → Bool → List Int → Int → Bool → Int → Int → Int → Int → Option (Int × Int)
 | 0, _, _, _, _, _, _, _, _, _, _, _, _, _, _, _ => none
 | k + 1, a, b, c, d, e, f, g, i, j, m, n, o, p, q, t => (iZ.f e).bind fun u => (if (wrap64 ((wrap64 (d + u)) - 1)) > t then ((bV.f k a b i).bind fun v => (some (v, 20))) else (if i = true then (if 0 ≤ (wrap64 (o - 1)) then (aT.j1 k b c f (Go.bits .or .u64 g (shl .u64 1 (wrap64 (o - 1)))) i j m n o p q t) else (none)) else (aT.j1 k b c f g i j m n o p q t)))
def aT.j1 : Nat → Int → Int → Bool → Int → Bool → List Int → Int → Bool → Int → Int → Int → Int → Option (Int × Int)
 | 0, _, _, _, _, _, _, _, _, _, _, _, _ => none
 | k + 1, a, b, c, d, e, f, g, i, j, m, n, o => if c = true then ((fG.f k e f g i j m n o a b).bind fun p => (if p = true then (some (d, 24)) else (some (d, 16)))) else (some (d, 0))
end
def aT.f (k : Nat) (a : Bool) (b : List Int) (c : Int) (d : Bool) (e : Int) (f : Int) (g : Int) (i : Int) (j : Int) (m : Int) : Option (Int × Int) := (fM.f a b c d).bind fun n => (if n > j then ((bV.f k e m a).bind fun o => (some (o, 20))) else ((aA.f k a b c d m (wrap64 ((wrap64 ((mx n i) - g)) + 1))).bind fun p => (if 0 ≤ (wrap64 (g - 1)) then (if (p.1.length : Int) > 0 then (if 0 < (p.1.length : Int) then (aT.j0 k e m n (wrap64 ((wrap64 ((mx n i) - g)) + 1)) p.1 p.2 (IntKind.u64.wrap ((shl .u64 (IntKind.u64.wrap (wrap64 ((wrap64 ((wrap64 ((mx n i) - g)) + 1)) - (wrap64 ((wrap64 (i - g)) + 1))))) (wrap64 (g - 1))) + (rd p.1 0))) a b c d f g i j) else (none)) else (aT.j0 k e m n (wrap64 ((wrap64 ((mx n i) - g)) + 1)) p.1 p.2 (shl .u64 (IntKind.u64.wrap (wrap64 ((wrap64 ((wrap64 ((mx n i) - g)) + 1)) - (wrap64 ((wrap64 (i - g)) + 1))))) (wrap64 (g - 1))) a b c d f g i j)) else (none))))
def dV.j0 : Nat → Int → Int → Bool → List Int → List Int → Int → Bool → Int → Int → Int → Int → Option (Int × Int × Int)
 | 0, _, _, _, _, _, _, _, _, _, _, _ => none
 | k + 1, a, b, c, d, e, f, g, i, j, m, n => if g = true then (some (0, 0, 30)) else (if (e.length : Int) = 0 then (some (0, 0, 10)) else (if (d.length : Int) = 0 then ((jv.f a c).bind fun o => (some (o.1, o.2.1, o.2.2))) else ((bG.f k d e (wrap64 (j + 3))).bind fun p => ((aT.f k c p.2.1 (wrap64 (p.2.2.1 + f)) p.2.2.2 a i j m n b).bind fun q => (some (q.1, q.2, 0))))))
def dV.f (k : Nat) (a : Int) (b : Int) (c : Bool) (d : List Int) (e : List Int) (f : Int) : Option (Int × Int × Int) := (ig.f a b).bind fun g => (if g.2.2.2.2 = 0 then ((kC.f d).bind fun i => ((kC.f e).bind fun j => (if (wrap64 ((i.length : Int) + (j.length : Int))) > 1024 then (some (0, 0, 5)) else (if f < (-40000) then (dV.j0 k a b c i j f true g.1 g.2.1 g.2.2.1 g.2.2.2.1) else (dV.j0 k a b c i j f (decide (f > 40000)) g.1 g.2.1 g.2.2.1 g.2.2.2.1))))) else (some (0, 0, g.2.2.2.2)))
def fC.f (a : Int) : Option (List Int) := (gV.f 10 a).bind fun b => (some b.1)
def fO.f (k : Nat) (a : Int) (b : Int) (c : ByteArray) : Option (Int × Int × Int) := (bY.f a).bind fun d => (if d.2.2.2.2 = 0 then ((fH.f b).bind fun e => (if e = true then (if (c.size : Int) > 2000 then (some (0, 0, 5)) else ((aN.f k c).bind fun f => (if f.2.2.2.2 = true then ((iw.f f.2.2.1 (⟨#[48]⟩ : ByteArray)).bind fun g => (if f.2.1.toList = ([105, 110, 102] : List UInt8) then ((fP.f a f.1).bind fun i => (some (i.1, 0, i.2))) else (if f.2.1.toList = ([110, 97, 110] : List UInt8) then ((jL.f a).bind fun j => (some (j.1, 0, j.2))) else (if g.toList = ([] : List UInt8) then ((iQ.f a f.1).bind fun m => (some (m.1, 0, m.2))) else ((jU.f g).bind fun n => (if (mx (wrap64 ((-400) - (g.size : Int))) (mn f.2.2.2.1 (wrap64 (400 - (g.size : Int))))) < 0 then ((fC.f (wrap64 (-(mx (wrap64 ((-400) - (g.size : Int))) (mn f.2.2.2.1 (wrap64 (400 - (g.size : Int)))))))).bind fun o => ((dV.f k a b f.1 n.1 o 0).bind fun p => (some (p.1, p.2.1, p.2.2)))) else ((fC.f (mx (wrap64 ((-400) - (g.size : Int))) (mn f.2.2.2.1 (wrap64 (400 - (g.size : Int)))))).bind fun q => ((iF.f n.1 q).bind fun t => ((dV.f k a b f.1 t.1 (([1] : List Int)) 0).bind fun u => (some (u.1, u.2.1, u.2.2))))))))))) else (some (0, 0, 8))))) else (some (0, 0, 3)))) else (some (0, 0, d.2.2.2.2)))
def bT.f (a : Int) : Option (Int × Int × Int × Int × Bool) := if a = 0 then (some (16, 11, (-14), 15, true)) else (if a = 1 then (some (16, 8, (-126), 127, true)) else (if a = 2 then (some (32, 24, (-126), 127, true)) else (if a = 3 then (some (64, 53, (-1022), 1023, true)) else (some (0, 0, 0, 0, false)))))
def dU.f (a : Int) (b : Int) : Option (Int) := (bT.f a).bind fun c => (if c.2.2.2.2 = true then (if c.1 < 64 then (if 0 ≤ (IntKind.u64.wrap (c.1)) then (if (shr .u64 b (IntKind.u64.wrap (c.1))) = 0 then (some 0) else (some 4)) else (none)) else (some 0)) else (some 2))
mutual
def aI.j0 : Nat → Int → List Int → Bool → Option (Int)
 | 0, _, _, _ => none
 | k + 1, a, b, c => if c = true then (some 3) else (aI.l0 k a b (b.length : Int) 0)
def aI.l0 : Nat → Int → List Int → Int → Int → Option (Int)
 | 0, _, _, _, _ => none
 | k + 1, a, b, c, d => if d < c then (if 0 ≤ d then (if d < (b.length : Int) then ((dU.f a (rd b d)).bind fun e => (if e = 0 then (aI.l0 k a b c (wrap64 (d + 1))) else (some e))) else (none)) else (none)) else (some 0)
end
def aI.f (k : Nat) (a : Int) (b : Int) (c : List Int) : Option (Int) := (bT.f a).bind fun d => (if d.2.2.2.2 = true then (if b < 0 then (aI.j0 k a c true) else (aI.j0 k a c (decide (b > 5)))) else (some 2))
def fF.l0 : Nat → ByteArray → ByteArray → Int → Option (ByteArray)
 | 0, _, _, _ => none
 | k + 1, a, b, c => if c < (a.size : Int) then (if 0 ≤ c then (if (bt a c) ≥ 65 then (if (bt a c) ≤ 90 then ((some (([((bt a c) + 32) % 256] : List Int) : List Int)).bind fun d => (if b.size + (strOfNums d).size ≤ 9223372036854775807 then (fF.l0 k a (b ++ (strOfNums d)) (wrap64 (c + 1))) else (none))) else ((some (([bt a c] : List Int) : List Int)).bind fun e => (if b.size + (strOfNums e).size ≤ 9223372036854775807 then (fF.l0 k a (b ++ (strOfNums e)) (wrap64 (c + 1))) else (none)))) else ((some (([bt a c] : List Int) : List Int)).bind fun f => (if b.size + (strOfNums f).size ≤ 9223372036854775807 then (fF.l0 k a (b ++ (strOfNums f)) (wrap64 (c + 1))) else (none)))) else (none)) else (some b)
def fF.f (k : Nat) (a : ByteArray) : Option (ByteArray) := fF.l0 k a (⟨#[]⟩ : ByteArray) 0
def jd.f (a : Int) : Option (Bool) := if a ≥ 48 then (some (decide (a ≤ 57))) else (some false)
mutual
def bH.j0 : Nat → ByteArray → Bool → Option (Int × Bool)
 | 0, _, _ => none
 | k + 1, a, b => if (a.size : Int) > 0 then (if 0 < (a.size : Int) then (if (bt a 0) = 45 then (bH.j1 k a b true) else (bH.j1 k a b ((bt a 0) == 43))) else (none)) else (bH.j1 k a b false)
def bH.j1 : Nat → ByteArray → Bool → Bool → Option (Int × Bool)
 | 0, _, _, _ => none
 | k + 1, a, b, c => if c = true then (if 1 ≤ (a.size : Int) then (bH.j2 k (a.extract 1 a.size) b) else (none)) else (bH.j2 k a b)
def bH.j2 : Nat → ByteArray → Bool → Option (Int × Bool)
 | 0, _, _ => none
 | k + 1, a, b => bH.l0 k a b 0 0
def bH.l0 : Nat → ByteArray → Bool → Int → Int → Option (Int × Bool)
 | 0, _, _, _, _ => none
 | k + 1, a, b, c, d => if d < (a.size : Int) then (if 0 ≤ d then ((jd.f (bt a d)).bind fun e => (if e = true then (bH.l0 k a b (mn (wrap64 ((wrap64 (10 * c)) + (((bt a d) - 48) % 256))) 1000000000) (wrap64 (d + 1))) else (some (0, false)))) else (none)) else (if b = true then (some (wrap64 (-c), decide ((a.size : Int) > 0))) else (some (c, decide ((a.size : Int) > 0))))
end
def bH.f (k : Nat) (a : ByteArray) : Option (Int × Bool) := if (a.size : Int) > 0 then (if 0 < (a.size : Int) then (bH.j0 k a ((bt a 0) == 45)) else (none)) else (bH.j0 k a false)
mutual
def aZ.j0 : Nat → ByteArray → Bool → Bool → Bool → Bool → ByteArray → Int → Option (Bool × Bool × Bool × ByteArray × Int × Bool)
 | 0, _, _, _, _, _, _, _ => none
 | k + 1, a, b, c, d, e, f, g => if b = true then (if 0 < (a.size : Int) then (if 1 ≤ (a.size : Int) then (aZ.j1 k (a.extract 1 a.size) ((bt a 0) == 45) d e f g) else (none)) else (none)) else (aZ.j1 k a c d e f g)
def aZ.j1 : Nat → ByteArray → Bool → Bool → Bool → ByteArray → Int → Option (Bool × Bool × Bool × ByteArray × Int × Bool)
 | 0, _, _, _, _, _, _ => none
 | k + 1, a, b, c, d, e, f => if (a.size : Int) = 3 then ((fF.f k a).bind fun g => ((fF.f k a).bind fun i => (if g.toList = ([105, 110, 102] : List UInt8) then (some (b, (g.toList == ([105, 110, 102] : List UInt8)), (i.toList == ([110, 97, 110] : List UInt8)), e, f, true)) else (if i.toList = ([110, 97, 110] : List UInt8) then (some (b, (g.toList == ([105, 110, 102] : List UInt8)), (i.toList == ([110, 97, 110] : List UInt8)), e, f, true)) else (aZ.j2 k a b (g.toList == ([105, 110, 102] : List UInt8)) (i.toList == ([110, 97, 110] : List UInt8)) e f))))) else (aZ.j2 k a b c d e f)
def aZ.j2 : Nat → ByteArray → Bool → Bool → Bool → ByteArray → Int → Option (Bool × Bool × Bool × ByteArray × Int × Bool)
 | 0, _, _, _, _, _, _ => none
 | k + 1, a, b, c, d, e, f => aZ.l0 k a (-1) 0 b c d e f
def aZ.l0 : Nat → ByteArray → Int → Int → Bool → Bool → Bool → ByteArray → Int → Option (Bool × Bool × Bool × ByteArray × Int × Bool)
 | 0, _, _, _, _, _, _, _, _ => none
 | k + 1, a, b, c, d, e, f, g, i => if c < (a.size : Int) then (if 0 ≤ c then ((jd.f (bt a c)).bind fun j => (if j = true then (if c ≤ (wrap64 (c + 1)) then (if (wrap64 (c + 1)) ≤ (a.size : Int) then (if g.size + (a.extract (c : Int).toNat ((wrap64 (c + 1)) : Int).toNat).size ≤ 9223372036854775807 then (if b ≥ 0 then (aZ.l0 k a (wrap64 (b + 1)) (wrap64 (c + 1)) d e f (g ++ (a.extract (c : Int).toNat ((wrap64 (c + 1)) : Int).toNat)) i) else (aZ.l0 k a b (wrap64 (c + 1)) d e f (g ++ (a.extract (c : Int).toNat ((wrap64 (c + 1)) : Int).toNat)) i)) else (none)) else (none)) else (none)) else (if (bt a c) = 46 then (aZ.j4 k a b c (decide (b < 0)) d e f g i) else (aZ.j4 k a b c false d e f g i)))) else (none)) else (some (d, e, f, g, wrap64 (-(mx 0 b)), (g.toList != ([] : List UInt8))))
def aZ.j4 : Nat → ByteArray → Int → Int → Bool → Bool → Bool → Bool → ByteArray → Int → Option (Bool × Bool × Bool × ByteArray × Int × Bool)
 | 0, _, _, _, _, _, _, _, _, _ => none
 | k + 1, a, b, c, d, e, f, g, i, j => if d = true then (aZ.l0 k a 0 (wrap64 (c + 1)) e f g i j) else (if 0 ≤ c then (if c < (a.size : Int) then (if (bt a c) = 101 then (if 0 ≤ (wrap64 (c + 1)) then (if (wrap64 (c + 1)) ≤ (a.size : Int) then ((bH.f k (a.extract ((wrap64 (c + 1)) : Int).toNat a.size)).bind fun m => (if m.2 = true then (some (e, f, g, i, wrap64 (m.1 - (mx 0 b)), (i.toList != ([] : List UInt8)))) else (some (e, f, g, i, wrap64 (m.1 - (mx 0 b)), false)))) else (none)) else (none)) else (if (bt a c) = 69 then (if 0 ≤ (wrap64 (c + 1)) then (if (wrap64 (c + 1)) ≤ (a.size : Int) then ((bH.f k (a.extract ((wrap64 (c + 1)) : Int).toNat a.size)).bind fun n => (if n.2 = true then (some (e, f, g, i, wrap64 (n.1 - (mx 0 b)), (i.toList != ([] : List UInt8)))) else (some (e, f, g, i, wrap64 (n.1 - (mx 0 b)), false)))) else (none)) else (none)) else (some (e, f, g, i, j, false)))) else (none)) else (none))
end
def aZ.f (k : Nat) (a : ByteArray) : Option (Bool × Bool × Bool × ByteArray × Int × Bool) := if (a.size : Int) > 0 then (if 0 < (a.size : Int) then (if (bt a 0) = 45 then (aZ.j0 k a true false false false (⟨#[]⟩ : ByteArray) 0) else (aZ.j0 k a ((bt a 0) == 43) false false false (⟨#[]⟩ : ByteArray) 0)) else (none)) else (aZ.j0 k a false false false false (⟨#[]⟩ : ByteArray) 0)
def fK.f (a : Int) (b : Int) (c : Int) (d : Int) : Option (Int) := (bT.f a).bind fun e => (if 0 ≤ (IntKind.u64.wrap (wrap64 (e.1 - 1))) then (if 0 ≤ (IntKind.u64.wrap (wrap64 (e.2.1 - 1))) then (some (Go.bits .or .u64 (Go.bits .or .u64 (shl .u64 b (IntKind.u64.wrap (wrap64 (e.1 - 1)))) (shl .u64 c (IntKind.u64.wrap (wrap64 (e.2.1 - 1))))) d)) else (none)) else (none))
def jV.f (a : Int) : Option (Int) := (bT.f a).bind fun b => (if 0 ≤ (IntKind.u64.wrap (wrap64 (b.2.1 - 2))) then ((fK.f a 0 (IntKind.u64.wrap (wrap64 ((wrap64 (2 * b.2.2.2.1)) + 1))) (shl .u64 1 (IntKind.u64.wrap (wrap64 (b.2.1 - 2))))).bind fun c => (some c)) else (none))
def jB.f (a : Int) (b : Int) : Option (Int) := (bT.f a).bind fun c => ((fK.f a b (IntKind.u64.wrap (wrap64 ((wrap64 (2 * c.2.2.2.1)) + 1))) 0).bind fun d => (some d))
def bf.l0 : Nat → List Int → List Int → Int → Option (List Int)
 | 0, _, _, _ => none
 | k + 1, a, b, c => if c < (a.length : Int) then (if 0 ≤ (wrap64 (Int.tdiv c 2)) then (if (wrap64 (Int.tdiv c 2)) < (b.length : Int) then (if 0 ≤ c then (if 0 ≤ (IntKind.u64.wrap (wrap64 (32 * (Int.tmod c 2)))) then (bf.l0 k a (b.set ((wrap64 (Int.tdiv c 2)) : Int).toNat (Go.bits .or .u64 (rd b (wrap64 (Int.tdiv c 2))) (shl .u64 (rd a c) (IntKind.u64.wrap (wrap64 (32 * (Int.tmod c 2))))))) (wrap64 (c + 1))) else (none)) else (none)) else (none)) else (none)) else ((bK.f b).bind fun d => (some d))
def bf.f (k : Nat) (a : List Int) : Option (List Int) := if 0 ≤ (wrap64 (Int.tdiv (wrap64 ((a.length : Int) + 1)) 2)) then (if (wrap64 (Int.tdiv (wrap64 ((a.length : Int) + 1)) 2) : Int).toNat ≤ 35184372088832 then (bf.l0 k a (List.replicate (wrap64 (Int.tdiv (wrap64 ((a.length : Int) + 1)) 2) : Int).toNat 0) 0) else (none)) else (none)
mutual
def bQ.l0 : Nat → ByteArray → List Int → Int → Int → Int → Option (List Int × Int)
 | 0, _, _, _, _, _ => none
 | k + 1, a, b, c, d, e => if e < (a.size : Int) then (if 0 ≤ e then (if (bt a e) < 48 then (bQ.j1 k a b c d e true) else (bQ.j1 k a b c d e (decide ((bt a e) > 57)))) else (none)) else ((bf.f k b).bind fun f => (if (f.length : Int) > 1024 then (some (([] : List Int), 5)) else (some (f, 0))))
def bQ.j1 : Nat → ByteArray → List Int → Int → Int → Int → Bool → Option (List Int × Int)
 | 0, _, _, _, _, _, _ => none
 | k + 1, a, b, c, d, e, f => if f = true then (some (([] : List Int), 8)) else (if 0 ≤ e then (if e < (a.size : Int) then (if (Int.tmod e 9) = 8 then (bQ.j2 k a b (IntKind.u64.wrap ((IntKind.u64.wrap (10 * c)) + (((bt a e) - 48) % 256))) (IntKind.u64.wrap (10 * d)) e true) else (bQ.j2 k a b (IntKind.u64.wrap ((IntKind.u64.wrap (10 * c)) + (((bt a e) - 48) % 256))) (IntKind.u64.wrap (10 * d)) e (e == (wrap64 ((a.size : Int) - 1))))) else (none)) else (none))
def bQ.j2 : Nat → ByteArray → List Int → Int → Int → Int → Bool → Option (List Int × Int)
 | 0, _, _, _, _, _, _ => none
 | k + 1, a, b, c, d, e, f => if f = true then (bQ.l1 k a b d e c 0) else (bQ.l0 k a b c d (wrap64 (e + 1)))
def bQ.l1 : Nat → ByteArray → List Int → Int → Int → Int → Int → Option (List Int × Int)
 | 0, _, _, _, _, _, _ => none
 | k + 1, a, b, c, d, e, f => if f < (b.length : Int) then (if 0 ≤ f then (bQ.l1 k a (b.set (f : Int).toNat (Go.bits .and .u64 (IntKind.u64.wrap ((IntKind.u64.wrap ((rd b f) * c)) + e)) 4294967295)) c d ((IntKind.u64.wrap ((IntKind.u64.wrap ((rd b f) * c)) + e)) / 4294967296) (wrap64 (f + 1))) else (none)) else (if e > 0 then (if b.length < 17592186044416 then (bQ.l0 k a (b ++ [e]) 0 1 (wrap64 (d + 1))) else (none)) else (bQ.l0 k a b 0 1 (wrap64 (d + 1))))
end
def bQ.f (k : Nat) (a : ByteArray) : Option (List Int × Int) := if (a.size : Int) > 20000 then (some (([] : List Int), 5)) else (if (a.size : Int) = 0 then (some (([] : List Int), 8)) else (if 0 ≤ (wrap64 ((wrap64 ((a.size : Int) / 9)) + 2)) then (if (wrap64 ((wrap64 ((a.size : Int) / 9)) + 2) : Int).toNat ≤ 35184372088832 then (bQ.l0 k a (([] : List Int)) 0 1 0) else (none)) else (none)))
def jr.f (a : Int) (b : Int) : Option (Int) := (fK.f a b 0 0).bind fun c => (some c)
def aG.l0 : Nat → List Int → Int → Option (Int)
 | 0, _, _ => none
 | k + 1, a, b => if b > 0 then (if 0 ≤ (wrap64 (b - 1)) then (if (wrap64 (b - 1)) < (a.length : Int) then (if (rd a (wrap64 (b - 1))) = 0 then (aG.l0 k a (wrap64 (b - 1))) else (some b)) else (none)) else (none)) else (some b)
def aG.f (k : Nat) (a : List Int) : Option (Int) := aG.l0 k a (a.length : Int)
def aQ.l0 : Nat → List Int → Int → List Int → Int → Option (List Int)
 | 0, _, _, _, _ => none
 | k + 1, a, b, c, d => if d < b then (if 0 ≤ d then (if d < (a.length : Int) then (if 0 ≤ (wrap64 (2 * d)) then (if (wrap64 (2 * d)) < (c.length : Int) then (if 0 ≤ (wrap64 ((wrap64 (2 * d)) + 1)) then (if (wrap64 ((wrap64 (2 * d)) + 1)) < (c.length : Int) then (aQ.l0 k a b ((c.set ((wrap64 (2 * d)) : Int).toNat (Go.bits .and .u64 (rd a d) 4294967295)).set ((wrap64 ((wrap64 (2 * d)) + 1)) : Int).toNat ((rd a d) / 4294967296)) (wrap64 (d + 1))) else (none)) else (none)) else (none)) else (none)) else (none)) else (none)) else (some c)
def aQ.f (k : Nat) (a : List Int) : Option (List Int) := (aG.f k a).bind fun b => (if 0 ≤ (wrap64 (2 * b)) then (if (wrap64 (2 * b) : Int).toNat ≤ 35184372088832 then (aQ.l0 k a b (List.replicate (wrap64 (2 * b) : Int).toNat 0) 0) else (none)) else (none))
mutual
def ah.l0 : Nat → List Int → List Int → Int → Option (ByteArray × Int)
 | 0, _, _, _ => none
 | k + 1, a, b, c => if c > 0 then (ah.l1 k a b c 0 (wrap64 (c - 1))) else (if 0 ≤ (b.length : Int) then (if ((b.length : Int) : Int).toNat ≤ 281474976710656 then (ah.l4 k b (List.replicate ((b.length : Int) : Int).toNat 0) 0) else (none)) else (none))
def ah.l1 : Nat → List Int → List Int → Int → Int → Int → Option (ByteArray × Int)
 | 0, _, _, _, _, _ => none
 | k + 1, a, b, c, d, e => if e ≥ 0 then (if 0 ≤ e then (if e < (a.length : Int) then (ah.l1 k (a.set (e : Int).toNat (IntKind.u64.wrap (Int.tdiv (Go.bits .or .u64 (IntKind.u64.wrap (d * 4294967296)) (rd a e)) 1000000000))) b c (Int.tmod (Go.bits .or .u64 (IntKind.u64.wrap (d * 4294967296)) (rd a e)) 1000000000) (wrap64 (e - 1))) else (none)) else (none)) else (ah.l2 k a b c d)
def ah.j3 : Nat → List Int → List Int → Int → Int → Option (ByteArray × Int)
 | 0, _, _, _, _ => none
 | k + 1, a, b, c, d => ah.l3 k a b c d 0
def ah.l3 : Nat → List Int → List Int → Int → Int → Int → Option (ByteArray × Int)
 | 0, _, _, _, _, _ => none
 | k + 1, a, b, c, d, e => if e < 9 then (if c > 0 then (if b.length < 140737488355328 then (ah.l3 k a (b ++ [(IntKind.u64.wrap (48 + (Int.tmod d 10))) % 256]) c (IntKind.u64.wrap (Int.tdiv d 10)) (wrap64 (e + 1))) else (none)) else (if d > 0 then (if b.length < 140737488355328 then (ah.l3 k a (b ++ [(IntKind.u64.wrap (48 + (Int.tmod d 10))) % 256]) c (IntKind.u64.wrap (Int.tdiv d 10)) (wrap64 (e + 1))) else (none)) else (ah.l0 k a b c))) else (ah.l0 k a b c)
def ah.l2 : Nat → List Int → List Int → Int → Int → Option (ByteArray × Int)
 | 0, _, _, _, _ => none
 | k + 1, a, b, c, d => if c > 0 then (if 0 ≤ (wrap64 (c - 1)) then (if (wrap64 (c - 1)) < (a.length : Int) then (if (rd a (wrap64 (c - 1))) = 0 then (ah.l2 k a b (wrap64 (c - 1)) d) else (ah.j3 k a b c d)) else (none)) else (none)) else (ah.j3 k a b c d)
def ah.l4 : Nat → List Int → List Int → Int → Option (ByteArray × Int)
 | 0, _, _, _ => none
 | k + 1, a, b, c => if c < (a.length : Int) then (if 0 ≤ (wrap64 ((wrap64 ((a.length : Int) - 1)) - c)) then (if (wrap64 ((wrap64 ((a.length : Int) - 1)) - c)) < (a.length : Int) then (if 0 ≤ c then (if c < (b.length : Int) then (ah.l4 k a (b.set (c : Int).toNat (rd a (wrap64 ((wrap64 ((a.length : Int) - 1)) - c)))) (wrap64 (c + 1))) else (none)) else (none)) else (none)) else (none)) else (some (strOfNums b, 0))
end
def ah.f (k : Nat) (a : List Int) : Option (ByteArray × Int) := (aG.f k a).bind fun b => (if b > 1024 then (some ((⟨#[]⟩ : ByteArray), 5)) else ((aG.f k a).bind fun c => (if c = 0 then (some ((⟨#[48]⟩ : ByteArray), 0)) else ((aQ.f k a).bind fun d => (ah.l0 k d ([] : List Int) (d.length : Int))))))
mutual
def ak.l0 : Nat → List Int → List Int → List Int → Int → Option (List Int)
 | 0, _, _, _, _ => none
 | k + 1, a, b, c, d => if d < (a.length : Int) then (ak.l1 k a b c d 0 0) else ((bf.f k c).bind fun e => (some e))
def ak.l1 : Nat → List Int → List Int → List Int → Int → Int → Int → Option (List Int)
 | 0, _, _, _, _, _, _ => none
 | k + 1, a, b, c, d, e, f => if f < (b.length : Int) then (if 0 ≤ d then (if d < (a.length : Int) then (if 0 ≤ f then (if 0 ≤ (wrap64 (d + f)) then (if (wrap64 (d + f)) < (c.length : Int) then (ak.l1 k a b (c.set ((wrap64 (d + f)) : Int).toNat (Go.bits .and .u64 (IntKind.u64.wrap ((IntKind.u64.wrap ((IntKind.u64.wrap ((rd a d) * (rd b f))) + (rd c (wrap64 (d + f))))) + e)) 4294967295)) d ((IntKind.u64.wrap ((IntKind.u64.wrap ((IntKind.u64.wrap ((rd a d) * (rd b f))) + (rd c (wrap64 (d + f))))) + e)) / 4294967296) (wrap64 (f + 1))) else (none)) else (none)) else (none)) else (none)) else (none)) else (if (b.length : Int) > 0 then (if 0 ≤ (wrap64 (d + (b.length : Int))) then (if (wrap64 (d + (b.length : Int))) < (c.length : Int) then (ak.l0 k a b (c.set ((wrap64 (d + (b.length : Int))) : Int).toNat e) (wrap64 (d + 1))) else (none)) else (none)) else (ak.l0 k a b c (wrap64 (d + 1))))
end
def ak.f (k : Nat) (a : List Int) (b : List Int) : Option (List Int) := (aQ.f k a).bind fun c => ((aQ.f k b).bind fun d => (if 0 ≤ (wrap64 ((c.length : Int) + (d.length : Int))) then (if (wrap64 ((c.length : Int) + (d.length : Int)) : Int).toNat ≤ 35184372088832 then (ak.l0 k c d (List.replicate (wrap64 ((c.length : Int) + (d.length : Int)) : Int).toNat 0) 0) else (none)) else (none)))
def bZ.f (k : Nat) (a : List Int) (b : List Int) : Option (List Int) := (ak.f k a b).bind fun c => (some c)
mutual
def au.j0 : Nat → Int → Int → Bool → Option (List Int × Int)
 | 0, _, _, _ => none
 | k + 1, a, b, c => if c = true then (some (([] : List Int), 7)) else (au.l0 k a b (([1] : List Int)) 0)
def au.l0 : Nat → Int → Int → List Int → Int → Option (List Int × Int)
 | 0, _, _, _, _ => none
 | k + 1, a, b, c, d => if d < b then (au.j2 k a b c d (a != 1)) else (au.j2 k a b c d false)
def au.j2 : Nat → Int → Int → List Int → Int → Bool → Option (List Int × Int)
 | 0, _, _, _, _, _ => none
 | k + 1, a, b, c, d, e => if e = true then ((ak.f k c (([a] : List Int))).bind fun f => (if (f.length : Int) > 1024 then (some (([] : List Int), 5)) else (if (f.length : Int) = 0 then (some (f, 0)) else (au.l0 k a b f (wrap64 (d + 1)))))) else (some (c, 0))
end
def au.f (k : Nat) (a : Int) (b : Int) : Option (List Int × Int) := if b < 0 then (au.j0 k a b true) else (au.j0 k a b (decide (b > 20000)))
def dR.f (k : Nat) (a : Int) : Option (List Int) := (au.f k 10 a).bind fun b => (some b.1)
def aW.l0 : Nat → Int → Int → Int → Option (Int)
 | 0, _, _, _ => none
 | k + 1, a, b, c => if c > 0 then (aW.l0 k a (wrap64 (b + 1)) (c / 2)) else (some (wrap64 ((wrap64 (64 * (wrap64 (a - 1)))) + b)))
def aW.f (k : Nat) (a : List Int) : Option (Int) := (aG.f k a).bind fun b => (if b = 0 then (some 0) else (if 0 ≤ (wrap64 (b - 1)) then (if (wrap64 (b - 1)) < (a.length : Int) then (aW.l0 k b 0 (rd a (wrap64 (b - 1)))) else (none)) else (none)))
def iC.f (a : Bool) : Option (Int) := if a = true then (some 1) else (some 0)
def bJ.l0 : Nat → List Int → Int → Int → List Int → Int → Option (List Int)
 | 0, _, _, _, _, _ => none
 | k + 1, a, b, c, d, e => if e < c then (if 0 ≤ (wrap64 (e + (wrap64 (Int.tdiv b 64)))) then (if (wrap64 (e + (wrap64 (Int.tdiv b 64)))) < (d.length : Int) then (if 0 ≤ e then (if e < (a.length : Int) then (if 0 ≤ (IntKind.u64.wrap (Int.tmod b 64)) then ((some (d.set ((wrap64 (e + (wrap64 (Int.tdiv b 64)))) : Int).toNat (Go.bits .or .u64 (rd d (wrap64 (e + (wrap64 (Int.tdiv b 64))))) (shl .u64 (rd a e) (IntKind.u64.wrap (Int.tmod b 64)))) : List Int)).bind fun f => (if (Int.tmod b 64) > 0 then (if 0 ≤ (IntKind.u64.wrap (wrap64 (64 - (Int.tmod b 64)))) then (if 0 ≤ (wrap64 ((wrap64 (e + (wrap64 (Int.tdiv b 64)))) + 1)) then (if (wrap64 ((wrap64 (e + (wrap64 (Int.tdiv b 64)))) + 1)) < (d.length : Int) then (bJ.l0 k a b c (f.set ((wrap64 ((wrap64 (e + (wrap64 (Int.tdiv b 64)))) + 1)) : Int).toNat (shr .u64 (rd a e) (IntKind.u64.wrap (wrap64 (64 - (Int.tmod b 64)))))) (wrap64 (e + 1))) else (none)) else (none)) else (none)) else (bJ.l0 k a b c f (wrap64 (e + 1))))) else (none)) else (none)) else (none)) else (none)) else (none)) else ((bK.f d).bind fun g => (some g))
def bJ.f (k : Nat) (a : List Int) (b : Int) : Option (List Int) := (aG.f k a).bind fun c => (if 0 ≤ (wrap64 ((wrap64 (c + (wrap64 (Int.tdiv b 64)))) + 1)) then (if (wrap64 ((wrap64 (c + (wrap64 (Int.tdiv b 64)))) + 1) : Int).toNat ≤ 35184372088832 then (bJ.l0 k a b c (List.replicate (wrap64 ((wrap64 (c + (wrap64 (Int.tdiv b 64)))) + 1) : Int).toNat 0) 0) else (none)) else (none))
def dL.f (k : Nat) (a : List Int) (b : Int) : Option (List Int) := (bJ.f k a b).bind fun c => (some c)
def d_.f (a : List Int) (b : Int) : Option (Int) := if b < (a.length : Int) then (if 0 ≤ b then (some (rd a b)) else (none)) else (some 0)
mutual
def aj.j0 : Nat → List Int → List Int → Int → Option (List Int)
 | 0, _, _, _ => none
 | k + 1, a, b, c => if 0 ≤ (wrap64 (c + 1)) then (if (wrap64 (c + 1) : Int).toNat ≤ 35184372088832 then (aj.l0 k a b c (List.replicate (wrap64 (c + 1) : Int).toNat 0) 0 0) else (none)) else (none)
def aj.l0 : Nat → List Int → List Int → Int → List Int → Int → Int → Option (List Int)
 | 0, _, _, _, _, _, _ => none
 | k + 1, a, b, c, d, e, f => if f < c then ((d_.f a f).bind fun g => ((d_.f b f).bind fun i => (if (IntKind.u64.wrap (g + i)) < g then (if 0 ≤ f then (if f < (d.length : Int) then (aj.l0 k a b c (d.set (f : Int).toNat (IntKind.u64.wrap ((IntKind.u64.wrap (g + i)) + e))) 1 (wrap64 (f + 1))) else (none)) else (none)) else (if (IntKind.u64.wrap ((IntKind.u64.wrap (g + i)) + e)) < (IntKind.u64.wrap (g + i)) then (if 0 ≤ f then (if f < (d.length : Int) then (aj.l0 k a b c (d.set (f : Int).toNat (IntKind.u64.wrap ((IntKind.u64.wrap (g + i)) + e))) 1 (wrap64 (f + 1))) else (none)) else (none)) else (if 0 ≤ f then (if f < (d.length : Int) then (aj.l0 k a b c (d.set (f : Int).toNat (IntKind.u64.wrap ((IntKind.u64.wrap (g + i)) + e))) 0 (wrap64 (f + 1))) else (none)) else (none)))))) else (if 0 ≤ c then (if c < (d.length : Int) then ((bK.f (d.set (c : Int).toNat e)).bind fun j => (some j)) else (none)) else (none))
end
def aj.f (k : Nat) (a : List Int) (b : List Int) : Option (List Int) := (aG.f k a).bind fun c => ((aG.f k b).bind fun d => (if d > c then ((aG.f k b).bind fun e => (aj.j0 k a b e)) else (aj.j0 k a b c)))
def aU.l0 : Nat → List Int → List Int → Int → Option (Int)
 | 0, _, _, _ => none
 | k + 1, a, b, c => if c ≥ 0 then (if 0 ≤ c then (if c < (a.length : Int) then (if c < (b.length : Int) then (if (rd a c) < (rd b c) then (some (-1)) else (if (rd a c) > (rd b c) then (some 1) else (aU.l0 k a b (wrap64 (c - 1))))) else (none)) else (none)) else (none)) else (some 0)
def aU.f (k : Nat) (a : List Int) (b : List Int) : Option (Int) := (aG.f k a).bind fun c => ((aG.f k b).bind fun d => (if c = d then (aU.l0 k a b (wrap64 (d - 1))) else (if c < d then (some (-1)) else (some 1))))
def eF.f (a : List Int) (b : Int) : Option (Int) := if b < 0 then (some 0) else (if (wrap64 (Int.tdiv b 64)) ≥ (a.length : Int) then (some 0) else (if 0 ≤ (wrap64 (Int.tdiv b 64)) then (if (wrap64 (Int.tdiv b 64)) < (a.length : Int) then (if 0 ≤ (IntKind.u64.wrap (Int.tmod b 64)) then (some (Go.bits .and .u64 (shr .u64 (rd a (wrap64 (Int.tdiv b 64))) (IntKind.u64.wrap (Int.tmod b 64))) 1)) else (none)) else (none)) else (none)))
def bn.l0 : Nat → List Int → Int → Int → List Int → Int → Option (List Int)
 | 0, _, _, _, _, _ => none
 | k + 1, a, b, c, d, e => if e < (d.length : Int) then (if 0 ≤ (wrap64 (e + (wrap64 (Int.tdiv b 64)))) then (if (wrap64 (e + (wrap64 (Int.tdiv b 64)))) < (a.length : Int) then (if 0 ≤ (IntKind.u64.wrap (Int.tmod b 64)) then (if 0 ≤ e then ((some (d.set (e : Int).toNat (shr .u64 (rd a (wrap64 (e + (wrap64 (Int.tdiv b 64))))) (IntKind.u64.wrap (Int.tmod b 64))) : List Int)).bind fun f => (if (Int.tmod b 64) > 0 then (if (wrap64 ((wrap64 (e + (wrap64 (Int.tdiv b 64)))) + 1)) < c then (if 0 ≤ (wrap64 ((wrap64 (e + (wrap64 (Int.tdiv b 64)))) + 1)) then (if (wrap64 ((wrap64 (e + (wrap64 (Int.tdiv b 64)))) + 1)) < (a.length : Int) then (if 0 ≤ (IntKind.u64.wrap (wrap64 (64 - (Int.tmod b 64)))) then (bn.l0 k a b c (f.set (e : Int).toNat (Go.bits .or .u64 (rd f e) (shl .u64 (rd a (wrap64 ((wrap64 (e + (wrap64 (Int.tdiv b 64)))) + 1))) (IntKind.u64.wrap (wrap64 (64 - (Int.tmod b 64))))))) (wrap64 (e + 1))) else (none)) else (none)) else (none)) else (bn.l0 k a b c f (wrap64 (e + 1)))) else (bn.l0 k a b c f (wrap64 (e + 1))))) else (none)) else (none)) else (none)) else (none)) else ((bK.f d).bind fun g => (some g))
def bn.f (k : Nat) (a : List Int) (b : Int) : Option (List Int) := (aW.f k a).bind fun c => (if b ≥ c then (some ([] : List Int)) else ((aG.f k a).bind fun d => (if 0 ≤ (wrap64 (d - (wrap64 (Int.tdiv b 64)))) then (if (wrap64 (d - (wrap64 (Int.tdiv b 64))) : Int).toNat ≤ 35184372088832 then (bn.l0 k a b d (List.replicate (wrap64 (d - (wrap64 (Int.tdiv b 64))) : Int).toNat 0) 0) else (none)) else (none))))
def aJ.l0 : Nat → List Int → List Int → Int → List Int → Int → Int → Option (List Int)
 | 0, _, _, _, _, _, _ => none
 | k + 1, a, b, c, d, e, f => if f < c then (if 0 ≤ f then (if f < (a.length : Int) then ((d_.f b f).bind fun g => (if f < (d.length : Int) then ((some (d.set (f : Int).toNat (IntKind.u64.wrap ((IntKind.u64.wrap ((rd a f) - g)) - e)) : List Int)).bind fun i => (if (rd a f) < g then (aJ.l0 k a b c i 1 (wrap64 (f + 1))) else (if (rd a f) = g then (if e = 1 then (aJ.l0 k a b c i 1 (wrap64 (f + 1))) else (aJ.l0 k a b c i 0 (wrap64 (f + 1)))) else (aJ.l0 k a b c i 0 (wrap64 (f + 1)))))) else (none))) else (none)) else (none)) else ((bK.f d).bind fun j => (some j))
def aJ.f (k : Nat) (a : List Int) (b : List Int) : Option (List Int) := (aG.f k a).bind fun c => (if 0 ≤ c then (if (c : Int).toNat ≤ 35184372088832 then (aJ.l0 k a b c (List.replicate (c : Int).toNat 0) 0 0) else (none)) else (none))
mutual
def aC.l0 : Nat → List Int → List Int → List Int → List Int → Int → Option (List Int × List Int)
 | 0, _, _, _, _, _ => none
 | k + 1, a, b, c, d, e => if e ≥ 0 then ((bJ.f k d 1).bind fun f => ((eF.f a e).bind fun g => (if g = 1 then ((aj.f k f (([1] : List Int))).bind fun i => (aC.j1 k a b c i e)) else (aC.j1 k a b c f e)))) else ((bK.f c).bind fun j => (some (j, d)))
def aC.j1 : Nat → List Int → List Int → List Int → List Int → Int → Option (List Int × List Int)
 | 0, _, _, _, _, _ => none
 | k + 1, a, b, c, d, e => (aU.f k d b).bind fun f => (if f ≥ 0 then ((aJ.f k d b).bind fun g => (if 0 ≤ (wrap64 (Int.tdiv e 64)) then (if (wrap64 (Int.tdiv e 64)) < (c.length : Int) then (if 0 ≤ (IntKind.u64.wrap (Int.tmod e 64)) then (aC.l0 k a b (c.set ((wrap64 (Int.tdiv e 64)) : Int).toNat (Go.bits .or .u64 (rd c (wrap64 (Int.tdiv e 64))) (shl .u64 1 (IntKind.u64.wrap (Int.tmod e 64))))) g (wrap64 (e - 1))) else (none)) else (none)) else (none))) else (aC.l0 k a b c d (wrap64 (e - 1))))
end
def aC.f (k : Nat) (a : List Int) (b : List Int) : Option (List Int × List Int) := (aW.f k a).bind fun c => ((aW.f k b).bind fun d => (if c < d then ((bK.f a).bind fun e => (some (([] : List Int), e))) else ((aG.f k a).bind fun f => (if 0 ≤ f then (if (f : Int).toNat ≤ 35184372088832 then ((bn.f k a (wrap64 ((wrap64 (c - d)) + 1))).bind fun g => (aC.l0 k a b (List.replicate (f : Int).toNat 0) g (wrap64 (c - d)))) else (none)) else (none)))))
def dw.f (k : Nat) (a : List Int) (b : List Int) : Option (List Int × List Int) := (aC.f k a b).bind fun c => (some (c.1, c.2))
def iE.f (k : Nat) (a : Bool) (b : List Int) (c : List Int) (d : Int) (e : Int) : Option (List Int × Int) := if d ≥ e then ((dL.f k b (wrap64 (d - e))).bind fun f => ((dw.f k f c).bind fun g => (if (g.2.length : Int) = 0 then (some (g.1, 0)) else ((dL.f k g.2 1).bind fun i => ((aU.f k i c).bind fun j => (some (g.1, wrap64 (2 + j)))))))) else ((dL.f k c (wrap64 (e - d))).bind fun m => ((dw.f k b m).bind fun n => (if (n.2.length : Int) = 0 then (some (n.1, 0)) else ((dL.f k n.2 1).bind fun o => ((aU.f k o m).bind fun p => (some (n.1, wrap64 (2 + p))))))))
def jW.f (k : Nat) (a : Bool) (b : List Int) (c : List Int) (d : Int) : Option (Int) := (aW.f k b).bind fun e => ((aW.f k c).bind fun f => ((iE.f k a b c d (wrap64 ((wrap64 (e - f)) + d))).bind fun g => (if (g.1.length : Int) = 0 then (some (wrap64 ((wrap64 ((wrap64 (e - f)) + d)) - 1))) else (some (wrap64 ((wrap64 (e - f)) + d))))))
def jl.f (k : Nat) (a : Int) (b : Bool) (c : List Int) (d : Int) : Option (List Int) := (eF.f c 0).bind fun e => (if a = 0 then (if d = 3 then (if d > 0 then ((aj.f k c (([1] : List Int))).bind fun f => (some f)) else (some c)) else (if d = 2 then (if d > 0 then (if e = 1 then ((aj.f k c (([1] : List Int))).bind fun g => (some g)) else (some c)) else (some c)) else (if d > 0 then (some c) else (some c)))) else (if a = 1 then (if d > 0 then (if d ≥ 2 then ((aj.f k c (([1] : List Int))).bind fun i => (some i)) else (some c)) else (some c)) else (if a = 3 then (if d > 0 then (if b = true then (some c) else ((aj.f k c (([1] : List Int))).bind fun j => (some j))) else (some c)) else (if a = 4 then (if d > 0 then (if b = true then ((aj.f k c (([1] : List Int))).bind fun m => (some m)) else (some c)) else (some c)) else (if a = 5 then (if d > 0 then (if e = 1 then (some c) else ((aj.f k c (([1] : List Int))).bind fun n => (some n))) else (some c)) else (if d > 0 then (some c) else (some c)))))))
def jm.f (a : Int) (b : Int) : Option (Int) := (bT.f a).bind fun c => (if 0 ≤ (IntKind.u64.wrap (wrap64 (c.2.1 - 1))) then ((fK.f a b (IntKind.u64.wrap (wrap64 (2 * c.2.2.2.1))) (IntKind.u64.wrap ((shl .u64 1 (IntKind.u64.wrap (wrap64 (c.2.1 - 1)))) - 1))).bind fun d => (some d)) else (none))
def dY.j0 : Nat → Int → Bool → Bool → Option (Int)
 | 0, _, _, _ => none
 | k + 1, a, b, c => if c = true then ((iC.f b).bind fun d => ((jB.f a d).bind fun e => (some e))) else ((iC.f b).bind fun f => ((jm.f a f).bind fun g => (some g)))
def dY.f (k : Nat) (a : Int) (b : Int) (c : Bool) : Option (Int) := if b = 0 then (dY.j0 k a c true) else (if b = 1 then (dY.j0 k a c true) else (if b = 3 then (if c = true then (if b = 4 then (dY.j0 k a c c) else (dY.j0 k a c false)) else (dY.j0 k a c true)) else (if b = 4 then (dY.j0 k a c c) else (dY.j0 k a c false))))
mutual
def dK.j0 : Nat → Int → Int → Int → Int → Int → Bool → List Int → List Int → Int → Int → Int → Int → Int → Option (Int × Int)
 | 0, _, _, _, _, _, _, _, _, _, _, _, _, _ => none
 | k + 1, a, b, c, d, e, f, g, i, j, m, n, o, p => (iE.f k f g i j e).bind fun q => ((jl.f k b f q.1 q.2).bind fun t => ((aW.f k t).bind fun u => (if (wrap64 (u + e)) > (wrap64 (p + 1)) then ((dY.f k a b f).bind fun v => (some (v, 20))) else (if q.2 > 0 then ((iE.f k f g i j (wrap64 ((wrap64 (c - n)) + 1))).bind fun w => ((jl.f k b f w.1 w.2).bind fun x => ((aW.f k x).bind fun y => (if (wrap64 ((wrap64 ((wrap64 (y + c)) - n)) + 1)) ≤ o then (dK.j1 k a d e t 24 f g i j m n o p) else (dK.j1 k a d e t 16 f g i j m n o p))))) else (dK.j1 k a d e t 0 f g i j m n o p)))))
def dK.j1 : Nat → Int → Int → Int → List Int → Int → Bool → List Int → List Int → Int → Int → Int → Int → Int → Option (Int × Int)
 | 0, _, _, _, _, _, _, _, _, _, _, _, _, _ => none
 | k + 1, a, b, c, d, e, f, g, i, j, m, n, o, p => if (d.length : Int) > 0 then (if 0 < (d.length : Int) then ((iC.f f).bind fun q => ((fK.f a q 0 0).bind fun t => (if 0 ≤ (IntKind.u64.wrap (wrap64 (n - 1))) then (some (Go.bits .or .u64 t (IntKind.u64.wrap ((shl .u64 (IntKind.u64.wrap (wrap64 (c - b))) (IntKind.u64.wrap (wrap64 (n - 1)))) + (rd d 0))), e)) else (none)))) else (none)) else ((iC.f f).bind fun u => ((fK.f a u 0 0).bind fun v => (if 0 ≤ (IntKind.u64.wrap (wrap64 (n - 1))) then (some (Go.bits .or .u64 v (IntKind.u64.wrap ((shl .u64 (IntKind.u64.wrap (wrap64 (c - b))) (IntKind.u64.wrap (wrap64 (n - 1)))) + 0)), e)) else (none))))
end
def dK.f (k : Nat) (a : Int) (b : Int) (c : Bool) (d : List Int) (e : List Int) (f : Int) : Option (Int × Int) := (bK.f d).bind fun g => (if (g.length : Int) = 0 then ((iC.f c).bind fun i => ((jr.f a i).bind fun j => (some (j, 0)))) else ((bT.f a).bind fun m => ((jW.f k c d e f).bind fun n => (if (wrap64 ((wrap64 (n - m.2.1)) + 1)) < (wrap64 ((wrap64 (m.2.2.1 - m.2.1)) + 1)) then (dK.j0 k a b n (wrap64 ((wrap64 (m.2.2.1 - m.2.1)) + 1)) (wrap64 ((wrap64 (m.2.2.1 - m.2.1)) + 1)) c d e f m.1 m.2.1 m.2.2.1 m.2.2.2.1) else (dK.j0 k a b n (wrap64 ((wrap64 (m.2.2.1 - m.2.1)) + 1)) (wrap64 ((wrap64 (n - m.2.1)) + 1)) c d e f m.1 m.2.1 m.2.2.1 m.2.2.2.1)))))
def fZ.j0 : Nat → Int → Int → Bool → Int → Bool → Bool → Bool → ByteArray → Int → Option (Int × Int × Int)
 | 0, _, _, _, _, _, _, _, _, _ => none
 | k + 1, a, b, c, d, e, f, g, i, j => if c = true then (if g = true then ((jV.f a).bind fun m => (some (m, 0, 0))) else (if f = true then ((jB.f a d).bind fun n => (some (n, 0, 0))) else ((bQ.f k i).bind fun o => (if (o.1.length : Int) = 0 then ((jr.f a d).bind fun p => (some (p, 0, 0))) else ((ah.f k o.1).bind fun q => (if (wrap64 ((mx (-500) (mn (wrap64 ((wrap64 ((q.1.size : Int) - 1)) + j)) 500)) - (wrap64 ((q.1.size : Int) - 1)))) ≥ 0 then ((dR.f k (wrap64 ((mx (-500) (mn (wrap64 ((wrap64 ((q.1.size : Int) - 1)) + j)) 500)) - (wrap64 ((q.1.size : Int) - 1))))).bind fun t => ((bZ.f k o.1 t).bind fun u => ((dK.f k a b e u (([1] : List Int)) 0).bind fun v => (some (v.1, v.2, 0))))) else ((dR.f k (wrap64 (-(wrap64 ((mx (-500) (mn (wrap64 ((wrap64 ((q.1.size : Int) - 1)) + j)) 500)) - (wrap64 ((q.1.size : Int) - 1))))))).bind fun w => ((dK.f k a b e o.1 w 0).bind fun x => (some (x.1, x.2, 0)))))))))) else (some (0, 0, 8))
def fZ.f (k : Nat) (a : Int) (b : Int) (c : ByteArray) : Option (Int × Int × Int) := (aI.f k a b ([] : List Int)).bind fun d => (if d = 0 then (if (c.size : Int) > 2000 then (some (0, 0, 5)) else ((aZ.f k c).bind fun e => (if e.1 = true then (fZ.j0 k a b e.2.2.2.2.2 1 e.1 e.2.1 e.2.2.1 e.2.2.2.1 e.2.2.2.2.1) else (fZ.j0 k a b e.2.2.2.2.2 0 e.1 e.2.1 e.2.2.1 e.2.2.2.1 e.2.2.2.2.1)))) else (some (0, 0, d)))
def bW.f (a : Int) (b : Int) : Option (Int) := (bY.f a).bind fun c => (if c.2.2.2.2 = 0 then (if c.1 < 64 then (if 0 ≤ c.1 then (if (shr .u64 b c.1) = 0 then (some 0) else (some 4)) else (none)) else (some 0)) else (some c.2.2.2.2))
mutual
def bD.j0 : Nat → Int → Bool → Int → Int → ByteArray → Int → Int → Int → Int → Option (Bool × Int × Int × Int × ByteArray)
 | 0, _, _, _, _, _, _, _, _, _ => none
 | k + 1, a, b, c, d, e, f, g, i, j => if a = 1 then (bD.j1 k b c d e a (a == 1) f g i j) else (bD.j1 k b c d e a (a == 0) f g i j)
def bD.j1 : Nat → Bool → Int → Int → ByteArray → Int → Bool → Int → Int → Int → Int → Option (Bool × Int × Int × Int × ByteArray)
 | 0, _, _, _, _, _, _, _, _, _, _ => none
 | k + 1, a, b, c, d, e, f, g, i, j, m => if f = true then (some (false, 0, 0, 0, (⟨#[110, 97, 110]⟩ : ByteArray))) else (if e = 2 then (bD.j2 k a b c d e (e == 2) g i j m) else (bD.j2 k a b c d e (e == 9) g i j m))
def bD.j2 : Nat → Bool → Int → Int → ByteArray → Int → Bool → Int → Int → Int → Int → Option (Bool × Int × Int × Int × ByteArray)
 | 0, _, _, _, _, _, _, _, _, _, _ => none
 | k + 1, a, b, c, d, e, f, g, i, j, m => if f = true then (if d.size + 3 ≤ 9223372036854775807 then (some (false, 0, 0, 0, d ++ (⟨#[105, 110, 102]⟩ : ByteArray))) else (none)) else (if e = 5 then (if d.size + 1 ≤ 9223372036854775807 then (some (false, 0, 0, 0, d ++ (⟨#[48]⟩ : ByteArray))) else (none)) else (if e = 6 then (if d.size + 1 ≤ 9223372036854775807 then (some (false, 0, 0, 0, d ++ (⟨#[48]⟩ : ByteArray))) else (none)) else (if b > 0 then (if 0 ≤ (wrap64 (i - 1)) then (if c = 0 then (if b > 1 then (some (a, Go.bits .or .u64 c (shl .u64 1 (wrap64 (i - 1))), wrap64 ((wrap64 ((wrap64 (j - i)) + 1)) + (wrap64 ((wrap64 (b)) - 1))), 1, (⟨#[]⟩ : ByteArray))) else (some (a, Go.bits .or .u64 c (shl .u64 1 (wrap64 (i - 1))), wrap64 ((wrap64 ((wrap64 (j - i)) + 1)) + (wrap64 ((wrap64 (b)) - 1))), 2, (⟨#[]⟩ : ByteArray)))) else (some (a, Go.bits .or .u64 c (shl .u64 1 (wrap64 (i - 1))), wrap64 ((wrap64 ((wrap64 (j - i)) + 1)) + (wrap64 ((wrap64 (b)) - 1))), 2, (⟨#[]⟩ : ByteArray)))) else (none)) else (some (a, c, wrap64 ((wrap64 (j - i)) + 1), 2, (⟨#[]⟩ : ByteArray))))))
end
def bD.f (k : Nat) (a : Int) (b : Int) : Option (Bool × Int × Int × Int × ByteArray) := (bY.f a).bind fun c => ((jc.f a b).bind fun d => ((iM.f a b).bind fun e => (if e.1 = true then (bD.j0 k d.1 e.1 e.2.1 e.2.2.1 (⟨#[45]⟩ : ByteArray) c.1 c.2.1 c.2.2.1 c.2.2.2.1) else (bD.j0 k d.1 e.1 e.2.1 e.2.2.1 (⟨#[]⟩ : ByteArray) c.1 c.2.1 c.2.2.1 c.2.2.2.1))))
def dG.f (a : Bool) (b : Int) (c : Int) (d : Int) : Option (ByteArray) := if a = true then (some (⟨#[45]⟩ : ByteArray)) else (some (⟨#[]⟩ : ByteArray))
def iR.f (a : ByteArray) (b : Int) : Option (ByteArray) := if b < 0 then ((strings_Repeat.f (⟨#[48]⟩ : ByteArray) (wrap64 ((wrap64 (-b)) - 1))).bind fun c => (if 2 + c.size ≤ 9223372036854775807 then (if ((⟨#[48, 46]⟩ : ByteArray) ++ c).size + a.size ≤ 9223372036854775807 then (some (((⟨#[48, 46]⟩ : ByteArray) ++ c) ++ a)) else (none)) else (none))) else (if b ≥ (wrap64 ((a.size : Int) - 1)) then ((strings_Repeat.f (⟨#[48]⟩ : ByteArray) (wrap64 ((wrap64 (b - (a.size : Int))) + 1))).bind fun d => (if a.size + d.size ≤ 9223372036854775807 then (some (a ++ d)) else (none))) else (if 0 ≤ (wrap64 (b + 1)) then (if (wrap64 (b + 1)) ≤ (a.size : Int) then (if (a.extract 0 ((wrap64 (b + 1)) : Int).toNat).size + 1 ≤ 9223372036854775807 then (if ((a.extract 0 ((wrap64 (b + 1)) : Int).toNat) ++ (⟨#[46]⟩ : ByteArray)).size + (a.extract ((wrap64 (b + 1)) : Int).toNat a.size).size ≤ 9223372036854775807 then (some (((a.extract 0 ((wrap64 (b + 1)) : Int).toNat) ++ (⟨#[46]⟩ : ByteArray)) ++ (a.extract ((wrap64 (b + 1)) : Int).toNat a.size))) else (none)) else (none)) else (none)) else (none)))
def gX.f (a : ByteArray) (b : Int) : Option (ByteArray) := if 0 ≤ 1 then (if 1 ≤ (a.size : Int) then (if (a.size : Int) > 1 then (if 1 + (a.extract 1 a.size).size ≤ 9223372036854775807 then (if (a.extract 0 1).size + ((⟨#[46]⟩ : ByteArray) ++ (a.extract 1 a.size)).size ≤ 9223372036854775807 then (if ((a.extract 0 1) ++ ((⟨#[46]⟩ : ByteArray) ++ (a.extract 1 a.size))).size + 1 ≤ 9223372036854775807 then ((strconv_Itoa.f b).bind fun c => (if (((a.extract 0 1) ++ ((⟨#[46]⟩ : ByteArray) ++ (a.extract 1 a.size))) ++ (⟨#[101]⟩ : ByteArray)).size + c.size ≤ 9223372036854775807 then (some ((((a.extract 0 1) ++ ((⟨#[46]⟩ : ByteArray) ++ (a.extract 1 a.size))) ++ (⟨#[101]⟩ : ByteArray)) ++ c)) else (none))) else (none)) else (none)) else (none)) else (if (a.extract 0 1).size + 1 ≤ 9223372036854775807 then ((strconv_Itoa.f b).bind fun d => (if ((a.extract 0 1) ++ (⟨#[101]⟩ : ByteArray)).size + d.size ≤ 9223372036854775807 then (some (((a.extract 0 1) ++ (⟨#[101]⟩ : ByteArray)) ++ d)) else (none))) else (none))) else (none)) else (none)
def dh.j0 : Nat → ByteArray → Int → Bool → Bool → Int → Int → Int → Option (ByteArray × Int)
 | 0, _, _, _, _, _, _, _ => none
 | k + 1, a, b, c, d, e, f, g => if c = true then ((dG.f d e f g).bind fun i => ((iR.f a b).bind fun j => (if i.size + j.size ≤ 9223372036854775807 then (some (i ++ j, 0)) else (none)))) else ((dG.f d e f g).bind fun m => ((gX.f a b).bind fun n => (if m.size + n.size ≤ 9223372036854775807 then (some (m ++ n, 0)) else (none))))
def dh.f (k : Nat) (a : Int) (b : Int) : Option (ByteArray × Int) := (bW.f a b).bind fun c => (if c = 0 then ((bD.f k a b).bind fun d => (if d.2.2.2.2.toList = ([] : List UInt8) then ((gI.f d.1 d.2.1 d.2.2.1 d.2.2.2.1).bind fun e => (if e.2 ≥ (-5) then (dh.j0 k e.1 e.2 (decide (e.2 ≤ 15)) d.1 d.2.1 d.2.2.1 d.2.2.2.1) else (dh.j0 k e.1 e.2 false d.1 d.2.1 d.2.2.1 d.2.2.2.1))) else (some (d.2.2.2.2, 0)))) else (some ((⟨#[]⟩ : ByteArray), c)))
def dM.f (k : Nat)  : Option (Bool) := (fO.f k 3 0 (⟨#[48, 46, 49]⟩ : ByteArray)).bind fun a => ((dh.f k 0 13653).bind fun b => (if a.1 = 4591870180066957722 then (if a.2.1 = 16 then (if a.2.2 = 0 then (if b.1.toList = ([48, 46, 51, 51, 51, 51] : List UInt8) then (some (b.2 == 0)) else (some false)) else (some false)) else (some false)) else (some false)))
def jH.f (k : Nat) (a : Int) (b : Int) (c : ByteArray) : Option (Bool) := (fO.f k a b c).bind fun d => ((fZ.f k a b c).bind fun e => ((dM.f k).bind fun f => (if f = true then (if d.1 = e.1 then (if d.2.1 = e.2.1 then (some (d.2.2 == e.2.2)) else (some false)) else (some false)) else (some false))))
def eX.l0 : Nat → Int → ByteArray → Option (ByteArray)
 | 0, _, _ => none
 | k + 1, a, b => if a > 9 then ((some (([(IntKind.u64.wrap (48 + (Int.tmod a 10))) % 256] : List Int) : List Int)).bind fun c => (if (strOfNums c).size + b.size ≤ 9223372036854775807 then (eX.l0 k (IntKind.u64.wrap (Int.tdiv a 10)) ((strOfNums c) ++ b)) else (none))) else ((some (([(IntKind.u64.wrap (48 + a)) % 256] : List Int) : List Int)).bind fun d => (if (strOfNums d).size + b.size ≤ 9223372036854775807 then (some ((strOfNums d) ++ b)) else (none)))
def eX.f (k : Nat) (a : Int) : Option (ByteArray) := eX.l0 k a (⟨#[]⟩ : ByteArray)
def gY.f (k : Nat) (a : Int) : Option (ByteArray) := if a < 0 then ((eX.f k (IntKind.u64.wrap (wrap64 (-a)))).bind fun b => (if 1 + b.size ≤ 9223372036854775807 then (some ((⟨#[45]⟩ : ByteArray) ++ b)) else (none))) else ((eX.f k (IntKind.u64.wrap (a))).bind fun c => (some c))
def lS.j0 : Nat → Int → Int → ByteArray → Int → Int → Int → Int → Bool → Option (Bool)
 | 0, _, _, _, _, _, _, _, _ => none
 | k + 1, a, b, c, d, e, f, g, i => if i = true then (if e = g then (if d = 0 then (some (f == 0)) else (some false)) else (some false)) else ((eX.f k b).bind fun j => (if j.size + c.size ≤ 9223372036854775807 then ((fO.f k a 4 (j ++ c)).bind fun m => ((eX.f k b).bind fun n => (if n.size + c.size ≤ 9223372036854775807 then ((fO.f k a 3 (n ++ c)).bind fun o => (if m.2.2 = 0 then (if o.2.2 = 0 then (if d > f then (some false) else (if m.1 > d then (some false) else (if d > o.1 then (some false) else (if ((m.1 == o.1) != ((Go.bits .and .i64 m.2.1 16) == 0)) = true then (some false) else (if ((m.1 == o.1) != ((Go.bits .and .i64 o.2.1 16) == 0)) = true then (some false) else (if m.1 = o.1 then (some true) else (some (o.1 == (IntKind.u64.wrap (m.1 + 1)))))))))) else (some false)) else (some false))) else (none)))) else (none)))
def lS.f (k : Nat) (a : Int) (b : Int) (c : Int) (d : Int) (e : Int) (f : Int) (g : Int) : Option (Bool) := (dM.f k).bind fun i => (if i = true then ((gY.f k (wrap64 (d))).bind fun j => (if 1 + j.size ≤ 9223372036854775807 then ((eX.f k (mn c g)).bind fun m => (if m.size + ((⟨#[101]⟩ : ByteArray) ++ j).size ≤ 9223372036854775807 then ((fO.f k a b (m ++ ((⟨#[101]⟩ : ByteArray) ++ j))).bind fun n => ((eX.f k (mx c g)).bind fun o => (if o.size + ((⟨#[101]⟩ : ByteArray) ++ j).size ≤ 9223372036854775807 then ((fO.f k a b (o ++ ((⟨#[101]⟩ : ByteArray) ++ j))).bind fun p => (if n.2.2 = 0 then (lS.j0 k a (mn c g) ((⟨#[101]⟩ : ByteArray) ++ j) n.1 n.2.2 p.1 p.2.2 (p.2.2 != 0)) else (lS.j0 k a (mn c g) ((⟨#[101]⟩ : ByteArray) ++ j) n.1 n.2.2 p.1 p.2.2 true))) else (none)))) else (none))) else (none))) else (some false))
def l9.f (a : Int) (b : Int) : Option (Int × Int) := (bW.f a b).bind fun c => (if c = 0 then ((pY.f a).bind fun d => (some (Go.bits .xor .u64 b d, 0))) else (some (0, c)))
mutual
def je.l0 : Nat → Int → Int → ByteArray → Int → Int → Int → Int → ByteArray → Int → Int → Int → Int → Int → Int → Int → Int → Option (Bool)
 | 0, _, _, _, _, _, _, _, _, _, _, _, _, _, _, _, _ => none
 | k + 1, a, b, c, d, e, f, g, i, j, m, n, o, p, q, t, u => if m < j then (if i.size + 1 ≤ 9223372036854775807 then (je.l0 k a b c d e f g (i ++ (⟨#[48]⟩ : ByteArray)) j ((m + 1) % 256) n o p q t u) else (none)) else (if (wrap64 ((c.size : Int) + 1)) = 0 then (none) else (if 1 + i.size ≤ 9223372036854775807 then (if 0 ≤ (Int.tmod (wrap64 (u)) (wrap64 ((c.size : Int) + 1))) then (if (Int.tmod (wrap64 (u)) (wrap64 ((c.size : Int) + 1))) ≤ (c.size : Int) then (if ((⟨#[43]⟩ : ByteArray) ++ i).size + (c.extract 0 ((Int.tmod (wrap64 (u)) (wrap64 ((c.size : Int) + 1))) : Int).toNat).size ≤ 9223372036854775807 then (if (((⟨#[43]⟩ : ByteArray) ++ i) ++ (c.extract 0 ((Int.tmod (wrap64 (u)) (wrap64 ((c.size : Int) + 1))) : Int).toNat)).size + 1 ≤ 9223372036854775807 then (if ((((⟨#[43]⟩ : ByteArray) ++ i) ++ (c.extract 0 ((Int.tmod (wrap64 (u)) (wrap64 ((c.size : Int) + 1))) : Int).toNat)) ++ (⟨#[46]⟩ : ByteArray)).size + (c.extract ((Int.tmod (wrap64 (u)) (wrap64 ((c.size : Int) + 1))) : Int).toNat c.size).size ≤ 9223372036854775807 then (if (((((⟨#[43]⟩ : ByteArray) ++ i) ++ (c.extract 0 ((Int.tmod (wrap64 (u)) (wrap64 ((c.size : Int) + 1))) : Int).toNat)) ++ (⟨#[46]⟩ : ByteArray)) ++ (c.extract ((Int.tmod (wrap64 (u)) (wrap64 ((c.size : Int) + 1))) : Int).toNat c.size)).size + 1 ≤ 9223372036854775807 then ((gY.f k (wrap64 ((wrap64 (d + (c.size : Int))) - (Int.tmod (wrap64 (u)) (wrap64 ((c.size : Int) + 1)))))).bind fun v => (if ((((((⟨#[43]⟩ : ByteArray) ++ i) ++ (c.extract 0 ((Int.tmod (wrap64 (u)) (wrap64 ((c.size : Int) + 1))) : Int).toNat)) ++ (⟨#[46]⟩ : ByteArray)) ++ (c.extract ((Int.tmod (wrap64 (u)) (wrap64 ((c.size : Int) + 1))) : Int).toNat c.size)) ++ (⟨#[69]⟩ : ByteArray)).size + v.size ≤ 9223372036854775807 then ((fO.f k a b (((((((⟨#[43]⟩ : ByteArray) ++ i) ++ (c.extract 0 ((Int.tmod (wrap64 (u)) (wrap64 ((c.size : Int) + 1))) : Int).toNat)) ++ (⟨#[46]⟩ : ByteArray)) ++ (c.extract ((Int.tmod (wrap64 (u)) (wrap64 ((c.size : Int) + 1))) : Int).toNat c.size)) ++ (⟨#[69]⟩ : ByteArray)) ++ v)).bind fun w => (if e = w.1 then (if f = w.2.1 then (je.j1 k a b c d e f g (g != w.2.2)) else (je.j1 k a b c d e f g true)) else (je.j1 k a b c d e f g true))) else (none))) else (none)) else (none)) else (none)) else (none)) else (none)) else (none)) else (none)))
def je.j1 : Nat → Int → Int → ByteArray → Int → Int → Int → Int → Bool → Option (Bool)
 | 0, _, _, _, _, _, _, _, _ => none
 | k + 1, a, b, c, d, e, f, g, i => if i = true then (some false) else (if g = 0 then (if b = 3 then (if 1 + c.size ≤ 9223372036854775807 then (if ((⟨#[45]⟩ : ByteArray) ++ c).size + 1 ≤ 9223372036854775807 then ((gY.f k d).bind fun j => (if (((⟨#[45]⟩ : ByteArray) ++ c) ++ (⟨#[101]⟩ : ByteArray)).size + j.size ≤ 9223372036854775807 then ((fO.f k a 4 ((((⟨#[45]⟩ : ByteArray) ++ c) ++ (⟨#[101]⟩ : ByteArray)) ++ j)).bind fun m => ((l9.f a e).bind fun n => (if m.2.2 = 0 then (if n.2 = 0 then (if m.1 = n.1 then (some (f == m.2.1)) else (some false)) else (some false)) else (some false)))) else (none))) else (none)) else (none)) else (if b = 4 then (if 1 + c.size ≤ 9223372036854775807 then (if ((⟨#[45]⟩ : ByteArray) ++ c).size + 1 ≤ 9223372036854775807 then ((gY.f k d).bind fun o => (if (((⟨#[45]⟩ : ByteArray) ++ c) ++ (⟨#[101]⟩ : ByteArray)).size + o.size ≤ 9223372036854775807 then ((fO.f k a 3 ((((⟨#[45]⟩ : ByteArray) ++ c) ++ (⟨#[101]⟩ : ByteArray)) ++ o)).bind fun p => ((l9.f a e).bind fun q => (if p.2.2 = 0 then (if q.2 = 0 then (if p.1 = q.1 then (some (f == p.2.1)) else (some false)) else (some false)) else (some false)))) else (none))) else (none)) else (none)) else (if 1 + c.size ≤ 9223372036854775807 then (if ((⟨#[45]⟩ : ByteArray) ++ c).size + 1 ≤ 9223372036854775807 then ((gY.f k d).bind fun t => (if (((⟨#[45]⟩ : ByteArray) ++ c) ++ (⟨#[101]⟩ : ByteArray)).size + t.size ≤ 9223372036854775807 then ((fO.f k a b ((((⟨#[45]⟩ : ByteArray) ++ c) ++ (⟨#[101]⟩ : ByteArray)) ++ t)).bind fun u => ((l9.f a e).bind fun v => (if u.2.2 = 0 then (if v.2 = 0 then (if u.1 = v.1 then (some (f == u.2.1)) else (some false)) else (some false)) else (some false)))) else (none))) else (none)) else (none)))) else (if e = 0 then (some (f == 0)) else (some false)))
end
def je.f (k : Nat) (a : Int) (b : Int) (c : Int) (d : Int) (e : Int) (f : Int) : Option (Bool) := (dM.f k).bind fun g => (if g = true then ((eX.f k c).bind fun i => (if i.size + 1 ≤ 9223372036854775807 then ((gY.f k (wrap64 (d))).bind fun j => (if (i ++ (⟨#[101]⟩ : ByteArray)).size + j.size ≤ 9223372036854775807 then ((fO.f k a b ((i ++ (⟨#[101]⟩ : ByteArray)) ++ j)).bind fun m => (je.l0 k a b i (wrap64 (d)) m.1 m.2.1 m.2.2 (⟨#[]⟩ : ByteArray) (Go.bits .and .u8 e 15) 0 a b c d e f)) else (none))) else (none))) else (some false))
def bI.j0 : Nat → Int → List Int → List Int → Option (List Int × List Int)
 | 0, _, _, _ => none
 | k + 1, a, b, c => if a ≥ 0 then ((fV.f b a).bind fun d => (some (d.1, c))) else ((fV.f c (wrap64 (-a))).bind fun e => (some (b, e.1)))
def bI.f (k : Nat) (a : Int) (b : Int) (c : Int) : Option (List Int × List Int) := (some (([a] : List Int) : List Int)).bind fun d => (if c ≥ 0 then ((fC.f c).bind fun e => ((iF.f d e).bind fun f => (bI.j0 k b f.1 (([1] : List Int))))) else ((fC.f (wrap64 (-c))).bind fun g => (bI.j0 k b d g)))
def kN.f (a : Int) (b : Bool) (c : Bool) (d : Int) : Option (Bool) := if a = 0 then (if d > 0 then (some true) else (if d = 0 then (some c) else (some false))) else (if a = 1 then (some (decide (d ≥ 0))) else (if a = 3 then (some (!b)) else (if a = 4 then (some b) else (if a = 5 then (some (!c)) else (some false)))))
mutual
def aX.j0 : Nat → Int → Int → Int → Int → Bool → Option (ByteArray × Bool × Int)
 | 0, _, _, _, _, _ => none
 | k + 1, a, b, c, d, e => if e = true then (some ((⟨#[]⟩ : ByteArray), false, 7)) else ((bD.f k a c).bind fun f => ((strings_HasSuffix.f f.2.2.2.2 (⟨#[48]⟩ : ByteArray)).bind fun g => (if g = true then (if 0 ≤ (wrap64 ((f.2.2.2.2.size : Int) - 1)) then (if (wrap64 ((f.2.2.2.2.size : Int) - 1)) ≤ (f.2.2.2.2.size : Int) then ((strings_Repeat.f (⟨#[48]⟩ : ByteArray) d).bind fun i => ((gX.f i 0).bind fun j => (if (f.2.2.2.2.extract 0 ((wrap64 ((f.2.2.2.2.size : Int) - 1)) : Int).toNat).size + j.size ≤ 9223372036854775807 then (some ((f.2.2.2.2.extract 0 ((wrap64 ((f.2.2.2.2.size : Int) - 1)) : Int).toNat) ++ j, false, 0)) else (none)))) else (none)) else (none)) else (if f.2.2.2.2.toList = ([] : List UInt8) then ((fB.f f.1 f.2.1 f.2.2.1 f.2.2.2.1).bind fun m => ((bI.f k f.2.1 f.2.2.1 (wrap64 ((wrap64 (d - 1)) - m))).bind fun n => ((gZ.f n.1 n.2).bind fun o => ((fV.f o.2.1 1).bind fun p => (if (o.2.1.length : Int) > 0 then (if 0 < (o.1.length : Int) then ((iD.f p.1 n.2).bind fun q => ((kN.f b f.1 ((Int.tmod (rd o.1 0) 2) == 1) q).bind fun t => (aX.j1 k d m o.1 (decide (0 < o.2.1.length)) t f.1 f.2.1 f.2.2.1 f.2.2.2.1))) else (none)) else (aX.j1 k d m o.1 (decide (0 < o.2.1.length)) false f.1 f.2.1 f.2.2.1 f.2.2.2.1)))))) else (some (f.2.2.2.2, false, 0))))))
def aX.j1 : Nat → Int → Int → List Int → Bool → Bool → Bool → Int → Int → Int → Option (ByteArray × Bool × Int)
 | 0, _, _, _, _, _, _, _, _, _ => none
 | k + 1, a, b, c, d, e, f, g, i, j => if e = true then ((iV.f c (([1] : List Int))).bind fun m => (aX.j2 k a b m d f g i j)) else (aX.j2 k a b c d f g i j)
def aX.j2 : Nat → Int → Int → List Int → Bool → Bool → Int → Int → Int → Option (ByteArray × Bool × Int)
 | 0, _, _, _, _, _, _, _, _ => none
 | k + 1, a, b, c, d, e, f, g, i => (dA.f c).bind fun j => (if (j.1.size : Int) > a then (if 0 ≤ a then (if a ≤ (j.1.size : Int) then ((dG.f e f g i).bind fun m => ((gX.f (j.1.extract 0 (a : Int).toNat) (wrap64 (b + 1))).bind fun n => (if m.size + n.size ≤ 9223372036854775807 then (some (m ++ n, d, 0)) else (none)))) else (none)) else (none)) else ((dG.f e f g i).bind fun o => ((gX.f j.1 b).bind fun p => (if o.size + p.size ≤ 9223372036854775807 then (some (o ++ p, d, 0)) else (none)))))
end
def aX.f (k : Nat) (a : Int) (b : Int) (c : Int) (d : Int) : Option (ByteArray × Bool × Int) := (bY.f a).bind fun e => (if e.2.2.2.2 = 0 then ((fH.f b).bind fun f => (if f = true then ((bW.f a c).bind fun g => (if g = 0 then (if d < 1 then (aX.j0 k a b c d true) else (aX.j0 k a b c d (decide (d > 1200)))) else (some ((⟨#[]⟩ : ByteArray), false, g)))) else (some ((⟨#[]⟩ : ByteArray), false, 3)))) else (some ((⟨#[]⟩ : ByteArray), false, e.2.2.2.2)))
def bU.f (a : Int) (b : Int) : Option (Int × Int × Int × Int) := (bT.f a).bind fun c => (if 0 ≤ (IntKind.u64.wrap (wrap64 (c.1 - 1))) then (if 0 ≤ (IntKind.u64.wrap (wrap64 (c.2.1 - 1))) then (if (shl .u64 1 (IntKind.u64.wrap (wrap64 (c.2.1 - 1)))) = 0 then (none) else (some (Go.bits .and .u64 (shr .u64 b (IntKind.u64.wrap (wrap64 (c.1 - 1)))) 1, Go.bits .and .u64 (shr .u64 b (IntKind.u64.wrap (wrap64 (c.2.1 - 1)))) (IntKind.u64.wrap (wrap64 ((wrap64 (2 * c.2.2.2.1)) + 1))), Int.tmod b (shl .u64 1 (IntKind.u64.wrap (wrap64 (c.2.1 - 1)))), IntKind.u64.wrap (wrap64 ((wrap64 (2 * c.2.2.2.1)) + 1))))) else (none)) else (none))
def dN.f (a : Int) (b : Int) : Option (Bool) := (bU.f a b).bind fun c => (if c.2.1 = 0 then (some (c.2.2.1 == 0)) else (some false))
def dD.f (a : Int) (b : Int) : Option (Int) := (bU.f a b).bind fun c => (some c.1)
def eP.f (a : Int) (b : Int) : Option (Bool) := (bU.f a b).bind fun c => (if c.2.1 = c.2.2.2 then (some (c.2.2.1 != 0)) else (some false))
def eU.f (a : Int) (b : Int) : Option (Bool) := (bU.f a b).bind fun c => (if c.2.1 = c.2.2.2 then (some (c.2.2.1 == 0)) else (some false))
def aK.j0 : Nat → Int → Int → ByteArray → Option (ByteArray)
 | 0, _, _, _ => none
 | k + 1, a, b, c => (eP.f a b).bind fun d => (if d = true then (some (⟨#[110, 97, 110]⟩ : ByteArray)) else ((eU.f a b).bind fun e => (if e = true then (if c.size + 3 ≤ 9223372036854775807 then (some (c ++ (⟨#[105, 110, 102]⟩ : ByteArray))) else (none)) else ((dN.f a b).bind fun f => (if f = true then (if c.size + 1 ≤ 9223372036854775807 then (some (c ++ (⟨#[48]⟩ : ByteArray))) else (none)) else (some (⟨#[]⟩ : ByteArray)))))))
def aK.f (k : Nat) (a : Int) (b : Int) : Option (ByteArray) := (dD.f a b).bind fun c => (if c = 1 then (aK.j0 k a b (⟨#[45]⟩ : ByteArray)) else (aK.j0 k a b (⟨#[]⟩ : ByteArray)))
def dZ.f (a : Int) (b : Int) : Option (Int × Int) := (bT.f a).bind fun c => ((bU.f a b).bind fun d => (if d.2.1 = 0 then (some (d.2.2.1, wrap64 ((wrap64 (c.2.2.1 - c.2.1)) + 1))) else (if 0 ≤ (IntKind.u64.wrap (wrap64 (c.2.1 - 1))) then (some (IntKind.u64.wrap ((shl .u64 1 (IntKind.u64.wrap (wrap64 (c.2.1 - 1)))) + d.2.2.1), wrap64 ((wrap64 ((wrap64 ((wrap64 ((wrap64 (d.2.1)) - 1)) + c.2.2.1)) - c.2.1)) + 1))) else (none))))
def dB.f (k : Nat) (a : Int) (b : Int) : Option (List Int × List Int) := (dZ.f a b).bind fun c => (if c.2 ≥ 0 then ((dL.f k (([c.1] : List Int)) c.2).bind fun d => (some (d, (([1] : List Int))))) else ((bK.f (([c.1] : List Int))).bind fun e => ((dL.f k (([1] : List Int)) (wrap64 (-c.2))).bind fun f => (some (e, f)))))
def bM.l0 : Nat → List Int → List Int → Int → Option (Int)
 | 0, _, _, _ => none
 | k + 1, a, b, c => (aU.f k a b).bind fun d => (if d < 0 then ((bZ.f k a (([10] : List Int))).bind fun e => (bM.l0 k e b (wrap64 (c - 1)))) else (some c))
def bM.f (k : Nat) (a : List Int) (b : List Int) : Option (Int) := (dw.f k a b).bind fun c => (if (c.1.length : Int) > 0 then ((ah.f k c.1).bind fun d => (some (wrap64 ((d.1.size : Int) - 1)))) else (bM.l0 k a b 0))
def bg.j0 : Nat → List Int → List Int → Option (List Int × Int)
 | 0, _, _ => none
 | k + 1, a, b => (dw.f k a b).bind fun c => (if (c.2.length : Int) = 0 then (some (c.1, 0)) else ((dL.f k c.2 1).bind fun d => ((aU.f k d b).bind fun e => (some (c.1, wrap64 (2 + e))))))
def bg.f (k : Nat) (a : List Int) (b : List Int) (c : Int) : Option (List Int × Int) := if c ≥ 0 then ((dR.f k c).bind fun d => ((bZ.f k a d).bind fun e => (bg.j0 k e b))) else ((dR.f k (wrap64 (-c))).bind fun f => ((bZ.f k b f).bind fun g => (bg.j0 k a g)))
def b_.f (a : Int) (b : Int) : Option (ByteArray) := (dD.f a b).bind fun c => (if c = 1 then (some (⟨#[45]⟩ : ByteArray)) else (some (⟨#[]⟩ : ByteArray)))
def cO.f : Nat → Int → Option (ByteArray)
 | 0, _ => none
 | k + 1, a => if a < 0 then ((cO.f k (wrap64 (-a))).bind fun b => (if 1 + b.size ≤ 9223372036854775807 then (some ((⟨#[45]⟩ : ByteArray) ++ b)) else (none))) else ((ah.f k (([IntKind.u64.wrap (a)] : List Int))).bind fun c => (some c.1))
def dn.f (k : Nat) (a : ByteArray) (b : Int) : Option (ByteArray) := if 0 ≤ 1 then (if 1 ≤ (a.size : Int) then (if (a.size : Int) > 1 then (if 1 + (a.extract 1 a.size).size ≤ 9223372036854775807 then (if (a.extract 0 1).size + ((⟨#[46]⟩ : ByteArray) ++ (a.extract 1 a.size)).size ≤ 9223372036854775807 then (if ((a.extract 0 1) ++ ((⟨#[46]⟩ : ByteArray) ++ (a.extract 1 a.size))).size + 1 ≤ 9223372036854775807 then ((cO.f k b).bind fun c => (if (((a.extract 0 1) ++ ((⟨#[46]⟩ : ByteArray) ++ (a.extract 1 a.size))) ++ (⟨#[101]⟩ : ByteArray)).size + c.size ≤ 9223372036854775807 then (some ((((a.extract 0 1) ++ ((⟨#[46]⟩ : ByteArray) ++ (a.extract 1 a.size))) ++ (⟨#[101]⟩ : ByteArray)) ++ c)) else (none))) else (none)) else (none)) else (none)) else (if (a.extract 0 1).size + 1 ≤ 9223372036854775807 then ((cO.f k b).bind fun d => (if ((a.extract 0 1) ++ (⟨#[101]⟩ : ByteArray)).size + d.size ≤ 9223372036854775807 then (some (((a.extract 0 1) ++ (⟨#[101]⟩ : ByteArray)) ++ d)) else (none))) else (none))) else (none)) else (none)
def aV.l0 : Nat → Int → ByteArray → Option (ByteArray)
 | 0, _, _ => none
 | k + 1, a, b => if (b.size : Int) < a then (if b.size + 1 ≤ 9223372036854775807 then (aV.l0 k a (b ++ (⟨#[48]⟩ : ByteArray))) else (none)) else (some b)
def aV.f (k : Nat) (a : Int) : Option (ByteArray) := aV.l0 k a (⟨#[]⟩ : ByteArray)
def bF.j0 : Nat → Int → Bool → List Int → Int → Bool → Option (List Int)
 | 0, _, _, _, _, _ => none
 | k + 1, a, b, c, d, e => if a = 0 then (if d = 3 then (if d > 0 then ((aj.f k c (([1] : List Int))).bind fun f => (some f)) else (some c)) else (if d = 2 then (if d > 0 then (if e = true then ((aj.f k c (([1] : List Int))).bind fun g => (some g)) else (some c)) else (some c)) else (if d > 0 then (some c) else (some c)))) else (if a = 1 then (if d > 0 then (if d ≥ 2 then ((aj.f k c (([1] : List Int))).bind fun i => (some i)) else (some c)) else (some c)) else (if a = 3 then (if d > 0 then (if b = true then (some c) else ((aj.f k c (([1] : List Int))).bind fun j => (some j))) else (some c)) else (if a = 4 then (if d > 0 then (if b = true then ((aj.f k c (([1] : List Int))).bind fun m => (some m)) else (some c)) else (some c)) else (if a = 5 then (if d > 0 then (if e = true then (some c) else ((aj.f k c (([1] : List Int))).bind fun n => (some n))) else (some c)) else (if d > 0 then (some c) else (some c))))))
def bF.f (k : Nat) (a : Int) (b : Bool) (c : List Int) (d : Int) : Option (List Int) := if (c.length : Int) > 0 then (if 0 < (c.length : Int) then (bF.j0 k a b c d ((Int.tmod (rd c 0) 2) == 1)) else (none)) else (bF.j0 k a b c d false)
def aY.j0 : Nat → Int → Int → Int → Int → Bool → Option (ByteArray × Bool × Int)
 | 0, _, _, _, _, _ => none
 | k + 1, a, b, c, d, e => if e = true then (some ((⟨#[]⟩ : ByteArray), false, 7)) else ((dN.f a c).bind fun f => (if f = true then ((b_.f a c).bind fun g => ((aV.f k d).bind fun i => ((dn.f k i 0).bind fun j => (if g.size + j.size ≤ 9223372036854775807 then (some (g ++ j, false, 0)) else (none))))) else ((aK.f k a c).bind fun m => (if m.toList = ([] : List UInt8) then ((dB.f k a c).bind fun n => ((bM.f k n.1 n.2).bind fun o => ((bg.f k n.1 n.2 (wrap64 ((wrap64 (d - 1)) - o))).bind fun p => ((dD.f a c).bind fun q => ((bF.f k b (q == 1) p.1 p.2).bind fun t => ((ah.f k t).bind fun u => (if (u.1.size : Int) > d then (if 0 ≤ d then (if d ≤ (u.1.size : Int) then ((b_.f a c).bind fun v => ((dn.f k (u.1.extract 0 (d : Int).toNat) (wrap64 (o + 1))).bind fun w => (if v.size + w.size ≤ 9223372036854775807 then (some (v ++ w, decide (p.2 > 0), 0)) else (none)))) else (none)) else (none)) else ((b_.f a c).bind fun x => ((dn.f k u.1 o).bind fun y => (if x.size + y.size ≤ 9223372036854775807 then (some (x ++ y, decide (p.2 > 0), 0)) else (none))))))))))) else (some (m, false, 0))))))
def aY.f (k : Nat) (a : Int) (b : Int) (c : Int) (d : Int) : Option (ByteArray × Bool × Int) := (aI.f k a b (([c] : List Int))).bind fun e => (if e = 0 then (if d < 1 then (aY.j0 k a b c d true) else (aY.j0 k a b c d (decide (d > 1200)))) else (some ((⟨#[]⟩ : ByteArray), false, e)))
def dO.f (k : Nat) (a : Int) (b : Int) (c : Int) (d : Int) : Option (Bool) := (aX.f k a b c d).bind fun e => ((aY.f k a b c d).bind fun f => ((dM.f k).bind fun g => (if g = true then (if e.1.toList = f.1.toList then (if (e.2.1 == f.2.1) = true then (some (e.2.2 == f.2.2)) else (some false)) else (some false)) else (some false))))
def jw.f (k : Nat) (a : Int) (b : Int) (c : List Int) (d : Int) : Option (Bool) := (dD.f a b).bind fun e => (if d ≥ 0 then ((dR.f k d).bind fun f => ((bZ.f k c f).bind fun g => ((dK.f k a 0 (e == 1) g (([1] : List Int)) 0).bind fun i => (some (i.1 == b))))) else ((dR.f k (wrap64 (-d))).bind fun j => ((dK.f k a 0 (e == 1) c j 0).bind fun m => (some (m.1 == b)))))
def gG.f (k : Nat) (a : ByteArray) (b : Int) : Option (ByteArray) := if b < 0 then ((aV.f k (wrap64 ((wrap64 (-b)) - 1))).bind fun c => (if 2 + c.size ≤ 9223372036854775807 then (if ((⟨#[48, 46]⟩ : ByteArray) ++ c).size + a.size ≤ 9223372036854775807 then (some (((⟨#[48, 46]⟩ : ByteArray) ++ c) ++ a)) else (none)) else (none))) else (if (a.size : Int) ≤ (wrap64 (b + 1)) then ((aV.f k (wrap64 ((wrap64 (b + 1)) - (a.size : Int)))).bind fun d => (if a.size + d.size ≤ 9223372036854775807 then (some (a ++ d)) else (none))) else (if 0 ≤ (wrap64 (b + 1)) then (if (wrap64 (b + 1)) ≤ (a.size : Int) then (if (a.extract 0 ((wrap64 (b + 1)) : Int).toNat).size + 1 ≤ 9223372036854775807 then (if ((a.extract 0 ((wrap64 (b + 1)) : Int).toNat) ++ (⟨#[46]⟩ : ByteArray)).size + (a.extract ((wrap64 (b + 1)) : Int).toNat a.size).size ≤ 9223372036854775807 then (some (((a.extract 0 ((wrap64 (b + 1)) : Int).toNat) ++ (⟨#[46]⟩ : ByteArray)) ++ (a.extract ((wrap64 (b + 1)) : Int).toNat a.size))) else (none)) else (none)) else (none)) else (none)))
def jO.j0 : Nat → ByteArray → Bool → Int → Int → Int → Option (ByteArray × Int)
 | 0, _, _, _, _, _ => none
 | k + 1, a, b, c, d, e => if 0 ≤ (wrap64 ((a.size : Int) + d)) then (if (wrap64 ((a.size : Int) + d)) ≤ (a.size : Int) then ((jq.f (a.extract ((wrap64 ((a.size : Int) + d)) : Int).toNat a.size) (⟨#[48]⟩ : ByteArray)).bind fun f => (if f.toList = ([] : List UInt8) then ((dG.f b c d e).bind fun g => (if g.size + (a.extract 0 ((wrap64 ((a.size : Int) + d)) : Int).toNat).size ≤ 9223372036854775807 then (some (g ++ (a.extract 0 ((wrap64 ((a.size : Int) + d)) : Int).toNat), 0)) else (none))) else (if 1 + f.size ≤ 9223372036854775807 then (if (a.extract 0 ((wrap64 ((a.size : Int) + d)) : Int).toNat).size + ((⟨#[46]⟩ : ByteArray) ++ f).size ≤ 9223372036854775807 then ((dG.f b c d e).bind fun i => (if i.size + ((a.extract 0 ((wrap64 ((a.size : Int) + d)) : Int).toNat) ++ ((⟨#[46]⟩ : ByteArray) ++ f)).size ≤ 9223372036854775807 then (some (i ++ ((a.extract 0 ((wrap64 ((a.size : Int) + d)) : Int).toNat) ++ ((⟨#[46]⟩ : ByteArray) ++ f)), 0)) else (none))) else (none)) else (none)))) else (none)) else (none)
def jO.f (k : Nat) (a : Int) (b : Int) : Option (ByteArray × Int) := (bW.f a b).bind fun c => (if c = 0 then ((bD.f k a b).bind fun d => (if d.2.2.2.2.toList = ([] : List UInt8) then (if d.2.2.1 ≥ 0 then ((fV.f (([d.2.1] : List Int)) d.2.2.1).bind fun e => ((dA.f e.1).bind fun f => ((dG.f d.1 d.2.1 d.2.2.1 d.2.2.2.1).bind fun g => (if g.size + f.1.size ≤ 9223372036854775807 then (some (g ++ f.1, 0)) else (none))))) else ((gV.f 5 (wrap64 (-d.2.2.1))).bind fun i => ((iF.f (([d.2.1] : List Int)) i.1).bind fun j => ((dA.f j.1).bind fun m => (if (wrap64 ((wrap64 ((wrap64 (-d.2.2.1)) - (m.1.size : Int))) + 1)) > 0 then ((strings_Repeat.f (⟨#[48]⟩ : ByteArray) (wrap64 ((wrap64 ((wrap64 (-d.2.2.1)) - (m.1.size : Int))) + 1))).bind fun n => (if n.size + m.1.size ≤ 9223372036854775807 then (jO.j0 k (n ++ m.1) d.1 d.2.1 d.2.2.1 d.2.2.2.1) else (none))) else (jO.j0 k m.1 d.1 d.2.1 d.2.2.1 d.2.2.2.1)))))) else (some (d.2.2.2.2, 0)))) else (some ((⟨#[]⟩ : ByteArray), c)))
def f_.l0 : Nat → Int → Int → Int → ByteArray → Option (ByteArray × Int)
 | 0, _, _, _, _ => none
 | k + 1, a, b, c, d => if c > 0 then (if 0 ≤ (wrap64 ((d.size : Int) - 1)) then (if (wrap64 ((d.size : Int) - 1)) < (d.size : Int) then (if (bt d (wrap64 ((d.size : Int) - 1))) = 48 then (if (d.size : Int) > 1 then (if (wrap64 ((d.size : Int) - 1)) ≤ (d.size : Int) then (f_.l0 k a b (wrap64 (c - 1)) (d.extract 0 ((wrap64 ((d.size : Int) - 1)) : Int).toNat)) else (none)) else ((b_.f a b).bind fun e => ((gG.f k d (wrap64 ((wrap64 ((d.size : Int) - 1)) - c))).bind fun f => (if e.size + f.size ≤ 9223372036854775807 then (some (e ++ f, 0)) else (none))))) else ((b_.f a b).bind fun g => ((gG.f k d (wrap64 ((wrap64 ((d.size : Int) - 1)) - c))).bind fun i => (if g.size + i.size ≤ 9223372036854775807 then (some (g ++ i, 0)) else (none))))) else (none)) else (none)) else ((b_.f a b).bind fun j => ((gG.f k d (wrap64 ((wrap64 ((d.size : Int) - 1)) - c))).bind fun m => (if j.size + m.size ≤ 9223372036854775807 then (some (j ++ m, 0)) else (none))))
def f_.f (k : Nat) (a : Int) (b : Int) : Option (ByteArray × Int) := (dU.f a b).bind fun c => (if c = 0 then ((aK.f k a b).bind fun d => (if d.toList = ([] : List UInt8) then ((dB.f k a b).bind fun e => ((aW.f k e.2).bind fun f => ((au.f k 5 (wrap64 (f - 1))).bind fun g => ((bZ.f k e.1 g.1).bind fun i => ((ah.f k i).bind fun j => (f_.l0 k a b (wrap64 (f - 1)) j.1)))))) else (some (d, 0)))) else (some ((⟨#[]⟩ : ByteArray), c)))
def bC.l19 : Nat → Int → Int → ByteArray → Int → Option (ByteArray × Int)
 | 0, _, _, _, _ => none
 | k + 1, a, b, c, d => if (0 : Int) ≤ wrap64 ((c.size : Int) - 1) then (if (wrap64 ((c.size : Int) - 1) : Int) < (c.size : Int) then (if ((bt c (wrap64 ((c.size : Int) - 1))) == 48) = true then (if (0 : Int) ≤ wrap64 ((c.size : Int) - 1) then (if (wrap64 ((c.size : Int) - 1) : Int) ≤ (c.size : Int) then (bC.l19 k a b (c.extract 0 (wrap64 ((c.size : Int) - 1) : Int).toNat) d) else (none)) else (none)) else (if (decide (d < (-5))) = false then (if (decide (d > 15)) = true then ((b_.f a b).bind fun e => ((dn.f k c d).bind fun f => (if e.size + f.size ≤ 9223372036854775807 then (some (e ++ f, 0)) else (none)))) else ((b_.f a b).bind fun g => ((gG.f k c d).bind fun i => (if g.size + i.size ≤ 9223372036854775807 then (some (g ++ i, 0)) else (none))))) else ((b_.f a b).bind fun j => ((dn.f k c d).bind fun m => (if j.size + m.size ≤ 9223372036854775807 then (some (j ++ m, 0)) else (none)))))) else (none)) else (none)
def bC.j17 : Nat → Int → Int → Int → Int → List Int → Option (ByteArray × Int)
 | 0, _, _, _, _, _ => none
 | k + 1, a, b, c, d, e => (ah.f k e).bind fun f => (bC.l19 k a b f.1 (wrap64 ((wrap64 (c - d)) + (f.1.size : Int))))
def bC.j15 : Nat → Int → Int → Int → Int → List Int → Int → List Int → Bool → Bool → Option (ByteArray × Int)
 | 0, _, _, _, _, _, _, _, _, _ => none
 | k + 1, a, b, c, d, e, f, g, i, j => if (!i) = false then (if j = true then (if (f == 3) = false then (if (f == 2) = true then (if (0 : Int) ≤ 0 then (if (0 : Int) < (e.length : Int) then (if (2 : Int) = 0 then (none) else (if ((Int.tmod (rd e 0) 2) == 1) = true then (bC.j17 k a b c d g) else (bC.j17 k a b c d e))) else (none)) else (none)) else (bC.j17 k a b c d e)) else (bC.j17 k a b c d g)) else (bC.j17 k a b c d e)) else (bC.j17 k a b c d g)
def bC.l11 : Nat → Int → Int → List Int → List Int → Int → Int → Option (ByteArray × Int)
 | 0, _, _, _, _, _, _ => none
 | k + 1, a, b, c, d, e, f => (bg.f k c d (wrap64 ((wrap64 (f - 1)) - e))).bind fun g => ((aj.f k g.1 ([1] : List Int)).bind fun i => ((jw.f k a b g.1 (wrap64 ((wrap64 (e - f)) + 1))).bind fun j => ((jw.f k a b i (wrap64 ((wrap64 (e - f)) + 1))).bind fun m => (if (!j) = true then (if (!m) = true then (bC.l11 k a b c d e (wrap64 (f + 1))) else (bC.j15 k a b e f g.1 g.2 i j m)) else (bC.j15 k a b e f g.1 g.2 i j m)))))
def bC.f (k : Nat) (a : Int) (b : Int) : Option (ByteArray × Int) := (dU.f a b).bind fun c => (if (c != 0) = true then (some ((⟨#[]⟩ : ByteArray), c)) else ((aK.f k a b).bind fun d => (if (d.toList != (⟨#[]⟩ : ByteArray).toList) = true then (some (d, 0)) else ((dB.f k a b).bind fun e => ((bM.f k e.1 e.2).bind fun f => (bC.l11 k a b e.1 e.2 f 1))))))
def jD.f (k : Nat) (a : Int) (b : Int) : Option (Bool) := (dh.f k a b).bind fun c => ((bC.f k a b).bind fun d => ((dM.f k).bind fun e => (if (!e) = false then (if (c.1.toList != d.1.toList) = false then (if (c.2 != d.2) = true then (some (false)) else ((jO.f k a b).bind fun f => ((f_.f k a b).bind fun g => (if (f.1.toList == g.1.toList) = true then (some (f.2 == g.2)) else (some (false)))))) else (some (false))) else (some (false)))))
end Go.Proofs.YtafikkmnkeddpaaGreatDoor.P
namespace Go.Proofs.YtafikkmnkeddpaaGreatDoor.P
open Go.RowKit Go.Proofs.YtafikkmnkeddpaaGreatDoorW.PrintWords Go.Proofs.YtafikkmnkeddpaaGreatDoorW.PrintLast Go.Proofs.YtafikkmnkeddpaaGreatDoorW.PrintMore
theorem qm {xs : List Nat} (h : Wd xs) (hl : xs.length ≤ 1000000000) : bK.f (toI xs) = some (wI (val xs)) := by
 unfold bK.f
 rw [if_pos (Nq h hl), PL]
theorem NM {xs : List Nat} (hw : Wd xs) (hl : xs.length ≤ 1000000000) (n : Nat) (hn : n ≤ xs.length) (hz : ∀ k, n ≤ k → xs.getD k 0 = 0) : Ev (fun k => aG.l0 k (toI xs) (n : Int)) ((toW (val xs)).length : Int) := by
 induction n with
 | zero =>
  refine Ev.one fun k => ?_
  rw [aG.l0, if_neg (by omega), ← lW hw 0 hn hz (.inl rfl)]
  simp
 | succ n ih =>
  have e : wrap64 (((n + 1 : Nat) : Int) - 1) = (n : Int) := by rw [w64 (by omega) (by omega)]; omega
  by_cases h0 : xs.getD n 0 = 0
  ·refine Ev.step (f := fun k => aG.l0 k (toI xs) (n : Int)) (fun k => ?_) (ih (by omega) fun k hk => ?_)
   ·rw [aG.l0, if_pos (by omega), e, if_pos (by omega), dH, if_pos (by omega), jS, if_pos (by rw [h0]; rfl)]
   ·rcases Nat.lt_or_ge n k with h1 | h1
    ·exact hz k h1
    ·rw [show k = n by omega]; exact h0
  ·refine Ev.one fun k => ?_
   rw [aG.l0, if_pos (by omega), e, if_pos (by omega), dH, if_pos (by omega), jS, if_neg (by omega)]
   rw [← lW hw (n + 1) hn hz (.inr (by simpa using h0)), List.length_take, Nat.min_eq_left hn]
theorem uY {xs : List Nat} (hw : Wd xs) (hl : xs.length ≤ 1000000000) : Ev (fun k => aG.f k (toI xs)) ((toW (val xs)).length : Int) := by
 unfold aG.f
 rw [dH]
 exact NM hw hl xs.length (Nat.le_refl _) fun k hk => by rw [List.getD_eq_getElem?_getD, List.getElem?_eq_none hk]; rfl
theorem PX (m : Nat) (hm : m ≤ 1000000000) (x : Nat) : ∀ c : Nat, c + iJ x ≤ 1000000 → Ev (fun k => aW.l0 k (m : Int) (c : Int) (x : Int)) (64 * ((m : Int) - 1) + c + iJ x) := by
 induction x using Nat.strongRecOn with
 | _ x ih =>
  intro c hc
  by_cases h0 : x = 0
  ·subst h0
   refine Ev.one fun k => ?_
   rw [aW.l0, if_neg (by omega), w64 (x := (m : Int) - 1) (by omega) (by omega), w64 (x := 64 * ((m : Int) - 1)) (by omega) (by omega), w64 (by omega) (by omega), Au]
   simp
  ·have hb : iJ x = iJ (x / 2) + 1 := by
    have h1 := o_ (x / 2)
    by_cases h2 : x / 2 = 0
    ·have : x = 1 := by omega
     subst this
     decide
    ·have h3 := qh h2
     obtain ⟨b, hb⟩ : ∃ b, iJ (x / 2) = b + 1 := ⟨iJ (x / 2) - 1, by rw [mP h2]; omega⟩
     rw [hb] at h1 h3 ⊢
     rw [Nat.add_sub_cancel] at h3
     refine xG ?_ ?_
     ·rw [Nat.pow_succ]; omega
     ·rw [Nat.pow_succ]; omega
   have h1 := ih (x / 2) (by omega) (c + 1) (by omega)
   refine Ev.step (f := fun k => aW.l0 k (m : Int) ((c + 1 : Nat) : Int) ((x / 2 : Nat) : Int)) (fun k => ?_) ?_
   ·rw [aW.l0, if_pos (by omega), w64 (by omega) (by omega)]
    congr 1
   ·rw [hb, show (64 * ((m : Int) - 1) + (c : Int) + ((iJ (x / 2) + 1 : Nat) : Int)) = 64 * ((m : Int) - 1) + ((c + 1 : Nat) : Int) + ((iJ (x / 2) : Nat) : Int) by omega]
    exact h1
theorem PY {xs : List Nat} (hw : Wd xs) (hl : xs.length ≤ 1000000000) : Ev (fun k => aW.f k (toI xs)) (iJ (val xs) : Int) := by
 unfold aW.f
 refine Ev.bind (uY hw hl) ?_
 have hle := fE hw
 by_cases h0 : (toW (val xs)).length = 0
 ·refine Ev.pos (by omega) ?_
  rw [(nT _).1 h0]
  exact Ev.now _
 ·obtain ⟨n, hn⟩ : ∃ n, (toW (val xs)).length = n + 1 := ⟨(toW (val xs)).length - 1, by omega⟩
  have hx : (toW (val xs)).getD n 0 = xs.getD n 0 := by
   rw [mV hw, List.getD_eq_getElem?_getD, List.getElem?_take, if_pos (by omega), ← List.getD_eq_getElem?_getD]
  refine Ev.neg (by omega) ?_
  rw [hn, show wrap64 (((n + 1 : Nat) : Int) - 1) = (n : Int) by rw [w64 (by omega) (by omega)]; omega, dH, jS]
  refine Ev.pos (by omega) (Ev.pos (by omega) ?_)
  have hb : iJ (xs.getD n 0) ≤ 64 := oz (by have := hw.get n; show _ < 18446744073709551616; exact this)
  have := PX (n + 1) (by omega) (xs.getD n 0) 0 (by omega)
  rw [DL hn, hx, show (((64 * n + iJ (xs.getD n 0) : Nat)) : Int) = 64 * (((n + 1 : Nat) : Int) - 1) + ((0 : Nat) : Int) + ((iJ (xs.getD n 0) : Nat) : Int) by omega]
  exact this
theorem y9 (xs : List Nat) (i : Nat) : d_.f (toI xs) (i : Int) = some ((xs.getD i 0 : Nat) : Int) := by
 unfold d_.f
 rw [dH, jS]
 by_cases h : i < xs.length
 ·rw [if_pos (by omega), if_pos (by omega)]
 ·rw [if_neg (by omega), List.getD_eq_getElem?_getD, List.getElem?_eq_none (by omega)]; rfl
theorem PZ {xs ys : List Nat} (hx : Wd xs) (hy : Wd ys) (hlx : xs.length ≤ 1000000000) (m : Nat) : ∀ (d : Nat), d ≤ m → m ≤ xs.length → m ≤ ys.length → (∀ j, d ≤ j → j < m → xs.getD j 0 = ys.getD j 0) →
  Ev (fun k => aU.l0 k (toI xs) (toI ys) ((d : Int) - 1)) (mF (val (xs.take m)) (val (ys.take m))) := by
 intro d
 induction d with
 | zero =>
  intro hd h1 h2 he
  refine Ev.one fun k => ?_
  rw [aU.l0, if_neg (by omega)]
  have : xs.take m = ys.take m := by
   refine AL (by simp; omega) fun j => ?_
   rw [List.getD_eq_getElem?_getD, List.getD_eq_getElem?_getD, List.getElem?_take, List.getElem?_take]
   by_cases hj : j < m
   ·rw [if_pos hj, if_pos hj, ← List.getD_eq_getElem?_getD, ← List.getD_eq_getElem?_getD]; exact he j (by omega) hj
   ·rw [if_neg hj, if_neg hj]
  rw [this, xH]
 | succ d ih =>
  intro hd h1 h2 he
  have tk : ∀ (zs : List Nat) j, j < m → (zs.take m).getD j 0 = zs.getD j 0 := fun zs j hj => by
   rw [List.getD_eq_getElem?_getD, List.getElem?_take, if_pos hj, ← List.getD_eq_getElem?_getD]
  have hge : ∀ j, d + 1 ≤ j → (xs.take m).getD j 0 = (ys.take m).getD j 0 := fun j hj => by
   by_cases hjm : j < m
   ·rw [tk xs j hjm, tk ys j hjm]; exact he j hj hjm
   ·rw [List.getD_eq_getElem?_getD, List.getD_eq_getElem?_getD, List.getElem?_take, List.getElem?_take, if_neg hjm, if_neg hjm]
  have e : (((d + 1 : Nat) : Int) - 1) = (d : Int) := by omega
  rw [e]
  by_cases hlt : xs.getD d 0 < ys.getD d 0
  ·refine Ev.one fun k => ?_
   rw [aU.l0, if_pos (by omega), if_pos (by omega), dH, if_pos (by omega), dH, if_pos (by omega), jS, jS, if_pos (by omega)]
   rw [pz (tH (hx.take m) (hy.take m) (by simp; omega) d (by simp; omega) hge (by rw [tk _ _ (by omega), tk _ _ (by omega)]; exact hlt))]
  ·by_cases hgt : ys.getD d 0 < xs.getD d 0
   ·refine Ev.one fun k => ?_
    rw [aU.l0, if_pos (by omega), if_pos (by omega), dH, if_pos (by omega), dH, if_pos (by omega), jS, jS, if_neg (by omega), if_pos (by omega)]
    rw [tJ (tH (hy.take m) (hx.take m) (by simp; omega) d (by simp; omega) (fun j hj => (hge j hj).symm) (by rw [tk _ _ (by omega), tk _ _ (by omega)]; exact hgt))]
   ·refine Ev.step (f := fun k => aU.l0 k (toI xs) (toI ys) ((d : Int) - 1)) (fun k => ?_) (ih (by omega) h1 h2 fun j h3 h4 => ?_)
    ·rw [aU.l0, if_pos (by omega), if_pos (by omega), dH, if_pos (by omega), dH, if_pos (by omega), jS, jS, if_neg (by omega), if_neg (by omega), w64 (by omega) (by omega)]
    ·rcases Nat.lt_or_ge d j with h5 | h5
     ·exact he j h5 h4
     ·rw [show j = d by omega]; omega
theorem P5 {xs ys : List Nat} (hx : Wd xs) (hy : Wd ys) (hlx : xs.length ≤ 1000000000) (hly : ys.length ≤ 1000000000) : Ev (fun k => aU.f k (toI xs) (toI ys)) (mF (val xs) (val ys)) := by
 unfold aU.f
 refine Ev.bind (uY hx hlx) (Ev.bind (uY hy hly) ?_)
 have h1 := fE hx
 have h2 := fE hy
 by_cases he : (toW (val xs)).length = (toW (val ys)).length
 ·refine Ev.pos (by omega) ?_
  rw [w64 (by omega) (by omega)]
  have := PZ hx hy hlx (toW (val ys)).length (toW (val ys)).length (Nat.le_refl _) (by omega) h2 (fun j h3 h4 => by omega)
  rw [← mV hy, ← he, ← mV hx, dQ, dQ] at this
  rw [← he]
  exact this
 ·refine Ev.neg (by omega) ?_
  by_cases hlt : (toW (val xs)).length < (toW (val ys)).length
  ·rw [pz (pq hlt)]
   exact Ev.pos (by omega) (Ev.now _)
  ·rw [tJ (pq (by omega))]
   exact Ev.neg (by omega) (Ev.now _)
end Go.Proofs.YtafikkmnkeddpaaGreatDoor.P
namespace Go.Proofs.YtafikkmnkeddpaaGreatDoor.P
open Go.RowKit Go.Proofs.YtafikkmnkeddpaaGreatDoorW.PrintWords Go.Proofs.YtafikkmnkeddpaaGreatDoorW.PrintLast Go.Proofs.YtafikkmnkeddpaaGreatDoorW.PrintMore
theorem wue (z : Int) : IntKind.u64.wrap z = z % 18446744073709551616 := IntKind.wrap_u64 z
def nG (v : Nat) : Prop := (toW v).length ≤ 100000000
theorem nG.le {v : Nat} (h : nG v) : (toW v).length ≤ 1000000000 := by unfold nG at h; omega
theorem oG {v : Nat} (h : nG v) : Ev (fun k => aG.f k (wI v)) ((toW v).length : Int) := by
 have := uY (iP v) h.le
 rwa [dQ] at this
theorem FM {v : Nat} (h : nG v) : Ev (fun k => aW.f k (wI v)) (iJ v : Int) := by
 have := PY (iP v) h.le
 rwa [dQ] at this
theorem rZ {a b : Nat} (h : nG a) (h' : nG b) : Ev (fun k => aU.f k (wI a) (wI b)) (mF a b) := by
 have := P5 (iP a) (iP b) h.le h'.le
 rwa [dQ, dQ] at this
theorem NP {k q : Nat} (h : k < 1000000000000000000) (h' : q < 1000000000000000000) : wrap64 ((k : Int) + (q : Int)) = ((q + k : Nat) : Int) := by rw [w64 (by omega) (by omega)]; omega
theorem KQ {n : Nat} (h : n < 1000000000000000000) : wrap64 (Int.tdiv (n : Int) 64) = ((n / 64 : Nat) : Int) := by rw [Int.tdiv_eq_ediv_of_nonneg (by omega), w64 (by omega) (by omega)]; omega
theorem NQ (n : Nat) : Int.tmod (n : Int) 64 = ((n % 64 : Nat) : Int) := by rw [Int.tmod_eq_emod_of_nonneg (by omega)]; omega
theorem OW {s : Nat} (h : s < 64) : IntKind.u64.wrap (wrap64 (64 - (s : Int))) = ((64 - s : Nat) : Int) := by rw [w64 (by omega) (by omega), wu64 (by omega) (by omega)]; omega
theorem zf {W a : Nat} (h1 : W ≤ a) (h2 : a < 2 * W) : a % W = a - W := by rw [Nat.mod_eq_sub_mod h1, Nat.mod_eq_of_lt (by omega)]
theorem OX {W a : Nat} (h1 : 2 * W ≤ a) (h2 : a < 3 * W) : a % W = a - 2 * W := by rw [Nat.mod_eq_sub_mod (by omega), zf (by omega) (by omega)]; omega
theorem QZ {W x y b : Nat} (hx : x < W) (hy : y < W) (hb : b ≤ 1) (h : (x + y) % W < x) : x + y + b = (x + y + b) % W + 1 * W := by
 rcases Nat.lt_or_ge (x + y) W with h1 | h1
 ·rw [Nat.mod_eq_of_lt h1] at h; omega
 ·rw [zf (a := x + y + b) (by omega) (by omega)]; omega
theorem Q5 {W x y b : Nat} (hx : x < W) (hy : y < W) (hb : b ≤ 1) (h : (x + y + b) % W < (x + y) % W) : x + y + b = (x + y + b) % W + 1 * W := by
 rcases Nat.lt_or_ge (x + y + b) W with h1 | h1
 ·rw [Nat.mod_eq_of_lt h1, Nat.mod_eq_of_lt (by omega)] at h; omega
 ·rw [zf h1 (by omega), Nat.one_mul, Nat.sub_add_cancel h1]
theorem Q7 {W x y b : Nat} (hW2 : 2 ≤ W) (hx : x < W) (hy : y < W) (hb : b ≤ 1) (h : ¬ (x + y) % W < x) (h' : ¬ (x + y + b) % W < (x + y) % W) : x + y + b = (x + y + b) % W + 0 * W := by
 rcases Nat.lt_or_ge (x + y) W with h1 | h1
 ·rcases Nat.lt_or_ge (x + y + b) W with h2 | h2
  ·rw [Nat.mod_eq_of_lt h2]; omega
  ·exfalso; apply h'; rw [Nat.mod_eq_of_lt h1, zf h2 (by omega)]; omega
 ·rw [zf h1 (by omega)] at h; omega
theorem G9 {W : Nat} (hW : W = WB) (x y : Nat) : IntKind.u64.wrap ((x : Int) + (y : Int)) = (((x + y) % W : Nat) : Int) := by rw [wue, Int.natCast_emod, hW]; rfl
theorem KR {W : Nat} (hW : W = WB) (x y b : Nat) : IntKind.u64.wrap ((((x + y) % W : Nat) : Int) + (b : Int)) = (((x + y + b) % W : Nat) : Int) := by
 rw [G9 hW]
 congr 1
 rw [Nat.mod_add_mod]
theorem P6 {W : Nat} (hW : W = WB) {xs ys : List Nat} (hx : Wd xs) (hy : Wd ys) (n : Nat) (hn : n ≤ 100000000) : ∀ d k, k + d = n → ∀ (zs : List Nat) (b : Nat), zs.length = n + 1 → Wd zs → b ≤ 1 → val (zs.take k) + b * W ^ k = val (xs.take k) + val (ys.take k) →
  Ev (fun f => aj.l0 f (toI xs) (toI ys) (n : Int) (toI zs) (b : Int) (k : Int)) (wI (val (xs.take n) + val (ys.take n))) := by
 intro d
 induction d with
 | zero =>
  intro k hk zs b hl hw hb he
  have hkn : k = n := by omega
  subst hkn
  have hv : val (zs.set k b) = val (xs.take k) + val (ys.take k) := by
   have := iO zs k b (by omega)
   rw [g_ _ (by rw [List.length_set]; omega), Nat.mul_comm, ← hW] at this
   omega
  refine Ev.one fun f => ?_
  rw [aj.l0, if_neg (by omega), if_pos (by omega), dH, if_pos (by omega), kU, qm (hw.set _ _ (by have : WB = 18446744073709551616 := rfl; omega)) (by rw [List.length_set]; omega), hv]
  rfl
 | succ d ih =>
  intro k hk zs b hl hw hb he
  have c1 : (k : Int) < (n : Int) := by omega
  have c2 : (0 : Int) ≤ (k : Int) := by omega
  have c3 : (k : Int) < (zs.length : Int) := by omega
  have c4 : k < zs.length := by omega
  have ck : k < 1000000000000000000 := by omega
  have c5 : k + 1 + d = n := by omega
  have hW2 : 2 ≤ W := by rw [hW]; decide
  have hW0 : 0 < W := by rw [hW]; decide
  have hxk : xs.getD k 0 < W := hW ▸ hx.get k
  have hyk : ys.getD k 0 < W := hW ▸ hy.get k
  have key : ∀ (s b' : Nat), s < W → b' ≤ 1 → xs.getD k 0 + ys.getD k 0 + b = s + b' * W → Ev (fun f => aj.l0 f (toI xs) (toI ys) (n : Int) (toI (zs.set k s)) (b' : Int) ((k + 1 : Nat) : Int)) (wI (val (xs.take n) + val (ys.take n))) := fun s b' h1 h2 h3 =>
   ih (k + 1) c5 _ _ (by rw [List.length_set]; exact hl) (hw.set _ _ (hW ▸ h1)) h2 (by
    subst hW
    rw [iO _ _ _ c4, dW, dW, Nat.pow_succ]
    exact AP _ _ _ _ _ _ _ _ _ he h3)
  have ek := rD ck
  have step : ∀ b' : Nat, b' ≤ 1 → xs.getD k 0 + ys.getD k 0 + b = (xs.getD k 0 + ys.getD k 0 + b) % W + b' * W → (∀ f, aj.l0 (f + 1) (toI xs) (toI ys) (n : Int) (toI zs) (b : Int) (k : Int) = aj.l0 f (toI xs) (toI ys) (n : Int) (toI (zs.set k ((xs.getD k 0 + ys.getD k 0 + b) % W))) (b' : Int) ((k + 1 : Nat) : Int)) → Ev (fun f => aj.l0 f (toI xs) (toI ys) (n : Int) (toI zs) (b : Int) (k : Int)) (wI (val (xs.take n) + val (ys.take n))) := fun b' h1 h2 h3 =>
   Ev.step (f := fun f => aj.l0 f (toI xs) (toI ys) (n : Int) (toI (zs.set k ((xs.getD k 0 + ys.getD k 0 + b) % W))) (b' : Int) ((k + 1 : Nat) : Int)) h3 (key _ _ (Nat.mod_lt _ hW0) h1 h2)
  by_cases h1 : (xs.getD k 0 + ys.getD k 0) % W < xs.getD k 0
  ·refine step 1 (Nat.le_refl _) (QZ hxk hyk hb h1) fun f => ?_
   rw [aj.l0, if_pos c1, y9, y9]
   simp only [Option.bind_some]
   rw [G9 hW, KR hW, if_pos (Int.ofNat_lt.2 h1), if_pos c2, dH, if_pos c3, kU, ek, Int.natCast_one]
  ·by_cases h2 : (xs.getD k 0 + ys.getD k 0 + b) % W < (xs.getD k 0 + ys.getD k 0) % W
   ·refine step 1 (Nat.le_refl _) (Q5 hxk hyk hb h2) fun f => ?_
    rw [aj.l0, if_pos c1, y9, y9]
    simp only [Option.bind_some]
    rw [G9 hW, KR hW, if_neg (fun h => h1 (Int.ofNat_lt.1 h)), if_pos (Int.ofNat_lt.2 h2), if_pos c2, dH, if_pos c3, kU, ek, Int.natCast_one]
   ·refine step 0 (Nat.zero_le _) (Q7 hW2 hxk hyk hb h1 h2) fun f => ?_
    rw [aj.l0, if_pos c1, y9, y9]
    simp only [Option.bind_some]
    rw [G9 hW, KR hW, if_neg (fun h => h1 (Int.ofNat_lt.1 h)), if_neg (fun h => h2 (Int.ofNat_lt.1 h)), if_pos c2, dH, if_pos c3, kU, ek, Int.natCast_zero]
theorem KT {a b : Nat} (n : Nat) (hn : n ≤ 90000000) (h1 : (toW a).length ≤ n) (h2 : (toW b).length ≤ n) : Ev (fun k => aj.j0 k (wI a) (wI b) (n : Int)) (wI (a + b)) := by
 have := P6 rfl (iP a) (iP b) n (by omega) n 0 (by omega) (List.replicate (n + 1) 0) 0 (by simp) (Wd.replicate _) (by omega) (by simp [val])
 rw [g_ _ h1, g_ _ h2, dQ, dQ] at this
 refine Ev.step (f := fun k => aj.l0 k (wI a) (wI b) (n : Int) (toI (List.replicate (n + 1) 0)) 0 0) (fun k => ?_) this
 have e : wrap64 ((n : Int) + 1) = ((n + 1 : Nat) : Int) := by rw [w64 (by omega) (by omega)]; omega
 rw [aj.j0, e, if_pos (by omega), if_pos (by omega), o8]
theorem KU {a b : Nat} (h1 : (toW a).length ≤ 90000000) (h2 : (toW b).length ≤ 90000000) : Ev (fun k => aj.f k (wI a) (wI b)) (wI (a + b)) := by
 unfold aj.f
 refine Ev.bind (oG (by unfold nG; omega)) (Ev.bind (oG (by unfold nG; omega)) ?_)
 by_cases h : (toW a).length < (toW b).length
 ·refine Ev.pos (by omega) (Ev.bind (oG (by unfold nG; omega)) ?_)
  exact KT _ h2 (by omega) (Nat.le_refl _)
 ·refine Ev.neg (by omega) ?_
  exact KT _ h1 (Nat.le_refl _) (by omega)
def r_ (W x y b : Nat) : Nat := (x + 2 * W - y - b) % W
theorem Q8 {W x y b : Nat} (hx : x < W) (hy : y < W) (hb : b ≤ 1) (h : x < y) : x + 1 * W = r_ W x y b + y + b := by
 unfold r_
 rcases Nat.lt_or_ge (x + 2 * W - y - b) W with h1 | h1
 ·omega
 ·rw [zf h1 (by omega)]; omega
theorem Q9 {W x y b : Nat} (hx : x < W) (hy : y < W) (h : x = y) (hb : b = 1) : x + 1 * W = r_ W x y b + y + b := by unfold r_; rw [zf (by omega) (by omega)]; omega
theorem Q_ {W x y b : Nat} (hx : x < W) (hy : y < W) (h : x = y) (hb : b ≤ 1) (hb' : b ≠ 1) : x + 0 * W = r_ W x y b + y + b := by unfold r_; rw [OX (by omega) (by omega)]; omega
theorem Rf {W x y b : Nat} (hx : x < W) (hy : y < W) (hb : b ≤ 1) (h : ¬ x < y) (h' : ¬ x = y) : x + 0 * W = r_ W x y b + y + b := by unfold r_; rw [OX (by omega) (by omega)]; omega
theorem Rh (x y b : Nat) : r_ WB x y b < WB := Nat.mod_lt _ (by decide)
theorem Ri {W : Nat} (hW : W = WB) {x y b : Nat} (hy : y < W) (hb : b ≤ 1) : IntKind.u64.wrap ((IntKind.u64.wrap ((x : Int) - (y : Int))) - (b : Int)) = ((r_ W x y b : Nat) : Int) := by
 have hy' : y < 18446744073709551616 := by rw [hW] at hy; exact hy
 rw [wue, wue, hW]
 show _ = (((x + 2 * 18446744073709551616 - y - b) % 18446744073709551616 : Nat) : Int)
 clear hy hW
 omega
theorem NR {W : Nat} (hW : W = WB) {xs ys : List Nat} (hx : Wd xs) (hy : Wd ys) (hl1 : xs.length ≤ 100000000) (hly : ys.length ≤ xs.length) (hle : val ys ≤ val xs) : ∀ d k, k + d = xs.length → ∀ (zs : List Nat) (b : Nat), zs.length = xs.length → Wd zs → b ≤ 1 → val (zs.take k) + val (ys.take k) = val (xs.take k) + b * W ^ k →
  Ev (fun f => aJ.l0 f (toI xs) (toI ys) (xs.length : Int) (toI zs) (b : Int) (k : Int)) (wI (val xs - val ys)) := by
 intro d
 induction d with
 | zero =>
  intro k hk zs b hl hw hb he
  have hkn : k = xs.length := by omega
  subst hkn
  have hi : oD xs ys xs.length zs b := ⟨hl, hw, hb, hW ▸ he, fun j hj => by
   rw [List.getD_eq_getElem?_getD, List.getD_eq_getElem?_getD, List.getElem?_eq_none (by omega), List.getElem?_eq_none hj]⟩
  refine Ev.one fun f => ?_
  rw [aJ.l0, if_neg (by omega), qm hw (by omega), hi.done hly hle]
  rfl
 | succ d ih =>
  intro k hk zs b hl hw hb he
  have c1 : (k : Int) < (xs.length : Int) := by omega
  have c2 : (0 : Int) ≤ (k : Int) := by omega
  have c3 : (k : Int) < (zs.length : Int) := by omega
  have c4 : k < zs.length := by omega
  have ck : k < 1000000000000000000 := by omega
  have c5 : k + 1 + d = xs.length := by omega
  have hb0 : b ≠ 1 → ¬ (b : Int) = 1 := fun h => by omega
  have hxk : xs.getD k 0 < W := hW ▸ hx.get k
  have hyk : ys.getD k 0 < W := hW ▸ hy.get k
  have ek := rD ck
  have step : ∀ b' : Nat, b' ≤ 1 → xs.getD k 0 + b' * W = r_ W (xs.getD k 0) (ys.getD k 0) b + ys.getD k 0 + b → (∀ f, aJ.l0 (f + 1) (toI xs) (toI ys) (xs.length : Int) (toI zs) (b : Int) (k : Int) = aJ.l0 f (toI xs) (toI ys) (xs.length : Int) (toI (zs.set k (r_ W (xs.getD k 0) (ys.getD k 0) b))) (b' : Int) ((k + 1 : Nat) : Int)) → Ev (fun f => aJ.l0 f (toI xs) (toI ys) (xs.length : Int) (toI zs) (b : Int) (k : Int)) (wI (val xs - val ys)) := fun b' h1 h2 h3 =>
   Ev.step (f := fun f => aJ.l0 f (toI xs) (toI ys) (xs.length : Int) (toI (zs.set k (r_ W (xs.getD k 0) (ys.getD k 0) b))) (b' : Int) ((k + 1 : Nat) : Int)) h3 (ih (k + 1) c5 _ _ (by rw [List.length_set]; exact hl) (hw.set _ _ (by rw [hW]; exact Rh _ _ _)) h1 (by
    subst hW
    rw [iO _ _ _ c4, dW, dW, Nat.pow_succ]
    exact yX _ _ _ _ _ _ _ _ _ he h2))
  have hd : ∀ f, aJ.l0 (f + 1) (toI xs) (toI ys) (xs.length : Int) (toI zs) (b : Int) (k : Int) = if (xs.getD k 0 : Int) < (ys.getD k 0 : Int) then (aJ.l0 f (toI xs) (toI ys) (xs.length : Int) (toI (zs.set k (r_ W (xs.getD k 0) (ys.getD k 0) b))) 1 ((k + 1 : Nat) : Int)) else (if (xs.getD k 0 : Int) = (ys.getD k 0 : Int) then (if (b : Int) = 1 then (aJ.l0 f (toI xs) (toI ys) (xs.length : Int) (toI (zs.set k (r_ W (xs.getD k 0) (ys.getD k 0) b))) 1 ((k + 1 : Nat) : Int)) else (aJ.l0 f (toI xs) (toI ys) (xs.length : Int) (toI (zs.set k (r_ W (xs.getD k 0) (ys.getD k 0) b))) 0 ((k + 1 : Nat) : Int))) else (aJ.l0 f (toI xs) (toI ys) (xs.length : Int) (toI (zs.set k (r_ W (xs.getD k 0) (ys.getD k 0) b))) 0 ((k + 1 : Nat) : Int))) := fun f => by
   rw [aJ.l0, if_pos c1, if_pos c2, dH, if_pos c1, y9]
   simp only [Option.bind_some]
   rw [dH, if_pos c3]
   simp only [jS]
   rw [Ri hW hyk hb, kU, ek]
  by_cases h1 : xs.getD k 0 < ys.getD k 0
  ·exact step 1 (Nat.le_refl _) (Q8 hxk hyk hb h1) fun f => by rw [hd, if_pos (Int.ofNat_lt.2 h1), Int.natCast_one]
  ·by_cases h2 : xs.getD k 0 = ys.getD k 0
   ·by_cases h3 : b = 1
    ·exact step 1 (Nat.le_refl _) (Q9 hxk hyk h2 h3) fun f => by rw [hd, if_neg (fun h => h1 (Int.ofNat_lt.1 h)), if_pos (by rw [h2]), if_pos (by rw [h3]; rfl), Int.natCast_one]
    ·exact step 0 (Nat.zero_le _) (Q_ hxk hyk h2 hb h3) fun f => by rw [hd, if_neg (fun h => h1 (Int.ofNat_lt.1 h)), if_pos (by rw [h2]), if_neg (hb0 h3), Int.natCast_zero]
   ·exact step 0 (Nat.zero_le _) (Rf hxk hyk hb h1 h2) fun f => by rw [hd, if_neg (fun h => h1 (Int.ofNat_lt.1 h)), if_neg (fun h => h2 (Int.ofNat_inj.1 h)), Int.natCast_zero]
theorem NS {a b : Nat} (h1 : nG a) (h : b ≤ a) : Ev (fun k => aJ.f k (wI a) (wI b)) (wI (a - b)) := by
 unfold aJ.f
 refine Ev.bind (oG h1) ?_
 have hl := jf h
 unfold nG at h1
 refine Ev.pos (by omega) (Ev.pos (by omega) ?_)
 have := NR rfl (iP a) (iP b) h1 hl (by rw [dQ, dQ]; exact h) (toW a).length 0 (by omega) (List.replicate (toW a).length 0) 0 (by simp) (Wd.replicate _) (by omega) (by simp [val])
 rw [dQ, dQ] at this
 rw [o8]
 exact this
theorem uZ (x s : Nat) (hs : s ≤ 64) : shl .u64 (x : Int) (s : Int) = IntKind.u64.wrap ((x : Int) * 2 ^ s) := by
 unfold shl
 rw [Int.toNat_natCast, Nat.min_eq_left (by simpa [IntKind.bits] using hs)]
theorem qH (x s : Nat) (hs : s ≤ 64) : shr .u64 (x : Int) (s : Int) = ((x / 2 ^ s : Nat) : Int) := by
 unfold shr
 rw [Int.toNat_natCast, Nat.min_eq_left (by simpa [IntKind.bits] using hs), tu]
theorem KW (zs : List Nat) (j : Nat) (h : zs.getD j 0 = 0) : zs.set j 0 = zs := by
 by_cases hj : j < zs.length
 ·rw [List.getD_eq_getElem?_getD, List.getElem?_eq_getElem hj] at h
  have : zs[j] = 0 := h
  conv => lhs; rw [← this]
  exact List.set_getElem_self hj
 ·exact List.set_eq_of_length_le (by omega)
theorem Rj {xs : List Nat} (hx : Wd xs) (hl : xs.length ≤ 100000000) (q s : Nat) (hq : q ≤ 100000000) (hs : s < 64) : ∀ d i, i + d = xs.length → ∀ (zs : List Nat), nU xs q s i zs → (∀ j, q + i < j → zs.getD j 0 = 0) →
  Ev (fun f => bJ.l0 f (toI xs) ((64 * q + s : Nat) : Int) (xs.length : Int) (toI zs) (i : Int)) (wI (val xs * 2 ^ (64 * q + s))) := by
 intro d
 induction d with
 | zero =>
  intro i hi zs h hz
  have : i = xs.length := by omega
  subst this
  refine Ev.one fun f => ?_
  rw [bJ.l0, if_neg (by omega), qm h.wd (by rw [h.len]; omega), h.done]
  rfl
 | succ d ih =>
  intro i hi zs h hz
  have hlen := h.len
  have c1 : (i : Int) < (xs.length : Int) := by omega
  have c2 : (0 : Int) ≤ ((q + i : Nat) : Int) := by omega
  have c3 : ((q + i : Nat) : Int) < (zs.length : Int) := by omega
  have c4 : (0 : Int) ≤ (i : Int) := by omega
  have c5 : (0 : Int) ≤ (s : Int) := by omega
  have c6 : (0 : Int) ≤ ((64 - s : Nat) : Int) := by omega
  have c7 : (0 : Int) ≤ ((q + i + 1 : Nat) : Int) := by omega
  have c8 : ((q + i + 1 : Nat) : Int) < (zs.length : Int) := by omega
  have c9 : i + 1 + d = xs.length := by omega
  have c10 : 64 - s ≤ 64 := by omega
  have hi' : i < xs.length := by omega
  have d1 : 64 * q + s < 1000000000000000000 := by omega
  have d2 : i < 1000000000000000000 := by omega
  have d3 : q < 1000000000000000000 := by omega
  have d4 : q + i < 1000000000000000000 := by omega
  have d5 : s < 18446744073709551616 := by omega
  have d6 : (64 * q + s) / 64 = q := by omega
  have d7 : (64 * q + s) % 64 = s := by omega
  have hst := h.step hi' hx hs (yY h.top hs)
  have hz' : ∀ j, q + (i + 1) < j → ((zs.set (q + i) (zs.getD (q + i) 0 + xs.getD i 0 * 2 ^ s % WB)).set (q + i + 1) (xs.getD i 0 * 2 ^ s / WB)).getD j 0 = 0 := fun j hj => by
   rw [getD_set_ne _ _ _ _ (by omega), getD_set_ne _ _ _ _ (by omega)]
   exact hz j (by omega)
  have e1 := KQ d1
  rw [d6] at e1
  have e2 := NQ (64 * q + s)
  rw [d7] at e2
  have e3 := NP d2 d3
  have e4 := rD d4
  have e5 := rD d2
  have e6 := t_ d5
  have e7 := OW hs
  refine Ev.step (f := fun f => bJ.l0 f (toI xs) ((64 * q + s : Nat) : Int) (xs.length : Int) (toI ((zs.set (q + i) (zs.getD (q + i) 0 + xs.getD i 0 * 2 ^ s % WB)).set (q + i + 1) (xs.getD i 0 * 2 ^ s / WB))) ((i + 1 : Nat) : Int)) (fun f => ?_) (ih (i + 1) c9 _ hst hz')
  rw [bJ.l0, if_pos c1]
  simp only [e1, e2, e3, e4, e5, e6, e7, dH, jS]
  rw [if_pos c2, if_pos c3, if_pos c4, if_pos c1, if_pos c5, uZ _ _ (Nat.le_of_lt hs), Fv _ _ _ h.top hs (hx.get i), kU]
  simp only [Option.bind_some]
  by_cases h0 : 0 < s
  ·rw [if_pos (show (s : Int) > 0 from Int.natCast_pos.2 h0), if_pos c6, if_pos c7, if_pos c8, qH _ _ c10, kU]
   congr 3
   have := yR (xs.getD i 0) s (Nat.le_of_lt hs) (hx.get i)
   rw [tu] at this
   exact Int.ofNat_inj.1 this
  ·have hs0 : s = 0 := Nat.eq_zero_of_not_pos h0
   subst hs0
   have e0 : xs.getD i 0 * 2 ^ 0 / WB = 0 := by rw [Nat.pow_zero, Nat.mul_one]; exact Nat.div_eq_of_lt (hx.get i)
   rw [if_neg (by decide), e0, KW _ (q + i + 1)]
   rw [getD_set_ne _ _ _ _ (Nat.ne_of_lt (Nat.lt_succ_self _))]
   exact hz _ (Nat.lt_succ_self _)
theorem OY {a : Nat} (n : Nat) (h : (toW a).length ≤ 10000000) (hn : n ≤ 1000000000) : Ev (fun k => bJ.f k (wI a) (n : Int)) (wI (a * 2 ^ n)) := by
 unfold bJ.f
 refine Ev.bind (oG (by unfold nG; omega)) ?_
 have hs : n % 64 < 64 := Nat.mod_lt _ (by decide)
 have hq : n / 64 ≤ 100000000 := by omega
 have e1 : wrap64 (Int.tdiv (n : Int) 64) = ((n / 64 : Nat) : Int) := by rw [Int.tdiv_eq_ediv_of_nonneg (by omega), w64 (by omega) (by omega)]; omega
 have e2 : wrap64 ((wrap64 (((toW a).length : Int) + ((n / 64 : Nat) : Int))) + 1) = ((n / 64 + (toW a).length + 1 : Nat) : Int) := by rw [w64 (x := ((toW a).length : Int) + ((n / 64 : Nat) : Int)) (by omega) (by omega), w64 (by omega) (by omega)]; omega
 rw [e1, e2, o8]
 refine Ev.pos (by omega) (Ev.pos (by omega) ?_)
 have := Rj (iP a) (by omega) (n / 64) (n % 64) hq hs (toW a).length 0 (by omega) _ (nU.start _ _ _) fun j _ => by
  rw [List.getD_eq_getElem?_getD, List.getElem?_replicate]; split <;> rfl
 rw [Nat.div_add_mod, dQ] at this
 exact this
theorem KX {a : Nat} (n : Nat) (h : (toW a).length ≤ 10000000) (hn : n ≤ 1000000000) : Ev (fun k => dL.f k (wI a) (n : Int)) (wI (a * 2 ^ n)) := by
 unfold dL.f
 exact Ev.bind (OY n h hn) (Ev.now _)
end Go.Proofs.YtafikkmnkeddpaaGreatDoor.P
namespace Go.Proofs.YtafikkmnkeddpaaGreatDoor.P
open Go.RowKit Go.Proofs.YtafikkmnkeddpaaGreatDoorW.PrintWords Go.Proofs.YtafikkmnkeddpaaGreatDoorW.PrintLast Go.Proofs.YtafikkmnkeddpaaGreatDoorW.PrintMore
theorem NT {xs : List Nat} (hx : Wd xs) (hl : xs.length ≤ 100000000) (q s : Nat) (hq : q ≤ xs.length) (hs : s < 64) : ∀ d i, i + d = xs.length - q → ∀ (zs : List Nat), lC xs q s i zs →
  Ev (fun f => bn.l0 f (toI xs) ((64 * q + s : Nat) : Int) (xs.length : Int) (toI zs) (i : Int)) (wI (val xs / 2 ^ (64 * q + s))) := by
 intro d
 induction d with
 | zero =>
  intro i hi zs h
  have hi' : i = xs.length - q := by omega
  subst hi'
  have hlen := h.len
  refine Ev.one fun f => ?_
  rw [bn.l0, dH, if_neg (by omega), qm h.wd (by omega), h.done hx]
  rfl
 | succ d ih =>
  intro i hi zs h
  have hlen := h.len
  have c1 : (i : Int) < (zs.length : Int) := by omega
  have c2 : (0 : Int) ≤ ((q + i : Nat) : Int) := by omega
  have c3 : ((q + i : Nat) : Int) < (xs.length : Int) := by omega
  have c4 : (0 : Int) ≤ (i : Int) := by omega
  have c5 : (0 : Int) ≤ (s : Int) := by omega
  have c6 : (0 : Int) ≤ ((64 - s : Nat) : Int) := by omega
  have c7 : (0 : Int) ≤ ((q + i + 1 : Nat) : Int) := by omega
  have c8 : q + i + 1 < xs.length → ((q + i + 1 : Nat) : Int) < (xs.length : Int) := fun _ => by omega
  have c8' : ¬ q + i + 1 < xs.length → ¬ ((q + i + 1 : Nat) : Int) < (xs.length : Int) := fun _ => by omega
  have c9 : i + 1 + d = xs.length - q := by omega
  have c10 : 64 - s ≤ 64 := by omega
  have c11 : i < zs.length := by omega
  have hi' : i < xs.length - q := by omega
  have d1 : 64 * q + s < 1000000000000000000 := by omega
  have d2 : i < 1000000000000000000 := by omega
  have d3 : q < 1000000000000000000 := by omega
  have d4 : q + i < 1000000000000000000 := by omega
  have d5 : s < 18446744073709551616 := by omega
  have d6 : (64 * q + s) / 64 = q := by omega
  have d7 : (64 * q + s) % 64 = s := by omega
  have hge : ¬ q + i + 1 < xs.length → xs.getD (q + i + 1) 0 = 0 := fun h => by rw [List.getD_eq_getElem?_getD, List.getElem?_eq_none (by omega)]; rfl
  have hw := qx (x := xs.getD (q + i) 0) (y := xs.getD (q + i + 1) 0) (hx.get _) hs
  have hst := h.step hx hs hi' hw
  have e1 := KQ d1
  rw [d6] at e1
  have e2 := NQ (64 * q + s)
  rw [d7] at e2
  have e3 := NP d2 d3
  have e4 := rD d4
  have e5 := rD d2
  have e6 := t_ d5
  have e7 := OW hs
  refine Ev.step (f := fun f => bn.l0 f (toI xs) ((64 * q + s : Nat) : Int) (xs.length : Int) (toI (zs.set i (xs.getD (q + i) 0 / 2 ^ s + xs.getD (q + i + 1) 0 * 2 ^ (64 - s) % WB))) ((i + 1 : Nat) : Int)) (fun f => ?_) (ih (i + 1) c9 _ hst)
  rw [bn.l0, dH, if_pos c1]
  simp only [e1, e2, e3, e4, e5, e6, e7, dH, jS]
  rw [if_pos c2, if_pos c3, if_pos c5, if_pos c4, qH _ _ (Nat.le_of_lt hs), kU]
  simp only [Option.bind_some]
  by_cases h0 : 0 < s
  ·rw [if_pos (show (s : Int) > 0 from Int.natCast_pos.2 h0)]
   by_cases hm : q + i + 1 < xs.length
   ·rw [if_pos (c8 hm), if_pos c7, if_pos (c8 hm), if_pos c6, jS, jK _ _ _ c11, uZ _ _ c10, AA _ _ _ (hx.get _) hs, kU, List.set_set]
   ·rw [if_neg (c8' hm), hge hm, Nat.zero_mul, Nat.zero_mod, Nat.add_zero (xs.getD (q + i) 0 / 2 ^ s)]
  ·have hs0 : s = 0 := Nat.eq_zero_of_not_pos h0
   subst hs0
   have ez : xs.getD (q + i + 1) 0 * 2 ^ (64 - 0) % WB = 0 := Nat.mul_mod_left _ _
   rw [if_neg (by decide), ez, Nat.add_zero (xs.getD (q + i) 0 / 2 ^ 0)]
theorem NU {a : Nat} (n : Nat) (h : (toW a).length ≤ 10000000) : Ev (fun k => bn.f k (wI a) (n : Int)) (wI (a / 2 ^ n)) := by
 unfold bn.f
 refine Ev.bind (FM (by unfold nG; omega)) ?_
 by_cases hn : iJ a ≤ n
 ·refine Ev.pos (by omega) ?_
  have : a / 2 ^ n = 0 := Nat.div_eq_of_lt (Nat.lt_of_lt_of_le (o_ a) (Nat.pow_le_pow_right (by decide) hn))
  rw [this]
  unfold wI
  rw [jy]
  exact Ev.now _
 ·refine Ev.neg (by omega) (Ev.bind (oG (by unfold nG; omega)) ?_)
  have hb : iJ a ≤ 64 * (toW a).length := oz (by have := lY a; rwa [show WB = 2 ^ 64 from rfl, ← Nat.pow_mul] at this)
  have hs : n % 64 < 64 := Nat.mod_lt _ (by decide)
  have hq : n / 64 ≤ (toW a).length := by omega
  have e1 : wrap64 (Int.tdiv (n : Int) 64) = ((n / 64 : Nat) : Int) := KQ (by omega)
  have e2 : wrap64 (((toW a).length : Int) - ((n / 64 : Nat) : Int)) = (((toW a).length - n / 64 : Nat) : Int) := by rw [w64 (by omega) (by omega)]; omega
  have c1 : (0 : Int) ≤ (((toW a).length - n / 64 : Nat) : Int) := by omega
  have c2 : (((toW a).length - n / 64 : Nat) : Int).toNat ≤ 35184372088832 := by omega
  have hr := NT (iP a) (by omega) (n / 64) (n % 64) hq hs ((toW a).length - n / 64) 0 (by omega) _ (lC.start _ _ _)
  rw [Nat.div_add_mod, dQ] at hr
  rw [e1, e2, o8]
  exact Ev.pos c1 (Ev.pos c2 hr)
theorem NV (a i : Nat) : (toW a).getD i 0 = a / WB ^ i % WB := by
 have h1 := qj (iP a) (k := i)
 rw [dQ] at h1
 rw [h1, mQ, Nat.add_mul_mod_self_left, Nat.mod_eq_of_lt ((iP a).get i)]
theorem KY (a i : Nat) : (toW a).getD (i / 64) 0 / 2 ^ (i % 64) % 2 = a / 2 ^ i % 2 := by
 rw [NV]
 have h64 : i % 64 < 64 := Nat.mod_lt _ (by decide)
 have e1 : WB = 2 ^ (i % 64) * 2 ^ (64 - i % 64) := by rw [← Nat.pow_add, Nat.add_sub_cancel' (by omega)]
 have e2 : a / 2 ^ i = a / WB ^ (i / 64) / 2 ^ (i % 64) := by
  rw [show WB = 2 ^ 64 from rfl, ← Nat.pow_mul, Nat.div_div_eq_div_mul, ← Nat.pow_add, Nat.div_add_mod]
 rw [e2]
 generalize a / WB ^ (i / 64) = b
 obtain ⟨m, hm⟩ : ∃ m, 64 - i % 64 = m + 1 := ⟨63 - i % 64, by omega⟩
 rw [hm] at e1
 rw [e1, Nat.mod_mul_right_div_self, Nat.pow_succ, Nat.mul_comm (2 ^ m) 2, Nat.mod_mul_right_mod]
theorem and_one (x : Nat) (h : x < WB) : Go.bits .and .u64 (x : Int) 1 = ((x % 2 : Nat) : Int) := by
 have := u64_and_nat x 1 h (by decide)
 rw [show ((1 : Nat) : Int) = 1 from rfl] at this
 rw [this, Nat.and_one_is_mod]
theorem P7 {a : Nat} (i : Nat) (h : (toW a).length ≤ 10000000) (hi : i ≤ 1000000000000000) : eF.f (wI a) (i : Int) = some ((a / 2 ^ i % 2 : Nat) : Int) := by
 have h1 : ¬ ((i : Int) < 0) := by omega
 have e2 := NQ i
 have c1 : (0 : Int) ≤ ((i / 64 : Nat) : Int) := by omega
 have c2 : (0 : Int) ≤ ((i % 64 : Nat) : Int) := by omega
 have c3 : i % 64 ≤ 64 := by omega
 have c4 : i % 64 < 18446744073709551616 := by omega
 have c5 : (toW a).length ≤ i / 64 → ((i / 64 : Nat) : Int) ≥ ((toW a).length : Int) := fun _ => by omega
 have c6 : ¬ (toW a).length ≤ i / 64 → ¬ ((i / 64 : Nat) : Int) ≥ ((toW a).length : Int) := fun _ => by omega
 have c7 : ¬ (toW a).length ≤ i / 64 → ((i / 64 : Nat) : Int) < ((toW a).length : Int) := fun _ => by omega
 have e1 := KQ (n := i) (by omega)
 unfold eF.f wI
 rw [if_neg h1, e1, e2, dH]
 by_cases hl : (toW a).length ≤ i / 64
 ·rw [if_pos (c5 hl), ← KY, List.getD_eq_getElem?_getD, List.getElem?_eq_none hl]
  simp
 ·rw [if_neg (c6 hl), if_pos c1, if_pos (c7 hl), t_ c4, if_pos c2, jS, qH _ _ c3, and_one _ (Nat.lt_of_le_of_lt (Nat.div_le_self _ _) ((iP a).get _)), KY]
theorem G_ {zs : List Nat} (h : Wd zs) (k : Nat) : zs.getD k 0 = val zs / WB ^ k % WB := by
 rw [qj h, mQ, Nat.add_mul_mod_self_left, Nat.mod_eq_of_lt (h.get k)]
theorem He {zs : List Nat} {k : Nat} (h : k < zs.length) (v : Nat) : val (zs.set k v) + WB ^ k * zs.getD k 0 = val zs + WB ^ k * v := by
 have h1 := kF (zs.set k v) (k + 1)
 have h2 := kF zs (k + 1)
 rw [iO _ _ _ h, rX (ys := zs) (by rw [List.length_set]) (k + 1) (fun j hj => getD_set_ne _ _ _ _ (by omega))] at h1
 rw [dW] at h2
 omega
theorem KZ {zs : List Nat} (hw : Wd zs) {j : Nat} (hj : j / 64 < zs.length) (m : Nat) (hm : val zs = m * 2 ^ (j + 1)) :
  Go.bits .or .u64 ((zs.getD (j / 64) 0 : Nat) : Int) (shl .u64 1 ((j % 64 : Nat) : Int)) = ((zs.getD (j / 64) 0 + 2 ^ (j % 64) : Nat) : Int) ∧ zs.getD (j / 64) 0 + 2 ^ (j % 64) < WB ∧ val (zs.set (j / 64) (zs.getD (j / 64) 0 + 2 ^ (j % 64))) = val zs + 2 ^ j := by
 have hs : j % 64 < 64 := Nat.mod_lt _ (by decide)
 have hs' : j % 64 ≤ 64 := Nat.le_of_lt hs
 have e0 : 64 * (j / 64) + j % 64 = j := Nat.div_add_mod j 64
 have e3 : j + 1 = 64 * (j / 64) + (j % 64 + 1) := by omega
 obtain ⟨c, hc⟩ : ∃ c, 64 = (j % 64 + 1) + c := ⟨63 - j % 64, by omega⟩
 have hval := He hj (zs.getD (j / 64) 0 + 2 ^ (j % 64))
 have hword := G_ hw (j / 64)
 have hx := hw.get (j / 64)
 generalize j / 64 = k at *
 generalize j % 64 = s at *
 have e1 : val zs / WB ^ k = m * 2 ^ (s + 1) := by
  rw [hm, e3, Nat.pow_add, show WB ^ k = 2 ^ (64 * k) by rw [show WB = 2 ^ 64 from rfl, ← Nat.pow_mul], Nat.mul_left_comm, Nat.mul_div_cancel_left _ (Nat.two_pow_pos _)]
 have e2 : WB = 2 ^ c * 2 ^ (s + 1) := by rw [← Nat.pow_add, Nat.add_comm c, ← hc]
 rw [e1, e2, Nat.mul_mod_mul_right] at hword
 have hy : m % 2 ^ c < 2 ^ c := Nat.mod_lt _ (Nat.two_pow_pos _)
 generalize m % 2 ^ c = y at *
 have hp : 2 ^ (s + 1) = 2 * 2 ^ s := by rw [Nat.pow_succ, Nat.mul_comm]
 have hlt : zs.getD k 0 + 2 ^ s < WB := by
  rw [hword, e2]
  have h1 : (y + 1) * 2 ^ (s + 1) ≤ 2 ^ c * 2 ^ (s + 1) := Nat.mul_le_mul_right _ hy
  have h2 := Nat.two_pow_pos s
  rw [Nat.add_mul, hp] at h1
  rw [hp]
  omega
 refine ⟨?_, hlt, ?_⟩
 ·have h1 : shl .u64 1 (s : Int) = ((2 ^ s : Nat) : Int) := by
   have := uZ 1 s hs'
   rw [show ((1 : Nat) : Int) = 1 from rfl] at this
   rw [this, Int.one_mul]
   have h2 : 2 ^ s < 18446744073709551616 := Nat.lt_of_le_of_lt (Nat.le_add_left _ _) hlt
   have := t_ h2
   rwa [Int.natCast_pow] at this
  rw [h1, u64_or_nat _ _ hx (Nat.lt_of_le_of_lt (Nat.le_add_left _ _) hlt), hword, Nat.mul_comm y, ← Nat.two_pow_add_eq_or_of_lt (by rw [hp]; have := Nat.two_pow_pos s; omega)]
 ·rw [Nat.mul_add] at hval
  have h3 : WB ^ k * 2 ^ s = 2 ^ j := by rw [show WB = 2 ^ 64 from rfl, ← Nat.pow_mul, ← Nat.pow_add, e0]
  rw [h3] at hval
  omega
def QR (a b : Nat) : List Int × List Int := (wI (a / b), wI (a % b))
theorem K_ (a j : Nat) : a / 2 ^ j = 2 * (a / 2 ^ (j + 1)) + a / 2 ^ j % 2 := by
 rw [Nat.pow_succ, ← Nat.div_div_eq_div_mul]; omega
theorem P8 {a b : Nat} (hb : 0 < b) (ha : (toW a).length ≤ 1000000) (hbl : (toW b).length ≤ 1000000) : ∀ j : Nat, j ≤ 64 * (toW a).length → ∀ zs : List Nat, Wd zs → zs.length = (toW a).length → val zs = a / 2 ^ j / b * 2 ^ j →
  Ev (fun k => aC.l0 k (wI a) (wI b) (toI zs) (wI (a / 2 ^ j % b)) ((j : Int) - 1)) (QR a b) := by
 intro j
 induction j with
 | zero =>
  intro hj zs hw hl hv
  rw [Nat.pow_zero, Nat.div_one, Nat.mul_one] at hv
  refine Ev.one fun k => ?_
  rw [aC.l0, if_neg (by omega), qm hw (by omega), hv]
  simp only [Option.bind_some, Nat.pow_zero, Nat.div_one]
  rfl
 | succ j ih =>
  intro hj zs hw hl hv
  have c1 : (j : Int) ≥ 0 := by omega
  have c2 : (0 : Int) ≤ ((j / 64 : Nat) : Int) := by omega
  have c3 : ((j / 64 : Nat) : Int) < (zs.length : Int) := by omega
  have c4 : (0 : Int) ≤ ((j % 64 : Nat) : Int) := by omega
  have c5 : j % 64 < 18446744073709551616 := by omega
  have c6 : j / 64 < zs.length := by omega
  have c7 : ((j + 1 : Nat) : Int) - 1 = (j : Int) := by omega
  have c8 : j ≤ 64 * (toW a).length := by omega
  have c9 : j < 1000000000000000000 := by omega
  have c10 : j ≤ 1000000000000000 := by omega
  have c11 : wrap64 ((j : Int) - 1) = (j : Int) - 1 := w64 (by omega) (by omega)
  have c12 : (toW a).length ≤ 10000000 := by omega
  have hlen2 : ∀ v, v < 2 * b → (toW v).length ≤ 1000001 := fun v hv => by
   refine Nat.le_trans (jG (k := (toW b).length + 1) (Nat.lt_of_lt_of_le hv ?_)) (Nat.succ_le_succ hbl)
   have h1 := lY b
   rw [Nat.pow_succ, Nat.mul_comm]
   exact Nat.mul_le_mul (Nat.le_of_lt h1) (by decide)
  have hR : a / 2 ^ (j + 1) % b < b := Nat.mod_lt _ hb
  have hQR := Nat.div_add_mod (a / 2 ^ (j + 1)) b
  have hd := K_ a j
  have hbit : a / 2 ^ j % 2 < 2 := Nat.mod_lt _ (by decide)
  have hB := P7 (a := a) j c12 c10
  generalize hbb : a / 2 ^ j % 2 = bit at *
  generalize hRR : a / 2 ^ (j + 1) % b = R at *
  generalize hQQ : a / 2 ^ (j + 1) / b = Q at *
  have hsum : a / 2 ^ j = b * (2 * Q) + (2 * R + bit) := by rw [hd, ← hQR]; rw [Nat.mul_left_comm b 2 Q]; omega
  have hup := OY (a := R) 1 (by have := hlen2 R (by omega); omega) (by omega)
  rw [Nat.pow_one, show R * 2 = 2 * R by omega] at hup
  have hj1 : Ev (fun k => aC.j1 k (wI a) (wI b) (toI zs) (wI (2 * R + bit)) (j : Int)) (QR a b) := by
   have hr1 := hlen2 (2 * R + bit) (by omega)
   have hcmp := rZ (a := 2 * R + bit) (b := b) (by unfold nG; omega) (by unfold nG; omega)
   refine Ev.step (f := fun k => (aU.f k (wI (2 * R + bit)) (wI b)).bind fun t504 => (if t504 ≥ 0 then ((aJ.f k (wI (2 * R + bit)) (wI b)).bind fun t505 => aC.l0 k (wI a) (wI b) (toI (zs.set (j / 64) (zs.getD (j / 64) 0 + 2 ^ (j % 64)))) t505 ((j : Int) - 1)) else aC.l0 k (wI a) (wI b) (toI zs) (wI (2 * R + bit)) ((j : Int) - 1))) (fun k => ?_) ?_
   ·have hsb := (KZ hw c6 Q hv).1
    rw [aC.j1]
    simp only [KQ c9, NQ, dH, t_ c5, jS, hsb, kU, c11, if_pos c2, if_pos c3, if_pos c4]
   ·refine Ev.bind hcmp ?_
    by_cases hge : b ≤ 2 * R + bit
    ·have hc : mF (2 * R + bit) b ≥ 0 := by
      rcases Nat.lt_or_ge b (2 * R + bit) with h | h
      ·rw [tJ h]; decide
      ·rw [show 2 * R + bit = b by omega, xH]; decide
     refine Ev.pos hc (Ev.bind (NS (by unfold nG; omega) hge) ?_)
     have hsb := (KZ hw c6 Q hv).2
     have hq1 : a / 2 ^ j / b = 2 * Q + 1 := by
      rw [hsum, Nat.mul_add_div hb, show 2 * R + bit = b + (2 * R + bit - b) by omega, Nat.add_div_left _ hb, Nat.div_eq_of_lt (show 2 * R + bit - b < b by omega)]
     have hm1 : a / 2 ^ j % b = 2 * R + bit - b := by
      rw [hsum, Nat.mul_add_mod, show 2 * R + bit = b + (2 * R + bit - b) by omega, Nat.add_mod_left, Nat.mod_eq_of_lt (show 2 * R + bit - b < b by omega)]
      omega
     have := ih c8 (zs.set (j / 64) (zs.getD (j / 64) 0 + 2 ^ (j % 64))) (hw.set _ _ hsb.1) (by rw [List.length_set]; exact hl) (by rw [hsb.2, hv, hq1, Nat.add_mul, Nat.pow_succ]; rw [Nat.one_mul, Nat.mul_comm 2 Q, Nat.mul_assoc, Nat.mul_comm (2 ^ j) 2])
     rwa [hm1] at this
    ·have hc : ¬ mF (2 * R + bit) b ≥ 0 := by rw [pz (by omega)]; decide
     refine Ev.neg hc ?_
     have hq1 : a / 2 ^ j / b = 2 * Q := by rw [hsum, Nat.mul_add_div hb, Nat.div_eq_of_lt (show 2 * R + bit < b by omega), Nat.add_zero]
     have hm1 : a / 2 ^ j % b = 2 * R + bit := by rw [hsum, Nat.mul_add_mod, Nat.mod_eq_of_lt (show 2 * R + bit < b by omega)]
     have := ih c8 zs hw hl (by rw [hv, hq1, Nat.pow_succ, Nat.mul_comm 2 Q, Nat.mul_assoc, Nat.mul_comm (2 ^ j) 2])
     rwa [hm1] at this
  refine Ev.step (f := fun k => (bJ.f k (wI R) 1).bind fun t494 => ((eF.f (wI a) (j : Int)).bind fun t497 => (if t497 = 1 then ((aj.f k t494 (([1] : List Int))).bind fun t501 => (aC.j1 k (wI a) (wI b) (toI zs) t501 (j : Int))) else (aC.j1 k (wI a) (wI b) (toI zs) t494 (j : Int))))) (fun k => ?_) ?_
  ·rw [aC.l0, c7, if_pos c1]
  ·refine Ev.bind hup ?_
   rw [hB]
   simp only [Option.bind_some]
   have hr2 := hlen2 (2 * R) (by omega)
   rcases (show bit = 1 ∨ bit = 0 by omega) with h1 | h1
   ·subst h1
    have hadd := KU (a := 2 * R) (b := 1) (by omega) (by rw [oC]; decide)
    rw [show wI 1 = [1] by unfold wI; rw [oC]; rfl] at hadd
    exact Ev.pos rfl (Ev.bind hadd hj1)
   ·subst h1
    exact Ev.neg (by decide) hj1
theorem P9 {a b : Nat} (hb : b ≠ 0) (ha : (toW a).length ≤ 1000000) (hbl : (toW b).length ≤ 1000000) : Ev (fun k => aC.f k (wI a) (wI b)) (QR a b) := by
 unfold aC.f
 refine Ev.bind (FM (by unfold nG; omega)) (Ev.bind (FM (by unfold nG; omega)) ?_)
 have h1 := o_ a
 have h2 := qh hb
 by_cases h : iJ a < iJ b
 ·refine Ev.pos (by omega) ?_
  have hlt : a < b := Nat.lt_of_lt_of_le h1 (Nat.le_trans (Nat.pow_le_pow_right (by decide) (by omega)) h2)
  have ht := qm (iP a) (by omega)
  rw [dQ] at ht
  rw [show wI a = toI (toW a) from rfl, ht]
  unfold QR
  rw [Nat.div_eq_of_lt hlt, Nat.mod_eq_of_lt hlt, show wI 0 = [] by unfold wI; rw [jy]; rfl]
  exact Ev.now _
 ·refine Ev.neg (by omega) (Ev.bind (oG (by unfold nG; omega)) ?_)
  have hbp : 0 < iJ b := by rw [mP hb]; omega
  have hba : iJ a ≤ 64 * (toW a).length := oz (by have := lY a; rwa [show WB = 2 ^ 64 from rfl, ← Nat.pow_mul] at this)
  have c1 : (0 : Int) ≤ ((toW a).length : Int) := by omega
  have c2 : (((toW a).length : Nat) : Int).toNat ≤ 35184372088832 := by omega
  have e1 : wrap64 ((wrap64 ((iJ a : Int) - (iJ b : Int))) + 1) = ((iJ a - iJ b + 1 : Nat) : Int) := by rw [w64 (x := (iJ a : Int) - (iJ b : Int)) (by omega) (by omega), w64 (by omega) (by omega)]; omega
  have e2 : wrap64 ((iJ a : Int) - (iJ b : Int)) = ((iJ a - iJ b + 1 : Nat) : Int) - 1 := by rw [w64 (by omega) (by omega)]; omega
  have hsm : a / 2 ^ (iJ a - iJ b + 1) < b := by
   refine Nat.lt_of_lt_of_le ?_ h2
   refine Nat.div_lt_of_lt_mul ?_
   rw [← Nat.pow_add]
   exact Nat.lt_of_lt_of_le h1 (Nat.pow_le_pow_right (by decide) (by omega))
  have hq := P8 (a := a) (b := b) (by omega) ha hbl (iJ a - iJ b + 1) (by omega) (List.replicate (toW a).length 0) (Wd.replicate _) (by simp) (by rw [ku, Nat.div_eq_of_lt hsm, Nat.zero_mul])
  rw [Nat.mod_eq_of_lt hsm] at hq
  rw [e1, e2, o8]
  exact Ev.pos c1 (Ev.pos c2 (Ev.bind (NU _ (by omega)) hq))
theorem AU {a b : Nat} (hb : b ≠ 0) (ha : (toW a).length ≤ 1000000) (hbl : (toW b).length ≤ 1000000) : Ev (fun k => dw.f k (wI a) (wI b)) (QR a b) := by
 unfold dw.f
 exact Ev.bind (P9 hb ha hbl) (Ev.now _)
end Go.Proofs.YtafikkmnkeddpaaGreatDoor.P
namespace Go.Proofs.YtafikkmnkeddpaaGreatDoor.P
open Go.RowKit Go.Proofs.YtafikkmnkeddpaaGreatDoorW.PrintWords Go.Proofs.YtafikkmnkeddpaaGreatDoorW.PrintLast Go.Proofs.YtafikkmnkeddpaaGreatDoorW.PrintMore
abbrev HB : Nat := 4294967296
def vB (B : Nat) : List Nat → Nat
 | [] => 0
 | x :: xs => x + B * vB B xs
def WdB (B : Nat) (xs : List Nat) : Prop := ∀ x ∈ xs, x < B
theorem WdB.get {B : Nat} (hB : 0 < B) {xs : List Nat} (h : WdB B xs) (i : Nat) : xs.getD i 0 < B := by
 by_cases hi : i < xs.length
 ·rw [List.getD_eq_getElem?_getD, List.getElem?_eq_getElem hi]; exact h _ (List.getElem_mem hi)
 ·rw [List.getD_eq_getElem?_getD, List.getElem?_eq_none (by omega)]; exact hB
theorem WdB.set {B : Nat} {xs : List Nat} (h : WdB B xs) (i y : Nat) (hy : y < B) : WdB B (xs.set i y) := fun z hz => by
 rcases List.mem_or_eq_of_mem_set hz with hz | rfl
 ·exact h z hz
 ·exact hy
theorem WdB.rep {B : Nat} (hB : 0 < B) (n : Nat) : WdB B (List.replicate n 0) := fun z hz => by
 have := List.eq_of_mem_replicate hz
 subst this
 exact hB
theorem IE (B : Nat) (xs ys : List Nat) : vB B (xs ++ ys) = vB B xs + B ^ xs.length * vB B ys := by
 induction xs with
 | nil => simp [vB]
 | cons x xs ih =>
  simp only [List.cons_append, vB, ih, List.length_cons, Nat.pow_succ]
  rw [Nat.mul_add, Nat.mul_comm (B ^ xs.length) B, Nat.mul_assoc]
  omega
theorem P_ (B n : Nat) : vB B (List.replicate n 0) = 0 := by
 induction n with
 | zero => rfl
 | succ n ih => simp [List.replicate_succ, vB, ih]
theorem Rk {B : Nat} {xs : List Nat} (h : WdB B xs) : vB B xs < B ^ xs.length := by
 induction xs with
 | nil => simp [vB]
 | cons x xs ih =>
  have h1 := ih fun y hy => h y (by simp [hy])
  have h2 := h x (by simp)
  simp only [vB, List.length_cons, Nat.pow_succ]
  have : B * (vB B xs + 1) ≤ B * B ^ xs.length := Nat.mul_le_mul_left _ h1
  rw [Nat.mul_comm (B ^ xs.length) B]
  rw [Nat.mul_add] at this
  omega
theorem nV (B : Nat) (xs : List Nat) (i : Nat) : vB B (xs.take (i + 1)) = vB B (xs.take i) + B ^ i * xs.getD i 0 := by
 by_cases h : i < xs.length
 ·rw [pR xs i h, IE, List.length_take, Nat.min_eq_left (by omega)]
  simp [vB]
 ·rw [List.take_of_length_le (by omega), List.take_of_length_le (by omega), List.getD_eq_getElem?_getD, List.getElem?_eq_none (by omega)]
  simp
theorem Cj (B : Nat) : ∀ (xs : List Nat) (k v : Nat), k < xs.length → vB B (xs.set k v) + B ^ k * xs.getD k 0 = vB B xs + B ^ k * v
 | [], k, v, h => by simp at h
 | x :: xs, 0, v, h => by simp [vB]; omega
 | x :: xs, k + 1, v, h => by
  have := Cj B xs k v (by simpa using h)
  simp only [List.set_cons_succ, vB, List.getD_cons_succ, Nat.pow_succ]
  have h2 := congrArg (B * ·) this
  simp only [Nat.mul_add] at h2
  rw [Nat.mul_comm (B ^ k) B, Nat.mul_assoc, Nat.mul_assoc]
  omega
def mW : List Nat → List Nat
 | [] => []
 | x :: xs => x % HB :: x / HB :: mW xs
theorem oL (xs : List Nat) : (mW xs).length = 2 * xs.length := by
 induction xs with
 | nil => rfl
 | cons x xs ih => simp only [mW, List.length_cons, ih]; omega
theorem Cm {xs : List Nat} (h : Wd xs) : WdB HB (mW xs) := by
 induction xs with
 | nil => intro y hy; simp [mW] at hy
 | cons x xs ih =>
  intro y hy
  simp only [mW, List.mem_cons] at hy
  rcases hy with rfl | rfl | hy
  ·exact Nat.mod_lt _ (by decide)
  ·refine Nat.div_lt_of_lt_mul ?_; exact h.head
  ·exact ih h.tail y hy
theorem zh (xs : List Nat) : vB HB (mW xs) = val xs := by
 induction xs with
 | nil => rfl
 | cons x xs ih =>
  simp only [mW, vB, val, ih]
  have := Nat.mod_add_div x HB
  rw [Nat.mul_add, ← Nat.mul_assoc, show HB * HB = WB from rfl]
  omega
theorem IG (xs : List Nat) (x : Nat) : mW (xs ++ [x]) = mW xs ++ [x % HB, x / HB] := by
 induction xs with
 | nil => rfl
 | cons y ys ih => simp only [List.cons_append, mW, ih]
theorem D5 (n : Nat) (h : n < WB) : Go.bits .and .u64 (n : Int) 4294967295 = ((n % HB : Nat) : Int) := EL n h
theorem II {xs : List Nat} (hx : Wd xs) (hl : xs.length ≤ 100000000) : ∀ d i, i + d = xs.length →
  Ev (fun k => aQ.l0 k (toI xs) (xs.length : Int) (toI (mW (xs.take i) ++ List.replicate (2 * d) 0)) (i : Int)) (toI (mW xs)) := by
 intro d
 induction d with
 | zero =>
  intro i hi
  refine Ev.one fun k => ?_
  rw [aQ.l0, if_neg (by omega), List.take_of_length_le (by omega)]
  simp
 | succ d ih =>
  intro i hi
  have hlt : i < xs.length := by omega
  have c1 : (i : Int) < (xs.length : Int) := by omega
  have c2 : (0 : Int) ≤ (i : Int) := by omega
  have hlen : (mW (xs.take i) ++ List.replicate (2 * (d + 1)) 0).length = 2 * xs.length := by
   rw [List.length_append, oL, List.length_take, List.length_replicate]; omega
  have c3 : (0 : Int) ≤ ((2 * i : Nat) : Int) := by omega
  have c4 : ((2 * i : Nat) : Int) < ((2 * xs.length : Nat) : Int) := by omega
  have c5 : (0 : Int) ≤ ((2 * i + 1 : Nat) : Int) := by omega
  have c6 : ((2 * i + 1 : Nat) : Int) < ((2 * xs.length : Nat) : Int) := by omega
  have c7 : i + 1 + d = xs.length := by omega
  have c8 : i < 1000000000000000000 := by omega
  have c9 : 2 * i < 1000000000000000000 := by omega
  have hdl : (mW (xs.take i)).length = 2 * i := by rw [oL, List.length_take]; omega
  have hset : ((mW (xs.take i) ++ List.replicate (2 * (d + 1)) 0).set (2 * i) (xs.getD i 0 % HB)).set (2 * i + 1) (xs.getD i 0 / HB) = mW (xs.take (i + 1)) ++ List.replicate (2 * d) 0 := by
   rw [show 2 * (d + 1) = 2 * d + 1 + 1 by omega, List.replicate_succ, List.replicate_succ, List.set_append_right _ _ (by omega), List.set_append_right _ _ (by omega), hdl, pR xs i hlt, IG, show 2 * i - 2 * i = 0 by omega, show 2 * i + 1 - 2 * i = 1 by omega]
   simp
  have e1 : wrap64 (2 * (i : Int)) = ((2 * i : Nat) : Int) := by rw [w64 (by omega) (by omega)]; omega
  have e2 := rD c9
  have e3 := rD c8
  have e4 : ((xs.getD i 0 : Nat) : Int) / 4294967296 = ((xs.getD i 0 / HB : Nat) : Int) := by rw [Int.natCast_ediv]; rfl
  have := ih (i + 1) c7
  refine Ev.step (f := fun k => aQ.l0 k (toI xs) (xs.length : Int) (toI (mW (xs.take (i + 1)) ++ List.replicate (2 * d) 0)) ((i + 1 : Nat) : Int)) (fun k => ?_) this
  rw [aQ.l0, if_pos c1, if_pos c2, dH, if_pos c1]
  simp only [e1, e2, e3, dH, hlen, jS]
  rw [if_pos c3, if_pos c4, if_pos c5, if_pos c6, D5 _ (hx.get i), kU, e4, kU, hset]
theorem vY {a : Nat} (h : (toW a).length ≤ 10000000) : Ev (fun k => aQ.f k (wI a)) (toI (mW (toW a))) := by
 unfold aQ.f
 refine Ev.bind (oG (by unfold nG; omega)) ?_
 have e1 : wrap64 (2 * ((toW a).length : Int)) = ((2 * (toW a).length : Nat) : Int) := by rw [w64 (by omega) (by omega)]; omega
 have c1 : (0 : Int) ≤ ((2 * (toW a).length : Nat) : Int) := by omega
 have c2 : ((2 * (toW a).length : Nat) : Int).toNat ≤ 35184372088832 := by omega
 have := II (iP a) (by omega) (toW a).length 0 (by omega)
 rw [e1, o8]
 exact Ev.pos c1 (Ev.pos c2 this)
theorem NW (k : Nat) : HB ^ (2 * k) = WB ^ k := by rw [Nat.pow_mul, show HB ^ 2 = WB from rfl]
theorem La {ds : List Nat} (hd : WdB HB ds) (hl : ds.length ≤ 100000000) : ∀ d i, i + d = ds.length → ∀ zs : List Nat, Wd zs → zs.length = (ds.length + 1) / 2 → val zs = vB HB (ds.take i) →
  Ev (fun k => bf.l0 k (toI ds) (toI zs) (i : Int)) (wI (vB HB ds)) := by
 intro d
 induction d with
 | zero =>
  intro i hi zs hw hz hv
  refine Ev.one fun k => ?_
  rw [bf.l0, dH, if_neg (by omega), qm hw (by omega), hv, List.take_of_length_le (by omega)]
  rfl
 | succ d ih =>
  intro i hi zs hw hz hv
  have hlt : i < ds.length := by omega
  have c1 : (i : Int) < (ds.length : Int) := by omega
  have c2 : (0 : Int) ≤ (i : Int) := by omega
  have c3 : (0 : Int) ≤ ((i / 2 : Nat) : Int) := by omega
  have c4 : ((i / 2 : Nat) : Int) < (zs.length : Int) := by omega
  have c4' : i / 2 < zs.length := by omega
  have c5 : (0 : Int) ≤ ((32 * (i % 2) : Nat) : Int) := by omega
  have c6 : 32 * (i % 2) < 64 := by omega
  have c7 : i + 1 + d = ds.length := by omega
  have c8 : i < 1000000000000000000 := by omega
  have c9 : 2 * (i / 2) + i % 2 = i := by omega
  have e1 : wrap64 (Int.tdiv (i : Int) 2) = ((i / 2 : Nat) : Int) := by rw [Int.tdiv_eq_ediv_of_nonneg (by omega), w64 (by omega) (by omega)]; omega
  have e2 : wrap64 (32 * (Int.tmod (i : Int) 2)) = ((32 * (i % 2) : Nat) : Int) := by rw [Int.tmod_eq_emod_of_nonneg (by omega), w64 (by omega) (by omega)]; omega
  have hm2 : i % 2 < 2 := by omega
  have hdi := hd.get (by decide) i
  have hword := G_ hw (i / 2)
  have hvl : vB HB (ds.take i) < HB ^ i := by
   have := Rk (B := HB) (xs := ds.take i) fun x hx => hd x (List.mem_of_mem_take hx)
   rwa [List.length_take, Nat.min_eq_left (by omega)] at this
  have hpow : HB ^ i = WB ^ (i / 2) * HB ^ (i % 2) := by rw [← NW, ← Nat.pow_add, c9]
  have hsm : zs.getD (i / 2) 0 < HB ^ (i % 2) := by
   rw [hword, hv]
   refine Nat.lt_of_le_of_lt (Nat.mod_le _ _) (Nat.div_lt_of_lt_mul ?_)
   rwa [← hpow]
  have hvs := He c4' (zs.getD (i / 2) 0 + ds.getD i 0 * HB ^ (i % 2))
  have hts := nV HB ds i
  have hor : Go.bits .or .u64 ((zs.getD (i / 2) 0 : Nat) : Int) (shl .u64 ((ds.getD i 0 : Nat) : Int) ((32 * (i % 2) : Nat) : Int)) = ((zs.getD (i / 2) 0 + ds.getD i 0 * HB ^ (i % 2) : Nat) : Int) ∧ zs.getD (i / 2) 0 + ds.getD i 0 * HB ^ (i % 2) < WB := by
   have hp : HB ^ (i % 2) = 2 ^ (32 * (i % 2)) := by rw [show HB = 2 ^ 32 from rfl, ← Nat.pow_mul]
   have hprod : ds.getD i 0 * HB ^ (i % 2) + HB ^ (i % 2) ≤ WB := by
    have h1 : (ds.getD i 0 + 1) * HB ^ (i % 2) ≤ HB * HB ^ (i % 2) := Nat.mul_le_mul_right _ hdi
    have h2 : HB * HB ^ (i % 2) ≤ WB := by
     have : HB ^ (i % 2) ≤ HB ^ 1 := Nat.pow_le_pow_right (by decide) (by omega)
     exact Nat.mul_le_mul_left HB this
    rw [Nat.add_mul, Nat.one_mul] at h1
    exact Nat.le_trans h1 h2
   have hlt2 : ds.getD i 0 * HB ^ (i % 2) < WB := Nat.lt_of_lt_of_le (Nat.lt_add_of_pos_right (Nat.pow_pos (by decide))) hprod
   have hsum : zs.getD (i / 2) 0 + ds.getD i 0 * HB ^ (i % 2) < WB := by
    refine Nat.lt_of_lt_of_le ?_ hprod
    rw [Nat.add_comm]
    exact Nat.add_lt_add_left hsm _
   rw [hp] at hsm hlt2 hsum ⊢
   refine ⟨?_, hsum⟩
   rw [uZ _ _ (Nat.le_of_lt c6), Fv _ _ _ hsm c6 (Nat.lt_of_lt_of_le hdi (by decide)), Nat.mod_eq_of_lt hlt2]
  have hv2 : val (zs.set (i / 2) (zs.getD (i / 2) 0 + ds.getD i 0 * HB ^ (i % 2))) = vB HB (ds.take (i + 1)) := by
   rw [hts, hpow, Nat.mul_assoc, Nat.mul_comm (HB ^ (i % 2)) (ds.getD i 0), ← hv]
   rw [Nat.mul_add] at hvs
   omega
  have e3 := rD c8
  have e4 := t_ (s := 32 * (i % 2)) (Nat.lt_trans c6 (by decide))
  have := ih (i + 1) c7 _ (hw.set _ _ hor.2) (by rw [List.length_set]; exact hz) hv2
  refine Ev.step (f := fun k => bf.l0 k (toI ds) (toI (zs.set (i / 2) (zs.getD (i / 2) 0 + ds.getD i 0 * HB ^ (i % 2)))) ((i + 1 : Nat) : Int)) (fun k => ?_) this
  rw [bf.l0, dH, if_pos c1]
  simp only [e1, e2, e3, e4, dH, jS]
  rw [if_pos c3, if_pos c4, if_pos c2, if_pos c5, hor.1, kU]
theorem Lc {ds : List Nat} (hd : WdB HB ds) (hl : ds.length ≤ 100000000) : Ev (fun k => bf.f k (toI ds)) (wI (vB HB ds)) := by
 unfold bf.f
 have e1 : wrap64 (Int.tdiv (wrap64 (((toI ds).length : Int) + 1)) 2) = (((ds.length + 1) / 2 : Nat) : Int) := by
  rw [dH, w64 (x := (ds.length : Int) + 1) (by omega) (by omega), Int.tdiv_eq_ediv_of_nonneg (by omega), w64 (by omega) (by omega)]; omega
 have c1 : (0 : Int) ≤ (((ds.length + 1) / 2 : Nat) : Int) := by omega
 have c2 : (((ds.length + 1) / 2 : Nat) : Int).toNat ≤ 35184372088832 := by omega
 have := La hd hl ds.length 0 (by omega) (List.replicate ((ds.length + 1) / 2) 0) (Wd.replicate _) (by simp) (by rw [ku]; rfl)
 rw [e1, o8]
 exact Ev.pos c1 (Ev.pos c2 this)
theorem Ld {H x y p c : Nat} (hx : x < H) (hy : y < H) (hp : p < H) (hc : c < H) : x * y + p + c < H * H := by
 obtain ⟨h, rfl⟩ : ∃ h, H = h + 1 := ⟨H - 1, by omega⟩
 have h1 : x * y ≤ h * h := Nat.mul_le_mul (by omega) (by omega)
 have h2 : (h + 1) * (h + 1) = h * h + h + h + 1 := by rw [Nat.add_mul, Nat.mul_add]; omega
 omega
theorem IJ {H P V V' Y t p c x y : Nat} (ht : t = x * y + p + c) (h1 : V' + P * p = V + P * (t % H)) : V' + t / H * (P * H) = V + P * (x * y) + c * P := by
 have h2 := Nat.mod_add_div t H
 have h3 : P * (t % H) + P * (H * (t / H)) = P * (x * y) + P * p + P * c := by rw [← Nat.mul_add, h2, ht, Nat.mul_add, Nat.mul_add]
 have h4 : t / H * (P * H) = P * (H * (t / H)) := by rw [Nat.mul_comm, Nat.mul_assoc]
 have h5 : c * P = P * c := Nat.mul_comm _ _
 omega
theorem D6 {V V' V0 P Pi Pj x y Y c c' H : Nat} (h1 : V' + c' * (P * H) = V + P * (x * y) + c * P) (h2 : V + c * P = V0 + x * Y * Pi) (hP : P = Pj * Pi) : V' + c' * (P * H) = V0 + x * (Y + Pj * y) * Pi := by
 have h3 : P * (x * y) = x * (Pj * y) * Pi := by rw [hP, Nat.mul_left_comm x Pj y, Nat.mul_right_comm]
 rw [h1, Nat.mul_add, Nat.add_mul, h3]
 omega
theorem Qa {a b : Nat} (h : a * b < 18446744073709551616) : IntKind.u64.wrap ((a : Int) * (b : Int)) = ((a * b : Nat) : Int) := by rw [← Int.natCast_mul]; exact t_ h
theorem Rl {a b : Nat} (h : a + b < 18446744073709551616) : IntKind.u64.wrap ((a : Int) + (b : Int)) = ((a + b : Nat) : Int) := by rw [← Int.natCast_add]; exact t_ h
theorem NY {xs ys : List Nat} (hx : WdB HB xs) (hy : WdB HB ys) (hlx : xs.length ≤ 10000000) (hly : ys.length ≤ 10000000) (i : Nat) (hi : i < xs.length) (V0 : Nat) {r : List Int}
  (hend : ∀ (ps : List Nat) (c : Nat), WdB HB ps → ps.length = xs.length + ys.length → c < HB → vB HB ps + c * HB ^ (i + ys.length) = V0 + xs.getD i 0 * vB HB ys * HB ^ i → (∀ m, i + ys.length ≤ m → ps.getD m 0 = 0) →
   Ev (fun k => ak.l1 k (toI xs) (toI ys) (toI ps) (i : Int) (c : Int) (ys.length : Int)) r) :
  ∀ d j, j + d = ys.length → ∀ (ps : List Nat) (c : Nat), WdB HB ps → ps.length = xs.length + ys.length → c < HB → vB HB ps + c * HB ^ (i + j) = V0 + xs.getD i 0 * vB HB (ys.take j) * HB ^ i → (∀ m, i + ys.length ≤ m → ps.getD m 0 = 0) →
   Ev (fun k => ak.l1 k (toI xs) (toI ys) (toI ps) (i : Int) (c : Int) (j : Int)) r := by
 intro d
 induction d with
 | zero =>
  intro j hj ps c h1 h2 h3 h4 h5
  have : j = ys.length := by omega
  subst this
  rw [List.take_of_length_le (Nat.le_refl _)] at h4
  exact hend ps c h1 h2 h3 h4 h5
 | succ d ih =>
  intro j hj ps c h1 h2 h3 h4 h5
  have c1 : (j : Int) < (ys.length : Int) := by omega
  have c2 : (0 : Int) ≤ (i : Int) := by omega
  have c3 : (i : Int) < (xs.length : Int) := by omega
  have c4 : (0 : Int) ≤ (j : Int) := by omega
  have c5 : (0 : Int) ≤ ((j + i : Nat) : Int) := by omega
  have c6 : ((j + i : Nat) : Int) < (ps.length : Int) := by omega
  have c6' : j + i < ps.length := by omega
  have c7 : j + 1 + d = ys.length := by omega
  have c8 : j < 1000000000000000000 := by omega
  have c9 : i < 1000000000000000000 := by omega
  have q1 : i + (j + 1) = (j + i) + 1 := by omega
  have q2 : i + j = j + i := by omega
  have q3 : ∀ m, i + ys.length ≤ m → j + i ≠ m := fun m hm => by omega
  rw [q2] at h4
  have hxi := hx.get (by decide) i
  have hyj := hy.get (by decide) j
  have hp := h1.get (by decide) (j + i)
  have ht := Ld hxi hyj hp h3
  have hW : HB * HB = 18446744073709551616 := rfl
  have e1 := NP c9 c8
  have e2 := rD c8
  have hvs := Cj HB ps (j + i) ((xs.getD i 0 * ys.getD j 0 + ps.getD (j + i) 0 + c) % HB) c6'
  have hpv := IJ (Y := 0) rfl hvs
  have hts := nV HB ys j
  have hW1 : xs.getD i 0 * ys.getD j 0 < 18446744073709551616 := by
   rw [← hW]; exact Nat.lt_of_le_of_lt (Nat.le_trans (Nat.le_add_right _ _) (Nat.le_add_right _ _)) ht
  have hW2 : xs.getD i 0 * ys.getD j 0 + ps.getD (j + i) 0 < 18446744073709551616 := by
   rw [← hW]; exact Nat.lt_of_le_of_lt (Nat.le_add_right _ _) ht
  have hW3 : xs.getD i 0 * ys.getD j 0 + ps.getD (j + i) 0 + c < 18446744073709551616 := by rw [← hW]; exact ht
  have hdiv : (((xs.getD i 0 * ys.getD j 0 + ps.getD (j + i) 0 + c : Nat)) : Int) / 4294967296 = (((xs.getD i 0 * ys.getD j 0 + ps.getD (j + i) 0 + c) / HB : Nat) : Int) := by rw [Int.natCast_ediv]; rfl
  have hcy : (xs.getD i 0 * ys.getD j 0 + ps.getD (j + i) 0 + c) / HB < HB := Nat.div_lt_of_lt_mul ht
  have hnew := ih (j + 1) c7 (ps.set (j + i) ((xs.getD i 0 * ys.getD j 0 + ps.getD (j + i) 0 + c) % HB)) ((xs.getD i 0 * ys.getD j 0 + ps.getD (j + i) 0 + c) / HB) (h1.set _ _ (Nat.mod_lt _ (by decide))) (by rw [List.length_set]; exact h2) hcy (by
    rw [q1, Nat.pow_succ, hts]
    exact D6 hpv h4 (Nat.pow_add _ _ _)) (fun m hm => by rw [getD_set_ne _ _ _ _ (q3 m hm)]; exact h5 m hm)
  refine Ev.step (f := fun k => ak.l1 k (toI xs) (toI ys) (toI (ps.set (j + i) ((xs.getD i 0 * ys.getD j 0 + ps.getD (j + i) 0 + c) % HB))) (i : Int) (((xs.getD i 0 * ys.getD j 0 + ps.getD (j + i) 0 + c) / HB : Nat) : Int) ((j + 1 : Nat) : Int)) (fun k => ?_) hnew
  rw [ak.l1, dH, if_pos c1]
  simp only [e1, e2, dH, jS]
  rw [if_pos c2, if_pos c3, if_pos c4, if_pos c5, if_pos c6, Qa hW1, Rl hW2, Rl hW3, D5 _ hW3, kU, hdiv]
theorem NZ {xs ys : List Nat} (hx : WdB HB xs) (hy : WdB HB ys) (hlx : xs.length ≤ 10000000) (hly : ys.length ≤ 10000000) : ∀ d i, i + d = xs.length → ∀ (ps : List Nat), WdB HB ps → ps.length = xs.length + ys.length → vB HB ps = vB HB (xs.take i) * vB HB ys → (∀ m, i + ys.length ≤ m → ps.getD m 0 = 0) →
  Ev (fun k => ak.l0 k (toI xs) (toI ys) (toI ps) (i : Int)) (wI (vB HB xs * vB HB ys)) := by
 intro d
 induction d with
 | zero =>
  intro i hi ps h1 h2 h3 h4
  rw [List.take_of_length_le (by omega)] at h3
  have hw := Lc h1 (by omega)
  rw [h3] at hw
  have c1 : ¬ ((i : Int) < (xs.length : Int)) := by omega
  refine Ev.step (f := fun k => (bf.f k (toI ps)).bind fun t392 => (some t392)) (fun k => ?_) (Ev.bind hw (Ev.now _))
  rw [ak.l0, dH, if_neg c1]
 | succ d ih =>
  intro i hi ps h1 h2 h3 h4
  have hlt : i < xs.length := by omega
  have c1 : (i : Int) < (xs.length : Int) := by omega
  have c2 : ¬ ((ys.length : Int) < (ys.length : Int)) := by omega
  have c3 : (0 : Int) ≤ ((ys.length + i : Nat) : Int) := by omega
  have c5 : i < 1000000000000000000 := by omega
  have c6 : ys.length < 1000000000000000000 := by omega
  have c7 : i + 1 + d = xs.length := by omega
  have q6 : ∀ m, i + 1 + ys.length ≤ m → i + ys.length ≤ m := fun m hm => by omega
  have e1 := NP c5 c6
  have e2 := rD c5
  have hts := nV HB xs i
  refine Ev.step (f := fun k => ak.l1 k (toI xs) (toI ys) (toI ps) (i : Int) ((0 : Nat) : Int) ((0 : Nat) : Int)) (fun k => by rw [ak.l0, dH, if_pos c1]; rfl) ?_
  refine NY hx hy hlx hly i hlt (vB HB ps) (fun qs c g1 g2 g3 g4 g5 => ?_) ys.length 0 (Nat.zero_add _) ps 0 h1 h2 (by decide) (by simp [vB]) h4
  by_cases h0 : 0 < ys.length
  ·have c4 : ((ys.length + i : Nat) : Int) < (qs.length : Int) := by omega
   have c4' : ys.length + i < qs.length := by omega
   have q4 : ys.length + i = i + ys.length := Nat.add_comm _ _
   have q5 : ∀ m, i + 1 + ys.length ≤ m → ys.length + i ≠ m := fun m hm => by omega
   have hz := g5 (ys.length + i) (Nat.le_of_eq q4.symm)
   have hvs := Cj HB qs (ys.length + i) c c4'
   rw [hz, Nat.mul_zero, Nat.add_zero, q4] at hvs
   have := ih (i + 1) c7 (qs.set (ys.length + i) c) (g1.set _ _ g3) (by rw [List.length_set]; exact g2) (by
    rw [q4, hvs, hts, Nat.add_mul, ← h3, Nat.mul_comm (HB ^ (i + ys.length)) c, g4, Nat.mul_comm (HB ^ i), Nat.mul_right_comm]) (fun m hm => by rw [getD_set_ne _ _ _ _ (q5 m hm)]; exact g5 m (q6 m hm))
   refine Ev.step (f := fun k => ak.l0 k (toI xs) (toI ys) (toI (qs.set (ys.length + i) c)) ((i + 1 : Nat) : Int)) (fun k => ?_) this
   rw [ak.l1]
   simp only [dH, e1, e2]
   rw [if_neg c2, if_pos (show (ys.length : Int) > 0 from Int.natCast_pos.2 h0), if_pos c3, if_pos c4, kU]
  ·have hy0 : ys = [] := List.length_eq_zero_iff.1 (Nat.eq_zero_of_not_pos h0)
   subst hy0
   have hc0 : c = 0 := by
    simp only [vB, Nat.mul_zero, Nat.zero_mul, Nat.add_zero, List.length_nil] at g4 h3
    rcases Nat.eq_zero_or_pos c with h | h
    ·exact h
    ·have := Nat.pow_pos (n := i) (show 0 < HB by decide)
     have h6 := Nat.mul_pos h this
     omega
   subst hc0
   have := ih (i + 1) c7 qs g1 g2 (by rw [hts]; simp only [vB, Nat.mul_zero, Nat.zero_mul, Nat.add_zero] at *; rw [g4, h3]) (fun m hm => g5 m (q6 m hm))
   refine Ev.step (f := fun k => ak.l0 k (toI xs) (toI []) (toI qs) ((i + 1 : Nat) : Int)) (fun k => ?_) this
   rw [ak.l1]
   simp only [dH, e2]
   rw [if_neg c2, if_neg (by decide)]
theorem zi {a b : Nat} (ha : (toW a).length ≤ 1000000) (hb : (toW b).length ≤ 1000000) : Ev (fun k => ak.f k (wI a) (wI b)) (wI (a * b)) := by
 unfold ak.f
 refine Ev.bind (vY (by omega)) (Ev.bind (vY (by omega)) ?_)
 have hl1 := oL (toW a)
 have hl2 := oL (toW b)
 have e1 : wrap64 (((toI (mW (toW a))).length : Int) + ((toI (mW (toW b))).length : Int)) = (((mW (toW a)).length + (mW (toW b)).length : Nat) : Int) := by
  rw [dH, dH, w64 (by omega) (by omega)]; omega
 have c1 : (0 : Int) ≤ (((mW (toW a)).length + (mW (toW b)).length : Nat) : Int) := by omega
 have c2 : (((mW (toW a)).length + (mW (toW b)).length : Nat) : Int).toNat ≤ 35184372088832 := by omega
 have := NZ (Cm (iP a)) (Cm (iP b)) (by omega) (by omega) (mW (toW a)).length 0 (by omega) (List.replicate ((mW (toW a)).length + (mW (toW b)).length) 0) (WdB.rep (by decide) _) (by simp) (by rw [P_]; simp [vB]) (fun m _ => by
  rw [List.getD_eq_getElem?_getD, List.getElem?_replicate]; split <;> rfl)
 rw [zh, zh, dQ, dQ] at this
 rw [e1, o8]
 exact Ev.pos c1 (Ev.pos c2 this)
theorem zk {a b : Nat} (ha : (toW a).length ≤ 1000000) (hb : (toW b).length ≤ 1000000) : Ev (fun k => bZ.f k (wI a) (wI b)) (wI (a * b)) := by
 unfold bZ.f
 exact Ev.bind (zi ha hb) (Ev.now _)
theorem AX {b : Nat} (h0 : b ≠ 0) (h : b < WB) : wI b = [(b : Int)] := by
 unfold wI
 rw [mM h0, Nat.mod_eq_of_lt h, Nat.div_eq_of_lt h, jy]
 rfl
theorem Qb {b n : Nat} (h2 : 2 ≤ b) (hb : b < WB) (hn : n ≤ 20000) (hf : gW (b ^ n)) : ∀ d i, i + d = n → Ev (fun k => au.l0 k (b : Int) (n : Int) (wI (b ^ i)) (i : Int)) (wI (b ^ n), 0) := by
 intro d
 induction d with
 | zero =>
  intro i hi
  have hin : i = n := by omega
  subst hin
  have c1 : ¬ ((i : Int) < (i : Int)) := by omega
  refine Ev.step (f := fun k => au.j2 k (b : Int) (i : Int) (wI (b ^ i)) (i : Int) false) (fun k => by rw [au.l0, if_neg c1]) ?_
  exact Ev.one fun k => by rw [au.j2, if_neg (by decide)]
 | succ d ih =>
  intro i hi
  have c1 : (i : Int) < (n : Int) := by omega
  have c2 : i < 1000000000000000000 := by omega
  have c3 : i + 1 + d = n := by omega
  have c4 : ((b : Int) != 1) = true := by simp; omega
  have hfi : (toW (b ^ i)).length ≤ 1024 := Nat.le_trans (jf (Nat.pow_le_pow_right (by omega) (by omega))) hf
  have hfi1 : (toW (b ^ (i + 1))).length ≤ 1024 := Nat.le_trans (jf (Nat.pow_le_pow_right (by omega) (by omega))) hf
  have hp0 : b ^ (i + 1) ≠ 0 := Nat.pos_iff_ne_zero.1 (Nat.pow_pos (by omega))
  have hpl := kW hp0
  have hw1 := AX (b := b) (by omega) hb
  have hb1 : (toW b).length ≤ 1000000 := by rw [← kV, hw1]; simp
  have hprod := zi (a := b ^ i) (b := b) (by omega) hb1
  rw [← Nat.pow_succ, hw1] at hprod
  have c5 : ¬ (((wI (b ^ (i + 1))).length : Int) > 1024) := by rw [kV]; omega
  have c6 : ¬ (((wI (b ^ (i + 1))).length : Int) = 0) := by rw [kV]; omega
  refine Ev.step (f := fun k => au.j2 k (b : Int) (n : Int) (wI (b ^ i)) (i : Int) true) (fun k => by rw [au.l0, if_pos c1, c4]) ?_
  refine Ev.step (f := fun k => (ak.f k (wI (b ^ i)) (([(b : Int)] : List Int))).bind fun t409 => (if (t409.length : Int) > 1024 then (some (([] : List Int), 5)) else (if (t409.length : Int) = 0 then (some (t409, 0)) else (au.l0 k (b : Int) (n : Int) t409 ((i + 1 : Nat) : Int))))) (fun k => by rw [au.j2, if_pos rfl, rD c2]) ?_
  exact Ev.bind hprod (Ev.neg c5 (Ev.neg c6 (ih (i + 1) c3)))
theorem Le {b n : Nat} (h2 : 2 ≤ b) (hb : b < WB) (hn : n ≤ 20000) (hf : gW (b ^ n)) : Ev (fun k => au.f k (b : Int) (n : Int)) (wI (b ^ n), 0) := by
 unfold au.f
 have c1 : ¬ ((n : Int) < 0) := by omega
 have c2 : decide ((n : Int) > 20000) = false := by simp; omega
 refine Ev.neg c1 ?_
 rw [c2]
 have := Qb h2 hb hn hf n 0 (by omega)
 rw [Nat.pow_zero, show wI 1 = [1] by unfold wI; rw [oC]; rfl] at this
 exact Ev.step (f := fun k => au.l0 k (b : Int) (n : Int) [1] 0) (fun k => by rw [au.j0, if_neg (by decide)]) this
theorem Lh {n : Nat} (hn : n ≤ 20000) (hf : gW (10 ^ n)) : Ev (fun k => dR.f k (n : Int)) (wI (10 ^ n)) := by
 unfold dR.f
 exact Ev.bind (Le (b := 10) (by decide) (by decide) hn hf) (Ev.now _)
end Go.Proofs.YtafikkmnkeddpaaGreatDoor.P
namespace Go.Proofs.YtafikkmnkeddpaaGreatDoor.P
open Go.RowKit Go.Proofs.YtafikkmnkeddpaaGreatDoorW.PrintWords Go.Proofs.YtafikkmnkeddpaaGreatDoorW.PrintLast Go.Proofs.YtafikkmnkeddpaaGreatDoorW.PrintMore
end Go.Proofs.YtafikkmnkeddpaaGreatDoor.P
namespace Go.Proofs.YtafikkmnkeddpaaGreatDoor.P
open Go.RowKit Go.Proofs.YtafikkmnkeddpaaGreatDoorW.PrintWords Go.Proofs.YtafikkmnkeddpaaGreatDoorW.PrintLast Go.Proofs.YtafikkmnkeddpaaGreatDoorW.PrintMore
theorem N7 (bs : List Nat) (hl : bs.length ≤ 1000000) : ∀ d i, i + d = bs.length → ∀ zs : List Nat, zs.length = bs.length → (∀ m, m < i → zs.getD m 0 = bs.getD (bs.length - 1 - m) 0) →
  Ev (fun k => ah.l4 k (toI bs) (toI zs) (i : Int)) (strOfNums (toI bs.reverse), 0) := by
 intro d
 induction d with
 | zero =>
  intro i hi zs h1 h2
  have c1 : ¬ ((i : Int) < (bs.length : Int)) := by omega
  have he : zs = bs.reverse := by
   refine List.ext_getElem (by rw [h1, List.length_reverse]) fun m g1 g2 => ?_
   have := h2 m (by omega)
   rw [List.getD_eq_getElem?_getD, List.getD_eq_getElem?_getD, List.getElem?_eq_getElem g1, List.getElem?_eq_getElem (by omega)] at this
   rw [List.getElem_reverse]
   exact this
  exact Ev.one fun k => by rw [ah.l4, dH, if_neg c1, he]
 | succ d ih =>
  intro i hi zs h1 h2
  have c1 : (i : Int) < (bs.length : Int) := by omega
  have c2 : (0 : Int) ≤ ((bs.length - 1 - i : Nat) : Int) := by omega
  have c3 : ((bs.length - 1 - i : Nat) : Int) < (bs.length : Int) := by omega
  have c4 : (0 : Int) ≤ (i : Int) := by omega
  have c5 : (i : Int) < (zs.length : Int) := by omega
  have c5' : i < zs.length := by omega
  have c6 : i + 1 + d = bs.length := by omega
  have c7 : i < 1000000000000000000 := by omega
  have e1 : wrap64 ((wrap64 ((bs.length : Int) - 1)) - (i : Int)) = ((bs.length - 1 - i : Nat) : Int) := by rw [w64 (x := (bs.length : Int) - 1) (by omega) (by omega), w64 (by omega) (by omega)]; omega
  have := ih (i + 1) c6 (zs.set i (bs.getD (bs.length - 1 - i) 0)) (by rw [List.length_set]; exact h1) (fun m hm => by
   by_cases hmi : m = i
   ·subst hmi; rw [jK _ _ _ c5']
   ·rw [getD_set_ne _ _ _ _ (fun h => hmi h.symm)]; exact h2 m (by clear e1; omega))
  refine Ev.step (f := fun k => ah.l4 k (toI bs) (toI (zs.set i (bs.getD (bs.length - 1 - i) 0))) ((i + 1 : Nat) : Int)) (fun k => ?_) this
  rw [ah.l4, dH, if_pos c1, e1, if_pos c2, if_pos c3, if_pos c4, dH, if_pos c5, jS, kU, rD c7]
theorem SG (r d : Nat) (hr : r < 1000000000) (hd : d < HB) : Go.bits .or .u64 (IntKind.u64.wrap ((r : Int) * 4294967296)) ((d : Nat) : Int) = ((r * HB + d : Nat) : Int) := by
 have h1 : r * HB < WB := Nat.lt_of_lt_of_le (Nat.mul_lt_mul_of_pos_right hr (by decide)) (by decide)
 have := or_hi r d 32 hd h1 (by decide)
 have e := Qa (a := r) (b := HB) h1
 rw [show ((HB : Nat) : Int) = 4294967296 from rfl] at e
 rw [e]
 exact this
theorem FN {H N P V V' Dl d t r X : Nat} (ht : t = r * H + d) (h1 : V' + P * d = V + P * (t / N)) (h3 : X + (Dl + P * d) * N = V * N + r * (P * H) + (Dl + P * d)) : X + Dl * N = V' * N + t % N * P + Dl := by
 have e1 := Nat.mod_add_div t N
 have e2 : P * (t % N) + P * (N * (t / N)) = P * (r * H) + P * d := by rw [← Nat.mul_add, e1, ht, Nat.mul_add]
 have e3 : P * (N * (t / N)) = P * (t / N) * N := by rw [Nat.mul_comm N, Nat.mul_assoc]
 have e4 : r * (P * H) = P * (r * H) := Nat.mul_left_comm _ _ _
 have e5 : t % N * P = P * (t % N) := Nat.mul_comm _ _
 have e6 : V' * N + P * d * N = V * N + P * (t / N) * N := by rw [← Nat.add_mul, h1, Nat.add_mul]
 have e7 : (Dl + P * d) * N = Dl * N + P * d * N := Nat.add_mul _ _ _
 generalize P * (t / N) * N = A at *
 generalize P * (t % N) = B at *
 generalize P * (r * H) = C at *
 generalize P * d * N = D at *
 omega
theorem N8 (bs : List Int) (left : Nat) (ds0 : List Nat) (hl : left ≤ ds0.length) (hl2 : ds0.length ≤ 1000000) {r : ByteArray × Int}
  (hend : ∀ (es : List Nat) (q : Nat), WdB HB es → es.length = ds0.length → q < 1000000000 → vB HB (ds0.take left) = vB HB (es.take left) * 1000000000 + q → Ev (fun k => ah.l2 k (toI es) bs (left : Int) (q : Int)) r) :
  ∀ i, i ≤ left → ∀ (es : List Nat) (q : Nat), WdB HB es → es.length = ds0.length → q < 1000000000 → vB HB (ds0.take left) + vB HB (ds0.take i) * 1000000000 = vB HB (es.take left) * 1000000000 + q * HB ^ i + vB HB (ds0.take i) → (∀ m, m < i → es.getD m 0 = ds0.getD m 0) →
   Ev (fun k => ah.l1 k (toI es) bs (left : Int) (q : Int) ((i : Int) - 1)) r := by
 intro i
 induction i with
 | zero =>
  intro hi es q h1 h2 h3 h4 h5
  have c1 : ¬ (((0 : Nat) : Int) - 1 ≥ 0) := by omega
  refine Ev.step (f := fun k => ah.l2 k (toI es) bs (left : Int) (q : Int)) (fun k => by rw [ah.l1, if_neg c1]) (hend es q h1 h2 h3 ?_)
  simpa [vB] using h4
 | succ i ih =>
  intro hi es q h1 h2 h3 h4 h5
  have c0 : ((i + 1 : Nat) : Int) - 1 = (i : Int) := by omega
  have c1 : (i : Int) ≥ 0 := by omega
  have c2 : (0 : Int) ≤ (i : Int) := by omega
  have c3 : (i : Int) < (es.length : Int) := by omega
  have c3' : i < es.length := by omega
  have c4 : i ≤ left := by omega
  have c5 : wrap64 ((i : Int) - 1) = (i : Int) - 1 := w64 (by omega) (by omega)
  have q1 : ∀ m, m < i → i ≠ m := fun m hm => by omega
  have q2 : ∀ m, m < i → m < i + 1 := fun m hm => by omega
  have c6 : i < (es.take left).length := by rw [List.length_take]; omega
  have hdi := h1.get (by decide) i
  have hdd := h5 i (Nat.lt_succ_self i)
  have ht : q * HB + es.getD i 0 < 1000000000 * HB := by
   have : (q + 1) * HB ≤ 1000000000 * HB := Nat.mul_le_mul_right _ h3
   rw [Nat.add_mul, Nat.one_mul] at this
   exact Nat.lt_of_lt_of_le (Nat.add_lt_add_left hdi _) this
  have hq : (q * HB + es.getD i 0) / 1000000000 < HB := Nat.div_lt_of_lt_mul ht
  have hor := SG q (es.getD i 0) h3 hdi
  have hnn : ((q * HB + es.getD i 0 : Nat) : Int).tdiv 1000000000 = (((q * HB + es.getD i 0) / 1000000000 : Nat) : Int) := by
   rw [Int.tdiv_eq_ediv_of_nonneg (Int.natCast_nonneg _), Int.natCast_ediv]; rfl
  have hmm : ((q * HB + es.getD i 0 : Nat) : Int).tmod 1000000000 = (((q * HB + es.getD i 0) % 1000000000 : Nat) : Int) := by
   rw [Int.tmod_eq_emod_of_nonneg (Int.natCast_nonneg _), Int.natCast_emod]; rfl
  have hw : IntKind.u64.wrap (((q * HB + es.getD i 0) / 1000000000 : Nat) : Int) = (((q * HB + es.getD i 0) / 1000000000 : Nat) : Int) := t_ (Nat.lt_trans hq (by decide))
  have hts := nV HB ds0 i
  have hset : (es.set i ((q * HB + es.getD i 0) / 1000000000)).take left = (es.take left).set i ((q * HB + es.getD i 0) / 1000000000) := List.take_set
  have htk : (es.take left).getD i 0 = es.getD i 0 := by
   rw [List.getD_eq_getElem?_getD, List.getElem?_take, if_pos (by rw [List.length_take] at c6; exact Nat.lt_of_lt_of_le c6 (Nat.min_le_left _ _)), ← List.getD_eq_getElem?_getD]
  have hvs := Cj HB (es.take left) i ((q * HB + es.getD i 0) / 1000000000) c6
  rw [htk] at hvs
  rw [hts, ← hdd, Nat.pow_succ] at h4
  have := ih c4 (es.set i ((q * HB + es.getD i 0) / 1000000000)) ((q * HB + es.getD i 0) % 1000000000) (h1.set _ _ hq) (by rw [List.length_set]; exact h2) (Nat.mod_lt _ (by decide)) (by
   rw [hset]
   exact FN rfl hvs h4) (fun m hm => by rw [getD_set_ne _ _ _ _ (q1 m hm)]; exact h5 m (q2 m hm))
  refine Ev.step (f := fun k => ah.l1 k (toI (es.set i ((q * HB + es.getD i 0) / 1000000000))) bs (left : Int) (((q * HB + es.getD i 0) % 1000000000 : Nat) : Int) ((i : Int) - 1)) (fun k => ?_) this
  rw [c0, ah.l1, if_pos c1, if_pos c2, dH, if_pos c3, jS, hor, hnn, hmm, hw, kU, c5]
theorem N9 (bs : List Int) (q : Nat) (es : List Nat) (hw : WdB HB es) (hl2 : es.length ≤ 1000000) {r : ByteArray × Int} :
  ∀ n, n ≤ es.length → (∀ m, m ≤ n → vB HB (es.take m) = vB HB (es.take n) → (vB HB (es.take m) = 0 → m = 0) → Ev (fun k => ah.j3 k (toI es) bs (m : Int) (q : Int)) r) →
   Ev (fun k => ah.l2 k (toI es) bs (n : Int) (q : Int)) r := by
 intro n
 induction n with
 | zero =>
  intro hn h
  have c1 : ¬ (((0 : Nat) : Int) > 0) := by omega
  exact Ev.step (f := fun k => ah.j3 k (toI es) bs ((0 : Nat) : Int) (q : Int)) (fun k => by rw [ah.l2, if_neg c1]) (h 0 (Nat.le_refl _) rfl fun _ => rfl)
 | succ n ih =>
  intro hn h
  have c1 : ((n + 1 : Nat) : Int) > 0 := by omega
  have c2 : (0 : Int) ≤ (n : Int) := by omega
  have c3 : (n : Int) < (es.length : Int) := by omega
  have c4 : n < 1000000000000000000 := by omega
  have c5 : n ≤ es.length := by omega
  have hts := nV HB es n
  by_cases h0 : es.getD n 0 = 0
  ·have hts' : vB HB (es.take (n + 1)) = vB HB (es.take n) := by rw [h0, Nat.mul_zero] at hts; exact hts
   have := ih c5 fun m h1 h2 h3 => h m (Nat.le_succ_of_le h1) (by rw [h2, hts']) h3
   refine Ev.step (f := fun k => ah.l2 k (toI es) bs (n : Int) (q : Int)) (fun k => ?_) this
   rw [ah.l2, if_pos c1, QI c4, if_pos c2, dH, if_pos c3, jS, h0, if_pos (show ((0 : Nat) : Int) = 0 from rfl)]
  ·have hp := Nat.pow_pos (n := n) (show 0 < HB by decide)
   have h6 := Nat.mul_pos hp (Nat.pos_of_ne_zero h0)
   have hne : ¬ ((es.getD n 0 : Nat) : Int) = 0 := fun h => h0 (Int.ofNat_inj.1 h)
   refine Ev.step (f := fun k => ah.j3 k (toI es) bs ((n + 1 : Nat) : Int) (q : Int)) (fun k => ?_) (h (n + 1) (Nat.le_refl _) rfl fun hz => ?_)
   ·rw [ah.l2, if_pos c1, QI c4, if_pos c2, dH, if_pos c3, jS, if_neg hne]
   ·rw [hts] at hz; omega
theorem N_ (es : List Nat) (left : Nat) (Q : Nat) (hQ : Q = 0 ↔ left = 0) (v : Nat) {r : ByteArray × Int}
  (hend : ∀ bs : List Nat, bs.length ≤ 1000000 → l7 v = bs ++ l7 Q → Ev (fun k => ah.l0 k (toI es) (asc bs) (left : Int)) r) :
  ∀ d j : Nat, j + d = 9 → ∀ (bs : List Nat) (q : Nat), bs.length + d ≤ 1000000 → q < 10 ^ d → l7 v = bs ++ l7 (Q * 10 ^ d + q) → Ev (fun k => ah.l3 k (toI es) (asc bs) (left : Int) (q : Int) (j : Int)) r := by
 intro d
 induction d with
 | zero =>
  intro j hj bs q h1 h2 h3
  have hq : q = 0 := by simpa using h2
  subst hq
  have c1 : ¬ ((j : Int) < 9) := by omega
  rw [Nat.pow_zero, Nat.mul_one, Nat.add_zero] at h3
  exact Ev.step (f := fun k => ah.l0 k (toI es) (asc bs) (left : Int)) (fun k => by rw [ah.l3, if_neg c1]) (hend bs h1 h3)
 | succ d ih =>
  intro j hj bs q h1 h2 h3
  have c1 : (j : Int) < 9 := by omega
  have c2 : j < 1000000000000000000 := by omega
  have c3 : j + 1 + d = 9 := by omega
  have hpow : 10 ^ (d + 1) = 10 * 10 ^ d := by rw [Nat.pow_succ, Nat.mul_comm]
  have hq10 : q / 10 < 10 ^ d := Nat.div_lt_of_lt_mul (by rw [← hpow]; exact h2)
  have hb1 : (bs ++ [q % 10]).length + d ≤ 1000000 := by rw [List.length_append]; simp; omega
  have hb2 : bs.length < 140737488355328 := by omega
  have hqs : q < 10000000000 := by
   have : 10 ^ (d + 1) ≤ 10 ^ 10 := Nat.pow_le_pow_right (by decide) (by omega)
   exact Nat.lt_of_lt_of_le h2 this
  have e1 : (IntKind.u64.wrap (48 + (Int.tmod (q : Int) 10))) % 256 = ((48 + q % 10 : Nat) : Int) := by
   rw [Int.tmod_eq_emod_of_nonneg (Int.natCast_nonneg _), wu64 (by omega) (by omega)]; omega
  have e2 : IntKind.u64.wrap (Int.tdiv (q : Int) 10) = ((q / 10 : Nat) : Int) := by
   rw [Int.tdiv_eq_ediv_of_nonneg (Int.natCast_nonneg _), wu64 (by omega) (by omega)]; omega
  have go : (Q * 10 ^ (d + 1) + q ≠ 0) → Ev (fun k => ah.l3 k (toI es) (asc (bs ++ [q % 10])) (left : Int) ((q / 10 : Nat) : Int) ((j + 1 : Nat) : Int)) r := fun hne =>
   ih (j + 1) c3 (bs ++ [q % 10]) (q / 10) hb1 hq10 (by
    rw [h3, vk hne, hpow, Nat.mul_left_comm Q 10, Nat.mul_add_mod, Nat.mul_add_div (by decide), List.append_assoc]
    rfl)
  by_cases hL : 0 < left
  ·have hQ0 : Q ≠ 0 := fun h => by rw [hQ.1 h] at hL; exact Nat.lt_irrefl 0 hL
   have hne : Q * 10 ^ (d + 1) + q ≠ 0 := by
    have := Nat.mul_pos (Nat.pos_of_ne_zero hQ0) (Nat.pow_pos (n := d + 1) (show 0 < 10 by decide))
    omega
   refine Ev.step (f := fun k => ah.l3 k (toI es) (asc (bs ++ [q % 10])) (left : Int) ((q / 10 : Nat) : Int) ((j + 1 : Nat) : Int)) (fun k => ?_) (go hne)
   rw [ah.l3, if_pos c1, if_pos (show (left : Int) > 0 from Int.natCast_pos.2 hL), kZ, if_pos hb2, e1, e2, sF, rD c2]
  ·have hL0 : left = 0 := Nat.eq_zero_of_not_pos hL
   have hQ0 := hQ.2 hL0
   subst hL0 hQ0
   by_cases hq0 : 0 < q
   ·refine Ev.step (f := fun k => ah.l3 k (toI es) (asc (bs ++ [q % 10])) ((0 : Nat) : Int) ((q / 10 : Nat) : Int) ((j + 1 : Nat) : Int)) (fun k => ?_) (go (by omega))
    rw [ah.l3, if_pos c1, if_neg (by decide), if_pos (show (q : Int) > 0 from Int.natCast_pos.2 hq0), kZ, if_pos hb2, e1, e2, sF, rD c2]
   ·have hq1 : q = 0 := Nat.eq_zero_of_not_pos hq0
    subst hq1
    rw [Nat.zero_mul, Nat.add_zero] at h3
    refine Ev.step (f := fun k => ah.l0 k (toI es) (asc bs) ((0 : Nat) : Int)) (fun k => ?_) (hend bs (by omega) h3)
    rw [ah.l3, if_pos c1, if_neg (by decide), if_neg (by decide)]
theorem Oa (v : Nat) (hv : v ≠ 0) (hd1 : (l7 v).length ≤ 900000) : ∀ V : Nat, ∀ (ds : List Nat) (left : Nat) (bs : List Nat), WdB HB ds → ds.length ≤ 1000000 → left ≤ ds.length → vB HB (ds.take left) = V → (0 < left → V ≠ 0) → l7 v = bs ++ l7 V →
  Ev (fun k => ah.l0 k (toI ds) (asc bs) (left : Int)) (strOfNums (asc (l7 v).reverse), 0) := by
 intro V
 induction V using Nat.strongRecOn with
 | _ V ih =>
  intro ds left bs h1 h2 h3 h4 h5 h6
  have hbl : bs.length ≤ 900000 := by
   have := congrArg List.length h6
   rw [List.length_append] at this
   omega
  by_cases hL : 0 < left
  ·have c5 : (left : Int) - 1 = wrap64 ((left : Int) - 1) := (w64 (by omega) (by omega)).symm
   have hVp := h5 hL
   refine Ev.step (f := fun k => ah.l1 k (toI ds) (asc bs) (left : Int) ((0 : Nat) : Int) ((left : Int) - 1)) (fun k => by rw [ah.l0, if_pos (show (left : Int) > 0 from Int.natCast_pos.2 hL), ← c5]; rfl) ?_
   refine N8 (asc bs) left ds h3 h2 (fun es q g1 g2 g3 g4 => ?_) left (Nat.le_refl _) ds 0 h1 rfl (by decide) (by rw [Nat.zero_mul]; omega) (fun m _ => rfl)
   rw [h4] at g4
   refine N9 (asc bs) q es g1 (by omega) left (by omega) fun m k1 k2 k3 => ?_
   refine Ev.step (f := fun k => ah.l3 k (toI es) (asc bs) (m : Int) (q : Int) ((0 : Nat) : Int)) (fun k => by rw [ah.j3]; rfl) ?_
   have hQ : vB HB (es.take m) = 0 ↔ m = 0 := ⟨k3, fun h => by rw [h]; rfl⟩
   refine N_ es m (vB HB (es.take m)) hQ v (fun cs l1 l2 => ?_) 9 0 rfl bs q (by omega) g3 (by rw [k2, h6, g4])
   refine ih (vB HB (es.take m)) (by rw [k2]; omega) es m cs g1 (by omega) (by omega) rfl (fun h => fun hz => by rw [k3 hz] at h; exact Nat.lt_irrefl 0 h) l2
  ·have hL0 : left = 0 := Nat.eq_zero_of_not_pos hL
   subst hL0
   have hV0 : V = 0 := h4.symm
   rw [hV0, tK, List.append_nil] at h6
   rw [h6]
   have e1 : (0 : Int) ≤ (((asc bs).length : Nat) : Int) := Int.natCast_nonneg _
   have e2 : (((asc bs).length : Nat) : Int).toNat ≤ 281474976710656 := by rw [kZ]; omega
   have := N7 (bs.map (48 + ·)) (by rw [List.length_map]; omega) (bs.map (48 + ·)).length 0 (Nat.zero_add _) (List.replicate (bs.map (48 + ·)).length 0) (by simp) (fun m hm => absurd hm (Nat.not_lt_zero m))
   rw [← List.map_reverse] at this
   refine Ev.step (f := fun k => ah.l4 k (asc bs) (toI (List.replicate (bs.map (48 + ·)).length 0)) ((0 : Nat) : Int)) (fun k => ?_) this
   rw [ah.l0, if_neg (by decide), if_pos e1, if_pos e2, o8, kZ, List.length_map]
   rfl
theorem Ob {v : Nat} (hv : v ≠ 0) (hf : gW v) : Ev (fun k => ah.f k (wI v)) (strOfNums (asc (l7 v).reverse), 0) := by
 unfold gW at hf
 unfold ah.f
 have hp := kW hv
 have c1 : ¬ (((toW v).length : Int) > 1024) := by omega
 have c2 : ¬ (((toW v).length : Int) = 0) := by omega
 have hl := oL (toW v)
 refine Ev.bind (oG (by unfold nG; omega)) (Ev.neg c1 (Ev.bind (oG (by unfold nG; omega)) (Ev.neg c2 (Ev.bind (vY (by omega)) ?_))))
 have hlen : (l7 v).length ≤ 900000 := by
  have h1 := (pV hv).1
  have h2 := lY v
  rw [show WB = 2 ^ 64 from rfl, ← Nat.pow_mul] at h2
  have h3 := uU (Nat.lt_of_le_of_lt (Nat.le_trans (Nat.pow_le_pow_left (show 2 ≤ 10 by decide) _) h1) h2)
  omega
 rw [dH]
 refine Oa v hv hlen v (mW (toW v)) (mW (toW v)).length [] (Cm (iP v)) (by omega) (Nat.le_refl _) (by rw [List.take_of_length_le (Nat.le_refl _), zh, dQ]) (fun _ => hv) rfl
end Go.Proofs.YtafikkmnkeddpaaGreatDoor.P
namespace Go.Proofs.YtafikkmnkeddpaaGreatDoor
def um (r d : Nat) : Nat := if r = 0 then 0 else if 2 * r < d then 1 else if 2 * r = d then 2 else 3
def lOf (a d : Nat) : Nat := um (a % d) d
theorem LD (r d : Nat) : um r d ≤ 3 := by unfold um; split <;> (try split) <;> (try split) <;> omega
theorem zq {r d : Nat} : um r d = 0 ↔ r = 0 := by unfold um; split <;> (try split) <;> (try split) <;> simp_all
def zu (m : Int) (neg odd : Bool) (l : Nat) : Bool :=
 if m = 0 then decide (l = 3) || (decide (l = 2) && odd) else if m = 1 then decide (2 ≤ l) else if m = 3 then !neg else if m = 4 then neg else if m = 5 then !odd else false
def jC (m : Int) (neg : Bool) (u l : Nat) : Nat := if l ≠ 0 ∧ zu m neg (decide (u % 2 = 1)) l = true then u + 1 else u
theorem IL (m : Int) (neg : Bool) (u l : Nat) : u ≤ jC m neg u l := by unfold jC; split <;> omega
theorem IQ (m : Int) (neg : Bool) (u l : Nat) : jC m neg u l ≤ u + 1 := by unfold jC; split <;> omega
theorem Eb (m : Int) (neg : Bool) (u : Nat) : jC m neg u 0 = u := by unfold jC; simp
structure Fm where
 W : Nat
 P : Nat
 emin : Int
 emax : Int
structure Fm.Ok (F : Fm) : Prop where
 p2 : 2 ≤ F.P
 pw : F.P < F.W
 w64 : F.W ≤ 64
 ee : F.emin ≤ F.emax
 fld : F.emax - F.emin + 2 < 2 ^ (F.W - F.P)
end Go.Proofs.YtafikkmnkeddpaaGreatDoor
namespace Go.Proofs.YtafikkmnkeddpaaGreatDoor
end Go.Proofs.YtafikkmnkeddpaaGreatDoor
namespace Go.Proofs.YtafikkmnkeddpaaGreatDoor
structure Fm.Small (F : Fm) : Prop where
 ok : F.Ok
 top : F.emax ≤ 1023
 top0 : 0 ≤ F.emax
 low : -1075 ≤ F.emin - F.P
 low0 : F.emin - F.P ≤ 0
theorem uG (k : Nat) : 0 < 10 ^ k := Nat.pow_pos (by decide)
end Go.Proofs.YtafikkmnkeddpaaGreatDoor
namespace Go.Proofs.YtafikkmnkeddpaaGreatDoor.P
open Go.RowKit Go.Proofs.YtafikkmnkeddpaaGreatDoorW.PrintWords Go.Proofs.YtafikkmnkeddpaaGreatDoorW.PrintLast Go.Proofs.YtafikkmnkeddpaaGreatDoorW.PrintMore
structure IsF (a : Int) (F : Fm) : Prop where
 row : bT.f a = some ((F.W : Int), (F.P : Int), F.emin, F.emax, true)
 small : F.Small
 ones : 2 * F.emax + 2 = ((2 ^ (F.W - F.P) : Nat) : Int)
 emin1 : -2000 ≤ F.emin
def fmH : Fm := ⟨16, 11, -14, 15⟩
def fmB : Fm := ⟨16, 8, -126, 127⟩
def fmS : Fm := ⟨32, 24, -126, 127⟩
def fmD : Fm := ⟨64, 53, -1022, 1023⟩
theorem SH : IsF 0 fmH := ⟨rfl, ⟨⟨by decide, by decide, by decide, by decide, by decide⟩, by decide, by decide, by decide, by decide⟩, by decide, by decide⟩
theorem SI : IsF 1 fmB := ⟨rfl, ⟨⟨by decide, by decide, by decide, by decide, by decide⟩, by decide, by decide, by decide, by decide⟩, by decide, by decide⟩
theorem SK : IsF 2 fmS := ⟨rfl, ⟨⟨by decide, by decide, by decide, by decide, by decide⟩, by decide, by decide, by decide, by decide⟩, by decide, by decide⟩
theorem SL : IsF 3 fmD := ⟨rfl, ⟨⟨by decide, by decide, by decide, by decide, by decide⟩, by decide, by decide, by decide, by decide⟩, by decide, by decide⟩
theorem IK {v n : Nat} : (toW (v * 2 ^ n)).length ≤ (toW v).length + n / 64 + 1 := by
 refine jG ?_
 have h1 := lY v
 have h2 : 2 ^ n ≤ WB ^ (n / 64 + 1) := by
  rw [show WB = 2 ^ 64 from rfl, ← Nat.pow_mul]
  exact Nat.pow_le_pow_right (by decide) (by omega)
 rw [Nat.add_assoc, Nat.pow_add]
 exact Nat.lt_of_lt_of_le (Nat.mul_lt_mul_of_pos_right h1 (Nat.two_pow_pos n)) (Nat.mul_le_mul_left _ h2)
theorem FP {a b : Nat} (h : a ≤ b) : (toW a).length ≤ (toW b).length := jf h
theorem D7 {r d : Nat} (h : r ≠ 0) : wrap64 (2 + mF (r * 2) d) = ((um r d : Nat) : Int) := by
 unfold um mF
 rw [if_neg h, Nat.mul_comm]
 split
 ·rw [w64 (by decide) (by decide)]; rfl
 ·split
  ·rw [w64 (by decide) (by decide)]; rfl
  ·rw [w64 (by decide) (by decide)]; rfl
theorem Hf {A D : Nat} (hD : D ≠ 0) (hA : (toW A).length ≤ 900000) (hDl : (toW D).length ≤ 900000) : Ev (fun k => (dw.f k (wI A) (wI D)).bind fun bt => (if (bt.2.length : Int) = 0 then (some (bt.1, 0)) else ((dL.f k bt.2 1).bind fun t => ((aU.f k t (wI D)).bind fun t' => (some (bt.1, wrap64 (2 + t'))))))) (wI (A / D), ((lOf A D : Nat) : Int)) := by
 refine Ev.bind (AU hD (by omega) (by omega)) ?_
 have hr : A % D < D := Nat.mod_lt _ (Nat.pos_of_ne_zero hD)
 have hrl := FP (Nat.le_of_lt hr)
 unfold lOf QR
 simp only []
 rw [kV]
 by_cases h0 : A % D = 0
 ·rw [h0, jy]
  refine Ev.pos rfl ?_
  unfold um
  rw [if_pos rfl]
  exact Ev.now _
 ·have hp := kW h0
  refine Ev.neg (by omega) ?_
  have hup := KX (a := A % D) 1 (by omega) (by omega)
  rw [Nat.pow_one] at hup
  have hs := IK (v := A % D) (n := 1)
  rw [Nat.pow_one] at hs
  refine Ev.bind hup (Ev.bind (rZ (by unfold nG; omega) (by unfold nG; omega)) ?_)
  rw [D7 h0]
  exact Ev.now _
theorem CB {x s : Nat} (hs : s ≤ 64) (h : x * 2 ^ s < 18446744073709551616) : shl .u64 (x : Int) (s : Int) = ((x * 2 ^ s : Nat) : Int) := by
 rw [uZ _ _ hs]
 have := Qa (a := x) (b := 2 ^ s) h
 rwa [Int.natCast_pow] at this
end Go.Proofs.YtafikkmnkeddpaaGreatDoor.P
namespace Go.Proofs.YtafikkmnkeddpaaGreatDoor.P
open Go.RowKit Go.Proofs.YtafikkmnkeddpaaGreatDoorW.PrintWords Go.Proofs.YtafikkmnkeddpaaGreatDoorW.PrintLast Go.Proofs.YtafikkmnkeddpaaGreatDoorW.PrintMore
abbrev bl (s : ByteArray) : List UInt8 := s.data.toList
theorem CG (s : ByteArray) : (bl s).length = s.size := Array.length_toList
theorem vZ (s : ByteArray) : s.toList = bl s := ByteArray.toList_eq s
theorem FQ (s : ByteArray) (i : Nat) : bl (s.extract i s.size) = (bl s).drop i := by
 have : bl (s.extract i s.size) = ((bl s).drop i).take (s.size - i) := by simp [bl]
 rw [this, List.take_of_length_le (by rw [List.length_drop, CG]; exact Nat.le_refl _)]
theorem uw (s : ByteArray) (i : Nat) : (s.extract i s.size).size = s.size - i := by rw [← CG, FQ, List.length_drop, CG]
theorem drop_cons {l : List UInt8} {i : Nat} (h : i < l.length) : l.drop i = l.getD i 0 :: l.drop (i + 1) := by
 rw [List.drop_eq_getElem_cons h, List.getD_eq_getElem?_getD, List.getElem?_eq_getElem h]
 rfl
theorem Lj (x : Int) (n : Int) (p : Prop) [Decidable p] (h : (x = n) = p) : (x == n) = decide p := by
 rw [Bool.eq_iff_iff, beq_iff_eq, decide_eq_true_eq, h]
end Go.Proofs.YtafikkmnkeddpaaGreatDoor.P
namespace Go.Proofs.YtafikkmnkeddpaaGreatDoor.P
open Go.RowKit Go.Proofs.YtafikkmnkeddpaaGreatDoorW.PrintWords Go.Proofs.YtafikkmnkeddpaaGreatDoorW.PrintLast Go.Proofs.YtafikkmnkeddpaaGreatDoorW.PrintMore
def nI (a : Int) : Option Fm := if a = 0 then some fmH else if a = 1 then some fmB else if a = 2 then some fmS else if a = 3 then some fmD else none
theorem u_ {a : Int} {F : Fm} (h : nI a = some F) : IsF a F := by
 unfold nI at h
 split at h
 ·rename_i h0; subst h0; cases h; exact SH
 ·split at h
  ·rename_i h0; subst h0; cases h; exact SI
  ·split at h
   ·rename_i h0; subst h0; cases h; exact SK
   ·split at h
    ·rename_i h0; subst h0; cases h; exact SL
    ·cases h
theorem AY {a : Int} (h : nI a = none) : a ≠ 0 ∧ a ≠ 1 ∧ a ≠ 2 ∧ a ≠ 3 := by
 unfold nI at h
 split at h
 ·cases h
 ·split at h
  ·cases h
  ·split at h
   ·cases h
   ·split at h
    ·cases h
    ·exact ⟨by assumption, by assumption, by assumption, by assumption⟩
theorem Rn {v k : Nat} (h : v < 10 ^ k) : (toW v).length ≤ k / 19 + 1 := jG (Nat.lt_of_lt_of_le h (y8 k))
theorem zl (k : Nat) : (toW (10 ^ k)).length ≤ (k + 1) / 19 + 1 := Rn (by rw [Nat.pow_succ]; have := uG k; omega)
end Go.Proofs.YtafikkmnkeddpaaGreatDoor.P
namespace Go.Proofs.YtafikkmnkeddpaaGreatDoor.P
open Go.RowKit Go.Proofs.YtafikkmnkeddpaaGreatDoorW.PrintWords Go.Proofs.YtafikkmnkeddpaaGreatDoorW.PrintLast Go.Proofs.YtafikkmnkeddpaaGreatDoorW.PrintMore
theorem uy {P : Int → Fm → Prop} (h0 : P 0 fmH) (h1 : P 1 fmB) (h2 : P 2 fmS) (h3 : P 3 fmD) {a : Int} {F : Fm} (h : nI a = some F) : P a F := by
 unfold nI at h
 split at h
 ·rename_i e; subst e; cases h; exact h0
 ·split at h
  ·rename_i e; subst e; cases h; exact h1
  ·split at h
   ·rename_i e; subst e; cases h; exact h2
   ·split at h
    ·rename_i e; subst e; cases h; exact h3
    ·cases h
theorem CJ {a : Int} {F : Fm} (h : nI a = some F) : bY.f a = some ((F.W : Int), (F.P : Int), F.emin, F.emax, 0) := by
 refine uy (P := fun a F => bY.f a = some ((F.W : Int), (F.P : Int), F.emin, F.emax, 0)) ?_ ?_ ?_ ?_ h <;> rfl
theorem D8 {a : Int} (h : nI a = none) : bY.f a = some (0, 0, 0, 0, 2) := by
 obtain ⟨h0, h1, h2, h3⟩ := AY h
 unfold bY.f lX
 rw [if_neg h0, if_neg h1, if_neg h2, if_neg h3]
theorem Lr {v : Nat} (h : v ≠ 0) : rd (wI v) 0 = ((v % WB : Nat) : Int) := by
 have := jS (toW v) 0
 rw [show ((0 : Nat) : Int) = 0 from rfl] at this
 rw [J5, this, mM h]
 rfl
theorem SN {u v : Nat} (h : (toW u).length ≤ 1000000) (h' : (toW v).length ≤ 1000000) : iV.f (wI u) (wI v) = some (wI (u + v)) := by
 unfold iV.f
 rw [if_pos ⟨OkI.wI (by omega), OkI.wI (by omega)⟩, nC, nC]
theorem SQ : wI 1 = [1] := by unfold wI; rw [oC]; rfl
theorem Oe (v : Nat) : decide (0 < (wI v).length) = decide (0 < v) := by
 rw [kV]
 apply decide_eq_decide.2
 constructor
 ·intro h
  rcases Nat.eq_zero_or_pos v with h0 | h0
  ·subst h0; rw [jy] at h; exact absurd h (by decide)
  ·exact h0
 ·intro h; exact kW (by omega)
end Go.Proofs.YtafikkmnkeddpaaGreatDoor.P
namespace Go.Proofs.YtafikkmnkeddpaaGreatDoor.P
def gN (n : Nat) (e t : Int) : Prop := tmD e t ≤ tmN n e t
theorem MF {n : Nat} {e t : Int} (h : gN n e t) : gN n e (t + 1) := by
 unfold gN tmD tmN at *
 by_cases h0 : 0 ≤ t
 ·rw [show (-(t + 1)).toNat = 0 by omega, show (t + 1).toNat = t.toNat + 1 by omega]
  rw [show (-t).toNat = 0 by omega] at h
  refine Nat.le_trans h ?_
  rw [Nat.pow_succ, ← Nat.mul_assoc]
  exact Nat.mul_le_mul_right _ (Nat.le_mul_of_pos_right _ (by decide))
 ·rw [show (t + 1).toNat = t.toNat by omega]
  rw [show (-t).toNat = (-(t + 1)).toNat + 1 by omega, Nat.pow_succ] at h
  refine Nat.le_trans (Nat.mul_le_mul_right _ ?_) h
  exact Nat.le_mul_of_pos_right _ (by decide)
theorem Gj {n : Nat} {e t : Int} (h : gN n e t) : ∀ (k : Nat), gN n e (t + k)
 | 0 => by simpa using h
 | k + 1 => by
  have := MF (Gj h k)
  rwa [show t + ((k + 1 : Nat) : Int) = t + (k : Int) + 1 by omega]
theorem QB {n : Nat} {e t t' : Int} (h : gN n e t) (hl : t ≤ t') : gN n e t' := by
 have := Gj h (t' - t).toNat
 rwa [show t + ((t' - t).toNat : Int) = t' by omega] at this
def O5 (n : Nat) (e E : Int) : Prop := gN n e (-E) ∧ ¬ gN n e (-E - 1)
theorem zX (n : Nat) (e : Int) : ∀ (f : Nat) (x : Int), 0 < f → gN n e (-x) → ¬ gN n e (-(x + f)) → ∃ r, wV n e f x = some r ∧ O5 n e r ∧ x ≤ r ∧ r < x + f
 | 0, x, h0, _, _ => absurd h0 (by decide)
 | f + 1, x, _, h1, h2 => by
  rw [wV]
  by_cases hc : tmN n e (-x - 1) < tmD e (-x - 1)
  ·rw [if_pos hc]
   exact ⟨x, rfl, ⟨h1, by unfold gN; omega⟩, by omega, by omega⟩
  ·rw [if_neg hc]
   have hg : gN n e (-(x + 1)) := by rw [show -(x + 1) = -x - 1 by omega]; unfold gN; omega
   have hf : 0 < f := Nat.pos_of_ne_zero fun hz => by subst hz; exact h2 (by simpa using hg)
   obtain ⟨r, h3, h4, h5, h6⟩ := zX n e f (x + 1) hf hg (by rwa [show x + 1 + (f : Int) = x + ((f + 1 : Nat) : Int) by omega])
   exact ⟨r, h3, h4, by omega, by omega⟩
def gss (b : Int) : Int := Int.tdiv (b * 30103) 100000 - 2
def O6 (b : Int) : Bool :=
 decide (10 ^ (gss b).toNat * 2 ^ (-b).toNat ≤ 2 ^ b.toNat * 10 ^ (-(gss b)).toNat) && decide (2 ^ (b + 1).toNat * 10 ^ (-(gss b + 40)).toNat ≤ 10 ^ (gss b + 40).toNat * 2 ^ (-(b + 1)).toNat)
def MG : Nat → Bool
 | 0 => true
 | n + 1 => O6 ((n : Int) - 1110) && MG n
theorem MH : MG 2300 = true := by decide +kernel
theorem Gl : ∀ m n, n < m → MG m = true → O6 ((n : Int) - 1110) = true
 | m + 1, n, h, ha => by
  simp only [MG, Bool.and_eq_true] at ha
  by_cases hn : n = m
  ·rw [hn]; exact ha.1
  ·exact Gl m n (by omega) ha.2
theorem MI (b : Int) (h1 : -1110 ≤ b) (h2 : b ≤ 1180) : 10 ^ (gss b).toNat * 2 ^ (-b).toNat ≤ 2 ^ b.toNat * 10 ^ (-(gss b)).toNat ∧ 2 ^ (b + 1).toNat * 10 ^ (-(gss b + 40)).toNat ≤ 10 ^ (gss b + 40).toNat * 2 ^ (-(b + 1)).toNat := by
 have h := Gl 2300 (b + 1110).toNat (by omega) MH
 rw [show (((b + 1110).toNat : Nat) : Int) - 1110 = b by omega] at h
 unfold O6 at h
 simpa only [Bool.and_eq_true, decide_eq_true_eq] using h
theorem Hz {n p : Nat} (h : 2 ^ p ≤ n) {e b : Int} (hb : b = e + p) {G : Int} (hg : 10 ^ G.toNat * 2 ^ (-b).toNat ≤ 2 ^ b.toNat * 10 ^ (-G).toNat) : gN n e (-G) := by
 unfold gN tmD tmN
 rw [show (-(-G)).toNat = G.toNat by omega]
 refine Nat.le_of_mul_le_mul_right (c := 2 ^ (-b).toNat) ?_ (Nat.two_pow_pos _)
 calc 10 ^ G.toNat * 2 ^ (-e).toNat * 2 ^ (-b).toNat = 10 ^ G.toNat * 2 ^ (-b).toNat * 2 ^ (-e).toNat := by rw [Nat.mul_assoc, Nat.mul_assoc, Nat.mul_comm (2 ^ (-e).toNat)]
  _ ≤ 2 ^ b.toNat * 10 ^ (-G).toNat * 2 ^ (-e).toNat := Nat.mul_le_mul_right _ hg
  _ = 10 ^ (-G).toNat * (2 ^ b.toNat * 2 ^ (-e).toNat) := by rw [Nat.mul_comm (2 ^ b.toNat), Nat.mul_assoc]
  _ = 10 ^ (-G).toNat * (2 ^ p * 2 ^ e.toNat * 2 ^ (-b).toNat) := by
   congr 1
   rw [← Nat.pow_add, ← Nat.pow_add, ← Nat.pow_add]
   congr 1
   omega
  _ = 2 ^ p * 10 ^ (-G).toNat * 2 ^ e.toNat * 2 ^ (-b).toNat := by
   rw [← Nat.mul_assoc, ← Nat.mul_assoc, Nat.mul_comm (10 ^ (-G).toNat)]
  _ ≤ n * 10 ^ (-G).toNat * 2 ^ e.toNat * 2 ^ (-b).toNat := Nat.mul_le_mul_right _ (Nat.mul_le_mul_right _ (Nat.mul_le_mul_right _ h))
theorem ED {n p : Nat} (h : n < 2 ^ p) {e b : Int} (hb : b = e + p) {G : Int} (hg : 2 ^ b.toNat * 10 ^ (-G).toNat ≤ 10 ^ G.toNat * 2 ^ (-b).toNat) : ¬ gN n e (-G) := by
 unfold gN tmD tmN
 rw [show (-(-G)).toNat = G.toNat by omega, Nat.not_le]
 refine Nat.lt_of_mul_lt_mul_right (a := 2 ^ (-b).toNat) ?_
 calc n * 10 ^ (-G).toNat * 2 ^ e.toNat * 2 ^ (-b).toNat < 2 ^ p * 10 ^ (-G).toNat * 2 ^ e.toNat * 2 ^ (-b).toNat := Nat.mul_lt_mul_of_pos_right (Nat.mul_lt_mul_of_pos_right (Nat.mul_lt_mul_of_pos_right h (Nat.pow_pos (by decide))) (Nat.two_pow_pos _)) (Nat.two_pow_pos _)
  _ = 10 ^ (-G).toNat * (2 ^ p * 2 ^ e.toNat * 2 ^ (-b).toNat) := by
   rw [← Nat.mul_assoc, ← Nat.mul_assoc, Nat.mul_comm (10 ^ (-G).toNat)]
  _ = 10 ^ (-G).toNat * (2 ^ b.toNat * 2 ^ (-e).toNat) := by
   congr 1
   rw [← Nat.pow_add, ← Nat.pow_add, ← Nat.pow_add]
   congr 1
   omega
  _ = 2 ^ b.toNat * 10 ^ (-G).toNat * 2 ^ (-e).toNat := by rw [Nat.mul_comm (2 ^ b.toNat) (10 ^ (-G).toNat), Nat.mul_assoc]
  _ ≤ 10 ^ G.toNat * 2 ^ (-b).toNat * 2 ^ (-e).toNat := Nat.mul_le_mul_right _ hg
  _ = 10 ^ G.toNat * 2 ^ (-e).toNat * 2 ^ (-b).toNat := by rw [Nat.mul_assoc, Nat.mul_assoc, Nat.mul_comm (2 ^ (-b).toNat)]
theorem H6 (neg : Bool) (n : Nat) (e below : Int) (h : DJ n e) : ∃ E, fB.f neg n e below = some E ∧ O5 n e E ∧ -400 ≤ E ∧ E ≤ 400 := by
 obtain ⟨o1, o2, o3, o4⟩ := h
 have hn0 : n ≠ 0 := by omega
 have hbn : iJ n ≤ 54 := oz (show n < 2 ^ 54 by have : (2 : Nat) ^ 54 = 18014398509481984 := (by decide); omega)
 have hb0 := Ae (m := n) (by omega)
 unfold fB.f
 rw [if_pos ⟨o1, o2, o3, o4⟩, show ((n : Int)).toNat = n by omega]
 have hb : e + ((iJ n : Nat) : Int) - 1 = e + ((iJ n - 1 : Nat) : Int) := by omega
 rw [hb]
 obtain ⟨c1, c2⟩ := MI (e + ((iJ n - 1 : Nat) : Int)) (by omega) (by omega)
 have g1 := Hz (qh hn0) rfl c1
 have g2 := ED (o_ n) (e := e) (b := e + ((iJ n - 1 : Nat) : Int) + 1) (by omega) c2
 obtain ⟨r, h1, h2, h3, h4⟩ := zX n e 40 (gss (e + ((iJ n - 1 : Nat) : Int))) (by decide) g1 g2
 have hbd : -398 ≤ gss (e + ((iJ n - 1 : Nat) : Int)) ∧ gss (e + ((iJ n - 1 : Nat) : Int)) ≤ 358 := by
  unfold gss
  generalize he : e + ((iJ n - 1 : Nat) : Int) = b
  have hb1 : -1100 ≤ b := by omega
  have hb2 : b ≤ 1153 := by omega
  rcases Int.le_total 0 b with h | h
  ·rw [Int.tdiv_eq_ediv_of_nonneg (by omega)]; omega
  ·obtain ⟨c, rfl⟩ : ∃ c, b = -c := ⟨-b, by omega⟩
   rw [Int.neg_mul, Int.neg_tdiv, Int.tdiv_eq_ediv_of_nonneg (by omega)]; omega
 refine ⟨r, h1, h2, by omega, by omega⟩
end Go.Proofs.YtafikkmnkeddpaaGreatDoor.P
namespace Go.Proofs.YtafikkmnkeddpaaGreatDoor.P
open Go.RowKit Go.Proofs.YtafikkmnkeddpaaGreatDoorW.PrintWords Go.Proofs.YtafikkmnkeddpaaGreatDoorW.PrintLast Go.Proofs.YtafikkmnkeddpaaGreatDoorW.PrintMore
def exN (F : Fm) (a : Nat) : Nat := a / 2 ^ (F.P - 1) % 2 ^ (F.W - F.P)
def frN (F : Fm) (a : Nat) : Nat := a % 2 ^ (F.P - 1)
def ngN (F : Fm) (a : Nat) : Bool := decide (a / 2 ^ (F.W - 1) ≠ 0)
def kdN (F : Fm) (a : Nat) : Nat := if exN F a = 2 ^ (F.W - F.P) - 1 then (if frN F a = 0 then 1 else 0) else if exN F a = 0 ∧ frN F a = 0 then 2 else 3
def sgB (neg : Bool) : ByteArray := if neg then ⟨#[45]⟩ else ⟨#[]⟩
def nameB (F : Fm) (a : Nat) : ByteArray := if kdN F a = 0 then ⟨#[110, 97, 110]⟩ else if kdN F a = 1 then sgB (ngN F a) ++ ⟨#[105, 110, 102]⟩ else if kdN F a = 2 then sgB (ngN F a) ++ ⟨#[48]⟩ else ⟨#[]⟩
def pG (F : Fm) (a : Nat) : Nat := if exN F a = 0 then frN F a else frN F a + 2 ^ (F.P - 1)
def oP (F : Fm) (a : Nat) : Int := F.emin - F.P + 1 + ((exN F a - 1 : Nat) : Int)
def blN (F : Fm) (a : Nat) : Nat := if frN F a = 0 ∧ 1 < exN F a then 1 else 2
theorem KA {f : Int} {F : Fm} (h : nI f = some F) : lX f = some ((F.W : Int), (F.P : Int), F.emin, F.emax) := by
 refine uy (P := fun a F => lX a = some ((F.W : Int), (F.P : Int), F.emin, F.emax)) ?_ ?_ ?_ ?_ h <;> rfl
theorem pU {f : Int} {F : Fm} (h : nI f = some F) : 8 ≤ F.P ∧ F.P < F.W ∧ 16 ≤ F.W ∧ F.W ≤ 64 ∧ F.P ≤ 53 ∧ -1074 ≤ F.emin - F.P + 1 ∧ F.emin ≤ 0 ∧ F.emin - F.P + 1 + ((2 ^ (F.W - F.P) - 1 : Nat) : Int) ≤ 973 ∧ F.emax - F.emin + 3 = ((2 ^ (F.W - F.P) : Nat) : Int) := by
 refine uy (P := fun a F => 8 ≤ F.P ∧ F.P < F.W ∧ 16 ≤ F.W ∧ F.W ≤ 64 ∧ F.P ≤ 53 ∧ -1074 ≤ F.emin - F.P + 1 ∧ F.emin ≤ 0 ∧ F.emin - F.P + 1 + ((2 ^ (F.W - F.P) - 1 : Nat) : Int) ≤ 973 ∧ F.emax - F.emin + 3 = ((2 ^ (F.W - F.P) : Nat) : Int)) ?_ ?_ ?_ ?_ h <;> decide
theorem qU (k : Nat) : (2 : Int) ^ k = ((2 ^ k : Nat) : Int) := by simp
theorem KC (F : Fm) (h : 1 ≤ F.P) (hw : F.P ≤ F.W) (a : Nat) : Iu (F.W : Int) (F.P : Int) (a : Int) = ((exN F a : Nat) : Int) := by
 unfold Iu exN
 rw [show ((F.P : Int) - 1).toNat = F.P - 1 by omega, show ((F.W : Int) - (F.P : Int)).toNat = F.W - F.P by omega, qU, qU, ← Int.natCast_ediv, ← Int.natCast_emod]
theorem KE (F : Fm) (h : 1 ≤ F.P) (a : Nat) : Fa (F.P : Int) (a : Int) = ((frN F a : Nat) : Int) := by
 unfold Fa frN
 rw [show ((F.P : Int) - 1).toNat = F.P - 1 by omega, qU, ← Int.natCast_emod]
theorem KF (F : Fm) (h : 1 ≤ F.W) (a : Nat) : DF (F.W : Int) (a : Int) = ngN F a := by
 unfold DF ngN
 rw [show ((F.W : Int) - 1).toNat = F.W - 1 by omega, qU, ← Int.natCast_ediv]
 simp only [ne_eq, Int.natCast_eq_zero]
theorem G6 {F : Fm} {a : Nat} (h : a < 2 ^ F.W) : ug (F.W : Int) (a : Int) := by
 unfold ug
 rw [show ((F.W : Int)).toNat = F.W by omega, qU]
 omega
def DV (F : Fm) (a : Nat) : Int :=
 if exN F a = 2 ^ (F.W - F.P) - 1 then (if frN F a = 0 then (if ngN F a then 2 else 9) else if frN F a / 2 ^ (F.P - 2) ≠ 0 then 1 else 0)
 else if exN F a = 0 then (if frN F a = 0 then (if ngN F a then 5 else 6) else if ngN F a then 4 else 7)
 else if ngN F a then 3 else 8
theorem QT (F : Fm) (h : 2 ≤ F.P) (hw : F.P ≤ F.W) (a : Nat) : J_ (F.W : Int) (F.P : Int) (a : Int) = DV F a := by
 unfold J_ DV
 rw [KC F (by omega) hw, KE F (by omega), KF F (by omega)]
 have e1 : (((exN F a : Nat) : Int) = 2 ^ ((F.W : Int) - (F.P : Int)).toNat - 1) = (exN F a = 2 ^ (F.W - F.P) - 1) := by
  rw [show ((F.W : Int) - (F.P : Int)).toNat = F.W - F.P by omega, qU]
  have := Nat.two_pow_pos (F.W - F.P)
  exact propext ⟨fun h => by omega, fun h => by omega⟩
 have e2 : (((frN F a : Nat) : Int) / 2 ^ ((F.P : Int) - 2).toNat ≠ 0) = (frN F a / 2 ^ (F.P - 2) ≠ 0) := by
  rw [show ((F.P : Int) - 2).toNat = F.P - 2 by omega, qU, ← Int.natCast_ediv]
  exact propext ⟨fun h => by omega, fun h => by omega⟩
 simp only [e1, e2, Int.natCast_eq_zero]
theorem PS {f : Int} {F : Fm} (h : nI f = some F) {a : Nat} (ha : a < 2 ^ F.W) : jc.f f (a : Int) = some (DV F a, 0) := by
 have b := pU h
 unfold jc.f
 rw [KA h]
 simp only []
 rw [if_pos (G6 ha), QT F (by omega) (by omega)]
theorem NH {f : Int} {F : Fm} (h : nI f = some F) {a : Nat} (ha : a < 2 ^ F.W) : iM.f f (a : Int) = some (ngN F a, ((exN F a : Nat) : Int), ((frN F a : Nat) : Int), 0) := by
 have b := pU h
 unfold iM.f
 rw [KA h]
 simp only []
 rw [if_pos (G6 ha), KC F (by omega) (by omega), KE F (by omega), KF F (by omega)]
theorem KG (neg : Bool) (ex fr : Nat) (c : Int) (t : ByteArray) (p0 P mn mx : Int) (k : Nat) (ht : t.size ≤ 1) (hP : 8 ≤ P ∧ P ≤ 53) (hm : -2000 ≤ mn ∧ mn ≤ 2000) (he : ex ≤ 100000) (hf : fr < 2 ^ (P.toNat - 1)) :
  bD.j0 (k + 3) c neg (ex : Int) (fr : Int) t p0 P mn mx = if c = 1 ∨ c = 0 then some (false, 0, 0, 0, ⟨#[110, 97, 110]⟩) else if c = 2 ∨ c = 9 then some (false, 0, 0, 0, t ++ ⟨#[105, 110, 102]⟩) else if c = 5 ∨ c = 6 then some (false, 0, 0, 0, t ++ ⟨#[48]⟩)
   else some (neg, (((if ex = 0 then fr else fr + 2 ^ (P.toNat - 1)) : Nat) : Int), mn - P + 1 + ((ex - 1 : Nat) : Int), (((if fr = 0 ∧ 1 < ex then 1 else 2) : Nat) : Int), ⟨#[]⟩) := by
 have s3 : t.size + 3 ≤ 9223372036854775807 := by omega
 have s1 : t.size + 1 ≤ 9223372036854775807 := by omega
 have hw : wrap64 (P - 1) = ((P.toNat - 1 : Nat) : Int) := by rw [w64 (by omega) (by omega)]; omega
 have hp53 : 2 ^ (P.toNat - 1) ≤ 2 ^ 52 := Nat.pow_le_pow_right (by decide) (by omega)
 have hp52 : (2 : Nat) ^ 52 = 4503599627370496 := by decide
 have hor : Go.bits .or .u64 (fr : Int) (shl .u64 1 (wrap64 (P - 1))) = ((fr + 2 ^ (P.toNat - 1) : Nat) : Int) := by
  have h1 := CB (x := 1) (s := P.toNat - 1) (by omega) (by omega)
  rw [hw, show (1 : Int) = ((1 : Nat) : Int) from rfl, h1, Nat.one_mul, u64_or_nat _ _ (by omega) (by omega)]
  congr 1
  have := Nat.two_pow_add_eq_or_of_lt hf 1
  rw [Nat.mul_one] at this
  rw [Nat.or_comm, ← this, Nat.add_comm]
 have he1 : wrap64 ((wrap64 ((wrap64 (mn - P)) + 1)) + (wrap64 ((wrap64 (ex : Int)) - 1))) = mn - P + 1 + ((ex : Int) - 1) := by
  rw [w64 (x := mn - P) (by omega) (by omega), w64 (x := mn - P + 1) (by omega) (by omega), w64 (x := (ex : Int)) (by omega) (by omega), w64 (x := (ex : Int) - 1) (by omega) (by omega), w64 (by omega) (by omega)]
 have he2 : wrap64 ((wrap64 (mn - P)) + 1) = mn - P + 1 := by rw [w64 (x := mn - P) (by omega) (by omega), w64 (by omega) (by omega)]
 have hw0 : 0 ≤ wrap64 (P - 1) := by rw [hw]; omega
 by_cases h1 : c = 1
 ·subst h1; simp [bD.j0, bD.j1]
 by_cases h0 : c = 0
 ·subst h0; simp [bD.j0, bD.j1]
 by_cases h2 : c = 2
 ·subst h2; simp [bD.j0, bD.j1, bD.j2, s3]
 by_cases h9 : c = 9
 ·subst h9; simp [bD.j0, bD.j1, bD.j2, s3]
 by_cases h5 : c = 5
 ·subst h5; simp [bD.j0, bD.j1, bD.j2, s1]
 by_cases h6 : c = 6
 ·subst h6; simp [bD.j0, bD.j1, bD.j2, s1]
 have b1 : (c == 1) = false := by simp [h1]
 have b0 : (c == 0) = false := by simp [h0]
 have b2 : (c == 2) = false := by simp [h2]
 have b9 : (c == 9) = false := by simp [h9]
 rw [if_neg (by omega), if_neg (by omega), if_neg (by omega), bD.j0, if_neg h1, b0, bD.j1, if_neg (by decide), if_neg h2, b9, bD.j2, if_neg (by decide), if_neg h5, if_neg h6]
 by_cases hx : ex = 0
 ·subst hx
  rw [if_neg (by decide), he2]
  simp
 ·rw [if_pos (by omega), if_pos hw0, hor, he1, if_neg hx]
  by_cases hfr : fr = 0
  ·by_cases hx1 : 1 < ex
   ·rw [if_pos (by omega), if_pos (by omega), if_pos ⟨hfr, hx1⟩]; congr 4; omega
   ·rw [if_pos (by omega), if_neg (by omega), if_neg (by omega)]; congr 4; omega
  ·rw [if_neg (by omega), if_neg (by omega)]; congr 4; omega
theorem KH (F : Fm) (a : Nat) : frN F a < 2 ^ (F.P - 1) := Nat.mod_lt _ (Nat.two_pow_pos _)
theorem DW (F : Fm) (a : Nat) : exN F a < 2 ^ (F.W - F.P) := Nat.mod_lt _ (Nat.two_pow_pos _)
theorem KJ {f : Int} {F : Fm} (h : nI f = some F) {a : Nat} (ha : a < 2 ^ F.W) (k : Nat) : bD.f (k + 3) f (a : Int) = some (if kdN F a = 3 then (ngN F a, ((pG F a : Nat) : Int), oP F a, ((blN F a : Nat) : Int), nameB F a) else (false, 0, 0, 0, nameB F a)) := by
 have b := pU h
 have hex : exN F a ≤ 100000 := by have := DW F a; omega
 have key := fun t ht => KG (ngN F a) (exN F a) (frN F a) (DV F a) t F.W F.P F.emin F.emax k ht ⟨by omega, by omega⟩ ⟨by omega, by omega⟩ hex (by have := KH F a; rwa [show ((F.P : Int)).toNat = F.P by omega])
 unfold bD.f
 rw [CJ h, PS h ha, NH h ha]
 simp only [Option.bind_some]
 have e : (if ngN F a = true then bD.j0 (k + 3) (DV F a) (ngN F a) ((exN F a : Nat) : Int) ((frN F a : Nat) : Int) (⟨#[45]⟩ : ByteArray) F.W F.P F.emin F.emax else bD.j0 (k + 3) (DV F a) (ngN F a) ((exN F a : Nat) : Int) ((frN F a : Nat) : Int) (⟨#[]⟩ : ByteArray) F.W F.P F.emin F.emax) = bD.j0 (k + 3) (DV F a) (ngN F a) ((exN F a : Nat) : Int) ((frN F a : Nat) : Int) (sgB (ngN F a)) F.W F.P F.emin F.emax := by
  cases ngN F a <;> rfl
 rw [e, key _ (by unfold sgB; split <;> decide), show ((F.P : Int)).toNat = F.P by omega]
 unfold nameB kdN DV pG oP blN
 by_cases h1 : exN F a = 2 ^ (F.W - F.P) - 1
 ·have hx0 : exN F a ≠ 0 := by have : 2 ^ 1 ≤ 2 ^ (F.W - F.P) := Nat.pow_le_pow_right (by decide) (by omega); omega
  by_cases h2 : frN F a = 0
  ·cases ngN F a <;> simp [h1, h2]
  ·by_cases h3 : frN F a / 2 ^ (F.P - 2) = 0 <;> simp [h1, h2, h3]
 ·by_cases h0 : exN F a = 0
  ·by_cases h2 : frN F a = 0
   ·have h1' : ¬ 0 = 2 ^ (F.W - F.P) - 1 := by rwa [h0] at h1
    cases ngN F a <;> simp [h1', h2, h0]
   ·have h1' : ¬ 0 = 2 ^ (F.W - F.P) - 1 := by rwa [h0] at h1
    cases ngN F a <;> simp [h1', h2, h0]
  ·cases ngN F a <;> simp [h1, h0]
end Go.Proofs.YtafikkmnkeddpaaGreatDoor.P
namespace Go.Proofs.YtafikkmnkeddpaaGreatDoor.P
open Go.RowKit Go.Proofs.YtafikkmnkeddpaaGreatDoorW.PrintWords Go.Proofs.YtafikkmnkeddpaaGreatDoorW.PrintLast Go.Proofs.YtafikkmnkeddpaaGreatDoorW.PrintMore
theorem Ev.bs {α β : Type} {a : α} {f : Nat → α → Option β} {r : β} (k : Ev (fun n => f n a) r) : Ev (fun n => (some a).bind (f n)) r := k
end Go.Proofs.YtafikkmnkeddpaaGreatDoor.P
namespace Go.Proofs.YtafikkmnkeddpaaGreatDoor.P
open Go.RowKit Go.Proofs.YtafikkmnkeddpaaGreatDoorW.PrintWords Go.Proofs.YtafikkmnkeddpaaGreatDoorW.PrintLast Go.Proofs.YtafikkmnkeddpaaGreatDoorW.PrintMore
theorem Og (s : ByteArray) : (s.toList = ([] : List UInt8)) = (s.size = 0) := by
 rw [vZ, ← CG]
 exact propext (List.length_eq_zero_iff.symm)
end Go.Proofs.YtafikkmnkeddpaaGreatDoor.P
namespace Go.Proofs.YtafikkmnkeddpaaGreatDoor.P
open Go.RowKit Go.Proofs.YtafikkmnkeddpaaGreatDoorW.PrintWords Go.Proofs.YtafikkmnkeddpaaGreatDoorW.PrintLast Go.Proofs.YtafikkmnkeddpaaGreatDoorW.PrintMore
theorem SS {n : Nat} (h : n ≤ 5000) : fC.f (n : Int) = some (wI (10 ^ n)) := by
 have hf := zl n
 unfold fC.f gV.f gW
 rw [Int.toNat_natCast, show (10 : Int).toNat = 10 from rfl, if_pos ⟨by decide, by decide, by omega, by omega, by omega⟩]
 rfl
end Go.Proofs.YtafikkmnkeddpaaGreatDoor.P
namespace Go.Proofs.YtafikkmnkeddpaaGreatDoor.P
open Go.RowKit Go.Proofs.YtafikkmnkeddpaaGreatDoorW.PrintWords Go.Proofs.YtafikkmnkeddpaaGreatDoorW.PrintLast Go.Proofs.YtafikkmnkeddpaaGreatDoorW.PrintMore
theorem EY (k : Nat) : fO.f (k + 200) 3 0 (⟨#[48, 46, 49]⟩ : ByteArray) = some (4591870180066957722, 16, 0) := by kernel_rfl
theorem Ip : bW.f 0 13653 = some 0 := by decide +kernel
theorem J6 (k : Nat) : bD.f (k + 3) 0 13653 = some (false, 1365, -12, 2, (⟨#[]⟩ : ByteArray)) := by kernel_rfl
theorem Ev.far {α : Type} {g : Nat → Option α} {r : α} (c : Nat) (h : ∀ k, g (k + c) = some r) : Ev g r := ⟨c, fun k hk => by have := h (k - c); rwa [Nat.sub_add_cancel hk] at this⟩
theorem Iq : gI.f false 1365 (-12) 2 = some ((⟨#[51, 51, 51, 51]⟩ : ByteArray), -1) := by decide +kernel
theorem EZ : iR.f (⟨#[51, 51, 51, 51]⟩ : ByteArray) (-1) = some (⟨#[48, 46, 51, 51, 51, 51]⟩ : ByteArray) := by decide +kernel
theorem Nr : (⟨#[]⟩ : ByteArray) ++ (⟨#[48, 46, 51, 51, 51, 51]⟩ : ByteArray) = (⟨#[48, 46, 51, 51, 51, 51]⟩ : ByteArray) := by decide +kernel
theorem BQ : Ev (fun k => dh.f k 0 13653) ((⟨#[48, 46, 51, 51, 51, 51]⟩ : ByteArray), 0) := by
 unfold dh.f
 rw [Ip]
 refine Ev.bs (Ev.pos rfl ?_)
 refine Ev.bind (Ev.far 3 J6) (Ev.pos (by rw [Og]; rfl) ?_)
 simp only []
 rw [Iq]
 refine Ev.bs (Ev.pos (by decide) ?_)
 refine Ev.step (f := fun _ => some ((⟨#[48, 46, 51, 51, 51, 51]⟩ : ByteArray), 0)) (fun k => ?_) (Ev.now _)
 rw [dh.j0, if_pos (by decide)]
 rw [show dG.f false 1365 (-12) 2 = some (⟨#[]⟩ : ByteArray) from rfl]
 simp only [Option.bind_some]
 rw [EZ]
 simp only [Option.bind_some]
 rw [if_pos (by decide), Nr]
theorem J7 : Ev (fun k => dM.f k) true := by
 have hp : Ev (fun k => fO.f k 3 0 (⟨#[48, 46, 49]⟩ : ByteArray)) (4591870180066957722, 16, 0) := Ev.far 200 EY
 unfold dM.f
 refine Ev.bind hp (Ev.bind BQ ?_)
 refine Ev.pos rfl (Ev.pos rfl (Ev.pos rfl (Ev.pos ?_ ?_)))
 ·rw [vZ]
 ·exact Ev.now _
end Go.Proofs.YtafikkmnkeddpaaGreatDoor.P
namespace Go.Proofs.YtafikkmnkeddpaaGreatDoor.P
open Go.RowKit Go.Proofs.YtafikkmnkeddpaaGreatDoorW.PrintWords Go.Proofs.YtafikkmnkeddpaaGreatDoorW.PrintLast Go.Proofs.YtafikkmnkeddpaaGreatDoorW.PrintMore
end Go.Proofs.YtafikkmnkeddpaaGreatDoor.P
namespace Go.Proofs.YtafikkmnkeddpaaGreatDoor
def Nz (F : Fm) : Nat := (2 ^ (F.W - F.P) - 1) * 2 ^ (F.P - 1)
end Go.Proofs.YtafikkmnkeddpaaGreatDoor
namespace Go.Proofs.YtafikkmnkeddpaaGreatDoor.P
open Go.RowKit Go.Proofs.YtafikkmnkeddpaaGreatDoorW.PrintWords Go.Proofs.YtafikkmnkeddpaaGreatDoorW.PrintLast Go.Proofs.YtafikkmnkeddpaaGreatDoorW.PrintMore
theorem FV (s t : ByteArray) : bl (s ++ t) = bl s ++ bl t := by simp [bl]
theorem LC {s t : ByteArray} (h : bl s = bl t) : s = t := ByteArray.ext (Array.ext' h)
end Go.Proofs.YtafikkmnkeddpaaGreatDoor.P
namespace Go.Proofs.YtafikkmnkeddpaaGreatDoor.P
open Go.RowKit Go.Proofs.YtafikkmnkeddpaaGreatDoorW.PrintWords Go.Proofs.YtafikkmnkeddpaaGreatDoorW.PrintLast Go.Proofs.YtafikkmnkeddpaaGreatDoorW.PrintMore
theorem KL (x : Nat) (h : x ≠ 0) (hx : x < 18446744073709551616) : ([(x : Int)] : List Int) = wI x := (AX h hx).symm
theorem uV {f : Int} {F : Fm} (h : nI f = some F) {a : Nat} (ha : a < 2 ^ F.W) : bU.f f (a : Int) = some ((((if ngN F a then 1 else 0 : Nat)) : Int), ((exN F a : Nat) : Int), ((frN F a : Nat) : Int), ((2 ^ (F.W - F.P) - 1 : Nat) : Int)) := by
 have b := pU h
 have hF := u_ h
 have hw64 : 2 ^ F.W ≤ 2 ^ 64 := Nat.pow_le_pow_right (by decide) (by omega)
 have e64 : (2 : Nat) ^ 64 = 18446744073709551616 := by decide
 have e1 : IntKind.u64.wrap (wrap64 ((F.W : Int) - 1)) = ((F.W - 1 : Nat) : Int) := by rw [w64 (by omega) (by omega), wu64 (by omega) (by omega)]; omega
 have e2 : IntKind.u64.wrap (wrap64 ((F.P : Int) - 1)) = ((F.P - 1 : Nat) : Int) := by rw [w64 (by omega) (by omega), wu64 (by omega) (by omega)]; omega
 have hpw : 2 ^ (F.W - F.P) ≤ 2 ^ 56 := Nat.pow_le_pow_right (by decide) (by omega)
 have e56 : (2 : Nat) ^ 56 = 72057594037927936 := by decide
 have hones := hF.ones
 have e3 : IntKind.u64.wrap (wrap64 ((wrap64 (2 * F.emax)) + 1)) = ((2 ^ (F.W - F.P) - 1 : Nat) : Int) := by
  have := Nat.two_pow_pos (F.W - F.P)
  rw [w64 (x := 2 * F.emax) (by omega) (by omega), w64 (by omega) (by omega), wu64 (by omega) (by omega)]; omega
 have hp52 : 2 ^ (F.P - 1) ≤ 2 ^ 52 := Nat.pow_le_pow_right (by decide) (by omega)
 have e52 : (2 : Nat) ^ 52 = 4503599627370496 := by decide
 have hsh : shl .u64 1 ((F.P - 1 : Nat) : Int) = ((2 ^ (F.P - 1) : Nat) : Int) := by
  have h1 := CB (x := 1) (s := F.P - 1) (by omega) (by omega)
  rw [show (1 : Int) = ((1 : Nat) : Int) from rfl, h1, Nat.one_mul]
 have hp0 := Nat.two_pow_pos (F.P - 1)
 have s1 : shr .u64 (a : Int) ((F.W - 1 : Nat) : Int) = ((a / 2 ^ (F.W - 1) : Nat) : Int) := qH a (F.W - 1) (by omega)
 have s2 : shr .u64 (a : Int) ((F.P - 1 : Nat) : Int) = ((a / 2 ^ (F.P - 1) : Nat) : Int) := qH a (F.P - 1) (by omega)
 have a1 : Go.bits .and .u64 ((a / 2 ^ (F.W - 1) : Nat) : Int) 1 = (((if ngN F a then 1 else 0 : Nat)) : Int) := by
  have hlt : a / 2 ^ (F.W - 1) < 2 := by
   rw [Nat.div_lt_iff_lt_mul (Nat.two_pow_pos _), ← Nat.pow_succ']
   rwa [show (F.W - 1).succ = F.W by omega]
  rw [and_one _ (show _ < WB from Nat.lt_of_lt_of_le hlt (by decide)), Nat.mod_eq_of_lt hlt]
  unfold ngN
  revert hlt
  generalize a / 2 ^ (F.W - 1) = z
  intro hlt
  have hz : z = 0 ∨ z = 1 := by omega
  rcases hz with rfl | rfl <;> rfl
 have a2 : Go.bits .and .u64 ((a / 2 ^ (F.P - 1) : Nat) : Int) ((2 ^ (F.W - F.P) - 1 : Nat) : Int) = ((exN F a : Nat) : Int) := by
  have hd : a / 2 ^ (F.P - 1) ≤ a := Nat.div_le_self _ _
  have := Kq ((a / 2 ^ (F.P - 1) : Nat) : Int) ((2 ^ (F.W - F.P) - 1 : Nat) : Int) (F.W - F.P) (Int.natCast_nonneg _) (by omega) (by omega) (by rw [qU]; have := Nat.two_pow_pos (F.W - F.P); omega)
  rw [this, qU, ← Int.natCast_emod]
  rfl
 have a3 : Int.tmod (a : Int) ((2 ^ (F.P - 1) : Nat) : Int) = ((frN F a : Nat) : Int) := by
  rw [Int.tmod_eq_emod_of_nonneg (Int.natCast_nonneg _), ← Int.natCast_emod]
  rfl
 unfold bU.f
 rw [hF.row]
 simp only [Option.bind_some]
 rw [e1, e2, e3, hsh, s1, s2, a1, a2, a3, if_pos (Int.natCast_nonneg _), if_pos (Int.natCast_nonneg _), if_neg (by omega)]
theorem FC {f : Int} {F : Fm} (h : nI f = some F) {a : Nat} (ha : a < 2 ^ F.W) : dD.f f (a : Int) = some (((if ngN F a then 1 else 0 : Nat)) : Int) := by
 unfold dD.f
 rw [uV h ha]
 rfl
theorem NI {f : Int} {F : Fm} (h : nI f = some F) {a : Nat} (ha : a < 2 ^ F.W) : eP.f f (a : Int) = some (decide (kdN F a = 0)) := by
 unfold eP.f
 rw [uV h ha]
 simp only [Option.bind_some]
 unfold kdN
 by_cases h1 : exN F a = 2 ^ (F.W - F.P) - 1
 ·rw [if_pos (by omega), if_pos h1]
  by_cases h2 : frN F a = 0 <;> simp [h2]
 ·rw [if_neg (by omega), if_neg h1]
  by_cases h2 : exN F a = 0 ∧ frN F a = 0 <;> simp [h2]
theorem NJ {f : Int} {F : Fm} (h : nI f = some F) {a : Nat} (ha : a < 2 ^ F.W) : eU.f f (a : Int) = some (decide (kdN F a = 1)) := by
 unfold eU.f
 rw [uV h ha]
 simp only [Option.bind_some]
 unfold kdN
 by_cases h1 : exN F a = 2 ^ (F.W - F.P) - 1
 ·rw [if_pos (by omega), if_pos h1]
  by_cases h2 : frN F a = 0 <;> simp [h2]
 ·rw [if_neg (by omega), if_neg h1]
  by_cases h2 : exN F a = 0 ∧ frN F a = 0 <;> simp [h2]
theorem uX {f : Int} {F : Fm} (h : nI f = some F) {a : Nat} (ha : a < 2 ^ F.W) : dN.f f (a : Int) = some (decide (kdN F a = 2)) := by
 have b := pU h
 have hx0 : 2 ^ 1 ≤ 2 ^ (F.W - F.P) := Nat.pow_le_pow_right (by decide) (by omega)
 unfold dN.f
 rw [uV h ha]
 simp only [Option.bind_some]
 unfold kdN
 by_cases h0 : exN F a = 0
 ·rw [if_pos (by omega), if_neg (by omega)]
  by_cases h2 : frN F a = 0 <;> simp [h0, h2]
 ·rw [if_neg (by omega)]
  by_cases h1 : exN F a = 2 ^ (F.W - F.P) - 1
  ·rw [if_pos h1]; by_cases h2 : frN F a = 0 <;> simp [h2]
  ·rw [if_neg h1]; simp [h0]
theorem G7 {f : Int} {F : Fm} (h : nI f = some F) {a : Nat} (ha : a < 2 ^ F.W) : b_.f f (a : Int) = some (sgB (ngN F a)) := by
 unfold b_.f
 rw [FC h ha]
 cases ngN F a <;> rfl
theorem AQ {f : Int} {F : Fm} (h : nI f = some F) {a : Nat} (ha : a < 2 ^ F.W) (k : Nat) : aK.f (k + 1) f (a : Int) = some (nameB F a) := by
 unfold aK.f
 rw [FC h ha]
 simp only [Option.bind_some]
 have e : (if ((((if ngN F a then 1 else 0 : Nat)) : Int) = 1) then aK.j0 (k + 1) f (a : Int) (⟨#[45]⟩ : ByteArray) else aK.j0 (k + 1) f (a : Int) (⟨#[]⟩ : ByteArray)) = aK.j0 (k + 1) f (a : Int) (sgB (ngN F a)) := by
  cases ngN F a <;> rfl
 have hs : (sgB (ngN F a)).size ≤ 1 := by unfold sgB; split <;> decide
 rw [e, aK.j0, NI h ha, NJ h ha, uX h ha]
 simp only [Option.bind_some, decide_eq_true_eq]
 unfold nameB
 split
 ·rfl
 ·split
  ·rw [if_pos (by omega)]
  ·split
   ·rw [if_pos (by omega)]
   ·rfl
theorem yZ {F : Fm} {a : Nat} : (nameB F a).toList = ([] : List UInt8) ↔ kdN F a = 3 := by
 rw [vZ]
 unfold nameB
 have hk : kdN F a = 0 ∨ kdN F a = 1 ∨ kdN F a = 2 ∨ kdN F a = 3 := by unfold kdN; (repeat' split) <;> simp
 rcases hk with h | h | h | h <;> rw [h] <;> simp [FV] <;> decide
def NK (F : Fm) (a : Nat) : Nat := exN F a - 1
theorem G8 {f : Int} {F : Fm} (h : nI f = some F) (a : Nat) (hk : kdN F a = 3) : pG F a ≠ 0 ∧ pG F a < 2 ^ F.P ∧ (NK F a ≠ 0 → 2 ^ (F.P - 1) ≤ pG F a) ∧ NK F a * 2 ^ (F.P - 1) + pG F a = a % 2 ^ (F.W - 1) ∧ NK F a * 2 ^ (F.P - 1) + pG F a < Nz F := by
 have b := pU h
 have hfr := KH F a
 have hex := DW F a
 have e2 : 2 ^ F.P = 2 * 2 ^ (F.P - 1) := by rw [← Nat.pow_succ']; congr 1; omega
 have hc : a % 2 ^ (F.W - 1) = exN F a * 2 ^ (F.P - 1) + frN F a := by
  unfold exN frN
  rw [show F.W - 1 = (F.P - 1) + (F.W - F.P) by omega, Nat.pow_add, Nat.mod_mul, Nat.mul_comm (2 ^ (F.P - 1)), Nat.add_comm]
 have hne : exN F a ≠ 2 ^ (F.W - F.P) - 1 := fun e => by unfold kdN at hk; rw [if_pos e] at hk; split at hk <;> omega
 have hz : ¬ (exN F a = 0 ∧ frN F a = 0) := fun e => by unfold kdN at hk; rw [if_neg hne, if_pos e] at hk; omega
 have hlt : exN F a * 2 ^ (F.P - 1) + 2 ^ (F.P - 1) ≤ Nz F := by
  unfold Nz
  have := Nat.mul_le_mul_right (2 ^ (F.P - 1)) (show exN F a + 1 ≤ 2 ^ (F.W - F.P) - 1 by omega)
  rwa [Nat.add_mul, Nat.one_mul] at this
 unfold pG NK
 rw [hc]
 clear hc
 generalize exN F a = x at *
 generalize frN F a = y at *
 generalize Nz F = I at *
 generalize 2 ^ (F.P - 1) = H at *
 rw [e2]
 by_cases h0 : x = 0
 ·subst h0
  rw [if_pos rfl]
  simp only [Nat.zero_sub, Nat.zero_mul] at hlt ⊢
  refine ⟨by omega, by omega, fun h => absurd rfl h, trivial, by omega⟩
 ·obtain ⟨m, rfl⟩ : ∃ m, x = m + 1 := ⟨x - 1, by omega⟩
  rw [if_neg h0]
  rw [Nat.add_mul] at hlt ⊢
  simp only [Nat.add_sub_cancel]
  refine ⟨by omega, by omega, fun h => by omega, by omega, by omega⟩
theorem KN {f : Int} {F : Fm} (h : nI f = some F) {a : Nat} (ha : a < 2 ^ F.W) : dZ.f f (a : Int) = some (((pG F a : Nat) : Int), oP F a) := by
 have b := pU h
 have hF := u_ h
 have hfr := KH F a
 have hex := DW F a
 have e2 : IntKind.u64.wrap (wrap64 ((F.P : Int) - 1)) = ((F.P - 1 : Nat) : Int) := by rw [w64 (by omega) (by omega), wu64 (by omega) (by omega)]; omega
 have hp52 : 2 ^ (F.P - 1) ≤ 2 ^ 52 := Nat.pow_le_pow_right (by decide) (by omega)
 have e52 : (2 : Nat) ^ 52 = 4503599627370496 := by decide
 have hsh : shl .u64 1 ((F.P - 1 : Nat) : Int) = ((2 ^ (F.P - 1) : Nat) : Int) := by
  have h1 := CB (x := 1) (s := F.P - 1) (by omega) (by omega)
  rw [show (1 : Int) = ((1 : Nat) : Int) from rfl, h1, Nat.one_mul]
 unfold dZ.f
 rw [hF.row, uV h ha]
 simp only [Option.bind_some]
 unfold pG oP
 by_cases h0 : exN F a = 0
 ·rw [if_pos (by omega), if_pos h0, h0, w64 (x := F.emin - (F.P : Int)) (by omega) (by omega), w64 (by omega) (by omega)]
  simp
 ·rw [if_neg (by omega), if_neg h0, e2, if_pos (by omega), hsh]
  rw [w64 (x := ((exN F a : Nat) : Int)) (by omega) (by omega), w64 (x := ((exN F a : Nat) : Int) - 1) (by omega) (by omega), w64 (x := ((exN F a : Nat) : Int) - 1 + F.emin) (by omega) (by omega), w64 (x := ((exN F a : Nat) : Int) - 1 + F.emin - F.P) (by omega) (by omega), w64 (by omega) (by omega), wu64 (by omega) (by omega)]
  congr 2 <;> omega
theorem DX {f : Int} {F : Fm} (h : nI f = some F) {a : Nat} (ha : a < 2 ^ F.W) (hk : kdN F a = 3) : Ev (fun k => dB.f k f (a : Int)) (wI (pG F a * 2 ^ (oP F a).toNat), wI (2 ^ (-(oP F a)).toNat)) := by
 have b := pU h
 obtain ⟨s1, s2, _⟩ := G8 h a hk
 have hex := DW F a
 have he : -1074 ≤ oP F a ∧ oP F a ≤ 973 := by unfold oP; omega
 have hp : 2 ^ F.P ≤ 2 ^ 53 := Nat.pow_le_pow_right (by decide) (by omega)
 have e53 : (2 : Nat) ^ 53 = 9007199254740992 := by decide
 have w1 : ([1] : List Int) = wI 1 := (qL (by decide) (by decide)).symm
 have hl1 : (toW (pG F a)).length ≤ 1 := jG (by rw [Nat.pow_one]; exact Nat.lt_of_lt_of_le s2 (Nat.le_trans hp (by decide)))
 unfold dB.f
 rw [KN h ha]
 simp only [Option.bind_some]
 rw [KL _ s1 (by omega), w1]
 by_cases hc : oP F a ≥ 0
 ·refine Ev.pos hc ?_
  obtain ⟨n, hn⟩ := Int.eq_ofNat_of_zero_le hc
  rw [hn] at he ⊢
  rw [show ((-((n : Nat) : Int))).toNat = 0 by omega, Nat.pow_zero, Int.toNat_natCast]
  exact Ev.bind (KX n (by omega) (by omega)) (Ev.now _)
 ·refine Ev.neg hc ?_
  obtain ⟨n, hn⟩ : ∃ n : Nat, oP F a = -(n : Int) := ⟨(-(oP F a)).toNat, by omega⟩
  rw [hn] at he ⊢
  rw [show (-((n : Nat) : Int)).toNat = 0 by omega, Nat.pow_zero, Nat.mul_one, w64 (by omega) (by omega), Int.neg_neg, Int.toNat_natCast]
  have ht := qm (xs := toW (pG F a)) (iP _) (by omega)
  rw [dQ] at ht
  have hup := KX (a := 1) n (by rw [oC]; decide) (by omega)
  rw [Nat.one_mul] at hup
  rw [show wI (pG F a) = toI (toW (pG F a)) from rfl, ht]
  exact Ev.bs (Ev.bind hup (Ev.now _))
end Go.Proofs.YtafikkmnkeddpaaGreatDoor.P
namespace Go.Proofs.YtafikkmnkeddpaaGreatDoor.P
open Go.RowKit Go.Proofs.YtafikkmnkeddpaaGreatDoorW.PrintWords Go.Proofs.YtafikkmnkeddpaaGreatDoorW.PrintLast Go.Proofs.YtafikkmnkeddpaaGreatDoorW.PrintMore
def txB (v : Nat) : ByteArray := ⟨(Lib.decDigits v).toArray⟩
theorem KO {v : Nat} (hv : v ≠ 0) (hf : gW v) : Ev (fun k => ah.f k (wI v)) (txB v, 0) := by
 have := Ob hv hf
 rwa [Ei hv] at this
theorem QU {v : Nat} (hf : gW v) : dA.f (wI v) = some (txB v, 0) := by
 unfold dA.f
 rw [nC, if_pos ⟨lQ hf, hf⟩]
 rfl
theorem FD {v : Nat} (hv : v ≠ 0) : (Lib.decDigits v).length = (l7 v).length := by
 have h := congrArg List.length (zA hv)
 rw [kZ, List.length_reverse, List.length_map] at h
 exact h.symm
theorem xI (v : Nat) : (txB v).size = (Lib.decDigits v).length := by show (Lib.decDigits v).toArray.size = _; simp
theorem PU {v L : Nat} (h1 : 10 ^ L ≤ v) (h2 : v < 10 ^ (L + 1)) : (txB v).size = L + 1 := by
 have hv : v ≠ 0 := by have := uG L; omega
 rw [xI, FD hv]
 obtain ⟨a, b, c⟩ := pV hv
 have p1 : (l7 v).length - 1 < L + 1 := (Nat.pow_lt_pow_iff_right (show 1 < 10 by decide)).1 (Nat.lt_of_le_of_lt a h2)
 have p2 : L < (l7 v).length := (Nat.pow_lt_pow_iff_right (show 1 < 10 by decide)).1 (Nat.lt_of_le_of_lt h1 b)
 omega
theorem ql (a b : Nat) : (toW (a * b)).length ≤ (toW a).length + (toW b).length := jG (by
 rw [Nat.pow_add]
 exact Nat.mul_lt_mul_of_lt_of_le (lY a) (Nat.le_of_lt (lY b)) (Nat.pow_pos (by decide)))
theorem QV : (toW 10).length ≤ 1 := jG (by rw [Nat.pow_one]; decide)
theorem PV {N D : Nat} (hN : (toW N).length ≤ 100) (hD : (toW D).length ≤ 100) (m : Nat) (hm : m ≤ 2000) (h2 : D ≤ N * 10 ^ m) : ∀ d j, j + d = m → (∀ i, i < m → N * 10 ^ i < D) →
  Ev (fun k => bM.l0 k (wI (N * 10 ^ j)) (wI D) (-(j : Int))) (-(m : Int)) := by
 intro d
 induction d with
 | zero =>
  intro j hj h1
  obtain rfl : j = m := by omega
  have hl : (toW (N * 10 ^ j)).length ≤ 2000 := by
   have := ql N (10 ^ j)
   have := zl j
   omega
  refine Ev.step (fun k => by rw [bM.l0]) (Ev.bind (rZ (by unfold nG; omega) (by unfold nG; omega)) ?_)
  refine Ev.neg ?_ (Ev.now _)
  rcases n_ (N * 10 ^ j) D with h | h | h <;> omega
 | succ d ih =>
  intro j hj h1
  have hl : (toW (N * 10 ^ j)).length ≤ 2000 := by
   have := ql N (10 ^ j)
   have := zl j
   omega
  refine Ev.step (fun k => by rw [bM.l0]) (Ev.bind (rZ (by unfold nG; omega) (by unfold nG; omega)) ?_)
  have hlt := h1 j (by omega)
  refine Ev.pos (by rcases n_ (N * 10 ^ j) D with h | h | h <;> omega) ?_
  have w10 : ([10] : List Int) = wI 10 := (qL (by decide) (by decide)).symm
  rw [w10]
  refine Ev.bind (zk (by omega) (by have := QV; omega)) ?_
  have := ih (j + 1) (by omega) h1
  rw [w64 (by omega) (by omega), show -(j : Int) - 1 = -((j + 1 : Nat) : Int) by omega, Nat.mul_assoc, ← Nat.pow_succ]
  exact this
theorem PW {n : Nat} {e E : Int} (h0 : n ≠ 0) (hn : n < 2 ^ 53) (he1 : -1074 ≤ e) (he2 : e ≤ 973) (hE : O5 n e E) (hE1 : -400 ≤ E) (hE2 : E ≤ 400) : Ev (fun k => bM.f k (wI (n * 2 ^ e.toNat)) (wI (2 ^ (-e).toNat))) E := by
 have hn64 : n < 2 ^ 64 := Nat.lt_of_lt_of_le hn (Nat.pow_le_pow_right (by decide) (by decide))
 have hnum : n * 2 ^ e.toNat < 2 ^ (64 + e.toNat) := by rw [Nat.pow_add]; exact Nat.mul_lt_mul_of_pos_right hn64 (Nat.two_pow_pos _)
 have hl1 : (toW (n * 2 ^ e.toNat)).length ≤ 17 := qC hnum (by omega)
 have hl2 : (toW (2 ^ (-e).toNat)).length ≤ 17 := qC (Nat.pow_lt_pow_right (by decide) (Nat.lt_succ_self _)) (by omega)
 have hdp := Nat.two_pow_pos (-e).toNat
 have hnp : 0 < n * 2 ^ e.toNat := Nat.mul_pos (by omega) (Nat.two_pow_pos _)
 obtain ⟨g1, g2⟩ := hE
 unfold gN tmN tmD at g1 g2
 unfold bM.f
 refine Ev.bind (AU (by omega) (by omega) (by omega)) ?_
 unfold QR
 simp only []
 have hlen := mY (n * 2 ^ e.toNat / 2 ^ (-e).toNat)
 have hul : (toW (n * 2 ^ e.toNat / 2 ^ (-e).toNat)).length ≤ 17 := Nat.le_trans (FP (Nat.div_le_self _ _)) hl1
 by_cases hu : n * 2 ^ e.toNat / 2 ^ (-e).toNat = 0
 ·refine Ev.neg (by omega) ?_
  have hlt : n * 2 ^ e.toNat < 2 ^ (-e).toNat := by
   rcases Nat.div_eq_zero_iff.1 hu with h | h
   ·omega
   ·exact h
  have hE0 : E < 0 := by
   refine Int.not_le.1 fun hc => ?_
   rw [show (-E).toNat = 0 by omega, show (-(-E)).toNat = E.toNat by omega, Nat.pow_zero, Nat.mul_one] at g1
   have := Nat.mul_le_mul_right (2 ^ (-e).toNat) (uG E.toNat)
   omega
  obtain ⟨m, rfl⟩ : ∃ m : Nat, E = -(m : Int) := ⟨(-E).toNat, by omega⟩
  rw [show (-(-(m : Int))).toNat = m by omega, show (-(-(-(m : Int)))).toNat = 0 by omega, Nat.pow_zero, Nat.one_mul, Nat.mul_assoc, Nat.mul_comm (10 ^ m), ← Nat.mul_assoc] at g1
  rw [show (-(-(m : Int)) - 1).toNat = m - 1 by omega, show (-(-(-(m : Int)) - 1)).toNat = 0 by omega, Nat.pow_zero, Nat.one_mul, Nat.mul_assoc, Nat.mul_comm (10 ^ (m - 1)), ← Nat.mul_assoc] at g2
  have := PV (N := n * 2 ^ e.toNat) (D := 2 ^ (-e).toNat) (by omega) (by omega) m (by omega) g1 m 0 (by omega) (fun i hi => by
   have h1 : 10 ^ i ≤ 10 ^ (m - 1) := Nat.pow_le_pow_right (by decide) (by omega)
   have h2 := Nat.mul_le_mul_left (n * 2 ^ e.toNat) h1
   omega)
  rw [Nat.pow_zero, Nat.mul_one] at this
  exact this
 ·refine Ev.pos (by omega) ?_
  have hfit : gW (n * 2 ^ e.toNat / 2 ^ (-e).toNat) := by unfold gW; omega
  refine Ev.bind (KO hu hfit) ?_
  obtain ⟨a, b, c⟩ := pV hu
  have hE0 : 0 ≤ E := by
   refine Int.not_lt.1 fun hc => ?_
   rw [show (-E - 1).toNat = (-E).toNat - 1 by omega, show (-(-E - 1)).toNat = 0 by omega, Nat.pow_zero, Nat.one_mul, Nat.mul_assoc, Nat.mul_comm (10 ^ _), ← Nat.mul_assoc] at g2
   have h1 := Nat.div_mul_le_self (n * 2 ^ e.toNat) (2 ^ (-e).toNat)
   have h2 := Nat.mul_le_mul_right (2 ^ (-e).toNat) (Nat.pos_of_ne_zero hu)
   have h3 := Nat.le_mul_of_pos_right (n * 2 ^ e.toNat) (uG ((-E).toNat - 1))
   omega
  obtain ⟨m, rfl⟩ : ∃ m : Nat, E = (m : Int) := ⟨E.toNat, by omega⟩
  rw [show (-(m : Int)).toNat = 0 by omega, show (-(-(m : Int))).toNat = m by omega, Nat.pow_zero, Nat.mul_one] at g1
  rw [show (-(m : Int) - 1).toNat = 0 by omega, show (-(-(m : Int) - 1)).toNat = m + 1 by omega, Nat.pow_zero, Nat.mul_one] at g2
  have p1 : 10 ^ m ≤ n * 2 ^ e.toNat / 2 ^ (-e).toNat := (Nat.le_div_iff_mul_le hdp).2 g1
  have p2 : n * 2 ^ e.toNat / 2 ^ (-e).toNat < 10 ^ (m + 1) := (Nat.div_lt_iff_lt_mul hdp).2 (by omega)
  have hs := PU p1 p2
  rw [show ((txB (n * 2 ^ e.toNat / 2 ^ (-e).toNat), (0 : Int))).1.size = m + 1 from hs, w64 (by omega) (by omega), show ((m + 1 : Nat) : Int) - 1 = (m : Int) by omega]
  exact Ev.now _
theorem DY {n : Nat} {e t : Int} (h0 : n ≠ 0) (hn : n < 2 ^ 53) (he1 : -1074 ≤ e) (he2 : e ≤ 973) (ht1 : -1000 ≤ t) (ht2 : t ≤ 2000) : Ev (fun k => bg.f k (wI (n * 2 ^ e.toNat)) (wI (2 ^ (-e).toNat)) t) (wI (tmN n e t / tmD e t), ((lOf (tmN n e t) (tmD e t) : Nat) : Int)) := by
 have hn64 : n < 2 ^ 64 := Nat.lt_of_lt_of_le hn (Nat.pow_le_pow_right (by decide) (by decide))
 have hnum : n * 2 ^ e.toNat < 2 ^ (64 + e.toNat) := by rw [Nat.pow_add]; exact Nat.mul_lt_mul_of_pos_right hn64 (Nat.two_pow_pos _)
 have hl1 : (toW (n * 2 ^ e.toNat)).length ≤ 17 := qC hnum (by omega)
 have hl2 : (toW (2 ^ (-e).toNat)).length ≤ 17 := qC (Nat.pow_lt_pow_right (by decide) (Nat.lt_succ_self _)) (by omega)
 have hdp := Nat.two_pow_pos (-e).toNat
 unfold bg.f
 by_cases hc : t ≥ 0
 ·refine Ev.pos hc ?_
  obtain ⟨m, rfl⟩ := Int.eq_ofNat_of_zero_le hc
  have hml := ql (n * 2 ^ e.toNat) (10 ^ m)
  have h10 := zl m
  refine Ev.bind (Lh (n := m) (by omega) (by unfold gW; omega)) (Ev.bind (zk (by omega) (by omega)) ?_)
  have e1 : tmN n e (m : Int) = n * 2 ^ e.toNat * 10 ^ m := by unfold tmN; rw [Int.toNat_natCast, Nat.mul_assoc, Nat.mul_assoc, Nat.mul_comm (10 ^ m)]
  have e2 : tmD e (m : Int) = 2 ^ (-e).toNat := by unfold tmD; rw [show (-(m : Int)).toNat = 0 by omega, Nat.pow_zero, Nat.one_mul]
  rw [e1, e2]
  exact Ev.step (fun k => by rw [bg.j0]) (Hf (by omega) (by omega) (by omega))
 ·refine Ev.neg hc ?_
  obtain ⟨m, rfl⟩ : ∃ m : Nat, t = -(m : Int) := ⟨(-t).toNat, by omega⟩
  rw [w64 (by omega) (by omega), Int.neg_neg]
  have hml := ql (2 ^ (-e).toNat) (10 ^ m)
  have h10 := zl m
  refine Ev.bind (Lh (n := m) (by omega) (by unfold gW; omega)) (Ev.bind (zk (by omega) (by omega)) ?_)
  have e1 : tmN n e (-(m : Int)) = n * 2 ^ e.toNat := by unfold tmN; rw [show (-(m : Int)).toNat = 0 by omega, Nat.pow_zero, Nat.mul_one]
  have e2 : tmD e (-(m : Int)) = 2 ^ (-e).toNat * 10 ^ m := by unfold tmD; rw [show (-(-(m : Int))).toNat = m by omega, Nat.mul_comm]
  rw [e1, e2]
  have hp := Nat.mul_pos hdp (uG m)
  exact Ev.step (fun k => by rw [bg.j0]) (Hf (by omega) (by omega) (by omega))
theorem Iz (m : Int) (neg : Bool) {u : Nat} (hu : (toW u).length ≤ 1000000) {l : Nat} (hl : l ≤ 3) : Ev (fun k => bF.f k m neg (wI u) (l : Int)) (wI (jC m neg u l)) := by
 have hadd := KU (a := u) (b := 1) (by omega) (by rw [oC]; decide)
 rw [show wI 1 = [1] by unfold wI; rw [oC]; rfl] at hadd
 have hA : Ev (fun k => (aj.f k (wI u) (([1] : List Int))).bind fun t => (some t)) (wI (u + 1)) := Ev.bind hadd (Ev.now _)
 have hN : Ev (fun _ : Nat => some (wI u)) (wI u) := Ev.now _
 have hls : l = 0 ∨ l = 1 ∨ l = 2 ∨ l = 3 := by omega
 have key : Ev (fun k => bF.j0 k m neg (wI u) (l : Int) (decide (u % 2 = 1))) (wI (jC m neg u l)) := by
  refine Ev.step (fun k => by rw [bF.j0]) ?_
  unfold jC zu
  by_cases m0 : m = 0
  ·subst m0
   by_cases hp : u % 2 = 1 <;> rcases hls with h | h | h | h <;> subst h <;> simp [hp] <;> first | exact hadd | exact hN
  ·by_cases m1 : m = 1
   ·subst m1
    rcases hls with h | h | h | h <;> subst h <;> simp <;> first | exact hadd | exact hN
   ·by_cases m3 : m = 3
    ·subst m3
     cases neg <;> rcases hls with h | h | h | h <;> subst h <;> simp <;> first | exact hadd | exact hN
    ·by_cases m4 : m = 4
     ·subst m4
      cases neg <;> rcases hls with h | h | h | h <;> subst h <;> simp <;> first | exact hadd | exact hN
     ·by_cases m5 : m = 5
      ·subst m5
       by_cases hp : u % 2 = 1 <;> rcases hls with h | h | h | h <;> subst h <;> simp [hp] <;> first | exact hadd | exact hN
      ·simp [m0, m1, m3, m4, m5]
       exact hN
 unfold bF.f
 have hlen := mY u
 by_cases hz : u = 0
 ·refine Ev.neg (by omega) ?_
  rw [show decide (u % 2 = 1) = false by simp [hz]] at key
  exact key
 ·refine Ev.pos (by omega) (Ev.pos (by omega) ?_)
  have hodd : (Int.tmod (rd (wI u) 0) 2 == 1) = decide (u % 2 = 1) := by
   rw [Lr hz, Int.tmod_eq_emod_of_nonneg (by omega)]
   have : u % WB % 2 = u % 2 := Nat.mod_mod_of_dvd _ (by decide)
   have e : (((u % WB : Nat) : Int) % 2) = ((u % 2 : Nat) : Int) := by omega
   rw [e, Lj _ _ (u % 2 = 1) (propext ⟨fun h => by omega, fun h => by omega⟩)]
  rw [hodd]
  exact key
theorem QW {x : Int} (h1 : -10000 ≤ x) (h2 : x ≤ 10000) : Ev (fun k => cO.f k x) (⟨(Lib.itoa x).toArray⟩ : ByteArray) := by
 have hp : ∀ n : Nat, n ≤ 10000 → Ev (fun k => cO.f k (n : Int)) (txB n) := fun n hn => by
  refine Ev.step (fun k => by rw [cO.f, if_neg (by omega), t_ (by omega)]) ?_
  by_cases hz : n = 0
  ·subst hz
   have hs := uY (xs := [0]) (by intro x hx; simp at hx; subst hx; decide) (by decide)
   rw [show (toW (val [0])).length = 0 by decide +kernel] at hs
   have ht : Ev (fun k => ah.f k (([((0 : Nat) : Int)] : List Int))) ((⟨#[48]⟩ : ByteArray), (0 : Int)) := by
    unfold ah.f
    refine Ev.bind hs ?_
    refine Ev.neg (by decide) ?_
    refine Ev.bind hs ?_
    exact Ev.pos rfl (Ev.now _)
   rw [show txB 0 = (⟨#[48]⟩ : ByteArray) by unfold txB; rw [Lib.decDigits_one (by decide)]; rfl]
   exact Ev.bind ht (Ev.now _)
  ·rw [KL n hz (by omega)]
   exact Ev.bind (KO hz (by unfold gW; exact Nat.le_trans (jG (k := 1) (by rw [Nat.pow_one]; exact Nat.lt_of_le_of_lt hn (by decide))) (by decide))) (Ev.now _)
 by_cases hx : 0 ≤ x
 ·obtain ⟨n, rfl⟩ := Int.eq_ofNat_of_zero_le hx
  rw [Lib.itoa_nonneg]
  exact hp n (by omega)
 ·obtain ⟨n, rfl⟩ : ∃ n : Nat, x = -(n : Int) := ⟨(-x).toNat, by omega⟩
  rw [Lib.itoa_neg n (by omega)]
  refine Ev.step (fun k => by rw [cO.f, if_pos (by omega), w64 (by omega) (by omega), Int.neg_neg]) (Ev.bind (hp n (by omega)) ?_)
  have hsz : (txB n).size ≤ 1000 := by
   by_cases hz : n = 0
   ·subst hz; decide +kernel
   ·rw [xI, FD hz]
    obtain ⟨a, b, c⟩ := pV hz
    have p1 : (l7 n).length - 1 < 5 := (Nat.pow_lt_pow_iff_right (show 1 < 10 by decide)).1 (Nat.lt_of_le_of_lt a (by omega))
    omega
  refine Ev.pos (by omega) ?_
  rw [show (⟨#[45]⟩ : ByteArray) ++ txB n = (⟨(45 :: Lib.decDigits n).toArray⟩ : ByteArray) from LC (by rw [FV]; rfl)]
  exact Ev.now _
def y5 (D : ByteArray) (x : Int) : ByteArray := (if 1 < D.size then D.extract 0 1 ++ (⟨#[46]⟩ ++ D.extract 1 D.size) else D.extract 0 1) ++ ⟨#[101]⟩ ++ ⟨(Lib.itoa x).toArray⟩
theorem Ce {x : Int} (h1 : -10000 ≤ x) (h2 : x ≤ 10000) : (⟨(Lib.itoa x).toArray⟩ : ByteArray).size ≤ 21 := by
 have := Lib.itoa_length_le x (by omega) (by omega)
 show (Lib.itoa x).toArray.size ≤ 21
 simpa using this
theorem Ci (D : ByteArray) (h : 1 ≤ D.size) : (D.extract 0 1).size = 1 := by simp; omega
theorem FH {D : ByteArray} (h0 : 1 ≤ D.size) (h : D.size ≤ 1000000) {x : Int} (h1 : -10000 ≤ x) (h2 : x ≤ 10000) : gX.f D x = some (y5 D x) := by
 have hi := Ce h1 h2
 have s1 := Ci D h0
 have s2 := uw D 1
 have hit : strconv_Itoa.f x = some (⟨(Lib.itoa x).toArray⟩ : ByteArray) := by unfold strconv_Itoa.f; rw [if_pos ⟨by omega, by omega⟩]
 unfold gX.f y5
 rw [if_pos (by decide), if_pos (by omega)]
 by_cases hc : 1 < D.size
 ·rw [if_pos (by omega), if_pos (by omega), if_pos (by rw [ByteArray.size_append, s1, s2]; show 1 + (1 + _) ≤ _; omega), if_pos (by rw [ByteArray.size_append, ByteArray.size_append, s1, s2]; show 1 + (1 + _) + 1 ≤ _; omega), hit]
  simp only [Option.bind_some]
  rw [if_pos (by rw [ByteArray.size_append, ByteArray.size_append, ByteArray.size_append, s1, s2]; show 1 + (1 + _) + 1 + _ ≤ _; omega), if_pos hc]
 ·rw [if_neg (by omega), if_pos (by omega), hit]
  simp only [Option.bind_some]
  rw [if_pos (by rw [ByteArray.size_append, s1]; show 1 + 1 + _ ≤ _; omega), if_neg hc]
theorem FI {D : ByteArray} (h0 : 1 ≤ D.size) (h : D.size ≤ 1000000) {x : Int} (h1 : -10000 ≤ x) (h2 : x ≤ 10000) : Ev (fun k => dn.f k D x) (y5 D x) := by
 have hi := Ce h1 h2
 have s1 := Ci D h0
 have s2 := uw D 1
 have hit := QW h1 h2
 unfold dn.f y5
 refine Ev.pos (by decide) (Ev.pos (by omega) ?_)
 by_cases hc : 1 < D.size
 ·refine Ev.pos (by omega) (Ev.pos (by omega) (Ev.pos (by rw [ByteArray.size_append, s1, s2]; show 1 + (1 + _) ≤ _; omega) (Ev.pos (by rw [ByteArray.size_append, ByteArray.size_append, s1, s2]; show 1 + (1 + _) + 1 ≤ _; omega) (Ev.bind hit ?_))))
  rw [if_pos hc]
  exact Ev.pos (by rw [ByteArray.size_append, ByteArray.size_append, ByteArray.size_append, s1, s2]; show 1 + (1 + _) + 1 + _ ≤ _; omega) (Ev.now _)
 ·refine Ev.neg (by omega) (Ev.pos (by omega) (Ev.bind hit ?_))
  rw [if_neg hc]
  exact Ev.pos (by rw [ByteArray.size_append, s1]; show 1 + 1 + _ ≤ _; omega) (Ev.now _)
theorem SE (m : Int) (neg odd : Bool) {l : Nat} (hl : 1 ≤ l ∧ l ≤ 3) : kN.f m neg odd ((l : Int) - 2) = some (zu m neg odd l) := by
 have hls : l = 1 ∨ l = 2 ∨ l = 3 := by omega
 unfold kN.f zu
 by_cases m0 : m = 0
 ·subst m0
  rcases hls with h | h | h <;> subst h <;> cases odd <;> rfl
 ·by_cases m1 : m = 1
  ·subst m1
   rcases hls with h | h | h <;> subst h <;> rfl
  ·by_cases m3 : m = 3
   ·subst m3; rfl
   ·by_cases m4 : m = 4
    ·subst m4; rfl
    ·by_cases m5 : m = 5
     ·subst m5; rfl
     ·simp [m0, m1, m3, m4, m5]
end Go.Proofs.YtafikkmnkeddpaaGreatDoor.P
namespace Go.Proofs.YtafikkmnkeddpaaGreatDoor.P
open Go.RowKit Go.Proofs.YtafikkmnkeddpaaGreatDoorW.PrintWords Go.Proofs.YtafikkmnkeddpaaGreatDoorW.PrintLast Go.Proofs.YtafikkmnkeddpaaGreatDoorW.PrintMore
theorem uH {a w : Nat} (hw : w ≤ 64) : (shr .u64 (a : Int) (w : Int) = 0) ↔ a < 2 ^ w := by
 rw [qH a w hw]
 have := Nat.div_eq_zero_iff (a := a) (b := 2 ^ w)
 have h2 := Nat.two_pow_pos w
 omega
theorem I9 {f : Int} {F : Fm} (h : nI f = some F) (a : Nat) (ha : a < 2 ^ 64) : bW.f f (a : Int) = some (if a < 2 ^ F.W then 0 else 4) := by
 have b := pU h
 unfold bW.f
 rw [CJ h]
 simp only [Option.bind_some]
 rw [if_pos trivial]
 by_cases hw : F.W < 64
 ·rw [if_pos (by omega), if_pos (by omega)]
  by_cases hc : a < 2 ^ F.W
  ·rw [if_pos ((uH (by omega)).2 hc), if_pos hc]
  ·rw [if_neg (fun e => hc ((uH (by omega)).1 e)), if_neg hc]
 ·rw [if_neg (by omega), if_pos (by rwa [show F.W = 64 by omega])]
theorem O7 {f : Int} {F : Fm} (h : nI f = some F) (a : Nat) (ha : a < 2 ^ 64) : dU.f f (a : Int) = some (if a < 2 ^ F.W then 0 else 4) := by
 have b := pU h
 unfold dU.f
 rw [(u_ h).row]
 simp only [Option.bind_some]
 rw [if_pos trivial]
 by_cases hw : F.W < 64
 ·rw [if_pos (by omega), wu64 (by omega) (by omega), if_pos (by omega)]
  by_cases hc : a < 2 ^ F.W
  ·rw [if_pos ((uH (by omega)).2 hc), if_pos hc]
  ·rw [if_neg (fun e => hc ((uH (by omega)).1 e)), if_neg hc]
 ·rw [if_neg (by omega), if_pos (by rwa [show F.W = 64 by omega])]
theorem Dc {f m : Int} (l : List Int) (h : nI f = none) : Ev (fun k => aI.f k f m l) 2 := by
 obtain ⟨h0, h1, h2, h3⟩ := AY h
 unfold aI.f bT.f
 rw [if_neg h0, if_neg h1, if_neg h2, if_neg h3]
 refine Ev.bs ?_
 exact Ev.neg (by decide) (Ev.now _)
theorem Df {f m : Int} {F : Fm} (h : nI f = some F) (a : Nat) (ha : a < 2 ^ 64) : Ev (fun k => aI.f k f m [(a : Int)]) (if m < 0 ∨ 5 < m then 3 else if a < 2 ^ F.W then 0 else 4) := by
 unfold aI.f
 rw [(u_ h).row]
 simp only [Option.bind_some]
 refine Ev.pos trivial ?_
 by_cases h0 : m < 0
 ·rw [if_pos (.inl h0)]
  exact Ev.pos h0 (Ev.one fun k => by rw [aI.j0, if_pos rfl])
 ·refine Ev.neg h0 ?_
  by_cases h5 : 5 < m
  ·rw [if_pos (.inr h5), decide_eq_true (show m > 5 from h5)]
   exact Ev.one fun k => by rw [aI.j0, if_pos rfl]
  ·rw [if_neg (by omega), decide_eq_false (show ¬ m > 5 from h5)]
   refine Ev.step (fun k => by rw [aI.j0, if_neg (by decide)]) ?_
   refine Ev.step (fun k => by rw [aI.l0, if_pos (by show (0 : Int) < 1; decide), if_pos (by decide), if_pos (by show (0 : Int) < 1; decide), show rd [(a : Int)] 0 = (a : Int) from rfl, O7 h a ha]) ?_
   refine Ev.bs ?_
   by_cases hc : a < 2 ^ F.W
   ·rw [if_pos hc]
    refine Ev.pos rfl ?_
    exact Ev.one fun k => by rw [aI.l0, if_neg (by show ¬ (wrap64 (0 + 1) : Int) < 1; rw [w64 (by decide) (by decide)]; decide)]
   ·rw [if_neg hc]
    exact Ev.neg (by decide) (Ev.now _)
def wS (n : Nat) : ByteArray := ⟨(List.replicate n 48).toArray⟩
theorem Bh (n : Nat) : (wS n).size = n := by show (List.replicate n (48 : UInt8)).toArray.size = n; simp
theorem I_ (n : Nat) : wS n ++ ⟨#[48]⟩ = wS (n + 1) := LC (by rw [FV]; show List.replicate n (48 : UInt8) ++ [48] = List.replicate (n + 1) 48; rw [← List.replicate_succ'])
theorem O8 (n : Nat) (hn : n ≤ 1000000) : ∀ d i, i + d = n → Ev (fun k => aV.l0 k (n : Int) (wS i)) (wS n) := by
 intro d
 induction d with
 | zero =>
  intro i hi
  obtain rfl : i = n := by omega
  have := Bh i
  exact Ev.one fun k => by rw [aV.l0, if_neg (by omega)]
 | succ d ih =>
  intro i hi
  have := Bh i
  refine Ev.step (fun k => by rw [aV.l0, if_pos (by omega), if_pos (by omega), I_]) (ih (i + 1) (by omega))
theorem O9 {n : Nat} (hn : n ≤ 1000000) : Ev (fun k => aV.f k (n : Int)) (wS n) := by
 unfold aV.f
 exact O8 n hn n 0 (by omega)
theorem QC (n : Nat) : Lib.repeatL [48] n = List.replicate n 48 := by
 induction n with
 | zero => simp [Lib.repeatL]
 | succ n ih => rw [Lib.repeatL, ih, List.replicate_succ]; rfl
theorem Si {n : Nat} (hn : n ≤ 1000000) : strings_Repeat.f (⟨#[48]⟩ : ByteArray) (n : Int) = some (wS n) := by
 unfold strings_Repeat.f
 rw [if_pos ⟨by omega, by omega, by show (1 : Nat) ≤ 1000000; decide⟩, Int.toNat_natCast]
 show some (⟨(Lib.repeatL [48] n).toArray⟩ : ByteArray) = _
 rw [QC]
 rfl
theorem Ja (F : Fm) (a : Nat) : kdN F a = 0 ∨ kdN F a = 1 ∨ kdN F a = 2 ∨ kdN F a = 3 := by unfold kdN; (repeat' split) <;> simp
theorem rE (F : Fm) (a : Nat) : strings_HasSuffix.f (nameB F a) (⟨#[48]⟩ : ByteArray) = some (decide (kdN F a = 2)) := by
 unfold strings_HasSuffix.f nameB sgB
 rcases Ja F a with h | h | h | h <;> rw [h] <;> cases ngN F a <;> rfl
theorem Jb (F : Fm) (a : Nat) (h : kdN F a = 2) : (nameB F a).size = (sgB (ngN F a)).size + 1 ∧ (nameB F a).extract 0 (sgB (ngN F a)).size = sgB (ngN F a) := by
 unfold nameB sgB
 rw [h]
 cases ngN F a <;> exact ⟨rfl, rfl⟩
theorem O_ (m : Int) : fH.f m = some (decide (¬ (m < 0 ∨ 5 < m))) := by
 unfold fH.f
 by_cases h0 : m ≥ 0
 ·rw [if_pos h0]
  congr 1
  rw [decide_eq_decide]
  omega
 ·rw [if_neg h0, decide_eq_false (by omega)]
theorem Jc (b : Bool) : (sgB b).size ≤ 1 := by cases b <;> decide
theorem OJ (neg : Bool) (x y z : Int) : dG.f neg x y z = some (sgB neg) := by cases neg <;> rfl
theorem vN {D : ByteArray} (h0 : 1 ≤ D.size) (h : D.size ≤ 1000000) {x : Int} (h1 : -10000 ≤ x) (h2 : x ≤ 10000) : (y5 D x).size ≤ 2000000 := by
 have hi := Ce h1 h2
 have s1 := Ci D h0
 have s2 := uw D 1
 unfold y5
 split
 ·rw [ByteArray.size_append, ByteArray.size_append, ByteArray.size_append, ByteArray.size_append, s1, s2]
  show 1 + (1 + _) + 1 + _ ≤ _
  omega
 ·rw [ByteArray.size_append, ByteArray.size_append, s1]
  show 1 + 1 + _ ≤ _
  omega
end Go.Proofs.YtafikkmnkeddpaaGreatDoor.P
namespace Go.Proofs.YtafikkmnkeddpaaGreatDoor.P
open Go.RowKit Go.Proofs.YtafikkmnkeddpaaGreatDoorW.PrintWords Go.Proofs.YtafikkmnkeddpaaGreatDoorW.PrintLast Go.Proofs.YtafikkmnkeddpaaGreatDoorW.PrintMore
theorem QD {t : Int} (h0 : 0 ≤ t) (h : t ≤ 2000) : fC.f t = some (wI (10 ^ t.toNat)) := by
 obtain ⟨n, rfl⟩ := Int.eq_ofNat_of_zero_le h0
 rw [Int.toNat_natCast]
 exact SS (by omega)
theorem Pg (k : Nat) {n : Nat} {e t : Int} (h0 : 0 < n) (hn : n < WB) (he1 : -2000 ≤ e) (he2 : e ≤ 2000) (ht1 : -2000 ≤ t) (ht2 : t ≤ 2000) : bI.f (k + 1) (n : Int) e t = some (wI (tmN n e t), wI (tmD e t)) := by
 have hn64 : n < 2 ^ 64 := hn
 have b1 : n * 10 ^ t.toNat < 2 ^ (64 + 4 * t.toNat) := by rw [Nat.pow_add]; exact Nat.mul_lt_mul_of_lt_of_le hn64 (pJ _) (Nat.pow_pos (by decide))
 have b2 : n * 10 ^ t.toNat * 2 ^ e.toNat < 2 ^ (64 + 4 * t.toNat + e.toNat) := by rw [Nat.pow_add 2 (64 + 4 * t.toNat)]; exact Nat.mul_lt_mul_of_pos_right b1 (Nat.pow_pos (by decide))
 have b3 : 10 ^ (-t).toNat < 2 ^ (1 + 4 * (-t).toNat) := Nat.lt_of_le_of_lt (pJ _) (Nat.pow_lt_pow_right (by decide) (by omega))
 have b4 : 10 ^ (-t).toNat * 2 ^ (-e).toNat < 2 ^ (1 + 4 * (-t).toNat + (-e).toNat) := by rw [Nat.pow_add 2 (1 + 4 * (-t).toNat)]; exact Nat.mul_lt_mul_of_pos_right b3 (Nat.pow_pos (by decide))
 have f0 : gW n := kD hn64 (by omega)
 have f1 : gW (n * 10 ^ t.toNat) := kD b1 (by omega)
 have f2 : gW (n * 10 ^ t.toNat * 2 ^ e.toNat) := kD b2 (by omega)
 have f3 : gW (10 ^ (-t).toNat) := kD b3 (by omega)
 have f4 : gW (10 ^ (-t).toNat * 2 ^ (-e).toNat) := kD b4 (by omega)
 have f5 : gW (10 ^ t.toNat) := kD (m := 4 * t.toNat + 1) (Nat.lt_of_le_of_lt (pJ _) (Nat.pow_lt_pow_right (by decide) (by omega))) (by omega)
 have w1 : [(n : Int)] = wI n := (qL h0 hn).symm
 have w2 : ([1] : List Int) = wI 1 := (qL (by decide) (by decide)).symm
 have f6 : gW 1 := kD (m := 1) (by decide) (by decide)
 have j : ∀ a b : Nat, gW a → gW b → gW (a * 2 ^ e.toNat) → gW (b * 2 ^ (-e).toNat) → bI.j0 (k + 1) e (wI a) (wI b) = some (wI (a * 2 ^ e.toNat), wI (b * 2 ^ (-e).toNat)) := fun a b g1 g2 g3 g4 => by
  rw [bI.j0]
  by_cases hc : e ≥ 0
  ·have : (-e).toNat = 0 := by omega
   rw [if_pos hc, Ac hc he2 g1 g3, this, Nat.pow_zero, Nat.mul_one]
   rfl
  ·have : e.toNat = 0 := by omega
   rw [if_neg hc, w64 (by omega) (by omega), Ac (by omega) (by omega) g2 g4, this, Nat.pow_zero, Nat.mul_one]
   rfl
 unfold bI.f tmN tmD
 simp only [Option.bind_some]
 rw [w1, w2]
 by_cases hc : t ≥ 0
 ·have e1 : (-t).toNat = 0 := by omega
  rw [e1, Nat.pow_zero] at f4
  rw [if_pos hc, QD hc ht2]
  simp only [Option.bind_some]
  rw [Gn (m := 0) f0 f5 f1]
  simp only [Option.bind_some]
  rw [j _ _ f1 f6 f2 f4, e1, Nat.pow_zero]
 ·have e1 : t.toNat = 0 := by omega
  rw [e1, Nat.pow_zero, Nat.mul_one] at f2
  rw [if_neg hc, w64 (by omega) (by omega), QD (by omega) (by omega)]
  simp only [Option.bind_some]
  rw [j _ _ f0 f3 f2 f4, e1, Nat.pow_zero, Nat.mul_one]
theorem Sj {u v : Nat} (h : gW u) (h' : gW v) : iD.f (wI u) (wI v) = some (mF u v) := by
 unfold iD.f
 rw [nC, nC, if_pos ⟨lQ h, lQ h'⟩]
theorem MJ {u v : Nat} (h0 : v ≠ 0) (h : gW u) (h' : gW v) : gZ.f (wI u) (wI v) = some (wI (u / v), wI (u % v), 0) := by
 unfold gZ.f
 simp only [nC]
 rw [if_pos ⟨⟨lQ h, lQ h'⟩, h, h', h0⟩]
theorem Ph {u : Nat} (hz : u ≠ 0) : (Int.tmod (rd (wI u) 0) 2 == 1) = decide (u % 2 = 1) := by
 rw [Lr hz, Int.tmod_eq_emod_of_nonneg (by omega)]
 have : u % WB % 2 = u % 2 := Nat.mod_mod_of_dvd _ (by decide)
 have e : (((u % WB : Nat) : Int) % 2) = ((u % 2 : Nat) : Int) := by omega
 rw [e, Lj _ _ (u % 2 = 1) (propext ⟨fun h => by omega, fun h => by omega⟩)]
theorem Jd {a b : Nat} (h : gW b) (hl : a ≤ b) : gW a := Nat.le_trans (FP hl) h
def Je (m : Int) (neg : Bool) (n : Nat) (e E : Int) (z : Nat) : ByteArray × Bool × Int :=
 let N := tmN n e ((z : Int) - 1 - E)
 let D := tmD e ((z : Int) - 1 - E)
 let T := txB (jC m neg (N / D) (lOf N D))
 if z < T.size then (sgB neg ++ y5 (T.extract 0 z) (E + 1), decide (0 < N % D), 0) else (sgB neg ++ y5 T E, decide (0 < N % D), 0)
theorem Jf {T : ByteArray} {z : Nat} (h : z < T.size) : (T.extract 0 z).size = z := by rw [ByteArray.size_extract]; omega
theorem MK (f m : Int) {F : Fm} (h : nI f = some F) {a : Nat} (ha : a < 2 ^ F.W) (hk : kdN F a = 3) {z : Nat} (hz : 1 ≤ z) (hz2 : z ≤ 1200) :
  ∃ r, Ev (fun k => aX.j0 k f m (a : Int) (z : Int) false) r ∧ Ev (fun k => aY.j0 k f m (a : Int) (z : Int) false) r := by
 have b := pU h
 obtain ⟨s1, s2, s3, s4, s5⟩ := G8 h a hk
 have hex := DW F a
 have he : -1074 ≤ oP F a ∧ oP F a ≤ 973 := by unfold oP; omega
 have hp : 2 ^ F.P ≤ 2 ^ 53 := Nat.pow_le_pow_right (by decide) (by omega)
 have e53 : (2 : Nat) ^ 53 = 9007199254740992 := by decide
 have hsW : pG F a < WB := Nat.lt_of_lt_of_le s2 (Nat.le_trans hp (by decide))
 obtain ⟨E, d1, d2, d3, d4⟩ := H6 (ngN F a) (pG F a) (oP F a) ((blN F a : Nat) : Int) ⟨by omega, by omega, by omega, by omega⟩
 obtain ⟨M, hM⟩ : ∃ M : Nat, M = 20000 := ⟨_, rfl⟩
 have hT : ((z : Int) - 1 - E) ≤ 2000 ∧ -1000 ≤ ((z : Int) - 1 - E) := by omega
 obtain ⟨t1, t2, t3⟩ := Ee (pG F a) (oP F a) ((z : Int) - 1 - E) hsW (by omega) (by omega) (by omega) hT.1 M hM
 have hge : gN (pG F a) (oP F a) ((z : Int) - 1 - E) := QB d2.1 (by omega)
 have hw : wrap64 ((wrap64 ((z : Int) - 1)) - E) = (z : Int) - 1 - E := by rw [w64 (x := (z : Int) - 1) (by omega) (by omega), w64 (by omega) (by omega)]
 have hplaces := DY (t := (z : Int) - 1 - E) s1 (Nat.lt_of_lt_of_le s2 hp) he.1 he.2 hT.2 hT.1
 have htimes := fun k => Pg k (n := pG F a) (e := oP F a) (t := (z : Int) - 1 - E) (by omega) hsW (by omega) (by omega) (by omega) hT.1
 refine ⟨Je m (ngN F a) (pG F a) (oP F a) E z, ?_⟩
 unfold Je
 simp only []
 unfold gN at hge
 have hc1 : 1 ≤ tmN (pG F a) (oP F a) ((z : Int) - 1 - E) / tmD (oP F a) ((z : Int) - 1 - E) := (Nat.le_div_iff_mul_le (by omega)).2 (by omega)
 have h2M : 2 ^ (M + 1) = 2 * 2 ^ M := Nat.pow_succ'
 have hM1 : ∀ v, v < 2 ^ (M + 1) → gW v := fun v hv => kD (m := M + 1) hv (by omega)
 generalize tmN (pG F a) (oP F a) ((z : Int) - 1 - E) = N at *
 generalize tmD (oP F a) ((z : Int) - 1 - E) = D at *
 have hD0 : 0 < D := by omega
 have hr : N % D < D := Nat.mod_lt _ hD0
 have fN : gW N := hM1 N (by omega)
 have fD : gW D := hM1 D (by omega)
 have hql : N / D ≤ N := Nat.div_le_self _ _
 have hl3 : lOf N D ≤ 3 := LD (N % D) D
 have hch := IQ m (ngN F a) (N / D) (lOf N D)
 have hcg := IL m (ngN F a) (N / D) (lOf N D)
 have fc : gW (jC m (ngN F a) (N / D) (lOf N D)) := hM1 _ (by omega)
 have fq : gW (N / D) := hM1 _ (by omega)
 have hcne : jC m (ngN F a) (N / D) (lOf N D) ≠ 0 := by omega
 have htx : (txB (jC m (ngN F a) (N / D) (lOf N D))).size ≤ 900000 := by rw [xI]; exact oH fc
 have htx0 : 1 ≤ (txB (jC m (ngN F a) (N / D) (lOf N D))).size := by rw [xI, FD hcne]; exact (pV hcne).2.2
 have hsg := Jc (ngN F a)
 constructor
 ·refine Ev.step (fun k => by rw [aX.j0, if_neg (by decide)]) ?_
  refine Ev.bind (Ev.far 3 (fun k => by rw [KJ h ha, if_pos hk])) ?_
  simp only []
  rw [rE, decide_eq_false (by omega)]
  refine Ev.bs (Ev.neg (by decide) ?_)
  refine Ev.pos (yZ.2 hk) ?_
  rw [d1]
  refine Ev.bs ?_
  rw [hw]
  refine Ev.bind (Ev.far 1 htimes) ?_
  simp only []
  rw [MJ (by omega) fN fD]
  refine Ev.bs ?_
  simp only []
  have hsh := Ac (a := N % D) (s := 1) (by decide) (by decide) (Jd fD (by omega)) (hM1 _ (by rw [show (1 : Int).toNat = 1 from rfl]; omega))
  rw [show (1 : Int).toNat = 1 from rfl, Nat.pow_one] at hsh
  rw [hsh]
  refine Ev.bs ?_
  simp only []
  have hj2 : ∀ (u : Nat), u = jC m (ngN F a) (N / D) (lOf N D) → Ev (fun k => aX.j2 k (z : Int) E (wI u) (decide (0 < (wI (N % D)).length)) (ngN F a) ((pG F a : Nat) : Int) (oP F a) ((blN F a : Nat) : Int))
    (if z < (txB (jC m (ngN F a) (N / D) (lOf N D))).size then (sgB (ngN F a) ++ y5 ((txB (jC m (ngN F a) (N / D) (lOf N D))).extract 0 z) (E + 1), decide (0 < N % D), 0) else (sgB (ngN F a) ++ y5 (txB (jC m (ngN F a) (N / D) (lOf N D))) E, decide (0 < N % D), 0)) := fun u hu => by
   subst hu
   refine Ev.step (fun k => by rw [aX.j2, QU fc]) (Ev.bs ?_)
   simp only []
   rw [Oe]
   by_cases hzs : z < (txB (jC m (ngN F a) (N / D) (lOf N D))).size
   ·rw [if_pos hzs]
    have hx := Jf hzs
    refine Ev.pos (by omega) (Ev.pos (by omega) (Ev.pos (by omega) ?_))
    rw [OJ, Int.toNat_natCast, w64 (by omega) (by omega), FH (by omega) (by omega) (by omega) (by omega)]
    refine Ev.bs (Ev.bs (Ev.pos ?_ (Ev.now _)))
    have := vN (D := (txB (jC m (ngN F a) (N / D) (lOf N D))).extract 0 z) (by omega) (by omega) (x := E + 1) (by omega) (by omega)
    omega
   ·rw [if_neg hzs]
    refine Ev.neg (by omega) ?_
    rw [OJ, FH (by omega) (by omega) (by omega) (by omega)]
    refine Ev.bs (Ev.bs (Ev.pos ?_ (Ev.now _)))
    have := vN (D := txB (jC m (ngN F a) (N / D) (lOf N D))) (by omega) (by omega) (x := E) (by omega) (by omega)
    omega
  by_cases hr0 : N % D = 0
  ·have hch0 : N / D = jC m (ngN F a) (N / D) (lOf N D) := by unfold lOf; rw [hr0]; exact (Eb m (ngN F a) (N / D)).symm
   have hln := mY (N % D)
   refine Ev.neg (by omega) ?_
   refine Ev.step (fun k => by rw [aX.j1, if_neg (by decide)]) (hj2 _ hch0)
  ·have hln := mY (N % D)
   have hln2 := mY (N / D)
   have hl0 : lOf N D ≠ 0 := fun e => hr0 (zq.1 e)
   refine Ev.pos (by omega) (Ev.pos (by omega) ?_)
   rw [Sj (hM1 _ (by omega)) fD]
   refine Ev.bs ?_
   have hcm : mF (N % D * 2) D = ((lOf N D : Nat) : Int) - 2 := by
    have := D7 (d := D) hr0
    have hcc := n_ (N % D * 2) D
    rw [w64 (by omega) (by omega)] at this
    show _ = ((um (N % D) D : Nat) : Int) - 2
    omega
   rw [hcm, Ph (by omega), SE m _ _ ⟨by omega, hl3⟩]
   refine Ev.bs ?_
   refine Ev.step (fun k => by rw [aX.j1]) ?_
   by_cases hg : zu m (ngN F a) (decide (N / D % 2 = 1)) (lOf N D) = true
   ·refine Ev.pos hg ?_
    rw [← SQ, SN (Nat.le_trans fq (by decide)) (by rw [oC]; decide)]
    refine Ev.bs (hj2 _ ?_)
    unfold jC
    rw [if_pos ⟨hl0, hg⟩]
   ·refine Ev.neg hg (hj2 _ ?_)
    unfold jC
    rw [if_neg (fun e => hg e.2)]
 ·refine Ev.step (fun k => by rw [aY.j0, if_neg (by decide), uX h ha, decide_eq_false (by omega)]) ?_
  refine Ev.bs (Ev.neg (by decide) ?_)
  refine Ev.bind (Ev.far 1 (fun k => AQ h ha k)) ?_
  refine Ev.pos (yZ.2 hk) ?_
  refine Ev.bind (DX h ha hk) ?_
  simp only []
  refine Ev.bind (PW s1 (Nat.lt_of_lt_of_le s2 hp) he.1 he.2 d2 d3 d4) ?_
  rw [hw]
  refine Ev.bind hplaces ?_
  simp only []
  rw [FC h ha]
  refine Ev.bs ?_
  rw [show (((((if ngN F a then 1 else 0 : Nat)) : Int) == 1)) = ngN F a by cases ngN F a <;> rfl]
  refine Ev.bind (Iz m (ngN F a) (Nat.le_trans fq (by decide)) hl3) ?_
  refine Ev.bind (KO hcne fc) ?_
  simp only []
  have hdl : decide (((lOf N D : Nat) : Int) > 0) = decide (0 < N % D) := by
   rw [decide_eq_decide]
   have := zq (r := N % D) (d := D)
   show ((um (N % D) D : Nat) : Int) > 0 ↔ _
   omega
  rw [G7 h ha, hdl]
  by_cases hzs : z < (txB (jC m (ngN F a) (N / D) (lOf N D))).size
  ·rw [if_pos hzs]
   have hx := Jf hzs
   refine Ev.pos (by omega) (Ev.pos (by omega) (Ev.pos (by omega) (Ev.bs ?_)))
   rw [Int.toNat_natCast, w64 (by omega) (by omega)]
   refine Ev.bind (FI (by omega) (by omega) (by omega) (by omega)) ?_
   refine Ev.pos ?_ (Ev.now _)
   have := vN (D := (txB (jC m (ngN F a) (N / D) (lOf N D))).extract 0 z) (by omega) (by omega) (x := E + 1) (by omega) (by omega)
   omega
  ·rw [if_neg hzs]
   refine Ev.neg (by omega) (Ev.bs ?_)
   refine Ev.bind (FI (by omega) (by omega) (by omega) (by omega)) ?_
   refine Ev.pos ?_ (Ev.now _)
   have := vN (D := txB (jC m (ngN F a) (N / D) (lOf N D))) (by omega) (by omega) (x := E) (by omega) (by omega)
   omega
theorem ML (f m : Int) {F : Fm} (h : nI f = some F) {a : Nat} (ha : a < 2 ^ F.W) {z : Nat} (hz : 1 ≤ z) (hz2 : z ≤ 1200) :
  ∃ r, Ev (fun k => aX.j0 k f m (a : Int) (z : Int) false) r ∧ Ev (fun k => aY.j0 k f m (a : Int) (z : Int) false) r := by
 by_cases hk : kdN F a = 3
 ·exact MK f m h ha hk hz hz2
 have hsg := Jc (ngN F a)
 by_cases hk2 : kdN F a = 2
 ·refine ⟨(sgB (ngN F a) ++ y5 (wS z) 0, false, 0), ?_, ?_⟩
  ·obtain ⟨c1, c2⟩ := Jb F a hk2
   refine Ev.step (fun k => by rw [aX.j0, if_neg (by decide)]) ?_
   refine Ev.bind (Ev.far 3 (fun k => by rw [KJ h ha, if_neg hk])) ?_
   simp only []
   rw [rE, decide_eq_true hk2]
   refine Ev.bs (Ev.pos rfl ?_)
   have hw : wrap64 (((nameB F a).size : Int) - 1) = (((sgB (ngN F a)).size : Nat) : Int) := by rw [w64 (by omega) (by omega)]; omega
   rw [hw, Int.toNat_natCast, c2]
   refine Ev.pos (by omega) (Ev.pos (by omega) ?_)
   have hn := Bh z
   rw [Si (by omega), show (some (wS z)).bind (fun t814 => (gX.f t814 0).bind fun t815 => if (sgB (ngN F a)).size + t815.size ≤ 9223372036854775807 then some (sgB (ngN F a) ++ t815, false, (0 : Int)) else none) = ((gX.f (wS z) 0).bind fun t815 => if (sgB (ngN F a)).size + t815.size ≤ 9223372036854775807 then some (sgB (ngN F a) ++ t815, false, (0 : Int)) else none) from rfl, FH (by omega) (by omega) (by decide) (by decide)]
   refine Ev.bs (Ev.pos ?_ (Ev.now _))
   have := vN (D := wS z) (by omega) (by omega) (x := 0) (by decide) (by decide)
   omega
  ·refine Ev.step (fun k => by rw [aY.j0, if_neg (by decide), uX h ha, decide_eq_true hk2]) ?_
   refine Ev.bs (Ev.pos rfl ?_)
   rw [G7 h ha]
   have hn := Bh z
   refine Ev.bs (Ev.bind (O9 (by omega)) (Ev.bind (FI (by omega) (by omega) (by decide) (by decide)) (Ev.pos ?_ (Ev.now _))))
   have := vN (D := wS z) (by omega) (by omega) (x := 0) (by decide) (by decide)
   omega
 ·have hnn : ¬ (nameB F a).toList = ([] : List UInt8) := fun e => hk (yZ.1 e)
  refine ⟨(nameB F a, false, 0), ?_, ?_⟩
  ·refine Ev.step (fun k => by rw [aX.j0, if_neg (by decide)]) ?_
   refine Ev.bind (Ev.far 3 (fun k => by rw [KJ h ha, if_neg hk])) ?_
   simp only []
   rw [rE, decide_eq_false hk2]
   exact Ev.bs (Ev.neg (by decide) (Ev.neg hnn (Ev.now _)))
  ·refine Ev.step (fun k => by rw [aY.j0, if_neg (by decide), uX h ha, decide_eq_false hk2]) ?_
   refine Ev.bs (Ev.neg (by decide) ?_)
   refine Ev.bind (Ev.far 1 (fun k => AQ h ha k)) ?_
   exact Ev.neg hnn (Ev.now _)
theorem H7 (f m : Int) {a : Nat} (ha : a < 2 ^ 64) (z : Int) : ∃ r, Ev (fun k => aX.f k f m (a : Int) z) r ∧ Ev (fun k => aY.f k f m (a : Int) z) r := by
 unfold aX.f aY.f
 cases h : nI f with
 | none =>
  refine ⟨(⟨#[]⟩, false, 2), ?_, Ev.bind (Dc _ h) (Ev.neg (by decide) (Ev.now _))⟩
  rw [D8 h]
  refine Ev.bs ?_
  exact Ev.neg (by decide) (Ev.now _)
 | some F =>
  rw [CJ h, O_]
  have hr := Df (m := m) h a ha
  by_cases hm : m < 0 ∨ 5 < m
  ·rw [if_pos hm] at hr
   refine ⟨(⟨#[]⟩, false, 3), ?_, Ev.bind hr (Ev.neg (by decide) (Ev.now _))⟩
   refine Ev.bs (Ev.pos rfl ?_)
   rw [decide_eq_false (by omega)]
   exact Ev.bs (Ev.neg (by decide) (Ev.now _))
  ·rw [if_neg hm] at hr
   by_cases hw : a < 2 ^ F.W
   ·rw [if_pos hw] at hr
    have hp : ∀ r, Ev (fun k => if z < 1 then (aX.j0 k f m (a : Int) z true) else (aX.j0 k f m (a : Int) z (decide (z > 1200)))) r → Ev (fun k => (some (((F.W : Int), (F.P : Int), F.emin, F.emax, (0 : Int)))).bind fun bt799 => (if bt799.2.2.2.2 = 0 then ((some (decide (¬ (m < 0 ∨ 5 < m)))).bind fun t805 => (if t805 = true then ((bW.f f (a : Int)).bind fun t806 => (if t806 = 0 then (if z < 1 then (aX.j0 k f m (a : Int) z true) else (aX.j0 k f m (a : Int) z (decide (z > 1200)))) else (some ((⟨#[]⟩ : ByteArray), false, t806)))) else (some ((⟨#[]⟩ : ByteArray), false, 3)))) else (some ((⟨#[]⟩ : ByteArray), false, bt799.2.2.2.2)))) r := fun r hE => by
     refine Ev.bs (Ev.pos rfl ?_)
     rw [decide_eq_true hm, I9 h a ha, if_pos hw]
     exact Ev.bs (Ev.pos rfl (Ev.bs (Ev.pos rfl hE)))
    by_cases hz1 : z < 1
    ·refine ⟨(⟨#[]⟩, false, 7), hp _ (Ev.pos hz1 (Ev.one fun k => by rw [aX.j0, if_pos rfl])), Ev.bind hr (Ev.pos rfl (Ev.pos hz1 (Ev.one fun k => by rw [aY.j0, if_pos rfl])))⟩
    ·by_cases hz2 : 1200 < z
     ·rw [decide_eq_true (show z > 1200 from hz2)] at *
      refine ⟨(⟨#[]⟩, false, 7), hp _ (Ev.neg hz1 (Ev.one fun k => by rw [aX.j0, if_pos rfl])), Ev.bind hr (Ev.pos rfl (Ev.neg hz1 (Ev.one fun k => by rw [aY.j0, if_pos rfl])))⟩
     ·rw [decide_eq_false (show ¬ z > 1200 from hz2)] at *
      obtain ⟨n, rfl⟩ := Int.eq_ofNat_of_zero_le (show 0 ≤ z by omega)
      obtain ⟨r, r1, r2⟩ := ML f m h hw (z := n) (by omega) (by omega)
      exact ⟨r, hp _ (Ev.neg hz1 r1), Ev.bind hr (Ev.pos rfl (Ev.neg hz1 r2))⟩
   ·rw [if_neg hw] at hr
    refine ⟨(⟨#[]⟩, false, 4), ?_, Ev.bind hr (Ev.neg (by decide) (Ev.now _))⟩
    refine Ev.bs (Ev.pos rfl ?_)
    rw [decide_eq_true hm, I9 h a ha, if_neg hw]
    exact Ev.bs (Ev.pos rfl (Ev.bs (Ev.neg (by decide) (Ev.now _))))
theorem wU (f m a n : Int) (h0 : 0 ≤ a) (h1 : a < 18446744073709551616) : ∃ k, dO.f k f m a n = some true := by
 obtain ⟨v, rfl⟩ := Int.eq_ofNat_of_zero_le h0
 obtain ⟨r, r1, r2⟩ := H7 f m (a := v) (by have : (2 : Nat) ^ 64 = 18446744073709551616 := (by decide); omega) n
 have h : Ev (fun k => dO.f k f m (v : Int) n) true := by
  unfold dO.f
  refine Ev.bind r1 (Ev.bind r2 (Ev.bind J7 (Ev.pos rfl (Ev.pos rfl (Ev.pos (by simp) ?_)))))
  rw [show (r.2.2 == r.2.2) = true by simp]
  exact Ev.now _
 exact h.rounds
end Go.Proofs.YtafikkmnkeddpaaGreatDoor.P
