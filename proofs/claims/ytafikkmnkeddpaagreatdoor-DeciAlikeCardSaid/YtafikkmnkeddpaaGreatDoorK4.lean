/- Part 4 of the proof: see the last text. Condition: none. -/
import Derived.Laws.BitsAllLaws
import Derived.Test.YtafikkmnkeddpaaGreatDoorK3
set_option linter.unusedVariables false
set_option linter.unusedSimpArgs false
set_option maxRecDepth 100000
namespace Go.Proofs.YtafikkmnkeddpaaGreatDoor.P
open Go.RowKit Go.Proofs.YtafikkmnkeddpaaGreatDoorW.PrintWords Go.Proofs.YtafikkmnkeddpaaGreatDoorW.PrintLast Go.Proofs.YtafikkmnkeddpaaGreatDoorW.PrintMore Go.Proofs.Tryz
def dR.f (a : Int) : Option (Bool) := if a ≥ 0 then (some (decide (a ≤ 5))) else (some false)
def fF.f (a : Int) : Option (Bool) := if a ≥ 48 then (some (decide (a ≤ 57))) else (some false)
mutual
def ah.j0 : Nat → ByteArray → Int → Bool → Option (Int × Bool)
 | 0, _, _, _ => none
 | k + 1, a, b, c => if c = true then (some (0, false)) else (if 1 ≤ (a.size : Int) then (if (a.extract 1 a.size).toList = ([] : List UInt8) then (ah.j1 k (a.extract 1 a.size) b false) else (if 0 < ((a.extract 1 a.size).size : Int) then (ah.j1 k (a.extract 1 a.size) b ((bt (a.extract 1 a.size) 0) == 45)) else (none))) else (none))
def ah.j1 : Nat → ByteArray → Int → Bool → Option (Int × Bool)
 | 0, _, _, _ => none
 | k + 1, a, b, c => if c = true then (ah.j2 k a b c true) else (if a.toList = ([] : List UInt8) then (ah.j2 k a b c false) else (if 0 < (a.size : Int) then (ah.j2 k a b c ((bt a 0) == 43)) else (none)))
def ah.j2 : Nat → ByteArray → Int → Bool → Bool → Option (Int × Bool)
 | 0, _, _, _, _ => none
 | k + 1, a, b, c, d => if d = true then (if 1 ≤ (a.size : Int) then (ah.j3 k (a.extract 1 a.size) b c) else (none)) else (ah.j3 k a b c)
def ah.j3 : Nat → ByteArray → Int → Bool → Option (Int × Bool)
 | 0, _, _, _ => none
 | k + 1, a, b, c => if a.toList = ([] : List UInt8) then (some (0, false)) else (ah.l0 k a b c (a.size : Int) 0)
def ah.l0 : Nat → ByteArray → Int → Bool → Int → Int → Option (Int × Bool)
 | 0, _, _, _, _, _ => none
 | k + 1, a, b, c, d, e => if e < d then (if 0 ≤ e then (if e < (a.size : Int) then ((fF.f (bt a e)).bind fun f => (if f = true then (ah.l0 k a (mn (wrap64 ((wrap64 (10 * b)) + (((bt a e) - 48) % 256))) 1048576) c d (wrap64 (e + 1))) else (some (0, false)))) else (none)) else (none)) else (if c = true then (some (wrap64 (-b), true)) else (some (b, true)))
end
def ah.f (k : Nat) (a : ByteArray) : Option (Int × Bool) := if 0 < (a.size : Int) then (if (bt a 0) = 101 then (ah.j0 k a 0 false) else (ah.j0 k a 0 ((bt a 0) != 69))) else (none)
mutual
def au.j0 : Nat → ByteArray → Bool → Bool → ByteArray → ByteArray → Int → Option (Bool × ByteArray × ByteArray × Int × Bool)
 | 0, _, _, _, _, _, _ => none
 | k + 1, a, b, c, d, e, f => if b = true then (if 0 < (a.size : Int) then (if 1 ≤ (a.size : Int) then (au.j1 k (a.extract 1 a.size) ((bt a 0) == 45) d e f) else (none)) else (none)) else (au.j1 k a c d e f)
def au.j1 : Nat → ByteArray → Bool → ByteArray → ByteArray → Int → Option (Bool × ByteArray × ByteArray × Int × Bool)
 | 0, _, _, _, _, _ => none
 | k + 1, a, b, c, d, e => (fP.f a).bind fun f => (if (a.size : Int) = 3 then (if f.toList = ([105, 110, 102] : List UInt8) then (au.j2 k a f true b c d e) else (au.j2 k a f (f.toList == ([110, 97, 110] : List UInt8)) b c d e)) else (au.j2 k a f false b c d e))
def au.j2 : Nat → ByteArray → ByteArray → Bool → Bool → ByteArray → ByteArray → Int → Option (Bool × ByteArray × ByteArray × Int × Bool)
 | 0, _, _, _, _, _, _, _ => none
 | k + 1, a, b, c, d, e, f, g => if c = true then (some (d, b, f, g, true)) else (if 0 ≤ (a.size : Int) then (if ((a.size : Int) : Int).toNat ≤ 281474976710656 then (au.l0 k a (([] : List Int)) false 0 d e f g) else (none)) else (none))
def au.j4 : Nat → ByteArray → List Int → Int → Bool → ByteArray → ByteArray → Int → Option (Bool × ByteArray × ByteArray × Int × Bool)
 | 0, _, _, _, _, _, _, _ => none
 | k + 1, a, b, c, d, e, f, g => if (b.length : Int) = 0 then (some (d, e, strOfNums b, g, false)) else (if c = (a.size : Int) then (some (d, e, strOfNums b, g, true)) else (if 0 ≤ c then (if c ≤ (a.size : Int) then ((ah.f k (a.extract (c : Int).toNat a.size)).bind fun i => (some (d, e, strOfNums b, wrap64 (g + i.1), i.2))) else (none)) else (none)))
def au.l0 : Nat → ByteArray → List Int → Bool → Int → Bool → ByteArray → ByteArray → Int → Option (Bool × ByteArray × ByteArray × Int × Bool)
 | 0, _, _, _, _, _, _, _, _ => none
 | k + 1, a, b, c, d, e, f, g, i => if d < (a.size : Int) then (if 0 ≤ d then ((fF.f (bt a d)).bind fun j => (if j = true then (if b.length < 140737488355328 then ((some (b ++ [bt a d] : List Int)).bind fun m => (if c = true then (au.l0 k a m c (wrap64 (d + 1)) e f g (wrap64 (i - 1))) else (au.l0 k a m c (wrap64 (d + 1)) e f g i))) else (none)) else (if (bt a d) = 46 then (if c = true then (au.j4 k a b d e f g i) else (au.l0 k a b true (wrap64 (d + 1)) e f g i)) else (au.j4 k a b d e f g i)))) else (none)) else (au.j4 k a b d e f g i)
end
def au.f (k : Nat) (a : ByteArray) : Option (Bool × ByteArray × ByteArray × Int × Bool) := if a.toList = ([] : List UInt8) then (au.j0 k a false false (⟨#[]⟩ : ByteArray) (⟨#[]⟩ : ByteArray) 0) else (if 0 < (a.size : Int) then (if (bt a 0) = 43 then (au.j0 k a true false (⟨#[]⟩ : ByteArray) (⟨#[]⟩ : ByteArray) 0) else (au.j0 k a ((bt a 0) == 45) false (⟨#[]⟩ : ByteArray) (⟨#[]⟩ : ByteArray) 0)) else (none))
def eF.f (a : Int) : Option (Int) := if a < 0 then (some 3) else (if a > 5 then (some 3) else (some 0))
def fZ.f (a : Int) (b : Int) : Option (Int × Int × Int × Int × Int) := (bg.f a).bind fun c => (if c.2.2.2.2 = 0 then ((eF.f b).bind fun d => (some (c.1, c.2.1, c.2.2.1, c.2.2.2.1, d))) else (some (c.1, c.2.1, c.2.2.1, c.2.2.2.1, c.2.2.2.2)))
def jh.f (a : Int) (b : Bool) : Option (Int × Int × Int) := (gZ.f a b).bind fun c => (some (c.1, 0, c.2))
mutual
def aG.l0 : Nat → List Int → Int → List Int → Bool → List Int → Int → Bool → Option (Bool × List Int × Int × Bool)
 | 0, _, _, _, _, _, _, _ => none
 | k + 1, a, b, c, d, e, f, g => (iG.f e).bind fun i => (if i < b then (aG.j1 k a b c (decide (0 < c.length)) d e f g) else (aG.j1 k a b c false d e f g))
def aG.j1 : Nat → List Int → Int → List Int → Bool → Bool → List Int → Int → Bool → Option (Bool × List Int × Int × Bool)
 | 0, _, _, _, _, _, _, _, _ => none
 | k + 1, a, b, c, d, e, f, g, i => if d = true then ((iJ.f f f).bind fun j => ((iJ.f c c).bind fun m => ((iy.f m a).bind fun n => (if n ≥ 0 then ((kD.f m a).bind fun o => ((iJ.f j (([1] : List Int))).bind fun p => (aG.l0 k a b o.1 e p (wrap64 (g - 1)) i))) else (aG.l0 k a b m e j (wrap64 (g - 1)) i))))) else (some (e, f, g, decide (0 < c.length)))
end
def aG.f (k : Nat) (a : List Int) (b : List Int) (c : Int) : Option (Bool × List Int × Int × Bool) := (iG.f b).bind fun d => ((iG.f a).bind fun e => ((fA.f a (mx 0 (wrap64 ((wrap64 (d - e)) - 1)))).bind fun f => ((iq.f f.1 b).bind fun g => (aG.l0 k b c g.2.1 false g.1 (wrap64 (-(mx 0 (wrap64 ((wrap64 (d - e)) - 1))))) false))))
def dQ.f (a : Bool) (b : List Int) (c : Int) (d : Bool) : Option (Int) := (iG.f b).bind fun e => (some (wrap64 ((wrap64 (c + e)) - 1)))
def aQ.j0 : Nat → Int → Bool → Bool → Option (Int)
 | 0, _, _, _ => none
 | k + 1, a, b, c => if c = true then ((dM.f a b).bind fun d => (some d.1)) else ((fQ.f a b).bind fun e => (some e.1))
def aQ.f (k : Nat) (a : Int) (b : Int) (c : Bool) : Option (Int) := if b = 0 then (aQ.j0 k a c true) else (if b = 1 then (aQ.j0 k a c true) else (if b = 3 then (if c = true then (if b = 4 then (aQ.j0 k a c c) else (aQ.j0 k a c false)) else (aQ.j0 k a c true)) else (if b = 4 then (aQ.j0 k a c c) else (aQ.j0 k a c false))))
def f_.f (a : Int) (b : Bool) (c : Bool) (d : Int) : Option (Bool) := if a = 4 then (some (!(!b))) else (if a = 3 then (some (!b)) else (if a = 0 then (if d = 2 then (some c) else (some (decide (d ≥ 2)))) else (if a = 1 then (some (decide (d ≥ 2))) else (if a = 5 then (some (!c)) else (some false)))))
mutual
def aj.j0 : Nat → Int → List Int → Bool → List Int → Int → Bool → Option (List Int × Bool)
 | 0, _, _, _, _, _, _ => none
 | k + 1, a, b, c, d, e, f => if (b.length : Int) > 0 then (if 0 < (b.length : Int) then (aj.j1 k a b (Go.bits .and .u64 (rd b 0) 3) c d e f) else (none)) else (aj.j1 k a b 0 c d e f)
def aj.j1 : Nat → Int → List Int → Int → Bool → List Int → Int → Bool → Option (List Int × Bool)
 | 0, _, _, _, _, _, _, _ => none
 | k + 1, a, b, c, d, e, f, g => if g = true then (aj.j2 k a b (Go.bits .or .u64 c 1) d e f g) else (aj.j2 k a b c d e f g)
def aj.j2 : Nat → Int → List Int → Int → Bool → List Int → Int → Bool → Option (List Int × Bool)
 | 0, _, _, _, _, _, _, _ => none
 | k + 1, a, b, c, d, e, f, g => (lu.f b 2).bind fun i => (if (i.1.length : Int) > 0 then (if 0 < (i.1.length : Int) then (aj.j3 k a c i.1 ((Go.bits .and .u64 (rd i.1 0) 1) == 1) d e f g) else (none)) else (aj.j3 k a c i.1 false d e f g))
def aj.j3 : Nat → Int → Int → List Int → Bool → Bool → List Int → Int → Bool → Option (List Int × Bool)
 | 0, _, _, _, _, _, _, _, _ => none
 | k + 1, a, b, c, d, e, f, g, i => if b = 0 then (some (c, (b != 0))) else ((f_.f a e d b).bind fun j => (if j = true then ((iJ.f c (([1] : List Int))).bind fun m => (some (m, (b != 0)))) else (some (c, (b != 0)))))
end
def aj.f (k : Nat) (a : Bool) (b : List Int) (c : Int) (d : Bool) (e : Int) (f : Int) : Option (List Int × Bool) := if (wrap64 (f - c)) ≥ 2 then ((lg.f b (wrap64 ((wrap64 (f - c)) - 2))).bind fun g => (aj.j0 k e g.1 a b c d)) else ((fA.f b (wrap64 (2 - (wrap64 (f - c))))).bind fun i => (aj.j0 k e i.1 a b c d))
def dw.f (k : Nat) (a : Bool) (b : List Int) (c : Int) (d : Bool) (e : Int) (f : Int) (g : Int) (i : Int) (j : Int) (m : Int) : Option (Bool) := if m ≥ g then (some false) else ((aj.f k a b c d j (wrap64 ((wrap64 (m - f)) + 1))).bind fun n => ((iG.f n.1).bind fun o => (some (decide ((wrap64 ((wrap64 (m - f)) + o)) < g)))))
mutual
def aA.j0 : Nat → Int → Int → Int → Int → List Int → Bool → Int → Bool → List Int → Int → Bool → Int → Int → Int → Int → Option (Int × Int)
 | 0, _, _, _, _, _, _, _, _, _, _, _, _, _, _, _ => none
 | k + 1, a, b, c, d, e, f, g, i, j, m, n, o, p, q, t => (iG.f e).bind fun u => (if (wrap64 ((wrap64 (d + u)) - 1)) > t then ((aQ.f k a b i).bind fun v => (some (v, 20))) else (if i = true then (if 0 ≤ (wrap64 (o - 1)) then (aA.j1 k b c f (Go.bits .or .u64 g (shl .u64 1 (wrap64 (o - 1)))) i j m n o p q t) else (none)) else (aA.j1 k b c f g i j m n o p q t)))
def aA.j1 : Nat → Int → Int → Bool → Int → Bool → List Int → Int → Bool → Int → Int → Int → Int → Option (Int × Int)
 | 0, _, _, _, _, _, _, _, _, _, _, _, _ => none
 | k + 1, a, b, c, d, e, f, g, i, j, m, n, o => if c = true then ((dw.f k e f g i j m n o a b).bind fun p => (if p = true then (some (d, 24)) else (some (d, 16)))) else (some (d, 0))
end
def aA.f (k : Nat) (a : Bool) (b : List Int) (c : Int) (d : Bool) (e : Int) (f : Int) (g : Int) (i : Int) (j : Int) (m : Int) : Option (Int × Int) := (dQ.f a b c d).bind fun n => (if n > j then ((aQ.f k e m a).bind fun o => (some (o, 20))) else ((aj.f k a b c d m (wrap64 ((wrap64 ((mx n i) - g)) + 1))).bind fun p => (if 0 ≤ (wrap64 (g - 1)) then (if (p.1.length : Int) > 0 then (if 0 < (p.1.length : Int) then (aA.j0 k e m n (wrap64 ((wrap64 ((mx n i) - g)) + 1)) p.1 p.2 (IntKind.u64.wrap ((shl .u64 (IntKind.u64.wrap (wrap64 ((wrap64 ((wrap64 ((mx n i) - g)) + 1)) - (wrap64 ((wrap64 (i - g)) + 1))))) (wrap64 (g - 1))) + (rd p.1 0))) a b c d f g i j) else (none)) else (aA.j0 k e m n (wrap64 ((wrap64 ((mx n i) - g)) + 1)) p.1 p.2 (shl .u64 (IntKind.u64.wrap (wrap64 ((wrap64 ((wrap64 ((mx n i) - g)) + 1)) - (wrap64 ((wrap64 (i - g)) + 1))))) (wrap64 (g - 1))) a b c d f g i j)) else (none))))
def bJ.j0 : Nat → Int → Int → Bool → List Int → List Int → Int → Bool → Int → Int → Int → Int → Option (Int × Int × Int)
 | 0, _, _, _, _, _, _, _, _, _, _, _ => none
 | k + 1, a, b, c, d, e, f, g, i, j, m, n => if g = true then (some (0, 0, 30)) else (if (e.length : Int) = 0 then (some (0, 0, 10)) else (if (d.length : Int) = 0 then ((jh.f a c).bind fun o => (some (o.1, o.2.1, o.2.2))) else ((aG.f k d e (wrap64 (j + 3))).bind fun p => ((aA.f k c p.2.1 (wrap64 (p.2.2.1 + f)) p.2.2.2 a i j m n b).bind fun q => (some (q.1, q.2, 0))))))
def bJ.f (k : Nat) (a : Int) (b : Int) (c : Bool) (d : List Int) (e : List Int) (f : Int) : Option (Int × Int × Int) := (fZ.f a b).bind fun g => (if g.2.2.2.2 = 0 then ((jK.f d).bind fun i => ((jK.f e).bind fun j => (if (wrap64 ((i.length : Int) + (j.length : Int))) > 1024 then (some (0, 0, 5)) else (if f < (-40000) then (bJ.j0 k a b c i j f true g.1 g.2.1 g.2.2.1 g.2.2.2.1) else (bJ.j0 k a b c i j f (decide (f > 40000)) g.1 g.2.1 g.2.2.1 g.2.2.2.1))))) else (some (0, 0, g.2.2.2.2)))
def dH.f (a : Int) : Option (List Int) := (gB.f 10 a).bind fun b => (some b.1)
def bV.f (k : Nat) (a : Int) (b : Int) (c : ByteArray) : Option (Int × Int × Int) := (bg.f a).bind fun d => (if d.2.2.2.2 = 0 then ((dR.f b).bind fun e => (if e = true then (if (c.size : Int) > 2000 then (some (0, 0, 5)) else ((au.f k c).bind fun f => (if f.2.2.2.2 = true then ((fM.f f.2.2.1 (⟨#[48]⟩ : ByteArray)).bind fun g => (if f.2.1.toList = ([105, 110, 102] : List UInt8) then ((dM.f a f.1).bind fun i => (some (i.1, 0, i.2))) else (if f.2.1.toList = ([110, 97, 110] : List UInt8) then ((jw.f a).bind fun j => (some (j.1, 0, j.2))) else (if g.toList = ([] : List UInt8) then ((gZ.f a f.1).bind fun m => (some (m.1, 0, m.2))) else ((jH.f g).bind fun n => (if (mx (wrap64 ((-400) - (g.size : Int))) (mn f.2.2.2.1 (wrap64 (400 - (g.size : Int))))) < 0 then ((dH.f (wrap64 (-(mx (wrap64 ((-400) - (g.size : Int))) (mn f.2.2.2.1 (wrap64 (400 - (g.size : Int)))))))).bind fun o => ((bJ.f k a b f.1 n.1 o 0).bind fun p => (some (p.1, p.2.1, p.2.2)))) else ((dH.f (mx (wrap64 ((-400) - (g.size : Int))) (mn f.2.2.2.1 (wrap64 (400 - (g.size : Int)))))).bind fun q => ((gY.f n.1 q).bind fun t => ((bJ.f k a b f.1 t.1 (([1] : List Int)) 0).bind fun u => (some (u.1, u.2.1, u.2.2))))))))))) else (some (0, 0, 8))))) else (some (0, 0, 3)))) else (some (0, 0, d.2.2.2.2)))
def bW.f (a : Int) : Option (Int × Int × Int × Int × Bool) := if a = 0 then (some (16, 11, (-14), 15, true)) else (if a = 1 then (some (16, 8, (-126), 127, true)) else (if a = 2 then (some (32, 24, (-126), 127, true)) else (if a = 3 then (some (64, 53, (-1022), 1023, true)) else (some (0, 0, 0, 0, false)))))
def gW.f (a : Int) (b : Int) : Option (Int) := (bW.f a).bind fun c => (if c.2.2.2.2 = true then (if c.1 < 64 then (if 0 ≤ (IntKind.u64.wrap (c.1)) then (if (shr .u64 b (IntKind.u64.wrap (c.1))) = 0 then (some 0) else (some 4)) else (none)) else (some 0)) else (some 2))
mutual
def bK.j0 : Nat → Int → List Int → Bool → Option (Int)
 | 0, _, _, _ => none
 | k + 1, a, b, c => if c = true then (some 3) else (bK.l0 k a b (b.length : Int) 0)
def bK.l0 : Nat → Int → List Int → Int → Int → Option (Int)
 | 0, _, _, _, _ => none
 | k + 1, a, b, c, d => if d < c then (if 0 ≤ d then (if d < (b.length : Int) then ((gW.f a (rd b d)).bind fun e => (if e = 0 then (bK.l0 k a b c (wrap64 (d + 1))) else (some e))) else (none)) else (none)) else (some 0)
end
def bK.f (k : Nat) (a : Int) (b : Int) (c : List Int) : Option (Int) := (bW.f a).bind fun d => (if d.2.2.2.2 = true then (if b < 0 then (bK.j0 k a c true) else (bK.j0 k a c (decide (b > 5)))) else (some 2))
def dK.l0 : Nat → ByteArray → ByteArray → Int → Option (ByteArray)
 | 0, _, _, _ => none
 | k + 1, a, b, c => if c < (a.size : Int) then (if 0 ≤ c then (if (bt a c) ≥ 65 then (if (bt a c) ≤ 90 then ((some (([((bt a c) + 32) % 256] : List Int) : List Int)).bind fun d => (if b.size + (strOfNums d).size ≤ 9223372036854775807 then (dK.l0 k a (b ++ (strOfNums d)) (wrap64 (c + 1))) else (none))) else ((some (([bt a c] : List Int) : List Int)).bind fun e => (if b.size + (strOfNums e).size ≤ 9223372036854775807 then (dK.l0 k a (b ++ (strOfNums e)) (wrap64 (c + 1))) else (none)))) else ((some (([bt a c] : List Int) : List Int)).bind fun f => (if b.size + (strOfNums f).size ≤ 9223372036854775807 then (dK.l0 k a (b ++ (strOfNums f)) (wrap64 (c + 1))) else (none)))) else (none)) else (some b)
def dK.f (k : Nat) (a : ByteArray) : Option (ByteArray) := dK.l0 k a (⟨#[]⟩ : ByteArray) 0
def gX.f (a : Int) : Option (Bool) := if a ≥ 48 then (some (decide (a ≤ 57))) else (some false)
mutual
def aK.j0 : Nat → ByteArray → Bool → Option (Int × Bool)
 | 0, _, _ => none
 | k + 1, a, b => if (a.size : Int) > 0 then (if 0 < (a.size : Int) then (if (bt a 0) = 45 then (aK.j1 k a b true) else (aK.j1 k a b ((bt a 0) == 43))) else (none)) else (aK.j1 k a b false)
def aK.j1 : Nat → ByteArray → Bool → Bool → Option (Int × Bool)
 | 0, _, _, _ => none
 | k + 1, a, b, c => if c = true then (if 1 ≤ (a.size : Int) then (aK.j2 k (a.extract 1 a.size) b) else (none)) else (aK.j2 k a b)
def aK.j2 : Nat → ByteArray → Bool → Option (Int × Bool)
 | 0, _, _ => none
 | k + 1, a, b => aK.l0 k a b 0 0
def aK.l0 : Nat → ByteArray → Bool → Int → Int → Option (Int × Bool)
 | 0, _, _, _, _ => none
 | k + 1, a, b, c, d => if d < (a.size : Int) then (if 0 ≤ d then ((gX.f (bt a d)).bind fun e => (if e = true then (aK.l0 k a b (mn (wrap64 ((wrap64 (10 * c)) + (((bt a d) - 48) % 256))) 1000000000) (wrap64 (d + 1))) else (some (0, false)))) else (none)) else (if b = true then (some (wrap64 (-c), decide ((a.size : Int) > 0))) else (some (c, decide ((a.size : Int) > 0))))
end
def aK.f (k : Nat) (a : ByteArray) : Option (Int × Bool) := if (a.size : Int) > 0 then (if 0 < (a.size : Int) then (aK.j0 k a ((bt a 0) == 45)) else (none)) else (aK.j0 k a false)
mutual
def aI.j0 : Nat → ByteArray → Bool → Bool → Bool → Bool → ByteArray → Int → Option (Bool × Bool × Bool × ByteArray × Int × Bool)
 | 0, _, _, _, _, _, _, _ => none
 | k + 1, a, b, c, d, e, f, g => if b = true then (if 0 < (a.size : Int) then (if 1 ≤ (a.size : Int) then (aI.j1 k (a.extract 1 a.size) ((bt a 0) == 45) d e f g) else (none)) else (none)) else (aI.j1 k a c d e f g)
def aI.j1 : Nat → ByteArray → Bool → Bool → Bool → ByteArray → Int → Option (Bool × Bool × Bool × ByteArray × Int × Bool)
 | 0, _, _, _, _, _, _ => none
 | k + 1, a, b, c, d, e, f => if (a.size : Int) = 3 then ((dK.f k a).bind fun g => ((dK.f k a).bind fun i => (if g.toList = ([105, 110, 102] : List UInt8) then (some (b, (g.toList == ([105, 110, 102] : List UInt8)), (i.toList == ([110, 97, 110] : List UInt8)), e, f, true)) else (if i.toList = ([110, 97, 110] : List UInt8) then (some (b, (g.toList == ([105, 110, 102] : List UInt8)), (i.toList == ([110, 97, 110] : List UInt8)), e, f, true)) else (aI.j2 k a b (g.toList == ([105, 110, 102] : List UInt8)) (i.toList == ([110, 97, 110] : List UInt8)) e f))))) else (aI.j2 k a b c d e f)
def aI.j2 : Nat → ByteArray → Bool → Bool → Bool → ByteArray → Int → Option (Bool × Bool × Bool × ByteArray × Int × Bool)
 | 0, _, _, _, _, _, _ => none
 | k + 1, a, b, c, d, e, f => aI.l0 k a (-1) 0 b c d e f
def aI.l0 : Nat → ByteArray → Int → Int → Bool → Bool → Bool → ByteArray → Int → Option (Bool × Bool × Bool × ByteArray × Int × Bool)
 | 0, _, _, _, _, _, _, _, _ => none
 | k + 1, a, b, c, d, e, f, g, i => if c < (a.size : Int) then (if 0 ≤ c then ((gX.f (bt a c)).bind fun j => (if j = true then (if c ≤ (wrap64 (c + 1)) then (if (wrap64 (c + 1)) ≤ (a.size : Int) then (if g.size + (a.extract (c : Int).toNat ((wrap64 (c + 1)) : Int).toNat).size ≤ 9223372036854775807 then (if b ≥ 0 then (aI.l0 k a (wrap64 (b + 1)) (wrap64 (c + 1)) d e f (g ++ (a.extract (c : Int).toNat ((wrap64 (c + 1)) : Int).toNat)) i) else (aI.l0 k a b (wrap64 (c + 1)) d e f (g ++ (a.extract (c : Int).toNat ((wrap64 (c + 1)) : Int).toNat)) i)) else (none)) else (none)) else (none)) else (if (bt a c) = 46 then (aI.j4 k a b c (decide (b < 0)) d e f g i) else (aI.j4 k a b c false d e f g i)))) else (none)) else (some (d, e, f, g, wrap64 (-(mx 0 b)), (g.toList != ([] : List UInt8))))
def aI.j4 : Nat → ByteArray → Int → Int → Bool → Bool → Bool → Bool → ByteArray → Int → Option (Bool × Bool × Bool × ByteArray × Int × Bool)
 | 0, _, _, _, _, _, _, _, _, _ => none
 | k + 1, a, b, c, d, e, f, g, i, j => if d = true then (aI.l0 k a 0 (wrap64 (c + 1)) e f g i j) else (if 0 ≤ c then (if c < (a.size : Int) then (if (bt a c) = 101 then (if 0 ≤ (wrap64 (c + 1)) then (if (wrap64 (c + 1)) ≤ (a.size : Int) then ((aK.f k (a.extract ((wrap64 (c + 1)) : Int).toNat a.size)).bind fun m => (if m.2 = true then (some (e, f, g, i, wrap64 (m.1 - (mx 0 b)), (i.toList != ([] : List UInt8)))) else (some (e, f, g, i, wrap64 (m.1 - (mx 0 b)), false)))) else (none)) else (none)) else (if (bt a c) = 69 then (if 0 ≤ (wrap64 (c + 1)) then (if (wrap64 (c + 1)) ≤ (a.size : Int) then ((aK.f k (a.extract ((wrap64 (c + 1)) : Int).toNat a.size)).bind fun n => (if n.2 = true then (some (e, f, g, i, wrap64 (n.1 - (mx 0 b)), (i.toList != ([] : List UInt8)))) else (some (e, f, g, i, wrap64 (n.1 - (mx 0 b)), false)))) else (none)) else (none)) else (some (e, f, g, i, j, false)))) else (none)) else (none))
end
def aI.f (k : Nat) (a : ByteArray) : Option (Bool × Bool × Bool × ByteArray × Int × Bool) := if (a.size : Int) > 0 then (if 0 < (a.size : Int) then (if (bt a 0) = 45 then (aI.j0 k a true false false false (⟨#[]⟩ : ByteArray) 0) else (aI.j0 k a ((bt a 0) == 43) false false false (⟨#[]⟩ : ByteArray) 0)) else (none)) else (aI.j0 k a false false false false (⟨#[]⟩ : ByteArray) 0)
def dX.f (a : Int) (b : Int) (c : Int) (d : Int) : Option (Int) := (bW.f a).bind fun e => (if 0 ≤ (IntKind.u64.wrap (wrap64 (e.1 - 1))) then (if 0 ≤ (IntKind.u64.wrap (wrap64 (e.2.1 - 1))) then (some (Go.bits .or .u64 (Go.bits .or .u64 (shl .u64 b (IntKind.u64.wrap (wrap64 (e.1 - 1)))) (shl .u64 c (IntKind.u64.wrap (wrap64 (e.2.1 - 1))))) d)) else (none)) else (none))
def jW.f (a : Int) : Option (Int) := (bW.f a).bind fun b => (if 0 ≤ (IntKind.u64.wrap (wrap64 (b.2.1 - 2))) then ((dX.f a 0 (IntKind.u64.wrap (wrap64 ((wrap64 (2 * b.2.2.2.1)) + 1))) (shl .u64 1 (IntKind.u64.wrap (wrap64 (b.2.1 - 2))))).bind fun c => (some c)) else (none))
def jo.f (a : Int) (b : Int) : Option (Int) := (bW.f a).bind fun c => ((dX.f a b (IntKind.u64.wrap (wrap64 ((wrap64 (2 * c.2.2.2.1)) + 1))) 0).bind fun d => (some d))
def dN.l0 : Nat → List Int → List Int → Int → Option (List Int)
 | 0, _, _, _ => none
 | k + 1, a, b, c => if c < (a.length : Int) then (if 0 ≤ (wrap64 (Int.tdiv c 2)) then (if (wrap64 (Int.tdiv c 2)) < (b.length : Int) then (if 0 ≤ c then (if 0 ≤ (IntKind.u64.wrap (wrap64 (32 * (Int.tmod c 2)))) then (dN.l0 k a (b.set ((wrap64 (Int.tdiv c 2)) : Int).toNat (Go.bits .or .u64 (rd b (wrap64 (Int.tdiv c 2))) (shl .u64 (rd a c) (IntKind.u64.wrap (wrap64 (32 * (Int.tmod c 2))))))) (wrap64 (c + 1))) else (none)) else (none)) else (none)) else (none)) else ((dF.f b).bind fun d => (some d))
def dN.f (k : Nat) (a : List Int) : Option (List Int) := if 0 ≤ (wrap64 (Int.tdiv (wrap64 ((a.length : Int) + 1)) 2)) then (if (wrap64 (Int.tdiv (wrap64 ((a.length : Int) + 1)) 2) : Int).toNat ≤ 35184372088832 then (dN.l0 k a (List.replicate (wrap64 (Int.tdiv (wrap64 ((a.length : Int) + 1)) 2) : Int).toNat 0) 0) else (none)) else (none)
mutual
def aT.l0 : Nat → ByteArray → List Int → Int → Int → Int → Option (List Int × Int)
 | 0, _, _, _, _, _ => none
 | k + 1, a, b, c, d, e => if e < (a.size : Int) then (if 0 ≤ e then (if (bt a e) < 48 then (aT.j1 k a b c d e true) else (aT.j1 k a b c d e (decide ((bt a e) > 57)))) else (none)) else ((dN.f k b).bind fun f => (if (f.length : Int) > 1024 then (some (([] : List Int), 5)) else (some (f, 0))))
def aT.j1 : Nat → ByteArray → List Int → Int → Int → Int → Bool → Option (List Int × Int)
 | 0, _, _, _, _, _, _ => none
 | k + 1, a, b, c, d, e, f => if f = true then (some (([] : List Int), 8)) else (if 0 ≤ e then (if e < (a.size : Int) then (if (Int.tmod e 9) = 8 then (aT.j2 k a b (IntKind.u64.wrap ((IntKind.u64.wrap (10 * c)) + (((bt a e) - 48) % 256))) (IntKind.u64.wrap (10 * d)) e true) else (aT.j2 k a b (IntKind.u64.wrap ((IntKind.u64.wrap (10 * c)) + (((bt a e) - 48) % 256))) (IntKind.u64.wrap (10 * d)) e (e == (wrap64 ((a.size : Int) - 1))))) else (none)) else (none))
def aT.j2 : Nat → ByteArray → List Int → Int → Int → Int → Bool → Option (List Int × Int)
 | 0, _, _, _, _, _, _ => none
 | k + 1, a, b, c, d, e, f => if f = true then (aT.l1 k a b d e c 0) else (aT.l0 k a b c d (wrap64 (e + 1)))
def aT.l1 : Nat → ByteArray → List Int → Int → Int → Int → Int → Option (List Int × Int)
 | 0, _, _, _, _, _, _ => none
 | k + 1, a, b, c, d, e, f => if f < (b.length : Int) then (if 0 ≤ f then (aT.l1 k a (b.set (f : Int).toNat (Go.bits .and .u64 (IntKind.u64.wrap ((IntKind.u64.wrap ((rd b f) * c)) + e)) 4294967295)) c d ((IntKind.u64.wrap ((IntKind.u64.wrap ((rd b f) * c)) + e)) / 4294967296) (wrap64 (f + 1))) else (none)) else (if e > 0 then (if b.length < 17592186044416 then (aT.l0 k a (b ++ [e]) 0 1 (wrap64 (d + 1))) else (none)) else (aT.l0 k a b 0 1 (wrap64 (d + 1))))
end
def aT.f (k : Nat) (a : ByteArray) : Option (List Int × Int) := if (a.size : Int) > 20000 then (some (([] : List Int), 5)) else (if (a.size : Int) = 0 then (some (([] : List Int), 8)) else (if 0 ≤ (wrap64 ((wrap64 ((a.size : Int) / 9)) + 2)) then (if (wrap64 ((wrap64 ((a.size : Int) / 9)) + 2) : Int).toNat ≤ 35184372088832 then (aT.l0 k a (([] : List Int)) 0 1 0) else (none)) else (none)))
def jf.f (a : Int) (b : Int) : Option (Int) := (dX.f a b 0 0).bind fun c => (some c)
def aX.l0 : Nat → List Int → Int → Option (Int)
 | 0, _, _ => none
 | k + 1, a, b => if b > 0 then (if 0 ≤ (wrap64 (b - 1)) then (if (wrap64 (b - 1)) < (a.length : Int) then (if (rd a (wrap64 (b - 1))) = 0 then (aX.l0 k a (wrap64 (b - 1))) else (some b)) else (none)) else (none)) else (some b)
def aX.f (k : Nat) (a : List Int) : Option (Int) := aX.l0 k a (a.length : Int)
def dD.l0 : Nat → List Int → Int → List Int → Int → Option (List Int)
 | 0, _, _, _, _ => none
 | k + 1, a, b, c, d => if d < b then (if 0 ≤ d then (if d < (a.length : Int) then (if 0 ≤ (wrap64 (2 * d)) then (if (wrap64 (2 * d)) < (c.length : Int) then (if 0 ≤ (wrap64 ((wrap64 (2 * d)) + 1)) then (if (wrap64 ((wrap64 (2 * d)) + 1)) < (c.length : Int) then (dD.l0 k a b ((c.set ((wrap64 (2 * d)) : Int).toNat (Go.bits .and .u64 (rd a d) 4294967295)).set ((wrap64 ((wrap64 (2 * d)) + 1)) : Int).toNat ((rd a d) / 4294967296)) (wrap64 (d + 1))) else (none)) else (none)) else (none)) else (none)) else (none)) else (none)) else (some c)
def dD.f (k : Nat) (a : List Int) : Option (List Int) := (aX.f k a).bind fun b => (if 0 ≤ (wrap64 (2 * b)) then (if (wrap64 (2 * b) : Int).toNat ≤ 35184372088832 then (dD.l0 k a b (List.replicate (wrap64 (2 * b) : Int).toNat 0) 0) else (none)) else (none))
mutual
def aC.l0 : Nat → List Int → List Int → Int → Option (ByteArray × Int)
 | 0, _, _, _ => none
 | k + 1, a, b, c => if c > 0 then (aC.l1 k a b c 0 (wrap64 (c - 1))) else (if 0 ≤ (b.length : Int) then (if ((b.length : Int) : Int).toNat ≤ 281474976710656 then (aC.l4 k b (List.replicate ((b.length : Int) : Int).toNat 0) 0) else (none)) else (none))
def aC.l1 : Nat → List Int → List Int → Int → Int → Int → Option (ByteArray × Int)
 | 0, _, _, _, _, _ => none
 | k + 1, a, b, c, d, e => if e ≥ 0 then (if 0 ≤ e then (if e < (a.length : Int) then (aC.l1 k (a.set (e : Int).toNat (IntKind.u64.wrap (Int.tdiv (Go.bits .or .u64 (IntKind.u64.wrap (d * 4294967296)) (rd a e)) 1000000000))) b c (Int.tmod (Go.bits .or .u64 (IntKind.u64.wrap (d * 4294967296)) (rd a e)) 1000000000) (wrap64 (e - 1))) else (none)) else (none)) else (aC.l2 k a b c d)
def aC.j3 : Nat → List Int → List Int → Int → Int → Option (ByteArray × Int)
 | 0, _, _, _, _ => none
 | k + 1, a, b, c, d => aC.l3 k a b c d 0
def aC.l3 : Nat → List Int → List Int → Int → Int → Int → Option (ByteArray × Int)
 | 0, _, _, _, _, _ => none
 | k + 1, a, b, c, d, e => if e < 9 then (if c > 0 then (if b.length < 140737488355328 then (aC.l3 k a (b ++ [(IntKind.u64.wrap (48 + (Int.tmod d 10))) % 256]) c (IntKind.u64.wrap (Int.tdiv d 10)) (wrap64 (e + 1))) else (none)) else (if d > 0 then (if b.length < 140737488355328 then (aC.l3 k a (b ++ [(IntKind.u64.wrap (48 + (Int.tmod d 10))) % 256]) c (IntKind.u64.wrap (Int.tdiv d 10)) (wrap64 (e + 1))) else (none)) else (aC.l0 k a b c))) else (aC.l0 k a b c)
def aC.l2 : Nat → List Int → List Int → Int → Int → Option (ByteArray × Int)
 | 0, _, _, _, _ => none
 | k + 1, a, b, c, d => if c > 0 then (if 0 ≤ (wrap64 (c - 1)) then (if (wrap64 (c - 1)) < (a.length : Int) then (if (rd a (wrap64 (c - 1))) = 0 then (aC.l2 k a b (wrap64 (c - 1)) d) else (aC.j3 k a b c d)) else (none)) else (none)) else (aC.j3 k a b c d)
def aC.l4 : Nat → List Int → List Int → Int → Option (ByteArray × Int)
 | 0, _, _, _ => none
 | k + 1, a, b, c => if c < (a.length : Int) then (if 0 ≤ (wrap64 ((wrap64 ((a.length : Int) - 1)) - c)) then (if (wrap64 ((wrap64 ((a.length : Int) - 1)) - c)) < (a.length : Int) then (if 0 ≤ c then (if c < (b.length : Int) then (aC.l4 k a (b.set (c : Int).toNat (rd a (wrap64 ((wrap64 ((a.length : Int) - 1)) - c)))) (wrap64 (c + 1))) else (none)) else (none)) else (none)) else (none)) else (some (strOfNums b, 0))
end
def aC.f (k : Nat) (a : List Int) : Option (ByteArray × Int) := (aX.f k a).bind fun b => (if b > 1024 then (some ((⟨#[]⟩ : ByteArray), 5)) else ((aX.f k a).bind fun c => (if c = 0 then (some ((⟨#[48]⟩ : ByteArray), 0)) else ((dD.f k a).bind fun d => (aC.l0 k d ([] : List Int) (d.length : Int))))))
mutual
def bD.l0 : Nat → List Int → List Int → List Int → Int → Option (List Int)
 | 0, _, _, _, _ => none
 | k + 1, a, b, c, d => if d < (a.length : Int) then (bD.l1 k a b c d 0 0) else ((dN.f k c).bind fun e => (some e))
def bD.l1 : Nat → List Int → List Int → List Int → Int → Int → Int → Option (List Int)
 | 0, _, _, _, _, _, _ => none
 | k + 1, a, b, c, d, e, f => if f < (b.length : Int) then (if 0 ≤ d then (if d < (a.length : Int) then (if 0 ≤ f then (if 0 ≤ (wrap64 (d + f)) then (if (wrap64 (d + f)) < (c.length : Int) then (bD.l1 k a b (c.set ((wrap64 (d + f)) : Int).toNat (Go.bits .and .u64 (IntKind.u64.wrap ((IntKind.u64.wrap ((IntKind.u64.wrap ((rd a d) * (rd b f))) + (rd c (wrap64 (d + f))))) + e)) 4294967295)) d ((IntKind.u64.wrap ((IntKind.u64.wrap ((IntKind.u64.wrap ((rd a d) * (rd b f))) + (rd c (wrap64 (d + f))))) + e)) / 4294967296) (wrap64 (f + 1))) else (none)) else (none)) else (none)) else (none)) else (none)) else (if (b.length : Int) > 0 then (if 0 ≤ (wrap64 (d + (b.length : Int))) then (if (wrap64 (d + (b.length : Int))) < (c.length : Int) then (bD.l0 k a b (c.set ((wrap64 (d + (b.length : Int))) : Int).toNat e) (wrap64 (d + 1))) else (none)) else (none)) else (bD.l0 k a b c (wrap64 (d + 1))))
end
def bD.f (k : Nat) (a : List Int) (b : List Int) : Option (List Int) := (dD.f k a).bind fun c => ((dD.f k b).bind fun d => (if 0 ≤ (wrap64 ((c.length : Int) + (d.length : Int))) then (if (wrap64 ((c.length : Int) + (d.length : Int)) : Int).toNat ≤ 35184372088832 then (bD.l0 k c d (List.replicate (wrap64 ((c.length : Int) + (d.length : Int)) : Int).toNat 0) 0) else (none)) else (none)))
def dO.f (k : Nat) (a : List Int) (b : List Int) : Option (List Int) := (bD.f k a b).bind fun c => (some c)
mutual
def bf.j0 : Nat → Int → Int → Bool → Option (List Int × Int)
 | 0, _, _, _ => none
 | k + 1, a, b, c => if c = true then (some (([] : List Int), 7)) else (bf.l0 k a b (([1] : List Int)) 0)
def bf.l0 : Nat → Int → Int → List Int → Int → Option (List Int × Int)
 | 0, _, _, _, _ => none
 | k + 1, a, b, c, d => if d < b then (bf.j2 k a b c d (a != 1)) else (bf.j2 k a b c d false)
def bf.j2 : Nat → Int → Int → List Int → Int → Bool → Option (List Int × Int)
 | 0, _, _, _, _, _ => none
 | k + 1, a, b, c, d, e => if e = true then ((bD.f k c (([a] : List Int))).bind fun f => (if (f.length : Int) > 1024 then (some (([] : List Int), 5)) else (if (f.length : Int) = 0 then (some (f, 0)) else (bf.l0 k a b f (wrap64 (d + 1)))))) else (some (c, 0))
end
def bf.f (k : Nat) (a : Int) (b : Int) : Option (List Int × Int) := if b < 0 then (bf.j0 k a b true) else (bf.j0 k a b (decide (b > 20000)))
def gI.f (k : Nat) (a : Int) : Option (List Int) := (bf.f k 10 a).bind fun b => (some b.1)
def bU.l0 : Nat → Int → Int → Int → Option (Int)
 | 0, _, _, _ => none
 | k + 1, a, b, c => if c > 0 then (bU.l0 k a (wrap64 (b + 1)) (c / 2)) else (some (wrap64 ((wrap64 (64 * (wrap64 (a - 1)))) + b)))
def bU.f (k : Nat) (a : List Int) : Option (Int) := (aX.f k a).bind fun b => (if b = 0 then (some 0) else (if 0 ≤ (wrap64 (b - 1)) then (if (wrap64 (b - 1)) < (a.length : Int) then (bU.l0 k b 0 (rd a (wrap64 (b - 1)))) else (none)) else (none)))
def gV.f (a : Bool) : Option (Int) := if a = true then (some 1) else (some 0)
def fB.l0 : Nat → List Int → Int → Int → List Int → Int → Option (List Int)
 | 0, _, _, _, _, _ => none
 | k + 1, a, b, c, d, e => if e < c then (if 0 ≤ (wrap64 (e + (wrap64 (Int.tdiv b 64)))) then (if (wrap64 (e + (wrap64 (Int.tdiv b 64)))) < (d.length : Int) then (if 0 ≤ e then (if e < (a.length : Int) then (if 0 ≤ (IntKind.u64.wrap (Int.tmod b 64)) then ((some (d.set ((wrap64 (e + (wrap64 (Int.tdiv b 64)))) : Int).toNat (Go.bits .or .u64 (rd d (wrap64 (e + (wrap64 (Int.tdiv b 64))))) (shl .u64 (rd a e) (IntKind.u64.wrap (Int.tmod b 64)))) : List Int)).bind fun f => (if (Int.tmod b 64) > 0 then (if 0 ≤ (IntKind.u64.wrap (wrap64 (64 - (Int.tmod b 64)))) then (if 0 ≤ (wrap64 ((wrap64 (e + (wrap64 (Int.tdiv b 64)))) + 1)) then (if (wrap64 ((wrap64 (e + (wrap64 (Int.tdiv b 64)))) + 1)) < (d.length : Int) then (fB.l0 k a b c (f.set ((wrap64 ((wrap64 (e + (wrap64 (Int.tdiv b 64)))) + 1)) : Int).toNat (shr .u64 (rd a e) (IntKind.u64.wrap (wrap64 (64 - (Int.tmod b 64)))))) (wrap64 (e + 1))) else (none)) else (none)) else (none)) else (fB.l0 k a b c f (wrap64 (e + 1))))) else (none)) else (none)) else (none)) else (none)) else (none)) else ((dF.f d).bind fun g => (some g))
def fB.f (k : Nat) (a : List Int) (b : Int) : Option (List Int) := (aX.f k a).bind fun c => (if 0 ≤ (wrap64 ((wrap64 (c + (wrap64 (Int.tdiv b 64)))) + 1)) then (if (wrap64 ((wrap64 (c + (wrap64 (Int.tdiv b 64)))) + 1) : Int).toNat ≤ 35184372088832 then (fB.l0 k a b c (List.replicate (wrap64 ((wrap64 (c + (wrap64 (Int.tdiv b 64)))) + 1) : Int).toNat 0) 0) else (none)) else (none))
def gK.f (k : Nat) (a : List Int) (b : Int) : Option (List Int) := (fB.f k a b).bind fun c => (some c)
def jl.f (a : List Int) (b : Int) : Option (Int) := if b < (a.length : Int) then (if 0 ≤ b then (some (rd a b)) else (none)) else (some 0)
mutual
def aV.j0 : Nat → List Int → List Int → Int → Option (List Int)
 | 0, _, _, _ => none
 | k + 1, a, b, c => if 0 ≤ (wrap64 (c + 1)) then (if (wrap64 (c + 1) : Int).toNat ≤ 35184372088832 then (aV.l0 k a b c (List.replicate (wrap64 (c + 1) : Int).toNat 0) 0 0) else (none)) else (none)
def aV.l0 : Nat → List Int → List Int → Int → List Int → Int → Int → Option (List Int)
 | 0, _, _, _, _, _, _ => none
 | k + 1, a, b, c, d, e, f => if f < c then ((jl.f a f).bind fun g => ((jl.f b f).bind fun i => (if (IntKind.u64.wrap (g + i)) < g then (if 0 ≤ f then (if f < (d.length : Int) then (aV.l0 k a b c (d.set (f : Int).toNat (IntKind.u64.wrap ((IntKind.u64.wrap (g + i)) + e))) 1 (wrap64 (f + 1))) else (none)) else (none)) else (if (IntKind.u64.wrap ((IntKind.u64.wrap (g + i)) + e)) < (IntKind.u64.wrap (g + i)) then (if 0 ≤ f then (if f < (d.length : Int) then (aV.l0 k a b c (d.set (f : Int).toNat (IntKind.u64.wrap ((IntKind.u64.wrap (g + i)) + e))) 1 (wrap64 (f + 1))) else (none)) else (none)) else (if 0 ≤ f then (if f < (d.length : Int) then (aV.l0 k a b c (d.set (f : Int).toNat (IntKind.u64.wrap ((IntKind.u64.wrap (g + i)) + e))) 0 (wrap64 (f + 1))) else (none)) else (none)))))) else (if 0 ≤ c then (if c < (d.length : Int) then ((dF.f (d.set (c : Int).toNat e)).bind fun j => (some j)) else (none)) else (none))
end
def aV.f (k : Nat) (a : List Int) (b : List Int) : Option (List Int) := (aX.f k a).bind fun c => ((aX.f k b).bind fun d => (if d > c then ((aX.f k b).bind fun e => (aV.j0 k a b e)) else (aV.j0 k a b c)))
def dA.l0 : Nat → List Int → List Int → Int → Option (Int)
 | 0, _, _, _ => none
 | k + 1, a, b, c => if c ≥ 0 then (if 0 ≤ c then (if c < (a.length : Int) then (if c < (b.length : Int) then (if (rd a c) < (rd b c) then (some (-1)) else (if (rd a c) > (rd b c) then (some 1) else (dA.l0 k a b (wrap64 (c - 1))))) else (none)) else (none)) else (none)) else (some 0)
def dA.f (k : Nat) (a : List Int) (b : List Int) : Option (Int) := (aX.f k a).bind fun c => ((aX.f k b).bind fun d => (if c = d then (dA.l0 k a b (wrap64 (d - 1))) else (if c < d then (some (-1)) else (some 1))))
def jq.f (a : List Int) (b : Int) : Option (Int) := if b < 0 then (some 0) else (if (wrap64 (Int.tdiv b 64)) ≥ (a.length : Int) then (some 0) else (if 0 ≤ (wrap64 (Int.tdiv b 64)) then (if (wrap64 (Int.tdiv b 64)) < (a.length : Int) then (if 0 ≤ (IntKind.u64.wrap (Int.tmod b 64)) then (some (Go.bits .and .u64 (shr .u64 (rd a (wrap64 (Int.tdiv b 64))) (IntKind.u64.wrap (Int.tmod b 64))) 1)) else (none)) else (none)) else (none)))
def dY.l0 : Nat → List Int → Int → Int → List Int → Int → Option (List Int)
 | 0, _, _, _, _, _ => none
 | k + 1, a, b, c, d, e => if e < (d.length : Int) then (if 0 ≤ (wrap64 (e + (wrap64 (Int.tdiv b 64)))) then (if (wrap64 (e + (wrap64 (Int.tdiv b 64)))) < (a.length : Int) then (if 0 ≤ (IntKind.u64.wrap (Int.tmod b 64)) then (if 0 ≤ e then ((some (d.set (e : Int).toNat (shr .u64 (rd a (wrap64 (e + (wrap64 (Int.tdiv b 64))))) (IntKind.u64.wrap (Int.tmod b 64))) : List Int)).bind fun f => (if (Int.tmod b 64) > 0 then (if (wrap64 ((wrap64 (e + (wrap64 (Int.tdiv b 64)))) + 1)) < c then (if 0 ≤ (wrap64 ((wrap64 (e + (wrap64 (Int.tdiv b 64)))) + 1)) then (if (wrap64 ((wrap64 (e + (wrap64 (Int.tdiv b 64)))) + 1)) < (a.length : Int) then (if 0 ≤ (IntKind.u64.wrap (wrap64 (64 - (Int.tmod b 64)))) then (dY.l0 k a b c (f.set (e : Int).toNat (Go.bits .or .u64 (rd f e) (shl .u64 (rd a (wrap64 ((wrap64 (e + (wrap64 (Int.tdiv b 64)))) + 1))) (IntKind.u64.wrap (wrap64 (64 - (Int.tmod b 64))))))) (wrap64 (e + 1))) else (none)) else (none)) else (none)) else (dY.l0 k a b c f (wrap64 (e + 1)))) else (dY.l0 k a b c f (wrap64 (e + 1))))) else (none)) else (none)) else (none)) else (none)) else ((dF.f d).bind fun g => (some g))
def dY.f (k : Nat) (a : List Int) (b : Int) : Option (List Int) := (bU.f k a).bind fun c => (if b ≥ c then (some ([] : List Int)) else ((aX.f k a).bind fun d => (if 0 ≤ (wrap64 (d - (wrap64 (Int.tdiv b 64)))) then (if (wrap64 (d - (wrap64 (Int.tdiv b 64))) : Int).toNat ≤ 35184372088832 then (dY.l0 k a b d (List.replicate (wrap64 (d - (wrap64 (Int.tdiv b 64))) : Int).toNat 0) 0) else (none)) else (none))))
def dP.l0 : Nat → List Int → List Int → Int → List Int → Int → Int → Option (List Int)
 | 0, _, _, _, _, _, _ => none
 | k + 1, a, b, c, d, e, f => if f < c then (if 0 ≤ f then (if f < (a.length : Int) then ((jl.f b f).bind fun g => (if f < (d.length : Int) then ((some (d.set (f : Int).toNat (IntKind.u64.wrap ((IntKind.u64.wrap ((rd a f) - g)) - e)) : List Int)).bind fun i => (if (rd a f) < g then (dP.l0 k a b c i 1 (wrap64 (f + 1))) else (if (rd a f) = g then (if e = 1 then (dP.l0 k a b c i 1 (wrap64 (f + 1))) else (dP.l0 k a b c i 0 (wrap64 (f + 1)))) else (dP.l0 k a b c i 0 (wrap64 (f + 1)))))) else (none))) else (none)) else (none)) else ((dF.f d).bind fun j => (some j))
def dP.f (k : Nat) (a : List Int) (b : List Int) : Option (List Int) := (aX.f k a).bind fun c => (if 0 ≤ c then (if (c : Int).toNat ≤ 35184372088832 then (dP.l0 k a b c (List.replicate (c : Int).toNat 0) 0 0) else (none)) else (none))
mutual
def bI.l0 : Nat → List Int → List Int → List Int → List Int → Int → Option (List Int × List Int)
 | 0, _, _, _, _, _ => none
 | k + 1, a, b, c, d, e => if e ≥ 0 then ((fB.f k d 1).bind fun f => ((jq.f a e).bind fun g => (if g = 1 then ((aV.f k f (([1] : List Int))).bind fun i => (bI.j1 k a b c i e)) else (bI.j1 k a b c f e)))) else ((dF.f c).bind fun j => (some (j, d)))
def bI.j1 : Nat → List Int → List Int → List Int → List Int → Int → Option (List Int × List Int)
 | 0, _, _, _, _, _ => none
 | k + 1, a, b, c, d, e => (dA.f k d b).bind fun f => (if f ≥ 0 then ((dP.f k d b).bind fun g => (if 0 ≤ (wrap64 (Int.tdiv e 64)) then (if (wrap64 (Int.tdiv e 64)) < (c.length : Int) then (if 0 ≤ (IntKind.u64.wrap (Int.tmod e 64)) then (bI.l0 k a b (c.set ((wrap64 (Int.tdiv e 64)) : Int).toNat (Go.bits .or .u64 (rd c (wrap64 (Int.tdiv e 64))) (shl .u64 1 (IntKind.u64.wrap (Int.tmod e 64))))) g (wrap64 (e - 1))) else (none)) else (none)) else (none))) else (bI.l0 k a b c d (wrap64 (e - 1))))
end
def bI.f (k : Nat) (a : List Int) (b : List Int) : Option (List Int × List Int) := (bU.f k a).bind fun c => ((bU.f k b).bind fun d => (if c < d then ((dF.f a).bind fun e => (some (([] : List Int), e))) else ((aX.f k a).bind fun f => (if 0 ≤ f then (if (f : Int).toNat ≤ 35184372088832 then ((dY.f k a (wrap64 ((wrap64 (c - d)) + 1))).bind fun g => (bI.l0 k a b (List.replicate (f : Int).toNat 0) g (wrap64 (c - d)))) else (none)) else (none)))))
def fV.f (k : Nat) (a : List Int) (b : List Int) : Option (List Int × List Int) := (bI.f k a b).bind fun c => (some (c.1, c.2))
def g_.f (k : Nat) (a : Bool) (b : List Int) (c : List Int) (d : Int) (e : Int) : Option (List Int × Int) := if d ≥ e then ((gK.f k b (wrap64 (d - e))).bind fun f => ((fV.f k f c).bind fun g => (if (g.2.length : Int) = 0 then (some (g.1, 0)) else ((gK.f k g.2 1).bind fun i => ((dA.f k i c).bind fun j => (some (g.1, wrap64 (2 + j)))))))) else ((gK.f k c (wrap64 (e - d))).bind fun m => ((fV.f k b m).bind fun n => (if (n.2.length : Int) = 0 then (some (n.1, 0)) else ((gK.f k n.2 1).bind fun o => ((dA.f k o m).bind fun p => (some (n.1, wrap64 (2 + p))))))))
def jX.f (k : Nat) (a : Bool) (b : List Int) (c : List Int) (d : Int) : Option (Int) := (bU.f k b).bind fun e => ((bU.f k c).bind fun f => ((g_.f k a b c d (wrap64 ((wrap64 (e - f)) + d))).bind fun g => (if (g.1.length : Int) = 0 then (some (wrap64 ((wrap64 ((wrap64 (e - f)) + d)) - 1))) else (some (wrap64 ((wrap64 (e - f)) + d))))))
def iZ.f (k : Nat) (a : Int) (b : Bool) (c : List Int) (d : Int) : Option (List Int) := (jq.f c 0).bind fun e => (if a = 0 then (if d = 3 then (if d > 0 then ((aV.f k c (([1] : List Int))).bind fun f => (some f)) else (some c)) else (if d = 2 then (if d > 0 then (if e = 1 then ((aV.f k c (([1] : List Int))).bind fun g => (some g)) else (some c)) else (some c)) else (if d > 0 then (some c) else (some c)))) else (if a = 1 then (if d > 0 then (if d ≥ 2 then ((aV.f k c (([1] : List Int))).bind fun i => (some i)) else (some c)) else (some c)) else (if a = 3 then (if d > 0 then (if b = true then (some c) else ((aV.f k c (([1] : List Int))).bind fun j => (some j))) else (some c)) else (if a = 4 then (if d > 0 then (if b = true then ((aV.f k c (([1] : List Int))).bind fun m => (some m)) else (some c)) else (some c)) else (if a = 5 then (if d > 0 then (if e = 1 then (some c) else ((aV.f k c (([1] : List Int))).bind fun n => (some n))) else (some c)) else (if d > 0 then (some c) else (some c)))))))
def jc.f (a : Int) (b : Int) : Option (Int) := (bW.f a).bind fun c => (if 0 ≤ (IntKind.u64.wrap (wrap64 (c.2.1 - 1))) then ((dX.f a b (IntKind.u64.wrap (wrap64 (2 * c.2.2.2.1))) (IntKind.u64.wrap ((shl .u64 1 (IntKind.u64.wrap (wrap64 (c.2.1 - 1)))) - 1))).bind fun d => (some d)) else (none))
def b_.j0 : Nat → Int → Bool → Bool → Option (Int)
 | 0, _, _, _ => none
 | k + 1, a, b, c => if c = true then ((gV.f b).bind fun d => ((jo.f a d).bind fun e => (some e))) else ((gV.f b).bind fun f => ((jc.f a f).bind fun g => (some g)))
def b_.f (k : Nat) (a : Int) (b : Int) (c : Bool) : Option (Int) := if b = 0 then (b_.j0 k a c true) else (if b = 1 then (b_.j0 k a c true) else (if b = 3 then (if c = true then (if b = 4 then (b_.j0 k a c c) else (b_.j0 k a c false)) else (b_.j0 k a c true)) else (if b = 4 then (b_.j0 k a c c) else (b_.j0 k a c false))))
mutual
def bM.j0 : Nat → Int → Int → Int → Int → Int → Bool → List Int → List Int → Int → Int → Int → Int → Int → Option (Int × Int)
 | 0, _, _, _, _, _, _, _, _, _, _, _, _, _ => none
 | k + 1, a, b, c, d, e, f, g, i, j, m, n, o, p => (g_.f k f g i j e).bind fun q => ((iZ.f k b f q.1 q.2).bind fun t => ((bU.f k t).bind fun u => (if (wrap64 (u + e)) > (wrap64 (p + 1)) then ((b_.f k a b f).bind fun v => (some (v, 20))) else (if q.2 > 0 then ((g_.f k f g i j (wrap64 ((wrap64 (c - n)) + 1))).bind fun w => ((iZ.f k b f w.1 w.2).bind fun x => ((bU.f k x).bind fun y => (if (wrap64 ((wrap64 ((wrap64 (y + c)) - n)) + 1)) ≤ o then (bM.j1 k a d e t 24 f g i j m n o p) else (bM.j1 k a d e t 16 f g i j m n o p))))) else (bM.j1 k a d e t 0 f g i j m n o p)))))
def bM.j1 : Nat → Int → Int → Int → List Int → Int → Bool → List Int → List Int → Int → Int → Int → Int → Int → Option (Int × Int)
 | 0, _, _, _, _, _, _, _, _, _, _, _, _, _ => none
 | k + 1, a, b, c, d, e, f, g, i, j, m, n, o, p => if (d.length : Int) > 0 then (if 0 < (d.length : Int) then ((gV.f f).bind fun q => ((dX.f a q 0 0).bind fun t => (if 0 ≤ (IntKind.u64.wrap (wrap64 (n - 1))) then (some (Go.bits .or .u64 t (IntKind.u64.wrap ((shl .u64 (IntKind.u64.wrap (wrap64 (c - b))) (IntKind.u64.wrap (wrap64 (n - 1)))) + (rd d 0))), e)) else (none)))) else (none)) else ((gV.f f).bind fun u => ((dX.f a u 0 0).bind fun v => (if 0 ≤ (IntKind.u64.wrap (wrap64 (n - 1))) then (some (Go.bits .or .u64 v (IntKind.u64.wrap ((shl .u64 (IntKind.u64.wrap (wrap64 (c - b))) (IntKind.u64.wrap (wrap64 (n - 1)))) + 0)), e)) else (none))))
end
def bM.f (k : Nat) (a : Int) (b : Int) (c : Bool) (d : List Int) (e : List Int) (f : Int) : Option (Int × Int) := (dF.f d).bind fun g => (if (g.length : Int) = 0 then ((gV.f c).bind fun i => ((jf.f a i).bind fun j => (some (j, 0)))) else ((bW.f a).bind fun m => ((jX.f k c d e f).bind fun n => (if (wrap64 ((wrap64 (n - m.2.1)) + 1)) < (wrap64 ((wrap64 (m.2.2.1 - m.2.1)) + 1)) then (bM.j0 k a b n (wrap64 ((wrap64 (m.2.2.1 - m.2.1)) + 1)) (wrap64 ((wrap64 (m.2.2.1 - m.2.1)) + 1)) c d e f m.1 m.2.1 m.2.2.1 m.2.2.2.1) else (bM.j0 k a b n (wrap64 ((wrap64 (m.2.2.1 - m.2.1)) + 1)) (wrap64 ((wrap64 (n - m.2.1)) + 1)) c d e f m.1 m.2.1 m.2.2.1 m.2.2.2.1)))))
def eG.j0 : Nat → Int → Int → Bool → Int → Bool → Bool → Bool → ByteArray → Int → Option (Int × Int × Int)
 | 0, _, _, _, _, _, _, _, _, _ => none
 | k + 1, a, b, c, d, e, f, g, i, j => if c = true then (if g = true then ((jW.f a).bind fun m => (some (m, 0, 0))) else (if f = true then ((jo.f a d).bind fun n => (some (n, 0, 0))) else ((aT.f k i).bind fun o => (if (o.1.length : Int) = 0 then ((jf.f a d).bind fun p => (some (p, 0, 0))) else ((aC.f k o.1).bind fun q => (if (wrap64 ((mx (-500) (mn (wrap64 ((wrap64 ((q.1.size : Int) - 1)) + j)) 500)) - (wrap64 ((q.1.size : Int) - 1)))) ≥ 0 then ((gI.f k (wrap64 ((mx (-500) (mn (wrap64 ((wrap64 ((q.1.size : Int) - 1)) + j)) 500)) - (wrap64 ((q.1.size : Int) - 1))))).bind fun t => ((dO.f k o.1 t).bind fun u => ((bM.f k a b e u (([1] : List Int)) 0).bind fun v => (some (v.1, v.2, 0))))) else ((gI.f k (wrap64 (-(wrap64 ((mx (-500) (mn (wrap64 ((wrap64 ((q.1.size : Int) - 1)) + j)) 500)) - (wrap64 ((q.1.size : Int) - 1))))))).bind fun w => ((bM.f k a b e o.1 w 0).bind fun x => (some (x.1, x.2, 0)))))))))) else (some (0, 0, 8))
def eG.f (k : Nat) (a : Int) (b : Int) (c : ByteArray) : Option (Int × Int × Int) := (bK.f k a b ([] : List Int)).bind fun d => (if d = 0 then (if (c.size : Int) > 2000 then (some (0, 0, 5)) else ((aI.f k c).bind fun e => (if e.1 = true then (eG.j0 k a b e.2.2.2.2.2 1 e.1 e.2.1 e.2.2.1 e.2.2.2.1 e.2.2.2.2.1) else (eG.j0 k a b e.2.2.2.2.2 0 e.1 e.2.1 e.2.2.1 e.2.2.2.1 e.2.2.2.2.1)))) else (some (0, 0, d)))
def aZ.f (a : Int) (b : Int) : Option (Int) := (bg.f a).bind fun c => (if c.2.2.2.2 = 0 then (if c.1 < 64 then (if 0 ≤ c.1 then (if (shr .u64 b c.1) = 0 then (some 0) else (some 4)) else (none)) else (some 0)) else (some c.2.2.2.2))
mutual
def aU.j0 : Nat → Int → Bool → Int → Int → ByteArray → Int → Int → Int → Int → Option (Bool × Int × Int × Int × ByteArray)
 | 0, _, _, _, _, _, _, _, _, _ => none
 | k + 1, a, b, c, d, e, f, g, i, j => if a = 1 then (aU.j1 k b c d e a (a == 1) f g i j) else (aU.j1 k b c d e a (a == 0) f g i j)
def aU.j1 : Nat → Bool → Int → Int → ByteArray → Int → Bool → Int → Int → Int → Int → Option (Bool × Int × Int × Int × ByteArray)
 | 0, _, _, _, _, _, _, _, _, _, _ => none
 | k + 1, a, b, c, d, e, f, g, i, j, m => if f = true then (some (false, 0, 0, 0, (⟨#[110, 97, 110]⟩ : ByteArray))) else (if e = 2 then (aU.j2 k a b c d e (e == 2) g i j m) else (aU.j2 k a b c d e (e == 9) g i j m))
def aU.j2 : Nat → Bool → Int → Int → ByteArray → Int → Bool → Int → Int → Int → Int → Option (Bool × Int × Int × Int × ByteArray)
 | 0, _, _, _, _, _, _, _, _, _, _ => none
 | k + 1, a, b, c, d, e, f, g, i, j, m => if f = true then (if d.size + 3 ≤ 9223372036854775807 then (some (false, 0, 0, 0, d ++ (⟨#[105, 110, 102]⟩ : ByteArray))) else (none)) else (if e = 5 then (if d.size + 1 ≤ 9223372036854775807 then (some (false, 0, 0, 0, d ++ (⟨#[48]⟩ : ByteArray))) else (none)) else (if e = 6 then (if d.size + 1 ≤ 9223372036854775807 then (some (false, 0, 0, 0, d ++ (⟨#[48]⟩ : ByteArray))) else (none)) else (if b > 0 then (if 0 ≤ (wrap64 (i - 1)) then (if c = 0 then (if b > 1 then (some (a, Go.bits .or .u64 c (shl .u64 1 (wrap64 (i - 1))), wrap64 ((wrap64 ((wrap64 (j - i)) + 1)) + (wrap64 ((wrap64 (b)) - 1))), 1, (⟨#[]⟩ : ByteArray))) else (some (a, Go.bits .or .u64 c (shl .u64 1 (wrap64 (i - 1))), wrap64 ((wrap64 ((wrap64 (j - i)) + 1)) + (wrap64 ((wrap64 (b)) - 1))), 2, (⟨#[]⟩ : ByteArray)))) else (some (a, Go.bits .or .u64 c (shl .u64 1 (wrap64 (i - 1))), wrap64 ((wrap64 ((wrap64 (j - i)) + 1)) + (wrap64 ((wrap64 (b)) - 1))), 2, (⟨#[]⟩ : ByteArray)))) else (none)) else (some (a, c, wrap64 ((wrap64 (j - i)) + 1), 2, (⟨#[]⟩ : ByteArray))))))
end
def aU.f (k : Nat) (a : Int) (b : Int) : Option (Bool × Int × Int × Int × ByteArray) := (bg.f a).bind fun c => ((jm.f a b).bind fun d => ((iV.f a b).bind fun e => (if e.1 = true then (aU.j0 k d.1 e.1 e.2.1 e.2.2.1 (⟨#[45]⟩ : ByteArray) c.1 c.2.1 c.2.2.1 c.2.2.2.1) else (aU.j0 k d.1 e.1 e.2.1 e.2.2.1 (⟨#[]⟩ : ByteArray) c.1 c.2.1 c.2.2.1 c.2.2.2.1))))
def bQ.f (a : Bool) (b : Int) (c : Int) (d : Int) : Option (ByteArray) := if a = true then (some (⟨#[45]⟩ : ByteArray)) else (some (⟨#[]⟩ : ByteArray))
def iF.f (a : ByteArray) (b : Int) : Option (ByteArray) := if b < 0 then ((strings_Repeat.f (⟨#[48]⟩ : ByteArray) (wrap64 ((wrap64 (-b)) - 1))).bind fun c => (if 2 + c.size ≤ 9223372036854775807 then (if ((⟨#[48, 46]⟩ : ByteArray) ++ c).size + a.size ≤ 9223372036854775807 then (some (((⟨#[48, 46]⟩ : ByteArray) ++ c) ++ a)) else (none)) else (none))) else (if b ≥ (wrap64 ((a.size : Int) - 1)) then ((strings_Repeat.f (⟨#[48]⟩ : ByteArray) (wrap64 ((wrap64 (b - (a.size : Int))) + 1))).bind fun d => (if a.size + d.size ≤ 9223372036854775807 then (some (a ++ d)) else (none))) else (if 0 ≤ (wrap64 (b + 1)) then (if (wrap64 (b + 1)) ≤ (a.size : Int) then (if (a.extract 0 ((wrap64 (b + 1)) : Int).toNat).size + 1 ≤ 9223372036854775807 then (if ((a.extract 0 ((wrap64 (b + 1)) : Int).toNat) ++ (⟨#[46]⟩ : ByteArray)).size + (a.extract ((wrap64 (b + 1)) : Int).toNat a.size).size ≤ 9223372036854775807 then (some (((a.extract 0 ((wrap64 (b + 1)) : Int).toNat) ++ (⟨#[46]⟩ : ByteArray)) ++ (a.extract ((wrap64 (b + 1)) : Int).toNat a.size))) else (none)) else (none)) else (none)) else (none)))
def iW.f (a : ByteArray) (b : Int) : Option (ByteArray) := if 0 ≤ 1 then (if 1 ≤ (a.size : Int) then (if (a.size : Int) > 1 then (if 1 + (a.extract 1 a.size).size ≤ 9223372036854775807 then (if (a.extract 0 1).size + ((⟨#[46]⟩ : ByteArray) ++ (a.extract 1 a.size)).size ≤ 9223372036854775807 then (if ((a.extract 0 1) ++ ((⟨#[46]⟩ : ByteArray) ++ (a.extract 1 a.size))).size + 1 ≤ 9223372036854775807 then ((strconv_Itoa.f b).bind fun c => (if (((a.extract 0 1) ++ ((⟨#[46]⟩ : ByteArray) ++ (a.extract 1 a.size))) ++ (⟨#[101]⟩ : ByteArray)).size + c.size ≤ 9223372036854775807 then (some ((((a.extract 0 1) ++ ((⟨#[46]⟩ : ByteArray) ++ (a.extract 1 a.size))) ++ (⟨#[101]⟩ : ByteArray)) ++ c)) else (none))) else (none)) else (none)) else (none)) else (if (a.extract 0 1).size + 1 ≤ 9223372036854775807 then ((strconv_Itoa.f b).bind fun d => (if ((a.extract 0 1) ++ (⟨#[101]⟩ : ByteArray)).size + d.size ≤ 9223372036854775807 then (some (((a.extract 0 1) ++ (⟨#[101]⟩ : ByteArray)) ++ d)) else (none))) else (none))) else (none)) else (none)
def bn.j0 : Nat → ByteArray → Int → Bool → Bool → Int → Int → Int → Option (ByteArray × Int)
 | 0, _, _, _, _, _, _, _ => none
 | k + 1, a, b, c, d, e, f, g => if c = true then ((bQ.f d e f g).bind fun i => ((iF.f a b).bind fun j => (if i.size + j.size ≤ 9223372036854775807 then (some (i ++ j, 0)) else (none)))) else ((bQ.f d e f g).bind fun m => ((iW.f a b).bind fun n => (if m.size + n.size ≤ 9223372036854775807 then (some (m ++ n, 0)) else (none))))
def bn.f (k : Nat) (a : Int) (b : Int) : Option (ByteArray × Int) := (aZ.f a b).bind fun c => (if c = 0 then ((aU.f k a b).bind fun d => (if d.2.2.2.2.toList = ([] : List UInt8) then ((fJ.f d.1 d.2.1 d.2.2.1 d.2.2.2.1).bind fun e => (if e.2 ≥ (-5) then (bn.j0 k e.1 e.2 (decide (e.2 ≤ 15)) d.1 d.2.1 d.2.2.1 d.2.2.2.1) else (bn.j0 k e.1 e.2 false d.1 d.2.1 d.2.2.1 d.2.2.2.1))) else (some (d.2.2.2.2, 0)))) else (some ((⟨#[]⟩ : ByteArray), c)))
def bG.f (k : Nat)  : Option (Bool) := (bV.f k 3 0 (⟨#[48, 46, 49]⟩ : ByteArray)).bind fun a => ((bn.f k 0 13653).bind fun b => (if a.1 = 4591870180066957722 then (if a.2.1 = 16 then (if a.2.2 = 0 then (if b.1.toList = ([48, 46, 51, 51, 51, 51] : List UInt8) then (some (b.2 == 0)) else (some false)) else (some false)) else (some false)) else (some false)))
def jI.f (k : Nat) (a : Int) (b : Int) (c : ByteArray) : Option (Bool) := (bV.f k a b c).bind fun d => ((eG.f k a b c).bind fun e => ((bG.f k).bind fun f => (if f = true then (if d.1 = e.1 then (if d.2.1 = e.2.1 then (some (d.2.2 == e.2.2)) else (some false)) else (some false)) else (some false))))
def aH.l0 : Nat → Int → ByteArray → Option (ByteArray)
 | 0, _, _ => none
 | k + 1, a, b => if a > 9 then ((some (([(IntKind.u64.wrap (48 + (Int.tmod a 10))) % 256] : List Int) : List Int)).bind fun c => (if (strOfNums c).size + b.size ≤ 9223372036854775807 then (aH.l0 k (IntKind.u64.wrap (Int.tdiv a 10)) ((strOfNums c) ++ b)) else (none))) else ((some (([(IntKind.u64.wrap (48 + a)) % 256] : List Int) : List Int)).bind fun d => (if (strOfNums d).size + b.size ≤ 9223372036854775807 then (some ((strOfNums d) ++ b)) else (none)))
def aH.f (k : Nat) (a : Int) : Option (ByteArray) := aH.l0 k a (⟨#[]⟩ : ByteArray)
def aW.f (k : Nat) (a : Int) : Option (ByteArray) := if a < 0 then ((aH.f k (IntKind.u64.wrap (wrap64 (-a)))).bind fun b => (if 1 + b.size ≤ 9223372036854775807 then (some ((⟨#[45]⟩ : ByteArray) ++ b)) else (none))) else ((aH.f k (IntKind.u64.wrap (a))).bind fun c => (some c))
def dU.j0 : Nat → Int → Int → ByteArray → Int → Int → Int → Int → Bool → Option (Bool)
 | 0, _, _, _, _, _, _, _, _ => none
 | k + 1, a, b, c, d, e, f, g, i => if i = true then (if e = g then (if d = 0 then (some (f == 0)) else (some false)) else (some false)) else ((aH.f k b).bind fun j => (if j.size + c.size ≤ 9223372036854775807 then ((bV.f k a 4 (j ++ c)).bind fun m => ((aH.f k b).bind fun n => (if n.size + c.size ≤ 9223372036854775807 then ((bV.f k a 3 (n ++ c)).bind fun o => (if m.2.2 = 0 then (if o.2.2 = 0 then (if d > f then (some false) else (if m.1 > d then (some false) else (if d > o.1 then (some false) else (if ((m.1 == o.1) != ((Go.bits .and .i64 m.2.1 16) == 0)) = true then (some false) else (if ((m.1 == o.1) != ((Go.bits .and .i64 o.2.1 16) == 0)) = true then (some false) else (if m.1 = o.1 then (some true) else (some (o.1 == (IntKind.u64.wrap (m.1 + 1)))))))))) else (some false)) else (some false))) else (none)))) else (none)))
def dU.f (k : Nat) (a : Int) (b : Int) (c : Int) (d : Int) (e : Int) (f : Int) (g : Int) : Option (Bool) := (bG.f k).bind fun i => (if i = true then ((aW.f k (wrap64 (d))).bind fun j => (if 1 + j.size ≤ 9223372036854775807 then ((aH.f k (mn c g)).bind fun m => (if m.size + ((⟨#[101]⟩ : ByteArray) ++ j).size ≤ 9223372036854775807 then ((bV.f k a b (m ++ ((⟨#[101]⟩ : ByteArray) ++ j))).bind fun n => ((aH.f k (mx c g)).bind fun o => (if o.size + ((⟨#[101]⟩ : ByteArray) ++ j).size ≤ 9223372036854775807 then ((bV.f k a b (o ++ ((⟨#[101]⟩ : ByteArray) ++ j))).bind fun p => (if n.2.2 = 0 then (dU.j0 k a (mn c g) ((⟨#[101]⟩ : ByteArray) ++ j) n.1 n.2.2 p.1 p.2.2 (p.2.2 != 0)) else (dU.j0 k a (mn c g) ((⟨#[101]⟩ : ByteArray) ++ j) n.1 n.2.2 p.1 p.2.2 true))) else (none)))) else (none))) else (none))) else (some false))
def fO.f (a : Int) (b : Int) : Option (Int × Int) := (aZ.f a b).bind fun c => (if c = 0 then ((jg.f a).bind fun d => (some (Go.bits .xor .u64 b d, 0))) else (some (0, c)))
mutual
def ak.l0 : Nat → Int → Int → ByteArray → Int → Int → Int → Int → ByteArray → Int → Int → Int → Int → Int → Int → Int → Int → Option (Bool)
 | 0, _, _, _, _, _, _, _, _, _, _, _, _, _, _, _, _ => none
 | k + 1, a, b, c, d, e, f, g, i, j, m, n, o, p, q, t, u => if m < j then (if i.size + 1 ≤ 9223372036854775807 then (ak.l0 k a b c d e f g (i ++ (⟨#[48]⟩ : ByteArray)) j ((m + 1) % 256) n o p q t u) else (none)) else (if (wrap64 ((c.size : Int) + 1)) = 0 then (none) else (if 1 + i.size ≤ 9223372036854775807 then (if 0 ≤ (Int.tmod (wrap64 (u)) (wrap64 ((c.size : Int) + 1))) then (if (Int.tmod (wrap64 (u)) (wrap64 ((c.size : Int) + 1))) ≤ (c.size : Int) then (if ((⟨#[43]⟩ : ByteArray) ++ i).size + (c.extract 0 ((Int.tmod (wrap64 (u)) (wrap64 ((c.size : Int) + 1))) : Int).toNat).size ≤ 9223372036854775807 then (if (((⟨#[43]⟩ : ByteArray) ++ i) ++ (c.extract 0 ((Int.tmod (wrap64 (u)) (wrap64 ((c.size : Int) + 1))) : Int).toNat)).size + 1 ≤ 9223372036854775807 then (if ((((⟨#[43]⟩ : ByteArray) ++ i) ++ (c.extract 0 ((Int.tmod (wrap64 (u)) (wrap64 ((c.size : Int) + 1))) : Int).toNat)) ++ (⟨#[46]⟩ : ByteArray)).size + (c.extract ((Int.tmod (wrap64 (u)) (wrap64 ((c.size : Int) + 1))) : Int).toNat c.size).size ≤ 9223372036854775807 then (if (((((⟨#[43]⟩ : ByteArray) ++ i) ++ (c.extract 0 ((Int.tmod (wrap64 (u)) (wrap64 ((c.size : Int) + 1))) : Int).toNat)) ++ (⟨#[46]⟩ : ByteArray)) ++ (c.extract ((Int.tmod (wrap64 (u)) (wrap64 ((c.size : Int) + 1))) : Int).toNat c.size)).size + 1 ≤ 9223372036854775807 then ((aW.f k (wrap64 ((wrap64 (d + (c.size : Int))) - (Int.tmod (wrap64 (u)) (wrap64 ((c.size : Int) + 1)))))).bind fun v => (if ((((((⟨#[43]⟩ : ByteArray) ++ i) ++ (c.extract 0 ((Int.tmod (wrap64 (u)) (wrap64 ((c.size : Int) + 1))) : Int).toNat)) ++ (⟨#[46]⟩ : ByteArray)) ++ (c.extract ((Int.tmod (wrap64 (u)) (wrap64 ((c.size : Int) + 1))) : Int).toNat c.size)) ++ (⟨#[69]⟩ : ByteArray)).size + v.size ≤ 9223372036854775807 then ((bV.f k a b (((((((⟨#[43]⟩ : ByteArray) ++ i) ++ (c.extract 0 ((Int.tmod (wrap64 (u)) (wrap64 ((c.size : Int) + 1))) : Int).toNat)) ++ (⟨#[46]⟩ : ByteArray)) ++ (c.extract ((Int.tmod (wrap64 (u)) (wrap64 ((c.size : Int) + 1))) : Int).toNat c.size)) ++ (⟨#[69]⟩ : ByteArray)) ++ v)).bind fun w => (if e = w.1 then (if f = w.2.1 then (ak.j1 k a b c d e f g (g != w.2.2)) else (ak.j1 k a b c d e f g true)) else (ak.j1 k a b c d e f g true))) else (none))) else (none)) else (none)) else (none)) else (none)) else (none)) else (none)) else (none)))
def ak.j1 : Nat → Int → Int → ByteArray → Int → Int → Int → Int → Bool → Option (Bool)
 | 0, _, _, _, _, _, _, _, _ => none
 | k + 1, a, b, c, d, e, f, g, i => if i = true then (some false) else (if g = 0 then (if b = 3 then (if 1 + c.size ≤ 9223372036854775807 then (if ((⟨#[45]⟩ : ByteArray) ++ c).size + 1 ≤ 9223372036854775807 then ((aW.f k d).bind fun j => (if (((⟨#[45]⟩ : ByteArray) ++ c) ++ (⟨#[101]⟩ : ByteArray)).size + j.size ≤ 9223372036854775807 then ((bV.f k a 4 ((((⟨#[45]⟩ : ByteArray) ++ c) ++ (⟨#[101]⟩ : ByteArray)) ++ j)).bind fun m => ((fO.f a e).bind fun n => (if m.2.2 = 0 then (if n.2 = 0 then (if m.1 = n.1 then (some (f == m.2.1)) else (some false)) else (some false)) else (some false)))) else (none))) else (none)) else (none)) else (if b = 4 then (if 1 + c.size ≤ 9223372036854775807 then (if ((⟨#[45]⟩ : ByteArray) ++ c).size + 1 ≤ 9223372036854775807 then ((aW.f k d).bind fun o => (if (((⟨#[45]⟩ : ByteArray) ++ c) ++ (⟨#[101]⟩ : ByteArray)).size + o.size ≤ 9223372036854775807 then ((bV.f k a 3 ((((⟨#[45]⟩ : ByteArray) ++ c) ++ (⟨#[101]⟩ : ByteArray)) ++ o)).bind fun p => ((fO.f a e).bind fun q => (if p.2.2 = 0 then (if q.2 = 0 then (if p.1 = q.1 then (some (f == p.2.1)) else (some false)) else (some false)) else (some false)))) else (none))) else (none)) else (none)) else (if 1 + c.size ≤ 9223372036854775807 then (if ((⟨#[45]⟩ : ByteArray) ++ c).size + 1 ≤ 9223372036854775807 then ((aW.f k d).bind fun t => (if (((⟨#[45]⟩ : ByteArray) ++ c) ++ (⟨#[101]⟩ : ByteArray)).size + t.size ≤ 9223372036854775807 then ((bV.f k a b ((((⟨#[45]⟩ : ByteArray) ++ c) ++ (⟨#[101]⟩ : ByteArray)) ++ t)).bind fun u => ((fO.f a e).bind fun v => (if u.2.2 = 0 then (if v.2 = 0 then (if u.1 = v.1 then (some (f == u.2.1)) else (some false)) else (some false)) else (some false)))) else (none))) else (none)) else (none)))) else (if e = 0 then (some (f == 0)) else (some false)))
end
def ak.f (k : Nat) (a : Int) (b : Int) (c : Int) (d : Int) (e : Int) (f : Int) : Option (Bool) := (bG.f k).bind fun g => (if g = true then ((aH.f k c).bind fun i => (if i.size + 1 ≤ 9223372036854775807 then ((aW.f k (wrap64 (d))).bind fun j => (if (i ++ (⟨#[101]⟩ : ByteArray)).size + j.size ≤ 9223372036854775807 then ((bV.f k a b ((i ++ (⟨#[101]⟩ : ByteArray)) ++ j)).bind fun m => (ak.l0 k a b i (wrap64 (d)) m.1 m.2.1 m.2.2 (⟨#[]⟩ : ByteArray) (Go.bits .and .u8 e 15) 0 a b c d e f)) else (none))) else (none))) else (some false))
def bC.j0 : Nat → Int → List Int → List Int → Option (List Int × List Int)
 | 0, _, _, _ => none
 | k + 1, a, b, c => if a ≥ 0 then ((fA.f b a).bind fun d => (some (d.1, c))) else ((fA.f c (wrap64 (-a))).bind fun e => (some (b, e.1)))
def bC.f (k : Nat) (a : Int) (b : Int) (c : Int) : Option (List Int × List Int) := (some (([a] : List Int) : List Int)).bind fun d => (if c ≥ 0 then ((dH.f c).bind fun e => ((gY.f d e).bind fun f => (bC.j0 k b f.1 (([1] : List Int))))) else ((dH.f (wrap64 (-c))).bind fun g => (bC.j0 k b d g)))
def qV.f (a : Int) (b : Bool) (c : Bool) (d : Int) : Option (Bool) := if a = 0 then (if d > 0 then (some true) else (if d = 0 then (some c) else (some false))) else (if a = 1 then (some (decide (d ≥ 0))) else (if a = 3 then (some (!b)) else (if a = 4 then (some b) else (if a = 5 then (some (!c)) else (some false)))))
mutual
def dS.j0 : Nat → Int → Int → Int → Int → Bool → Option (ByteArray × Bool × Int)
 | 0, _, _, _, _, _ => none
 | k + 1, a, b, c, d, e => if e = true then (some ((⟨#[]⟩ : ByteArray), false, 7)) else ((aU.f k a c).bind fun f => ((strings_HasSuffix.f f.2.2.2.2 (⟨#[48]⟩ : ByteArray)).bind fun g => (if g = true then (if 0 ≤ (wrap64 ((f.2.2.2.2.size : Int) - 1)) then (if (wrap64 ((f.2.2.2.2.size : Int) - 1)) ≤ (f.2.2.2.2.size : Int) then ((strings_Repeat.f (⟨#[48]⟩ : ByteArray) d).bind fun i => ((iW.f i 0).bind fun j => (if (f.2.2.2.2.extract 0 ((wrap64 ((f.2.2.2.2.size : Int) - 1)) : Int).toNat).size + j.size ≤ 9223372036854775807 then (some ((f.2.2.2.2.extract 0 ((wrap64 ((f.2.2.2.2.size : Int) - 1)) : Int).toNat) ++ j, false, 0)) else (none)))) else (none)) else (none)) else (if f.2.2.2.2.toList = ([] : List UInt8) then ((jQ.f f.1 f.2.1 f.2.2.1 f.2.2.2.1).bind fun m => ((bC.f k f.2.1 f.2.2.1 (wrap64 ((wrap64 (d - 1)) - m))).bind fun n => ((iq.f n.1 n.2).bind fun o => ((fA.f o.2.1 1).bind fun p => (if (o.2.1.length : Int) > 0 then (if 0 < (o.1.length : Int) then ((iy.f p.1 n.2).bind fun q => ((qV.f b f.1 ((Int.tmod (rd o.1 0) 2) == 1) q).bind fun t => (dS.j1 k d m o.1 (decide (0 < o.2.1.length)) t f.1 f.2.1 f.2.2.1 f.2.2.2.1))) else (none)) else (dS.j1 k d m o.1 (decide (0 < o.2.1.length)) false f.1 f.2.1 f.2.2.1 f.2.2.2.1)))))) else (some (f.2.2.2.2, false, 0))))))
def dS.j1 : Nat → Int → Int → List Int → Bool → Bool → Bool → Int → Int → Int → Option (ByteArray × Bool × Int)
 | 0, _, _, _, _, _, _, _, _, _ => none
 | k + 1, a, b, c, d, e, f, g, i, j => if e = true then ((iJ.f c (([1] : List Int))).bind fun m => (dS.j2 k a b m d f g i j)) else (dS.j2 k a b c d f g i j)
def dS.j2 : Nat → Int → Int → List Int → Bool → Bool → Int → Int → Int → Option (ByteArray × Bool × Int)
 | 0, _, _, _, _, _, _, _, _ => none
 | k + 1, a, b, c, d, e, f, g, i => (bP.f c).bind fun j => (if (j.1.size : Int) > a then (if 0 ≤ a then (if a ≤ (j.1.size : Int) then ((bQ.f e f g i).bind fun m => ((iW.f (j.1.extract 0 (a : Int).toNat) (wrap64 (b + 1))).bind fun n => (if m.size + n.size ≤ 9223372036854775807 then (some (m ++ n, d, 0)) else (none)))) else (none)) else (none)) else ((bQ.f e f g i).bind fun o => ((iW.f j.1 b).bind fun p => (if o.size + p.size ≤ 9223372036854775807 then (some (o ++ p, d, 0)) else (none)))))
end
def dS.f (k : Nat) (a : Int) (b : Int) (c : Int) (d : Int) : Option (ByteArray × Bool × Int) := (bg.f a).bind fun e => (if e.2.2.2.2 = 0 then ((dR.f b).bind fun f => (if f = true then ((aZ.f a c).bind fun g => (if g = 0 then (if d < 1 then (dS.j0 k a b c d true) else (dS.j0 k a b c d (decide (d > 1200)))) else (some ((⟨#[]⟩ : ByteArray), false, g)))) else (some ((⟨#[]⟩ : ByteArray), false, 3)))) else (some ((⟨#[]⟩ : ByteArray), false, e.2.2.2.2)))
def dW.f (a : Int) (b : Int) : Option (Int × Int × Int × Int) := (bW.f a).bind fun c => (if 0 ≤ (IntKind.u64.wrap (wrap64 (c.1 - 1))) then (if 0 ≤ (IntKind.u64.wrap (wrap64 (c.2.1 - 1))) then (if (shl .u64 1 (IntKind.u64.wrap (wrap64 (c.2.1 - 1)))) = 0 then (none) else (some (Go.bits .and .u64 (shr .u64 b (IntKind.u64.wrap (wrap64 (c.1 - 1)))) 1, Go.bits .and .u64 (shr .u64 b (IntKind.u64.wrap (wrap64 (c.2.1 - 1)))) (IntKind.u64.wrap (wrap64 ((wrap64 (2 * c.2.2.2.1)) + 1))), Int.tmod b (shl .u64 1 (IntKind.u64.wrap (wrap64 (c.2.1 - 1)))), IntKind.u64.wrap (wrap64 ((wrap64 (2 * c.2.2.2.1)) + 1))))) else (none)) else (none))
def iH.f (a : Int) (b : Int) : Option (Bool) := (dW.f a b).bind fun c => (if c.2.1 = 0 then (some (c.2.2.1 == 0)) else (some false))
def gJ.f (a : Int) (b : Int) : Option (Int) := (dW.f a b).bind fun c => (some c.1)
def jF.f (a : Int) (b : Int) : Option (Bool) := (dW.f a b).bind fun c => (if c.2.1 = c.2.2.2 then (some (c.2.2.1 != 0)) else (some false))
def jG.f (a : Int) (b : Int) : Option (Bool) := (dW.f a b).bind fun c => (if c.2.1 = c.2.2.2 then (some (c.2.2.1 == 0)) else (some false))
def bZ.j0 : Nat → Int → Int → ByteArray → Option (ByteArray)
 | 0, _, _, _ => none
 | k + 1, a, b, c => (jF.f a b).bind fun d => (if d = true then (some (⟨#[110, 97, 110]⟩ : ByteArray)) else ((jG.f a b).bind fun e => (if e = true then (if c.size + 3 ≤ 9223372036854775807 then (some (c ++ (⟨#[105, 110, 102]⟩ : ByteArray))) else (none)) else ((iH.f a b).bind fun f => (if f = true then (if c.size + 1 ≤ 9223372036854775807 then (some (c ++ (⟨#[48]⟩ : ByteArray))) else (none)) else (some (⟨#[]⟩ : ByteArray)))))))
def bZ.f (k : Nat) (a : Int) (b : Int) : Option (ByteArray) := (gJ.f a b).bind fun c => (if c = 1 then (bZ.j0 k a b (⟨#[45]⟩ : ByteArray)) else (bZ.j0 k a b (⟨#[]⟩ : ByteArray)))
def jy.f (a : Int) (b : Int) : Option (Int × Int) := (bW.f a).bind fun c => ((dW.f a b).bind fun d => (if d.2.1 = 0 then (some (d.2.2.1, wrap64 ((wrap64 (c.2.2.1 - c.2.1)) + 1))) else (if 0 ≤ (IntKind.u64.wrap (wrap64 (c.2.1 - 1))) then (some (IntKind.u64.wrap ((shl .u64 1 (IntKind.u64.wrap (wrap64 (c.2.1 - 1)))) + d.2.2.1), wrap64 ((wrap64 ((wrap64 ((wrap64 ((wrap64 (d.2.1)) - 1)) + c.2.2.1)) - c.2.1)) + 1))) else (none))))
def fG.f (k : Nat) (a : Int) (b : Int) : Option (List Int × List Int) := (jy.f a b).bind fun c => (if c.2 ≥ 0 then ((gK.f k (([c.1] : List Int)) c.2).bind fun d => (some (d, (([1] : List Int))))) else ((dF.f (([c.1] : List Int))).bind fun e => ((gK.f k (([1] : List Int)) (wrap64 (-c.2))).bind fun f => (some (e, f)))))
def eX.l0 : Nat → List Int → List Int → Int → Option (Int)
 | 0, _, _, _ => none
 | k + 1, a, b, c => (dA.f k a b).bind fun d => (if d < 0 then ((dO.f k a (([10] : List Int))).bind fun e => (eX.l0 k e b (wrap64 (c - 1)))) else (some c))
def eX.f (k : Nat) (a : List Int) (b : List Int) : Option (Int) := (fV.f k a b).bind fun c => (if (c.1.length : Int) > 0 then ((aC.f k c.1).bind fun d => (some (wrap64 ((d.1.size : Int) - 1)))) else (eX.l0 k a b 0))
def dJ.j0 : Nat → List Int → List Int → Option (List Int × Int)
 | 0, _, _ => none
 | k + 1, a, b => (fV.f k a b).bind fun c => (if (c.2.length : Int) = 0 then (some (c.1, 0)) else ((gK.f k c.2 1).bind fun d => ((dA.f k d b).bind fun e => (some (c.1, wrap64 (2 + e))))))
def dJ.f (k : Nat) (a : List Int) (b : List Int) (c : Int) : Option (List Int × Int) := if c ≥ 0 then ((gI.f k c).bind fun d => ((dO.f k a d).bind fun e => (dJ.j0 k e b))) else ((gI.f k (wrap64 (-c))).bind fun f => ((dO.f k b f).bind fun g => (dJ.j0 k a g)))
def dL.f (a : Int) (b : Int) : Option (ByteArray) := (gJ.f a b).bind fun c => (if c = 1 then (some (⟨#[45]⟩ : ByteArray)) else (some (⟨#[]⟩ : ByteArray)))
def ig.f : Nat → Int → Option (ByteArray)
 | 0, _ => none
 | k + 1, a => if a < 0 then ((ig.f k (wrap64 (-a))).bind fun b => (if 1 + b.size ≤ 9223372036854775807 then (some ((⟨#[45]⟩ : ByteArray) ++ b)) else (none))) else ((aC.f k (([IntKind.u64.wrap (a)] : List Int))).bind fun c => (some c.1))
def fC.f (k : Nat) (a : ByteArray) (b : Int) : Option (ByteArray) := if 0 ≤ 1 then (if 1 ≤ (a.size : Int) then (if (a.size : Int) > 1 then (if 1 + (a.extract 1 a.size).size ≤ 9223372036854775807 then (if (a.extract 0 1).size + ((⟨#[46]⟩ : ByteArray) ++ (a.extract 1 a.size)).size ≤ 9223372036854775807 then (if ((a.extract 0 1) ++ ((⟨#[46]⟩ : ByteArray) ++ (a.extract 1 a.size))).size + 1 ≤ 9223372036854775807 then ((ig.f k b).bind fun c => (if (((a.extract 0 1) ++ ((⟨#[46]⟩ : ByteArray) ++ (a.extract 1 a.size))) ++ (⟨#[101]⟩ : ByteArray)).size + c.size ≤ 9223372036854775807 then (some ((((a.extract 0 1) ++ ((⟨#[46]⟩ : ByteArray) ++ (a.extract 1 a.size))) ++ (⟨#[101]⟩ : ByteArray)) ++ c)) else (none))) else (none)) else (none)) else (none)) else (if (a.extract 0 1).size + 1 ≤ 9223372036854775807 then ((ig.f k b).bind fun d => (if ((a.extract 0 1) ++ (⟨#[101]⟩ : ByteArray)).size + d.size ≤ 9223372036854775807 then (some (((a.extract 0 1) ++ (⟨#[101]⟩ : ByteArray)) ++ d)) else (none))) else (none))) else (none)) else (none)
def dh.l0 : Nat → Int → ByteArray → Option (ByteArray)
 | 0, _, _ => none
 | k + 1, a, b => if (b.size : Int) < a then (if b.size + 1 ≤ 9223372036854775807 then (dh.l0 k a (b ++ (⟨#[48]⟩ : ByteArray))) else (none)) else (some b)
def dh.f (k : Nat) (a : Int) : Option (ByteArray) := dh.l0 k a (⟨#[]⟩ : ByteArray)
def dZ.j0 : Nat → Int → Bool → List Int → Int → Bool → Option (List Int)
 | 0, _, _, _, _, _ => none
 | k + 1, a, b, c, d, e => if a = 0 then (if d = 3 then (if d > 0 then ((aV.f k c (([1] : List Int))).bind fun f => (some f)) else (some c)) else (if d = 2 then (if d > 0 then (if e = true then ((aV.f k c (([1] : List Int))).bind fun g => (some g)) else (some c)) else (some c)) else (if d > 0 then (some c) else (some c)))) else (if a = 1 then (if d > 0 then (if d ≥ 2 then ((aV.f k c (([1] : List Int))).bind fun i => (some i)) else (some c)) else (some c)) else (if a = 3 then (if d > 0 then (if b = true then (some c) else ((aV.f k c (([1] : List Int))).bind fun j => (some j))) else (some c)) else (if a = 4 then (if d > 0 then (if b = true then ((aV.f k c (([1] : List Int))).bind fun m => (some m)) else (some c)) else (some c)) else (if a = 5 then (if d > 0 then (if e = true then (some c) else ((aV.f k c (([1] : List Int))).bind fun n => (some n))) else (some c)) else (if d > 0 then (some c) else (some c))))))
def dZ.f (k : Nat) (a : Int) (b : Bool) (c : List Int) (d : Int) : Option (List Int) := if (c.length : Int) > 0 then (if 0 < (c.length : Int) then (dZ.j0 k a b c d ((Int.tmod (rd c 0) 2) == 1)) else (none)) else (dZ.j0 k a b c d false)
def d_.j0 : Nat → Int → Int → Int → Int → Bool → Option (ByteArray × Bool × Int)
 | 0, _, _, _, _, _ => none
 | k + 1, a, b, c, d, e => if e = true then (some ((⟨#[]⟩ : ByteArray), false, 7)) else ((iH.f a c).bind fun f => (if f = true then ((dL.f a c).bind fun g => ((dh.f k d).bind fun i => ((fC.f k i 0).bind fun j => (if g.size + j.size ≤ 9223372036854775807 then (some (g ++ j, false, 0)) else (none))))) else ((bZ.f k a c).bind fun m => (if m.toList = ([] : List UInt8) then ((fG.f k a c).bind fun n => ((eX.f k n.1 n.2).bind fun o => ((dJ.f k n.1 n.2 (wrap64 ((wrap64 (d - 1)) - o))).bind fun p => ((gJ.f a c).bind fun q => ((dZ.f k b (q == 1) p.1 p.2).bind fun t => ((aC.f k t).bind fun u => (if (u.1.size : Int) > d then (if 0 ≤ d then (if d ≤ (u.1.size : Int) then ((dL.f a c).bind fun v => ((fC.f k (u.1.extract 0 (d : Int).toNat) (wrap64 (o + 1))).bind fun w => (if v.size + w.size ≤ 9223372036854775807 then (some (v ++ w, decide (p.2 > 0), 0)) else (none)))) else (none)) else (none)) else ((dL.f a c).bind fun x => ((fC.f k u.1 o).bind fun y => (if x.size + y.size ≤ 9223372036854775807 then (some (x ++ y, decide (p.2 > 0), 0)) else (none))))))))))) else (some (m, false, 0))))))
def d_.f (k : Nat) (a : Int) (b : Int) (c : Int) (d : Int) : Option (ByteArray × Bool × Int) := (bK.f k a b (([c] : List Int))).bind fun e => (if e = 0 then (if d < 1 then (d_.j0 k a b c d true) else (d_.j0 k a b c d (decide (d > 1200)))) else (some ((⟨#[]⟩ : ByteArray), false, e)))
def jJ.f (k : Nat) (a : Int) (b : Int) (c : Int) (d : Int) : Option (Bool) := (dS.f k a b c d).bind fun e => ((d_.f k a b c d).bind fun f => ((bG.f k).bind fun g => (if g = true then (if e.1.toList = f.1.toList then (if (e.2.1 == f.2.1) = true then (some (e.2.2 == f.2.2)) else (some false)) else (some false)) else (some false))))
def ji.f (k : Nat) (a : Int) (b : Int) (c : List Int) (d : Int) : Option (Bool) := (gJ.f a b).bind fun e => (if d ≥ 0 then ((gI.f k d).bind fun f => ((dO.f k c f).bind fun g => ((bM.f k a 0 (e == 1) g (([1] : List Int)) 0).bind fun i => (some (i.1 == b))))) else ((gI.f k (wrap64 (-d))).bind fun j => ((bM.f k a 0 (e == 1) c j 0).bind fun m => (some (m.1 == b)))))
def fH.f (k : Nat) (a : ByteArray) (b : Int) : Option (ByteArray) := if b < 0 then ((dh.f k (wrap64 ((wrap64 (-b)) - 1))).bind fun c => (if 2 + c.size ≤ 9223372036854775807 then (if ((⟨#[48, 46]⟩ : ByteArray) ++ c).size + a.size ≤ 9223372036854775807 then (some (((⟨#[48, 46]⟩ : ByteArray) ++ c) ++ a)) else (none)) else (none))) else (if (a.size : Int) ≤ (wrap64 (b + 1)) then ((dh.f k (wrap64 ((wrap64 (b + 1)) - (a.size : Int)))).bind fun d => (if a.size + d.size ≤ 9223372036854775807 then (some (a ++ d)) else (none))) else (if 0 ≤ (wrap64 (b + 1)) then (if (wrap64 (b + 1)) ≤ (a.size : Int) then (if (a.extract 0 ((wrap64 (b + 1)) : Int).toNat).size + 1 ≤ 9223372036854775807 then (if ((a.extract 0 ((wrap64 (b + 1)) : Int).toNat) ++ (⟨#[46]⟩ : ByteArray)).size + (a.extract ((wrap64 (b + 1)) : Int).toNat a.size).size ≤ 9223372036854775807 then (some (((a.extract 0 ((wrap64 (b + 1)) : Int).toNat) ++ (⟨#[46]⟩ : ByteArray)) ++ (a.extract ((wrap64 (b + 1)) : Int).toNat a.size))) else (none)) else (none)) else (none)) else (none)))
def jM.j0 : Nat → ByteArray → Bool → Int → Int → Int → Option (ByteArray × Int)
 | 0, _, _, _, _, _ => none
 | k + 1, a, b, c, d, e => if 0 ≤ (wrap64 ((a.size : Int) + d)) then (if (wrap64 ((a.size : Int) + d)) ≤ (a.size : Int) then ((je.f (a.extract ((wrap64 ((a.size : Int) + d)) : Int).toNat a.size) (⟨#[48]⟩ : ByteArray)).bind fun f => (if f.toList = ([] : List UInt8) then ((bQ.f b c d e).bind fun g => (if g.size + (a.extract 0 ((wrap64 ((a.size : Int) + d)) : Int).toNat).size ≤ 9223372036854775807 then (some (g ++ (a.extract 0 ((wrap64 ((a.size : Int) + d)) : Int).toNat), 0)) else (none))) else (if 1 + f.size ≤ 9223372036854775807 then (if (a.extract 0 ((wrap64 ((a.size : Int) + d)) : Int).toNat).size + ((⟨#[46]⟩ : ByteArray) ++ f).size ≤ 9223372036854775807 then ((bQ.f b c d e).bind fun i => (if i.size + ((a.extract 0 ((wrap64 ((a.size : Int) + d)) : Int).toNat) ++ ((⟨#[46]⟩ : ByteArray) ++ f)).size ≤ 9223372036854775807 then (some (i ++ ((a.extract 0 ((wrap64 ((a.size : Int) + d)) : Int).toNat) ++ ((⟨#[46]⟩ : ByteArray) ++ f)), 0)) else (none))) else (none)) else (none)))) else (none)) else (none)
def jM.f (k : Nat) (a : Int) (b : Int) : Option (ByteArray × Int) := (aZ.f a b).bind fun c => (if c = 0 then ((aU.f k a b).bind fun d => (if d.2.2.2.2.toList = ([] : List UInt8) then (if d.2.2.1 ≥ 0 then ((fA.f (([d.2.1] : List Int)) d.2.2.1).bind fun e => ((bP.f e.1).bind fun f => ((bQ.f d.1 d.2.1 d.2.2.1 d.2.2.2.1).bind fun g => (if g.size + f.1.size ≤ 9223372036854775807 then (some (g ++ f.1, 0)) else (none))))) else ((gB.f 5 (wrap64 (-d.2.2.1))).bind fun i => ((gY.f (([d.2.1] : List Int)) i.1).bind fun j => ((bP.f j.1).bind fun m => (if (wrap64 ((wrap64 ((wrap64 (-d.2.2.1)) - (m.1.size : Int))) + 1)) > 0 then ((strings_Repeat.f (⟨#[48]⟩ : ByteArray) (wrap64 ((wrap64 ((wrap64 (-d.2.2.1)) - (m.1.size : Int))) + 1))).bind fun n => (if n.size + m.1.size ≤ 9223372036854775807 then (jM.j0 k (n ++ m.1) d.1 d.2.1 d.2.2.1 d.2.2.2.1) else (none))) else (jM.j0 k m.1 d.1 d.2.1 d.2.2.1 d.2.2.2.1)))))) else (some (d.2.2.2.2, 0)))) else (some ((⟨#[]⟩ : ByteArray), c)))
def eU.l0 : Nat → Int → Int → Int → ByteArray → Option (ByteArray × Int)
 | 0, _, _, _, _ => none
 | k + 1, a, b, c, d => if c > 0 then (if 0 ≤ (wrap64 ((d.size : Int) - 1)) then (if (wrap64 ((d.size : Int) - 1)) < (d.size : Int) then (if (bt d (wrap64 ((d.size : Int) - 1))) = 48 then (if (d.size : Int) > 1 then (if (wrap64 ((d.size : Int) - 1)) ≤ (d.size : Int) then (eU.l0 k a b (wrap64 (c - 1)) (d.extract 0 ((wrap64 ((d.size : Int) - 1)) : Int).toNat)) else (none)) else ((dL.f a b).bind fun e => ((fH.f k d (wrap64 ((wrap64 ((d.size : Int) - 1)) - c))).bind fun f => (if e.size + f.size ≤ 9223372036854775807 then (some (e ++ f, 0)) else (none))))) else ((dL.f a b).bind fun g => ((fH.f k d (wrap64 ((wrap64 ((d.size : Int) - 1)) - c))).bind fun i => (if g.size + i.size ≤ 9223372036854775807 then (some (g ++ i, 0)) else (none))))) else (none)) else (none)) else ((dL.f a b).bind fun j => ((fH.f k d (wrap64 ((wrap64 ((d.size : Int) - 1)) - c))).bind fun m => (if j.size + m.size ≤ 9223372036854775807 then (some (j ++ m, 0)) else (none))))
def eU.f (k : Nat) (a : Int) (b : Int) : Option (ByteArray × Int) := (gW.f a b).bind fun c => (if c = 0 then ((bZ.f k a b).bind fun d => (if d.toList = ([] : List UInt8) then ((fG.f k a b).bind fun e => ((bU.f k e.2).bind fun f => ((bf.f k 5 (wrap64 (f - 1))).bind fun g => ((dO.f k e.1 g.1).bind fun i => ((aC.f k i).bind fun j => (eU.l0 k a b (wrap64 (f - 1)) j.1)))))) else (some (d, 0)))) else (some ((⟨#[]⟩ : ByteArray), c)))
def aJ.l19 : Nat → Int → Int → ByteArray → Int → Option (ByteArray × Int)
 | 0, _, _, _, _ => none
 | k + 1, a, b, c, d => if 0 ≤ wrap64 ((c.size : Int) - 1) then if wrap64 ((c.size : Int) - 1) < (c.size : Int) then if ((bt c (wrap64 ((c.size : Int) - 1))) == 48) then if 0 ≤ wrap64 ((c.size : Int) - 1) then if wrap64 ((c.size : Int) - 1) ≤ (c.size : Int) then aJ.l19 k a b (c.extract 0 (wrap64 ((c.size : Int) - 1) : Int).toNat) d else none else none else if (decide (d < (-5))) = false then if (decide (d > 15)) then (dL.f a b).bind fun e => (fC.f k c d).bind fun f => if e.size + f.size ≤ 9223372036854775807 then some (e ++ f, 0) else none else (dL.f a b).bind fun g => (fH.f k c d).bind fun i => if g.size + i.size ≤ 9223372036854775807 then some (g ++ i, 0) else none else (dL.f a b).bind fun j => (fC.f k c d).bind fun m => if j.size + m.size ≤ 9223372036854775807 then some (j ++ m, 0) else none else none else none
def aJ.j17 : Nat → Int → Int → Int → Int → List Int → Option (ByteArray × Int)
 | 0, _, _, _, _, _ => none
 | k + 1, a, b, c, d, e => (aC.f k e).bind fun f => aJ.l19 k a b f.1 (wrap64 ((wrap64 (c - d)) + (f.1.size : Int)))
def aJ.j15 : Nat → Int → Int → Int → Int → List Int → Int → List Int → Bool → Bool → Option (ByteArray × Int)
 | 0, _, _, _, _, _, _, _, _, _ => none
 | k + 1, a, b, c, d, e, f, g, i, j => if (!i) = false then if j then if (f == 3) = false then if (f == 2) then if (0 : Int) ≤ 0 then if 0 < (e.length : Int) then if (2 : Int) = 0 then none else if ((Int.tmod (rd e 0) 2) == 1) then aJ.j17 k a b c d g else aJ.j17 k a b c d e else none else none else aJ.j17 k a b c d e else aJ.j17 k a b c d g else aJ.j17 k a b c d e else aJ.j17 k a b c d g
def aJ.l11 : Nat → Int → Int → List Int → List Int → Int → Int → Option (ByteArray × Int)
 | 0, _, _, _, _, _, _ => none
 | k + 1, a, b, c, d, e, f => (dJ.f k c d (wrap64 ((wrap64 (f - 1)) - e))).bind fun g => (aV.f k g.1 ([1] : List Int)).bind fun i => (ji.f k a b g.1 (wrap64 ((wrap64 (e - f)) + 1))).bind fun j => (ji.f k a b i (wrap64 ((wrap64 (e - f)) + 1))).bind fun m => if (!j) then if (!m) then aJ.l11 k a b c d e (wrap64 (f + 1)) else aJ.j15 k a b e f g.1 g.2 i j m else aJ.j15 k a b e f g.1 g.2 i j m
def aJ.f (k : Nat) (a : Int) (b : Int) : Option (ByteArray × Int) := (gW.f a b).bind fun c => if (c != 0) then some ((⟨#[]⟩ : ByteArray), c) else (bZ.f k a b).bind fun d => if (d.toList != (⟨#[]⟩ : ByteArray).toList) then some (d, 0) else (fG.f k a b).bind fun e => (eX.f k e.1 e.2).bind fun f => aJ.l11 k a b e.1 e.2 f 1
def jr.f (k : Nat) (a : Int) (b : Int) : Option (Bool) := (bn.f k a b).bind fun c => (aJ.f k a b).bind fun d => (bG.f k).bind fun e => if (!e) = false then if (c.1.toList != d.1.toList) = false then if (c.2 != d.2) then some (false) else (jM.f k a b).bind fun f => (eU.f k a b).bind fun g => if (f.1.toList == g.1.toList) then some (f.2 == g.2) else some (false) else some (false) else some (false)
end Go.Proofs.YtafikkmnkeddpaaGreatDoor.P
namespace Go.Proofs.YtafikkmnkeddpaaGreatDoor.P
open Go.RowKit Go.Proofs.YtafikkmnkeddpaaGreatDoorW.PrintWords Go.Proofs.YtafikkmnkeddpaaGreatDoorW.PrintLast Go.Proofs.YtafikkmnkeddpaaGreatDoorW.PrintMore
end Go.Proofs.YtafikkmnkeddpaaGreatDoor.P
namespace Go.Proofs.YtafikkmnkeddpaaGreatDoor.P
open Go.RowKit Go.Proofs.YtafikkmnkeddpaaGreatDoorW.PrintWords Go.Proofs.YtafikkmnkeddpaaGreatDoorW.PrintLast Go.Proofs.YtafikkmnkeddpaaGreatDoorW.PrintMore
theorem NK (x s : Nat) (hs : s ≤ 64) : shl .u64 (x : Int) (s : Int) = IntKind.u64.wrap ((x : Int) * 2 ^ s) := by
 unfold shl
 rw [Int.toNat_natCast, Nat.min_eq_left (by simpa [IntKind.bits] using hs)]
end Go.Proofs.YtafikkmnkeddpaaGreatDoor.P
namespace Go.Proofs.YtafikkmnkeddpaaGreatDoor.P
open Go.RowKit Go.Proofs.YtafikkmnkeddpaaGreatDoorW.PrintWords Go.Proofs.YtafikkmnkeddpaaGreatDoorW.PrintLast Go.Proofs.YtafikkmnkeddpaaGreatDoorW.PrintMore
theorem and_one (x : Nat) (h : x < WB) : Go.bits .and .u64 (x : Int) 1 = ((x % 2 : Nat) : Int) := by
 have := u64_and_nat x 1 h (by decide)
 rw [show ((1 : Nat) : Int) = 1 from rfl] at this
 rw [this, Nat.and_one_is_mod]
end Go.Proofs.YtafikkmnkeddpaaGreatDoor.P
namespace Go.Proofs.YtafikkmnkeddpaaGreatDoor.P
open Go.RowKit Go.Proofs.YtafikkmnkeddpaaGreatDoorW.PrintWords Go.Proofs.YtafikkmnkeddpaaGreatDoorW.PrintLast Go.Proofs.YtafikkmnkeddpaaGreatDoorW.PrintMore
abbrev HB : Nat := 4294967296
def WdB (B : Nat) (xs : List Nat) : Prop := ∀ x ∈ xs, x < B
theorem WdB.set {B : Nat} {xs : List Nat} (h : WdB B xs) (i y : Nat) (hy : y < B) : WdB B (xs.set i y) := fun z hz => by
 rcases List.mem_or_eq_of_mem_set hz with hz | rfl
 ·exact h z hz
 ·exact hy
theorem RG {a b : Nat} (h : a * b < 18446744073709551616) : IntKind.u64.wrap ((a : Int) * (b : Int)) = ((a * b : Nat) : Int) := by rw [← Int.natCast_mul]; exact Ky h
theorem RH {a b : Nat} (h : a + b < 18446744073709551616) : IntKind.u64.wrap ((a : Int) + (b : Int)) = ((a + b : Nat) : Int) := by rw [← Int.natCast_add]; exact Ky h
end Go.Proofs.YtafikkmnkeddpaaGreatDoor.P
namespace Go.Proofs.YtafikkmnkeddpaaGreatDoor.P
open Go.RowKit Go.Proofs.YtafikkmnkeddpaaGreatDoorW.PrintWords Go.Proofs.YtafikkmnkeddpaaGreatDoorW.PrintLast Go.Proofs.YtafikkmnkeddpaaGreatDoorW.PrintMore
def byt (s : ByteArray) (i : Nat) : Nat := (s.data.toList.getD i 0).toNat
theorem sZ (s : ByteArray) (i : Nat) : bt s (i : Int) = ((byt s i : Nat) : Int) := by
 unfold bt byt
 by_cases h : i < s.size
 ·have h' : (i : Int).toNat < s.size := by rw [Int.toNat_natCast]; exact h
  rw [dif_pos h']
  congr 2
  rw [List.getD_eq_getElem?_getD, Lib.data_getElem? s i h]
  rfl
 ·have h' : ¬ (i : Int).toNat < s.size := by rw [Int.toNat_natCast]; exact h
  rw [dif_neg h', List.getD_eq_getElem?_getD, List.getElem?_eq_none (by rw [Array.length_toList]; exact Nat.le_of_not_lt h)]
  rfl
theorem K_ (s : ByteArray) {i : Nat} (h : i < s.size) : s.data.toList.take (i + 1) = s.data.toList.take i ++ [s.data.toList.getD i 0] := by
 have h' : i < s.data.toList.length := by rw [Array.length_toList]; exact h
 rw [List.take_succ_eq_append_getElem h', List.getD_eq_getElem?_getD, List.getElem?_eq_getElem h']
 rfl
theorem La (s : ByteArray) {i : Nat} (h : i < s.size) : dn (s.data.toList.take (i + 1)) = 10 * dn (s.data.toList.take i) + (byt s i - 48) := by
 rw [K_ s h, qm]; rfl
end Go.Proofs.YtafikkmnkeddpaaGreatDoor.P
namespace Go.Proofs.YtafikkmnkeddpaaGreatDoor.P
open Go.RowKit Go.Proofs.YtafikkmnkeddpaaGreatDoorW.PrintWords Go.Proofs.YtafikkmnkeddpaaGreatDoorW.PrintLast Go.Proofs.YtafikkmnkeddpaaGreatDoorW.PrintMore
end Go.Proofs.YtafikkmnkeddpaaGreatDoor.P
namespace Go.Proofs.YtafikkmnkeddpaaGreatDoor
theorem wV {a b : Nat} (h : a ≤ b) : dB a ≤ dB b := mY (Nat.lt_of_le_of_lt h (kP b))
theorem LH : dB 1 = 1 := by decide
def tH (r d : Nat) : Nat := if r = 0 then 0 else if 2 * r < d then 1 else if 2 * r = d then 2 else 3
def lOf (a d : Nat) : Nat := tH (a % d) d
theorem Jc (r d : Nat) {k : Nat} (hk : 0 < k) : tH (r * k) (d * k) = tH r d := by
 unfold tH
 have e1 : (r * k = 0) = (r = 0) := by
  apply propext
  constructor
  ·intro h
   rcases Nat.mul_eq_zero.1 h with h | h
   ·exact h
   ·omega
  ·rintro rfl; simp
 have e2 : (2 * (r * k) < d * k) = (2 * r < d) := by
  rw [← Nat.mul_assoc]
  exact propext (Nat.mul_lt_mul_right hk)
 have e3 : (2 * (r * k) = d * k) = (2 * r = d) := by
  rw [← Nat.mul_assoc]
  exact propext (Nat.mul_left_inj (by omega))
 simp only [e1, e2, e3]
theorem vP (a d : Nat) {k : Nat} (hk : 0 < k) : lOf (a * k) (d * k) = lOf a d := by
 unfold lOf
 rw [Nat.mul_mod_mul_right, Jc _ _ hk]
theorem vS (a d : Nat) {k : Nat} (hk : 0 < k) : a * k / (d * k) = a / d := Nat.mul_div_mul_right _ _ hk
theorem zQ {r d : Nat} : tH r d = 0 ↔ r = 0 := by unfold tH; split <;> (try split) <;> (try split) <;> simp_all
def nJ (j : Nat) (more : Bool) : Nat := if more then j % 4 + 1 - j % 2 else j % 4
theorem Og (A D k : Nat) (hD : 0 < D) : A / (D * 2 ^ (k + 2)) = wM (A / D) k / 4 ∧ lOf A (D * 2 ^ (k + 2)) = nJ (wM (A / D) k) (decide (A % D ≠ 0)) := by
 have hP : 0 < 2 ^ k := Nat.two_pow_pos k
 have hA := Nat.div_add_mod A D
 have hr := Nat.mod_lt A hD
 generalize A / D = n at *
 generalize A % D = r at *
 have hn := Nat.div_add_mod n (2 ^ k)
 have hv := Nat.mod_lt n hP
 have hm : wM n k = if n % 2 ^ k = 0 then n / 2 ^ k else n / 2 ^ k + 1 - n / 2 ^ k % 2 := rfl
 generalize n / 2 ^ k = m at *
 generalize n % 2 ^ k = v at *
 have h4 : 2 ^ (k + 2) = 4 * 2 ^ k := by rw [Nat.pow_add]; omega
 rw [h4]
 generalize 2 ^ k = P at *
 have hW : D * v + r < D * P := by
  have : D * (v + 1) ≤ D * P := Nat.mul_le_mul_left _ hv
  rw [Nat.mul_add] at this
  omega
 have hA2 : A = D * P * m + (D * v + r) := by rw [← hA, ← hn, Nat.mul_add, Nat.mul_assoc]; omega
 have hW0 : D * v + r = 0 ↔ v = 0 ∧ r = 0 := by
  constructor
  ·intro h
   have h1 : D * v = 0 := by omega
   rcases Nat.mul_eq_zero.1 h1 with h2 | h2
   ·omega
   ·exact ⟨h2, by omega⟩
  ·rintro ⟨rfl, rfl⟩; simp
 have e : D * (4 * P) = 4 * (D * P) := Nat.mul_left_comm _ _ _
 rw [e]
 generalize D * P = Q at *
 generalize D * v + r = W at *
 have hQ : 0 < Q := by omega
 have hmd := Nat.div_add_mod m 4
 have hms := Nat.mod_lt m (show 0 < 4 by decide)
 generalize m / 4 = u at *
 generalize hs' : m % 4 = s at *
 have hA3 : A = Q * s + W + 4 * Q * u := by
  rw [hA2, ← hmd, Nat.mul_add]
  have : Q * (4 * u) = 4 * Q * u := by rw [← Nat.mul_assoc, Nat.mul_comm Q 4]
  omega
 have hlt : Q * s + W < 4 * Q := by
  have : Q * s ≤ Q * 3 := Nat.mul_le_mul_left _ (by omega)
  omega
 have hd : A / (4 * Q) = u := by rw [hA3, Nat.add_mul_div_left _ _ (by omega), Nat.div_eq_of_lt hlt]; omega
 have hmo : A % (4 * Q) = Q * s + W := by rw [hA3, Nat.add_mul_mod_self_left, Nat.mod_eq_of_lt hlt]
 unfold lOf
 rw [hd, hmo, hm]
 constructor
 ·split <;> omega
 ·have hs4 : s = 0 ∨ s = 1 ∨ s = 2 ∨ s = 3 := by omega
  have hl : tH (Q * s + W) (4 * Q) = if W = 0 then s else s + 1 - s % 2 := by
   unfold tH
   rcases hs4 with h | h | h | h <;> subst h <;> (repeat' split) <;> omega
  rw [hl]
  unfold nJ
  by_cases hv0 : v = 0
  ·rw [if_pos hv0]
   by_cases hr0 : r = 0
   ·have hw : W = 0 := hW0.2 ⟨hv0, hr0⟩
    simp only [hr0, hw, ne_eq, not_true, decide_false, if_true, Bool.false_eq_true, if_false]
    omega
   ·have hw : W ≠ 0 := fun h => hr0 (hW0.1 h).2
    simp only [hr0, hw, ne_eq, not_false_eq_true, decide_true, if_true, if_false]
    omega
  ·rw [if_neg hv0]
   have hw : W ≠ 0 := fun h => hv0 (hW0.1 h).1
   simp only [hw, if_false]
   split <;> omega
theorem LJ (n i : Nat) (hi : i ≤ 2) : n / 2 ^ i = n * 2 ^ (2 - i) / 4 ∧ lOf n (2 ^ i) = nJ (n * 2 ^ (2 - i)) false := by
 unfold lOf nJ tH
 have : i = 0 ∨ i = 1 ∨ i = 2 := by omega
 rcases this with rfl | rfl | rfl
 ·refine ⟨by simp, ?_⟩
  simp [Nat.mod_one]
 ·refine ⟨by simp; omega, ?_⟩
  rw [show 2 ^ 1 = 2 from rfl]
  simp only [Bool.false_eq_true, if_false]
  (repeat' split) <;> omega
 ·refine ⟨by simp, ?_⟩
  rw [show 2 ^ 2 = 4 from rfl, show 2 ^ (2 - 2) = 1 from rfl]
  simp only [Bool.false_eq_true, if_false]
  (repeat' split) <;> omega
def upN (num : Nat) (E q : Int) : Nat := num * 2 ^ (E - q).toNat
def dnN (den : Nat) (E q : Int) : Nat := den * 2 ^ (q - E).toNat
def plU (num den : Nat) (E q : Int) : Nat := upN num E q / dnN den E q
def plL (num den : Nat) (E q : Int) : Nat := lOf (upN num E q) (dnN den E q)
theorem Ia {den : Nat} (h : 0 < den) (E q : Int) : 0 < dnN den E q := Nat.mul_pos h (Nat.two_pow_pos _)
theorem rH (num den : Nat) (E e q : Int) (h : e ≤ q) : plU num den E q = upN num E e / (dnN den E e * 2 ^ (q - e).toNat) ∧ plL num den E q = lOf (upN num E e) (dnN den E e * 2 ^ (q - e).toNat) := by
 have e1 : upN num E q * 2 ^ (E - e).toNat = upN num E e * 2 ^ (E - q).toNat := by
  unfold upN
  rw [Nat.mul_assoc, Nat.mul_assoc, Nat.mul_comm (2 ^ _)]
 have e2 : dnN den E q * 2 ^ (E - e).toNat = dnN den E e * 2 ^ (q - e).toNat * 2 ^ (E - q).toNat := by
  unfold dnN
  simp only [Nat.mul_assoc, ← Nat.pow_add]
  congr 2
  omega
 unfold plU plL
 constructor
 ·rw [← vS _ _ (Nat.two_pow_pos (E - e).toNat), e1, e2, vS _ _ (Nat.two_pow_pos _)]
 ·rw [← vP _ _ (Nat.two_pow_pos (E - e).toNat), e1, e2, vP _ _ (Nat.two_pow_pos _)]
theorem LK (num den : Nat) (E e q : Int) (h : q ≤ e) : plU num den E q = upN num E e * 2 ^ (e - q).toNat / dnN den E e ∧ plL num den E q = lOf (upN num E e * 2 ^ (e - q).toNat) (dnN den E e) := by
 have e1 : upN num E q * 2 ^ (e - E).toNat = upN num E e * 2 ^ (e - q).toNat * 2 ^ (q - E).toNat := by
  unfold upN
  simp only [Nat.mul_assoc, ← Nat.pow_add]
  congr 2
  omega
 have e2 : dnN den E q * 2 ^ (e - E).toNat = dnN den E e * 2 ^ (q - E).toNat := by
  unfold dnN
  rw [Nat.mul_assoc, Nat.mul_assoc, Nat.mul_comm (2 ^ _)]
 unfold plU plL
 constructor
 ·rw [← vS _ _ (Nat.two_pow_pos (e - E).toNat), e1, e2, vS _ _ (Nat.two_pow_pos _)]
 ·rw [← vP _ _ (Nat.two_pow_pos (e - E).toNat), e1, e2, vP _ _ (Nat.two_pow_pos _)]
theorem nK (num den : Nat) (E e q : Int) (h : e ≤ q) : plU num den E q = plU num den E e / 2 ^ (q - e).toNat := by
 rw [(rH num den E e q h).1]
 unfold plU
 rw [Nat.div_div_eq_div_mul]
theorem Gj {num den : Nat} {E t t' : Int} (h : plU num den E t = 1) (h' : plU num den E t' = 1) : t = t' := by
 have key : ∀ a b : Int, a < b → plU num den E a = 1 → plU num den E b = 1 → False := by
  intro a b hab ha hb
  have := nK num den E a b (by omega)
  rw [ha, hb] at this
  obtain ⟨k, hk⟩ : ∃ k, (b - a).toNat = k + 1 := ⟨(b - a).toNat - 1, by omega⟩
  rw [hk, Nat.pow_succ, Nat.div_eq_of_lt (by have := Nat.two_pow_pos k; omega)] at this
  omega
 rcases Int.lt_trichotomy t t' with h1 | h1 | h1
 ·exact (key _ _ h1 h h').elim
 ·exact h1
 ·exact (key _ _ h1 h' h).elim
theorem PL {num den : Nat} {E e : Int} (h : plU num den E e ≠ 0) : plU num den E (e + dB (plU num den E e) - 1) = 1 := by
 have hp : 0 < dB (plU num den E e) := by rw [lC h]; omega
 rw [nK num den E e _ (by omega)]
 rw [show (e + (dB (plU num den E e) : Int) - 1 - e).toNat = dB (plU num den E e) - 1 by omega]
 have h1 := kP (plU num den E e)
 have h2 := oG h
 generalize plU num den E e = n at *
 obtain ⟨k, hk⟩ : ∃ k, dB n = k + 1 := ⟨dB n - 1, by omega⟩
 rw [hk] at h1 h2
 rw [hk]
 rw [Nat.add_sub_cancel] at h2 ⊢
 rw [Nat.pow_succ] at h1
 exact Nat.div_eq_of_lt_le (by omega) (by omega)
theorem oM {num den : Nat} {E t q : Int} (h : plU num den E t = 1) (hq : q ≤ t) : dB (plU num den E q) = (t - q).toNat + 1 := by
 have := nK num den E q t hq
 rw [h] at this
 have hP := Nat.two_pow_pos (t - q).toNat
 generalize plU num den E q = n at *
 have h1 := (Nat.div_eq_iff hP).1 this.symm
 refine ql (by omega) ?_
 rw [Nat.pow_succ]
 omega
theorem vT {num den : Nat} {E t q : Int} (h : plU num den E t = 1) (hq : t < q) : plU num den E q = 0 := by
 rw [nK num den E t q (by omega), h]
 obtain ⟨k, hk⟩ : ∃ k, (q - t).toNat = k + 1 := ⟨(q - t).toNat - 1, by omega⟩
 rw [hk, Nat.pow_succ]
 exact Nat.div_eq_of_lt (by have := Nat.two_pow_pos k; omega)
def vU (num den : Nat) (E : Int) : Int := if plU num den E ((dB num : Int) - dB den + E) = 0 then (dB num : Int) - dB den + E - 1 else (dB num : Int) - dB den + E
theorem oz {num den : Nat} (hn : num ≠ 0) (hd : 0 < den) (E : Int) : plU num den E (vU num den E) = 1 := by
 have hn1 := kP num
 have hn2 := oG hn
 have hd1 := kP den
 have hd2 := oG (v := den) (by omega)
 have hnp : 0 < dB num := by rw [lC hn]; omega
 have hdp : 0 < dB den := by rw [lC (by omega)]; omega
 generalize hb : dB num = b at *
 generalize hc : dB den = c at *
 obtain ⟨b', rfl⟩ : ∃ k, b = k + 1 := ⟨b - 1, by omega⟩
 obtain ⟨c', rfl⟩ : ∃ k, c = k + 1 := ⟨c - 1, by omega⟩
 rw [Nat.add_sub_cancel] at *
 have lt2 : plU num den E (((b' + 1 : Nat) : Int) - ((c' + 1 : Nat) : Int) + E) < 2 := by
  unfold plU upN dnN
  rw [Nat.div_lt_iff_lt_mul (Nat.mul_pos hd (Nat.two_pow_pos _))]
  calc num * 2 ^ (E - (((b' + 1 : Nat) : Int) - ((c' + 1 : Nat) : Int) + E)).toNat < 2 ^ (b' + 1) * 2 ^ (E - (((b' + 1 : Nat) : Int) - ((c' + 1 : Nat) : Int) + E)).toNat := Nat.mul_lt_mul_of_pos_right hn1 (Nat.two_pow_pos _)
   _ = 2 * (2 ^ c' * 2 ^ ((((b' + 1 : Nat) : Int) - ((c' + 1 : Nat) : Int) + E) - E).toNat) := by
    rw [← Nat.pow_add, ← Nat.pow_add, ← Nat.pow_succ']
    congr 1
    omega
   _ ≤ 2 * (den * 2 ^ ((((b' + 1 : Nat) : Int) - ((c' + 1 : Nat) : Int) + E) - E).toNat) := Nat.mul_le_mul_left _ (Nat.mul_le_mul_right _ hd2)
 have ge1 : 1 ≤ plU num den E (((b' + 1 : Nat) : Int) - ((c' + 1 : Nat) : Int) + E - 1) := by
  unfold plU upN dnN
  rw [Nat.le_div_iff_mul_le (Nat.mul_pos hd (Nat.two_pow_pos _)), Nat.one_mul]
  calc den * 2 ^ ((((b' + 1 : Nat) : Int) - ((c' + 1 : Nat) : Int) + E - 1) - E).toNat ≤ 2 ^ (c' + 1) * 2 ^ ((((b' + 1 : Nat) : Int) - ((c' + 1 : Nat) : Int) + E - 1) - E).toNat := Nat.mul_le_mul_right _ (by omega)
   _ = 2 ^ b' * 2 ^ (E - (((b' + 1 : Nat) : Int) - ((c' + 1 : Nat) : Int) + E - 1)).toNat := by
    rw [← Nat.pow_add, ← Nat.pow_add]
    congr 1
    omega
   _ ≤ _ := Nat.mul_le_mul_right _ hn2
 have hcl := nK num den E (((b' + 1 : Nat) : Int) - ((c' + 1 : Nat) : Int) + E - 1) (((b' + 1 : Nat) : Int) - ((c' + 1 : Nat) : Int) + E) (by omega)
 rw [show (((b' + 1 : Nat) : Int) - ((c' + 1 : Nat) : Int) + E - (((b' + 1 : Nat) : Int) - ((c' + 1 : Nat) : Int) + E - 1)).toNat = 1 by omega, Nat.pow_one] at hcl
 unfold vU
 rw [hb, hc]
 split
 ·rename_i h0; rw [h0] at hcl; omega
 ·omega
def uN (m : Int) (neg odd : Bool) (l : Nat) : Bool :=
 if m = 0 then decide (l = 3) || (decide (l = 2) && odd) else if m = 1 then decide (2 ≤ l) else if m = 3 then !neg else if m = 4 then neg else if m = 5 then !odd else false
def iE (m : Int) (neg : Bool) (u l : Nat) : Nat := if l ≠ 0 ∧ uN m neg (decide (u % 2 = 1)) l = true then u + 1 else u
theorem uo (m : Int) (neg : Bool) (u l : Nat) : u ≤ iE m neg u l := by unfold iE; split <;> omega
theorem qO (m : Int) (neg : Bool) (u l : Nat) : iE m neg u l ≤ u + 1 := by unfold iE; split <;> omega
theorem Ej (m : Int) (neg : Bool) (u : Nat) : iE m neg u 0 = u := by unfold iE; simp
structure Fm where
 W : Nat
 P : Nat
 emin : Int
 emax : Int
structure Fm.Ok (F : Fm) : Prop where
 p2 : 2 ≤ F.P
 pw : F.P < F.W
 w64 : F.W ≤ 64
 ee : F.emin ≤ F.emax
 fld : F.emax - F.emin + 2 < 2 ^ (F.W - F.P)
def lI (F : Fm) (m : Int) (neg : Bool) : Nat :=
 (if m = 0 ∨ m = 1 ∨ (m = 3 ∧ neg = false) ∨ (m = 4 ∧ neg = true) then (2 ^ (F.W - F.P) - 1) * 2 ^ (F.P - 1) else (2 ^ (F.W - F.P) - 2) * 2 ^ (F.P - 1) + (2 ^ (F.P - 1) - 1)) + if neg then 2 ^ (F.W - 1) else 0
def pV (F : Fm) (m : Int) (neg : Bool) (num den : Nat) (E : Int) : Nat × Nat :=
 let t := vU num den E
 let least := F.emin - F.P + 1
 let q := max (t - F.P + 1) least
 let n := iE m neg (plU num den E q) (plL num den E q)
 if F.emax + 1 < (dB n : Int) + q then (lI F m neg, 20)
 else ((q - least).toNat * 2 ^ (F.P - 1) + n + (if neg then 2 ^ (F.W - 1) else 0),
  if plL num den E q = 0 then 0 else if (dB (iE m neg (plU num den E (t - F.P + 1)) (plL num den E (t - F.P + 1))) : Int) + (t - F.P + 1) ≤ F.emin then 24 else 16)
structure Em (num den : Nat) (E : Int) (n : Nat) (e : Int) (mo : Bool) (P : Nat) : Prop where
 u : plU num den E e = n
 more : mo = decide (plL num den E e ≠ 0)
 pos : n ≠ 0
 long : mo = true → P + 3 ≤ dB n
def En (n : Nat) (e q : Int) : Nat := if 2 ≤ q - e then wM n (q - e - 2).toNat else n * 2 ^ (2 - (q - e)).toNat
theorem Em.cut {num den : Nat} {E : Int} {n : Nat} {e : Int} {more : Bool} {P : Nat} (h : Em num den E n e more P) (hd : 0 < den) {q : Int} (hq : 2 ≤ q - e ∨ more = false) :
  plU num den E q = En n e q / 4 ∧ plL num den E q = nJ (En n e q) more := by
 have hD := Ia hd E e
 have hm : more = decide (upN num E e % dnN den E e ≠ 0) := by
  rw [h.more]
  congr 1
  unfold plL lOf
  rw [Ne, zQ]
 by_cases h2 : 2 ≤ q - e
 ·have hc := rH num den E e q (by omega)
  rw [show (q - e).toNat = (q - e - 2).toNat + 2 by omega] at hc
  have hf := Og (upN num E e) (dnN den E e) (q - e - 2).toNat hD
  have hu : upN num E e / dnN den E e = n := h.u
  rw [hu] at hf
  unfold En
  rw [if_pos h2, hc.1, hc.2, hf.1, hf.2, hm]
  exact ⟨rfl, rfl⟩
 ·have hmf : more = false := by rcases hq with hq | hq; exact absurd hq h2; exact hq
  have hr : upN num E e % dnN den E e = 0 := by
   rw [hmf] at hm
   simpa using hm.symm
  have hA : upN num E e = n * dnN den E e := by
   have := Nat.div_add_mod (upN num E e) (dnN den E e)
   rw [hr, show upN num E e / dnN den E e = n from h.u] at this
   rw [← this, Nat.mul_comm]; rfl
  unfold En
  rw [if_neg h2, hmf]
  by_cases h0 : 0 ≤ q - e
  ·have hc := rH num den E e q (by omega)
   have hn := LJ n (q - e).toNat (by omega)
   rw [hA, Nat.mul_comm (dnN den E e), vS _ _ hD, vP _ _ hD] at hc
   rw [hc.1, hc.2, show (2 - (q - e)).toNat = 2 - (q - e).toNat by omega]
   exact hn
  ·have hc := LK num den E e q (by omega)
   rw [hA, Nat.mul_right_comm, Nat.mul_div_cancel _ hD] at hc
   rw [hc.1, hc.2]
   rw [show (2 - (q - e)).toNat = (e - q).toNat + 2 by omega, Nat.pow_add, ← Nat.mul_assoc]
   refine ⟨by omega, ?_⟩
   unfold lOf nJ
   rw [Nat.mul_mod_left]
   simp [tH]
theorem Em.top {num den : Nat} {E : Int} {n : Nat} {e : Int} {more : Bool} {P : Nat} (h : Em num den E n e more P) (hn : num ≠ 0) (hd : 0 < den) : vU num den E = e + dB n - 1 := by
 have := PL (num := num) (den := den) (E := E) (e := e) (by rw [h.u]; exact h.pos)
 rw [h.u] at this
 exact Gj (oz hn hd E) this
def qP (m : Int) (neg more : Bool) (n : Nat) (e q : Int) : Nat × Bool := (iE m neg (En n e q / 4) (nJ (En n e q) more), decide (nJ (En n e q) more ≠ 0))
def BF (F : Fm) (m : Int) (neg more : Bool) (n : Nat) (e : Int) : Nat × Nat :=
 let t := e + dB n - 1
 if F.emax < t then (lI F m neg, 20)
 else
  let least := F.emin - F.P + 1
  let q := max t F.emin - F.P + 1
  let u := (qP m neg more n e q).1
  if F.emax < q + dB u - 1 then (lI F m neg, 20)
  else ((q - least).toNat * 2 ^ (F.P - 1) + u + (if neg then 2 ^ (F.W - 1) else 0),
   if (qP m neg more n e q).2 = false then 0
   else if F.emin ≤ t then 16
   else if t - F.P + dB (qP m neg more n e (t - F.P + 1)).1 < F.emin then 24 else 16)
theorem Oh {F : Fm} (hF : F.Ok) {num den : Nat} {E : Int} {n : Nat} {e : Int} {more : Bool} (h : Em num den E n e more F.P) (hn : num ≠ 0) (hd : 0 < den) (m : Int) (neg : Bool) :
  BF F m neg more n e = pV F m neg num den E := by
 have ht := h.top hn hd
 have hts := oz hn hd E
 have hp2 := hF.p2
 have hee := hF.ee
 have hbn : 0 < dB n := by rw [lC h.pos]; omega
 have hq : ∀ q : Int, vU num den E - F.P + 1 ≤ q → 2 ≤ q - e ∨ more = false := fun q hq => by
  cases hm : more with
  | false => exact .inr rfl
  | true => have := h.long hm; left; omega
 have hcut : ∀ q : Int, vU num den E - F.P + 1 ≤ q → qP m neg more n e q = (iE m neg (plU num den E q) (plL num den E q), decide (plL num den E q ≠ 0)) := fun q h1 => by
  have := h.cut hd (hq q h1)
  unfold qP
  rw [← this.1, ← this.2]
 unfold BF pV
 rw [← ht]
 generalize vU num den E = t at *
 simp only []
 have hqq : max t F.emin - F.P + 1 = max (t - F.P + 1) (F.emin - F.P + 1) := by omega
 have hlow : ∀ q : Int, q = t - F.P + 1 → F.P ≤ dB (iE m neg (plU num den E q) (plL num den E q)) := fun q hq1 => by
  have h1 := oM hts (q := q) (by omega)
  have h2 := wV (uo m neg (plU num den E q) (plL num den E q))
  rw [h1] at h2
  omega
 obtain ⟨q, hqe⟩ : ∃ q, q = max (t - F.P + 1) (F.emin - F.P + 1) := ⟨_, rfl⟩
 rw [hqq, ← hqe, hcut q (by omega), hcut _ (Int.le_refl _)]
 simp only []
 have hlo := hlow _ rfl
 have hloq : t - F.P + 1 = q → F.P ≤ dB (iE m neg (plU num den E q) (plL num den E q)) := fun h => hlow q h.symm
 clear hlow hcut hq hqq
 generalize hy : dB (iE m neg (plU num den E (t - F.P + 1)) (plL num den E (t - F.P + 1))) = y at *
 generalize hx : dB (iE m neg (plU num den E q) (plL num den E q)) = x at *
 by_cases hb : F.emax < t
 ·have h2 : F.emax + 1 < (x : Int) + q := by have := hloq (by omega); omega
  rw [if_pos hb, if_pos h2]
 ·rw [if_neg hb]
  by_cases hb2 : F.emax < q + (x : Int) - 1
  ·have h2 : F.emax + 1 < (x : Int) + q := by omega
   rw [if_pos hb2, if_pos h2]
  ·have h2 : ¬ F.emax + 1 < (x : Int) + q := by omega
   rw [if_neg hb2, if_neg h2]
   congr 1
   by_cases hl : plL num den E q = 0
   ·rw [if_pos (by simp [hl]), if_pos hl]
   ·rw [if_neg (by simp [hl]), if_neg hl]
    by_cases hg : F.emin ≤ t
    ·have h3 : ¬ (y : Int) + (t - F.P + 1) ≤ F.emin := by omega
     rw [if_pos hg, if_neg h3]
    ·rw [if_neg hg]
     by_cases hz : t - F.P + (y : Int) < F.emin
     ·have h3 : (y : Int) + (t - F.P + 1) ≤ F.emin := by omega
      rw [if_pos hz, if_pos h3]
     ·have h3 : ¬ (y : Int) + (t - F.P + 1) ≤ F.emin := by omega
      rw [if_neg hz, if_neg h3]
end Go.Proofs.YtafikkmnkeddpaaGreatDoor
namespace Go.Proofs.YtafikkmnkeddpaaGreatDoor
theorem PN {num den : Nat} {E t k : Int} (h : plU num den E t = 1) (hk : plU num den E k ≠ 0) : k ≤ t := by
 rcases Int.lt_or_le t k with h1 | h1
 ·exact absurd (vT h h1) hk
 ·exact h1
theorem PO {num den : Nat} {E t k : Int} (h : plU num den E t = 1) (hk : plU num den E k = 0) : t < k := by
 rcases Int.lt_or_le t k with h1 | h1
 ·exact h1
 ·have := oM h h1
  rw [hk, qH] at this
  omega
theorem Oi {F : Fm} (hF : F.Ok) (m : Int) (neg : Bool) {num den : Nat} {E : Int} (hn : num ≠ 0) (hd : 0 < den) (h : plU num den E (F.emax + 1) ≠ 0) : pV F m neg num den E = (lI F m neg, 20) := by
 have hts := oz hn hd E
 have hg := PN hts h
 have hp2 := hF.p2
 have hee := hF.ee
 unfold pV
 generalize vU num den E = t at *
 simp only []
 have e : max (t - F.P + 1) (F.emin - F.P + 1) = t - F.P + 1 := by omega
 rw [e]
 have h1 := oM hts (q := t - F.P + 1) (by omega)
 have h2 := wV (uo m neg (plU num den E (t - F.P + 1)) (plL num den E (t - F.P + 1)))
 rw [h1] at h2
 rw [if_pos]
 omega
theorem Jd {F : Fm} (hF : F.Ok) (m : Int) (neg : Bool) {num den : Nat} {E : Int} (hn : num ≠ 0) (hd : 0 < den) (h : plU num den E (F.emin - F.P) = 0) :
  pV F m neg num den E = (iE m neg 0 1 + (if neg then 2 ^ (F.W - 1) else 0), 24) := by
 have hts := oz hn hd E
 have hg := PO hts h
 have hp2 := hF.p2
 have hee := hF.ee
 have hc := rH num den E (F.emin - F.P) (F.emin - F.P + 1) (by omega)
 have hU : plU num den E (F.emin - F.P + 1) = 0 := by rw [nK num den E (F.emin - F.P) _ (by omega), h]; simp
 have hL : plL num den E (F.emin - F.P + 1) = 1 := by
  rw [hc.2, show (F.emin - F.P + 1 - (F.emin - F.P)).toNat = 1 by omega, Nat.pow_one]
  have hD := Ia hd E (F.emin - F.P)
  have ha : upN num E (F.emin - F.P) < dnN den E (F.emin - F.P) := by
   have := (Nat.div_eq_zero_iff).1 h
   omega
  have hA : upN num E (F.emin - F.P) ≠ 0 := Nat.mul_ne_zero hn (by have := Nat.two_pow_pos (E - (F.emin - F.P)).toNat; omega)
  unfold lOf tH
  rw [Nat.mod_eq_of_lt (by omega), if_neg hA, if_pos (by omega)]
 unfold pV
 generalize vU num den E = t at *
 simp only []
 have e : max (t - F.P + 1) (F.emin - F.P + 1) = F.emin - F.P + 1 := by omega
 rw [e, hU, hL]
 have hb : dB (iE m neg 0 1) ≤ 1 := mY (by have := qO m neg 0 1; omega)
 have h1 := oM hts (q := t - F.P + 1) (by omega)
 have h2 : dB (iE m neg (plU num den E (t - F.P + 1)) (plL num den E (t - F.P + 1))) ≤ F.P + 1 := by
  refine mY ?_
  have h3 := qO m neg (plU num den E (t - F.P + 1)) (plL num den E (t - F.P + 1))
  have h4 := kP (plU num den E (t - F.P + 1))
  rw [h1, show (t - (t - F.P + 1)).toNat + 1 = F.P by omega] at h4
  rw [Nat.pow_succ]
  have := Nat.two_pow_pos F.P
  omega
 have h3 : ¬ F.emax + 1 < ((dB (iE m neg 0 1) : Nat) : Int) + (F.emin - F.P + 1) := by omega
 have h4 : ((dB (iE m neg (plU num den E (t - F.P + 1)) (plL num den E (t - F.P + 1))) : Nat) : Int) + (t - F.P + 1) ≤ F.emin := by omega
 rw [if_neg h3]
 congr 1
 ·simp
 ·rw [if_neg (show ¬ (1 : Nat) = 0 by decide), if_pos h4]
theorem PS {F : Fm} (hF : F.Ok) (m : Int) (neg : Bool) {num den : Nat} {E : Int} (hn : num ≠ 0) (hd : 0 < den) : (pV F m neg num den E).1 < 2 ^ F.W := by
 have hts := oz hn hd E
 have hp2 := hF.p2
 have hpw := hF.pw
 have hfld := hF.fld
 have hsg : (if neg = true then 2 ^ (F.W - 1) else 0) ≤ 2 ^ (F.W - 1) := by split <;> simp
 have hW : 2 ^ F.W = 2 ^ (F.W - 1) + 2 ^ (F.W - 1) := by
  have : F.W = (F.W - 1) + 1 := by omega
  rw [this, Nat.pow_succ, Nat.add_sub_cancel]
  omega
 have hW1 : 2 ^ (F.W - 1) = 2 ^ (F.W - F.P) * 2 ^ (F.P - 1) := by rw [← Nat.pow_add]; congr 1; omega
 have h2 : 2 ≤ 2 ^ (F.W - F.P) := by
  have := Nat.pow_le_pow_right (show 0 < 2 by decide) (show 1 ≤ F.W - F.P by omega)
  simpa using this
 have hP := Nat.two_pow_pos (F.P - 1)
 have hby : lI F m neg < 2 ^ F.W := by
  unfold lI
  generalize 2 ^ (F.W - F.P) = a at *
  generalize 2 ^ (F.P - 1) = b at *
  obtain ⟨c, rfl⟩ : ∃ c, a = c + 2 := ⟨a - 2, by omega⟩
  have e1 : (c + 2) * b = c * b + 2 * b := by rw [Nat.add_mul]
  have e2 : (c + 2 - 1) * b = c * b + b := by rw [show c + 2 - 1 = c + 1 by omega, Nat.add_mul]; omega
  have e3 : (c + 2 - 2) * b = c * b := rfl
  rw [e2, e3]
  split <;> omega
 unfold pV
 generalize vU num den E = t at *
 simp only []
 obtain ⟨q, hq⟩ : ∃ q, q = max (t - F.P + 1) (F.emin - F.P + 1) := ⟨_, rfl⟩
 rw [← hq]
 split
 ·exact hby
 ·rename_i hov
  simp only []
  generalize hn : iE m neg (plU num den E q) (plL num den E q) = n at *
  have hn1 := kP n
  have hnle : n ≤ 2 ^ F.P := by
   have h3 := qO m neg (plU num den E q) (plL num den E q)
   rw [hn] at h3
   have h4 : plU num den E q < 2 ^ F.P := by
    rcases Int.lt_or_le t q with h5 | h5
    ·rw [vT hts h5]; exact Nat.two_pow_pos _
    ·have h6 := oM hts h5
     have h7 := kP (plU num den E q)
     rw [h6] at h7
     exact Nat.lt_of_lt_of_le h7 (Nat.pow_le_pow_right (by decide) (by omega))
   omega
  have hPP : 2 ^ F.P = 2 * 2 ^ (F.P - 1) := by
   have : F.P = (F.P - 1) + 1 := by omega
   rw [this, Nat.pow_succ, Nat.add_sub_cancel]
   omega
  obtain ⟨k, hk⟩ : ∃ k, k = (q - (F.emin - F.P + 1)).toNat := ⟨_, rfl⟩
  rw [← hk]
  have key : k * 2 ^ (F.P - 1) + n < 2 ^ (F.W - 1) := by
   rw [hW1]
   by_cases hs : dB n ≤ F.P
   ·have h8 : n < 2 ^ F.P := Nat.lt_of_lt_of_le hn1 (Nat.pow_le_pow_right (by decide) hs)
    by_cases hqe : q ≤ F.emax - F.P + 1
    ·have hkl : k + 2 ≤ 2 ^ (F.W - F.P) := by
      have : ((k : Int) + 2) ≤ ((2 ^ (F.W - F.P) : Nat) : Int) := by push_cast; omega
      omega
     have := Nat.mul_le_mul_right (2 ^ (F.P - 1)) hkl
     rw [Nat.add_mul] at this
     omega
    ·
     have hqt : q = t - F.P + 1 := by have := hF.ee; omega
     have h9 := oM hts (q := q) (by omega)
     have h10 := wV (uo m neg (plU num den E q) (plL num den E q))
     rw [hn, h9] at h10
     omega
   ·have hqe : q + 1 ≤ F.emax - F.P + 1 := by omega
    have hkl : k + 3 ≤ 2 ^ (F.W - F.P) := by
     have : ((k : Int) + 3) ≤ ((2 ^ (F.W - F.P) : Nat) : Int) := by push_cast; omega
     omega
    have := Nat.mul_le_mul_right (2 ^ (F.P - 1)) hkl
    rw [Nat.add_mul] at this
    omega
  omega
structure rX (num den : Nat) (n r : Nat) (s : Nat) : Prop where
 eq : n * den + r = num * 2 ^ s
 lt : r < den
theorem rX.step0 {num den n r s : Nat} (h : rX num den n r s) (h2 : r + r < den) : rX num den (n + n) (r + r) (s + 1) :=
 ⟨by rw [Nat.add_mul, Nat.pow_succ, ← Nat.mul_assoc, ← h.eq]; omega, h2⟩
theorem rX.step1 {num den n r s : Nat} (h : rX num den n r s) (h2 : den ≤ r + r) : rX num den (n + n + 1) (r + r - den) (s + 1) :=
 ⟨by rw [Nat.add_mul, Nat.add_mul, Nat.pow_succ, ← Nat.mul_assoc, ← h.eq]; omega, by have := h.lt; omega⟩
theorem rX.done {num den n r s : Nat} (h : rX num den n r s) (hn : num ≠ 0) (P : Nat) (hl : P + 3 ≤ dB n ∨ r = 0) (E : Int) : Em num den E n (E - s) (decide (0 < r)) P := by
 have hd : 0 < den := Nat.lt_of_le_of_lt (Nat.zero_le _) h.lt
 have hU : upN num E (E - s) = n * den + r := by unfold upN; rw [h.eq]; congr 2; omega
 have hD : dnN den E (E - s) = den := by unfold dnN; rw [show ((E - (s : Int)) - E).toNat = 0 by omega]; simp
 have h1 : (n * den + r) / den = n := by rw [Nat.mul_comm, Nat.mul_add_div hd, Nat.div_eq_of_lt h.lt]; omega
 have h2 : (n * den + r) % den = r := by rw [Nat.mul_comm, Nat.mul_add_mod, Nat.mod_eq_of_lt h.lt]
 refine ⟨by unfold plU; rw [hU, hD, h1], ?_, ?_, ?_⟩
 ·unfold plL lOf
  rw [hU, hD, h2]
  congr 1
  exact propext (by rw [ne_eq, zQ]; omega)
 ·rintro rfl
  rcases hl with hl | hl
  ·rw [qH] at hl; omega
  ·subst hl
   have := h.eq
   rw [Nat.zero_mul, Nat.zero_add] at this
   exact Nat.mul_ne_zero hn (by have := Nat.two_pow_pos s; omega) this.symm
 ·intro hm
  have : 0 < r := by simpa using hm
  omega
theorem xH {n : Nat} (h : n ≠ 0) : dB (n + n) = dB n + 1 ∧ dB (n + n + 1) = dB n + 1 := by
 have h1 := kP n
 have h2 := oG h
 obtain ⟨k, hk⟩ : ∃ k, dB n = k + 1 := ⟨dB n - 1, by rw [lC h]; omega⟩
 rw [hk] at h1 h2 ⊢
 rw [Nat.add_sub_cancel] at h2
 have e : 2 ^ (k + 1 + 1) = 2 * 2 ^ (k + 1) := by rw [Nat.pow_succ 2 (k + 1)]; omega
 have e2 : 2 ^ (k + 1) = 2 * 2 ^ k := by rw [Nat.pow_succ]; omega
 exact ⟨ql (by omega) (by omega), ql (by omega) (by omega)⟩
end Go.Proofs.YtafikkmnkeddpaaGreatDoor
namespace Go.Proofs.YtafikkmnkeddpaaGreatDoor
def qx (F : Fm) (m : Int) (neg : Bool) (n : Nat) (x : Int) : Nat × Nat := pV F m neg (n * 10 ^ x.toNat) (10 ^ (-x).toNat) 0
structure Fm.Small (F : Fm) : Prop where
 ok : F.Ok
 top : F.emax ≤ 1023
 top0 : 0 ≤ F.emax
 low : -1075 ≤ F.emin - F.P
 low0 : F.emin - F.P ≤ 0
theorem lX (k : Nat) : 0 < 10 ^ k := Nat.pow_pos (by decide)
theorem OX {c : Nat} (h : c = 399) : 2 ^ 1024 ≤ 10 ^ c := by subst h; decide +kernel
theorem OY {c : Nat} (h : c = 400) : 2 ^ 1075 ≤ 10 ^ c := by subst h; decide +kernel
theorem Dy {F : Fm} (hF : F.Small) (m : Int) (neg : Bool) {n L : Nat} (h1 : 10 ^ L ≤ n) {x : Int} (hx : 399 ≤ L + x) : qx F m neg n x = (lI F m neg, 20) := by
 have hn : n ≠ 0 := by have := lX L; omega
 have hnum : n * 10 ^ x.toNat ≠ 0 := Nat.mul_ne_zero hn (by have := lX x.toNat; omega)
 refine Oi hF.ok m neg hnum (lX _) ?_
 obtain ⟨c, hc⟩ : ∃ c : Nat, c = 399 := ⟨_, rfl⟩
 have hh : (-x).toNat + c ≤ L + x.toNat := by omega
 have hle : 10 ^ (-x).toNat * 2 ^ (F.emax + 1).toNat ≤ n * 10 ^ x.toNat := by
  have e2 : 2 ^ (F.emax + 1).toNat ≤ 10 ^ c := Nat.le_trans (Nat.pow_le_pow_right (by decide) (by have := hF.top; omega)) (OX hc)
  calc 10 ^ (-x).toNat * 2 ^ (F.emax + 1).toNat ≤ 10 ^ (-x).toNat * 10 ^ c := Nat.mul_le_mul_left _ e2
   _ = 10 ^ ((-x).toNat + c) := (Nat.pow_add _ _ _).symm
   _ ≤ 10 ^ (L + x.toNat) := Nat.pow_le_pow_right (by decide) hh
   _ = 10 ^ L * 10 ^ x.toNat := Nat.pow_add _ _ _
   _ ≤ n * 10 ^ x.toNat := Nat.mul_le_mul_right _ h1
 unfold plU upN dnN
 have h0 := hF.top0
 rw [show (0 - (F.emax + 1)).toNat = 0 by omega, Nat.pow_zero, Nat.mul_one, show F.emax + 1 - 0 = F.emax + 1 by omega]
 have := (Nat.le_div_iff_mul_le (Nat.mul_pos (lX (-x).toNat) (Nat.two_pow_pos (F.emax + 1).toNat))).2 (by rw [Nat.one_mul]; exact hle)
 omega
theorem yC {F : Fm} (hF : F.Small) (m : Int) (neg : Bool) {n L : Nat} (h0 : n ≠ 0) (h1 : n < 10 ^ L) {x : Int} (hx : L + x ≤ -400) : qx F m neg n x = (iE m neg 0 1 + (if neg then 2 ^ (F.W - 1) else 0), 24) := by
 have hnum : n * 10 ^ x.toNat ≠ 0 := Nat.mul_ne_zero h0 (by have := lX x.toNat; omega)
 refine Jd hF.ok m neg hnum (lX _) ?_
 have hlo := hF.low
 have hlo0 := hF.low0
 obtain ⟨c, hc⟩ : ∃ c : Nat, c = 400 := ⟨_, rfl⟩
 have hh : L + c ≤ (-x).toNat := by omega
 have hlt : n * 10 ^ x.toNat * 2 ^ (-(F.emin - F.P)).toNat < 10 ^ (-x).toNat := by
  have e2 : 2 ^ (-(F.emin - F.P)).toNat ≤ 10 ^ c := Nat.le_trans (Nat.pow_le_pow_right (by decide) (by omega)) (OY hc)
  rw [show x.toNat = 0 by omega, Nat.pow_zero, Nat.mul_one]
  calc n * 2 ^ (-(F.emin - F.P)).toNat < 10 ^ L * 2 ^ (-(F.emin - F.P)).toNat := Nat.mul_lt_mul_of_pos_right h1 (Nat.two_pow_pos _)
   _ ≤ 10 ^ L * 10 ^ c := Nat.mul_le_mul_left _ e2
   _ = 10 ^ (L + c) := (Nat.pow_add _ _ _).symm
   _ ≤ 10 ^ (-x).toNat := Nat.pow_le_pow_right (by decide) hh
 unfold plU upN dnN
 rw [show 0 - (F.emin - F.P) = -(F.emin - F.P) by omega, show (F.emin - (F.P : Int) - 0).toNat = 0 by omega, Nat.pow_zero, Nat.mul_one]
 exact Nat.div_eq_of_lt hlt
theorem EN {F : Fm} (hF : F.Small) (m : Int) (neg : Bool) {n L : Nat} (h1 : 10 ^ L ≤ n) (h2 : n < 10 ^ (L + 1)) {x lo hi : Int} (hlo : lo + L ≤ -401) (hhi : 399 ≤ hi + L) : qx F m neg n (max lo (min x hi)) = qx F m neg n x := by
 have hn : n ≠ 0 := by have := lX L; omega
 rcases Int.lt_or_le hi x with h | h
 ·rw [Dy hF m neg h1 (by omega), Dy hF m neg h1 (by omega)]
 ·rcases Int.lt_or_le x lo with h' | h'
  ·rw [yC hF m neg hn h2 (by omega), yC hF m neg hn h2 (by omega)]
  ·rw [show max lo (min x hi) = x by omega]
end Go.Proofs.YtafikkmnkeddpaaGreatDoor
namespace Go.Proofs.YtafikkmnkeddpaaGreatDoor.P
open Go.RowKit Go.Proofs.YtafikkmnkeddpaaGreatDoorW.PrintWords Go.Proofs.YtafikkmnkeddpaaGreatDoorW.PrintLast Go.Proofs.YtafikkmnkeddpaaGreatDoorW.PrintMore
structure IsF (a : Int) (F : Fm) : Prop where
 row : bW.f a = some ((F.W : Int), (F.P : Int), F.emin, F.emax, true)
 small : F.Small
 ones : 2 * F.emax + 2 = ((2 ^ (F.W - F.P) : Nat) : Int)
 emin1 : -2000 ≤ F.emin
def fmH : Fm := ⟨16, 11, -14, 15⟩
def fmB : Fm := ⟨16, 8, -126, 127⟩
def fmS : Fm := ⟨32, 24, -126, 127⟩
def fmD : Fm := ⟨64, 53, -1022, 1023⟩
theorem RI : IsF 0 fmH := ⟨rfl, ⟨⟨by decide, by decide, by decide, by decide, by decide⟩, by decide, by decide, by decide, by decide⟩, by decide, by decide⟩
theorem RJ : IsF 1 fmB := ⟨rfl, ⟨⟨by decide, by decide, by decide, by decide, by decide⟩, by decide, by decide, by decide, by decide⟩, by decide, by decide⟩
theorem RN : IsF 2 fmS := ⟨rfl, ⟨⟨by decide, by decide, by decide, by decide, by decide⟩, by decide, by decide, by decide, by decide⟩, by decide, by decide⟩
theorem RP : IsF 3 fmD := ⟨rfl, ⟨⟨by decide, by decide, by decide, by decide, by decide⟩, by decide, by decide, by decide, by decide⟩, by decide, by decide⟩
theorem uj {v n : Nat} : (toW (v * 2 ^ n)).length ≤ (toW v).length + n / 64 + 1 := by
 refine jZ ?_
 have h1 := nV v
 have h2 : 2 ^ n ≤ WB ^ (n / 64 + 1) := by
  rw [show WB = 2 ^ 64 from rfl, ← Nat.pow_mul]
  exact Nat.pow_le_pow_right (by decide) (by omega)
 rw [Nat.add_assoc, Nat.pow_add]
 exact Nat.lt_of_lt_of_le (Nat.mul_lt_mul_of_pos_right h1 (Nat.two_pow_pos n)) (Nat.mul_le_mul_left _ h2)
theorem rE (v : Nat) : dB v ≤ 64 * (toW v).length := mY (by have := nV v; rwa [show WB = 2 ^ 64 from rfl, ← Nat.pow_mul] at this)
theorem Hr {x s : Nat} (hs : s ≤ 64) (h : x * 2 ^ s < 18446744073709551616) : shl .u64 (x : Int) (s : Int) = ((x * 2 ^ s : Nat) : Int) := by
 rw [NK _ _ hs]
 have := RG (a := x) (b := 2 ^ s) h
 rwa [Int.natCast_pow] at this
end Go.Proofs.YtafikkmnkeddpaaGreatDoor.P
namespace Go.Proofs.YtafikkmnkeddpaaGreatDoor.P
open Go.RowKit Go.Proofs.YtafikkmnkeddpaaGreatDoorW.PrintWords Go.Proofs.YtafikkmnkeddpaaGreatDoorW.PrintLast Go.Proofs.YtafikkmnkeddpaaGreatDoorW.PrintMore
def isD (c : UInt8) : Bool := decide (48 ≤ c.toNat) && decide (c.toNat ≤ 57)
abbrev bl (s : ByteArray) : List UInt8 := s.data.toList
theorem jU (s : ByteArray) : (bl s).length = s.size := Array.length_toList
theorem lM (s : ByteArray) : s.toList = bl s := ByteArray.toList_eq s
theorem ou (s : ByteArray) (i : Nat) : bl (s.extract i s.size) = (bl s).drop i := by
 have : bl (s.extract i s.size) = ((bl s).drop i).take (s.size - i) := by simp [bl]
 rw [this, List.take_of_length_le (by rw [List.length_drop, jU]; exact Nat.le_refl _)]
theorem pR (s : ByteArray) (i : Nat) : (s.extract i s.size).size = s.size - i := by rw [← jU, ou, List.length_drop, jU]
theorem drop_cons {l : List UInt8} {i : Nat} (h : i < l.length) : l.drop i = l.getD i 0 :: l.drop (i + 1) := by
 rw [List.drop_eq_getElem_cons h, List.getD_eq_getElem?_getD, List.getElem?_eq_getElem h]
 rfl
theorem tq (s : ByteArray) (i : Nat) : byt s i = ((bl s).getD i 0).toNat := rfl
theorem QF (c : UInt8) (n : Nat) (h : n < 256) : ((c.toNat : Int) = (n : Int)) = (c = UInt8.ofNat n) := by
 apply propext
 constructor
 ·intro e
  apply UInt8.toNat_inj.1
  rw [Int.ofNat_inj.1 e, UInt8.toNat_ofNat', Nat.mod_eq_of_lt h]
 ·rintro rfl
  rw [UInt8.toNat_ofNat', Nat.mod_eq_of_lt h]
theorem NM (c : UInt8) : gX.f ((c.toNat : Nat) : Int) = some (isD c) := by
 unfold gX.f isD
 by_cases h : 48 ≤ c.toNat
 ·rw [if_pos (by omega), decide_eq_true h, Bool.true_and]
  congr 1
  exact decide_eq_decide.2 (by omega)
 ·rw [if_neg (by omega), decide_eq_false h, Bool.false_and]
def vK (neg : Bool) (x : Int) : Int := if neg then -x else x
def wO (M : Nat) (l : List UInt8) (neg : Bool) : Int × Bool := if l ≠ [] ∧ l.all isD = true then (vK neg ((min (dn l) M : Nat) : Int), true) else (0, false)
def jB (l : List UInt8) : List UInt8 := if l.getD 0 0 = 45 ∨ l.getD 0 0 = 43 then l.drop 1 else l
def jP (l : List UInt8) : Bool := decide (l.getD 0 0 = 45)
def exS (M : Nat) (l : List UInt8) : Int × Bool := wO M (jB l) (jP l)
theorem NP (M x d : Nat) (h : M ≤ 1000000000) (hd : d ≤ 9) : mn (wrap64 ((wrap64 (10 * ((min x M : Nat) : Int))) + (d : Int))) (M : Int) = ((min (10 * x + d) M : Nat) : Int) := by
 rw [w64 (x := 10 * ((min x M : Nat) : Int)) (by omega) (by omega), w64 (by omega) (by omega)]
 unfold mn
 split <;> omega
theorem NQ {c : UInt8} (h : isD c = true) : (((c.toNat : Int) - 48) % 256) = ((c.toNat - 48 : Nat) : Int) ∧ c.toNat - 48 ≤ 9 := by
 unfold isD at h
 simp only [Bool.and_eq_true, decide_eq_true_eq] at h
 omega
theorem AB {l : List UInt8} {i : Nat} (hi : i < l.length) (h : isD (l.getD i 0) = false) : l.all isD = false := by
 rw [List.all_eq_false]
 refine ⟨l[i], List.getElem_mem hi, ?_⟩
 rw [List.getD_eq_getElem?_getD, List.getElem?_eq_getElem hi] at h
 simpa using h
theorem AL {l : List UInt8} {i : Nat} (hi : i < l.length) (h0 : (l.take i).all isD = true) (h : isD (l.getD i 0) = true) : (l.take (i + 1)).all isD = true := by
 rw [List.take_succ_eq_append_getElem hi, List.all_append, h0]
 rw [List.getD_eq_getElem?_getD, List.getElem?_eq_getElem hi] at h
 simpa using h
def exV (l : List UInt8) : Bool × Nat × Bool := (jP l, dn (jB l), decide (jB l ≠ [] ∧ (jB l).all isD = true))
theorem NR (M : Nat) (l : List UInt8) : exS M l = if (exV l).2.2 = true then (vK (exV l).1 ((min (exV l).2.1 M : Nat) : Int), true) else (0, false) := by
 unfold exS wO exV
 simp only [decide_eq_true_eq]
def NS (M : Nat) (e : Bool × Nat × Int) : Int := vK e.1 ((min e.2.1 M : Nat) : Int) - e.2.2
def kF : List UInt8 → List UInt8 → Int → List UInt8 × (Bool × Nat × Int) × Bool
 | [], D, b => (D, (false, 0, mx 0 b), decide (D ≠ []))
 | c :: l, D, b => if isD c = true then kF l (D ++ [c]) (if b ≥ 0 then b + 1 else b) else if c = 46 ∧ b < 0 then kF l D 0
  else if c = 101 ∨ c = 69 then (D, ((exV l).1, (exV l).2.1, mx 0 b), (exV l).2.2 && decide (D ≠ [])) else (D, (false, 0, 0), false)
theorem FX (x : Int) (n : Int) (p : Prop) [Decidable p] (h : (x = n) = p) : (x == n) = decide p := by
 rw [Bool.eq_iff_iff, beq_iff_eq, decide_eq_true_eq, h]
theorem b8 (c : UInt8) (n : Nat) (h : n < 256) (c' : UInt8) (hc : c' = UInt8.ofNat n) (x : Int) (hx : x = (n : Int)) : ((c.toNat : Int) = x) = (c = c') := by
 rw [hx, hc]; exact QF c n h
theorem FY (neg : Bool) (x : Nat) (h : x ≤ 1000000000) : -1000000000 ≤ vK neg (x : Int) ∧ vK neg (x : Int) ≤ 1000000000 := by
 cases neg <;> simp [vK] <;> omega
theorem mx0 {b : Int} (h : -1 ≤ b) (h2 : b ≤ 1000000) : 0 ≤ mx 0 b ∧ mx 0 b ≤ 1000000 := by unfold mx; split <;> omega
def kY (c : UInt8) : UInt8 := if 65 ≤ c.toNat ∧ c.toNat ≤ 90 then UInt8.ofNat (c.toNat + 32) else c
theorem str1 (x : Nat) : bl (strOfNums [((x : Nat) : Int)]) = [UInt8.ofNat x] := by
 unfold bl
 rw [strOfNums_data]
 rfl
theorem Ht (x : Int) : (strOfNums [x]).size = 1 := by rw [strOfNums_size]; rfl
def CY : List UInt8 := [105, 110, 102]
def CZ : List UInt8 := [110, 97, 110]
end Go.Proofs.YtafikkmnkeddpaaGreatDoor.P
namespace Go.Proofs.YtafikkmnkeddpaaGreatDoor.P
open Go.RowKit Go.Proofs.YtafikkmnkeddpaaGreatDoorW.PrintWords Go.Proofs.YtafikkmnkeddpaaGreatDoorW.PrintLast Go.Proofs.YtafikkmnkeddpaaGreatDoorW.PrintMore
theorem tu (a b : Int) : mx a b = max a b := by unfold mx; split <;> omega
theorem QG (a b : Int) : mn a b = min a b := by unfold mn; split <;> omega
theorem NT (c : UInt8) : isD c = true ↔ 48 ≤ c.toNat ∧ c.toNat ≤ 57 := by unfold isD; simp
theorem D_ {l : List UInt8} (h : l.all isD = true) : n_ l := fun b hb => (NT b).1 (List.all_eq_true.1 h b hb)
theorem rF : ∀ (l D : List UInt8) (b : Int), D.all isD = true → -1 ≤ b → (kF l D b).1.all isD = true ∧ (kF l D b).1.length ≤ D.length + l.length ∧ 0 ≤ (kF l D b).2.1.2.2 ∧ (kF l D b).2.1.2.2 ≤ mx 0 b + l.length ∧ ((kF l D b).2.2 = true → (kF l D b).1 ≠ [])
 | [], D, b, h, hb => by
  have : 0 ≤ mx 0 b := by unfold mx; split <;> omega
  refine ⟨h, by simp [kF], this, by simp [kF], fun hk => by simpa [kF] using hk⟩
 | c :: l, D, b, h, hb => by
  have hm : 0 ≤ mx 0 b := by unfold mx; split <;> omega
  unfold kF
  split
  ·rename_i hc
   have h' : (D ++ [c]).all isD = true := by rw [List.all_append, h]; simpa using hc
   by_cases h0 : b ≥ 0
   ·rw [if_pos h0]
    obtain ⟨h1, h2, h3, h4, h5⟩ := rF l (D ++ [c]) (b + 1) h' (by omega)
    have e1 : mx 0 (b + 1) = mx 0 b + 1 := by rw [tu, tu]; omega
    exact ⟨h1, by simp at h2 ⊢; omega, h3, by rw [e1] at h4; simp; omega, h5⟩
   ·rw [if_neg h0]
    obtain ⟨h1, h2, h3, h4, h5⟩ := rF l (D ++ [c]) b h' hb
    exact ⟨h1, by simp at h2 ⊢; omega, h3, by simp; omega, h5⟩
  ·split
   ·rename_i hc hp
    obtain ⟨h1, h2, h3, h4, h5⟩ := rF l D 0 h (by decide)
    have e1 : mx 0 0 = 0 := by unfold mx; split <;> omega
    exact ⟨h1, by simp; omega, h3, by rw [e1] at h4; simp; omega, h5⟩
   ·split
    ·exact ⟨h, by simp, hm, by simp; omega, fun hk => by
      simp only [Bool.and_eq_true, decide_eq_true_eq] at hk
      exact hk.2⟩
    ·exact ⟨h, by simp, Int.le_refl 0, by simp; omega, fun hk => by cases hk⟩
def xM (e : Bool × Nat × Int) : Int := vK e.1 (e.2.1 : Int) - e.2.2
theorem FZ {M : Nat} (hM : 100000 ≤ M) (e : Bool × Nat × Int) (h1 : 0 ≤ e.2.2) (h2 : e.2.2 ≤ 3000) {lo hi : Int} (hlo : -20000 ≤ lo) (hhi : hi ≤ 20000) (hlh : lo ≤ hi) : max lo (min (NS M e) hi) = max lo (min (xM e) hi) := by
 unfold NS xM
 obtain ⟨n, x, y⟩ := e
 simp only [] at *
 by_cases hx : x ≤ M
 ·rw [Nat.min_eq_left hx]
 ·rw [Nat.min_eq_right (by omega)]
  cases n <;> simp only [vK, if_true, Bool.false_eq_true, if_false] <;> omega
def mQ (a : Int) : Option Fm := if a = 0 then some fmH else if a = 1 then some fmB else if a = 2 then some fmS else if a = 3 then some fmD else none
theorem vM {a : Int} {F : Fm} (h : mQ a = some F) : IsF a F := by
 unfold mQ at h
 split at h
 ·rename_i h0; subst h0; cases h; exact RI
 ·split at h
  ·rename_i h0; subst h0; cases h; exact RJ
  ·split at h
   ·rename_i h0; subst h0; cases h; exact RN
   ·split at h
    ·rename_i h0; subst h0; cases h; exact RP
    ·cases h
theorem I9 {a : Int} (h : mQ a = none) : a ≠ 0 ∧ a ≠ 1 ∧ a ≠ 2 ∧ a ≠ 3 := by
 unfold mQ at h
 split at h
 ·cases h
 ·split at h
  ·cases h
  ·split at h
   ·cases h
   ·split at h
    ·cases h
    ·exact ⟨by assumption, by assumption, by assumption, by assumption⟩
def rG (a m : Int) (l : List UInt8) : Int × Int × Int :=
  match mQ a with
  | none => (0, 0, 2)
  | some F =>
    if m < 0 ∨ 5 < m then (0, 0, 3)
    else if 2000 < l.length then (0, 0, 5)
    else if (jB l).map kY = CY then (((2 ^ (F.W - F.P) - 1) * 2 ^ (F.P - 1) + (if jP l = true then 2 ^ (F.W - 1) else 0) : Nat), 0, 0)
    else if (jB l).map kY = CZ then (((2 ^ (F.W - F.P) - 1) * 2 ^ (F.P - 1) + 2 ^ (F.P - 2) : Nat), 0, 0)
    else if (kF (jB l) [] (-1)).2.2 = true then
      (if dn (kF (jB l) [] (-1)).1 = 0 then (((if jP l = true then 2 ^ (F.W - 1) else 0 : Nat) : Int), 0, 0)
       else (((qx F m (jP l) (dn (kF (jB l) [] (-1)).1) (xM (kF (jB l) [] (-1)).2.1)).1 : Int), ((qx F m (jP l) (dn (kF (jB l) [] (-1)).1) (xM (kF (jB l) [] (-1)).2.1)).2 : Int), 0))
    else (0, 0, 8)
theorem Hu {v k : Nat} (h : v < 10 ^ k) : (toW v).length ≤ k / 19 + 1 := jZ (Nat.lt_of_lt_of_le h (zJ k))
theorem F5 (k : Nat) : (toW (10 ^ k)).length ≤ (k + 1) / 19 + 1 := Hu (by rw [Nat.pow_succ]; have := lX k; omega)
end Go.Proofs.YtafikkmnkeddpaaGreatDoor.P
namespace Go.Proofs.YtafikkmnkeddpaaGreatDoor.P
open Go.RowKit Go.Proofs.YtafikkmnkeddpaaGreatDoorW.PrintWords Go.Proofs.YtafikkmnkeddpaaGreatDoorW.PrintLast Go.Proofs.YtafikkmnkeddpaaGreatDoorW.PrintMore
theorem mM {P : Int → Fm → Prop} (h0 : P 0 fmH) (h1 : P 1 fmB) (h2 : P 2 fmS) (h3 : P 3 fmD) {a : Int} {F : Fm} (h : mQ a = some F) : P a F := by
 unfold mQ at h
 split at h
 ·rename_i e; subst e; cases h; exact h0
 ·split at h
  ·rename_i e; subst e; cases h; exact h1
  ·split at h
   ·rename_i e; subst e; cases h; exact h2
   ·split at h
    ·rename_i e; subst e; cases h; exact h3
    ·cases h
theorem Hw {a : Int} {F : Fm} (h : mQ a = some F) : bg.f a = some ((F.W : Int), (F.P : Int), F.emin, F.emax, 0) := by
 refine mM (P := fun a F => bg.f a = some ((F.W : Int), (F.P : Int), F.emin, F.emax, 0)) ?_ ?_ ?_ ?_ h <;> rfl
theorem Ea {a : Int} (h : mQ a = none) : bg.f a = some (0, 0, 0, 0, 2) := by
 obtain ⟨h0, h1, h2, h3⟩ := I9 h
 unfold bg.f l7
 rw [if_neg h0, if_neg h1, if_neg h2, if_neg h3]
theorem QH {a : Int} {F : Fm} (h : mQ a = some F) (neg : Bool) : dM.f a neg = some ((((2 ^ (F.W - F.P) - 1) * 2 ^ (F.P - 1) + (if neg = true then 2 ^ (F.W - 1) else 0) : Nat) : Int), 0) := by
 refine mM (P := fun a F => dM.f a neg = some ((((2 ^ (F.W - F.P) - 1) * 2 ^ (F.P - 1) + (if neg = true then 2 ^ (F.W - 1) else 0) : Nat) : Int), 0)) ?_ ?_ ?_ ?_ h <;> cases neg <;> decide +kernel
theorem I_ {a : Int} {F : Fm} (h : mQ a = some F) (neg : Bool) : fQ.f a neg = some ((((2 ^ (F.W - F.P) - 2) * 2 ^ (F.P - 1) + (2 ^ (F.P - 1) - 1) + (if neg = true then 2 ^ (F.W - 1) else 0) : Nat) : Int), 0) := by
 refine mM (P := fun a F => fQ.f a neg = some ((((2 ^ (F.W - F.P) - 2) * 2 ^ (F.P - 1) + (2 ^ (F.P - 1) - 1) + (if neg = true then 2 ^ (F.W - 1) else 0) : Nat) : Int), 0)) ?_ ?_ ?_ ?_ h <;> cases neg <;> decide +kernel
theorem QI {a : Int} {F : Fm} (h : mQ a = some F) (neg : Bool) : gZ.f a neg = some (((if neg = true then 2 ^ (F.W - 1) else 0 : Nat) : Int), 0) := by
 refine mM (P := fun a F => gZ.f a neg = some (((if neg = true then 2 ^ (F.W - 1) else 0 : Nat) : Int), 0)) ?_ ?_ ?_ ?_ h <;> cases neg <;> decide +kernel
theorem RQ {a : Int} {F : Fm} (h : mQ a = some F) : jw.f a = some ((((2 ^ (F.W - F.P) - 1) * 2 ^ (F.P - 1) + 2 ^ (F.P - 2) : Nat) : Int), 0) := by
 refine mM (P := fun a F => jw.f a = some ((((2 ^ (F.W - F.P) - 1) * 2 ^ (F.P - 1) + 2 ^ (F.P - 2) : Nat) : Int), 0)) ?_ ?_ ?_ ?_ h <;> decide +kernel
theorem NV {a : Int} {F : Fm} (h : mQ a = some F) (m : Int) (neg : Bool) : Ev (fun k => aQ.f k a m neg) ((lI F m neg : Nat) : Int) := by
 have hI : ∀ neg : Bool, Ev (fun k => aQ.j0 k a neg true) (((2 ^ (F.W - F.P) - 1) * 2 ^ (F.P - 1) + (if neg = true then 2 ^ (F.W - 1) else 0) : Nat) : Int) := fun neg => Ev.one fun k => by
  rw [aQ.j0, if_pos rfl, QH h]
  rfl
 have hG : ∀ neg : Bool, Ev (fun k => aQ.j0 k a neg false) (((2 ^ (F.W - F.P) - 2) * 2 ^ (F.P - 1) + (2 ^ (F.P - 1) - 1) + (if neg = true then 2 ^ (F.W - 1) else 0) : Nat) : Int) := fun neg => Ev.one fun k => by
  rw [aQ.j0, if_neg (by decide), I_ h]
  rfl
 unfold aQ.f lI
 by_cases m0 : m = 0
 ·subst m0; simpa using hI neg
 ·by_cases m1 : m = 1
  ·subst m1; simpa using hI neg
  ·by_cases m3 : m = 3
   ·subst m3
    cases neg
    ·simpa using hI false
    ·simpa using hG true
   ·by_cases m4 : m = 4
    ·subst m4
     cases neg
     ·simpa using hG false
     ·simpa using hI true
    ·simp only [m0, m1, m3, m4, if_false, false_or, false_and]
     exact hG neg
theorem Lh (m : Int) (neg odd : Bool) {l : Nat} (h1 : 1 ≤ l) (h2 : l ≤ 3) : f_.f m neg odd (l : Int) = some (uN m neg odd l) := by
 have hls : l = 1 ∨ l = 2 ∨ l = 3 := by omega
 unfold f_.f uN
 by_cases m4 : m = 4
 ·subst m4; cases neg <;> rfl
 ·by_cases m3 : m = 3
  ·subst m3; cases neg <;> rfl
  ·by_cases m0 : m = 0
   ·subst m0; cases odd <;> rcases hls with h | h | h <;> subst h <;> rfl
   ·by_cases m1 : m = 1
    ·subst m1; rcases hls with h | h | h <;> subst h <;> rfl
    ·by_cases m5 : m = 5
     ·subst m5; cases odd <;> rfl
     ·rw [if_neg m4, if_neg m3, if_neg m0, if_neg m1, if_neg m5, if_neg m0, if_neg m1, if_neg m3, if_neg m4, if_neg m5]
theorem F6 {v : Nat} (h : v ≠ 0) : rd (wI v) 0 = ((v % WB : Nat) : Int) := by
 have := zy (toW v) 0
 rw [show ((0 : Nat) : Int) = 0 from rfl] at this
 rw [Kw, this, mZ h]
 rfl
theorem RS (v : Nat) : Go.bits .and .u64 ((v % WB : Nat) : Int) 3 = ((v % 4 : Nat) : Int) := by
 have := u64_and_nat (v % WB) 3 (Nat.mod_lt _ (by decide)) (by decide)
 rw [show ((3 : Nat) : Int) = 3 from rfl] at this
 rw [this, show (3 : Nat) = 2 ^ 2 - 1 from rfl, Nat.and_two_pow_sub_one_eq_mod]
 congr 1
 exact Nat.mod_mod_of_dvd v ⟨4611686018427387904, rfl⟩
theorem and1 (v : Nat) : Go.bits .and .u64 ((v % WB : Nat) : Int) 1 = ((v % 2 : Nat) : Int) := by
 rw [and_one _ (Nat.mod_lt _ (by decide))]
 congr 1
 exact Nat.mod_mod_of_dvd v ⟨9223372036854775808, rfl⟩
theorem or1 {x : Nat} (h : x < 4) : Go.bits .or .u64 (x : Int) 1 = ((x + 1 - x % 2 : Nat) : Int) := by
 have hx : x = 0 ∨ x = 1 ∨ x = 2 ∨ x = 3 := by omega
 have := u64_or_nat x 1 (by omega) (by decide)
 rw [show ((1 : Nat) : Int) = 1 from rfl] at this
 rw [this]
 rcases hx with h | h | h | h <;> subst h <;> rfl
theorem Lj (j : Nat) (more : Bool) : nJ j more ≤ 3 := by unfold nJ; split <;> omega
theorem Hy (m : Int) (neg more : Bool) {n : Nat} (e : Int) {j : Nat} (hj : (toW j).length ≤ 80000000) : Ev (fun k => aj.j0 k m (wI j) neg (wI n) e more) (wI (iE m neg (j / 4) (nJ j more)), decide (nJ j more ≠ 0)) := by
 have hju : (toW (j / 4)).length ≤ 80000000 := Nat.le_trans (iO (Nat.div_le_self _ _)) hj
 have h2 : Ev (fun k => aj.j2 k m (wI j) ((nJ j more : Nat) : Int) neg (wI n) e more) (wI (iE m neg (j / 4) (nJ j more)), decide (nJ j more ≠ 0)) := by
  have hr := Lj j more
  generalize nJ j more = l at *
  have hshr : lu.f (wI j) 2 = some (wI (j / 4), 0) := by
   unfold lu.f
   rw [if_pos ⟨OkI.wI (by omega), by decide, by decide⟩, kQ]
   rfl
  have h3 : ∀ odd : Bool, odd = decide (j / 4 % 2 = 1) → Ev (fun k => aj.j3 k m (l : Int) (wI (j / 4)) odd neg (wI n) e more) (wI (iE m neg (j / 4) l), decide (l ≠ 0)) := fun odd ho => by
   have hb : ((l : Int) != 0) = decide (l ≠ 0) := by
    rw [Bool.eq_iff_iff, bne_iff_ne, decide_eq_true_eq]
    omega
   refine Ev.one fun k => ?_
   rw [aj.j3]
   by_cases h0 : l = 0
   ·subst h0
    rw [if_pos (show ((0 : Nat) : Int) = 0 from rfl), Ej]
    rfl
   ·rw [if_neg (by omega), Lh m neg odd (by omega) hr]
    simp only [Option.bind_some]
    unfold iE
    rw [ho]
    have hadd : iJ.f (wI (j / 4)) [1] = some (wI (j / 4 + 1)) := by
     unfold iJ.f
     rw [show ([1] : List Int) = wI 1 by unfold wI; rw [ru]; rfl, if_pos ⟨OkI.wI (by omega), OkI.wI (by rw [ru]; decide)⟩, kQ, kQ]
    by_cases hg : uN m neg (decide (j / 4 % 2 = 1)) l = true
    ·rw [if_pos hg, if_pos ⟨h0, hg⟩, hadd, hb]
     rfl
    ·rw [if_neg hg, if_neg (fun h => hg h.2), hb]
  by_cases h0 : j / 4 = 0
  ·refine Ev.step (f := fun k => aj.j3 k m (l : Int) (wI (j / 4)) false neg (wI n) e more) (fun k => ?_) (h3 false (by rw [h0]; rfl))
   rw [aj.j2, hshr]
   simp only [Option.bind_some]
   rw [jC, h0, jv, if_neg (by decide)]
  ·have hp := kC h0
   refine Ev.step (f := fun k => aj.j3 k m (l : Int) (wI (j / 4)) (decide (j / 4 % 2 = 1)) neg (wI n) e more) (fun k => ?_) (h3 _ rfl)
   have c1 : (((wI (j / 4)).length : Nat) : Int) > 0 := by rw [jC]; omega
   have c2 : 0 < (((wI (j / 4)).length : Nat) : Int) := c1
   rw [aj.j2, hshr]
   simp only [Option.bind_some]
   rw [if_pos c1, if_pos c2, F6 h0, and1]
   congr 1
   rw [Bool.eq_iff_iff, beq_iff_eq, decide_eq_true_eq]
   omega
 have h1 : Ev (fun k => aj.j1 k m (wI j) ((j % 4 : Nat) : Int) neg (wI n) e more) (wI (iE m neg (j / 4) (nJ j more)), decide (nJ j more ≠ 0)) := by
  refine Ev.step (f := fun k => aj.j2 k m (wI j) ((nJ j more : Nat) : Int) neg (wI n) e more) (fun k => ?_) h2
  rw [aj.j1]
  cases more
  ·rw [if_neg (by decide)]; rfl
  ·rw [if_pos rfl, or1 (Nat.mod_lt _ (by decide))]
   congr 2
   unfold nJ
   rw [if_pos rfl]
   omega
 by_cases h0 : j = 0
 ·subst h0
  refine Ev.step (f := fun k => aj.j1 k m (wI 0) ((0 % 4 : Nat) : Int) neg (wI n) e more) (fun k => ?_) h1
  rw [aj.j0, jC, jv, if_neg (by decide)]
  rfl
 ·have hp := kC h0
  have c1 : (((wI j).length : Nat) : Int) > 0 := by rw [jC]; omega
  have c2 : 0 < (((wI j).length : Nat) : Int) := c1
  refine Ev.step (f := fun k => aj.j1 k m (wI j) ((j % 4 : Nat) : Int) neg (wI n) e more) (fun k => ?_) h1
  rw [aj.j0, if_pos c1, if_pos c2, F6 h0, RS]
theorem Py (v n : Nat) : wM v n ≤ v + 1 := by
 unfold wM
 have := Nat.div_le_self v (2 ^ n)
 split <;> omega
theorem Eb (v : Nat) : (toW (v + 1)).length ≤ (toW v).length + 1 := jZ (by
 have := nV v
 rw [Nat.pow_succ]
 have h2 : 0 < WB ^ (toW v).length := Nat.pow_pos (by decide)
 calc v + 1 ≤ WB ^ (toW v).length := this
  _ < WB ^ (toW v).length * WB := by
   have : WB ^ (toW v).length * 1 < WB ^ (toW v).length * WB := Nat.mul_lt_mul_of_pos_left (by decide) h2
   rwa [Nat.mul_one] at this)
theorem Hz (m : Int) (neg more : Bool) {n : Nat} {e q : Int} (hn : (toW n).length ≤ 900) (h1 : -100000 ≤ e) (h2 : e ≤ 100000) (h3 : -100000 ≤ q) (h4 : q ≤ 100000) (h5 : q - e < 2 → 2 - (q - e) ≤ 7000) :
  Ev (fun k => aj.f k neg (wI n) e more m q) (wI (qP m neg more n e q).1, (qP m neg more n e q).2) := by
 have e1 : wrap64 (q - e) = q - e := w64 (by omega) (by omega)
 unfold aj.f qP En
 rw [e1]
 by_cases h : 2 ≤ q - e
 ·have e2 : wrap64 (q - e - 2) = q - e - 2 := w64 (by omega) (by omega)
  have hjam : lg.f (wI n) (wrap64 (q - e - 2)) = some (wI (wM n (q - e - 2).toNat), 0) := by
   unfold lg.f
   rw [e2, if_pos ⟨OkI.wI (by omega), by omega, by omega⟩, kQ]
  have hl := Nat.le_trans (iO (Py n (q - e - 2).toNat)) (Eb n)
  rw [if_pos h]
  refine Ev.pos h ?_
  rw [hjam]
  exact Hy m neg more e (by omega)
 ·have e2 : wrap64 (2 - (q - e)) = 2 - (q - e) := w64 (by omega) (by omega)
  have hl := uj (v := n) (n := (2 - (q - e)).toNat)
  have h6 := h5 (by omega)
  have hshl : fA.f (wI n) (wrap64 (2 - (q - e))) = some (wI (n * 2 ^ (2 - (q - e)).toNat), 0) := by
   unfold fA.f iU
   rw [e2, kQ, if_pos ⟨OkI.wI (by omega), by omega, by omega, by omega, by omega⟩]
  rw [if_neg h]
  refine Ev.neg h ?_
  rw [hshl]
  exact Hy m neg more e (by omega)
theorem F7 {v : Nat} (h : (toW v).length ≤ 1000000) : iG.f (wI v) = some ((dB v : Nat) : Int) := by
 unfold iG.f
 rw [if_pos (OkI.wI (by omega)), kQ]
theorem Pz {u v : Nat} (h : (toW u).length ≤ 1000000) (h' : (toW v).length ≤ 1000000) : iJ.f (wI u) (wI v) = some (wI (u + v)) := by
 unfold iJ.f
 rw [if_pos ⟨OkI.wI (by omega), OkI.wI (by omega)⟩, kQ, kQ]
theorem QJ : wI 1 = [1] := by unfold wI; rw [ru]; rfl
theorem C9 (v : Nat) : decide (0 < (wI v).length) = decide (0 < v) := by
 rw [jC]
 apply decide_eq_decide.2
 constructor
 ·intro h
  rcases Nat.eq_zero_or_pos v with h0 | h0
  ·subst h0; rw [jv] at h; exact absurd h (by decide)
  ·exact h0
 ·intro h; exact kC (by omega)
theorem NW {num den : Nat} (hn : num ≠ 0) (hnl : (toW num).length ≤ 400) (hdl : (toW den).length ≤ 400) {dg : Nat} (hdg : dg ≤ 60) : ∀ μ n r s : Nat, (if n = 0 then (den - r) + dg + 1 else dg - dB n + 1) = μ → rX num den n r s → s ≤ 40000 → (toW n).length ≤ 900 →
  ∃ n' r' s' : Nat, Ev (fun k => aG.l0 k (wI den) (dg : Int) (wI r) false (wI n) (-(s : Int)) false) (false, wI n', -(s' : Int), decide (0 < r')) ∧ rX num den n' r' s' ∧ (dg ≤ dB n' ∨ r' = 0) ∧ s' ≤ 40001 ∧ (toW n').length ≤ 900 := by
 intro μ
 induction μ using Nat.strongRecOn with
 | _ μ ih =>
  intro n r s hμ hq hs hnn
  have hrl := hq.lt
  have hrlen : (toW r).length ≤ 400 := Nat.le_trans (iO (Nat.le_of_lt hrl)) hdl
  have hlen := F7 (v := n) (by omega)
  have c0 : (((dB n : Nat) : Int) < (dg : Int)) ↔ dB n < dg := by omega
  by_cases hgo : dB n < dg ∧ 0 < r
  ·obtain ⟨hb, hr⟩ := hgo
   have hs2 : s + 2 ≤ 30000 := by
    have e := hq.eq
    have h1 := kP n
    have h2 : n * den + r < 2 ^ dB n * den := by
     have : (n + 1) * den ≤ 2 ^ dB n * den := Nat.mul_le_mul_right _ h1
     rw [Nat.add_mul, Nat.one_mul] at this
     omega
    have h3 := rE den
    have h4 := kP den
    have h5 : 2 ^ s ≤ num * 2 ^ s := Nat.le_mul_of_pos_left _ (Nat.pos_of_ne_zero hn)
    have h6 : 2 ^ dB n * den ≤ 2 ^ dB n * 2 ^ dB den := Nat.mul_le_mul_left _ (Nat.le_of_lt h4)
    rw [← Nat.pow_add] at h6
    have h7 := vG (a := s) (b := dB n + dB den) (Nat.lt_of_le_of_lt h5 (Nat.lt_of_lt_of_le (by rw [← e]; exact h2) h6))
    omega
   have hn1 : (toW n).length ≤ 1 := jZ (by
    have h1 := Nat.lt_of_lt_of_le (kP n) (Nat.pow_le_pow_right (show 0 < 2 by decide) (show dB n ≤ 60 by omega))
    exact Nat.lt_of_lt_of_le h1 (by decide))
   have hd1 := Pz (u := n) (v := n) (by omega) (by omega)
   have hd2 := Pz (u := r) (v := r) (by omega) (by omega)
   have hrr : (toW (r + r)).length ≤ 402 := by
    have := uj (v := r) (n := 1)
    rw [Nat.pow_one, Nat.mul_two] at this
    omega
   have hnn2 : (toW (n + n)).length ≤ 3 := by
    have := uj (v := n) (n := 1)
    rw [Nat.pow_one, Nat.mul_two] at this
    omega
   have hnn3 := Eb (n + n)
   have ew : wrap64 (-(s : Int) - 1) = -((s + 1 : Nat) : Int) := by rw [w64 (by omega) (by omega)]; omega
   have hcmp : iy.f (wI (r + r)) (wI den) = some (nX (r + r) den) := by
    unfold iy.f
    rw [if_pos ⟨OkI.wI (by omega), OkI.wI (by omega)⟩, kQ, kQ]
   have hh : ∀ k, aG.l0 (k + 1) (wI den) (dg : Int) (wI r) false (wI n) (-(s : Int)) false = aG.j1 k (wI den) (dg : Int) (wI r) true false (wI n) (-(s : Int)) false := fun k => by
    rw [aG.l0, hlen]
    simp only [Option.bind_some]
    rw [if_pos (c0.2 hb), C9, decide_eq_true hr]
   by_cases hge : den ≤ r + r
   ·have hstep := hq.step1 hge
    have hc : nX (r + r) den ≥ 0 := by
     rcases Nat.lt_or_ge den (r + r) with h | h
     ·rw [yt h]; decide
     ·rw [show r + r = den by omega, CX]; decide
    have hsub : kD.f (wI (r + r)) (wI den) = some (wI (r + r - den), 0) := by
     unfold kD.f
     rw [if_pos ⟨OkI.wI (by omega), OkI.wI (by omega)⟩, kQ, kQ, if_neg (by omega)]
    have hadd := Pz (u := n + n) (v := 1) (by omega) (by rw [ru]; decide)
    rw [QJ] at hadd
    obtain ⟨n', r', s', h1, h2⟩ := ih _ (by
     rw [← hμ, if_neg (by omega)]
     by_cases hz : n = 0
     ·subst hz; rw [if_pos rfl, show 0 + 0 + 1 = 1 from rfl, LH]; omega
     ·rw [if_neg hz, (xH hz).2]; omega) (n + n + 1) (r + r - den) (s + 1) rfl hstep (by omega) (by omega)
    refine ⟨n', r', s', Ev.step hh (Ev.step (f := fun k => aG.l0 k (wI den) (dg : Int) (wI (r + r - den)) false (wI (n + n + 1)) (-((s + 1 : Nat) : Int)) false) (fun k => ?_) h1), h2⟩
    rw [aG.j1, if_pos rfl, hd1]
    simp only [Option.bind_some]
    rw [hd2]
    simp only [Option.bind_some]
    rw [hcmp]
    simp only [Option.bind_some]
    rw [if_pos hc, hsub]
    simp only [Option.bind_some]
    rw [hadd]
    simp only [Option.bind_some]
    rw [ew]
   ·have hstep := hq.step0 (by omega)
    have hc : ¬ nX (r + r) den ≥ 0 := by rw [rC (by omega)]; decide
    obtain ⟨n', r', s', h1, h2⟩ := ih _ (by
     rw [← hμ]
     by_cases hz : n = 0
     ·subst hz; rw [if_pos rfl, if_pos rfl]; omega
     ·rw [if_neg hz, if_neg (by omega), (xH hz).1]; omega) (n + n) (r + r) (s + 1) rfl hstep (by omega) (by omega)
    refine ⟨n', r', s', Ev.step hh (Ev.step (f := fun k => aG.l0 k (wI den) (dg : Int) (wI (r + r)) false (wI (n + n)) (-((s + 1 : Nat) : Int)) false) (fun k => ?_) h1), h2⟩
    rw [aG.j1, if_pos rfl, hd1]
    simp only [Option.bind_some]
    rw [hd2]
    simp only [Option.bind_some]
    rw [hcmp]
    simp only [Option.bind_some]
    rw [if_neg hc, ew]
  ·refine ⟨n, r, s, ?_, hq, by omega, by omega, hnn⟩
   refine Ev.step (f := fun k => aG.j1 k (wI den) (dg : Int) (wI r) false false (wI n) (-(s : Int)) false) (fun k => ?_) (Ev.one fun k => ?_)
   ·rw [aG.l0, hlen]
    simp only [Option.bind_some]
    by_cases hb : dB n < dg
    ·rw [if_pos (c0.2 hb), C9, decide_eq_false (fun h => hgo ⟨hb, h⟩)]
    ·rw [if_neg (fun h => hb (c0.1 h))]
   ·rw [aG.j1, if_neg (by decide), C9]
theorem NY {num den : Nat} (hn : num ≠ 0) (hd : den ≠ 0) (hnl : (toW num).length ≤ 400) (hdl : (toW den).length ≤ 400) {dg : Nat} (hdg : dg ≤ 60) :
  ∃ n' r' s' : Nat, Ev (fun k => aG.f k (wI num) (wI den) (dg : Int)) (false, wI n', -(s' : Int), decide (0 < r')) ∧ rX num den n' r' s' ∧ (dg ≤ dB n' ∨ r' = 0) ∧ s' ≤ 40001 ∧ (toW n').length ≤ 900 := by
 have b1 := rE num
 have b2 := rE den
 obtain ⟨sh, hsh⟩ : ∃ sh : Nat, sh = dB den - dB num - 1 := ⟨_, rfl⟩
 have ew : mx 0 (wrap64 ((wrap64 (((dB den : Nat) : Int) - ((dB num : Nat) : Int))) - 1)) = (sh : Int) := by
  rw [w64 (x := ((dB den : Nat) : Int) - ((dB num : Nat) : Int)) (by omega) (by omega), w64 (by omega) (by omega), tu]; omega
 have en : wrap64 (-(sh : Int)) = -(sh : Int) := w64 (by omega) (by omega)
 have hl := uj (v := num) (n := sh)
 have hup : fA.f (wI num) (sh : Int) = some (wI (num * 2 ^ sh), 0) := by
  unfold fA.f iU
  rw [kQ, Int.toNat_natCast, if_pos ⟨OkI.wI (by omega), by omega, by omega, by omega, by omega⟩]
 have hdm : iq.f (wI (num * 2 ^ sh)) (wI den) = some (wI (num * 2 ^ sh / den), wI (num * 2 ^ sh % den), 0) := by
  unfold iq.f iU
  rw [kQ, kQ, if_pos ⟨⟨OkI.wI (by omega), OkI.wI (by omega)⟩, by omega, by omega, hd⟩]
 have hq0 : rX num den (num * 2 ^ sh / den) (num * 2 ^ sh % den) sh := ⟨by rw [Nat.mul_comm, Nat.div_add_mod], Nat.mod_lt _ (Nat.pos_of_ne_zero hd)⟩
 have hnl2 : (toW (num * 2 ^ sh / den)).length ≤ 900 := Nat.le_trans (iO (Nat.div_le_self _ _)) (by omega)
 obtain ⟨n', r', s', h1, h2⟩ := NW hn hnl hdl hdg _ _ _ _ rfl hq0 (by omega) hnl2
 refine ⟨n', r', s', ?_, h2⟩
 unfold aG.f
 rw [F7 (v := den) (by omega), F7 (v := num) (by omega)]
 simp only [Option.bind_some, ew]
 rw [hup]
 simp only [Option.bind_some]
 rw [hdm]
 simp only [Option.bind_some, en]
 exact h1
end Go.Proofs.YtafikkmnkeddpaaGreatDoor.P
namespace Go.Proofs.YtafikkmnkeddpaaGreatDoor.P
open Go.RowKit Go.Proofs.YtafikkmnkeddpaaGreatDoorW.PrintWords Go.Proofs.YtafikkmnkeddpaaGreatDoorW.PrintLast Go.Proofs.YtafikkmnkeddpaaGreatDoorW.PrintMore
theorem F8 (m : Int) (neg : Bool) (u l : Nat) {B : Nat} (h : dB u ≤ B) : dB (iE m neg u l) ≤ B + 1 := by
 refine mY ?_
 have h3 := qO m neg u l
 have h4 := Nat.lt_of_lt_of_le (kP u) (Nat.pow_le_pow_right (show 0 < 2 by decide) h)
 rw [Nat.pow_succ]
 have := Nat.two_pow_pos B
 omega
theorem QK {v : Nat} (h : dB v ≤ 66) : (toW v).length ≤ 2 := jZ (by
 have h1 := Nat.lt_of_lt_of_le (kP v) (Nat.pow_le_pow_right (show 0 < 2 by decide) h)
 exact Nat.lt_of_lt_of_le h1 (by decide))
theorem QL {a : Int} {F : Fm} (h : mQ a = some F) (m : Int) (neg more : Bool) {n : Nat} {e t : Int} (hn : (toW n).length ≤ 900) (h1 : -50000 ≤ e) (h2 : e ≤ 50000) (h3 : -90000 ≤ t) (h4 : t ≤ 90000) (h5 : e ≤ t) (hs : dB (qP m neg more n e (t - F.P + 1)).1 ≤ 66) :
  Ev (fun k => dw.f k neg (wI n) e more (F.W : Int) (F.P : Int) F.emin F.emax m t) (decide (¬ F.emin ≤ t ∧ t - F.P + dB (qP m neg more n e (t - F.P + 1)).1 < F.emin)) := by
 have hF := vM h
 have hpw := hF.small.ok.pw
 have hw := hF.small.ok.w64
 unfold dw.f
 by_cases hg : F.emin ≤ t
 ·refine Ev.pos hg ?_
  rw [decide_eq_false (fun hh => hh.1 hg)]
  exact Ev.now _
 ·refine Ev.neg hg ?_
  have e1 : wrap64 ((wrap64 (t - (F.P : Int))) + 1) = t - F.P + 1 := by rw [w64 (x := t - (F.P : Int)) (by omega) (by omega), w64 (by omega) (by omega)]
  have hc := Hz m neg more (n := n) (e := e) (q := t - F.P + 1) hn (by omega) (by omega) (by omega) (by omega) (by omega)
  rw [e1]
  refine Ev.bind hc ?_
  generalize qP m neg more n e (t - F.P + 1) = c at *
  have hl := QK hs
  have e2 : wrap64 ((wrap64 (t - (F.P : Int))) + ((dB c.1 : Nat) : Int)) = t - F.P + dB c.1 := by rw [w64 (x := t - (F.P : Int)) (by omega) (by omega), w64 (by omega) (by omega)]
  rw [F7 (v := c.1) (by omega)]
  simp only [Option.bind_some, e2]
  have : decide (¬ F.emin ≤ t ∧ t - F.P + ((dB c.1 : Nat) : Int) < F.emin) = decide (t - F.P + ((dB c.1 : Nat) : Int) < F.emin) := decide_eq_decide.2 ⟨fun hh => hh.2, fun hh => ⟨hg, hh⟩⟩
  rw [this]
  exact Ev.now _
theorem Ll {a : Int} {F : Fm} (h : mQ a = some F) (m : Int) (neg more : Bool) {n : Nat} {e t : Int} (hn : (toW n).length ≤ 900) (h1 : -50000 ≤ e) (h2 : e ≤ 50000) (h3 : -90000 ≤ t) (h4 : t ≤ 90000) (h5 : e ≤ t) (hs : dB (qP m neg more n e (t - F.P + 1)).1 ≤ 66) (b : Bool) (x : Int) :
  Ev (fun k => aA.j1 k m t b x neg (wI n) e more (F.W : Int) (F.P : Int) F.emin F.emax) (x, (((if b = false then 0 else if F.emin ≤ t then 16 else if t - F.P + dB (qP m neg more n e (t - F.P + 1)).1 < F.emin then 24 else 16) : Nat) : Int)) := by
 cases b
 ·exact Ev.one fun k => by rw [aA.j1, if_neg (by decide)]; rfl
 ·refine Ev.step (f := fun k => (dw.f k neg (wI n) e more (F.W : Int) (F.P : Int) F.emin F.emax m t).bind fun t205 => (if t205 = true then (some (x, 24)) else (some (x, 16)))) (fun k => by rw [aA.j1, if_pos rfl]) ?_
  refine Ev.bind (QL h m neg more hn h1 h2 h3 h4 h5 hs) ?_
  simp only [show (true = false) = False from by simp, if_false]
  by_cases hg : F.emin ≤ t
  ·rw [if_pos hg]
   exact Ev.neg (fun hh => (of_decide_eq_true hh).1 hg) (Ev.now _)
  ·rw [if_neg hg]
   by_cases hz : t - F.P + ((dB (qP m neg more n e (t - F.P + 1)).1 : Nat) : Int) < F.emin
   ·rw [if_pos hz]
    exact Ev.pos (decide_eq_true ⟨hg, hz⟩) (Ev.now _)
   ·rw [if_neg hz]
    exact Ev.neg (fun hh => hz (of_decide_eq_true hh).2) (Ev.now _)
theorem Lm {a : Int} {F : Fm} (h : mQ a = some F) (m : Int) (neg more : Bool) {n : Nat} {e : Int} (hn0 : n ≠ 0) (hn : (toW n).length ≤ 900) (h1 : -50000 ≤ e) (h2 : e ≤ 20000) (hlt : (BF F m neg more n e).1 < 2 ^ F.W)
  (hs : ∀ q, e + dB n - 1 - F.P + 1 ≤ q → dB (qP m neg more n e q).1 ≤ 66) :
  Ev (fun k => aA.f k neg (wI n) e more a (F.W : Int) (F.P : Int) F.emin F.emax m) (((BF F m neg more n e).1 : Int), ((BF F m neg more n e).2 : Int)) := by
 have hF := vM h
 have hp2 := hF.small.ok.p2
 have hpw := hF.small.ok.pw
 have hw := hF.small.ok.w64
 have htop := hF.small.top
 have htop0 := hF.small.top0
 have hemin := hF.emin1
 have hee := hF.small.ok.ee
 have b1 := rE n
 have bp : 0 < dB n := by rw [lC hn0]; omega
 have bb := NV h m neg
 unfold aA.f dQ.f
 rw [F7 (v := n) (by omega)]
 have et : wrap64 ((wrap64 (e + ((dB n : Nat) : Int))) - 1) = e + dB n - 1 := by rw [w64 (x := e + ((dB n : Nat) : Int)) (by omega) (by omega), w64 (by omega) (by omega)]
 simp only [Option.bind_some, et]
 unfold BF at hlt ⊢
 simp only [] at hlt ⊢
 obtain ⟨t, ht⟩ : ∃ t, t = e + dB n - 1 := ⟨_, rfl⟩
 rw [← ht] at hlt hs ⊢
 have htr : -60000 ≤ t ∧ t ≤ 80000 ∧ e ≤ t := by omega
 by_cases hov : F.emax < t
 ·rw [if_pos hov]
  exact Ev.pos hov (Ev.bind bb (Ev.now _))
 ·rw [if_neg hov] at hlt ⊢
  refine Ev.neg hov ?_
  obtain ⟨q, hq⟩ : ∃ q, q = max t F.emin - F.P + 1 := ⟨_, rfl⟩
  have eq : wrap64 ((wrap64 ((mx t F.emin) - (F.P : Int))) + 1) = q := by rw [tu, w64 (x := max t F.emin - (F.P : Int)) (by omega) (by omega), w64 (by omega) (by omega)]; omega
  have el : wrap64 ((wrap64 (F.emin - (F.P : Int))) + 1) = F.emin - F.P + 1 := by rw [w64 (x := F.emin - (F.P : Int)) (by omega) (by omega), w64 (by omega) (by omega)]
  have eP : wrap64 ((F.P : Int) - 1) = ((F.P - 1 : Nat) : Int) := by rw [w64 (by omega) (by omega)]; omega
  have eW : wrap64 ((F.W : Int) - 1) = ((F.W - 1 : Nat) : Int) := by rw [w64 (by omega) (by omega)]; omega
  have hsq := hs q (by omega)
  have hst := hs (t - F.P + 1) (Int.le_refl _)
  have hcut := Hz m neg more (n := n) (e := e) (q := q) hn (by omega) (by omega) (by omega) (by omega) (by omega)
  rw [← hq] at hlt ⊢
  have hj1 := fun (b : Bool) (x : Int) => Ll h m neg more hn h1 (by omega) (by omega) (by omega) htr.2.2 hst b x
  simp only [eq, el, eP]
  refine Ev.bind hcut ?_
  simp only []
  generalize hcc : qP m neg more n e q = c at *
  obtain ⟨u, ix⟩ := c
  simp only [] at hlt hsq hcc ⊢
  have hul := QK hsq
  have c0 : (0 : Int) ≤ ((F.P - 1 : Nat) : Int) := Int.natCast_nonneg _
  have c1 : (0 : Int) ≤ ((F.W - 1 : Nat) : Int) := Int.natCast_nonneg _
  refine Ev.pos c0 ?_
  obtain ⟨k0, hk0⟩ : ∃ k0 : Nat, k0 = (q - (F.emin - F.P + 1)).toNat := ⟨_, rfl⟩
  have ek : wrap64 (q - (F.emin - F.P + 1)) = (k0 : Int) := by rw [w64 (by omega) (by omega)]; omega
  have eo : wrap64 ((wrap64 (q + ((dB u : Nat) : Int))) - 1) = q + dB u - 1 := by rw [w64 (x := q + ((dB u : Nat) : Int)) (by omega) (by omega), w64 (by omega) (by omega)]
  have fin : ∀ x : Int, (¬ F.emax < q + dB u - 1 → x = ((k0 * 2 ^ (F.P - 1) + u : Nat) : Int)) → Ev (fun k => aA.j0 k a m t q (wI u) ix x neg (wI n) e more (F.W : Int) (F.P : Int) F.emin F.emax)
    ((((if F.emax < q + dB u - 1 then (lI F m neg, 20) else ((q - (F.emin - F.P + 1)).toNat * 2 ^ (F.P - 1) + u + (if neg = true then 2 ^ (F.W - 1) else 0), if ix = false then 0 else if F.emin ≤ t then 16 else if t - F.P + dB (qP m neg more n e (t - F.P + 1)).1 < F.emin then 24 else 16) : Nat × Nat)).1 : Int), (((if F.emax < q + dB u - 1 then (lI F m neg, 20) else ((q - (F.emin - F.P + 1)).toNat * 2 ^ (F.P - 1) + u + (if neg = true then 2 ^ (F.W - 1) else 0), if ix = false then 0 else if F.emin ≤ t then 16 else if t - F.P + dB (qP m neg more n e (t - F.P + 1)).1 < F.emin then 24 else 16) : Nat × Nat)).2 : Int)) := fun x hx => by
   by_cases hb : F.emax < q + dB u - 1
   ·rw [if_pos hb]
    refine Ev.step (f := fun k => (aQ.f k a m neg).bind fun t204 => (some (t204, 20))) (fun k => ?_) (Ev.bind bb (Ev.now _))
    rw [aA.j0, F7 (v := u) (by omega)]
    simp only [Option.bind_some, eo]
    rw [if_pos hb]
   ·rw [if_neg hb] at hlt ⊢
    rw [← hk0] at hlt ⊢
    have hxx := hx hb
    subst hxx
    have head : ∀ k, aA.j0 (k + 1) a m t q (wI u) ix ((k0 * 2 ^ (F.P - 1) + u : Nat) : Int) neg (wI n) e more (F.W : Int) (F.P : Int) F.emin F.emax = (if neg = true then (aA.j1 k m t ix (Go.bits .or .u64 ((k0 * 2 ^ (F.P - 1) + u : Nat) : Int) (shl .u64 1 ((F.W - 1 : Nat) : Int))) neg (wI n) e more (F.W : Int) (F.P : Int) F.emin F.emax) else (aA.j1 k m t ix ((k0 * 2 ^ (F.P - 1) + u : Nat) : Int) neg (wI n) e more (F.W : Int) (F.P : Int) F.emin F.emax)) := fun k => by
     rw [aA.j0, F7 (v := u) (by omega)]
     simp only [Option.bind_some, eo, eW]
     rw [if_neg hb, if_pos c1]
    cases hneg : neg with
    | false =>
     rw [hneg] at head hlt hj1
     have hfin := hj1 ix ((k0 * 2 ^ (F.P - 1) + u : Nat) : Int)
     rw [if_neg (by decide), Nat.add_zero] at hlt ⊢
     exact Ev.step (fun k => by rw [head, if_neg (by decide)]) hfin
    | true =>
     rw [hneg] at head hlt hj1
     rw [if_pos rfl] at hlt ⊢
     have hWW : 2 ^ F.W = 2 ^ (F.W - 1) + 2 ^ (F.W - 1) := by
      obtain ⟨w, hw'⟩ : ∃ w, F.W = w + 1 := ⟨F.W - 1, by omega⟩
      rw [hw', Nat.pow_succ, Nat.add_sub_cancel]; omega
     have h64 : 2 ^ F.W ≤ 18446744073709551616 := by
      have : 2 ^ F.W ≤ 2 ^ 64 := Nat.pow_le_pow_right (by decide) hw
      exact this
     simp only [] at hlt
     have g1 : k0 * 2 ^ (F.P - 1) + u < 2 ^ (F.W - 1) := by clear eq el eP eW ek eo et; omega
     have g2 : 1 * 2 ^ (F.W - 1) < 18446744073709551616 := by clear eq el eP eW ek eo et; omega
     have g3 : k0 * 2 ^ (F.P - 1) + u < 18446744073709551616 := by clear eq el eP eW ek eo et; omega
     have g4 : 2 ^ (F.W - 1) < 18446744073709551616 := by clear eq el eP eW ek eo et; omega
     have g5 : F.W - 1 ≤ 64 := by clear eq el eP eW ek eo et; omega
     have hsh := Hr (x := 1) g5 g2
     rw [show ((1 : Nat) : Int) = 1 from rfl, Nat.one_mul] at hsh
     have hor : Go.bits .or .u64 ((k0 * 2 ^ (F.P - 1) + u : Nat) : Int) (shl .u64 1 ((F.W - 1 : Nat) : Int)) = ((k0 * 2 ^ (F.P - 1) + u + 2 ^ (F.W - 1) : Nat) : Int) := by
      rw [hsh, u64_or_nat _ _ g3 g4, Nat.or_comm]
      have h7 := Nat.two_pow_add_eq_or_of_lt g1 1
      rw [Nat.mul_one] at h7
      rw [← h7, Nat.add_comm]
     have hfin := hj1 ix ((k0 * 2 ^ (F.P - 1) + u + 2 ^ (F.W - 1) : Nat) : Int)
     exact Ev.step (fun k => by rw [head, if_pos rfl, hor]) hfin
  have fld : ¬ F.emax < q + dB u - 1 → k0 * 2 ^ (F.P - 1) + u < 18446744073709551616 := fun hb => by
   rw [if_neg hb, ← hk0] at hlt
   simp only [] at hlt
   have h64 : 2 ^ F.W ≤ 18446744073709551616 := by
    have : 2 ^ F.W ≤ 2 ^ 64 := Nat.pow_le_pow_right (by decide) hw
    exact this
   clear eq el eP eW ek eo et
   omega
  have k6 : F.P - 1 ≤ 64 := by clear eq el eP eW ek eo et; omega
  have kk : ∀ hh : k0 * 2 ^ (F.P - 1) + u < 18446744073709551616, shl .u64 (IntKind.u64.wrap (k0 : Int)) ((F.P - 1 : Nat) : Int) = ((k0 * 2 ^ (F.P - 1) : Nat) : Int) := fun hh => by
   have hp := Nat.two_pow_pos (F.P - 1)
   have h8 : k0 * 2 ^ (F.P - 1) < 18446744073709551616 := Nat.lt_of_le_of_lt (Nat.le_add_right _ _) hh
   have h9 : k0 < 18446744073709551616 := Nat.lt_of_le_of_lt (Nat.le_mul_of_pos_right _ hp) h8
   rw [Ky h9, Hr k6 h8]
  simp only [ek]
  by_cases hu0 : u = 0
  ·subst hu0
   rw [jC, jv]
   refine Ev.neg (by decide) (fin _ fun hb => ?_)
   rw [kk (fld hb), Nat.add_zero]
  ·have hp := kC hu0
   rw [jC]
   refine Ev.pos (Int.natCast_pos.2 hp) (Ev.pos (Int.natCast_pos.2 hp) (fin _ fun hb => ?_))
   have hf := fld hb
   have h8 : u < WB := Nat.lt_of_le_of_lt (Nat.le_add_left _ _) hf
   rw [kk hf, F6 hu0, Nat.mod_eq_of_lt h8, RH hf]
theorem Lp {a : Int} {F : Fm} (h : mQ a = some F) {m : Int} (hm : ¬ (m < 0 ∨ 5 < m)) : fZ.f a m = some ((F.W : Int), (F.P : Int), F.emin, F.emax, 0) := by
 have h1 : ¬ m < 0 := fun hh => hm (.inl hh)
 have h2 : ¬ m > 5 := fun hh => hm (.inr hh)
 unfold fZ.f eF.f
 rw [Hw h]
 simp only [Option.bind_some, if_true]
 rw [if_neg h1, if_neg h2]
 rfl
theorem Ev.bs {α β : Type} {a : α} {f : Nat → α → Option β} {r : β} (k : Ev (fun n => f n a) r) : Ev (fun n => (some a).bind (f n)) r := k
theorem pTrim {v : Nat} (hv : (toW v).length ≤ 400) : jK.f (wI v) = some (wI v) := by
 unfold jK.f
 rw [if_pos (OkI.wI (by omega)), kQ]
theorem Ja {num den n : Nat} {e : Int} {mo : Bool} {P : Nat} (hQ : Em num den 0 n e mo P) (hP : P ≤ 60) (hn : num ≠ 0) (hdp : 0 < den) (m : Int) (neg : Bool) {q : Int} (hq : e + dB n - 1 - P + 1 ≤ q) : dB (qP m neg mo n e q).1 ≤ 66 := by
 have htop := hQ.top hn hdp
 have hts := oz hn hdp 0
 have hqq : 2 ≤ q - e ∨ mo = false := by
  cases hmm : mo with
  | false => exact .inr rfl
  | true =>
   left
   have := hQ.long hmm
   omega
 have hc := hQ.cut hdp hqq
 unfold qP
 rw [← hc.1]
 refine Nat.le_trans (F8 m neg _ _ (B := P) ?_) (by omega)
 rcases Int.lt_or_le (vU num den 0) q with h5 | h5
 ·rw [vT hts h5, qH]; exact Nat.zero_le _
 ·rw [oM hts h5]; omega
theorem F9 {a : Int} {F : Fm} (h : mQ a = some F) {m : Int} (hm : ¬ (m < 0 ∨ 5 < m)) (neg : Bool) {num den : Nat} (p1 : 0 < (toW num).length) (p2 : 0 < (toW den).length) (hnl : (toW num).length ≤ 400) (hdl : (toW den).length ≤ 400) {dg : Nat} (hdg : dg = F.P + 3) (hw : F.P ≤ 64)
  {n : Nat} {e : Int} {mo : Bool} (he : -50000 ≤ e ∧ e ≤ 50000) (hq : Ev (fun k => aG.f k (wI num) (wI den) (dg : Int)) (false, wI n, e, mo)) {R : Int × Int} (hinto : Ev (fun k => aA.f k neg (wI n) e mo a (F.W : Int) (F.P : Int) F.emin F.emax m) R) :
  Ev (fun k => bJ.f k a m neg (wI num) (wI den) 0) (R.1, R.2, 0) := by
 have esz : wrap64 ((((wI num).length : Nat) : Int) + (((wI den).length : Nat) : Int)) = (((toW num).length + (toW den).length : Nat) : Int) := by rw [jC, jC, w64 (by omega) (by omega), Int.natCast_add]
 have cz : ¬ ((((toW num).length + (toW den).length : Nat) : Int) > 1024) := by clear esz; omega
 have cd : ¬ ((((wI den).length : Nat) : Int) = 0) := by rw [jC]; clear esz; omega
 have cn : ¬ ((((wI num).length : Nat) : Int) = 0) := by rw [jC]; clear esz; omega
 have e3 : wrap64 ((F.P : Int) + 3) = (dg : Int) := by rw [w64 (by clear esz; omega) (by clear esz; omega), hdg]; rfl
 have es : wrap64 (e + 0) = e := by rw [Int.add_zero]; exact w64 (by clear esz e3; omega) (by clear esz e3; omega)
 unfold bJ.f
 rw [Lp h hm]
 refine Ev.bs (Ev.pos rfl ?_)
 rw [pTrim hnl]
 refine Ev.bs ?_
 rw [pTrim hdl]
 refine Ev.bs ?_
 rw [esz]
 refine Ev.neg cz (Ev.neg (by decide) ?_)
 refine Ev.step (f := fun k => (aG.f k (wI num) (wI den) (wrap64 ((F.P : Int) + 3))).bind fun bt221 => ((aA.f k neg bt221.2.1 (wrap64 (bt221.2.2.1 + 0)) bt221.2.2.2 a (F.W : Int) (F.P : Int) F.emin F.emax m).bind fun bt228 => (some (bt228.1, bt228.2, (0 : Int))))) (fun k => ?_) ?_
 ·rw [bJ.j0, if_neg (by decide), if_neg cd, if_neg cn]
 ·rw [e3]
  refine Ev.bind hq ?_
  simp only [es]
  exact Ev.bind hinto (Ev.now _)
theorem Bz {a : Int} {F : Fm} (h : mQ a = some F) {m : Int} (hm : ¬ (m < 0 ∨ 5 < m)) (neg : Bool) {num den : Nat} (hn : num ≠ 0) (hd : den ≠ 0) (hnl : (toW num).length ≤ 400) (hdl : (toW den).length ≤ 400) :
  Ev (fun k => bJ.f k a m neg (wI num) (wI den) 0) (((pV F m neg num den 0).1 : Int), ((pV F m neg num den 0).2 : Int), 0) := by
 have hF := vM h
 have hdp : 0 < den := Nat.pos_of_ne_zero hd
 have hP53 : F.P + 3 ≤ 60 := by
  refine mM (P := fun a F => F.P + 3 ≤ 60) ?_ ?_ ?_ ?_ h <;> decide
 obtain ⟨n, r, s, hq, hql, hqd, hs, hnn⟩ := NY hn hd hnl hdl (dg := F.P + 3) hP53
 have hQ : Em num den 0 n (0 - (s : Int)) (decide (0 < r)) F.P := hql.done hn F.P hqd 0
 rw [Int.zero_sub] at hQ
 have hie := Oh hF.small.ok hQ hn hdp m neg
 have hlt := PS hF.small.ok m neg (E := 0) hn hdp
 rw [← hie] at hlt ⊢
 have b1 : -50000 ≤ -(s : Int) := by omega
 have b2 : -(s : Int) ≤ 20000 := by omega
 have b3 : F.P ≤ 60 := by omega
 have hinto := Lm h m neg (decide (0 < r)) hQ.pos hnn (e := -(s : Int)) b1 b2 hlt (fun q hq' => Ja hQ b3 hn hdp m neg hq')
 exact F9 h hm neg (kC hn) (kC hd) hnl hdl rfl (by omega) ⟨b1, by omega⟩ hq hinto
end Go.Proofs.YtafikkmnkeddpaaGreatDoor.P
namespace Go.Proofs.YtafikkmnkeddpaaGreatDoor.P
open Go.RowKit Go.Proofs.YtafikkmnkeddpaaGreatDoorW.PrintWords Go.Proofs.YtafikkmnkeddpaaGreatDoorW.PrintLast Go.Proofs.YtafikkmnkeddpaaGreatDoorW.PrintMore
theorem pU (c : UInt8) : fF.f ((c.toNat : Nat) : Int) = some (isD c) := NM c
theorem pq (s : ByteArray) : (s.toList = ([] : List UInt8)) = (s.size = 0) := by
 rw [lM, ← jU]
 exact propext (List.length_eq_zero_iff.symm)
theorem PD (s : ByteArray) (neg : Bool) (h0 : 0 < s.size) (hs : s.size ≤ 1000000) : ∀ d i, i + d = s.size → ((bl s).take i).all isD = true → Ev (fun k => ah.l0 k s ((min (dn ((bl s).take i)) 1048576 : Nat) : Int) neg (s.size : Int) (i : Int)) (wO 1048576 (bl s) neg) := by
 intro d
 induction d with
 | zero =>
  intro i hi ha
  have c1 : ¬ ((i : Int) < (s.size : Int)) := by omega
  rw [List.take_of_length_le (by rw [jU]; omega)] at ha ⊢
  refine Ev.one fun k => ?_
  have hneg : wrap64 (-((min (dn (bl s)) 1048576 : Nat) : Int)) = -((min (dn (bl s)) 1048576 : Nat) : Int) := w64 (by omega) (by omega)
  rw [ah.l0, if_neg c1, hneg]
  unfold wO
  have hne : bl s ≠ [] := List.length_pos_iff.1 (by rw [jU]; exact h0)
  have ht : bl s ≠ [] ∧ (bl s).all isD = true := ⟨hne, ha⟩
  rw [if_pos ht]
  cases neg <;> rfl
 | succ d ih =>
  intro i hi ha
  have hlt : i < (bl s).length := by rw [jU]; omega
  have c1 : (i : Int) < (s.size : Int) := by omega
  have c2 : (0 : Int) ≤ (i : Int) := by omega
  have c3 : i < 1000000000000000000 := by omega
  have c4 : i + 1 + d = s.size := by omega
  by_cases hD : isD ((bl s).getD i 0) = true
  ·have hv := NQ hD
   have := ih (i + 1) c4 (AL hlt ha hD)
   rw [La s (by rw [← jU]; exact hlt), tq] at this
   refine Ev.step (f := fun k => ah.l0 k s ((min (10 * dn ((bl s).take i) + (((bl s).getD i 0).toNat - 48)) 1048576 : Nat) : Int) neg (s.size : Int) ((i + 1 : Nat) : Int)) (fun k => ?_) this
   rw [ah.l0, if_pos c1, if_pos c2, if_pos c1, sZ, tq, pU]
   simp only [Option.bind_some]
   rw [if_pos hD, hv.1, Fg c3]
   have := NP 1048576 (dn ((bl s).take i)) (((bl s).getD i 0).toNat - 48) (by decide) hv.2
   rw [show ((1048576 : Nat) : Int) = 1048576 from rfl] at this
   rw [this]
  ·have hD' : isD ((bl s).getD i 0) = false := by simpa using hD
   refine Ev.one fun k => ?_
   rw [ah.l0, if_pos c1, if_pos c2, if_pos c1, sZ, tq, pU]
   simp only [Option.bind_some]
   rw [if_neg hD]
   unfold wO
   rw [AB hlt hD', if_neg (by simp)]
theorem Lr (s : ByteArray) (neg : Bool) (hs : s.size ≤ 1000000) : Ev (fun k => ah.j3 k s 0 neg) (wO 1048576 (bl s) neg) := by
 by_cases h0 : s.size = 0
 ·have hb : bl s = [] := List.length_eq_zero_iff.1 (by rw [jU]; exact h0)
  refine Ev.one fun k => ?_
  rw [ah.j3, if_pos (by rw [pq]; exact h0), hb]
  rfl
 ·refine Ev.step (f := fun k => ah.l0 k s 0 neg (s.size : Int) 0) (fun k => by rw [ah.j3, if_neg (by rw [pq]; exact h0)]) ?_
  exact PD s neg (by omega) hs s.size 0 (Nat.zero_add _) rfl
theorem NZ (t : ByteArray) (hs : t.size ≤ 1000000) : ∀ c : Bool, c = jP (bl t) → Ev (fun k => ah.j1 k t 0 c) (exS 1048576 (bl t)) := by
 intro c hc
 have e0 : bt t 0 = (((bl t).getD 0 0).toNat : Int) := sZ t 0
 have e45 := b8 ((bl t).getD 0 0) 45 (by decide) 45 rfl 45 rfl
 have e43 := b8 ((bl t).getD 0 0) 43 (by decide) 43 rfl 43 rfl
 have b43 := FX _ _ _ e43
 have hT := Lr (t.extract 1 t.size) c (by rw [pR]; omega)
 rw [ou] at hT
 have hS := Lr t c hs
 unfold exS jB
 rw [← hc]
 by_cases h45 : (bl t).getD 0 0 = 45
 ·have hcc : c = true := by rw [hc]; exact decide_eq_true h45
  have hp : 0 < t.size := by
   rw [← jU]
   rcases Nat.eq_zero_or_pos (bl t).length with h | h
   ·rw [List.length_eq_zero_iff.1 h] at h45; exact absurd h45 (by decide)
   ·exact h
  rw [if_pos (.inl h45)]
  have c3 : (1 : Int) ≤ (t.size : Int) := by omega
  refine Ev.step (f := fun k => ah.j2 k t 0 c true) (fun k => by rw [ah.j1, if_pos hcc]) ?_
  exact Ev.step (f := fun k => ah.j3 k (t.extract 1 t.size) 0 c) (fun k => by rw [ah.j2, if_pos rfl, if_pos c3]) hT
 ·have hcc : c = false := by rw [hc]; exact decide_eq_false h45
  have ncc : ¬ c = true := by rw [hcc]; decide
  by_cases hp : t.size = 0
  ·have hb : bl t = [] := List.length_eq_zero_iff.1 (by rw [jU]; exact hp)
   rw [if_neg (by rw [hb]; decide)]
   refine Ev.step (f := fun k => ah.j2 k t 0 c false) (fun k => by rw [ah.j1, if_neg ncc, if_pos (by rw [pq]; exact hp)]) ?_
   exact Ev.step (f := fun k => ah.j3 k t 0 c) (fun k => by rw [ah.j2, if_neg (by decide)]) hS
  ·have c2 : (0 : Int) < (t.size : Int) := by omega
   have c3 : (1 : Int) ≤ (t.size : Int) := by omega
   refine Ev.step (f := fun k => ah.j2 k t 0 c (decide ((bl t).getD 0 0 = 43))) (fun k => by rw [ah.j1, if_neg ncc, if_neg (by rw [pq]; exact hp), if_pos c2, e0, b43]) ?_
   by_cases h43 : (bl t).getD 0 0 = 43
   ·rw [if_pos (.inr h43), decide_eq_true h43]
    exact Ev.step (f := fun k => ah.j3 k (t.extract 1 t.size) 0 c) (fun k => by rw [ah.j2, if_pos rfl, if_pos c3]) hT
   ·rw [if_neg (by rintro (h | h); exact h45 h; exact h43 h), decide_eq_false h43]
    exact Ev.step (f := fun k => ah.j3 k t 0 c) (fun k => by rw [ah.j2, if_neg (by decide)]) hS
theorem PE (s : ByteArray) (h0 : 0 < s.size) (hs : s.size ≤ 1000000) : Ev (fun k => ah.f k s) (if (bl s).getD 0 0 = 101 ∨ (bl s).getD 0 0 = 69 then exS 1048576 ((bl s).drop 1) else (0, false)) := by
 have e0 : bt s 0 = (((bl s).getD 0 0).toNat : Int) := sZ s 0
 have e101 := b8 ((bl s).getD 0 0) 101 (by decide) 101 rfl 101 rfl
 have e69 := b8 ((bl s).getD 0 0) 69 (by decide) 69 rfl 69 rfl
 have c2 : (0 : Int) < (s.size : Int) := by omega
 have c3 : (1 : Int) ≤ (s.size : Int) := by omega
 have n69 : ((((bl s).getD 0 0).toNat : Int) != 69) = decide (¬ (bl s).getD 0 0 = 69) := by
  rw [Bool.eq_iff_iff, bne_iff_ne, decide_eq_true_eq, ne_eq, e69]
 have hj : Ev (fun k => ah.j0 k s 0 false) (exS 1048576 ((bl s).drop 1)) := by
  have hb := ou s 1
  have ht := pR s 1
  have hsz : (s.extract 1 s.size).size ≤ 1000000 := by omega
  have e0' : bt (s.extract 1 s.size) 0 = (((bl (s.extract 1 s.size)).getD 0 0).toNat : Int) := sZ _ 0
  have e45 := b8 ((bl (s.extract 1 s.size)).getD 0 0) 45 (by decide) 45 rfl 45 rfl
  have b45 := FX _ _ _ e45
  have hsg := fun c hc => NZ (s.extract 1 s.size) hsz c hc
  rw [← hb]
  by_cases hz : (s.extract 1 s.size).size = 0
  ·refine Ev.step (f := fun k => ah.j1 k (s.extract 1 s.size) 0 false) (fun k => by rw [ah.j0, if_neg (by decide), if_pos c3, if_pos (by rw [pq]; exact hz)]) (hsg false ?_)
   have : bl (s.extract 1 s.size) = [] := List.length_eq_zero_iff.1 (by rw [jU]; exact hz)
   rw [this]
   rfl
  ·have c4 : (0 : Int) < ((s.extract 1 s.size).size : Int) := by omega
   exact Ev.step (f := fun k => ah.j1 k (s.extract 1 s.size) 0 (decide ((bl (s.extract 1 s.size)).getD 0 0 = 45))) (fun k => by rw [ah.j0, if_neg (by decide), if_pos c3, if_neg (by rw [pq]; exact hz), if_pos c4, e0', b45]) (hsg _ rfl)
 unfold ah.f
 refine Ev.pos c2 ?_
 rw [e0]
 by_cases h1 : (bl s).getD 0 0 = 101
 ·rw [if_pos (.inl h1)]
  exact Ev.pos (by rw [e101]; exact h1) hj
 ·refine Ev.neg (by rw [e101]; exact h1) ?_
  rw [n69]
  by_cases h2 : (bl s).getD 0 0 = 69
  ·rw [if_pos (.inr h2), decide_eq_false (fun h => h h2)]
   exact hj
  ·rw [if_neg (by rintro (h | h); exact h1 h; exact h2 h), decide_eq_true h2]
   exact Ev.one fun k => by rw [ah.j0, if_pos rfl]
def toA (l : List UInt8) : List Nat := l.map UInt8.toNat
theorem H6 (l : List UInt8) : bl (strOfNums (toI (toA l))) = l := by
 unfold bl
 rw [strOfNums_data]
 unfold toI toA
 rw [List.map_map, List.map_map]
 conv => rhs; rw [← List.map_id l]
 apply List.map_congr_left
 intro c _
 simp
theorem Ec (l : List UInt8) (c : UInt8) : toI (toA l) ++ [((c.toNat : Nat) : Int)] = toI (toA (l ++ [c])) := by unfold toA; rw [zA, List.map_append]; rfl
def N7 (r : Bool × ByteArray × ByteArray × Int × Bool) (neg : Bool) (S : List UInt8 × (Bool × Nat × Int) × Bool) : Prop :=
 r.1 = neg ∧ bl r.2.1 = [] ∧ r.2.2.2.2 = S.2.2 ∧ (S.2.2 = true → bl r.2.2.1 = S.1 ∧ r.2.2.2.1 = NS 1048576 S.2.1)
theorem Ed (s : ByteArray) (neg : Bool) (sp : ByteArray) (hsp : bl sp = []) (d0 : ByteArray) (hs : s.size ≤ 1000000) (D : List UInt8) (b : Int) (h1 : -1 ≤ b) (h2 : b ≤ 1000000) {i : Nat} (hi : i ≤ s.size) (S : List UInt8 × (Bool × Nat × Int) × Bool)
  (hS : S = if i = s.size then (D, (false, 0, mx 0 b), decide (D ≠ [])) else if (bl s).getD i 0 = 101 ∨ (bl s).getD i 0 = 69 then (D, ((exV ((bl s).drop (i + 1))).1, (exV ((bl s).drop (i + 1))).2.1, mx 0 b), (exV ((bl s).drop (i + 1))).2.2 && decide (D ≠ [])) else (D, (false, 0, 0), false)) :
  ∃ r, Ev (fun k => au.j4 k s (toI (toA D)) (i : Int) neg sp d0 (-(mx 0 b))) r ∧ N7 r neg S := by
 have hm := mx0 h1 h2
 have hlen : (toI (toA D)).length = D.length := by rw [kH]; exact List.length_map _
 by_cases hD : D = []
 ·have c0 : (((toI (toA D)).length : Nat) : Int) = 0 := by rw [hlen, hD]; rfl
  refine ⟨(neg, sp, strOfNums (toI (toA D)), -(mx 0 b), false), Ev.one fun k => by rw [au.j4, if_pos c0], rfl, hsp, ?_, fun h => ?_⟩
  ·rw [hS]
   split
   ·simp [hD]
   ·split
    ·simp [hD]
    ·rfl
  ·exfalso
   rw [hS] at h
   split at h
   ·simp [hD] at h
   ·split at h
    ·simp [hD] at h
    ·cases h
 ·have hpos := List.length_pos_iff.2 hD
  have c0 : ¬ (((toI (toA D)).length : Nat) : Int) = 0 := by rw [hlen]; omega
  by_cases he : i = s.size
  ·rw [if_pos he] at hS
   refine ⟨(neg, sp, strOfNums (toI (toA D)), -(mx 0 b), true), Ev.one fun k => by rw [au.j4, if_neg c0, if_pos (by rw [he])], rfl, hsp, ?_, fun _ => ?_⟩
   ·rw [hS]; exact (decide_eq_true hD).symm
   ·rw [hS]
    refine ⟨H6 D, ?_⟩
    show -(mx 0 b) = (0 : Int) - mx 0 b
    omega
  ·rw [if_neg he] at hS
   have c1 : ¬ ((i : Int) = (s.size : Int)) := by omega
   have c2 : (0 : Int) ≤ (i : Int) := by omega
   have c3 : (i : Int) ≤ (s.size : Int) := by omega
   have hlt : i < (bl s).length := by rw [jU]; omega
   have hex := PE (s.extract i s.size) (by rw [pR]; omega) (by rw [pR]; omega)
   rw [ou, List.drop_drop, drop_cons hlt] at hex
   rw [show ((bl s).getD i 0 :: (bl s).drop (i + 1)).getD 0 0 = (bl s).getD i 0 from rfl] at hex
   have head : ∀ k, au.j4 (k + 1) s (toI (toA D)) (i : Int) neg sp d0 (-(mx 0 b)) = (ah.f k (s.extract i s.size)).bind fun bt114 => (some (neg, sp, strOfNums (toI (toA D)), wrap64 (-(mx 0 b) + bt114.1), bt114.2)) := fun k => by
    rw [au.j4, if_neg c0, if_neg c1, if_pos c2, if_pos c3, Int.toNat_natCast]
   by_cases h : (bl s).getD i 0 = 101 ∨ (bl s).getD i 0 = 69
   ·rw [if_pos h] at hS hex
    rw [NR] at hex
    by_cases hv : (exV ((bl s).drop (i + 1))).2.2 = true
    ·rw [if_pos hv] at hex
     refine ⟨_, Ev.step head (Ev.bind hex (Ev.now _)), rfl, hsp, ?_, fun _ => ?_⟩
     ·rw [hS]; simp [hv, hD]
     ·rw [hS]
      refine ⟨H6 D, ?_⟩
      have hsr := FY (exV ((bl s).drop (i + 1))).1 (min (exV ((bl s).drop (i + 1))).2.1 1048576) (Nat.le_trans (Nat.min_le_right _ _) (by decide))
      show wrap64 (-(mx 0 b) + vK (exV ((bl s).drop (i + 1))).1 ((min (exV ((bl s).drop (i + 1))).2.1 1048576 : Nat) : Int)) = vK (exV ((bl s).drop (i + 1))).1 ((min (exV ((bl s).drop (i + 1))).2.1 1048576 : Nat) : Int) - mx 0 b
      generalize vK (exV ((bl s).drop (i + 1))).1 ((min (exV ((bl s).drop (i + 1))).2.1 1048576 : Nat) : Int) = z at *
      clear hS hex
      rw [w64 (by omega) (by omega)]
      omega
    ·rw [if_neg hv] at hex
     have hv' : (exV ((bl s).drop (i + 1))).2.2 = false := by simpa using hv
     refine ⟨_, Ev.step head (Ev.bind hex (Ev.now _)), rfl, hsp, ?_, fun hk => ?_⟩
     ·rw [hS]; simp [hv']
     ·rw [hS] at hk; simp [hv'] at hk
   ·rw [if_neg h] at hS hex
    refine ⟨_, Ev.step head (Ev.bind hex (Ev.now _)), rfl, hsp, ?_, fun hk => ?_⟩
    ·rw [hS]
    ·rw [hS] at hk; cases hk
theorem Ls (s : ByteArray) (neg : Bool) (sp : ByteArray) (hsp : bl sp = []) (d0 : ByteArray) (hs : s.size ≤ 1000000) : ∀ d i, i + d = s.size → ∀ (D : List UInt8) (b : Int), -1 ≤ b → b ≤ i → D.length ≤ i →
  ∃ r, Ev (fun k => au.l0 k s (toI (toA D)) (decide (b ≥ 0)) (i : Int) neg sp d0 (-(mx 0 b))) r ∧ N7 r neg (kF ((bl s).drop i) D b) := by
 intro d
 induction d with
 | zero =>
  intro i hi D b h1 h2 h3
  have he : i = s.size := by omega
  have c1 : ¬ ((i : Int) < (s.size : Int)) := by omega
  obtain ⟨r, hr, hrel⟩ := Ed s neg sp hsp d0 hs D b h1 (by omega) (i := i) (by omega) _ (by rw [if_pos he])
  rw [List.drop_of_length_le (by rw [jU]; omega)]
  exact ⟨r, Ev.step (f := fun k => au.j4 k s (toI (toA D)) (i : Int) neg sp d0 (-(mx 0 b))) (fun k => by rw [au.l0, if_neg c1]) hr, hrel⟩
 | succ d ih =>
  intro i hi D b h1 h2 h3
  have hlt : i < (bl s).length := by rw [jU]; omega
  have hne : i ≠ s.size := by omega
  have c1 : (i : Int) < (s.size : Int) := by omega
  have c2 : (0 : Int) ≤ (i : Int) := by omega
  have c3 : i < 1000000000000000000 := by omega
  have c4 : i + 1 + d = s.size := by omega
  have c5 : (toI (toA D)).length < 140737488355328 := by rw [kH]; unfold toA; rw [List.length_map]; omega
  have c6 : (D ++ [(bl s).getD i 0]).length ≤ i + 1 := by rw [List.length_append]; simp; omega
  have c7 : b ≤ ((i + 1 : Nat) : Int) := by omega
  have c8 : b + 1 ≤ ((i + 1 : Nat) : Int) := by omega
  have hb6 : b ≤ 1000000 := by omega
  have e46 := b8 ((bl s).getD i 0) 46 (by decide) 46 rfl 46 rfl
  rw [drop_cons hlt]
  unfold kF
  by_cases hD : isD ((bl s).getD i 0) = true
  ·rw [if_pos hD]
   by_cases hb : b ≥ 0
   ·have em : wrap64 (-(mx 0 b) - 1) = -(mx 0 (b + 1)) := by rw [tu, tu, w64 (by omega) (by omega)]; omega
    have hb1 : decide (b + 1 ≥ 0) = true := decide_eq_true (by omega)
    obtain ⟨r, hr, hrel⟩ := ih (i + 1) c4 (D ++ [(bl s).getD i 0]) (b + 1) (by omega) c8 c6
    rw [hb1] at hr
    rw [if_pos hb]
    refine ⟨r, Ev.step (f := fun k => au.l0 k s (toI (toA (D ++ [(bl s).getD i 0]))) true ((i + 1 : Nat) : Int) neg sp d0 (-(mx 0 (b + 1)))) (fun k => ?_) hr, hrel⟩
    rw [au.l0, if_pos c1, if_pos c2, sZ, tq, pU]
    simp only [Option.bind_some]
    rw [if_pos hD, if_pos c5, if_pos (decide_eq_true hb), decide_eq_true hb, Ec, Fg c3, em]
   ·obtain ⟨r, hr, hrel⟩ := ih (i + 1) c4 (D ++ [(bl s).getD i 0]) b h1 c7 c6
    rw [if_neg hb]
    have hbf : decide (b ≥ 0) = false := decide_eq_false hb
    rw [hbf] at hr ⊢
    refine ⟨r, Ev.step (f := fun k => au.l0 k s (toI (toA (D ++ [(bl s).getD i 0]))) false ((i + 1 : Nat) : Int) neg sp d0 (-(mx 0 b))) (fun k => ?_) hr, hrel⟩
    rw [au.l0, if_pos c1, if_pos c2, sZ, tq, pU]
    simp only [Option.bind_some]
    rw [if_pos hD, if_pos c5, if_neg (by decide), Ec, Fg c3]
  ·rw [if_neg hD]
   have j4 := Ed s neg sp hsp d0 hs D b h1 hb6 (i := i) (Nat.le_of_lt (by omega)) _ (by rw [if_neg hne])
   by_cases h46 : (bl s).getD i 0 = 46
   ·by_cases hb : b < 0
    ·rw [if_pos ⟨h46, hb⟩]
     have hb1 : b = -1 := by omega
     have hbf : decide (b ≥ 0) = false := decide_eq_false (by omega)
     have em : mx 0 b = mx 0 0 := by rw [tu, tu]; omega
     obtain ⟨r, hr, hrel⟩ := ih (i + 1) c4 D 0 (by decide) (by omega) (by omega)
     rw [show decide ((0 : Int) ≥ 0) = true from rfl] at hr
     rw [hbf, em]
     refine ⟨r, Ev.step (f := fun k => au.l0 k s (toI (toA D)) true ((i + 1 : Nat) : Int) neg sp d0 (-(mx 0 0))) (fun k => ?_) hr, hrel⟩
     rw [au.l0, if_pos c1, if_pos c2, sZ, tq, pU]
     simp only [Option.bind_some]
     rw [if_neg hD, if_pos (by rw [e46]; exact h46), if_neg (by decide), Fg c3]
    ·rw [if_neg (fun h => hb h.2)]
     have hbt : decide (b ≥ 0) = true := decide_eq_true (by omega)
     obtain ⟨r, hr, hrel⟩ := j4
     rw [hbt]
     refine ⟨r, Ev.step (f := fun k => au.j4 k s (toI (toA D)) (i : Int) neg sp d0 (-(mx 0 b))) (fun k => ?_) hr, hrel⟩
     rw [au.l0, if_pos c1, if_pos c2, sZ, tq, pU]
     simp only [Option.bind_some]
     rw [if_neg hD, if_pos (by rw [e46]; exact h46), if_pos trivial]
   ·rw [if_neg (fun h => h46 h.1)]
    obtain ⟨r, hr, hrel⟩ := j4
    refine ⟨r, Ev.step (f := fun k => au.j4 k s (toI (toA D)) (i : Int) neg sp d0 (-(mx 0 b))) (fun k => ?_) hr, hrel⟩
    rw [au.l0, if_pos c1, if_pos c2, sZ, tq, pU]
    simp only [Option.bind_some]
    rw [if_neg hD, if_neg (by rw [e46]; exact h46)]
theorem H7 (x : Int) (h : ∀ b ∈ Lib.encodeRune x, b.toNat < 128) : (Lib.encodeRune x).length ≤ 1 := by
 unfold Lib.encodeRune at h ⊢
 rw [List.length_map]
 unfold Lib.encodeRuneZ at h ⊢
 split
 ·exact Nat.le_refl _
 ·rename_i h0
  rw [if_neg h0] at h
  split
  ·rename_i h1
   rw [if_pos h1] at h
   have := h (192 + x / 64).toNat.toUInt8 (by simp)
   simp at this
   omega
  ·rename_i h1
   rw [if_neg h1] at h
   split
   ·rename_i h2
    rw [if_pos h2] at h
    have := h (224 + x / 4096).toNat.toUInt8 (by simp)
    simp at this
    omega
   ·rename_i h2
    rw [if_neg h2] at h
    split
    ·rename_i h3
     rw [if_pos h3] at h
     have := h (240 + x / 262144).toNat.toUInt8 (by simp)
     simp at this
     omega
    ·rename_i h3
     rw [if_neg h3] at h
     have := h (239 : Int).toNat.toUInt8 (by simp)
     exact absurd this (by decide)
theorem N8 (a : UInt8) (l : List UInt8) (h : (Lib.decodeL (a :: l)).2 ≤ 1) : a.toNat < 128 ∨ (Lib.decodeL (a :: l)).1 = 65533 := by
 have ha : (ByteArray.get! ⟨(a :: l).toArray⟩ (0 + 0)) = a := rfl
 unfold Lib.decodeL Utf8.decode at h ⊢
 simp only [ha] at h ⊢
 by_cases h1 : a.toNat < 128
 ·exact .inl h1
 ·right
  rw [if_neg h1] at h ⊢
  split at h
  ·rename_i h2
   rw [if_pos h2]
   split at h
   ·exact absurd h (show ¬ (2 ≤ 1) by decide)
   ·rename_i h3; rw [if_neg h3]; rfl
  ·rename_i h2
   rw [if_neg h2]
   split at h
   ·rename_i h3
    rw [if_pos h3]
    split at h
    ·exact absurd h (show ¬ (3 ≤ 1) by decide)
    ·rename_i h4; rw [if_neg h4]; rfl
   ·rename_i h3
    rw [if_neg h3]
    split at h
    ·rename_i h4
     rw [if_pos h4]
     split at h
     ·exact absurd h (show ¬ (4 ≤ 1) by decide)
     ·rename_i h5; rw [if_neg h5]; rfl
    ·rename_i h4; rw [if_neg h4]; rfl
theorem H8 (l : List UInt8) : 1 ≤ (Lib.decodeL l).2 := by
 unfold Lib.decodeL Utf8.decode
 simp only []
 repeat' split
 all_goals first | exact (by decide : 1 ≤ 1) | exact (by decide : 1 ≤ 2) | exact (by decide : 1 ≤ 3) | exact (by decide : 1 ≤ 4)
theorem PG (a : UInt8) (l : List UInt8) : (Lib.decodeL (a :: l)).2 ≤ l.length + 1 := by
 have hs : (⟨(a :: l).toArray⟩ : ByteArray).size = l.length + 1 := by simp [ByteArray.size]
 unfold Lib.decodeL Utf8.decode
 simp only [hs]
 repeat' split
 all_goals (try simp only [Bool.and_eq_true, decide_eq_true_eq] at *)
 all_goals first | omega | (simp only []; omega)
theorem N9 : Lib.toLowerU ((65533 : Nat) : Int) = 65533 := by decide +kernel
theorem wP (n : Nat) (a : UInt8) (l t : List UInt8) (ht : ∀ b ∈ t, b.toNat < 128) (h : Lib.mapGoD Lib.toLowerU (n + 1) (a :: l) = t) (hl : l.length + 1 = t.length) (hrest : ∀ l' : List UInt8, (∀ b ∈ Lib.mapGoD Lib.toLowerU n l', b.toNat < 128) → (Lib.mapGoD Lib.toLowerU n l').length ≤ l'.length) :
  a.toNat < 128 ∧ ∃ t', t' = Lib.mapGoD Lib.toLowerU n l ∧ t'.length = l.length ∧ (∀ b ∈ t', b.toNat < 128) := by
 rw [Lib.mapGoD, if_neg (List.cons_ne_nil a l)] at h
 have hp := H8 (a :: l)
 have hd := N8 a l
 have hle := PG a l
 generalize hD : Lib.decodeL (a :: l) = D at *
 obtain ⟨r, w⟩ := D
 simp only [] at h hp hd hle
 have h1 : ∀ b ∈ (if 0 ≤ Lib.toLowerU (r : Int) then Lib.encodeRune (Lib.toLowerU (r : Int)) else []), b.toNat < 128 := fun b hb => ht b (by rw [← h]; exact List.mem_append_left _ hb)
 have h2 : ∀ b ∈ Lib.mapGoD Lib.toLowerU n ((a :: l).drop w), b.toNat < 128 := fun b hb => ht b (by rw [← h]; exact List.mem_append_right _ hb)
 have h3 := hrest _ h2
 have h4 : (if 0 ≤ Lib.toLowerU (r : Int) then Lib.encodeRune (Lib.toLowerU (r : Int)) else []).length ≤ 1 := by
  split at h1
  ·rename_i h0; rw [if_pos h0]; exact H7 _ h1
  ·rename_i h0; rw [if_neg h0]; exact Nat.zero_le _
 have h5 := congrArg List.length h
 rw [List.length_append] at h5
 rw [List.length_drop, List.length_cons] at h3
 have hw : w = 1 := by omega
 subst hw
 rw [show (a :: l).drop 1 = l from rfl] at h2 h3 h5
 rcases hd (Nat.le_refl _) with h6 | h6
 ·exact ⟨h6, _, rfl, by omega, h2⟩
 ·exfalso
  rw [h6, N9] at h1
  have := h1 239 (by decide)
  exact absurd this (by decide)
theorem yu (f : Int → Int) : ∀ (n : Nat) (l : List UInt8), (∀ b ∈ Lib.mapGoD f n l, b.toNat < 128) → (Lib.mapGoD f n l).length ≤ l.length
 | 0, l, _ => by simp [Lib.mapGoD]
 | n + 1, l, h => by
  rw [Lib.mapGoD] at h ⊢
  split
  ·simp
  ·rename_i hl
   rw [if_neg hl] at h
   have hp := H8 l
   have ih := yu f n (l.drop (Lib.decodeL l).2) fun b hb => h b (List.mem_append_right _ hb)
   rw [List.length_append]
   rw [List.length_drop] at ih
   have h4 : (if 0 ≤ f ((Lib.decodeL l).1 : Int) then Lib.encodeRune (f ((Lib.decodeL l).1 : Int)) else []).length ≤ 1 := by
    have h1 : ∀ b ∈ (if 0 ≤ f ((Lib.decodeL l).1 : Int) then Lib.encodeRune (f ((Lib.decodeL l).1 : Int)) else []), b.toNat < 128 := fun b hb => h b (List.mem_append_left _ hb)
    split at h1
    ·rename_i h0; rw [if_pos h0]; exact H7 _ h1
    ·rename_i h0; rw [if_neg h0]; exact Nat.zero_le _
   have := List.length_pos_iff.2 hl
   omega
theorem Jb (c : UInt8) : Lib.lowerB c = kY c := by
 unfold Lib.lowerB kY Lib.isUpperB
 have e : (decide (65 ≤ c) && decide (c ≤ 90)) = decide (65 ≤ c.toNat ∧ c.toNat ≤ 90) := by
  rw [Bool.eq_iff_iff]
  simp only [Bool.and_eq_true, decide_eq_true_eq, UInt8.le_iff_toNat_le]
  exact Iff.rfl
 rw [e]
 by_cases h : 65 ≤ c.toNat ∧ c.toNat ≤ 90
 ·rw [if_pos h, if_pos (decide_eq_true h)]
  apply UInt8.toNat_inj.1
  rw [UInt8.toNat_add, UInt8.toNat_ofNat']
  rfl
 ·rw [if_neg h, if_neg (by simpa using h)]
theorem QM {l t : List UInt8} (hl : l.length = 3) (ht3 : t.length = 3) (ht : ∀ b ∈ t, b.toNat < 128) : Lib.toLowerD l = t ↔ l.map kY = t := by
 have key : (∀ b ∈ l, b.toNat < 128) → Lib.toLowerD l = l.map kY := fun h => by
  rw [Lib.toLowerD_ascii l h]
  unfold Lib.toLowerA
  exact List.map_congr_left fun c _ => Jb c
 constructor
 ·intro h
  have hasc : ∀ b ∈ l, b.toNat < 128 := by
   match l, hl with
   | [a, b, c], _ =>
    have h' : Lib.mapGoD Lib.toLowerU 3 [a, b, c] = t := h
    obtain ⟨g1, t1, e1, l1, a1⟩ := wP 2 a [b, c] t ht h' (by rw [ht3]; rfl) (yu _ 2)
    obtain ⟨g2, t2, e2, l2, a2⟩ := wP 1 b [c] t1 a1 e1.symm (by rw [l1]; rfl) (yu _ 1)
    obtain ⟨g3, _⟩ := wP 0 c [] t2 a2 e2.symm (by rw [l2]; rfl) (yu _ 0)
    intro x hx
    simp at hx
    rcases hx with rfl | rfl | rfl
    ·exact g1
    ·exact g2
    ·exact g3
  rw [← key hasc]
  exact h
 ·intro h
  rw [key ?_]
  ·exact h
  ·intro b hb
   have h1 := ht (kY b) (by rw [← h]; exact List.mem_map_of_mem hb)
   unfold kY at h1
   split at h1
   ·omega
   ·exact h1
end Go.Proofs.YtafikkmnkeddpaaGreatDoor.P
namespace Go.Proofs.YtafikkmnkeddpaaGreatDoor.P
open Go.RowKit Go.Proofs.YtafikkmnkeddpaaGreatDoorW.PrintWords Go.Proofs.YtafikkmnkeddpaaGreatDoorW.PrintLast Go.Proofs.YtafikkmnkeddpaaGreatDoorW.PrintMore
def Lu (r : Bool × ByteArray × ByteArray × Int × Bool) (l : List UInt8) : Prop :=
 if (jB l).map kY = CY then r.1 = jP l ∧ bl r.2.1 = CY ∧ r.2.2.2.2 = true
 else if (jB l).map kY = CZ then r.1 = jP l ∧ bl r.2.1 = CZ ∧ r.2.2.2.2 = true
 else N7 r (jP l) (kF (jB l) [] (-1))
theorem zK (s : ByteArray) (hs : s.size ≤ 1000000) (neg : Bool) : ∃ r, Ev (fun k => au.j1 k s neg (⟨#[]⟩ : ByteArray) (⟨#[]⟩ : ByteArray) 0) r ∧
    (if (bl s).map kY = CY then r.1 = neg ∧ bl r.2.1 = CY ∧ r.2.2.2.2 = true
     else if (bl s).map kY = CZ then r.1 = neg ∧ bl r.2.1 = CZ ∧ r.2.2.2.2 = true
     else N7 r neg (kF (bl s) [] (-1))) := by
  obtain ⟨r0, hr0, hrel0⟩ := Ls s neg ⟨#[]⟩ rfl ⟨#[]⟩ hs s.size 0 (Nat.zero_add _) [] (-1) (by decide) (by decide) (by decide)
  rw [List.drop_zero] at hrel0
  have hlow : fP.f s = some ⟨(Lib.toLowerD (bl s)).toArray⟩ := by
    unfold fP.f
    rw [if_pos (by omega)]
  obtain ⟨t, ht, htb⟩ : ∃ t : ByteArray, fP.f s = some t ∧ bl t = Lib.toLowerD (bl s) := ⟨_, hlow, by simp [bl]⟩
  have c0 : (0 : Int) ≤ (s.size : Int) := by omega
  have c1 : ((s.size : Int)).toNat ≤ 281474976710656 := by omega
  have hfalse : Ev (fun k => au.j2 k s t false neg (⟨#[]⟩ : ByteArray) (⟨#[]⟩ : ByteArray) 0) r0 := by
    refine Ev.step (f := fun k => au.l0 k s (([] : List Int)) false 0 neg (⟨#[]⟩ : ByteArray) (⟨#[]⟩ : ByteArray) 0) (fun k => by rw [au.j2, if_neg (by decide), if_pos c0, if_pos c1]) ?_
    have e1 : mx 0 (-1) = 0 := by rw [tu]; decide
    rw [e1] at hr0
    exact hr0
  have htrue : Ev (fun k => au.j2 k s t true neg (⟨#[]⟩ : ByteArray) (⟨#[]⟩ : ByteArray) 0) (neg, t, ⟨#[]⟩, 0, true) := Ev.one fun k => by rw [au.j2, if_pos rfl]
  by_cases h3 : s.size = 3
  · have c3 : (s.size : Int) = 3 := by omega
    have hl3 : (bl s).length = 3 := by rw [jU]; exact h3
    have li := QM (t := CY) hl3 rfl (by decide)
    have ln := QM (t := CZ) hl3 rfl (by decide)
    have ei' : (t.toList = ([105, 110, 102] : List UInt8)) = ((bl s).map kY = CY) := by rw [lM, htb]; exact propext li
    have en : (t.toList == ([110, 97, 110] : List UInt8)) = decide ((bl s).map kY = CZ) := by
      rw [lM, htb, Bool.eq_iff_iff, beq_iff_eq, decide_eq_true_eq]; exact ln
    by_cases hi : (bl s).map kY = CY
    · refine ⟨(neg, t, ⟨#[]⟩, 0, true), Ev.step (f := fun k => au.j2 k s t true neg (⟨#[]⟩ : ByteArray) (⟨#[]⟩ : ByteArray) 0) (fun k => ?_) htrue, ?_⟩
      · rw [au.j1, ht]
        simp only [Option.bind_some]
        rw [if_pos c3, if_pos (by rw [ei']; exact hi)]
      · rw [if_pos hi]
        exact ⟨rfl, by rw [htb]; exact li.2 hi, rfl⟩
    · by_cases hn : (bl s).map kY = CZ
      · refine ⟨(neg, t, ⟨#[]⟩, 0, true), Ev.step (f := fun k => au.j2 k s t true neg (⟨#[]⟩ : ByteArray) (⟨#[]⟩ : ByteArray) 0) (fun k => ?_) htrue, ?_⟩
        · rw [au.j1, ht]
          simp only [Option.bind_some]
          rw [if_pos c3, if_neg (by rw [ei']; exact hi), en, decide_eq_true hn]
        · rw [if_neg hi, if_pos hn]
          exact ⟨rfl, by rw [htb]; exact ln.2 hn, rfl⟩
      · refine ⟨r0, Ev.step (f := fun k => au.j2 k s t false neg (⟨#[]⟩ : ByteArray) (⟨#[]⟩ : ByteArray) 0) (fun k => ?_) hfalse, ?_⟩
        · rw [au.j1, ht]
          simp only [Option.bind_some]
          rw [if_pos c3, if_neg (by rw [ei']; exact hi), en, decide_eq_false hn]
        · rw [if_neg hi, if_neg hn]; exact hrel0
  · have c3 : ¬ (s.size : Int) = 3 := by omega
    have hlen : ((bl s).map kY).length ≠ 3 := by rw [List.length_map, jU]; exact h3
    have hi : ¬ (bl s).map kY = CY := fun h => hlen (by rw [h]; rfl)
    have hn : ¬ (bl s).map kY = CZ := fun h => hlen (by rw [h]; rfl)
    refine ⟨r0, Ev.step (f := fun k => au.j2 k s t false neg (⟨#[]⟩ : ByteArray) (⟨#[]⟩ : ByteArray) 0) (fun k => ?_) hfalse, ?_⟩
    · rw [au.j1, ht]
      simp only [Option.bind_some]
      rw [if_neg c3]
    · rw [if_neg hi, if_neg hn]; exact hrel0
theorem LC (s : ByteArray) (hs : s.size ≤ 1000000) : ∃ r, Ev (fun k => au.f k s) r ∧ Lu r (bl s) := by
 have e0 : bt s 0 = (((bl s).getD 0 0).toNat : Int) := sZ s 0
 unfold au.f Lu jB jP
 by_cases h0 : 0 < s.size
 ·have c0 : ¬ s.toList = ([] : List UInt8) := by rw [pq]; omega
  have c2 : (0 : Int) < (s.size : Int) := by omega
  have c3 : (1 : Int) ≤ (s.size : Int) := by omega
  have e45 := b8 ((bl s).getD 0 0) 45 (by decide) 45 rfl 45 rfl
  have e43 := b8 ((bl s).getD 0 0) 43 (by decide) 43 rfl 43 rfl
  have b45 := FX _ _ _ e45
  have hT := zK (s.extract 1 s.size) (by rw [pR]; omega) (decide ((bl s).getD 0 0 = 45))
  rw [ou] at hT
  obtain ⟨r, hr0, hrel⟩ := hT
  have hr : Ev (fun k => au.j0 k s true false (⟨#[]⟩ : ByteArray) (⟨#[]⟩ : ByteArray) 0) r := Ev.step (f := fun k => au.j1 k (s.extract 1 s.size) (decide ((bl s).getD 0 0 = 45)) (⟨#[]⟩ : ByteArray) (⟨#[]⟩ : ByteArray) 0) (fun k => by rw [au.j0, if_pos rfl, if_pos c2, if_pos c3, e0, b45]) hr0
  by_cases h43 : (bl s).getD 0 0 = 43
  ·rw [if_pos (.inr h43)]
   exact ⟨r, Ev.neg c0 (Ev.pos c2 (Ev.pos (by rw [e0, e43]; exact h43) hr)), hrel⟩
  ·have n43 : ¬ bt s 0 = 43 := by rw [e0, e43]; exact h43
   by_cases h45 : (bl s).getD 0 0 = 45
   ·rw [if_pos (.inl h45)]
    refine ⟨r, Ev.neg c0 (Ev.pos c2 (Ev.neg n43 ?_)), hrel⟩
    rw [e0, b45, decide_eq_true h45]
    exact hr
   ·obtain ⟨r, hr, hrel⟩ := zK s hs false
    rw [if_neg (by rintro (h | h); exact h45 h; exact h43 h), decide_eq_false h45]
    refine ⟨r, Ev.neg c0 (Ev.pos c2 (Ev.neg n43 ?_)), hrel⟩
    rw [e0, b45, decide_eq_false h45]
    exact Ev.step (f := fun k => au.j1 k s false (⟨#[]⟩ : ByteArray) (⟨#[]⟩ : ByteArray) 0) (fun k => by rw [au.j0, if_neg (by decide)]) hr
 ·have hb : bl s = [] := List.length_eq_zero_iff.1 (by rw [jU]; omega)
  have c0 : s.toList = ([] : List UInt8) := by rw [lM]; exact hb
  obtain ⟨r, hr, hrel⟩ := zK s hs false
  rw [hb] at hrel ⊢
  exact ⟨r, Ev.pos c0 (Ev.step (f := fun k => au.j1 k s false (⟨#[]⟩ : ByteArray) (⟨#[]⟩ : ByteArray) 0) (fun k => by rw [au.j0, if_neg (by decide)]) hr), hrel⟩
theorem zL (c : UInt8) (l : List UInt8) : dn (c :: l) = (c.toNat - 48) * 10 ^ l.length + dn l := by
 have := qA [c] l
 rw [List.singleton_append] at this
 rw [this]
 congr 1
 simp [dn]
theorem zM : ∀ l : List UInt8, dn (l.dropWhile (· == 48)) = dn l
 | [] => rfl
 | c :: l => by
  rw [List.dropWhile_cons]
  split
  ·rename_i h
   have hc : c = 48 := by simpa using h
   rw [zM l, zL, hc]
   simp
  ·rfl
theorem LD {l : List UInt8} (hd : n_ l) {L : Nat} (hL : (l.dropWhile (· == 48)).length = L + 1) : 10 ^ L ≤ dn l := by
 rw [← zM]
 have hsub : ∀ c ∈ l.dropWhile (· == 48), 48 ≤ c.toNat ∧ c.toNat ≤ 57 := fun c hc => hd c ((List.dropWhile_sublist _).subset hc)
 match hm : l.dropWhile (· == 48) with
 | [] => rw [hm] at hL; cases hL
 | c :: r =>
  have hh : (c == 48) = false := by
   have := List.head?_dropWhile_not (p := (· == (48 : UInt8))) (l := l)
   rw [hm] at this
   simpa using this
  have hc := hsub c (by rw [hm]; simp)
  have hne : c.toNat ≠ 48 := fun e => by
   have : c = 48 := UInt8.toNat_inj.1 e
   rw [this] at hh
   cases hh
  rw [hm, List.length_cons] at hL
  rw [zL, show r.length = L by omega]
  have : 1 * 10 ^ L ≤ (c.toNat - 48) * 10 ^ L := Nat.mul_le_mul_right _ (by omega)
  omega
theorem QN {n : Nat} (h : n ≤ 5000) : dH.f (n : Int) = some (wI (10 ^ n)) := by
 have hf := F5 n
 unfold dH.f gB.f iU
 rw [Int.toNat_natCast, show (10 : Int).toNat = 10 from rfl, if_pos ⟨by decide, by decide, by omega, by omega, by omega⟩]
 rfl
theorem RU {u v : Nat} (h1 : (toW u).length ≤ 1000) (h2 : (toW v).length ≤ 1000) (h3 : (toW (u * v)).length ≤ 1000) : gY.f (wI u) (wI v) = some (wI (u * v), 0) := by
 unfold gY.f iU
 rw [kQ, kQ, if_pos ⟨⟨OkI.wI (by omega), OkI.wI (by omega)⟩, by omega, by omega, by omega⟩]
theorem N_ {a : Int} {F : Fm} (h : mQ a = some F) {m : Int} (hm : ¬ (m < 0 ∨ 5 < m)) (neg : Bool) {n L : Nat} (hL : L ≤ 2000) (h1 : 10 ^ L ≤ n) (h2 : n < 10 ^ (L + 1)) {x : Int} (hx1 : -3000 ≤ x) (hx2 : x ≤ 600) (hxp : 0 ≤ x → L + x ≤ 600) :
  Ev (fun k => if x < 0 then ((dH.f (wrap64 (-x))).bind fun t258 => ((bJ.f k a m neg (wI n) t258 0).bind fun bt261 => (some (bt261.1, bt261.2.1, bt261.2.2)))) else ((dH.f x).bind fun t264 => ((gY.f (wI n) t264).bind fun bt267 => ((bJ.f k a m neg bt267.1 (([1] : List Int)) 0).bind fun bt274 => (some (bt274.1, bt274.2.1, bt274.2.2)))))) (((qx F m neg n x).1 : Int), ((qx F m neg n x).2 : Int), 0) := by
 have hn0 : n ≠ 0 := by have := lX L; omega
 have hnl := Hu h2
 unfold qx
 by_cases hx : x < 0
 ·refine Ev.pos hx ?_
  obtain ⟨k, hk⟩ : ∃ k : Nat, (k : Int) = -x := ⟨(-x).toNat, by omega⟩
  have e0 : wrap64 (-x) = (k : Int) := by rw [w64 (by omega) (by omega), hk]
  have e1 : x.toNat = 0 := by omega
  have e2 : (-x).toNat = k := by omega
  have ht := F5 k
  have hp : 10 ^ k ≠ 0 := by have := lX k; omega
  have hR := Bz h hm neg (num := n) (den := 10 ^ k) hn0 hp (by omega) (by omega)
  rw [e0, e1, e2, Nat.pow_zero, Nat.mul_one, QN (by omega)]
  exact Ev.bs (Ev.bind hR (Ev.now _))
 ·refine Ev.neg hx ?_
  obtain ⟨k, rfl⟩ := Int.eq_ofNat_of_zero_le (show 0 ≤ x by omega)
  have hk := hxp (by omega)
  have e1 : ((k : Nat) : Int).toNat = k := Int.toNat_natCast k
  have e2 : (-((k : Nat) : Int)).toNat = 0 := by omega
  have ht := F5 k
  have hprod : n * 10 ^ k < 10 ^ (L + 1 + k) := by rw [Nat.pow_add]; exact Nat.mul_lt_mul_of_pos_right h2 (lX k)
  have hpl := Hu hprod
  have hne : n * 10 ^ k ≠ 0 := Nat.mul_ne_zero hn0 (by have := lX k; omega)
  have hR := Bz h hm neg (num := n * 10 ^ k) (den := 1) hne (by decide) (by omega) (by rw [ru]; decide)
  rw [QJ] at hR
  rw [e1, e2, Nat.pow_zero, QN (by omega)]
  refine Ev.bs ?_
  rw [RU (by omega) (by omega) (by omega)]
  exact Ev.bs (Ev.bind hR (Ev.now _))
theorem wQ (a m : Int) (s : ByteArray) : Ev (fun k => bV.f k a m s) (rG a m (bl s)) := by
 unfold bV.f rG
 cases hf : mQ a with
 | none =>
  rw [Ea hf]
  exact Ev.bs (Ev.neg (by decide) (Ev.now _))
 | some F =>
  have hF := vM hf
  rw [Hw hf]
  refine Ev.bs (Ev.pos rfl ?_)
  simp only []
  by_cases hm : m < 0 ∨ 5 < m
  ·rw [if_pos hm]
   have hg : dR.f m = some false := by
    unfold dR.f
    rcases hm with h | h
    ·rw [if_neg (by omega)]
    ·rw [if_pos (by omega), decide_eq_false (by omega)]
   rw [hg]
   exact Ev.bs (Ev.neg (by decide) (Ev.now _))
  ·rw [if_neg hm]
   have hg : dR.f m = some true := by
    unfold dR.f
    rw [if_pos (by omega), decide_eq_true (by omega)]
   rw [hg]
   refine Ev.bs (Ev.pos rfl ?_)
   by_cases hsz : 2000 < (bl s).length
   ·rw [if_pos hsz]
    exact Ev.pos (by rw [jU] at hsz; omega) (Ev.now _)
   ·rw [if_neg hsz]
    rw [jU] at hsz
    refine Ev.neg (by omega) ?_
    obtain ⟨r, hr, hrel⟩ := LC s (by omega)
    refine Ev.bind hr ?_
    obtain ⟨r1, r2, r3, r4, r5⟩ := r
    unfold Lu at hrel
    simp only [] at hrel ⊢
    have htrim : fM.f r3 (⟨#[48]⟩ : ByteArray) = some ⟨(Lib.trimLeftB (bl r3) 48).toArray⟩ := by
     unfold fM.f
     rw [if_pos ⟨by decide, by decide⟩]
     rfl
    split at hrel
    ·rename_i hi
     obtain ⟨g1, g2, g3⟩ := hrel
     rw [if_pos hi]
     refine Ev.pos g3 ?_
     rw [htrim]
     refine Ev.bs (Ev.pos (by rw [lM, g2]; rfl) ?_)
     rw [QH hf, g1]
     exact Ev.bs (Ev.now _)
    ·rename_i hi
     rw [if_neg hi]
     split at hrel
     ·rename_i hn
      obtain ⟨g1, g2, g3⟩ := hrel
      rw [if_pos hn]
      refine Ev.pos g3 ?_
      rw [htrim]
      refine Ev.bs (Ev.neg (by rw [lM, g2]; decide) (Ev.pos (by rw [lM, g2]; rfl) ?_))
      rw [RQ hf]
      exact Ev.bs (Ev.now _)
     ·rename_i hn
      obtain ⟨g1, g2, g3, g4⟩ := hrel
      simp only [] at g1 g2 g3 g4
      rw [if_neg hn]
      by_cases hok : (kF (jB (bl s)) [] (-1)).2.2 = true
      ·obtain ⟨g6, g7⟩ := g4 hok
       have hul : (jB (bl s)).length ≤ s.size := by
        rw [← jU]
        unfold jB
        split
        ·rw [List.length_drop]; omega
        ·exact Nat.le_refl _
       obtain ⟨p1, p2, p3, p4, p5⟩ := rF (jB (bl s)) [] (-1) rfl (by decide)
       have hmx : mx 0 (-1) = 0 := by rw [tu]; decide
       rw [hmx] at p4
       refine Ev.pos (by rw [g3]; exact hok) ?_
       rw [if_pos hok, ← g6] at *
       generalize (kF (jB (bl s)) [] (-1)).2.1 = ex at *
       have p2' : r3.size ≤ (jB (bl s)).length := by rw [← jU]; simpa using p2
       have hsz4 : r3.size ≤ 2000 := by omega
       have hdig := D_ p1
       rw [htrim]
       refine Ev.bs (Ev.neg (by rw [lM, g2]; decide) (Ev.neg (by rw [lM, g2]; decide) ?_))
       have htd : dn (Lib.trimLeftB (bl r3) 48) = dn (bl r3) := zM (bl r3)
       have hsub : (Lib.trimLeftB (bl r3) 48).length ≤ r3.size := by rw [← jU]; exact (List.dropWhile_sublist _).length_le
       have hdt : n_ (Lib.trimLeftB (bl r3) 48) := fun c hc => hdig c ((List.dropWhile_sublist _).subset hc)
       have hbl : bl (⟨(Lib.trimLeftB (bl r3) 48).toArray⟩ : ByteArray) = Lib.trimLeftB (bl r3) 48 := by simp [bl]
       have hbig := fun L hL => LD hdig (L := L) hL
       generalize hT : (⟨(Lib.trimLeftB (bl r3) 48).toArray⟩ : ByteArray) = T at *
       rw [← hbl] at htd hsub hdt
       have hTsz : T.size ≤ r3.size := by rw [← jU]; exact hsub
       by_cases hz : dn (bl r3) = 0
       ·rw [if_pos hz]
        have hTe : bl T = [] := by
         rcases Nat.eq_zero_or_pos (bl T).length with h | h
         ·exact List.length_eq_zero_iff.1 h
         ·exfalso
          have := hbig ((bl T).length - 1) (by rw [hbl] at h ⊢; show (Lib.trimLeftB (bl r3) 48).length = _; omega)
          have h10 := lX ((bl T).length - 1)
          omega
        refine Ev.pos (by rw [lM]; exact hTe) ?_
        rw [QI hf, g1]
        exact Ev.bs (Ev.now _)
       ·rw [if_neg hz]
        have hTp : 0 < T.size := by
         rw [← jU]
         rcases Nat.eq_zero_or_pos (bl T).length with h | h
         ·rw [List.length_eq_zero_iff.1 h] at htd
          exact absurd htd.symm hz
         ·exact h
        obtain ⟨L, hL⟩ : ∃ L, T.size = L + 1 := ⟨T.size - 1, by omega⟩
        have h10 := hbig L (by rw [← hL, ← jU, hbl]; rfl)
        have hup : dn (bl r3) < 10 ^ (L + 1) := by rw [← htd, ← hL, ← jU]; exact uh hdt
        have hfit := Hu hup
        refine Ev.neg (by rw [pq]; omega) ?_
        have hfit2 : iU (dn (bl T)) := by rw [htd]; exact Nat.le_trans hfit (by omega)
        have hok4 : CQ T := ⟨hTp, by omega, hdt, hfit2⟩
        have hP : jH.f T = some (wI (dn (bl r3)), 0) := by
         unfold jH.f
         rw [if_pos hok4, ← htd]
        rw [hP]
        refine Ev.bs ?_
        have hul2 : ex.2.2 ≤ 2000 := by omega
        rw [g7, hL]
        have ew : mx (wrap64 ((-400) - ((L + 1 : Nat) : Int))) (mn (NS 1048576 ex) (wrap64 (400 - ((L + 1 : Nat) : Int)))) = max (-400 - ((L + 1 : Nat) : Int)) (min (xM ex) (400 - ((L + 1 : Nat) : Int))) := by
         rw [w64 (by omega) (by omega), w64 (by omega) (by omega), tu, QG]
         exact FZ (by decide) ex p3 (by omega) (by omega) (by omega) (by omega)
        rw [ew, g1]
        have hcl := EN hF.small m (jP (bl s)) h10 hup (x := xM ex) (lo := -400 - ((L + 1 : Nat) : Int)) (hi := 400 - ((L + 1 : Nat) : Int)) (by omega) (by omega)
        rw [← hcl]
        exact N_ hf hm (jP (bl s)) (by omega) h10 hup (by omega) (by omega) (by omega)
      ·rw [if_neg hok]
       exact Ev.neg (by rw [g3]; exact hok) (Ev.now _)
end Go.Proofs.YtafikkmnkeddpaaGreatDoor.P
namespace Go.Proofs.YtafikkmnkeddpaaGreatDoor.P
open Go.RowKit Go.Proofs.YtafikkmnkeddpaaGreatDoorW.PrintWords Go.Proofs.YtafikkmnkeddpaaGreatDoorW.PrintLast Go.Proofs.YtafikkmnkeddpaaGreatDoorW.PrintMore
theorem Fh (k : Nat) : bV.f (k + 200) 3 0 (⟨#[48, 46, 49]⟩ : ByteArray) = some (4591870180066957722, 16, 0) := by kernel_rfl
theorem IU : aZ.f 0 13653 = some 0 := by decide +kernel
theorem Kz (k : Nat) : aU.f (k + 3) 0 13653 = some (false, 1365, -12, 2, (⟨#[]⟩ : ByteArray)) := by kernel_rfl
theorem Ev.far {α : Type} {g : Nat → Option α} {r : α} (c : Nat) (h : ∀ k, g (k + c) = some r) : Ev g r := ⟨c, fun k hk => by have := h (k - c); rwa [Nat.sub_add_cancel hk] at this⟩
theorem IV : fJ.f false 1365 (-12) 2 = some ((⟨#[51, 51, 51, 51]⟩ : ByteArray), -1) := by decide +kernel
theorem Fj : iF.f (⟨#[51, 51, 51, 51]⟩ : ByteArray) (-1) = some (⟨#[48, 46, 51, 51, 51, 51]⟩ : ByteArray) := by decide +kernel
theorem Nq : (⟨#[]⟩ : ByteArray) ++ (⟨#[48, 46, 51, 51, 51, 51]⟩ : ByteArray) = (⟨#[48, 46, 51, 51, 51, 51]⟩ : ByteArray) := by decide +kernel
theorem CG : Ev (fun k => bn.f k 0 13653) ((⟨#[48, 46, 51, 51, 51, 51]⟩ : ByteArray), 0) := by
 unfold bn.f
 rw [IU]
 refine Ev.bs (Ev.pos rfl ?_)
 refine Ev.bind (Ev.far 3 Kz) (Ev.pos (by rw [pq]; rfl) ?_)
 simp only []
 rw [IV]
 refine Ev.bs (Ev.pos (by decide) ?_)
 refine Ev.step (f := fun _ => some ((⟨#[48, 46, 51, 51, 51, 51]⟩ : ByteArray), 0)) (fun k => ?_) (Ev.now _)
 rw [bn.j0, if_pos (by decide)]
 rw [show bQ.f false 1365 (-12) 2 = some (⟨#[]⟩ : ByteArray) from rfl]
 simp only [Option.bind_some]
 rw [Fj]
 simp only [Option.bind_some]
 rw [if_pos (by decide), Nq]
theorem KA : Ev (fun k => bG.f k) true := by
 have hp : Ev (fun k => bV.f k 3 0 (⟨#[48, 46, 49]⟩ : ByteArray)) (4591870180066957722, 16, 0) := Ev.far 200 Fh
 unfold bG.f
 refine Ev.bind hp (Ev.bind CG ?_)
 refine Ev.pos rfl (Ev.pos rfl (Ev.pos rfl (Ev.pos ?_ ?_)))
 ·rw [lM]
 ·exact Ev.now _
end Go.Proofs.YtafikkmnkeddpaaGreatDoor.P
namespace Go.Proofs.YtafikkmnkeddpaaGreatDoor
structure Fm.zB (F : Fm) : Prop where
 ok : F.Ok
 eq : F.emax - F.emin + 3 = ((2 ^ (F.W - F.P) : Nat) : Int)
def vF (F : Fm) : Nat := (2 ^ (F.W - F.P) - 1) * 2 ^ (F.P - 1)
theorem KR {F : Fm} (hF : F.zB) : 2 ^ (F.P - 1) ≤ vF F ∧ 0 < 2 ^ (F.P - 1) := by
 have h1 := hF.eq
 have h2 := hF.ok.ee
 have hp := Nat.two_pow_pos (F.P - 1)
 refine ⟨?_, hp⟩
 unfold vF
 have : 1 ≤ 2 ^ (F.W - F.P) - 1 := by omega
 exact Nat.le_trans (by rw [Nat.one_mul]; exact Nat.le_refl _) (Nat.mul_le_mul_right (2 ^ (F.P - 1)) this)
theorem FH {F : Fm} (hF : F.zB) (m : Int) : lI F m false = if m = 0 ∨ m = 1 ∨ m = 3 then vF F else vF F - 1 := by
 have h1 := hF.eq
 have h2 := hF.ok.ee
 have hp := Nat.two_pow_pos (F.P - 1)
 unfold lI vF
 simp only [Bool.false_eq_true, and_false, or_false, if_false, Nat.add_zero, and_true]
 split
 ·rfl
 ·obtain ⟨a, ha⟩ : ∃ a, 2 ^ (F.W - F.P) = a + 2 := ⟨2 ^ (F.W - F.P) - 2, by omega⟩
  rw [ha, show a + 2 - 2 = a by omega, show a + 2 - 1 = a + 1 by omega, Nat.add_mul, Nat.one_mul]
  omega
def qOf (F : Fm) (num den : Nat) : Int := max (vU num den 0 - F.P + 1) (F.emin - F.P + 1)
def kOf (F : Fm) (num den : Nat) : Nat := (qOf F num den - (F.emin - F.P + 1)).toNat
def Bh (F : Fm) (m : Int) (num den : Nat) : Nat := kOf F num den * 2 ^ (F.P - 1) + iE m false (plU num den 0 (qOf F num den)) (plL num den 0 (qOf F num den))
theorem KT {F : Fm} (hF : F.Ok) {num den : Nat} (hn : num ≠ 0) (hd : 0 < den) : plU num den 0 (qOf F num den) < 2 ^ F.P ∧ (kOf F num den ≠ 0 → 2 ^ (F.P - 1) ≤ plU num den 0 (qOf F num den)) := by
 have ht := oz hn hd 0
 have hP := hF.p2
 unfold kOf qOf
 generalize vU num den 0 = t at *
 obtain ⟨q, hq⟩ : ∃ q, q = max (t - F.P + 1) (F.emin - F.P + 1) := ⟨_, rfl⟩
 rw [← hq]
 rcases Int.lt_or_le t q with h | h
 ·rw [vT ht h]
  exact ⟨Nat.two_pow_pos _, fun hk => by omega⟩
 ·have hb := oM ht h
  have hne : plU num den 0 q ≠ 0 := fun e => by rw [e] at hb; exact absurd hb (by rw [qH]; omega)
  refine ⟨Nat.lt_of_lt_of_le (kP _) (Nat.pow_le_pow_right (by decide) (by omega)), fun hk => ?_⟩
  have := oG hne
  rwa [show dB (plU num den 0 q) - 1 = F.P - 1 by omega] at this
theorem KU {F : Fm} (hF : F.zB) {num den : Nat} (hn : num ≠ 0) (hd : 0 < den) (m : Int) :
  F.emax + 1 < (dB (iE m false (plU num den 0 (qOf F num den)) (plL num den 0 (qOf F num den))) : Int) + qOf F num den ↔ vF F ≤ Bh F m num den := by
 obtain ⟨hu, hlo⟩ := KT hF.ok hn hd
 have hP := hF.ok.p2
 have he := hF.eq
 have hee := hF.ok.ee
 have g1 := uo m false (plU num den 0 (qOf F num den)) (plL num den 0 (qOf F num den))
 have g2 := qO m false (plU num den 0 (qOf F num den)) (plL num den 0 (qOf F num den))
 unfold Bh vF
 have hk : qOf F num den = F.emin - F.P + 1 + kOf F num den := by unfold kOf; unfold qOf; omega
 rw [hk]
 rw [← hk]
 generalize plL num den 0 (qOf F num den) = l at *
 generalize plU num den 0 (qOf F num den) = u at *
 generalize iE m false u l = n at *
 generalize kOf F num den = k at *
 rw [hk]
 have e2 : 2 ^ F.P = 2 ^ (F.P - 1) + 2 ^ (F.P - 1) := by
  obtain ⟨p, hp⟩ : ∃ p, F.P = p + 1 := ⟨F.P - 1, by omega⟩
  rw [hp, Nat.add_sub_cancel, Nat.pow_succ]; omega
 obtain ⟨K, hK⟩ : ∃ K : Nat, F.emax - F.emin = K := ⟨(F.emax - F.emin).toNat, by omega⟩
 have eW : 2 ^ (F.W - F.P) - 1 = K + 2 := by omega
 rw [eW]
 have hH := Nat.two_pow_pos (F.P - 1)
 have key : F.emax + 1 < (dB n : Int) + (F.emin - F.P + 1 + k) ↔ K + F.P < dB n + k := by omega
 rw [key]
 have b1 : n < 2 ^ (F.P - 1) → dB n ≤ F.P - 1 := fun h => mY h
 have b2 : 2 ^ (F.P - 1) ≤ n → n < 2 ^ F.P → dB n = F.P := fun h1 h2 => by
  have := ql (v := n) (k := F.P - 1) h1 (by rwa [show F.P - 1 + 1 = F.P by omega])
  omega
 have b3 : n = 2 ^ F.P → dB n = F.P + 1 := fun h => by
  rw [h]; exact ql (Nat.le_refl _) (by rw [Nat.pow_succ]; have := Nat.two_pow_pos F.P; omega)
 rw [e2] at hu b2 b3
 generalize 2 ^ (F.P - 1) = H at *
 rcases Nat.lt_or_ge n H with h | h
 ·have hk0 : k = 0 := Classical.byContradiction fun e => by have := hlo e; omega
  have := b1 h
  subst hk0
  refine ⟨fun e => by omega, fun e => ?_⟩
  rw [Nat.add_mul] at e
  omega
 ·rcases Nat.lt_or_ge n (H + H) with h2 | h2
  ·have hb := b2 h h2
   rw [hb]
   refine ⟨fun e => ?_, fun e => Classical.byContradiction fun hc => ?_⟩
   ·have : (K + 1) * H ≤ k * H := Nat.mul_le_mul_right H (by omega)
    rw [Nat.add_mul] at this ⊢
    omega
   ·have : k * H ≤ K * H := Nat.mul_le_mul_right H (by omega)
    rw [Nat.add_mul] at e
    omega
  ·have hn2 : n = H + H := by omega
   rw [b3 hn2, hn2]
   refine ⟨fun e => ?_, fun e => Classical.byContradiction fun hc => ?_⟩
   ·have : K * H ≤ k * H := Nat.mul_le_mul_right H (by omega)
    rw [Nat.add_mul]
    omega
   ·have : (k + 1) * H ≤ K * H := Nat.mul_le_mul_right H (by omega)
    rw [Nat.add_mul] at this e
    omega
theorem NG {F : Fm} (hF : F.zB) {num den : Nat} (hn : num ≠ 0) (hd : 0 < den) (m : Int) :
  (pV F m false num den 0).1 = (if Bh F m num den < vF F then Bh F m num den else if m = 0 ∨ m = 1 ∨ m = 3 then vF F else vF F - 1) ∧
  ((pV F m false num den 0).2 = 0 ∨ (pV F m false num den 0).2 = 16 ∨ (pV F m false num den 0).2 = 20 ∨ (pV F m false num den 0).2 = 24) ∧
  ((pV F m false num den 0).2 = 0 ↔ Bh F m num den < vF F ∧ plL num den 0 (qOf F num den) = 0) := by
 have ho := KU hF hn hd m
 have hb := FH hF m
 unfold pV
 simp only []
 rw [show max (vU num den 0 - (F.P : Int) + 1) (F.emin - F.P + 1) = qOf F num den from rfl]
 by_cases h : F.emax + 1 < (dB (iE m false (plU num den 0 (qOf F num den)) (plL num den 0 (qOf F num den))) : Int) + qOf F num den
 ·have h2 := ho.1 h
  rw [if_pos h, if_neg (by omega)]
  refine ⟨hb, .inr (.inr (.inl rfl)), ⟨fun e => (by cases e), fun e => (by omega)⟩⟩
 ·have h2 : Bh F m num den < vF F := Nat.lt_of_not_le fun e => h (ho.2 e)
  rw [if_neg h, if_pos h2]
  refine ⟨?_, ?_, ?_⟩
  ·simp only [Bool.false_eq_true, if_false, Nat.add_zero]; rfl
  ·simp only []
   split
   ·exact .inl rfl
   ·split
    ·exact .inr (.inr (.inr rfl))
    ·exact .inr (.inl rfl)
  ·simp only []
   split
   ·rename_i e; exact ⟨fun _ => ⟨h2, e⟩, fun _ => rfl⟩
   ·rename_i e
    refine ⟨fun e2 => ?_, fun e2 => absurd e2.2 e⟩
    split at e2 <;> cases e2
end Go.Proofs.YtafikkmnkeddpaaGreatDoor
namespace Go.Proofs.YtafikkmnkeddpaaGreatDoor.P
open Go.RowKit Go.Proofs.YtafikkmnkeddpaaGreatDoorW.PrintWords Go.Proofs.YtafikkmnkeddpaaGreatDoorW.PrintLast Go.Proofs.YtafikkmnkeddpaaGreatDoorW.PrintMore
def dgs (n : Nat) : List UInt8 := if n ≤ 9 then [UInt8.ofNat (48 + n)] else dgs (n / 10) ++ [UInt8.ofNat (48 + n % 10)]
termination_by n
decreasing_by omega
def lG (x : Int) : List UInt8 := if x < 0 then 45 :: dgs (-x).toNat else dgs x.toNat
theorem u8n {x : Nat} (h : x < 256) : (UInt8.ofNat x).toNat = x := by simp [UInt8.toNat_ofNat']; omega
theorem qK (n : Nat) : n_ (dgs n) := by
 induction n using Nat.strongRecOn with
 | ind n ih =>
  unfold dgs
  split
  ·intro b hb
   obtain rfl := List.mem_singleton.1 hb
   rw [u8n (by omega)]; omega
  ·intro b hb
   rcases List.mem_append.1 hb with hb | hb
   ·exact ih (n / 10) (by omega) b hb
   ·obtain rfl := List.mem_singleton.1 hb
    rw [u8n (by omega)]; omega
theorem vN (n : Nat) : dn (dgs n) = n := by
 induction n using Nat.strongRecOn with
 | ind n ih =>
  unfold dgs
  split
  ·show dn ([] ++ [_]) = n
   rw [qm, FW, u8n (by omega)]; omega
  ·rw [qm, ih (n / 10) (by omega), u8n (by omega)]; omega
theorem wU (n : Nat) : dgs n ≠ [] := by unfold dgs; split <;> simp
theorem H9 : ∀ (k n : Nat), n < 10 ^ (k + 1) → (dgs n).length ≤ k + 1
 | 0, n, h => by unfold dgs; rw [if_pos (by omega)]; simp
 | k + 1, n, h => by
  unfold dgs
  split
  ·simp
  ·rw [List.length_append]
   have := H9 k (n / 10) (by rw [Nat.pow_succ] at h; omega)
   simp only [List.length_cons, List.length_nil]
   omega
theorem pI {n : Nat} (h : n < 18446744073709551616) : (dgs n).length ≤ 20 := H9 19 n (Nat.lt_trans h (by decide))
theorem ny (s t : ByteArray) : bl (s ++ t) = bl s ++ bl t := by simp [bl]
theorem PK : ∀ (n : Nat) (s : ByteArray), n < 18446744073709551616 → s.size + (dgs n).length ≤ 1000000 → ∃ t, Ev (fun k => aH.l0 k (n : Int) s) t ∧ bl t = dgs n ++ bl s := by
 intro n
 induction n using Nat.strongRecOn with
 | ind n ih =>
  intro s hn hs
  rcases Nat.lt_or_ge 9 n with h | h
  ·have e1 : IntKind.u64.wrap (48 + Int.tmod (n : Int) 10) % 256 = ((48 + n % 10 : Nat) : Int) := by
    rw [show Int.tmod (n : Int) 10 = ((n % 10 : Nat) : Int) by rw [Int.tmod_eq_emod_of_nonneg (by omega)]; omega, wu64 (by omega) (by omega)]
    omega
   have e2 : IntKind.u64.wrap (Int.tdiv (n : Int) 10) = ((n / 10 : Nat) : Int) := by
    rw [show Int.tdiv (n : Int) 10 = ((n / 10 : Nat) : Int) by rw [Int.tdiv_eq_ediv_of_nonneg (by omega)]; omega, wu64 (by omega) (by omega)]
   have hsz : (strOfNums [((48 + n % 10 : Nat) : Int)]).size = 1 := Ht _
   obtain ⟨t, ht, hb⟩ := ih (n / 10) (by omega) (strOfNums [((48 + n % 10 : Nat) : Int)] ++ s) (by omega) (by
    rw [ByteArray.size_append, hsz]
    have e3 : (dgs n).length = (dgs (n / 10)).length + 1 := by
     conv => lhs; unfold dgs
     rw [if_neg (by omega), List.length_append]; rfl
    omega)
   refine ⟨t, ?_, ?_⟩
   ·refine Ev.step (f := fun k => aH.l0 k ((n / 10 : Nat) : Int) (strOfNums [((48 + n % 10 : Nat) : Int)] ++ s)) (fun k => ?_) ht
    rw [aH.l0, if_pos (by omega), e1, e2]
    simp only [Option.bind_some]
    rw [if_pos (by rw [hsz]; omega)]
   ·rw [hb, ny, str1]
    conv => rhs; unfold dgs
    rw [if_neg (by omega), List.append_assoc]
  ·have e1 : IntKind.u64.wrap (48 + (n : Int)) % 256 = ((48 + n : Nat) : Int) := by rw [wu64 (by omega) (by omega)]; omega
   refine ⟨strOfNums [((48 + n : Nat) : Int)] ++ s, Ev.one fun k => ?_, ?_⟩
   ·rw [aH.l0, if_neg (by omega), e1]
    simp only [Option.bind_some]
    rw [if_pos (by rw [Ht]; omega)]
   ·rw [ny, str1]
    unfold dgs
    rw [if_pos h]
theorem Gh {n : Nat} (hn : n < 18446744073709551616) : ∃ t, Ev (fun k => aH.f k (n : Int)) t ∧ bl t = dgs n := by
 obtain ⟨t, h1, h2⟩ := PK n (⟨#[]⟩ : ByteArray) hn (by have := pI hn; show 0 + _ ≤ _; omega)
 exact ⟨t, h1, by rw [h2]; simp [bl]⟩
theorem uI {t : ByteArray} {l : List UInt8} (h : bl t = l) : t.size = l.length := by rw [← jU, h]
theorem Gi {x : Int} (h1 : -100000 ≤ x) (h2 : x ≤ 100000) : ∃ t, Ev (fun k => aW.f k x) t ∧ bl t = lG x := by
 unfold lG
 by_cases hx : x < 0
 ·obtain ⟨t, h3, h4⟩ := Gh (n := (-x).toNat) (by omega)
  rw [if_pos hx]
  refine ⟨(⟨#[45]⟩ : ByteArray) ++ t, ?_, by rw [ny, h4]; rfl⟩
  unfold aW.f
  refine Ev.pos hx ?_
  rw [w64 (x := -x) (by omega) (by omega), wu64 (by omega) (by omega), show -x = (((-x).toNat : Nat) : Int) by omega]
  refine Ev.bind h3 (Ev.pos ?_ (Ev.now _))
  have := uI h4
  have := pI (n := (-x).toNat) (by omega)
  omega
 ·obtain ⟨t, h3, h4⟩ := Gh (n := x.toNat) (by omega)
  rw [if_neg hx]
  refine ⟨t, ?_, h4⟩
  unfold aW.f
  refine Ev.neg hx ?_
  rw [wu64 (by omega) (by omega), show x = ((x.toNat : Nat) : Int) by omega]
  exact Ev.bind h3 (Ev.now _)
theorem qL {x : Int} (h1 : -100000 ≤ x) (h2 : x ≤ 100000) : (lG x).length ≤ 21 := by
 unfold lG
 split
 ·have := pI (n := (-x).toNat) (by omega); simp only [List.length_cons]; omega
 ·have := pI (n := x.toNat) (by omega); omega
theorem H_ {l : List UInt8} (h : n_ l) : ∀ b ∈ l, isD b = true := fun b hb => by
 have := h b hb
 unfold isD
 simp only [Bool.and_eq_true, decide_eq_true_eq]
 exact this
theorem qM : ∀ (l r D : List UInt8) (b : Int), n_ l → kF (l ++ r) D b = kF r (D ++ l) (if b ≥ 0 then b + l.length else b)
 | [], r, D, b, h => by simp
 | c :: l, r, D, b, h => by
  have hc := H_ h c List.mem_cons_self
  rw [List.cons_append, kF, if_pos hc, qM l r (D ++ [c]) _ (fun x hx => h x (List.mem_cons_of_mem _ hx))]
  rw [List.append_assoc]
  congr 1
  simp only [List.length_cons]
  (repeat' split) <;> omega
theorem Dc {l : List UInt8} (h : n_ l) (hl : l ≠ []) (r : List UInt8) : (l ++ r).getD 0 0 ≠ 45 ∧ (l ++ r).getD 0 0 ≠ 43 ∧ 48 ≤ ((l ++ r).getD 0 0).toNat ∧ ((l ++ r).getD 0 0).toNat ≤ 57 := by
 cases l with
 | nil => exact absurd rfl hl
 | cons c l =>
  have h1 := h c List.mem_cons_self
  show c ≠ 45 ∧ c ≠ 43 ∧ 48 ≤ c.toNat ∧ c.toNat ≤ 57
  refine ⟨fun e => ?_, fun e => ?_, h1.1, h1.2⟩ <;> (subst e; revert h1; decide)
theorem um {x : Int} (h1 : -100000 ≤ x) (h2 : x ≤ 100000) : vK (exV (lG x)).1 ((exV (lG x)).2.1 : Int) = x ∧ (exV (lG x)).2.2 = true := by
 have al : ∀ n, (dgs n).all isD = true := fun n => List.all_eq_true.2 (H_ (qK n))
 unfold lG exV
 by_cases hx : x < 0
 ·rw [if_pos hx]
  have e1 : jP (45 :: dgs (-x).toNat) = true := by unfold jP; exact decide_eq_true rfl
  have e2 : jB (45 :: dgs (-x).toNat) = dgs (-x).toNat := by unfold jB; rw [if_pos (.inl rfl)]; rfl
  rw [e1, e2, vN]
  refine ⟨by unfold vK; simp only [if_true]; omega, decide_eq_true ⟨wU _, al _⟩⟩
 ·rw [if_neg hx]
  obtain ⟨a, b, _⟩ := Dc (qK x.toNat) (wU _) []
  rw [List.append_nil] at a b
  have e1 : jP (dgs x.toNat) = false := by unfold jP; exact decide_eq_false a
  have e2 : jB (dgs x.toNat) = dgs x.toNat := by unfold jB; rw [if_neg (by rintro (h | h); exact a h; exact b h)]
  rw [e1, e2, vN]
  refine ⟨by unfold vK; simp only [Bool.false_eq_true, if_false]; omega, decide_eq_true ⟨wU _, al _⟩⟩
theorem Oe {c : UInt8} (h : c.toNat ≤ 57) : (kY c).toNat ≤ 57 := by
 unfold kY
 rw [if_neg (by omega)]
 exact h
theorem qN {l t : List UInt8} (h : (l.getD 0 0).toNat ≤ 57) (hl : l ≠ []) (ht : 58 ≤ (t.getD 0 0).toNat) : l.map kY ≠ t := fun e => by
 cases l with
 | nil => exact hl rfl
 | cons c l =>
  subst e
  have := Oe (c := c) h
  simp at ht
  omega
theorem Ei {a m : Int} {D : List UInt8} (hD : n_ D) (hne : D ≠ []) (hl : D.length ≤ 1000) {x : Int} (h1 : -100000 ≤ x) (h2 : x ≤ 100000) :
  rG a m (D ++ 101 :: lG x) = match mQ a with
   | none => (0, 0, 2)
   | some F => if m < 0 ∨ 5 < m then (0, 0, 3) else if dn D = 0 then (0, 0, 0) else (((qx F m false (dn D) x).1 : Int), ((qx F m false (dn D) x).2 : Int), 0) := by
 obtain ⟨q1, q2, q3⟩ := Dc hD hne (101 :: lG x)
 have e1 : jB (D ++ 101 :: lG x) = D ++ 101 :: lG x := by unfold jB; rw [if_neg (by rintro (h | h); exact q1 h; exact q2 h)]
 have e2 : jP (D ++ 101 :: lG x) = false := by unfold jP; exact decide_eq_false q1
 have e3 : kF (D ++ 101 :: lG x) [] (-1) = (D, ((exV (lG x)).1, (exV (lG x)).2.1, 0), true) := by
  rw [qM D _ [] (-1) hD, List.nil_append, if_neg (by decide), kF, if_neg (by decide), if_neg (by decide), if_pos (.inl rfl), (um h1 h2).2]
  rw [show mx 0 (-1) = 0 from rfl]
  simp [hne]
 have hlen := qL h1 h2
 unfold rG
 cases mQ a with
 | none => rfl
 | some F =>
  simp only []
  split
  ·rfl
  ·rw [if_neg (by simp only [List.length_append, List.length_cons]; omega), e1, if_neg (qN q3.2 (by simp) (by decide)), if_neg (qN q3.2 (by simp) (by decide)), e3, if_pos rfl, e2]
   have e4 : xM ((exV (lG x)).1, (exV (lG x)).2.1, 0) = x := by unfold xM; simp only []; rw [(um h1 h2).1]; omega
   simp only [Bool.false_eq_true, if_false]
   rw [e4]
   rfl
end Go.Proofs.YtafikkmnkeddpaaGreatDoor.P
namespace Go.Proofs.YtafikkmnkeddpaaGreatDoor.P
open Go.RowKit Go.Proofs.YtafikkmnkeddpaaGreatDoorW.PrintWords Go.Proofs.YtafikkmnkeddpaaGreatDoorW.PrintLast Go.Proofs.YtafikkmnkeddpaaGreatDoorW.PrintMore
theorem LG {a : Int} {F : Fm} (h : mQ a = some F) : F.zB := by
 refine mM (P := fun _ F => F.zB) ?_ ?_ ?_ ?_ h
 all_goals exact ⟨⟨by decide, by decide, by decide, by decide, by decide⟩, by decide⟩
def vO (a m : Int) (n : Nat) (x : Int) : Int × Int × Int := match mQ a with
 | none => (0, 0, 2)
 | some F => if m < 0 ∨ 5 < m then (0, 0, 3) else if n = 0 then (0, 0, 0) else (((qx F m false n x).1 : Int), ((qx F m false n x).2 : Int), 0)
end Go.Proofs.YtafikkmnkeddpaaGreatDoor.P
namespace Go.Proofs.YtafikkmnkeddpaaGreatDoor
def mir (m : Int) : Int := if m = 3 then 4 else if m = 4 then 3 else m
theorem KQ (m : Int) (odd : Bool) (l : Nat) : uN (mir m) true odd l = uN m false odd l := by
 unfold uN mir
 by_cases h3 : m = 3
 ·subst h3; rfl
 ·by_cases h4 : m = 4
  ·subst h4; rfl
  ·simp only [if_neg h3, if_neg h4]
theorem FC (m : Int) (u l : Nat) : iE (mir m) true u l = iE m false u l := by
 unfold iE
 rw [KQ]
theorem FD (F : Fm) (m : Int) : lI F (mir m) true = lI F m false + 2 ^ (F.W - 1) := by
 unfold lI mir
 by_cases h3 : m = 3
 ·subst h3; simp
 ·by_cases h4 : m = 4
  ·subst h4; simp
  ·simp [h3, h4]
theorem NC (F : Fm) (m : Int) (num den : Nat) (E : Int) : pV F (mir m) true num den E = ((pV F m false num den E).1 + 2 ^ (F.W - 1), (pV F m false num den E).2) := by
 unfold pV
 simp only [FC, FD]
 split
 ·rfl
 ·simp
theorem Pv (m : Int) : (mir m < 0 ∨ 5 < mir m) ↔ (m < 0 ∨ 5 < m) := by unfold mir; split <;> (try split) <;> omega
theorem ND {F : Fm} (hF : F.zB) (m : Int) {num den : Nat} (hn : num ≠ 0) (hd : 0 < den) : (pV F m false num den 0).1 < 2 ^ (F.W - 1) := by
 obtain ⟨h1, _, _⟩ := NG hF hn hd m
 have hi := KR hF
 have h2 : vF F < 2 ^ (F.W - 1) := by
  have hp := hF.ok.p2
  have hw := hF.ok.pw
  unfold vF
  rw [show F.W - 1 = (F.W - F.P) + (F.P - 1) by omega, Nat.pow_add]
  exact Nat.mul_lt_mul_of_pos_right (by have := Nat.two_pow_pos (F.W - F.P); omega) hi.2
 rw [h1]
 (repeat' split) <;> omega
end Go.Proofs.YtafikkmnkeddpaaGreatDoor
namespace Go.Proofs.YtafikkmnkeddpaaGreatDoor.P
open Go.RowKit Go.Proofs.YtafikkmnkeddpaaGreatDoorW.PrintWords Go.Proofs.YtafikkmnkeddpaaGreatDoorW.PrintLast Go.Proofs.YtafikkmnkeddpaaGreatDoorW.PrintMore
theorem Jo {a b : List UInt8} (ha : n_ a) (hb : n_ b) : n_ (a ++ b) := fun x hx => (List.mem_append.1 hx).elim (ha x) (hb x)
theorem Io (k : Nat) (d : List UInt8) : dn (List.replicate k 48 ++ d) = dn d := by
 induction k with
 | zero => rfl
 | succ k ih =>
  rw [List.replicate_succ, List.cons_append, zL, ih]
  simp
theorem Jp (k : Nat) : n_ (List.replicate k 48) := fun b hb => by
 rw [(List.mem_replicate.1 hb).2]; decide
theorem Dw {a m : Int} {D D' : List UInt8} (hD : n_ D) (hD' : n_ D') (hne : D ++ D' ≠ []) (hl : D.length + D'.length ≤ 1000) {x : Int} (h1 : -100000 ≤ x) (h2 : x ≤ 100000) :
  rG a m (43 :: (D ++ 46 :: (D' ++ 69 :: lG x))) = match mQ a with
   | none => (0, 0, 2)
   | some F => if m < 0 ∨ 5 < m then (0, 0, 3) else if dn (D ++ D') = 0 then (0, 0, 0) else (((qx F m false (dn (D ++ D')) (x - D'.length)).1 : Int), ((qx F m false (dn (D ++ D')) (x - D'.length)).2 : Int), 0) := by
 have e1 : jB (43 :: (D ++ 46 :: (D' ++ 69 :: lG x))) = D ++ 46 :: (D' ++ 69 :: lG x) := by unfold jB; rw [if_pos (.inr rfl)]; rfl
 have e2 : jP (43 :: (D ++ 46 :: (D' ++ 69 :: lG x))) = false := by unfold jP; exact decide_eq_false (by show ¬ ((43 : UInt8) = 45); decide)
 have q3 : ((D ++ 46 :: (D' ++ 69 :: lG x)).getD 0 0).toNat ≤ 57 := by
  cases D with
  | nil => show (46 : UInt8).toNat ≤ 57; decide
  | cons c D => exact (hD c List.mem_cons_self).2
 have e3 : kF (D ++ 46 :: (D' ++ 69 :: lG x)) [] (-1) = (D ++ D', ((exV (lG x)).1, (exV (lG x)).2.1, (D'.length : Int)), true) := by
  rw [qM D _ [] (-1) hD, List.nil_append, if_neg (by decide), kF, if_neg (by decide), if_pos (by decide), qM D' _ D 0 hD', if_pos (by decide), kF, if_neg (by decide), if_neg (by simp), if_pos (.inr rfl), (um h1 h2).2]
  have : mx 0 (0 + (D'.length : Int)) = (D'.length : Int) := by unfold mx; split <;> omega
  rw [this]
  simp only [Bool.true_and, Prod.mk.injEq, true_and]
  exact decide_eq_true hne
 have hlen := qL h1 h2
 unfold rG
 cases mQ a with
 | none => rfl
 | some F =>
  simp only []
  split
  ·rfl
  ·rw [if_neg (by simp only [List.length_append, List.length_cons]; omega), e1, if_neg (qN q3 (by simp) (by decide)), if_neg (qN q3 (by simp) (by decide)), e3, if_pos rfl, e2]
   have e4 : xM ((exV (lG x)).1, (exV (lG x)).2.1, (D'.length : Int)) = x - D'.length := by unfold xM; simp only []; rw [(um h1 h2).1]
   simp only [Bool.false_eq_true, if_false]
   rw [e4]
   rfl
theorem Ip {a m : Int} {D : List UInt8} (hD : n_ D) (hne : D ≠ []) (hl : D.length ≤ 1000) {x : Int} (h1 : -100000 ≤ x) (h2 : x ≤ 100000) :
  rG a m (45 :: (D ++ 101 :: lG x)) = match mQ a with
   | none => (0, 0, 2)
   | some F => if m < 0 ∨ 5 < m then (0, 0, 3) else if dn D = 0 then (((2 ^ (F.W - 1) : Nat) : Int), 0, 0) else (((qx F m true (dn D) x).1 : Int), ((qx F m true (dn D) x).2 : Int), 0) := by
 obtain ⟨q1, q2, q3⟩ := Dc hD hne (101 :: lG x)
 have e1 : jB (45 :: (D ++ 101 :: lG x)) = D ++ 101 :: lG x := by unfold jB; rw [if_pos (.inl rfl)]; rfl
 have e2 : jP (45 :: (D ++ 101 :: lG x)) = true := by unfold jP; exact decide_eq_true rfl
 have e3 : kF (D ++ 101 :: lG x) [] (-1) = (D, ((exV (lG x)).1, (exV (lG x)).2.1, 0), true) := by
  rw [qM D _ [] (-1) hD, List.nil_append, if_neg (by decide), kF, if_neg (by decide), if_neg (by decide), if_pos (.inl rfl), (um h1 h2).2]
  rw [show mx 0 (-1) = 0 from rfl]
  simp [hne]
 have hlen := qL h1 h2
 unfold rG
 cases mQ a with
 | none => rfl
 | some F =>
  simp only []
  split
  ·rfl
  ·rw [if_neg (by simp only [List.length_append, List.length_cons]; omega), e1, if_neg (qN q3.2 (by simp) (by decide)), if_neg (qN q3.2 (by simp) (by decide)), e3, if_pos rfl, e2]
   have e4 : xM ((exV (lG x)).1, (exV (lG x)).2.1, 0) = x := by unfold xM; simp only []; rw [(um h1 h2).1]; omega
   simp only [if_true]
   rw [e4]
end Go.Proofs.YtafikkmnkeddpaaGreatDoor.P
namespace Go.Proofs.YtafikkmnkeddpaaGreatDoor.P
open Go.RowKit Go.Proofs.YtafikkmnkeddpaaGreatDoorW.PrintWords Go.Proofs.YtafikkmnkeddpaaGreatDoorW.PrintLast Go.Proofs.YtafikkmnkeddpaaGreatDoorW.PrintMore
theorem MJ {a k : Nat} (h : a < 2 ^ k) : a ^^^ 2 ^ k = a + 2 ^ k := by
 apply Nat.eq_of_testBit_eq
 intro i
 rw [Nat.testBit_xor, show a + 2 ^ k = 2 ^ k * 1 + a by omega, Nat.testBit_two_pow_mul_add _ h, Nat.testBit_two_pow]
 split
 ·rename_i hi
  rw [decide_eq_false (show ¬ k = i by omega)]; simp
 ·rename_i hi
  have : a.testBit i = false := Nat.testBit_lt_two_pow (Nat.lt_of_lt_of_le h (Nat.pow_le_pow_right (by decide) (by omega)))
  rw [this]
  by_cases e : k = i
  ·subst e; simp
  ·rw [decide_eq_false e]
   have : Nat.testBit 1 (i - k) = false := Nat.testBit_lt_two_pow (show 1 < 2 ^ (i - k) by
    have : 2 ^ 1 ≤ 2 ^ (i - k) := Nat.pow_le_pow_right (by decide) (by omega)
    omega)
   rw [this]; rfl
theorem Qh {a : Int} {F : Fm} (h : mQ a = some F) {v : Nat} (hv : v < 2 ^ (F.W - 1)) : fO.f a (v : Int) = some (((v + 2 ^ (F.W - 1) : Nat) : Int), 0) := by
 have key : ∀ (p q mn x : Int) (s : Nat) (k : Nat), l7 a = some (p, q, mn, x) → jg.f a = some ((2 ^ k : Nat) : Int) → p.toNat = k + 1 → k ≤ 63 → F.W - 1 = k → fO.f a (v : Int) = some (((v + 2 ^ (F.W - 1) : Nat) : Int), 0) := fun p q mn x s k h1 h2 h3 h4 h5 => by
  have hlt : (v : Int) < 2 ^ p.toNat := by
   rw [h3]
   rw [h5] at hv
   have : (2 : Int) ^ (k + 1) = ((2 ^ (k + 1) : Nat) : Int) := by simp
   rw [this, Nat.pow_succ]
   omega
  have hc : aZ.f a (v : Int) = some 0 := CS a p q mn x v h1 (uM h1) ⟨by omega, hlt⟩
  unfold fO.f
  rw [hc]
  simp only [Option.bind_some, if_true]
  rw [h2]
  simp only [Option.bind_some]
  rw [h5] at hv ⊢
  have h6 : 2 ^ k ≤ 2 ^ 63 := Nat.pow_le_pow_right (by decide) h4
  rw [u64_xor_nat v (2 ^ k) (by omega) (by omega), MJ hv]
 refine mM (P := fun a F => v < 2 ^ (F.W - 1) → (∀ (p q mn x : Int) (s : Nat) (k : Nat), l7 a = some (p, q, mn, x) → jg.f a = some ((2 ^ k : Nat) : Int) → p.toNat = k + 1 → k ≤ 63 → F.W - 1 = k → fO.f a (v : Int) = some (((v + 2 ^ (F.W - 1) : Nat) : Int), 0)) → fO.f a (v : Int) = some (((v + 2 ^ (F.W - 1) : Nat) : Int), 0)) ?_ ?_ ?_ ?_ h hv key
 ·exact fun _ key => key 16 11 (-14) 15 0 15 rfl rfl rfl (by decide) rfl
 ·exact fun _ key => key 16 8 (-126) 127 0 15 rfl rfl rfl (by decide) rfl
 ·exact fun _ key => key 32 24 (-126) 127 0 31 rfl rfl rfl (by decide) rfl
 ·exact fun _ key => key 64 53 (-1022) 1023 0 63 rfl rfl rfl (by decide) rfl
theorem Qi : ∀ a : Fin 256, Go.bits .and .u8 ((a.val : Nat) : Int) 15 = ((a.val % 16 : Nat) : Int) := by decide +kernel
theorem Dx {x3 x4 : Int} {x5 : ByteArray} {x6 x7 x8 x9 y0 y1 y2 y3 y4 y5 : Int} {c : Nat} {r : Bool} (hc : c ≤ 15) (H : ∀ fr : ByteArray, bl fr = List.replicate c 48 → Ev (fun k => ak.l0 k x3 x4 x5 x6 x7 x8 x9 fr (c : Int) (c : Int) y0 y1 y2 y3 y4 y5) r) :
  ∀ (d i : Nat) (fr : ByteArray), i + d = c → bl fr = List.replicate i 48 → Ev (fun k => ak.l0 k x3 x4 x5 x6 x7 x8 x9 fr (c : Int) (i : Int) y0 y1 y2 y3 y4 y5) r
 | 0, i, fr, h, hf => by
  obtain rfl : i = c := by omega
  exact H fr hf
 | d + 1, i, fr, h, hf => by
  have hs := uI hf
  rw [List.length_replicate] at hs
  have := Dx hc H d (i + 1) (fr ++ (⟨#[48]⟩ : ByteArray)) (by omega) (by rw [ny, hf, List.replicate_succ'])
  refine Ev.step (f := fun k => ak.l0 k x3 x4 x5 x6 x7 x8 x9 (fr ++ (⟨#[48]⟩ : ByteArray)) (c : Int) ((i + 1 : Nat) : Int) y0 y1 y2 y3 y4 y5) (fun k => ?_) this
  rw [ak.l0, if_pos (by omega), if_pos (by omega), show ((i : Int) + 1) % 256 = ((i + 1 : Nat) : Int) by omega]
theorem Qj {f m : Int} {d : ByteArray} {n : Nat} (hn : n < 18446744073709551616) (hd : bl d = dgs n) {x : Int} (h1 : -40000 ≤ x) (h2 : x ≤ 40000) :
  Ev (fun k => ak.j1 k f m d x (vO f m n x).1 (vO f m n x).2.1 (vO f m n x).2.2 false) true := by
 have hds := uI hd
 have hdl := pI hn
 obtain ⟨e, he1, he2⟩ := Gi (x := x) (by omega) (by omega)
 have hel := uI he2
 have hsl := qL (x := x) (by omega) (by omega)
 by_cases hz : (vO f m n x).2.2 = 0
 ·obtain ⟨F, hF, hm⟩ : ∃ F, mQ f = some F ∧ ¬ (m < 0 ∨ 5 < m) := by
   revert hz
   unfold vO
   cases mQ f with
   | none => simp
   | some F =>
    simp only []
    split
    ·simp
    ·rename_i h; intro _; exact ⟨F, rfl, h⟩
  have hT := LG hF
  have hp : ∀ s : ByteArray, bl s = 45 :: (dgs n ++ 101 :: lG x) → Ev (fun k => bV.f k f (mir m) s) (rG f (mir m) (45 :: (dgs n ++ 101 :: lG x))) := fun s hs => by
   have := wQ f (mir m) s
   rwa [hs] at this
  rw [Ip (qK n) (wU n) (by omega) (by omega) (by omega), hF] at hp
  simp only [vN] at hp
  rw [if_neg (fun h => hm ((Pv m).1 h))] at hp
  have hs : bl ((((⟨#[45]⟩ : ByteArray) ++ d) ++ (⟨#[101]⟩ : ByteArray)) ++ e) = 45 :: (dgs n ++ 101 :: lG x) := by
   rw [ny, ny, ny, hd, he2]; simp [bl]
  obtain ⟨v, g, hw, hv, hr⟩ : ∃ v g : Nat, vO f m n x = ((v : Int), (g : Int), 0) ∧ v < 2 ^ (F.W - 1) ∧ (if n = 0 then (((2 ^ (F.W - 1) : Nat) : Int), (0 : Int), (0 : Int)) else (((qx F (mir m) true n x).1 : Int), ((qx F (mir m) true n x).2 : Int), 0)) = (((v + 2 ^ (F.W - 1) : Nat) : Int), (g : Int), 0) := by
   unfold vO
   rw [hF]
   simp only [if_neg hm]
   by_cases h0 : n = 0
   ·exact ⟨0, 0, by rw [if_pos h0]; rfl, Nat.two_pow_pos _, by rw [if_pos h0]; simp⟩
   ·have hden := lX (-x).toNat
    have hn0 : n * 10 ^ x.toNat ≠ 0 := Nat.mul_ne_zero h0 (by have := lX x.toNat; omega)
    refine ⟨_, (qx F m false n x).2, by rw [if_neg h0]; rfl, ND hT m hn0 hden, ?_⟩
    rw [if_neg h0]
    unfold qx
    rw [NC]
  rw [hr] at hp
  have hneg := Qh hF hv
  rw [hw]
  simp only []
  have s1 : 1 + d.size ≤ 9223372036854775807 := by omega
  have s2 : ((⟨#[45]⟩ : ByteArray) ++ d).size + 1 ≤ 9223372036854775807 := by rw [ByteArray.size_append]; show 1 + _ + 1 ≤ _; omega
  have s3 : (((⟨#[45]⟩ : ByteArray) ++ d) ++ (⟨#[101]⟩ : ByteArray)).size + e.size ≤ 9223372036854775807 := by rw [ByteArray.size_append, ByteArray.size_append]; show 1 + _ + 1 + _ ≤ _; omega
  have hfin : ∀ mm : Int, mm = mir m → Ev (fun k => if 1 + d.size ≤ 9223372036854775807 then (if ((⟨#[45]⟩ : ByteArray) ++ d).size + 1 ≤ 9223372036854775807 then ((aW.f k x).bind fun t => (if (((⟨#[45]⟩ : ByteArray) ++ d) ++ (⟨#[101]⟩ : ByteArray)).size + t.size ≤ 9223372036854775807 then ((bV.f k f mm ((((⟨#[45]⟩ : ByteArray) ++ d) ++ (⟨#[101]⟩ : ByteArray)) ++ t)).bind fun b => ((fO.f f (v : Int)).bind fun c => (if b.2.2 = 0 then (if c.2 = 0 then (if b.1 = c.1 then (some ((g : Int) == b.2.1)) else (some false)) else (some false)) else (some false)))) else none)) else none) else none) true := fun mm hmm => by
   subst hmm
   refine Ev.pos s1 (Ev.pos s2 (Ev.bind he1 (Ev.pos s3 (Ev.bind (hp _ hs) ?_))))
   rw [hneg]
   refine Ev.bs (Ev.pos rfl (Ev.pos rfl (Ev.pos rfl ?_)))
   rw [show ((g : Int) == (g : Int)) = true from beq_self_eq_true _]
   exact Ev.now _
  by_cases h3 : m = 3
  ·refine Ev.step (f := fun k => _) (fun k => by rw [ak.j1, if_neg (by decide), if_pos rfl, if_pos h3]) (hfin 4 (by unfold mir; rw [if_pos h3]))
  ·by_cases h4 : m = 4
   ·refine Ev.step (f := fun k => _) (fun k => by rw [ak.j1, if_neg (by decide), if_pos rfl, if_neg h3, if_pos h4]) (hfin 3 (by unfold mir; rw [if_neg h3, if_pos h4]))
   ·refine Ev.step (f := fun k => _) (fun k => by rw [ak.j1, if_neg (by decide), if_pos rfl, if_neg h3, if_neg h4]) (hfin m (by unfold mir; rw [if_neg h3, if_neg h4]))
 ·have hall : (vO f m n x).1 = 0 ∧ (vO f m n x).2.1 = 0 := by
   revert hz
   unfold vO
   cases mQ f with
   | none => simp
   | some F =>
    simp only []
    split
    ·simp
    ·intro h; exfalso; apply h; split <;> rfl
  refine Ev.one fun k => ?_
  rw [ak.j1, if_neg (by decide), if_neg hz, hall.1, hall.2, if_pos rfl]
  rfl
theorem yB (f m n exp front point : Int) (h1 : 0 ≤ n) (h2 : n < 18446744073709551616) (h5 : -32768 ≤ exp) (h6 : exp ≤ 32767) (h7 : 0 ≤ front) (h8 : front ≤ 255) (h9 : 0 ≤ point) (h10 : point ≤ 255) : ∃ k, ak.f k f m n exp front point = some true := by
 have h : Ev (fun k => ak.f k f m n exp front point) true := by
  obtain ⟨N, rfl⟩ : ∃ N : Nat, n = N := ⟨n.toNat, by omega⟩
  unfold ak.f
  refine Ev.bind KA (Ev.pos rfl ?_)
  rw [w64 (x := exp) (by omega) (by omega)]
  obtain ⟨d, hd1, hd2⟩ := Gh (n := N) (by omega)
  obtain ⟨e, he1, he2⟩ := Gi (x := exp) (by omega) (by omega)
  have hds := uI hd2
  have hdl := pI (n := N) (by omega)
  have hel := uI he2
  have hsl := qL (x := exp) (by omega) (by omega)
  have q1 : (d ++ (⟨#[101]⟩ : ByteArray)).size = d.size + 1 := by rw [ByteArray.size_append]; rfl
  refine Ev.bind hd1 (Ev.pos (by omega) (Ev.bind he1 (Ev.pos (by omega) ?_)))
  have hw : Ev (fun k => bV.f k f m ((d ++ (⟨#[101]⟩ : ByteArray)) ++ e)) (vO f m N exp) := by
   have hp := wQ f m ((d ++ (⟨#[101]⟩ : ByteArray)) ++ e)
   rw [show bl ((d ++ (⟨#[101]⟩ : ByteArray)) ++ e) = dgs N ++ 101 :: lG exp by rw [ny, ny, hd2, he2]; simp [bl], Ei (qK N) (wU N) (by omega) (by omega) (by omega), vN] at hp
   exact hp
  refine Ev.bind hw ?_
  obtain ⟨c, hc1, hc2⟩ : ∃ c : Nat, Go.bits .and .u8 front 15 = (c : Int) ∧ c ≤ 15 := by
   have := Qi ⟨front.toNat, by omega⟩
   simp only [] at this
   rw [show ((front.toNat : Nat) : Int) = front by omega] at this
   exact ⟨_, this, by omega⟩
  rw [hc1]
  refine Dx hc2 (fun fr hfr => ?_) c 0 (⟨#[]⟩ : ByteArray) (Nat.zero_add c) rfl
  have hfs := uI hfr
  rw [List.length_replicate] at hfs
  obtain ⟨at', hat, hat2⟩ : ∃ t : Nat, Int.tmod (wrap64 point) (wrap64 ((d.size : Int) + 1)) = (t : Int) ∧ t ≤ d.size := by
   rw [w64 (x := point) (by omega) (by omega), w64 (x := (d.size : Int) + 1) (by omega) (by omega), Int.tmod_eq_emod_of_nonneg h9]
   have g1 := Int.emod_nonneg point (show (d.size : Int) + 1 ≠ 0 by omega)
   have g2 := Int.emod_lt_of_pos point (show (0 : Int) < (d.size : Int) + 1 by omega)
   exact ⟨(point % ((d.size : Int) + 1)).toNat, by omega, by omega⟩
  have b1 : bl (d.extract 0 at') = (dgs N).take at' := by
   have : bl (d.extract 0 at') = (bl d).take at' := by simp [bl]
   rw [this, hd2]
  have b2 : bl (d.extract at' d.size) = (dgs N).drop at' := by rw [ou, hd2]
  have z1 := uI b1
  have z2 := uI b2
  rw [List.length_take] at z1
  rw [List.length_drop] at z2
  obtain ⟨e', he1', he2'⟩ := Gi (x := exp + d.size - at') (by omega) (by omega)
  have hel' := uI he2'
  have hsl' := qL (x := exp + d.size - at') (by omega) (by omega)
  have hpt : ∀ s : ByteArray, bl s = 43 :: ((List.replicate c 48 ++ (dgs N).take at') ++ 46 :: ((dgs N).drop at' ++ 69 :: lG (exp + d.size - at'))) → Ev (fun k => bV.f k f m s) (vO f m N exp) := fun s hs => by
   have hp := wQ f m s
   have g1 : n_ ((dgs N).take at') := fun b hb => qK N b (List.mem_of_mem_take hb)
   have g2 : n_ ((dgs N).drop at') := fun b hb => qK N b (List.mem_of_mem_drop hb)
   have g3 : (List.replicate c 48 ++ (dgs N).take at') ++ (dgs N).drop at' = List.replicate c 48 ++ dgs N := by rw [List.append_assoc, List.take_append_drop]
   have g4 : (List.replicate c 48 ++ (dgs N).take at') ++ (dgs N).drop at' ≠ [] := by rw [g3]; intro h; exact wU N (List.append_eq_nil_iff.1 h).2
   rw [hs, Dw (Jo (Jp c) g1) g2 g4 (by simp only [List.length_append, List.length_replicate, List.length_take, List.length_drop]; omega) (by omega) (by omega), g3, Io, vN] at hp
   have g5 : exp + (d.size : Int) - (at' : Int) - (((dgs N).drop at').length : Int) = exp := by rw [List.length_drop]; omega
   rw [g5] at hp
   exact hp
  have hj := Qj (f := f) (m := m) (n := N) (by omega) hd2 (x := exp) (by omega) (by omega)
  refine Ev.step (f := fun k => _) (fun k => by
   rw [ak.l0, if_neg (by omega), if_neg (by rw [w64 (by omega) (by omega)]; omega), if_pos (by omega), hat, if_pos (by omega), if_pos (by omega), Int.toNat_natCast]) ?_
  have s1 : ((⟨#[43]⟩ : ByteArray) ++ fr).size = 1 + c := by rw [ByteArray.size_append, hfs]; rfl
  have s2 : (((⟨#[43]⟩ : ByteArray) ++ fr) ++ d.extract 0 at').size = 1 + c + (d.extract 0 at').size := by rw [ByteArray.size_append, s1]
  have s3 : ((((⟨#[43]⟩ : ByteArray) ++ fr) ++ d.extract 0 at') ++ (⟨#[46]⟩ : ByteArray)).size = 1 + c + (d.extract 0 at').size + 1 := by rw [ByteArray.size_append, s2]; rfl
  have s4 : (((((⟨#[43]⟩ : ByteArray) ++ fr) ++ d.extract 0 at') ++ (⟨#[46]⟩ : ByteArray)) ++ d.extract at' d.size).size = 1 + c + (d.extract 0 at').size + 1 + (d.extract at' d.size).size := by rw [ByteArray.size_append, s3]
  have s5 : ((((((⟨#[43]⟩ : ByteArray) ++ fr) ++ d.extract 0 at') ++ (⟨#[46]⟩ : ByteArray)) ++ d.extract at' d.size) ++ (⟨#[69]⟩ : ByteArray)).size = 1 + c + (d.extract 0 at').size + 1 + (d.extract at' d.size).size + 1 := by rw [ByteArray.size_append, s4]; rfl
  have hw2 : wrap64 (wrap64 (exp + (d.size : Int)) - (at' : Int)) = exp + d.size - at' := by rw [w64 (x := exp + (d.size : Int)) (by omega) (by omega), w64 (by omega) (by omega)]
  rw [hw2]
  refine Ev.pos (by omega) (Ev.pos (by omega) (Ev.pos (by omega) (Ev.pos (by omega) (Ev.bind he1' (Ev.pos (by omega) (Ev.bind (hpt _ ?_) (Ev.pos rfl (Ev.pos rfl ?_))))))))
  ·rw [ny, ny, ny, ny, ny, ny, hfr, b1, b2, he2']
   simp [bl]
  ·rw [show ((vO f m N exp).2.2 != (vO f m N exp).2.2) = false by simp]
   exact hj
 exact h.rounds
end Go.Proofs.YtafikkmnkeddpaaGreatDoor.P
set_option maxRecDepth 100000
namespace Go.Proofs.YtafikkmnkeddpaaGreatDoor.P
open Go.RowKit Go.Proofs.YtafikkmnkeddpaaGreatDoorW.PrintWords Go.Proofs.YtafikkmnkeddpaaGreatDoorW.PrintLast Go.Proofs.YtafikkmnkeddpaaGreatDoorW.PrintMore Go.Proofs.YtafikkmnkeddpaaGreatDoor.E Go.Proofs.Tryz
def tys : List (TypeId × TI) := [(3, .int .i64), (4, .bool), (5, .int .u8), (9, .str), (22, .int .u64), (33, .int .i16), (35, .st [.v (.int .i64 0), .v (.int .i64 0), .v (.int .u64 0), .v (.int .i16 0), .v (.int .u8 0), .v (.int .u8 0)] [(0, 1, false), (1, 1, false), (2, 1, false), (3, 1, false), (4, 1, false), (5, 1, false)]), (53, .st [.v (.int .i64 0), .v (.int .i64 0), .v (.int .u64 0), .v (.int .i64 0)] [(0, 1, false), (1, 1, false), (2, 1, false), (3, 1, false)]), (61, .int .u64), (64, .sl 5 .u8 1), (73, .sl 22 .u64 8), (88, .st [.v (.int .i64 0), .v (.int .i64 0), .v (.int .i64 0), .v (.int .i64 0)] [(0, 1, false), (1, 1, false), (2, 1, false), (3, 1, false)]), (93, .st [.v (.bool false), .v (.string (⟨#[]⟩ : ByteArray)), .v (.string (⟨#[]⟩ : ByteArray)), .v (.int .i64 0)] [(0, 1, false), (1, 1, false), (2, 1, false), (3, 1, false)]), (104, .st [.v (.bool false), .v (.bool false), .v (.bool false), .v (.string (⟨#[]⟩ : ByteArray)), .v (.int .i64 0)] [(0, 1, false), (1, 1, false), (2, 1, false), (3, 1, false), (4, 1, false)]), (111, .st [.v (.bool false), .s .u64, .s .u64, .v (.int .i64 0)] [(0, 1, false), (1, 1, false), (2, 1, false), (3, 1, false)]), (118, .st [.v (.bool false), .v (.int .u64 0), .v (.int .i64 0), .v (.int .u64 0)] [(0, 1, false), (1, 1, false), (2, 1, false), (3, 1, false)]), (197, .st [.v (.bool false), .s .u64, .v (.int .i64 0), .v (.bool false)] [(0, 1, false), (1, 1, false), (2, 1, false), (3, 1, false)]), (201, .st [.v (.int .i64 0), .v (.int .i64 0), .v (.int .i64 0), .v (.int .i64 0)] [(0, 1, false), (1, 1, false), (2, 1, false), (3, 1, false)])]
theorem ty3 : ng prog 3 (match lk 3 tys with | some i => i | none => .bool) := ⟨by kernel_rfl, by kernel_rfl⟩
theorem ty4 : ng prog 4 (match lk 4 tys with | some i => i | none => .bool) := ⟨by kernel_rfl, by kernel_rfl⟩
theorem ty5 : ng prog 5 (match lk 5 tys with | some i => i | none => .bool) := ⟨by kernel_rfl, by kernel_rfl⟩
theorem ty9 : ng prog 9 (match lk 9 tys with | some i => i | none => .bool) := ⟨by kernel_rfl, by kernel_rfl⟩
theorem Rl : ng prog 22 (match lk 22 tys with | some i => i | none => .bool) := ⟨by kernel_rfl, by kernel_rfl⟩
theorem Rn : ng prog 33 (match lk 33 tys with | some i => i | none => .bool) := ⟨by kernel_rfl, by kernel_rfl⟩
theorem Ro : ng prog 35 (match lk 35 tys with | some i => i | none => .bool) := ⟨_, underlying35, by kernel_rfl, by kernel_rfl⟩
theorem Rq : ng prog 53 (match lk 53 tys with | some i => i | none => .bool) := ⟨_, underlying53, by kernel_rfl, by kernel_rfl⟩
theorem Rt : ng prog 61 (match lk 61 tys with | some i => i | none => .bool) := ⟨by kernel_rfl, by kernel_rfl⟩
theorem Ru : ng prog 64 (match lk 64 tys with | some i => i | none => .bool) := ⟨by kernel_rfl, by kernel_rfl, by kernel_rfl, by kernel_rfl, by decide⟩
theorem OZ : ng prog 73 (match lk 73 tys with | some i => i | none => .bool) := ⟨by kernel_rfl, by kernel_rfl, by kernel_rfl, by kernel_rfl, by decide⟩
theorem Jq : ng prog 88 (match lk 88 tys with | some i => i | none => .bool) := ⟨_, underlying88, by kernel_rfl, by kernel_rfl⟩
theorem Rw : ng prog 93 (match lk 93 tys with | some i => i | none => .bool) := ⟨_, underlying93, by kernel_rfl, by kernel_rfl⟩
theorem Ql : ng prog 104 (match lk 104 tys with | some i => i | none => .bool) := ⟨_, underlying104, by kernel_rfl, by kernel_rfl⟩
theorem Qm : ng prog 111 (match lk 111 tys with | some i => i | none => .bool) := ⟨_, underlying111, by kernel_rfl, by kernel_rfl⟩
theorem Qn : ng prog 118 (match lk 118 tys with | some i => i | none => .bool) := ⟨_, underlying118, by kernel_rfl, by kernel_rfl⟩
theorem Qo : ng prog 197 (match lk 197 tys with | some i => i | none => .bool) := ⟨_, underlying197, by kernel_rfl, by kernel_rfl⟩
theorem Qp : ng prog 201 (match lk 201 tys with | some i => i | none => .bool) := ⟨_, underlying201, by kernel_rfl, by kernel_rfl⟩
theorem jE : kL prog tys := And.intro ty3 <| And.intro ty4 <| And.intro ty5 <| And.intro ty9 <| And.intro Rl <| And.intro Rn <| And.intro Ro <| And.intro Rq <| And.intro Rt <| And.intro Ru <| And.intro OZ <| And.intro Jq <| And.intro Rw <| And.intro Ql <| And.intro Qm <| And.intro Qn <| And.intro Qo <| And.intro Qp <| trivial
theorem stays : rW GOk := ⟨fun w w' h hb => h.below hb⟩
theorem mixed : prog.follows .mixedOrders = true := by kernel_rfl
abbrev AO := jR prog GOk
abbrev FO := CB prog GOk
def jH.app : List AV → (AV → Option AV) → Option AV := fun l K => match l with
 | [.v (.string z0)] => (jH.f z0).bind fun r => K (.tup [.ro true .u64 r.1, .v (.int .i64 r.2)])
 | _ => none
theorem jH.ok : jR prog GOk 37 jH.app := ⟨⟨f37, func37, by kernel_rfl, by kernel_rfl⟩, fun l args w O K r hG hO hl h => by
 unfold jH.app at h
 split at h
 ·rename_i z0
  obtain ⟨y, hy, hK⟩ := Option.bind_eq_some_iff.1 h
  obtain ⟨v0, us0, rfl, h0, hl0⟩ := bY hl
  obtain rfl := iY h0
  obtain rfl := iK hl0
  refine ⟨_, hK, (jH.calls z0 y.1 y.2 w hy).mono ?_⟩
  rintro e w' ⟨v0_, rfl, hR0, hb⟩
  exact ⟨_, rfl, (.tup _ _ (.cons _ _ _ _ (l9 hR0 hO) (.cons _ _ _ _ (.v _) .nil))), hb⟩
 ·cases h⟩
def bg.app : List AV → (AV → Option AV) → Option AV := fun l K => match l with
 | [.v (.int .i64 z0)] => (bg.f z0).bind fun r => K (.tup [.agg [.v (.int .i64 r.1), .v (.int .i64 r.2.1), .v (.int .i64 r.2.2.1), .v (.int .i64 r.2.2.2.1)], .v (.int .i64 r.2.2.2.2)])
 | _ => none
theorem bg.ok : jR prog GOk 52 bg.app := ⟨⟨f52, func52, by kernel_rfl, by kernel_rfl⟩, fun l args w O K r hG hO hl h => by
 unfold bg.app at h
 split at h
 ·rename_i z0
  obtain ⟨y, hy, hK⟩ := Option.bind_eq_some_iff.1 h
  obtain ⟨v0, us0, rfl, h0, hl0⟩ := bY hl
  obtain rfl := iY h0
  obtain rfl := iK hl0
  refine ⟨_, hK, (bg.calls z0 y.1 y.2.1 y.2.2.1 y.2.2.2.1 y.2.2.2.2 w hG hy).mono ?_⟩
  rintro e w' ⟨rfl, hb⟩
  exact ⟨_, rfl, (.tup _ _ (.cons _ _ _ _ (.agg _ _ (.cons _ _ _ _ (.v _) (.cons _ _ _ _ (.v _) (.cons _ _ _ _ (.v _) (.cons _ _ _ _ (.v _) .nil))))) (.cons _ _ _ _ (.v _) .nil))), hb⟩
 ·cases h⟩
def fP.app : List AV → (AV → Option AV) → Option AV := fun l K => match l with
 | [.v (.string z0)] => (fP.f z0).bind fun r => K (.v (.string r))
 | _ => none
theorem fP.ok : jR prog GOk 128 fP.app := ⟨⟨f128, func128, by kernel_rfl, by kernel_rfl⟩, fun l args w O K r hG hO hl h => by
 unfold fP.app at h
 split at h
 ·rename_i z0
  obtain ⟨y, hy, hK⟩ := Option.bind_eq_some_iff.1 h
  obtain ⟨v0, us0, rfl, h0, hl0⟩ := bY hl
  obtain rfl := iY h0
  obtain rfl := iK hl0
  refine ⟨_, hK, (fP.calls z0 y w hG hy).mono ?_⟩
  rintro e w' ⟨rfl, hb⟩
  exact ⟨_, rfl, (.v _), hb⟩
 ·cases h⟩
def fM.app : List AV → (AV → Option AV) → Option AV := fun l K => match l with
 | [.v (.string z0), .v (.string z1)] => (fM.f z0 z1).bind fun r => K (.v (.string r))
 | _ => none
theorem fM.ok : jR prog GOk 55 fM.app := ⟨⟨f55, func55, by kernel_rfl, by kernel_rfl⟩, fun l args w O K r hG hO hl h => by
 unfold fM.app at h
 split at h
 ·rename_i z0 z1
  obtain ⟨y, hy, hK⟩ := Option.bind_eq_some_iff.1 h
  obtain ⟨v0, us0, rfl, h0, hl0⟩ := bY hl
  obtain rfl := iY h0
  obtain ⟨v1, us1, rfl, h1, hl1⟩ := bY hl0
  obtain rfl := iY h1
  obtain rfl := iK hl1
  refine ⟨_, hK, (fM.calls z0 z1 y w hy).mono ?_⟩
  rintro e w' ⟨rfl, hb⟩
  exact ⟨_, rfl, (.v _), hb.below⟩
 ·cases h⟩
def dM.app : List AV → (AV → Option AV) → Option AV := fun l K => match l with
 | [.v (.int .i64 z0), .v (.bool z1)] => (dM.f z0 z1).bind fun r => K (.tup [.v (.int .u64 r.1), .v (.int .i64 r.2)])
 | _ => none
theorem dM.ok : jR prog GOk 56 dM.app := ⟨⟨f56, func56, by kernel_rfl, by kernel_rfl⟩, fun l args w O K r hG hO hl h => by
 unfold dM.app at h
 split at h
 ·rename_i z0 z1
  obtain ⟨y, hy, hK⟩ := Option.bind_eq_some_iff.1 h
  obtain ⟨v0, us0, rfl, h0, hl0⟩ := bY hl
  obtain rfl := iY h0
  obtain ⟨v1, us1, rfl, h1, hl1⟩ := bY hl0
  obtain rfl := iY h1
  obtain rfl := iK hl1
  refine ⟨_, hK, (dM.calls z0 z1 y.1 y.2 w hG hy).mono ?_⟩
  rintro e w' ⟨rfl, hb⟩
  exact ⟨_, rfl, (.tup _ _ (.cons _ _ _ _ (.v _) (.cons _ _ _ _ (.v _) .nil))), hb⟩
 ·cases h⟩
def jw.app : List AV → (AV → Option AV) → Option AV := fun l K => match l with
 | [.v (.int .i64 z0)] => (jw.f z0).bind fun r => K (.tup [.v (.int .u64 r.1), .v (.int .i64 r.2)])
 | _ => none
theorem jw.ok : jR prog GOk 57 jw.app := ⟨⟨f57, func57, by kernel_rfl, by kernel_rfl⟩, fun l args w O K r hG hO hl h => by
 unfold jw.app at h
 split at h
 ·rename_i z0
  obtain ⟨y, hy, hK⟩ := Option.bind_eq_some_iff.1 h
  obtain ⟨v0, us0, rfl, h0, hl0⟩ := bY hl
  obtain rfl := iY h0
  obtain rfl := iK hl0
  refine ⟨_, hK, (jw.calls z0 y.1 y.2 w hG hy).mono ?_⟩
  rintro e w' ⟨rfl, hb⟩
  exact ⟨_, rfl, (.tup _ _ (.cons _ _ _ _ (.v _) (.cons _ _ _ _ (.v _) .nil))), hb⟩
 ·cases h⟩
def gZ.app : List AV → (AV → Option AV) → Option AV := fun l K => match l with
 | [.v (.int .i64 z0), .v (.bool z1)] => (gZ.f z0 z1).bind fun r => K (.tup [.v (.int .u64 r.1), .v (.int .i64 r.2)])
 | _ => none
theorem gZ.ok : jR prog GOk 58 gZ.app := ⟨⟨f58, func58, by kernel_rfl, by kernel_rfl⟩, fun l args w O K r hG hO hl h => by
 unfold gZ.app at h
 split at h
 ·rename_i z0 z1
  obtain ⟨y, hy, hK⟩ := Option.bind_eq_some_iff.1 h
  obtain ⟨v0, us0, rfl, h0, hl0⟩ := bY hl
  obtain rfl := iY h0
  obtain ⟨v1, us1, rfl, h1, hl1⟩ := bY hl0
  obtain rfl := iY h1
  obtain rfl := iK hl1
  refine ⟨_, hK, (gZ.calls z0 z1 y.1 y.2 w hG hy).mono ?_⟩
  rintro e w' ⟨rfl, hb⟩
  exact ⟨_, rfl, (.tup _ _ (.cons _ _ _ _ (.v _) (.cons _ _ _ _ (.v _) .nil))), hb⟩
 ·cases h⟩
def jK.app : List AV → (AV → Option AV) → Option AV := fun l K => match l with
 | [.ro false .u64 z0] => (jK.f z0).bind fun r => K (.ro true .u64 r)
 | _ => none
theorem jK.ok : jR prog GOk 140 jK.app := ⟨⟨f140, func140, by kernel_rfl, by kernel_rfl⟩, fun l args w O K r hG hO hl h => by
 unfold jK.app at h
 split at h
 ·rename_i z0
  obtain ⟨y, hy, hK⟩ := Option.bind_eq_some_iff.1 h
  obtain ⟨v0, us0, rfl, h0, hl0⟩ := bY hl
  obtain ⟨A0, c0, rfl, hr0, hc0⟩ := kN h0
  obtain rfl := iK hl0
  refine ⟨_, hK, (jK.calls A0 c0 z0 y w hr0 hc0 hy).mono ?_⟩
  rintro e w' ⟨v0_, rfl, hR0, hb⟩
  exact ⟨_, rfl, (l9 hR0 hO), hb⟩
 ·cases h⟩
def fA.app : List AV → (AV → Option AV) → Option AV := fun l K => match l with
 | [.ro false .u64 z0, .v (.int .i64 z1)] => (fA.f z0 z1).bind fun r => K (.tup [.ro true .u64 r.1, .v (.int .i64 r.2)])
 | _ => none
theorem fA.ok : jR prog GOk 89 fA.app := ⟨⟨f89, func89, by kernel_rfl, by kernel_rfl⟩, fun l args w O K r hG hO hl h => by
 unfold fA.app at h
 split at h
 ·rename_i z0 z1
  obtain ⟨y, hy, hK⟩ := Option.bind_eq_some_iff.1 h
  obtain ⟨v0, us0, rfl, h0, hl0⟩ := bY hl
  obtain ⟨A0, c0, rfl, hr0, hc0⟩ := kN h0
  obtain ⟨v1, us1, rfl, h1, hl1⟩ := bY hl0
  obtain rfl := iY h1
  obtain rfl := iK hl1
  refine ⟨_, hK, (fA.calls A0 c0 z0 z1 y.1 y.2 w hr0 hc0 hy).mono ?_⟩
  rintro e w' ⟨v0_, rfl, hR0, hb⟩
  exact ⟨_, rfl, (.tup _ _ (.cons _ _ _ _ (l9 hR0 hO) (.cons _ _ _ _ (.v _) .nil))), hb⟩
 ·cases h⟩
def iq.app : List AV → (AV → Option AV) → Option AV := fun l K => match l with
 | [.ro false .u64 z0, .ro false .u64 z1] => (iq.f z0 z1).bind fun r => K (.tup [.ro true .u64 r.1, .ro true .u64 r.2.1, .v (.int .i64 r.2.2)])
 | _ => none
theorem iq.ok : jR prog GOk 101 iq.app := ⟨⟨f101, func101, by kernel_rfl, by kernel_rfl⟩, fun l args w O K r hG hO hl h => by
 unfold iq.app at h
 split at h
 ·rename_i z0 z1
  obtain ⟨y, hy, hK⟩ := Option.bind_eq_some_iff.1 h
  obtain ⟨v0, us0, rfl, h0, hl0⟩ := bY hl
  obtain ⟨A0, c0, rfl, hr0, hc0⟩ := kN h0
  obtain ⟨v1, us1, rfl, h1, hl1⟩ := bY hl0
  obtain ⟨A1, c1, rfl, hr1, hc1⟩ := kN h1
  obtain rfl := iK hl1
  refine ⟨_, hK, (iq.calls A0 c0 z0 A1 c1 z1 y.1 y.2.1 y.2.2 w hr0 hc0 hr1 hc1 hy).mono ?_⟩
  rintro e w' ⟨v0_, v1_, rfl, hR0, hR1, hb⟩
  exact ⟨_, rfl, (.tup _ _ (.cons _ _ _ _ (l9 hR0 hO) (.cons _ _ _ _ (l9 hR1 hO) (.cons _ _ _ _ (.v _) .nil)))), hb⟩
 ·cases h⟩
def iy.app : List AV → (AV → Option AV) → Option AV := fun l K => match l with
 | [.ro false .u64 z0, .ro false .u64 z1] => (iy.f z0 z1).bind fun r => K (.v (.int .i64 r))
 | _ => none
theorem iy.ok : jR prog GOk 103 iy.app := ⟨⟨f103, func103, by kernel_rfl, by kernel_rfl⟩, fun l args w O K r hG hO hl h => by
 unfold iy.app at h
 split at h
 ·rename_i z0 z1
  obtain ⟨y, hy, hK⟩ := Option.bind_eq_some_iff.1 h
  obtain ⟨v0, us0, rfl, h0, hl0⟩ := bY hl
  obtain ⟨A0, c0, rfl, hr0, hc0⟩ := kN h0
  obtain ⟨v1, us1, rfl, h1, hl1⟩ := bY hl0
  obtain ⟨A1, c1, rfl, hr1, hc1⟩ := kN h1
  obtain rfl := iK hl1
  refine ⟨_, hK, (iy.calls A0 c0 z0 A1 c1 z1 y w hr0 hc0 hr1 hc1 hy).mono ?_⟩
  rintro e w' ⟨rfl, hb⟩
  exact ⟨_, rfl, (.v _), hb.below⟩
 ·cases h⟩
def iJ.app : List AV → (AV → Option AV) → Option AV := fun l K => match l with
 | [.ro false .u64 z0, .ro false .u64 z1] => (iJ.f z0 z1).bind fun r => K (.ro true .u64 r)
 | _ => none
theorem iJ.ok : jR prog GOk 104 iJ.app := ⟨⟨f104, func104, by kernel_rfl, by kernel_rfl⟩, fun l args w O K r hG hO hl h => by
 unfold iJ.app at h
 split at h
 ·rename_i z0 z1
  obtain ⟨y, hy, hK⟩ := Option.bind_eq_some_iff.1 h
  obtain ⟨v0, us0, rfl, h0, hl0⟩ := bY hl
  obtain ⟨A0, c0, rfl, hr0, hc0⟩ := kN h0
  obtain ⟨v1, us1, rfl, h1, hl1⟩ := bY hl0
  obtain ⟨A1, c1, rfl, hr1, hc1⟩ := kN h1
  obtain rfl := iK hl1
  refine ⟨_, hK, (iJ.calls A0 c0 z0 A1 c1 z1 y w hr0 hc0 hr1 hc1 hy).mono ?_⟩
  rintro e w' ⟨v0_, rfl, hR0, hb⟩
  exact ⟨_, rfl, (l9 hR0 hO), hb⟩
 ·cases h⟩
def kD.app : List AV → (AV → Option AV) → Option AV := fun l K => match l with
 | [.ro false .u64 z0, .ro false .u64 z1] => (kD.f z0 z1).bind fun r => K (.tup [.ro true .u64 r.1, .v (.int .i64 r.2)])
 | _ => none
theorem kD.ok : jR prog GOk 160 kD.app := ⟨⟨f160, func160, by kernel_rfl, by kernel_rfl⟩, fun l args w O K r hG hO hl h => by
 unfold kD.app at h
 split at h
 ·rename_i z0 z1
  obtain ⟨y, hy, hK⟩ := Option.bind_eq_some_iff.1 h
  obtain ⟨v0, us0, rfl, h0, hl0⟩ := bY hl
  obtain ⟨A0, c0, rfl, hr0, hc0⟩ := kN h0
  obtain ⟨v1, us1, rfl, h1, hl1⟩ := bY hl0
  obtain ⟨A1, c1, rfl, hr1, hc1⟩ := kN h1
  obtain rfl := iK hl1
  refine ⟨_, hK, (kD.calls A0 c0 z0 A1 c1 z1 y.1 y.2 w hr0 hc0 hr1 hc1 hy).mono ?_⟩
  rintro e w' ⟨v0_, rfl, hR0, hb⟩
  exact ⟨_, rfl, (.tup _ _ (.cons _ _ _ _ (l9 hR0 hO) (.cons _ _ _ _ (.v _) .nil))), hb⟩
 ·cases h⟩
def iG.app : List AV → (AV → Option AV) → Option AV := fun l K => match l with
 | [.ro false .u64 z0] => (iG.f z0).bind fun r => K (.v (.int .i64 r))
 | _ => none
theorem iG.ok : jR prog GOk 182 iG.app := ⟨⟨f182, func182, by kernel_rfl, by kernel_rfl⟩, fun l args w O K r hG hO hl h => by
 unfold iG.app at h
 split at h
 ·rename_i z0
  obtain ⟨y, hy, hK⟩ := Option.bind_eq_some_iff.1 h
  obtain ⟨v0, us0, rfl, h0, hl0⟩ := bY hl
  obtain ⟨A0, c0, rfl, hr0, hc0⟩ := kN h0
  obtain rfl := iK hl0
  refine ⟨_, hK, (iG.calls A0 c0 z0 y w hr0 hc0 hy).mono ?_⟩
  rintro e w' ⟨rfl, hb⟩
  exact ⟨_, rfl, (.v _), hb.below⟩
 ·cases h⟩
def fQ.app : List AV → (AV → Option AV) → Option AV := fun l K => match l with
 | [.v (.int .i64 z0), .v (.bool z1)] => (fQ.f z0 z1).bind fun r => K (.tup [.v (.int .u64 r.1), .v (.int .i64 r.2)])
 | _ => none
theorem fQ.ok : jR prog GOk 248 fQ.app := ⟨⟨f248, func248, by kernel_rfl, by kernel_rfl⟩, fun l args w O K r hG hO hl h => by
 unfold fQ.app at h
 split at h
 ·rename_i z0 z1
  obtain ⟨y, hy, hK⟩ := Option.bind_eq_some_iff.1 h
  obtain ⟨v0, us0, rfl, h0, hl0⟩ := bY hl
  obtain rfl := iY h0
  obtain ⟨v1, us1, rfl, h1, hl1⟩ := bY hl0
  obtain rfl := iY h1
  obtain rfl := iK hl1
  refine ⟨_, hK, (fQ.calls z0 z1 y.1 y.2 w hG hy).mono ?_⟩
  rintro e w' ⟨rfl, hb⟩
  exact ⟨_, rfl, (.tup _ _ (.cons _ _ _ _ (.v _) (.cons _ _ _ _ (.v _) .nil))), hb⟩
 ·cases h⟩
def lg.app : List AV → (AV → Option AV) → Option AV := fun l K => match l with
 | [.ro false .u64 z0, .v (.int .i64 z1)] => (lg.f z0 z1).bind fun r => K (.tup [.ro true .u64 r.1, .v (.int .i64 r.2)])
 | _ => none
theorem lg.ok : jR prog GOk 249 lg.app := ⟨⟨f249, func249, by kernel_rfl, by kernel_rfl⟩, fun l args w O K r hG hO hl h => by
 unfold lg.app at h
 split at h
 ·rename_i z0 z1
  obtain ⟨y, hy, hK⟩ := Option.bind_eq_some_iff.1 h
  obtain ⟨v0, us0, rfl, h0, hl0⟩ := bY hl
  obtain ⟨A0, c0, rfl, hr0, hc0⟩ := kN h0
  obtain ⟨v1, us1, rfl, h1, hl1⟩ := bY hl0
  obtain rfl := iY h1
  obtain rfl := iK hl1
  refine ⟨_, hK, (lg.calls A0 c0 z0 z1 y.1 y.2 w hG hr0 hc0 hy).mono ?_⟩
  rintro e w' ⟨v0_, rfl, hR0, hb⟩
  exact ⟨_, rfl, (.tup _ _ (.cons _ _ _ _ (l9 hR0 hO) (.cons _ _ _ _ (.v _) .nil))), hb⟩
 ·cases h⟩
def lu.app : List AV → (AV → Option AV) → Option AV := fun l K => match l with
 | [.ro false .u64 z0, .v (.int .i64 z1)] => (lu.f z0 z1).bind fun r => K (.tup [.ro true .u64 r.1, .v (.int .i64 r.2)])
 | _ => none
theorem lu.ok : jR prog GOk 250 lu.app := ⟨⟨f250, func250, by kernel_rfl, by kernel_rfl⟩, fun l args w O K r hG hO hl h => by
 unfold lu.app at h
 split at h
 ·rename_i z0 z1
  obtain ⟨y, hy, hK⟩ := Option.bind_eq_some_iff.1 h
  obtain ⟨v0, us0, rfl, h0, hl0⟩ := bY hl
  obtain ⟨A0, c0, rfl, hr0, hc0⟩ := kN h0
  obtain ⟨v1, us1, rfl, h1, hl1⟩ := bY hl0
  obtain rfl := iY h1
  obtain rfl := iK hl1
  refine ⟨_, hK, (lu.calls A0 c0 z0 z1 y.1 y.2 w hr0 hc0 hy).mono ?_⟩
  rintro e w' ⟨v0_, rfl, hR0, hb⟩
  exact ⟨_, rfl, (.tup _ _ (.cons _ _ _ _ (l9 hR0 hO) (.cons _ _ _ _ (.v _) .nil))), hb⟩
 ·cases h⟩
def gB.app : List AV → (AV → Option AV) → Option AV := fun l K => match l with
 | [.v (.int .u64 z0), .v (.int .i64 z1)] => (gB.f z0 z1).bind fun r => K (.tup [.ro true .u64 r.1, .v (.int .i64 r.2)])
 | _ => none
theorem gB.ok : jR prog GOk 91 gB.app := ⟨⟨f91, func91, by kernel_rfl, by kernel_rfl⟩, fun l args w O K r hG hO hl h => by
 unfold gB.app at h
 split at h
 ·rename_i z0 z1
  obtain ⟨y, hy, hK⟩ := Option.bind_eq_some_iff.1 h
  obtain ⟨v0, us0, rfl, h0, hl0⟩ := bY hl
  obtain rfl := iY h0
  obtain ⟨v1, us1, rfl, h1, hl1⟩ := bY hl0
  obtain rfl := iY h1
  obtain rfl := iK hl1
  refine ⟨_, hK, (gB.calls z0 z1 y.1 y.2 w hy).mono ?_⟩
  rintro e w' ⟨v0_, rfl, hR0, hb⟩
  exact ⟨_, rfl, (.tup _ _ (.cons _ _ _ _ (l9 hR0 hO) (.cons _ _ _ _ (.v _) .nil))), hb⟩
 ·cases h⟩
def gY.app : List AV → (AV → Option AV) → Option AV := fun l K => match l with
 | [.ro false .u64 z0, .ro false .u64 z1] => (gY.f z0 z1).bind fun r => K (.tup [.ro true .u64 r.1, .v (.int .i64 r.2)])
 | _ => none
theorem gY.ok : jR prog GOk 61 gY.app := ⟨⟨f61, func61, by kernel_rfl, by kernel_rfl⟩, fun l args w O K r hG hO hl h => by
 unfold gY.app at h
 split at h
 ·rename_i z0 z1
  obtain ⟨y, hy, hK⟩ := Option.bind_eq_some_iff.1 h
  obtain ⟨v0, us0, rfl, h0, hl0⟩ := bY hl
  obtain ⟨A0, c0, rfl, hr0, hc0⟩ := kN h0
  obtain ⟨v1, us1, rfl, h1, hl1⟩ := bY hl0
  obtain ⟨A1, c1, rfl, hr1, hc1⟩ := kN h1
  obtain rfl := iK hl1
  refine ⟨_, hK, (gY.calls A0 c0 z0 A1 c1 z1 y.1 y.2 w hr0 hc0 hr1 hc1 hy).mono ?_⟩
  rintro e w' ⟨v0_, rfl, hR0, hb⟩
  exact ⟨_, rfl, (.tup _ _ (.cons _ _ _ _ (l9 hR0 hO) (.cons _ _ _ _ (.v _) .nil))), hb⟩
 ·cases h⟩
def dF.app : List AV → (AV → Option AV) → Option AV := fun l K => match l with
 | [.ro false .u64 z0] => (dF.f z0).bind fun r => K (.ro true .u64 r)
 | _ => none
def jm.app : List AV → (AV → Option AV) → Option AV := fun l K => match l with
 | [.v (.int .i64 z0), .v (.int .u64 z1)] => (jm.f z0 z1).bind fun r => K (.tup [.v (.int .i64 r.1), .v (.int .i64 r.2)])
 | _ => none
theorem jm.ok : jR prog GOk 117 jm.app := ⟨⟨f117, func117, by kernel_rfl, by kernel_rfl⟩, fun l args w O K r hG hO hl h => by
 unfold jm.app at h
 split at h
 ·rename_i z0 z1
  obtain ⟨y, hy, hK⟩ := Option.bind_eq_some_iff.1 h
  obtain ⟨v0, us0, rfl, h0, hl0⟩ := bY hl
  obtain rfl := iY h0
  obtain ⟨v1, us1, rfl, h1, hl1⟩ := bY hl0
  obtain rfl := iY h1
  obtain rfl := iK hl1
  refine ⟨_, hK, (jm.calls z0 z1 y.1 y.2 w hG hy).mono ?_⟩
  rintro e w' ⟨rfl, hb⟩
  exact ⟨_, rfl, (.tup _ _ (.cons _ _ _ _ (.v _) (.cons _ _ _ _ (.v _) .nil))), hb⟩
 ·cases h⟩
def iV.app : List AV → (AV → Option AV) → Option AV := fun l K => match l with
 | [.v (.int .i64 z0), .v (.int .u64 z1)] => (iV.f z0 z1).bind fun r => K (.tup [.v (.bool r.1), .v (.int .u64 r.2.1), .v (.int .u64 r.2.2.1), .v (.int .i64 r.2.2.2)])
 | _ => none
theorem iV.ok : jR prog GOk 118 iV.app := ⟨⟨f118, func118, by kernel_rfl, by kernel_rfl⟩, fun l args w O K r hG hO hl h => by
 unfold iV.app at h
 split at h
 ·rename_i z0 z1
  obtain ⟨y, hy, hK⟩ := Option.bind_eq_some_iff.1 h
  obtain ⟨v0, us0, rfl, h0, hl0⟩ := bY hl
  obtain rfl := iY h0
  obtain ⟨v1, us1, rfl, h1, hl1⟩ := bY hl0
  obtain rfl := iY h1
  obtain rfl := iK hl1
  refine ⟨_, hK, (iV.calls z0 z1 y.1 y.2.1 y.2.2.1 y.2.2.2 w hG hy).mono ?_⟩
  rintro e w' ⟨rfl, hb⟩
  exact ⟨_, rfl, (.tup _ _ (.cons _ _ _ _ (.v _) (.cons _ _ _ _ (.v _) (.cons _ _ _ _ (.v _) (.cons _ _ _ _ (.v _) .nil))))), hb⟩
 ·cases h⟩
def fJ.app : List AV → (AV → Option AV) → Option AV := fun l K => match l with
 | [.agg [.v (.bool z0), .v (.int .u64 z1), .v (.int .i64 z2), .v (.int .u64 z3)]] => (fJ.f z0 z1 z2 z3).bind fun r => K (.tup [.v (.string r.1), .v (.int .i64 r.2)])
 | _ => none
theorem fJ.ok : jR prog GOk 75 fJ.app := ⟨⟨f75, func75, by kernel_rfl, by kernel_rfl⟩, fun l args w O K r hG hO hl h => by
 unfold fJ.app at h
 split at h
 ·rename_i z0 z1 z2 z3
  obtain ⟨y, hy, hK⟩ := Option.bind_eq_some_iff.1 h
  obtain ⟨v0, us0, rfl, h0, hl0⟩ := bY hl
  obtain ⟨ws, rfl, hs⟩ := Pn h0
  obtain ⟨u0, ws0, rfl, g0, hs0⟩ := bY hs
  obtain rfl := iY g0
  obtain ⟨u1, ws1, rfl, g1, hs1⟩ := bY hs0
  obtain rfl := iY g1
  obtain ⟨u2, ws2, rfl, g2, hs2⟩ := bY hs1
  obtain rfl := iY g2
  obtain ⟨u3, ws3, rfl, g3, hs3⟩ := bY hs2
  obtain rfl := iY g3
  obtain rfl := iK hs3
  obtain rfl := iK hl0
  refine ⟨_, hK, (fJ.calls z0 z1 z2 z3 y.1 y.2 w hG hy).mono ?_⟩
  rintro e w' ⟨rfl, hb⟩
  exact ⟨_, rfl, (.tup _ _ (.cons _ _ _ _ (.v _) (.cons _ _ _ _ (.v _) .nil))), hb⟩
 ·cases h⟩
def strings_Repeat.app : List AV → (AV → Option AV) → Option AV := fun l K => match l with
 | [.v (.string z0), .v (.int .i64 z1)] => (strings_Repeat.f z0 z1).bind fun r => K (.v (.string r))
 | _ => none
theorem strings_Repeat.ok : jR prog GOk 92 strings_Repeat.app := ⟨⟨f92, func92, by kernel_rfl, by kernel_rfl⟩, fun l args w O K r hG hO hl h => by
 unfold strings_Repeat.app at h
 split at h
 ·rename_i z0 z1
  obtain ⟨y, hy, hK⟩ := Option.bind_eq_some_iff.1 h
  obtain ⟨v0, us0, rfl, h0, hl0⟩ := bY hl
  obtain rfl := iY h0
  obtain ⟨v1, us1, rfl, h1, hl1⟩ := bY hl0
  obtain rfl := iY h1
  obtain rfl := iK hl1
  refine ⟨_, hK, (strings_Repeat.calls z0 z1 y w hy).mono ?_⟩
  rintro e w' ⟨rfl, hb⟩
  exact ⟨_, rfl, (.v _), hb⟩
 ·cases h⟩
def strconv_Itoa.app : List AV → (AV → Option AV) → Option AV := fun l K => match l with
 | [.v (.int .i64 z0)] => (strconv_Itoa.f z0).bind fun r => K (.v (.string r))
 | _ => none
theorem strconv_Itoa.ok : jR prog GOk 120 strconv_Itoa.app := ⟨⟨f120, func120, by kernel_rfl, by kernel_rfl⟩, fun l args w O K r hG hO hl h => by
 unfold strconv_Itoa.app at h
 split at h
 ·rename_i z0
  obtain ⟨y, hy, hK⟩ := Option.bind_eq_some_iff.1 h
  obtain ⟨v0, us0, rfl, h0, hl0⟩ := bY hl
  obtain rfl := iY h0
  obtain rfl := iK hl0
  refine ⟨_, hK, (strconv_Itoa.calls z0 y w hG hy).mono ?_⟩
  rintro e w' ⟨rfl, hb⟩
  exact ⟨_, rfl, (.v _), hb⟩
 ·cases h⟩
def jg.app : List AV → (AV → Option AV) → Option AV := fun l K => match l with
 | [.v (.int .i64 z0)] => (jg.f z0).bind fun r => K (.v (.int .u64 r))
 | _ => none
theorem jg.ok : jR prog GOk 73 jg.app := ⟨⟨f73, func73, by kernel_rfl, by kernel_rfl⟩, fun l args w O K r hG hO hl h => by
 unfold jg.app at h
 split at h
 ·rename_i z0
  obtain ⟨y, hy, hK⟩ := Option.bind_eq_some_iff.1 h
  obtain ⟨v0, us0, rfl, h0, hl0⟩ := bY hl
  obtain rfl := iY h0
  obtain rfl := iK hl0
  refine ⟨_, hK, (jg.calls z0 y w hG hy).mono ?_⟩
  rintro e w' ⟨rfl, hb⟩
  exact ⟨_, rfl, (.v _), hb⟩
 ·cases h⟩
def bP.app : List AV → (AV → Option AV) → Option AV := fun l K => match l with
 | [.ro false .u64 z0] => (bP.f z0).bind fun r => K (.tup [.v (.string r.1), .v (.int .i64 r.2)])
 | _ => none
def strings_HasSuffix.app : List AV → (AV → Option AV) → Option AV := fun l K => match l with
 | [.v (.string z0), .v (.string z1)] => (strings_HasSuffix.f z0 z1).bind fun r => K (.v (.bool r))
 | _ => none
def jQ.app : List AV → (AV → Option AV) → Option AV := fun l K => match l with
 | [.agg [.v (.bool z0), .v (.int .u64 z1), .v (.int .i64 z2), .v (.int .u64 z3)]] => (jQ.f z0 z1 z2 z3).bind fun r => K (.v (.int .i64 r))
 | _ => none
def je.app : List AV → (AV → Option AV) → Option AV := fun l K => match l with
 | [.v (.string z0), .v (.string z1)] => (je.f z0 z1).bind fun r => K (.v (.string r))
 | _ => none
end Go.Proofs.YtafikkmnkeddpaaGreatDoor.P
