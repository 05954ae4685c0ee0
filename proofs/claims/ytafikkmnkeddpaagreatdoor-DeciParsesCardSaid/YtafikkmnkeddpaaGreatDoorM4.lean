/- Part 4 of the proof: see the last text. Condition: none. -/
import Derived.Test.YtafikkmnkeddpaaGreatDoorM3
set_option linter.unusedVariables false
set_option linter.unusedSimpArgs false
set_option maxRecDepth 100000
namespace Go.Proofs.YtafikkmnkeddpaaGreatDoor.P
open Go.RowKit Go.Proofs.YtafikkmnkeddpaaGreatDoorW.PrintWords Go.Proofs.YtafikkmnkeddpaaGreatDoorW.PrintLast Go.Proofs.YtafikkmnkeddpaaGreatDoorW.PrintMore Go.Proofs.Tryz
def Je : Option Int → Value
 | none => .nilIface
 | some c => .iface 0 (.int .i64 c)
def fF.f (a : Int) : Option (Bool) := if a ≥ 0 then (some (decide (a ≤ 5))) else (some false)
def fJ.f (a : Int) : Option (Bool) := if a ≥ 48 then (some (decide (a ≤ 57))) else (some false)
mutual
def aA.j0 : Nat → ByteArray → Int → Bool → Option (Int × Bool)
 | 0, _, _, _ => none
 | k + 1, a, b, c => if c = true then (some (0, false)) else (if 1 ≤ (a.size : Int) then (if (a.extract 1 a.size).toList = ([] : List UInt8) then (aA.j1 k (a.extract 1 a.size) b false) else (if 0 < ((a.extract 1 a.size).size : Int) then (aA.j1 k (a.extract 1 a.size) b ((bt (a.extract 1 a.size) 0) == 45)) else (none))) else (none))
def aA.j1 : Nat → ByteArray → Int → Bool → Option (Int × Bool)
 | 0, _, _, _ => none
 | k + 1, a, b, c => if c = true then (aA.j2 k a b c true) else (if a.toList = ([] : List UInt8) then (aA.j2 k a b c false) else (if 0 < (a.size : Int) then (aA.j2 k a b c ((bt a 0) == 43)) else (none)))
def aA.j2 : Nat → ByteArray → Int → Bool → Bool → Option (Int × Bool)
 | 0, _, _, _, _ => none
 | k + 1, a, b, c, d => if d = true then (if 1 ≤ (a.size : Int) then (aA.j3 k (a.extract 1 a.size) b c) else (none)) else (aA.j3 k a b c)
def aA.j3 : Nat → ByteArray → Int → Bool → Option (Int × Bool)
 | 0, _, _, _ => none
 | k + 1, a, b, c => if a.toList = ([] : List UInt8) then (some (0, false)) else (aA.l0 k a b c (a.size : Int) 0)
def aA.l0 : Nat → ByteArray → Int → Bool → Int → Int → Option (Int × Bool)
 | 0, _, _, _, _, _ => none
 | k + 1, a, b, c, d, e => if e < d then (if 0 ≤ e then (if e < (a.size : Int) then ((fJ.f (bt a e)).bind fun f => (if f = true then (aA.l0 k a (mn (wrap64 ((wrap64 (10 * b)) + (((bt a e) - 48) % 256))) 1048576) c d (wrap64 (e + 1))) else (some (0, false)))) else (none)) else (none)) else (if c = true then (some (wrap64 (-b), true)) else (some (b, true)))
end
def aA.f (k : Nat) (a : ByteArray) : Option (Int × Bool) := if 0 < (a.size : Int) then (if (bt a 0) = 101 then (aA.j0 k a 0 false) else (aA.j0 k a 0 ((bt a 0) != 69))) else (none)
mutual
def aT.j0 : Nat → ByteArray → Bool → Bool → ByteArray → ByteArray → Int → Option (Bool × ByteArray × ByteArray × Int × Bool)
 | 0, _, _, _, _, _, _ => none
 | k + 1, a, b, c, d, e, f => if b = true then (if 0 < (a.size : Int) then (if 1 ≤ (a.size : Int) then (aT.j1 k (a.extract 1 a.size) ((bt a 0) == 45) d e f) else (none)) else (none)) else (aT.j1 k a c d e f)
def aT.j1 : Nat → ByteArray → Bool → ByteArray → ByteArray → Int → Option (Bool × ByteArray × ByteArray × Int × Bool)
 | 0, _, _, _, _, _ => none
 | k + 1, a, b, c, d, e => (fQ.f a).bind fun f => (if (a.size : Int) = 3 then (if f.toList = ([105, 110, 102] : List UInt8) then (aT.j2 k a f true b c d e) else (aT.j2 k a f (f.toList == ([110, 97, 110] : List UInt8)) b c d e)) else (aT.j2 k a f false b c d e))
def aT.j2 : Nat → ByteArray → ByteArray → Bool → Bool → ByteArray → ByteArray → Int → Option (Bool × ByteArray × ByteArray × Int × Bool)
 | 0, _, _, _, _, _, _, _ => none
 | k + 1, a, b, c, d, e, f, g => if c = true then (some (d, b, f, g, true)) else (if 0 ≤ (a.size : Int) then (if ((a.size : Int) : Int).toNat ≤ 281474976710656 then (aT.l0 k a (([] : List Int)) false 0 d e f g) else (none)) else (none))
def aT.j4 : Nat → ByteArray → List Int → Int → Bool → ByteArray → ByteArray → Int → Option (Bool × ByteArray × ByteArray × Int × Bool)
 | 0, _, _, _, _, _, _, _ => none
 | k + 1, a, b, c, d, e, f, g => if (b.length : Int) = 0 then (some (d, e, strOfNums b, g, false)) else (if c = (a.size : Int) then (some (d, e, strOfNums b, g, true)) else (if 0 ≤ c then (if c ≤ (a.size : Int) then ((aA.f k (a.extract (c : Int).toNat a.size)).bind fun i => (some (d, e, strOfNums b, wrap64 (g + i.1), i.2))) else (none)) else (none)))
def aT.l0 : Nat → ByteArray → List Int → Bool → Int → Bool → ByteArray → ByteArray → Int → Option (Bool × ByteArray × ByteArray × Int × Bool)
 | 0, _, _, _, _, _, _, _, _ => none
 | k + 1, a, b, c, d, e, f, g, i => if d < (a.size : Int) then (if 0 ≤ d then ((fJ.f (bt a d)).bind fun j => (if j = true then (if b.length < 140737488355328 then ((some (b ++ [bt a d] : List Int)).bind fun m => (if c = true then (aT.l0 k a m c (wrap64 (d + 1)) e f g (wrap64 (i - 1))) else (aT.l0 k a m c (wrap64 (d + 1)) e f g i))) else (none)) else (if (bt a d) = 46 then (if c = true then (aT.j4 k a b d e f g i) else (aT.l0 k a b true (wrap64 (d + 1)) e f g i)) else (aT.j4 k a b d e f g i)))) else (none)) else (aT.j4 k a b d e f g i)
end
def aT.f (k : Nat) (a : ByteArray) : Option (Bool × ByteArray × ByteArray × Int × Bool) := if a.toList = ([] : List UInt8) then (aT.j0 k a false false (⟨#[]⟩ : ByteArray) (⟨#[]⟩ : ByteArray) 0) else (if 0 < (a.size : Int) then (if (bt a 0) = 43 then (aT.j0 k a true false (⟨#[]⟩ : ByteArray) (⟨#[]⟩ : ByteArray) 0) else (aT.j0 k a ((bt a 0) == 45) false (⟨#[]⟩ : ByteArray) (⟨#[]⟩ : ByteArray) 0)) else (none))
def fE.f (a : Int) : Option (Int) := if a < 0 then (some 3) else (if a > 5 then (some 3) else (some 0))
def fZ.f (a : Int) (b : Int) : Option (Int × Int × Int × Int × Int) := (bU.f a).bind fun c => (if c.2.2.2.2 = 0 then ((fE.f b).bind fun d => (some (c.1, c.2.1, c.2.2.1, c.2.2.2.1, d))) else (some (c.1, c.2.1, c.2.2.1, c.2.2.2.1, c.2.2.2.2)))
def iW.f (a : Int) (b : Bool) : Option (Int × Int × Int) := (gW.f a b).bind fun c => (some (c.1, 0, c.2))
mutual
def aZ.l0 : Nat → List Int → Int → List Int → Bool → List Int → Int → Bool → Option (Bool × List Int × Int × Bool)
 | 0, _, _, _, _, _, _, _ => none
 | k + 1, a, b, c, d, e, f, g => (iD.f e).bind fun i => (if i < b then (aZ.j1 k a b c (decide (0 < c.length)) d e f g) else (aZ.j1 k a b c false d e f g))
def aZ.j1 : Nat → List Int → Int → List Int → Bool → Bool → List Int → Int → Bool → Option (Bool × List Int × Int × Bool)
 | 0, _, _, _, _, _, _, _, _ => none
 | k + 1, a, b, c, d, e, f, g, i => if d = true then ((iQ.f f f).bind fun j => ((iQ.f c c).bind fun m => ((iC.f m a).bind fun n => (if n ≥ 0 then ((jG.f m a).bind fun o => ((iQ.f j (([1] : List Int))).bind fun p => (aZ.l0 k a b o.1 e p (wrap64 (g - 1)) i))) else (aZ.l0 k a b m e j (wrap64 (g - 1)) i))))) else (some (e, f, g, decide (0 < c.length)))
end
def aZ.f (k : Nat) (a : List Int) (b : List Int) (c : Int) : Option (Bool × List Int × Int × Bool) := (iD.f b).bind fun d => ((iD.f a).bind fun e => ((gK.f a (mx 0 (wrap64 ((wrap64 (d - e)) - 1)))).bind fun f => ((iF.f f.1 b).bind fun g => (aZ.l0 k b c g.2.1 false g.1 (wrap64 (-(mx 0 (wrap64 ((wrap64 (d - e)) - 1))))) false))))
def fB.f (a : Bool) (b : List Int) (c : Int) (d : Bool) : Option (Int) := (iD.f b).bind fun e => (some (wrap64 ((wrap64 (c + e)) - 1)))
def bH.j0 : Nat → Int → Bool → Bool → Option (Int)
 | 0, _, _, _ => none
 | k + 1, a, b, c => if c = true then ((fA.f a b).bind fun d => (some d.1)) else ((fV.f a b).bind fun e => (some e.1))
def bH.f (k : Nat) (a : Int) (b : Int) (c : Bool) : Option (Int) := if b = 0 then (bH.j0 k a c true) else (if b = 1 then (bH.j0 k a c true) else (if b = 3 then (if c = true then (if b = 4 then (bH.j0 k a c c) else (bH.j0 k a c false)) else (bH.j0 k a c true)) else (if b = 4 then (bH.j0 k a c c) else (bH.j0 k a c false))))
def f_.f (a : Int) (b : Bool) (c : Bool) (d : Int) : Option (Bool) := if a = 4 then (some (!(!b))) else (if a = 3 then (some (!b)) else (if a = 0 then (if d = 2 then (some c) else (some (decide (d ≥ 2)))) else (if a = 1 then (some (decide (d ≥ 2))) else (if a = 5 then (some (!c)) else (some false)))))
mutual
def aC.j0 : Nat → Int → List Int → Bool → List Int → Int → Bool → Option (List Int × Bool)
 | 0, _, _, _, _, _, _ => none
 | k + 1, a, b, c, d, e, f => if (b.length : Int) > 0 then (if 0 < (b.length : Int) then (aC.j1 k a b (Go.bits .and .u64 (rd b 0) 3) c d e f) else (none)) else (aC.j1 k a b 0 c d e f)
def aC.j1 : Nat → Int → List Int → Int → Bool → List Int → Int → Bool → Option (List Int × Bool)
 | 0, _, _, _, _, _, _, _ => none
 | k + 1, a, b, c, d, e, f, g => if g = true then (aC.j2 k a b (Go.bits .or .u64 c 1) d e f g) else (aC.j2 k a b c d e f g)
def aC.j2 : Nat → Int → List Int → Int → Bool → List Int → Int → Bool → Option (List Int × Bool)
 | 0, _, _, _, _, _, _, _ => none
 | k + 1, a, b, c, d, e, f, g => (kD.f b 2).bind fun i => (if (i.1.length : Int) > 0 then (if 0 < (i.1.length : Int) then (aC.j3 k a c i.1 ((Go.bits .and .u64 (rd i.1 0) 1) == 1) d e f g) else (none)) else (aC.j3 k a c i.1 false d e f g))
def aC.j3 : Nat → Int → Int → List Int → Bool → Bool → List Int → Int → Bool → Option (List Int × Bool)
 | 0, _, _, _, _, _, _, _, _ => none
 | k + 1, a, b, c, d, e, f, g, i => if b = 0 then (some (c, (b != 0))) else ((f_.f a e d b).bind fun j => (if j = true then ((iQ.f c (([1] : List Int))).bind fun m => (some (m, (b != 0)))) else (some (c, (b != 0)))))
end
def aC.f (k : Nat) (a : Bool) (b : List Int) (c : Int) (d : Bool) (e : Int) (f : Int) : Option (List Int × Bool) := if (wrap64 (f - c)) ≥ 2 then ((kC.f b (wrap64 ((wrap64 (f - c)) - 2))).bind fun g => (aC.j0 k e g.1 a b c d)) else ((gK.f b (wrap64 (2 - (wrap64 (f - c))))).bind fun i => (aC.j0 k e i.1 a b c d))
def dX.f (k : Nat) (a : Bool) (b : List Int) (c : Int) (d : Bool) (e : Int) (f : Int) (g : Int) (i : Int) (j : Int) (m : Int) : Option (Bool) := if m ≥ g then (some false) else ((aC.f k a b c d j (wrap64 ((wrap64 (m - f)) + 1))).bind fun n => ((iD.f n.1).bind fun o => (some (decide ((wrap64 ((wrap64 (m - f)) + o)) < g)))))
mutual
def aU.j0 : Nat → Int → Int → Int → Int → List Int → Bool → Int → Bool → List Int → Int → Bool → Int → Int → Int → Int → Option (Int × Int)
 | 0, _, _, _, _, _, _, _, _, _, _, _, _, _, _, _ => none
 | k + 1, a, b, c, d, e, f, g, i, j, m, n, o, p, q, t => (iD.f e).bind fun u => (if (wrap64 ((wrap64 (d + u)) - 1)) > t then ((bH.f k a b i).bind fun v => (some (v, 20))) else (if i = true then (if 0 ≤ (wrap64 (o - 1)) then (aU.j1 k b c f (Go.bits .or .u64 g (shl .u64 1 (wrap64 (o - 1)))) i j m n o p q t) else (none)) else (aU.j1 k b c f g i j m n o p q t)))
def aU.j1 : Nat → Int → Int → Bool → Int → Bool → List Int → Int → Bool → Int → Int → Int → Int → Option (Int × Int)
 | 0, _, _, _, _, _, _, _, _, _, _, _, _ => none
 | k + 1, a, b, c, d, e, f, g, i, j, m, n, o => if c = true then ((dX.f k e f g i j m n o a b).bind fun p => (if p = true then (some (d, 24)) else (some (d, 16)))) else (some (d, 0))
end
def aU.f (k : Nat) (a : Bool) (b : List Int) (c : Int) (d : Bool) (e : Int) (f : Int) (g : Int) (i : Int) (j : Int) (m : Int) : Option (Int × Int) := (fB.f a b c d).bind fun n => (if n > j then ((bH.f k e m a).bind fun o => (some (o, 20))) else ((aC.f k a b c d m (wrap64 ((wrap64 ((mx n i) - g)) + 1))).bind fun p => (if 0 ≤ (wrap64 (g - 1)) then (if (p.1.length : Int) > 0 then (if 0 < (p.1.length : Int) then (aU.j0 k e m n (wrap64 ((wrap64 ((mx n i) - g)) + 1)) p.1 p.2 (IntKind.u64.wrap ((shl .u64 (IntKind.u64.wrap (wrap64 ((wrap64 ((wrap64 ((mx n i) - g)) + 1)) - (wrap64 ((wrap64 (i - g)) + 1))))) (wrap64 (g - 1))) + (rd p.1 0))) a b c d f g i j) else (none)) else (aU.j0 k e m n (wrap64 ((wrap64 ((mx n i) - g)) + 1)) p.1 p.2 (shl .u64 (IntKind.u64.wrap (wrap64 ((wrap64 ((wrap64 ((mx n i) - g)) + 1)) - (wrap64 ((wrap64 (i - g)) + 1))))) (wrap64 (g - 1))) a b c d f g i j)) else (none))))
def cO.j0 : Nat → Int → Int → Bool → List Int → List Int → Int → Bool → Int → Int → Int → Int → Option (Int × Int × Int)
 | 0, _, _, _, _, _, _, _, _, _, _, _ => none
 | k + 1, a, b, c, d, e, f, g, i, j, m, n => if g = true then (some (0, 0, 30)) else (if (e.length : Int) = 0 then (some (0, 0, 10)) else (if (d.length : Int) = 0 then ((iW.f a c).bind fun o => (some (o.1, o.2.1, o.2.2))) else ((aZ.f k d e (wrap64 (j + 3))).bind fun p => ((aU.f k c p.2.1 (wrap64 (p.2.2.1 + f)) p.2.2.2 a i j m n b).bind fun q => (some (q.1, q.2, 0))))))
def cO.f (k : Nat) (a : Int) (b : Int) (c : Bool) (d : List Int) (e : List Int) (f : Int) : Option (Int × Int × Int) := (fZ.f a b).bind fun g => (if g.2.2.2.2 = 0 then ((jl.f d).bind fun i => ((jl.f e).bind fun j => (if (wrap64 ((i.length : Int) + (j.length : Int))) > 1024 then (some (0, 0, 5)) else (if f < (-40000) then (cO.j0 k a b c i j f true g.1 g.2.1 g.2.2.1 g.2.2.2.1) else (cO.j0 k a b c i j f (decide (f > 40000)) g.1 g.2.1 g.2.2.1 g.2.2.2.1))))) else (some (0, 0, g.2.2.2.2)))
def eX.f (a : Int) : Option (List Int) := (gI.f 10 a).bind fun b => (some b.1)
def gV.f (k : Nat) (a : Int) (b : Int) (c : ByteArray) : Option (Int × Int × Int) := (bU.f a).bind fun d => (if d.2.2.2.2 = 0 then ((fF.f b).bind fun e => (if e = true then (if (c.size : Int) > 2000 then (some (0, 0, 5)) else ((aT.f k c).bind fun f => (if f.2.2.2.2 = true then ((fO.f f.2.2.1 (⟨#[48]⟩ : ByteArray)).bind fun g => (if f.2.1.toList = ([105, 110, 102] : List UInt8) then ((fA.f a f.1).bind fun i => (some (i.1, 0, i.2))) else (if f.2.1.toList = ([110, 97, 110] : List UInt8) then ((je.f a).bind fun j => (some (j.1, 0, j.2))) else (if g.toList = ([] : List UInt8) then ((gW.f a f.1).bind fun m => (some (m.1, 0, m.2))) else ((jh.f g).bind fun n => (if (mx (wrap64 ((-400) - (g.size : Int))) (mn f.2.2.2.1 (wrap64 (400 - (g.size : Int))))) < 0 then ((eX.f (wrap64 (-(mx (wrap64 ((-400) - (g.size : Int))) (mn f.2.2.2.1 (wrap64 (400 - (g.size : Int)))))))).bind fun o => ((cO.f k a b f.1 n.1 o 0).bind fun p => (some (p.1, p.2.1, p.2.2)))) else ((eX.f (mx (wrap64 ((-400) - (g.size : Int))) (mn f.2.2.2.1 (wrap64 (400 - (g.size : Int)))))).bind fun q => ((iE.f n.1 q).bind fun t => ((cO.f k a b f.1 t.1 (([1] : List Int)) 0).bind fun u => (some (u.1, u.2.1, u.2.2))))))))))) else (some (0, 0, 8))))) else (some (0, 0, 3)))) else (some (0, 0, d.2.2.2.2)))
def bJ.f (a : Int) : Option (Int × Int × Int × Int × Bool) := if a = 0 then (some (16, 11, (-14), 15, true)) else (if a = 1 then (some (16, 8, (-126), 127, true)) else (if a = 2 then (some (32, 24, (-126), 127, true)) else (if a = 3 then (some (64, 53, (-1022), 1023, true)) else (some (0, 0, 0, 0, false)))))
def eF.f (a : Int) (b : Int) : Option (Int) := (bJ.f a).bind fun c => (if c.2.2.2.2 = true then (if c.1 < 64 then (if 0 ≤ (IntKind.u64.wrap (c.1)) then (if (shr .u64 b (IntKind.u64.wrap (c.1))) = 0 then (some 0) else (some 4)) else (none)) else (some 0)) else (some 2))
mutual
def aQ.j0 : Nat → Int → List Int → Bool → Option (Int)
 | 0, _, _, _ => none
 | k + 1, a, b, c => if c = true then (some 3) else (aQ.l0 k a b (b.length : Int) 0)
def aQ.l0 : Nat → Int → List Int → Int → Int → Option (Int)
 | 0, _, _, _, _ => none
 | k + 1, a, b, c, d => if d < c then (if 0 ≤ d then (if d < (b.length : Int) then ((eF.f a (rd b d)).bind fun e => (if e = 0 then (aQ.l0 k a b c (wrap64 (d + 1))) else (some e))) else (none)) else (none)) else (some 0)
end
def aQ.f (k : Nat) (a : Int) (b : Int) (c : List Int) : Option (Int) := (bJ.f a).bind fun d => (if d.2.2.2.2 = true then (if b < 0 then (aQ.j0 k a c true) else (aQ.j0 k a c (decide (b > 5)))) else (some 2))
def aW.l0 : Nat → ByteArray → ByteArray → Int → Option (ByteArray)
 | 0, _, _, _ => none
 | k + 1, a, b, c => if c < (a.size : Int) then (if 0 ≤ c then (if (bt a c) ≥ 65 then (if (bt a c) ≤ 90 then ((some (([((bt a c) + 32) % 256] : List Int) : List Int)).bind fun d => (if b.size + (strOfNums d).size ≤ 9223372036854775807 then (aW.l0 k a (b ++ (strOfNums d)) (wrap64 (c + 1))) else (none))) else ((some (([bt a c] : List Int) : List Int)).bind fun e => (if b.size + (strOfNums e).size ≤ 9223372036854775807 then (aW.l0 k a (b ++ (strOfNums e)) (wrap64 (c + 1))) else (none)))) else ((some (([bt a c] : List Int) : List Int)).bind fun f => (if b.size + (strOfNums f).size ≤ 9223372036854775807 then (aW.l0 k a (b ++ (strOfNums f)) (wrap64 (c + 1))) else (none)))) else (none)) else (some b)
def aW.f (k : Nat) (a : ByteArray) : Option (ByteArray) := aW.l0 k a (⟨#[]⟩ : ByteArray) 0
def dh.f (a : Int) : Option (Bool) := if a ≥ 48 then (some (decide (a ≤ 57))) else (some false)
mutual
def ak.j0 : Nat → ByteArray → Bool → Option (Int × Bool)
 | 0, _, _ => none
 | k + 1, a, b => if (a.size : Int) > 0 then (if 0 < (a.size : Int) then (if (bt a 0) = 45 then (ak.j1 k a b true) else (ak.j1 k a b ((bt a 0) == 43))) else (none)) else (ak.j1 k a b false)
def ak.j1 : Nat → ByteArray → Bool → Bool → Option (Int × Bool)
 | 0, _, _, _ => none
 | k + 1, a, b, c => if c = true then (if 1 ≤ (a.size : Int) then (ak.j2 k (a.extract 1 a.size) b) else (none)) else (ak.j2 k a b)
def ak.j2 : Nat → ByteArray → Bool → Option (Int × Bool)
 | 0, _, _ => none
 | k + 1, a, b => ak.l0 k a b 0 0
def ak.l0 : Nat → ByteArray → Bool → Int → Int → Option (Int × Bool)
 | 0, _, _, _, _ => none
 | k + 1, a, b, c, d => if d < (a.size : Int) then (if 0 ≤ d then ((dh.f (bt a d)).bind fun e => (if e = true then (ak.l0 k a b (mn (wrap64 ((wrap64 (10 * c)) + (((bt a d) - 48) % 256))) 1000000000) (wrap64 (d + 1))) else (some (0, false)))) else (none)) else (if b = true then (some (wrap64 (-c), decide ((a.size : Int) > 0))) else (some (c, decide ((a.size : Int) > 0))))
end
def ak.f (k : Nat) (a : ByteArray) : Option (Int × Bool) := if (a.size : Int) > 0 then (if 0 < (a.size : Int) then (ak.j0 k a ((bt a 0) == 45)) else (none)) else (ak.j0 k a false)
mutual
def ah.j0 : Nat → ByteArray → Bool → Bool → Bool → Bool → ByteArray → Int → Option (Bool × Bool × Bool × ByteArray × Int × Bool)
 | 0, _, _, _, _, _, _, _ => none
 | k + 1, a, b, c, d, e, f, g => if b = true then (if 0 < (a.size : Int) then (if 1 ≤ (a.size : Int) then (ah.j1 k (a.extract 1 a.size) ((bt a 0) == 45) d e f g) else (none)) else (none)) else (ah.j1 k a c d e f g)
def ah.j1 : Nat → ByteArray → Bool → Bool → Bool → ByteArray → Int → Option (Bool × Bool × Bool × ByteArray × Int × Bool)
 | 0, _, _, _, _, _, _ => none
 | k + 1, a, b, c, d, e, f => if (a.size : Int) = 3 then ((aW.f k a).bind fun g => ((aW.f k a).bind fun i => (if g.toList = ([105, 110, 102] : List UInt8) then (some (b, (g.toList == ([105, 110, 102] : List UInt8)), (i.toList == ([110, 97, 110] : List UInt8)), e, f, true)) else (if i.toList = ([110, 97, 110] : List UInt8) then (some (b, (g.toList == ([105, 110, 102] : List UInt8)), (i.toList == ([110, 97, 110] : List UInt8)), e, f, true)) else (ah.j2 k a b (g.toList == ([105, 110, 102] : List UInt8)) (i.toList == ([110, 97, 110] : List UInt8)) e f))))) else (ah.j2 k a b c d e f)
def ah.j2 : Nat → ByteArray → Bool → Bool → Bool → ByteArray → Int → Option (Bool × Bool × Bool × ByteArray × Int × Bool)
 | 0, _, _, _, _, _, _ => none
 | k + 1, a, b, c, d, e, f => ah.l0 k a (-1) 0 b c d e f
def ah.l0 : Nat → ByteArray → Int → Int → Bool → Bool → Bool → ByteArray → Int → Option (Bool × Bool × Bool × ByteArray × Int × Bool)
 | 0, _, _, _, _, _, _, _, _ => none
 | k + 1, a, b, c, d, e, f, g, i => if c < (a.size : Int) then (if 0 ≤ c then ((dh.f (bt a c)).bind fun j => (if j = true then (if c ≤ (wrap64 (c + 1)) then (if (wrap64 (c + 1)) ≤ (a.size : Int) then (if g.size + (a.extract (c : Int).toNat ((wrap64 (c + 1)) : Int).toNat).size ≤ 9223372036854775807 then (if b ≥ 0 then (ah.l0 k a (wrap64 (b + 1)) (wrap64 (c + 1)) d e f (g ++ (a.extract (c : Int).toNat ((wrap64 (c + 1)) : Int).toNat)) i) else (ah.l0 k a b (wrap64 (c + 1)) d e f (g ++ (a.extract (c : Int).toNat ((wrap64 (c + 1)) : Int).toNat)) i)) else (none)) else (none)) else (none)) else (if (bt a c) = 46 then (ah.j4 k a b c (decide (b < 0)) d e f g i) else (ah.j4 k a b c false d e f g i)))) else (none)) else (some (d, e, f, g, wrap64 (-(mx 0 b)), (g.toList != ([] : List UInt8))))
def ah.j4 : Nat → ByteArray → Int → Int → Bool → Bool → Bool → Bool → ByteArray → Int → Option (Bool × Bool × Bool × ByteArray × Int × Bool)
 | 0, _, _, _, _, _, _, _, _, _ => none
 | k + 1, a, b, c, d, e, f, g, i, j => if d = true then (ah.l0 k a 0 (wrap64 (c + 1)) e f g i j) else (if 0 ≤ c then (if c < (a.size : Int) then (if (bt a c) = 101 then (if 0 ≤ (wrap64 (c + 1)) then (if (wrap64 (c + 1)) ≤ (a.size : Int) then ((ak.f k (a.extract ((wrap64 (c + 1)) : Int).toNat a.size)).bind fun m => (if m.2 = true then (some (e, f, g, i, wrap64 (m.1 - (mx 0 b)), (i.toList != ([] : List UInt8)))) else (some (e, f, g, i, wrap64 (m.1 - (mx 0 b)), false)))) else (none)) else (none)) else (if (bt a c) = 69 then (if 0 ≤ (wrap64 (c + 1)) then (if (wrap64 (c + 1)) ≤ (a.size : Int) then ((ak.f k (a.extract ((wrap64 (c + 1)) : Int).toNat a.size)).bind fun n => (if n.2 = true then (some (e, f, g, i, wrap64 (n.1 - (mx 0 b)), (i.toList != ([] : List UInt8)))) else (some (e, f, g, i, wrap64 (n.1 - (mx 0 b)), false)))) else (none)) else (none)) else (some (e, f, g, i, j, false)))) else (none)) else (none))
end
def ah.f (k : Nat) (a : ByteArray) : Option (Bool × Bool × Bool × ByteArray × Int × Bool) := if (a.size : Int) > 0 then (if 0 < (a.size : Int) then (if (bt a 0) = 45 then (ah.j0 k a true false false false (⟨#[]⟩ : ByteArray) 0) else (ah.j0 k a ((bt a 0) == 43) false false false (⟨#[]⟩ : ByteArray) 0)) else (none)) else (ah.j0 k a false false false false (⟨#[]⟩ : ByteArray) 0)
def bK.f (a : Int) (b : Int) (c : Int) (d : Int) : Option (Int) := (bJ.f a).bind fun e => (if 0 ≤ (IntKind.u64.wrap (wrap64 (e.1 - 1))) then (if 0 ≤ (IntKind.u64.wrap (wrap64 (e.2.1 - 1))) then (some (Go.bits .or .u64 (Go.bits .or .u64 (shl .u64 b (IntKind.u64.wrap (wrap64 (e.1 - 1)))) (shl .u64 c (IntKind.u64.wrap (wrap64 (e.2.1 - 1))))) d)) else (none)) else (none))
def eG.f (a : Int) : Option (Int) := (bJ.f a).bind fun b => (if 0 ≤ (IntKind.u64.wrap (wrap64 (b.2.1 - 2))) then ((bK.f a 0 (IntKind.u64.wrap (wrap64 ((wrap64 (2 * b.2.2.2.1)) + 1))) (shl .u64 1 (IntKind.u64.wrap (wrap64 (b.2.1 - 2))))).bind fun c => (some c)) else (none))
def dR.f (a : Int) (b : Int) : Option (Int) := (bJ.f a).bind fun c => ((bK.f a b (IntKind.u64.wrap (wrap64 ((wrap64 (2 * c.2.2.2.1)) + 1))) 0).bind fun d => (some d))
def bg.l0 : Nat → List Int → List Int → Int → Option (List Int)
 | 0, _, _, _ => none
 | k + 1, a, b, c => if c < (a.length : Int) then (if 0 ≤ (wrap64 (Int.tdiv c 2)) then (if (wrap64 (Int.tdiv c 2)) < (b.length : Int) then (if 0 ≤ c then (if 0 ≤ (IntKind.u64.wrap (wrap64 (32 * (Int.tmod c 2)))) then (bg.l0 k a (b.set ((wrap64 (Int.tdiv c 2)) : Int).toNat (Go.bits .or .u64 (rd b (wrap64 (Int.tdiv c 2))) (shl .u64 (rd a c) (IntKind.u64.wrap (wrap64 (32 * (Int.tmod c 2))))))) (wrap64 (c + 1))) else (none)) else (none)) else (none)) else (none)) else ((bI.f b).bind fun d => (some d))
def bg.f (k : Nat) (a : List Int) : Option (List Int) := if 0 ≤ (wrap64 (Int.tdiv (wrap64 ((a.length : Int) + 1)) 2)) then (if (wrap64 (Int.tdiv (wrap64 ((a.length : Int) + 1)) 2) : Int).toNat ≤ 35184372088832 then (bg.l0 k a (List.replicate (wrap64 (Int.tdiv (wrap64 ((a.length : Int) + 1)) 2) : Int).toNat 0) 0) else (none)) else (none)
mutual
def au.l0 : Nat → ByteArray → List Int → Int → Int → Int → Option (List Int × Int)
 | 0, _, _, _, _, _ => none
 | k + 1, a, b, c, d, e => if e < (a.size : Int) then (if 0 ≤ e then (if (bt a e) < 48 then (au.j1 k a b c d e true) else (au.j1 k a b c d e (decide ((bt a e) > 57)))) else (none)) else ((bg.f k b).bind fun f => (if (f.length : Int) > 1024 then (some (([] : List Int), 5)) else (some (f, 0))))
def au.j1 : Nat → ByteArray → List Int → Int → Int → Int → Bool → Option (List Int × Int)
 | 0, _, _, _, _, _, _ => none
 | k + 1, a, b, c, d, e, f => if f = true then (some (([] : List Int), 8)) else (if 0 ≤ e then (if e < (a.size : Int) then (if (Int.tmod e 9) = 8 then (au.j2 k a b (IntKind.u64.wrap ((IntKind.u64.wrap (10 * c)) + (((bt a e) - 48) % 256))) (IntKind.u64.wrap (10 * d)) e true) else (au.j2 k a b (IntKind.u64.wrap ((IntKind.u64.wrap (10 * c)) + (((bt a e) - 48) % 256))) (IntKind.u64.wrap (10 * d)) e (e == (wrap64 ((a.size : Int) - 1))))) else (none)) else (none))
def au.j2 : Nat → ByteArray → List Int → Int → Int → Int → Bool → Option (List Int × Int)
 | 0, _, _, _, _, _, _ => none
 | k + 1, a, b, c, d, e, f => if f = true then (au.l1 k a b d e c 0) else (au.l0 k a b c d (wrap64 (e + 1)))
def au.l1 : Nat → ByteArray → List Int → Int → Int → Int → Int → Option (List Int × Int)
 | 0, _, _, _, _, _, _ => none
 | k + 1, a, b, c, d, e, f => if f < (b.length : Int) then (if 0 ≤ f then (au.l1 k a (b.set (f : Int).toNat (Go.bits .and .u64 (IntKind.u64.wrap ((IntKind.u64.wrap ((rd b f) * c)) + e)) 4294967295)) c d ((IntKind.u64.wrap ((IntKind.u64.wrap ((rd b f) * c)) + e)) / 4294967296) (wrap64 (f + 1))) else (none)) else (if e > 0 then (if b.length < 17592186044416 then (au.l0 k a (b ++ [e]) 0 1 (wrap64 (d + 1))) else (none)) else (au.l0 k a b 0 1 (wrap64 (d + 1))))
end
def au.f (k : Nat) (a : ByteArray) : Option (List Int × Int) := if (a.size : Int) > 20000 then (some (([] : List Int), 5)) else (if (a.size : Int) = 0 then (some (([] : List Int), 8)) else (if 0 ≤ (wrap64 ((wrap64 ((a.size : Int) / 9)) + 2)) then (if (wrap64 ((wrap64 ((a.size : Int) / 9)) + 2) : Int).toNat ≤ 35184372088832 then (au.l0 k a (([] : List Int)) 0 1 0) else (none)) else (none)))
def dJ.f (a : Int) (b : Int) : Option (Int) := (bK.f a b 0 0).bind fun c => (some c)
def aK.l0 : Nat → List Int → Int → Option (Int)
 | 0, _, _ => none
 | k + 1, a, b => if b > 0 then (if 0 ≤ (wrap64 (b - 1)) then (if (wrap64 (b - 1)) < (a.length : Int) then (if (rd a (wrap64 (b - 1))) = 0 then (aK.l0 k a (wrap64 (b - 1))) else (some b)) else (none)) else (none)) else (some b)
def aK.f (k : Nat) (a : List Int) : Option (Int) := aK.l0 k a (a.length : Int)
def bf.l0 : Nat → List Int → Int → List Int → Int → Option (List Int)
 | 0, _, _, _, _ => none
 | k + 1, a, b, c, d => if d < b then (if 0 ≤ d then (if d < (a.length : Int) then (if 0 ≤ (wrap64 (2 * d)) then (if (wrap64 (2 * d)) < (c.length : Int) then (if 0 ≤ (wrap64 ((wrap64 (2 * d)) + 1)) then (if (wrap64 ((wrap64 (2 * d)) + 1)) < (c.length : Int) then (bf.l0 k a b ((c.set ((wrap64 (2 * d)) : Int).toNat (Go.bits .and .u64 (rd a d) 4294967295)).set ((wrap64 ((wrap64 (2 * d)) + 1)) : Int).toNat ((rd a d) / 4294967296)) (wrap64 (d + 1))) else (none)) else (none)) else (none)) else (none)) else (none)) else (none)) else (some c)
def bf.f (k : Nat) (a : List Int) : Option (List Int) := (aK.f k a).bind fun b => (if 0 ≤ (wrap64 (2 * b)) then (if (wrap64 (2 * b) : Int).toNat ≤ 35184372088832 then (bf.l0 k a b (List.replicate (wrap64 (2 * b) : Int).toNat 0) 0) else (none)) else (none))
mutual
def aj.l0 : Nat → List Int → List Int → Int → Option (ByteArray × Int)
 | 0, _, _, _ => none
 | k + 1, a, b, c => if c > 0 then (aj.l1 k a b c 0 (wrap64 (c - 1))) else (if 0 ≤ (b.length : Int) then (if ((b.length : Int) : Int).toNat ≤ 281474976710656 then (aj.l4 k b (List.replicate ((b.length : Int) : Int).toNat 0) 0) else (none)) else (none))
def aj.l1 : Nat → List Int → List Int → Int → Int → Int → Option (ByteArray × Int)
 | 0, _, _, _, _, _ => none
 | k + 1, a, b, c, d, e => if e ≥ 0 then (if 0 ≤ e then (if e < (a.length : Int) then (aj.l1 k (a.set (e : Int).toNat (IntKind.u64.wrap (Int.tdiv (Go.bits .or .u64 (IntKind.u64.wrap (d * 4294967296)) (rd a e)) 1000000000))) b c (Int.tmod (Go.bits .or .u64 (IntKind.u64.wrap (d * 4294967296)) (rd a e)) 1000000000) (wrap64 (e - 1))) else (none)) else (none)) else (aj.l2 k a b c d)
def aj.j3 : Nat → List Int → List Int → Int → Int → Option (ByteArray × Int)
 | 0, _, _, _, _ => none
 | k + 1, a, b, c, d => aj.l3 k a b c d 0
def aj.l3 : Nat → List Int → List Int → Int → Int → Int → Option (ByteArray × Int)
 | 0, _, _, _, _, _ => none
 | k + 1, a, b, c, d, e => if e < 9 then (if c > 0 then (if b.length < 140737488355328 then (aj.l3 k a (b ++ [(IntKind.u64.wrap (48 + (Int.tmod d 10))) % 256]) c (IntKind.u64.wrap (Int.tdiv d 10)) (wrap64 (e + 1))) else (none)) else (if d > 0 then (if b.length < 140737488355328 then (aj.l3 k a (b ++ [(IntKind.u64.wrap (48 + (Int.tmod d 10))) % 256]) c (IntKind.u64.wrap (Int.tdiv d 10)) (wrap64 (e + 1))) else (none)) else (aj.l0 k a b c))) else (aj.l0 k a b c)
def aj.l2 : Nat → List Int → List Int → Int → Int → Option (ByteArray × Int)
 | 0, _, _, _, _ => none
 | k + 1, a, b, c, d => if c > 0 then (if 0 ≤ (wrap64 (c - 1)) then (if (wrap64 (c - 1)) < (a.length : Int) then (if (rd a (wrap64 (c - 1))) = 0 then (aj.l2 k a b (wrap64 (c - 1)) d) else (aj.j3 k a b c d)) else (none)) else (none)) else (aj.j3 k a b c d)
def aj.l4 : Nat → List Int → List Int → Int → Option (ByteArray × Int)
 | 0, _, _, _ => none
 | k + 1, a, b, c => if c < (a.length : Int) then (if 0 ≤ (wrap64 ((wrap64 ((a.length : Int) - 1)) - c)) then (if (wrap64 ((wrap64 ((a.length : Int) - 1)) - c)) < (a.length : Int) then (if 0 ≤ c then (if c < (b.length : Int) then (aj.l4 k a (b.set (c : Int).toNat (rd a (wrap64 ((wrap64 ((a.length : Int) - 1)) - c)))) (wrap64 (c + 1))) else (none)) else (none)) else (none)) else (none)) else (some (strOfNums b, 0))
end
def aj.f (k : Nat) (a : List Int) : Option (ByteArray × Int) := (aK.f k a).bind fun b => (if b > 1024 then (some ((⟨#[]⟩ : ByteArray), 5)) else ((aK.f k a).bind fun c => (if c = 0 then (some ((⟨#[48]⟩ : ByteArray), 0)) else ((bf.f k a).bind fun d => (aj.l0 k d ([] : List Int) (d.length : Int))))))
mutual
def aG.l0 : Nat → List Int → List Int → List Int → Int → Option (List Int)
 | 0, _, _, _, _ => none
 | k + 1, a, b, c, d => if d < (a.length : Int) then (aG.l1 k a b c d 0 0) else ((bg.f k c).bind fun e => (some e))
def aG.l1 : Nat → List Int → List Int → List Int → Int → Int → Int → Option (List Int)
 | 0, _, _, _, _, _, _ => none
 | k + 1, a, b, c, d, e, f => if f < (b.length : Int) then (if 0 ≤ d then (if d < (a.length : Int) then (if 0 ≤ f then (if 0 ≤ (wrap64 (d + f)) then (if (wrap64 (d + f)) < (c.length : Int) then (aG.l1 k a b (c.set ((wrap64 (d + f)) : Int).toNat (Go.bits .and .u64 (IntKind.u64.wrap ((IntKind.u64.wrap ((IntKind.u64.wrap ((rd a d) * (rd b f))) + (rd c (wrap64 (d + f))))) + e)) 4294967295)) d ((IntKind.u64.wrap ((IntKind.u64.wrap ((IntKind.u64.wrap ((rd a d) * (rd b f))) + (rd c (wrap64 (d + f))))) + e)) / 4294967296) (wrap64 (f + 1))) else (none)) else (none)) else (none)) else (none)) else (none)) else (if (b.length : Int) > 0 then (if 0 ≤ (wrap64 (d + (b.length : Int))) then (if (wrap64 (d + (b.length : Int))) < (c.length : Int) then (aG.l0 k a b (c.set ((wrap64 (d + (b.length : Int))) : Int).toNat e) (wrap64 (d + 1))) else (none)) else (none)) else (aG.l0 k a b c (wrap64 (d + 1))))
end
def aG.f (k : Nat) (a : List Int) (b : List Int) : Option (List Int) := (bf.f k a).bind fun c => ((bf.f k b).bind fun d => (if 0 ≤ (wrap64 ((c.length : Int) + (d.length : Int))) then (if (wrap64 ((c.length : Int) + (d.length : Int)) : Int).toNat ≤ 35184372088832 then (aG.l0 k c d (List.replicate (wrap64 ((c.length : Int) + (d.length : Int)) : Int).toNat 0) 0) else (none)) else (none)))
def dS.f (k : Nat) (a : List Int) (b : List Int) : Option (List Int) := (aG.f k a b).bind fun c => (some c)
mutual
def aH.j0 : Nat → Int → Int → Bool → Option (List Int × Int)
 | 0, _, _, _ => none
 | k + 1, a, b, c => if c = true then (some (([] : List Int), 7)) else (aH.l0 k a b (([1] : List Int)) 0)
def aH.l0 : Nat → Int → Int → List Int → Int → Option (List Int × Int)
 | 0, _, _, _, _ => none
 | k + 1, a, b, c, d => if d < b then (aH.j2 k a b c d (a != 1)) else (aH.j2 k a b c d false)
def aH.j2 : Nat → Int → Int → List Int → Int → Bool → Option (List Int × Int)
 | 0, _, _, _, _, _ => none
 | k + 1, a, b, c, d, e => if e = true then ((aG.f k c (([a] : List Int))).bind fun f => (if (f.length : Int) > 1024 then (some (([] : List Int), 5)) else (if (f.length : Int) = 0 then (some (f, 0)) else (aH.l0 k a b f (wrap64 (d + 1)))))) else (some (c, 0))
end
def aH.f (k : Nat) (a : Int) (b : Int) : Option (List Int × Int) := if b < 0 then (aH.j0 k a b true) else (aH.j0 k a b (decide (b > 20000)))
def dU.f (k : Nat) (a : Int) : Option (List Int) := (aH.f k 10 a).bind fun b => (some b.1)
def aY.l0 : Nat → Int → Int → Int → Option (Int)
 | 0, _, _, _ => none
 | k + 1, a, b, c => if c > 0 then (aY.l0 k a (wrap64 (b + 1)) (c / 2)) else (some (wrap64 ((wrap64 (64 * (wrap64 (a - 1)))) + b)))
def aY.f (k : Nat) (a : List Int) : Option (Int) := (aK.f k a).bind fun b => (if b = 0 then (some 0) else (if 0 ≤ (wrap64 (b - 1)) then (if (wrap64 (b - 1)) < (a.length : Int) then (aY.l0 k b 0 (rd a (wrap64 (b - 1)))) else (none)) else (none)))
def b_.f (a : Bool) : Option (Int) := if a = true then (some 1) else (some 0)
def bF.l0 : Nat → List Int → Int → Int → List Int → Int → Option (List Int)
 | 0, _, _, _, _, _ => none
 | k + 1, a, b, c, d, e => if e < c then (if 0 ≤ (wrap64 (e + (wrap64 (Int.tdiv b 64)))) then (if (wrap64 (e + (wrap64 (Int.tdiv b 64)))) < (d.length : Int) then (if 0 ≤ e then (if e < (a.length : Int) then (if 0 ≤ (IntKind.u64.wrap (Int.tmod b 64)) then ((some (d.set ((wrap64 (e + (wrap64 (Int.tdiv b 64)))) : Int).toNat (Go.bits .or .u64 (rd d (wrap64 (e + (wrap64 (Int.tdiv b 64))))) (shl .u64 (rd a e) (IntKind.u64.wrap (Int.tmod b 64)))) : List Int)).bind fun f => (if (Int.tmod b 64) > 0 then (if 0 ≤ (IntKind.u64.wrap (wrap64 (64 - (Int.tmod b 64)))) then (if 0 ≤ (wrap64 ((wrap64 (e + (wrap64 (Int.tdiv b 64)))) + 1)) then (if (wrap64 ((wrap64 (e + (wrap64 (Int.tdiv b 64)))) + 1)) < (d.length : Int) then (bF.l0 k a b c (f.set ((wrap64 ((wrap64 (e + (wrap64 (Int.tdiv b 64)))) + 1)) : Int).toNat (shr .u64 (rd a e) (IntKind.u64.wrap (wrap64 (64 - (Int.tmod b 64)))))) (wrap64 (e + 1))) else (none)) else (none)) else (none)) else (bF.l0 k a b c f (wrap64 (e + 1))))) else (none)) else (none)) else (none)) else (none)) else (none)) else ((bI.f d).bind fun g => (some g))
def bF.f (k : Nat) (a : List Int) (b : Int) : Option (List Int) := (aK.f k a).bind fun c => (if 0 ≤ (wrap64 ((wrap64 (c + (wrap64 (Int.tdiv b 64)))) + 1)) then (if (wrap64 ((wrap64 (c + (wrap64 (Int.tdiv b 64)))) + 1) : Int).toNat ≤ 35184372088832 then (bF.l0 k a b c (List.replicate (wrap64 ((wrap64 (c + (wrap64 (Int.tdiv b 64)))) + 1) : Int).toNat 0) 0) else (none)) else (none))
def dM.f (k : Nat) (a : List Int) (b : Int) : Option (List Int) := (bF.f k a b).bind fun c => (some c)
def dQ.f (a : List Int) (b : Int) : Option (Int) := if b < (a.length : Int) then (if 0 ≤ b then (some (rd a b)) else (none)) else (some 0)
mutual
def aJ.j0 : Nat → List Int → List Int → Int → Option (List Int)
 | 0, _, _, _ => none
 | k + 1, a, b, c => if 0 ≤ (wrap64 (c + 1)) then (if (wrap64 (c + 1) : Int).toNat ≤ 35184372088832 then (aJ.l0 k a b c (List.replicate (wrap64 (c + 1) : Int).toNat 0) 0 0) else (none)) else (none)
def aJ.l0 : Nat → List Int → List Int → Int → List Int → Int → Int → Option (List Int)
 | 0, _, _, _, _, _, _ => none
 | k + 1, a, b, c, d, e, f => if f < c then ((dQ.f a f).bind fun g => ((dQ.f b f).bind fun i => (if (IntKind.u64.wrap (g + i)) < g then (if 0 ≤ f then (if f < (d.length : Int) then (aJ.l0 k a b c (d.set (f : Int).toNat (IntKind.u64.wrap ((IntKind.u64.wrap (g + i)) + e))) 1 (wrap64 (f + 1))) else (none)) else (none)) else (if (IntKind.u64.wrap ((IntKind.u64.wrap (g + i)) + e)) < (IntKind.u64.wrap (g + i)) then (if 0 ≤ f then (if f < (d.length : Int) then (aJ.l0 k a b c (d.set (f : Int).toNat (IntKind.u64.wrap ((IntKind.u64.wrap (g + i)) + e))) 1 (wrap64 (f + 1))) else (none)) else (none)) else (if 0 ≤ f then (if f < (d.length : Int) then (aJ.l0 k a b c (d.set (f : Int).toNat (IntKind.u64.wrap ((IntKind.u64.wrap (g + i)) + e))) 0 (wrap64 (f + 1))) else (none)) else (none)))))) else (if 0 ≤ c then (if c < (d.length : Int) then ((bI.f (d.set (c : Int).toNat e)).bind fun j => (some j)) else (none)) else (none))
end
def aJ.f (k : Nat) (a : List Int) (b : List Int) : Option (List Int) := (aK.f k a).bind fun c => ((aK.f k b).bind fun d => (if d > c then ((aK.f k b).bind fun e => (aJ.j0 k a b e)) else (aJ.j0 k a b c)))
def bn.l0 : Nat → List Int → List Int → Int → Option (Int)
 | 0, _, _, _ => none
 | k + 1, a, b, c => if c ≥ 0 then (if 0 ≤ c then (if c < (a.length : Int) then (if c < (b.length : Int) then (if (rd a c) < (rd b c) then (some (-1)) else (if (rd a c) > (rd b c) then (some 1) else (bn.l0 k a b (wrap64 (c - 1))))) else (none)) else (none)) else (none)) else (some 0)
def bn.f (k : Nat) (a : List Int) (b : List Int) : Option (Int) := (aK.f k a).bind fun c => ((aK.f k b).bind fun d => (if c = d then (bn.l0 k a b (wrap64 (d - 1))) else (if c < d then (some (-1)) else (some 1))))
def dN.f (a : List Int) (b : Int) : Option (Int) := if b < 0 then (some 0) else (if (wrap64 (Int.tdiv b 64)) ≥ (a.length : Int) then (some 0) else (if 0 ≤ (wrap64 (Int.tdiv b 64)) then (if (wrap64 (Int.tdiv b 64)) < (a.length : Int) then (if 0 ≤ (IntKind.u64.wrap (Int.tmod b 64)) then (some (Go.bits .and .u64 (shr .u64 (rd a (wrap64 (Int.tdiv b 64))) (IntKind.u64.wrap (Int.tmod b 64))) 1)) else (none)) else (none)) else (none)))
def bD.l0 : Nat → List Int → Int → Int → List Int → Int → Option (List Int)
 | 0, _, _, _, _, _ => none
 | k + 1, a, b, c, d, e => if e < (d.length : Int) then (if 0 ≤ (wrap64 (e + (wrap64 (Int.tdiv b 64)))) then (if (wrap64 (e + (wrap64 (Int.tdiv b 64)))) < (a.length : Int) then (if 0 ≤ (IntKind.u64.wrap (Int.tmod b 64)) then (if 0 ≤ e then ((some (d.set (e : Int).toNat (shr .u64 (rd a (wrap64 (e + (wrap64 (Int.tdiv b 64))))) (IntKind.u64.wrap (Int.tmod b 64))) : List Int)).bind fun f => (if (Int.tmod b 64) > 0 then (if (wrap64 ((wrap64 (e + (wrap64 (Int.tdiv b 64)))) + 1)) < c then (if 0 ≤ (wrap64 ((wrap64 (e + (wrap64 (Int.tdiv b 64)))) + 1)) then (if (wrap64 ((wrap64 (e + (wrap64 (Int.tdiv b 64)))) + 1)) < (a.length : Int) then (if 0 ≤ (IntKind.u64.wrap (wrap64 (64 - (Int.tmod b 64)))) then (bD.l0 k a b c (f.set (e : Int).toNat (Go.bits .or .u64 (rd f e) (shl .u64 (rd a (wrap64 ((wrap64 (e + (wrap64 (Int.tdiv b 64)))) + 1))) (IntKind.u64.wrap (wrap64 (64 - (Int.tmod b 64))))))) (wrap64 (e + 1))) else (none)) else (none)) else (none)) else (bD.l0 k a b c f (wrap64 (e + 1)))) else (bD.l0 k a b c f (wrap64 (e + 1))))) else (none)) else (none)) else (none)) else (none)) else ((bI.f d).bind fun g => (some g))
def bD.f (k : Nat) (a : List Int) (b : Int) : Option (List Int) := (aY.f k a).bind fun c => (if b ≥ c then (some ([] : List Int)) else ((aK.f k a).bind fun d => (if 0 ≤ (wrap64 (d - (wrap64 (Int.tdiv b 64)))) then (if (wrap64 (d - (wrap64 (Int.tdiv b 64))) : Int).toNat ≤ 35184372088832 then (bD.l0 k a b d (List.replicate (wrap64 (d - (wrap64 (Int.tdiv b 64))) : Int).toNat 0) 0) else (none)) else (none))))
def aX.l0 : Nat → List Int → List Int → Int → List Int → Int → Int → Option (List Int)
 | 0, _, _, _, _, _, _ => none
 | k + 1, a, b, c, d, e, f => if f < c then (if 0 ≤ f then (if f < (a.length : Int) then ((dQ.f b f).bind fun g => (if f < (d.length : Int) then ((some (d.set (f : Int).toNat (IntKind.u64.wrap ((IntKind.u64.wrap ((rd a f) - g)) - e)) : List Int)).bind fun i => (if (rd a f) < g then (aX.l0 k a b c i 1 (wrap64 (f + 1))) else (if (rd a f) = g then (if e = 1 then (aX.l0 k a b c i 1 (wrap64 (f + 1))) else (aX.l0 k a b c i 0 (wrap64 (f + 1)))) else (aX.l0 k a b c i 0 (wrap64 (f + 1)))))) else (none))) else (none)) else (none)) else ((bI.f d).bind fun j => (some j))
def aX.f (k : Nat) (a : List Int) (b : List Int) : Option (List Int) := (aK.f k a).bind fun c => (if 0 ≤ c then (if (c : Int).toNat ≤ 35184372088832 then (aX.l0 k a b c (List.replicate (c : Int).toNat 0) 0 0) else (none)) else (none))
mutual
def aI.l0 : Nat → List Int → List Int → List Int → List Int → Int → Option (List Int × List Int)
 | 0, _, _, _, _, _ => none
 | k + 1, a, b, c, d, e => if e ≥ 0 then ((bF.f k d 1).bind fun f => ((dN.f a e).bind fun g => (if g = 1 then ((aJ.f k f (([1] : List Int))).bind fun i => (aI.j1 k a b c i e)) else (aI.j1 k a b c f e)))) else ((bI.f c).bind fun j => (some (j, d)))
def aI.j1 : Nat → List Int → List Int → List Int → List Int → Int → Option (List Int × List Int)
 | 0, _, _, _, _, _ => none
 | k + 1, a, b, c, d, e => (bn.f k d b).bind fun f => (if f ≥ 0 then ((aX.f k d b).bind fun g => (if 0 ≤ (wrap64 (Int.tdiv e 64)) then (if (wrap64 (Int.tdiv e 64)) < (c.length : Int) then (if 0 ≤ (IntKind.u64.wrap (Int.tmod e 64)) then (aI.l0 k a b (c.set ((wrap64 (Int.tdiv e 64)) : Int).toNat (Go.bits .or .u64 (rd c (wrap64 (Int.tdiv e 64))) (shl .u64 1 (IntKind.u64.wrap (Int.tmod e 64))))) g (wrap64 (e - 1))) else (none)) else (none)) else (none))) else (aI.l0 k a b c d (wrap64 (e - 1))))
end
def aI.f (k : Nat) (a : List Int) (b : List Int) : Option (List Int × List Int) := (aY.f k a).bind fun c => ((aY.f k b).bind fun d => (if c < d then ((bI.f a).bind fun e => (some (([] : List Int), e))) else ((aK.f k a).bind fun f => (if 0 ≤ f then (if (f : Int).toNat ≤ 35184372088832 then ((bD.f k a (wrap64 ((wrap64 (c - d)) + 1))).bind fun g => (aI.l0 k a b (List.replicate (f : Int).toNat 0) g (wrap64 (c - d)))) else (none)) else (none)))))
def dD.f (k : Nat) (a : List Int) (b : List Int) : Option (List Int × List Int) := (aI.f k a b).bind fun c => (some (c.1, c.2))
def bT.f (k : Nat) (a : Bool) (b : List Int) (c : List Int) (d : Int) (e : Int) : Option (List Int × Int) := if d ≥ e then ((dM.f k b (wrap64 (d - e))).bind fun f => ((dD.f k f c).bind fun g => (if (g.2.length : Int) = 0 then (some (g.1, 0)) else ((dM.f k g.2 1).bind fun i => ((bn.f k i c).bind fun j => (some (g.1, wrap64 (2 + j)))))))) else ((dM.f k c (wrap64 (e - d))).bind fun m => ((dD.f k b m).bind fun n => (if (n.2.length : Int) = 0 then (some (n.1, 0)) else ((dM.f k n.2 1).bind fun o => ((bn.f k o m).bind fun p => (some (n.1, wrap64 (2 + p))))))))
def eU.f (k : Nat) (a : Bool) (b : List Int) (c : List Int) (d : Int) : Option (Int) := (aY.f k b).bind fun e => ((aY.f k c).bind fun f => ((bT.f k a b c d (wrap64 ((wrap64 (e - f)) + d))).bind fun g => (if (g.1.length : Int) = 0 then (some (wrap64 ((wrap64 ((wrap64 (e - f)) + d)) - 1))) else (some (wrap64 ((wrap64 (e - f)) + d))))))
def dw.f (k : Nat) (a : Int) (b : Bool) (c : List Int) (d : Int) : Option (List Int) := (dN.f c 0).bind fun e => (if a = 0 then (if d = 3 then (if d > 0 then ((aJ.f k c (([1] : List Int))).bind fun f => (some f)) else (some c)) else (if d = 2 then (if d > 0 then (if e = 1 then ((aJ.f k c (([1] : List Int))).bind fun g => (some g)) else (some c)) else (some c)) else (if d > 0 then (some c) else (some c)))) else (if a = 1 then (if d > 0 then (if d ≥ 2 then ((aJ.f k c (([1] : List Int))).bind fun i => (some i)) else (some c)) else (some c)) else (if a = 3 then (if d > 0 then (if b = true then (some c) else ((aJ.f k c (([1] : List Int))).bind fun j => (some j))) else (some c)) else (if a = 4 then (if d > 0 then (if b = true then ((aJ.f k c (([1] : List Int))).bind fun m => (some m)) else (some c)) else (some c)) else (if a = 5 then (if d > 0 then (if e = 1 then (some c) else ((aJ.f k c (([1] : List Int))).bind fun n => (some n))) else (some c)) else (if d > 0 then (some c) else (some c)))))))
def dG.f (a : Int) (b : Int) : Option (Int) := (bJ.f a).bind fun c => (if 0 ≤ (IntKind.u64.wrap (wrap64 (c.2.1 - 1))) then ((bK.f a b (IntKind.u64.wrap (wrap64 (2 * c.2.2.2.1))) (IntKind.u64.wrap ((shl .u64 1 (IntKind.u64.wrap (wrap64 (c.2.1 - 1)))) - 1))).bind fun d => (some d)) else (none))
def aV.j0 : Nat → Int → Bool → Bool → Option (Int)
 | 0, _, _, _ => none
 | k + 1, a, b, c => if c = true then ((b_.f b).bind fun d => ((dR.f a d).bind fun e => (some e))) else ((b_.f b).bind fun f => ((dG.f a f).bind fun g => (some g)))
def aV.f (k : Nat) (a : Int) (b : Int) (c : Bool) : Option (Int) := if b = 0 then (aV.j0 k a c true) else (if b = 1 then (aV.j0 k a c true) else (if b = 3 then (if c = true then (if b = 4 then (aV.j0 k a c c) else (aV.j0 k a c false)) else (aV.j0 k a c true)) else (if b = 4 then (aV.j0 k a c c) else (aV.j0 k a c false))))
mutual
def aN.j0 : Nat → Int → Int → Int → Int → Int → Bool → List Int → List Int → Int → Int → Int → Int → Int → Option (Int × Int)
 | 0, _, _, _, _, _, _, _, _, _, _, _, _, _ => none
 | k + 1, a, b, c, d, e, f, g, i, j, m, n, o, p => (bT.f k f g i j e).bind fun q => ((dw.f k b f q.1 q.2).bind fun t => ((aY.f k t).bind fun u => (if (wrap64 (u + e)) > (wrap64 (p + 1)) then ((aV.f k a b f).bind fun v => (some (v, 20))) else (if q.2 > 0 then ((bT.f k f g i j (wrap64 ((wrap64 (c - n)) + 1))).bind fun w => ((dw.f k b f w.1 w.2).bind fun x => ((aY.f k x).bind fun y => (if (wrap64 ((wrap64 ((wrap64 (y + c)) - n)) + 1)) ≤ o then (aN.j1 k a d e t 24 f g i j m n o p) else (aN.j1 k a d e t 16 f g i j m n o p))))) else (aN.j1 k a d e t 0 f g i j m n o p)))))
def aN.j1 : Nat → Int → Int → Int → List Int → Int → Bool → List Int → List Int → Int → Int → Int → Int → Int → Option (Int × Int)
 | 0, _, _, _, _, _, _, _, _, _, _, _, _, _ => none
 | k + 1, a, b, c, d, e, f, g, i, j, m, n, o, p => if (d.length : Int) > 0 then (if 0 < (d.length : Int) then ((b_.f f).bind fun q => ((bK.f a q 0 0).bind fun t => (if 0 ≤ (IntKind.u64.wrap (wrap64 (n - 1))) then (some (Go.bits .or .u64 t (IntKind.u64.wrap ((shl .u64 (IntKind.u64.wrap (wrap64 (c - b))) (IntKind.u64.wrap (wrap64 (n - 1)))) + (rd d 0))), e)) else (none)))) else (none)) else ((b_.f f).bind fun u => ((bK.f a u 0 0).bind fun v => (if 0 ≤ (IntKind.u64.wrap (wrap64 (n - 1))) then (some (Go.bits .or .u64 v (IntKind.u64.wrap ((shl .u64 (IntKind.u64.wrap (wrap64 (c - b))) (IntKind.u64.wrap (wrap64 (n - 1)))) + 0)), e)) else (none))))
end
def aN.f (k : Nat) (a : Int) (b : Int) (c : Bool) (d : List Int) (e : List Int) (f : Int) : Option (Int × Int) := (bI.f d).bind fun g => (if (g.length : Int) = 0 then ((b_.f c).bind fun i => ((dJ.f a i).bind fun j => (some (j, 0)))) else ((bJ.f a).bind fun m => ((eU.f k c d e f).bind fun n => (if (wrap64 ((wrap64 (n - m.2.1)) + 1)) < (wrap64 ((wrap64 (m.2.2.1 - m.2.1)) + 1)) then (aN.j0 k a b n (wrap64 ((wrap64 (m.2.2.1 - m.2.1)) + 1)) (wrap64 ((wrap64 (m.2.2.1 - m.2.1)) + 1)) c d e f m.1 m.2.1 m.2.2.1 m.2.2.2.1) else (aN.j0 k a b n (wrap64 ((wrap64 (m.2.2.1 - m.2.1)) + 1)) (wrap64 ((wrap64 (n - m.2.1)) + 1)) c d e f m.1 m.2.1 m.2.2.1 m.2.2.2.1)))))
def bC.j0 : Nat → Int → Int → Bool → Int → Bool → Bool → Bool → ByteArray → Int → Option (Int × Int × Int)
 | 0, _, _, _, _, _, _, _, _, _ => none
 | k + 1, a, b, c, d, e, f, g, i, j => if c = true then (if g = true then ((eG.f a).bind fun m => (some (m, 0, 0))) else (if f = true then ((dR.f a d).bind fun n => (some (n, 0, 0))) else ((au.f k i).bind fun o => (if (o.1.length : Int) = 0 then ((dJ.f a d).bind fun p => (some (p, 0, 0))) else ((aj.f k o.1).bind fun q => (if (wrap64 ((mx (-500) (mn (wrap64 ((wrap64 ((q.1.size : Int) - 1)) + j)) 500)) - (wrap64 ((q.1.size : Int) - 1)))) ≥ 0 then ((dU.f k (wrap64 ((mx (-500) (mn (wrap64 ((wrap64 ((q.1.size : Int) - 1)) + j)) 500)) - (wrap64 ((q.1.size : Int) - 1))))).bind fun t => ((dS.f k o.1 t).bind fun u => ((aN.f k a b e u (([1] : List Int)) 0).bind fun v => (some (v.1, v.2, 0))))) else ((dU.f k (wrap64 (-(wrap64 ((mx (-500) (mn (wrap64 ((wrap64 ((q.1.size : Int) - 1)) + j)) 500)) - (wrap64 ((q.1.size : Int) - 1))))))).bind fun w => ((aN.f k a b e o.1 w 0).bind fun x => (some (x.1, x.2, 0)))))))))) else (some (0, 0, 8))
def bC.f (k : Nat) (a : Int) (b : Int) (c : ByteArray) : Option (Int × Int × Int) := (aQ.f k a b ([] : List Int)).bind fun d => (if d = 0 then (if (c.size : Int) > 2000 then (some (0, 0, 5)) else ((ah.f k c).bind fun e => (if e.1 = true then (bC.j0 k a b e.2.2.2.2.2 1 e.1 e.2.1 e.2.2.1 e.2.2.2.1 e.2.2.2.2.1) else (bC.j0 k a b e.2.2.2.2.2 0 e.1 e.2.1 e.2.2.1 e.2.2.2.1 e.2.2.2.2.1)))) else (some (0, 0, d)))
def dn.f (a : Int) (b : Int) : Option (Int) := (bU.f a).bind fun c => (if c.2.2.2.2 = 0 then (if c.1 < 64 then (if 0 ≤ c.1 then (if (shr .u64 b c.1) = 0 then (some 0) else (some 4)) else (none)) else (some 0)) else (some c.2.2.2.2))
mutual
def bM.j0 : Nat → Int → Bool → Int → Int → ByteArray → Int → Int → Int → Int → Option (Bool × Int × Int × Int × ByteArray)
 | 0, _, _, _, _, _, _, _, _, _ => none
 | k + 1, a, b, c, d, e, f, g, i, j => if a = 1 then (bM.j1 k b c d e a (a == 1) f g i j) else (bM.j1 k b c d e a (a == 0) f g i j)
def bM.j1 : Nat → Bool → Int → Int → ByteArray → Int → Bool → Int → Int → Int → Int → Option (Bool × Int × Int × Int × ByteArray)
 | 0, _, _, _, _, _, _, _, _, _, _ => none
 | k + 1, a, b, c, d, e, f, g, i, j, m => if f = true then (some (false, 0, 0, 0, (⟨#[110, 97, 110]⟩ : ByteArray))) else (if e = 2 then (bM.j2 k a b c d e (e == 2) g i j m) else (bM.j2 k a b c d e (e == 9) g i j m))
def bM.j2 : Nat → Bool → Int → Int → ByteArray → Int → Bool → Int → Int → Int → Int → Option (Bool × Int × Int × Int × ByteArray)
 | 0, _, _, _, _, _, _, _, _, _, _ => none
 | k + 1, a, b, c, d, e, f, g, i, j, m => if f = true then (if d.size + 3 ≤ 9223372036854775807 then (some (false, 0, 0, 0, d ++ (⟨#[105, 110, 102]⟩ : ByteArray))) else (none)) else (if e = 5 then (if d.size + 1 ≤ 9223372036854775807 then (some (false, 0, 0, 0, d ++ (⟨#[48]⟩ : ByteArray))) else (none)) else (if e = 6 then (if d.size + 1 ≤ 9223372036854775807 then (some (false, 0, 0, 0, d ++ (⟨#[48]⟩ : ByteArray))) else (none)) else (if b > 0 then (if 0 ≤ (wrap64 (i - 1)) then (if c = 0 then (if b > 1 then (some (a, Go.bits .or .u64 c (shl .u64 1 (wrap64 (i - 1))), wrap64 ((wrap64 ((wrap64 (j - i)) + 1)) + (wrap64 ((wrap64 (b)) - 1))), 1, (⟨#[]⟩ : ByteArray))) else (some (a, Go.bits .or .u64 c (shl .u64 1 (wrap64 (i - 1))), wrap64 ((wrap64 ((wrap64 (j - i)) + 1)) + (wrap64 ((wrap64 (b)) - 1))), 2, (⟨#[]⟩ : ByteArray)))) else (some (a, Go.bits .or .u64 c (shl .u64 1 (wrap64 (i - 1))), wrap64 ((wrap64 ((wrap64 (j - i)) + 1)) + (wrap64 ((wrap64 (b)) - 1))), 2, (⟨#[]⟩ : ByteArray)))) else (none)) else (some (a, c, wrap64 ((wrap64 (j - i)) + 1), 2, (⟨#[]⟩ : ByteArray))))))
end
def bM.f (k : Nat) (a : Int) (b : Int) : Option (Bool × Int × Int × Int × ByteArray) := (bU.f a).bind fun c => ((jc.f a b).bind fun d => ((iR.f a b).bind fun e => (if e.1 = true then (bM.j0 k d.1 e.1 e.2.1 e.2.2.1 (⟨#[45]⟩ : ByteArray) c.1 c.2.1 c.2.2.1 c.2.2.2.1) else (bM.j0 k d.1 e.1 e.2.1 e.2.2.1 (⟨#[]⟩ : ByteArray) c.1 c.2.1 c.2.2.1 c.2.2.2.1))))
def eu.f (a : Bool) (b : Int) (c : Int) (d : Int) : Option (ByteArray) := if a = true then (some (⟨#[45]⟩ : ByteArray)) else (some (⟨#[]⟩ : ByteArray))
def iy.f (a : ByteArray) (b : Int) : Option (ByteArray) := if b < 0 then ((strings_Repeat.f (⟨#[48]⟩ : ByteArray) (wrap64 ((wrap64 (-b)) - 1))).bind fun c => (if 2 + c.size ≤ 9223372036854775807 then (if ((⟨#[48, 46]⟩ : ByteArray) ++ c).size + a.size ≤ 9223372036854775807 then (some (((⟨#[48, 46]⟩ : ByteArray) ++ c) ++ a)) else (none)) else (none))) else (if b ≥ (wrap64 ((a.size : Int) - 1)) then ((strings_Repeat.f (⟨#[48]⟩ : ByteArray) (wrap64 ((wrap64 (b - (a.size : Int))) + 1))).bind fun d => (if a.size + d.size ≤ 9223372036854775807 then (some (a ++ d)) else (none))) else (if 0 ≤ (wrap64 (b + 1)) then (if (wrap64 (b + 1)) ≤ (a.size : Int) then (if (a.extract 0 ((wrap64 (b + 1)) : Int).toNat).size + 1 ≤ 9223372036854775807 then (if ((a.extract 0 ((wrap64 (b + 1)) : Int).toNat) ++ (⟨#[46]⟩ : ByteArray)).size + (a.extract ((wrap64 (b + 1)) : Int).toNat a.size).size ≤ 9223372036854775807 then (some (((a.extract 0 ((wrap64 (b + 1)) : Int).toNat) ++ (⟨#[46]⟩ : ByteArray)) ++ (a.extract ((wrap64 (b + 1)) : Int).toNat a.size))) else (none)) else (none)) else (none)) else (none)))
def ji.f (a : ByteArray) (b : Int) : Option (ByteArray) := if 0 ≤ 1 then (if 1 ≤ (a.size : Int) then (if (a.size : Int) > 1 then (if 1 + (a.extract 1 a.size).size ≤ 9223372036854775807 then (if (a.extract 0 1).size + ((⟨#[46]⟩ : ByteArray) ++ (a.extract 1 a.size)).size ≤ 9223372036854775807 then (if ((a.extract 0 1) ++ ((⟨#[46]⟩ : ByteArray) ++ (a.extract 1 a.size))).size + 1 ≤ 9223372036854775807 then ((strconv_Itoa.f b).bind fun c => (if (((a.extract 0 1) ++ ((⟨#[46]⟩ : ByteArray) ++ (a.extract 1 a.size))) ++ (⟨#[101]⟩ : ByteArray)).size + c.size ≤ 9223372036854775807 then (some ((((a.extract 0 1) ++ ((⟨#[46]⟩ : ByteArray) ++ (a.extract 1 a.size))) ++ (⟨#[101]⟩ : ByteArray)) ++ c)) else (none))) else (none)) else (none)) else (none)) else (if (a.extract 0 1).size + 1 ≤ 9223372036854775807 then ((strconv_Itoa.f b).bind fun d => (if ((a.extract 0 1) ++ (⟨#[101]⟩ : ByteArray)).size + d.size ≤ 9223372036854775807 then (some (((a.extract 0 1) ++ (⟨#[101]⟩ : ByteArray)) ++ d)) else (none))) else (none))) else (none)) else (none)
def bV.j0 : Nat → ByteArray → Int → Bool → Bool → Int → Int → Int → Option (ByteArray × Int)
 | 0, _, _, _, _, _, _, _ => none
 | k + 1, a, b, c, d, e, f, g => if c = true then ((eu.f d e f g).bind fun i => ((iy.f a b).bind fun j => (if i.size + j.size ≤ 9223372036854775807 then (some (i ++ j, 0)) else (none)))) else ((eu.f d e f g).bind fun m => ((ji.f a b).bind fun n => (if m.size + n.size ≤ 9223372036854775807 then (some (m ++ n, 0)) else (none))))
def bV.f (k : Nat) (a : Int) (b : Int) : Option (ByteArray × Int) := (dn.f a b).bind fun c => (if c = 0 then ((bM.f k a b).bind fun d => (if d.2.2.2.2.toList = ([] : List UInt8) then ((fK.f d.1 d.2.1 d.2.2.1 d.2.2.2.1).bind fun e => (if e.2 ≥ (-5) then (bV.j0 k e.1 e.2 (decide (e.2 ≤ 15)) d.1 d.2.1 d.2.2.1 d.2.2.2.1) else (bV.j0 k e.1 e.2 false d.1 d.2.1 d.2.2.1 d.2.2.2.1))) else (some (d.2.2.2.2, 0)))) else (some ((⟨#[]⟩ : ByteArray), c)))
def dW.f (k : Nat)  : Option (Bool) := (gV.f k 3 0 (⟨#[48, 46, 49]⟩ : ByteArray)).bind fun a => ((bV.f k 0 13653).bind fun b => (if a.1 = 4591870180066957722 then (if a.2.1 = 16 then (if a.2.2 = 0 then (if b.1.toList = ([48, 46, 51, 51, 51, 51] : List UInt8) then (some (b.2 == 0)) else (some false)) else (some false)) else (some false)) else (some false)))
def dA.f (k : Nat) (a : Int) (b : Int) (c : ByteArray) : Option (Bool) := (gV.f k a b c).bind fun d => ((bC.f k a b c).bind fun e => ((dW.f k).bind fun f => (if f = true then (if d.1 = e.1 then (if d.2.1 = e.2.1 then (some (d.2.2 == e.2.2)) else (some false)) else (some false)) else (some false))))
end Go.Proofs.YtafikkmnkeddpaaGreatDoor.P
namespace Go.Proofs.YtafikkmnkeddpaaGreatDoor.P
open Go.RowKit Go.Proofs.YtafikkmnkeddpaaGreatDoorW.PrintWords Go.Proofs.YtafikkmnkeddpaaGreatDoorW.PrintLast Go.Proofs.YtafikkmnkeddpaaGreatDoorW.PrintMore
theorem pO {xs : List Nat} (h : Wd xs) (hl : xs.length ≤ 1000000000) : bI.f (toI xs) = some (wI (val xs)) := by
 unfold bI.f
 rw [if_pos (Ov h hl), QN]
theorem OG {xs : List Nat} (hw : Wd xs) (hl : xs.length ≤ 1000000000) (n : Nat) (hn : n ≤ xs.length) (hz : ∀ k, n ≤ k → xs.getD k 0 = 0) : Ev (fun k => aK.l0 k (toI xs) (n : Int)) ((toW (val xs)).length : Int) := by
 induction n with
 | zero =>
  refine Ev.one fun k => ?_
  rw [aK.l0, if_neg (by omega), ← kY hw 0 hn hz (.inl rfl)]
  simp
 | succ n ih =>
  have e : wrap64 (((n + 1 : Nat) : Int) - 1) = (n : Int) := by rw [w64 (by omega) (by omega)]; omega
  by_cases h0 : xs.getD n 0 = 0
  ·refine Ev.step (f := fun k => aK.l0 k (toI xs) (n : Int)) (fun k => ?_) (ih (by omega) fun k hk => ?_)
   ·rw [aK.l0, if_pos (by omega), e, if_pos (by omega), bQ, if_pos (by omega), jo, if_pos (by rw [h0]; rfl)]
   ·rcases Nat.lt_or_ge n k with h1 | h1
    ·exact hz k h1
    ·rw [show k = n by omega]; exact h0
  ·refine Ev.one fun k => ?_
   rw [aK.l0, if_pos (by omega), e, if_pos (by omega), bQ, if_pos (by omega), jo, if_neg (by omega)]
   rw [← kY hw (n + 1) hn hz (.inr (by simpa using h0)), List.length_take, Nat.min_eq_left hn]
theorem xZ {xs : List Nat} (hw : Wd xs) (hl : xs.length ≤ 1000000000) : Ev (fun k => aK.f k (toI xs)) ((toW (val xs)).length : Int) := by
 unfold aK.f
 rw [bQ]
 exact OG hw hl xs.length (Nat.le_refl _) fun k hk => by rw [List.getD_eq_getElem?_getD, List.getElem?_eq_none hk]; rfl
theorem QU (m : Nat) (hm : m ≤ 1000000000) (x : Nat) : ∀ c : Nat, c + cZ x ≤ 1000000 → Ev (fun k => aY.l0 k (m : Int) (c : Int) (x : Int)) (64 * ((m : Int) - 1) + c + cZ x) := by
 induction x using Nat.strongRecOn with
 | _ x ih =>
  intro c hc
  by_cases h0 : x = 0
  ·subst h0
   refine Ev.one fun k => ?_
   rw [aY.l0, if_neg (by omega), w64 (x := (m : Int) - 1) (by omega) (by omega), w64 (x := 64 * ((m : Int) - 1)) (by omega) (by omega), w64 (by omega) (by omega), o7]
   simp
  ·have hb : cZ x = cZ (x / 2) + 1 := by
    have h1 := jq (x / 2)
    by_cases h2 : x / 2 = 0
    ·have : x = 1 := by omega
     subst this
     decide
    ·have h3 := ng h2
     obtain ⟨b, hb⟩ : ∃ b, cZ (x / 2) = b + 1 := ⟨cZ (x / 2) - 1, by rw [jQ h2]; omega⟩
     rw [hb] at h1 h3 ⊢
     rw [Nat.add_sub_cancel] at h3
     refine qJ ?_ ?_
     ·rw [Nat.pow_succ]; omega
     ·rw [Nat.pow_succ]; omega
   have h1 := ih (x / 2) (by omega) (c + 1) (by omega)
   refine Ev.step (f := fun k => aY.l0 k (m : Int) ((c + 1 : Nat) : Int) ((x / 2 : Nat) : Int)) (fun k => ?_) ?_
   ·rw [aY.l0, if_pos (by omega), w64 (by omega) (by omega)]
    congr 1
   ·rw [hb, show (64 * ((m : Int) - 1) + (c : Int) + ((cZ (x / 2) + 1 : Nat) : Int)) = 64 * ((m : Int) - 1) + ((c + 1 : Nat) : Int) + ((cZ (x / 2) : Nat) : Int) by omega]
    exact h1
theorem QV {xs : List Nat} (hw : Wd xs) (hl : xs.length ≤ 1000000000) : Ev (fun k => aY.f k (toI xs)) (cZ (val xs) : Int) := by
 unfold aY.f
 refine Ev.bind (xZ hw hl) ?_
 have hle := d_ hw
 by_cases h0 : (toW (val xs)).length = 0
 ·refine Ev.pos (by omega) ?_
  rw [(ni _).1 h0]
  exact Ev.now _
 ·obtain ⟨n, hn⟩ : ∃ n, (toW (val xs)).length = n + 1 := ⟨(toW (val xs)).length - 1, by omega⟩
  have hx : (toW (val xs)).getD n 0 = xs.getD n 0 := by
   rw [lY hw, List.getD_eq_getElem?_getD, List.getElem?_take, if_pos (by omega), ← List.getD_eq_getElem?_getD]
  refine Ev.neg (by omega) ?_
  rw [hn, show wrap64 (((n + 1 : Nat) : Int) - 1) = (n : Int) by rw [w64 (by omega) (by omega)]; omega, bQ, jo]
  refine Ev.pos (by omega) (Ev.pos (by omega) ?_)
  have hb : cZ (xs.getD n 0) ≤ 64 := kW (by have := hw.get n; show _ < 18446744073709551616; exact this)
  have := QU (n + 1) (by omega) (xs.getD n 0) 0 (by omega)
  rw [Eh hn, hx, show (((64 * n + cZ (xs.getD n 0) : Nat)) : Int) = 64 * (((n + 1 : Nat) : Int) - 1) + ((0 : Nat) : Int) + ((cZ (xs.getD n 0) : Nat) : Int) by omega]
  exact this
theorem zI (xs : List Nat) (i : Nat) : dQ.f (toI xs) (i : Int) = some ((xs.getD i 0 : Nat) : Int) := by
 unfold dQ.f
 rw [bQ, jo]
 by_cases h : i < xs.length
 ·rw [if_pos (by omega), if_pos (by omega)]
 ·rw [if_neg (by omega), List.getD_eq_getElem?_getD, List.getElem?_eq_none (by omega)]; rfl
theorem QW {xs ys : List Nat} (hx : Wd xs) (hy : Wd ys) (hlx : xs.length ≤ 1000000000) (m : Nat) : ∀ (d : Nat), d ≤ m → m ≤ xs.length → m ≤ ys.length → (∀ j, d ≤ j → j < m → xs.getD j 0 = ys.getD j 0) →
  Ev (fun k => bn.l0 k (toI xs) (toI ys) ((d : Int) - 1)) (lG (val (xs.take m)) (val (ys.take m))) := by
 intro d
 induction d with
 | zero =>
  intro hd h1 h2 he
  refine Ev.one fun k => ?_
  rw [bn.l0, if_neg (by omega)]
  have : xs.take m = ys.take m := by
   refine BI (by simp; omega) fun j => ?_
   rw [List.getD_eq_getElem?_getD, List.getD_eq_getElem?_getD, List.getElem?_take, List.getElem?_take]
   by_cases hj : j < m
   ·rw [if_pos hj, if_pos hj, ← List.getD_eq_getElem?_getD, ← List.getD_eq_getElem?_getD]; exact he j (by omega) hj
   ·rw [if_neg hj, if_neg hj]
  rw [this, uY]
 | succ d ih =>
  intro hd h1 h2 he
  have tk : ∀ (zs : List Nat) j, j < m → (zs.take m).getD j 0 = zs.getD j 0 := fun zs j hj => by
   rw [List.getD_eq_getElem?_getD, List.getElem?_take, if_pos hj, ← List.getD_eq_getElem?_getD]
  have hge : ∀ j, d + 1 ≤ j → (xs.take m).getD j 0 = (ys.take m).getD j 0 := fun j hj => by
   by_cases hjm : j < m
   ·rw [tk xs j hjm, tk ys j hjm]; exact he j hj hjm
   ·rw [List.getD_eq_getElem?_getD, List.getD_eq_getElem?_getD, List.getElem?_take, List.getElem?_take, if_neg hjm, if_neg hjm]
  have e : (((d + 1 : Nat) : Int) - 1) = (d : Int) := by omega
  rw [e]
  by_cases hlt : xs.getD d 0 < ys.getD d 0
  ·refine Ev.one fun k => ?_
   rw [bn.l0, if_pos (by omega), if_pos (by omega), bQ, if_pos (by omega), bQ, if_pos (by omega), jo, jo, if_pos (by omega)]
   rw [nS (tC (hx.take m) (hy.take m) (by simp; omega) d (by simp; omega) hge (by rw [tk _ _ (by omega), tk _ _ (by omega)]; exact hlt))]
  ·by_cases hgt : ys.getD d 0 < xs.getD d 0
   ·refine Ev.one fun k => ?_
    rw [bn.l0, if_pos (by omega), if_pos (by omega), bQ, if_pos (by omega), bQ, if_pos (by omega), jo, jo, if_neg (by omega), if_pos (by omega)]
    rw [qK (tC (hy.take m) (hx.take m) (by simp; omega) d (by simp; omega) (fun j hj => (hge j hj).symm) (by rw [tk _ _ (by omega), tk _ _ (by omega)]; exact hgt))]
   ·refine Ev.step (f := fun k => bn.l0 k (toI xs) (toI ys) ((d : Int) - 1)) (fun k => ?_) (ih (by omega) h1 h2 fun j h3 h4 => ?_)
    ·rw [bn.l0, if_pos (by omega), if_pos (by omega), bQ, if_pos (by omega), bQ, if_pos (by omega), jo, jo, if_neg (by omega), if_neg (by omega), w64 (by omega) (by omega)]
    ·rcases Nat.lt_or_ge d j with h5 | h5
     ·exact he j h5 h4
     ·rw [show j = d by omega]; omega
theorem QX {xs ys : List Nat} (hx : Wd xs) (hy : Wd ys) (hlx : xs.length ≤ 1000000000) (hly : ys.length ≤ 1000000000) : Ev (fun k => bn.f k (toI xs) (toI ys)) (lG (val xs) (val ys)) := by
 unfold bn.f
 refine Ev.bind (xZ hx hlx) (Ev.bind (xZ hy hly) ?_)
 have h1 := d_ hx
 have h2 := d_ hy
 by_cases he : (toW (val xs)).length = (toW (val ys)).length
 ·refine Ev.pos (by omega) ?_
  rw [w64 (by omega) (by omega)]
  have := QW hx hy hlx (toW (val ys)).length (toW (val ys)).length (Nat.le_refl _) (by omega) h2 (fun j h3 h4 => by omega)
  rw [← lY hy, ← he, ← lY hx, dB, dB] at this
  rw [← he]
  exact this
 ·refine Ev.neg (by omega) ?_
  by_cases hlt : (toW (val xs)).length < (toW (val ys)).length
  ·rw [nS (oP hlt)]
   exact Ev.pos (by omega) (Ev.now _)
  ·rw [qK (oP (by omega))]
   exact Ev.neg (by omega) (Ev.now _)
end Go.Proofs.YtafikkmnkeddpaaGreatDoor.P
namespace Go.Proofs.YtafikkmnkeddpaaGreatDoor.P
open Go.RowKit Go.Proofs.YtafikkmnkeddpaaGreatDoorW.PrintWords Go.Proofs.YtafikkmnkeddpaaGreatDoorW.PrintLast Go.Proofs.YtafikkmnkeddpaaGreatDoorW.PrintMore
theorem wue (z : Int) : IntKind.u64.wrap z = z % 18446744073709551616 := IntKind.wrap_u64 z
def nJ (v : Nat) : Prop := (toW v).length ≤ 100000000
theorem nJ.le {v : Nat} (h : nJ v) : (toW v).length ≤ 1000000000 := by unfold nJ at h; omega
theorem nU {v : Nat} (h : nJ v) : Ev (fun k => aK.f k (wI v)) ((toW v).length : Int) := by
 have := xZ (iw v) h.le
 rwa [dB] at this
theorem uq {v : Nat} (h : nJ v) : Ev (fun k => aY.f k (wI v)) (cZ v : Int) := by
 have := QV (iw v) h.le
 rwa [dB] at this
theorem wF {a b : Nat} (h : nJ a) (h' : nJ b) : Ev (fun k => bn.f k (wI a) (wI b)) (lG a b) := by
 have := QX (iw a) (iw b) h.le h'.le
 rwa [dB, dB] at this
theorem OH {k q : Nat} (h : k < 1000000000000000000) (h' : q < 1000000000000000000) : wrap64 ((k : Int) + (q : Int)) = ((q + k : Nat) : Int) := by rw [w64 (by omega) (by omega)]; omega
theorem LD {n : Nat} (h : n < 1000000000000000000) : wrap64 (Int.tdiv (n : Int) 64) = ((n / 64 : Nat) : Int) := by rw [Int.tdiv_eq_ediv_of_nonneg (by omega), w64 (by omega) (by omega)]; omega
theorem F6 (n : Nat) : Int.tmod (n : Int) 64 = ((n % 64 : Nat) : Int) := by rw [Int.tmod_eq_emod_of_nonneg (by omega)]; omega
theorem Qp {s : Nat} (h : s < 64) : IntKind.u64.wrap (wrap64 (64 - (s : Int))) = ((64 - s : Nat) : Int) := by rw [w64 (by omega) (by omega), wu64 (by omega) (by omega)]; omega
theorem zJ {W a : Nat} (h1 : W ≤ a) (h2 : a < 2 * W) : a % W = a - W := by rw [Nat.mod_eq_sub_mod h1, Nat.mod_eq_of_lt (by omega)]
theorem Qq {W a : Nat} (h1 : 2 * W ≤ a) (h2 : a < 3 * W) : a % W = a - 2 * W := by rw [Nat.mod_eq_sub_mod (by omega), zJ (by omega) (by omega)]; omega
theorem SS {W x y b : Nat} (hx : x < W) (hy : y < W) (hb : b ≤ 1) (h : (x + y) % W < x) : x + y + b = (x + y + b) % W + 1 * W := by
 rcases Nat.lt_or_ge (x + y) W with h1 | h1
 ·rw [Nat.mod_eq_of_lt h1] at h; omega
 ·rw [zJ (a := x + y + b) (by omega) (by omega)]; omega
theorem SV {W x y b : Nat} (hx : x < W) (hy : y < W) (hb : b ≤ 1) (h : (x + y + b) % W < (x + y) % W) : x + y + b = (x + y + b) % W + 1 * W := by
 rcases Nat.lt_or_ge (x + y + b) W with h1 | h1
 ·rw [Nat.mod_eq_of_lt h1, Nat.mod_eq_of_lt (by omega)] at h; omega
 ·rw [zJ h1 (by omega), Nat.one_mul, Nat.sub_add_cancel h1]
theorem SX {W x y b : Nat} (hW2 : 2 ≤ W) (hx : x < W) (hy : y < W) (hb : b ≤ 1) (h : ¬ (x + y) % W < x) (h' : ¬ (x + y + b) % W < (x + y) % W) : x + y + b = (x + y + b) % W + 0 * W := by
 rcases Nat.lt_or_ge (x + y) W with h1 | h1
 ·rcases Nat.lt_or_ge (x + y + b) W with h2 | h2
  ·rw [Nat.mod_eq_of_lt h2]; omega
  ·exfalso; apply h'; rw [Nat.mod_eq_of_lt h1, zJ h2 (by omega)]; omega
 ·rw [zJ h1 (by omega)] at h; omega
theorem Il {W : Nat} (hW : W = WB) (x y : Nat) : IntKind.u64.wrap ((x : Int) + (y : Int)) = (((x + y) % W : Nat) : Int) := by rw [wue, Int.natCast_emod, hW]; rfl
theorem LG {W : Nat} (hW : W = WB) (x y b : Nat) : IntKind.u64.wrap ((((x + y) % W : Nat) : Int) + (b : Int)) = (((x + y + b) % W : Nat) : Int) := by
 rw [Il hW]
 congr 1
 rw [Nat.mod_add_mod]
theorem QY {W : Nat} (hW : W = WB) {xs ys : List Nat} (hx : Wd xs) (hy : Wd ys) (n : Nat) (hn : n ≤ 100000000) : ∀ d k, k + d = n → ∀ (zs : List Nat) (b : Nat), zs.length = n + 1 → Wd zs → b ≤ 1 → val (zs.take k) + b * W ^ k = val (xs.take k) + val (ys.take k) →
  Ev (fun f => aJ.l0 f (toI xs) (toI ys) (n : Int) (toI zs) (b : Int) (k : Int)) (wI (val (xs.take n) + val (ys.take n))) := by
 intro d
 induction d with
 | zero =>
  intro k hk zs b hl hw hb he
  have hkn : k = n := by omega
  subst hkn
  have hv : val (zs.set k b) = val (xs.take k) + val (ys.take k) := by
   have := iq zs k b (by omega)
   rw [gQ _ (by rw [List.length_set]; omega), Nat.mul_comm, ← hW] at this
   omega
  refine Ev.one fun f => ?_
  rw [aJ.l0, if_neg (by omega), if_pos (by omega), bQ, if_pos (by omega), jT, pO (hw.set _ _ (by have : WB = 18446744073709551616 := rfl; omega)) (by rw [List.length_set]; omega), hv]
  rfl
 | succ d ih =>
  intro k hk zs b hl hw hb he
  have c1 : (k : Int) < (n : Int) := by omega
  have c2 : (0 : Int) ≤ (k : Int) := by omega
  have c3 : (k : Int) < (zs.length : Int) := by omega
  have c4 : k < zs.length := by omega
  have ck : k < 1000000000000000000 := by omega
  have c5 : k + 1 + d = n := by omega
  have hW2 : 2 ≤ W := by rw [hW]; decide
  have hW0 : 0 < W := by rw [hW]; decide
  have hxk : xs.getD k 0 < W := hW ▸ hx.get k
  have hyk : ys.getD k 0 < W := hW ▸ hy.get k
  have key : ∀ (s b' : Nat), s < W → b' ≤ 1 → xs.getD k 0 + ys.getD k 0 + b = s + b' * W → Ev (fun f => aJ.l0 f (toI xs) (toI ys) (n : Int) (toI (zs.set k s)) (b' : Int) ((k + 1 : Nat) : Int)) (wI (val (xs.take n) + val (ys.take n))) := fun s b' h1 h2 h3 =>
   ih (k + 1) c5 _ _ (by rw [List.length_set]; exact hl) (hw.set _ _ (hW ▸ h1)) h2 (by
    subst hW
    rw [iq _ _ _ c4, dL, dL, Nat.pow_succ]
    exact BJ _ _ _ _ _ _ _ _ _ he h3)
  have ek := lS ck
  have step : ∀ b' : Nat, b' ≤ 1 → xs.getD k 0 + ys.getD k 0 + b = (xs.getD k 0 + ys.getD k 0 + b) % W + b' * W → (∀ f, aJ.l0 (f + 1) (toI xs) (toI ys) (n : Int) (toI zs) (b : Int) (k : Int) = aJ.l0 f (toI xs) (toI ys) (n : Int) (toI (zs.set k ((xs.getD k 0 + ys.getD k 0 + b) % W))) (b' : Int) ((k + 1 : Nat) : Int)) → Ev (fun f => aJ.l0 f (toI xs) (toI ys) (n : Int) (toI zs) (b : Int) (k : Int)) (wI (val (xs.take n) + val (ys.take n))) := fun b' h1 h2 h3 =>
   Ev.step (f := fun f => aJ.l0 f (toI xs) (toI ys) (n : Int) (toI (zs.set k ((xs.getD k 0 + ys.getD k 0 + b) % W))) (b' : Int) ((k + 1 : Nat) : Int)) h3 (key _ _ (Nat.mod_lt _ hW0) h1 h2)
  by_cases h1 : (xs.getD k 0 + ys.getD k 0) % W < xs.getD k 0
  ·refine step 1 (Nat.le_refl _) (SS hxk hyk hb h1) fun f => ?_
   rw [aJ.l0, if_pos c1, zI, zI]
   simp only [Option.bind_some]
   rw [Il hW, LG hW, if_pos (Int.ofNat_lt.2 h1), if_pos c2, bQ, if_pos c3, jT, ek, Int.natCast_one]
  ·by_cases h2 : (xs.getD k 0 + ys.getD k 0 + b) % W < (xs.getD k 0 + ys.getD k 0) % W
   ·refine step 1 (Nat.le_refl _) (SV hxk hyk hb h2) fun f => ?_
    rw [aJ.l0, if_pos c1, zI, zI]
    simp only [Option.bind_some]
    rw [Il hW, LG hW, if_neg (fun h => h1 (Int.ofNat_lt.1 h)), if_pos (Int.ofNat_lt.2 h2), if_pos c2, bQ, if_pos c3, jT, ek, Int.natCast_one]
   ·refine step 0 (Nat.zero_le _) (SX hW2 hxk hyk hb h1 h2) fun f => ?_
    rw [aJ.l0, if_pos c1, zI, zI]
    simp only [Option.bind_some]
    rw [Il hW, LG hW, if_neg (fun h => h1 (Int.ofNat_lt.1 h)), if_neg (fun h => h2 (Int.ofNat_lt.1 h)), if_pos c2, bQ, if_pos c3, jT, ek, Int.natCast_zero]
theorem LH {a b : Nat} (n : Nat) (hn : n ≤ 90000000) (h1 : (toW a).length ≤ n) (h2 : (toW b).length ≤ n) : Ev (fun k => aJ.j0 k (wI a) (wI b) (n : Int)) (wI (a + b)) := by
 have := QY rfl (iw a) (iw b) n (by omega) n 0 (by omega) (List.replicate (n + 1) 0) 0 (by simp) (Wd.replicate _) (by omega) (by simp [val])
 rw [gQ _ h1, gQ _ h2, dB, dB] at this
 refine Ev.step (f := fun k => aJ.l0 k (wI a) (wI b) (n : Int) (toI (List.replicate (n + 1) 0)) 0 0) (fun k => ?_) this
 have e : wrap64 ((n : Int) + 1) = ((n + 1 : Nat) : Int) := by rw [w64 (by omega) (by omega)]; omega
 rw [aJ.j0, e, if_pos (by omega), if_pos (by omega), oN]
theorem LJ {a b : Nat} (h1 : (toW a).length ≤ 90000000) (h2 : (toW b).length ≤ 90000000) : Ev (fun k => aJ.f k (wI a) (wI b)) (wI (a + b)) := by
 unfold aJ.f
 refine Ev.bind (nU (by unfold nJ; omega)) (Ev.bind (nU (by unfold nJ; omega)) ?_)
 by_cases h : (toW a).length < (toW b).length
 ·refine Ev.pos (by omega) (Ev.bind (nU (by unfold nJ; omega)) ?_)
  exact LH _ h2 (by omega) (Nat.le_refl _)
 ·refine Ev.neg (by omega) ?_
  exact LH _ h1 (Nat.le_refl _) (by omega)
def rW (W x y b : Nat) : Nat := (x + 2 * W - y - b) % W
theorem SY {W x y b : Nat} (hx : x < W) (hy : y < W) (hb : b ≤ 1) (h : x < y) : x + 1 * W = rW W x y b + y + b := by
 unfold rW
 rcases Nat.lt_or_ge (x + 2 * W - y - b) W with h1 | h1
 ·omega
 ·rw [zJ h1 (by omega)]; omega
theorem S9 {W x y b : Nat} (hx : x < W) (hy : y < W) (h : x = y) (hb : b = 1) : x + 1 * W = rW W x y b + y + b := by unfold rW; rw [zJ (by omega) (by omega)]; omega
theorem S_ {W x y b : Nat} (hx : x < W) (hy : y < W) (h : x = y) (hb : b ≤ 1) (hb' : b ≠ 1) : x + 0 * W = rW W x y b + y + b := by unfold rW; rw [Qq (by omega) (by omega)]; omega
theorem Tc {W x y b : Nat} (hx : x < W) (hy : y < W) (hb : b ≤ 1) (h : ¬ x < y) (h' : ¬ x = y) : x + 0 * W = rW W x y b + y + b := by unfold rW; rw [Qq (by omega) (by omega)]; omega
theorem Td (x y b : Nat) : rW WB x y b < WB := Nat.mod_lt _ (by decide)
theorem Tf {W : Nat} (hW : W = WB) {x y b : Nat} (hy : y < W) (hb : b ≤ 1) : IntKind.u64.wrap ((IntKind.u64.wrap ((x : Int) - (y : Int))) - (b : Int)) = ((rW W x y b : Nat) : Int) := by
 have hy' : y < 18446744073709551616 := by rw [hW] at hy; exact hy
 rw [wue, wue, hW]
 show _ = (((x + 2 * 18446744073709551616 - y - b) % 18446744073709551616 : Nat) : Int)
 clear hy hW
 omega
theorem OI {W : Nat} (hW : W = WB) {xs ys : List Nat} (hx : Wd xs) (hy : Wd ys) (hl1 : xs.length ≤ 100000000) (hly : ys.length ≤ xs.length) (hle : val ys ≤ val xs) : ∀ d k, k + d = xs.length → ∀ (zs : List Nat) (b : Nat), zs.length = xs.length → Wd zs → b ≤ 1 → val (zs.take k) + val (ys.take k) = val (xs.take k) + b * W ^ k →
  Ev (fun f => aX.l0 f (toI xs) (toI ys) (xs.length : Int) (toI zs) (b : Int) (k : Int)) (wI (val xs - val ys)) := by
 intro d
 induction d with
 | zero =>
  intro k hk zs b hl hw hb he
  have hkn : k = xs.length := by omega
  subst hkn
  have hi : nT xs ys xs.length zs b := ⟨hl, hw, hb, hW ▸ he, fun j hj => by
   rw [List.getD_eq_getElem?_getD, List.getD_eq_getElem?_getD, List.getElem?_eq_none (by omega), List.getElem?_eq_none hj]⟩
  refine Ev.one fun f => ?_
  rw [aX.l0, if_neg (by omega), pO hw (by omega), hi.done hly hle]
  rfl
 | succ d ih =>
  intro k hk zs b hl hw hb he
  have c1 : (k : Int) < (xs.length : Int) := by omega
  have c2 : (0 : Int) ≤ (k : Int) := by omega
  have c3 : (k : Int) < (zs.length : Int) := by omega
  have c4 : k < zs.length := by omega
  have ck : k < 1000000000000000000 := by omega
  have c5 : k + 1 + d = xs.length := by omega
  have hb0 : b ≠ 1 → ¬ (b : Int) = 1 := fun h => by omega
  have hxk : xs.getD k 0 < W := hW ▸ hx.get k
  have hyk : ys.getD k 0 < W := hW ▸ hy.get k
  have ek := lS ck
  have step : ∀ b' : Nat, b' ≤ 1 → xs.getD k 0 + b' * W = rW W (xs.getD k 0) (ys.getD k 0) b + ys.getD k 0 + b → (∀ f, aX.l0 (f + 1) (toI xs) (toI ys) (xs.length : Int) (toI zs) (b : Int) (k : Int) = aX.l0 f (toI xs) (toI ys) (xs.length : Int) (toI (zs.set k (rW W (xs.getD k 0) (ys.getD k 0) b))) (b' : Int) ((k + 1 : Nat) : Int)) → Ev (fun f => aX.l0 f (toI xs) (toI ys) (xs.length : Int) (toI zs) (b : Int) (k : Int)) (wI (val xs - val ys)) := fun b' h1 h2 h3 =>
   Ev.step (f := fun f => aX.l0 f (toI xs) (toI ys) (xs.length : Int) (toI (zs.set k (rW W (xs.getD k 0) (ys.getD k 0) b))) (b' : Int) ((k + 1 : Nat) : Int)) h3 (ih (k + 1) c5 _ _ (by rw [List.length_set]; exact hl) (hw.set _ _ (by rw [hW]; exact Td _ _ _)) h1 (by
    subst hW
    rw [iq _ _ _ c4, dL, dL, Nat.pow_succ]
    exact zF _ _ _ _ _ _ _ _ _ he h2))
  have hd : ∀ f, aX.l0 (f + 1) (toI xs) (toI ys) (xs.length : Int) (toI zs) (b : Int) (k : Int) = if (xs.getD k 0 : Int) < (ys.getD k 0 : Int) then (aX.l0 f (toI xs) (toI ys) (xs.length : Int) (toI (zs.set k (rW W (xs.getD k 0) (ys.getD k 0) b))) 1 ((k + 1 : Nat) : Int)) else (if (xs.getD k 0 : Int) = (ys.getD k 0 : Int) then (if (b : Int) = 1 then (aX.l0 f (toI xs) (toI ys) (xs.length : Int) (toI (zs.set k (rW W (xs.getD k 0) (ys.getD k 0) b))) 1 ((k + 1 : Nat) : Int)) else (aX.l0 f (toI xs) (toI ys) (xs.length : Int) (toI (zs.set k (rW W (xs.getD k 0) (ys.getD k 0) b))) 0 ((k + 1 : Nat) : Int))) else (aX.l0 f (toI xs) (toI ys) (xs.length : Int) (toI (zs.set k (rW W (xs.getD k 0) (ys.getD k 0) b))) 0 ((k + 1 : Nat) : Int))) := fun f => by
   rw [aX.l0, if_pos c1, if_pos c2, bQ, if_pos c1, zI]
   simp only [Option.bind_some]
   rw [bQ, if_pos c3]
   simp only [jo]
   rw [Tf hW hyk hb, jT, ek]
  by_cases h1 : xs.getD k 0 < ys.getD k 0
  ·exact step 1 (Nat.le_refl _) (SY hxk hyk hb h1) fun f => by rw [hd, if_pos (Int.ofNat_lt.2 h1), Int.natCast_one]
  ·by_cases h2 : xs.getD k 0 = ys.getD k 0
   ·by_cases h3 : b = 1
    ·exact step 1 (Nat.le_refl _) (S9 hxk hyk h2 h3) fun f => by rw [hd, if_neg (fun h => h1 (Int.ofNat_lt.1 h)), if_pos (by rw [h2]), if_pos (by rw [h3]; rfl), Int.natCast_one]
    ·exact step 0 (Nat.zero_le _) (S_ hxk hyk h2 hb h3) fun f => by rw [hd, if_neg (fun h => h1 (Int.ofNat_lt.1 h)), if_pos (by rw [h2]), if_neg (hb0 h3), Int.natCast_zero]
   ·exact step 0 (Nat.zero_le _) (Tc hxk hyk hb h1 h2) fun f => by rw [hd, if_neg (fun h => h1 (Int.ofNat_lt.1 h)), if_neg (fun h => h2 (Int.ofNat_inj.1 h)), Int.natCast_zero]
theorem OJ {a b : Nat} (h1 : nJ a) (h : b ≤ a) : Ev (fun k => aX.f k (wI a) (wI b)) (wI (a - b)) := by
 unfold aX.f
 refine Ev.bind (nU h1) ?_
 have hl := gU h
 unfold nJ at h1
 refine Ev.pos (by omega) (Ev.pos (by omega) ?_)
 have := OI rfl (iw a) (iw b) h1 hl (by rw [dB, dB]; exact h) (toW a).length 0 (by omega) (List.replicate (toW a).length 0) 0 (by simp) (Wd.replicate _) (by omega) (by simp [val])
 rw [dB, dB] at this
 rw [oN]
 exact this
theorem uZ (x s : Nat) (hs : s ≤ 64) : shl .u64 (x : Int) (s : Int) = IntKind.u64.wrap ((x : Int) * 2 ^ s) := by
 unfold shl
 rw [Int.toNat_natCast, Nat.min_eq_left (by simpa [IntKind.bits] using hs)]
theorem zK (x s : Nat) (hs : s ≤ 64) : shr .u64 (x : Int) (s : Int) = ((x / 2 ^ s : Nat) : Int) := by
 unfold shr
 rw [Int.toNat_natCast, Nat.min_eq_left (by simpa [IntKind.bits] using hs), tq]
theorem LK (zs : List Nat) (j : Nat) (h : zs.getD j 0 = 0) : zs.set j 0 = zs := by
 by_cases hj : j < zs.length
 ·rw [List.getD_eq_getElem?_getD, List.getElem?_eq_getElem hj] at h
  have : zs[j] = 0 := h
  conv => lhs; rw [← this]
  exact List.set_getElem_self hj
 ·exact List.set_eq_of_length_le (by omega)
theorem Ti {xs : List Nat} (hx : Wd xs) (hl : xs.length ≤ 100000000) (q s : Nat) (hq : q ≤ 100000000) (hs : s < 64) : ∀ d i, i + d = xs.length → ∀ (zs : List Nat), ny xs q s i zs → (∀ j, q + i < j → zs.getD j 0 = 0) →
  Ev (fun f => bF.l0 f (toI xs) ((64 * q + s : Nat) : Int) (xs.length : Int) (toI zs) (i : Int)) (wI (val xs * 2 ^ (64 * q + s))) := by
 intro d
 induction d with
 | zero =>
  intro i hi zs h hz
  have : i = xs.length := by omega
  subst this
  refine Ev.one fun f => ?_
  rw [bF.l0, if_neg (by omega), pO h.wd (by rw [h.len]; omega), h.done]
  rfl
 | succ d ih =>
  intro i hi zs h hz
  have hlen := h.len
  have c1 : (i : Int) < (xs.length : Int) := by omega
  have c2 : (0 : Int) ≤ ((q + i : Nat) : Int) := by omega
  have c3 : ((q + i : Nat) : Int) < (zs.length : Int) := by omega
  have c4 : (0 : Int) ≤ (i : Int) := by omega
  have c5 : (0 : Int) ≤ (s : Int) := by omega
  have c6 : (0 : Int) ≤ ((64 - s : Nat) : Int) := by omega
  have c7 : (0 : Int) ≤ ((q + i + 1 : Nat) : Int) := by omega
  have c8 : ((q + i + 1 : Nat) : Int) < (zs.length : Int) := by omega
  have c9 : i + 1 + d = xs.length := by omega
  have c10 : 64 - s ≤ 64 := by omega
  have hi' : i < xs.length := by omega
  have d1 : 64 * q + s < 1000000000000000000 := by omega
  have d2 : i < 1000000000000000000 := by omega
  have d3 : q < 1000000000000000000 := by omega
  have d4 : q + i < 1000000000000000000 := by omega
  have d5 : s < 18446744073709551616 := by omega
  have d6 : (64 * q + s) / 64 = q := by omega
  have d7 : (64 * q + s) % 64 = s := by omega
  have hst := h.step hi' hx hs (zG h.top hs)
  have hz' : ∀ j, q + (i + 1) < j → ((zs.set (q + i) (zs.getD (q + i) 0 + xs.getD i 0 * 2 ^ s % WB)).set (q + i + 1) (xs.getD i 0 * 2 ^ s / WB)).getD j 0 = 0 := fun j hj => by
   rw [getD_set_ne _ _ _ _ (by omega), getD_set_ne _ _ _ _ (by omega)]
   exact hz j (by omega)
  have e1 := LD d1
  rw [d6] at e1
  have e2 := F6 (64 * q + s)
  rw [d7] at e2
  have e3 := OH d2 d3
  have e4 := lS d4
  have e5 := lS d2
  have e6 := rJ d5
  have e7 := Qp hs
  refine Ev.step (f := fun f => bF.l0 f (toI xs) ((64 * q + s : Nat) : Int) (xs.length : Int) (toI ((zs.set (q + i) (zs.getD (q + i) 0 + xs.getD i 0 * 2 ^ s % WB)).set (q + i + 1) (xs.getD i 0 * 2 ^ s / WB))) ((i + 1 : Nat) : Int)) (fun f => ?_) (ih (i + 1) c9 _ hst hz')
  rw [bF.l0, if_pos c1]
  simp only [e1, e2, e3, e4, e5, e6, e7, bQ, jo]
  rw [if_pos c2, if_pos c3, if_pos c4, if_pos c1, if_pos c5, uZ _ _ (Nat.le_of_lt hs), Gm _ _ _ h.top hs (hx.get i), jT]
  simp only [Option.bind_some]
  by_cases h0 : 0 < s
  ·rw [if_pos (show (s : Int) > 0 from Int.natCast_pos.2 h0), if_pos c6, if_pos c7, if_pos c8, zK _ _ c10, jT]
   congr 3
   have := zy (xs.getD i 0) s (Nat.le_of_lt hs) (hx.get i)
   rw [tq] at this
   exact Int.ofNat_inj.1 this
  ·have hs0 : s = 0 := Nat.eq_zero_of_not_pos h0
   subst hs0
   have e0 : xs.getD i 0 * 2 ^ 0 / WB = 0 := by rw [Nat.pow_zero, Nat.mul_one]; exact Nat.div_eq_of_lt (hx.get i)
   rw [if_neg (by decide), e0, LK _ (q + i + 1)]
   rw [getD_set_ne _ _ _ _ (Nat.ne_of_lt (Nat.lt_succ_self _))]
   exact hz _ (Nat.lt_succ_self _)
theorem Qr {a : Nat} (n : Nat) (h : (toW a).length ≤ 10000000) (hn : n ≤ 1000000000) : Ev (fun k => bF.f k (wI a) (n : Int)) (wI (a * 2 ^ n)) := by
 unfold bF.f
 refine Ev.bind (nU (by unfold nJ; omega)) ?_
 have hs : n % 64 < 64 := Nat.mod_lt _ (by decide)
 have hq : n / 64 ≤ 100000000 := by omega
 have e1 : wrap64 (Int.tdiv (n : Int) 64) = ((n / 64 : Nat) : Int) := by rw [Int.tdiv_eq_ediv_of_nonneg (by omega), w64 (by omega) (by omega)]; omega
 have e2 : wrap64 ((wrap64 (((toW a).length : Int) + ((n / 64 : Nat) : Int))) + 1) = ((n / 64 + (toW a).length + 1 : Nat) : Int) := by rw [w64 (x := ((toW a).length : Int) + ((n / 64 : Nat) : Int)) (by omega) (by omega), w64 (by omega) (by omega)]; omega
 rw [e1, e2, oN]
 refine Ev.pos (by omega) (Ev.pos (by omega) ?_)
 have := Ti (iw a) (by omega) (n / 64) (n % 64) hq hs (toW a).length 0 (by omega) _ (ny.start _ _ _) fun j _ => by
  rw [List.getD_eq_getElem?_getD, List.getElem?_replicate]; split <;> rfl
 rw [Nat.div_add_mod, dB] at this
 exact this
theorem LM {a : Nat} (n : Nat) (h : (toW a).length ≤ 10000000) (hn : n ≤ 1000000000) : Ev (fun k => dM.f k (wI a) (n : Int)) (wI (a * 2 ^ n)) := by
 unfold dM.f
 exact Ev.bind (Qr n h hn) (Ev.now _)
end Go.Proofs.YtafikkmnkeddpaaGreatDoor.P
namespace Go.Proofs.YtafikkmnkeddpaaGreatDoor.P
open Go.RowKit Go.Proofs.YtafikkmnkeddpaaGreatDoorW.PrintWords Go.Proofs.YtafikkmnkeddpaaGreatDoorW.PrintLast Go.Proofs.YtafikkmnkeddpaaGreatDoorW.PrintMore
theorem OL {xs : List Nat} (hx : Wd xs) (hl : xs.length ≤ 100000000) (q s : Nat) (hq : q ≤ xs.length) (hs : s < 64) : ∀ d i, i + d = xs.length - q → ∀ (zs : List Nat), kL xs q s i zs →
  Ev (fun f => bD.l0 f (toI xs) ((64 * q + s : Nat) : Int) (xs.length : Int) (toI zs) (i : Int)) (wI (val xs / 2 ^ (64 * q + s))) := by
 intro d
 induction d with
 | zero =>
  intro i hi zs h
  have hi' : i = xs.length - q := by omega
  subst hi'
  have hlen := h.len
  refine Ev.one fun f => ?_
  rw [bD.l0, bQ, if_neg (by omega), pO h.wd (by omega), h.done hx]
  rfl
 | succ d ih =>
  intro i hi zs h
  have hlen := h.len
  have c1 : (i : Int) < (zs.length : Int) := by omega
  have c2 : (0 : Int) ≤ ((q + i : Nat) : Int) := by omega
  have c3 : ((q + i : Nat) : Int) < (xs.length : Int) := by omega
  have c4 : (0 : Int) ≤ (i : Int) := by omega
  have c5 : (0 : Int) ≤ (s : Int) := by omega
  have c6 : (0 : Int) ≤ ((64 - s : Nat) : Int) := by omega
  have c7 : (0 : Int) ≤ ((q + i + 1 : Nat) : Int) := by omega
  have c8 : q + i + 1 < xs.length → ((q + i + 1 : Nat) : Int) < (xs.length : Int) := fun _ => by omega
  have c8' : ¬ q + i + 1 < xs.length → ¬ ((q + i + 1 : Nat) : Int) < (xs.length : Int) := fun _ => by omega
  have c9 : i + 1 + d = xs.length - q := by omega
  have c10 : 64 - s ≤ 64 := by omega
  have c11 : i < zs.length := by omega
  have hi' : i < xs.length - q := by omega
  have d1 : 64 * q + s < 1000000000000000000 := by omega
  have d2 : i < 1000000000000000000 := by omega
  have d3 : q < 1000000000000000000 := by omega
  have d4 : q + i < 1000000000000000000 := by omega
  have d5 : s < 18446744073709551616 := by omega
  have d6 : (64 * q + s) / 64 = q := by omega
  have d7 : (64 * q + s) % 64 = s := by omega
  have hge : ¬ q + i + 1 < xs.length → xs.getD (q + i + 1) 0 = 0 := fun h => by rw [List.getD_eq_getElem?_getD, List.getElem?_eq_none (by omega)]; rfl
  have hw := pX (x := xs.getD (q + i) 0) (y := xs.getD (q + i + 1) 0) (hx.get _) hs
  have hst := h.step hx hs hi' hw
  have e1 := LD d1
  rw [d6] at e1
  have e2 := F6 (64 * q + s)
  rw [d7] at e2
  have e3 := OH d2 d3
  have e4 := lS d4
  have e5 := lS d2
  have e6 := rJ d5
  have e7 := Qp hs
  refine Ev.step (f := fun f => bD.l0 f (toI xs) ((64 * q + s : Nat) : Int) (xs.length : Int) (toI (zs.set i (xs.getD (q + i) 0 / 2 ^ s + xs.getD (q + i + 1) 0 * 2 ^ (64 - s) % WB))) ((i + 1 : Nat) : Int)) (fun f => ?_) (ih (i + 1) c9 _ hst)
  rw [bD.l0, bQ, if_pos c1]
  simp only [e1, e2, e3, e4, e5, e6, e7, bQ, jo]
  rw [if_pos c2, if_pos c3, if_pos c5, if_pos c4, zK _ _ (Nat.le_of_lt hs), jT]
  simp only [Option.bind_some]
  by_cases h0 : 0 < s
  ·rw [if_pos (show (s : Int) > 0 from Int.natCast_pos.2 h0)]
   by_cases hm : q + i + 1 < xs.length
   ·rw [if_pos (c8 hm), if_pos c7, if_pos (c8 hm), if_pos c6, jo, jk _ _ _ c11, uZ _ _ c10, BG _ _ _ (hx.get _) hs, jT, List.set_set]
   ·rw [if_neg (c8' hm), hge hm, Nat.zero_mul, Nat.zero_mod, Nat.add_zero (xs.getD (q + i) 0 / 2 ^ s)]
  ·have hs0 : s = 0 := Nat.eq_zero_of_not_pos h0
   subst hs0
   have ez : xs.getD (q + i + 1) 0 * 2 ^ (64 - 0) % WB = 0 := Nat.mul_mod_left _ _
   rw [if_neg (by decide), ez, Nat.add_zero (xs.getD (q + i) 0 / 2 ^ 0)]
theorem OM {a : Nat} (n : Nat) (h : (toW a).length ≤ 10000000) : Ev (fun k => bD.f k (wI a) (n : Int)) (wI (a / 2 ^ n)) := by
 unfold bD.f
 refine Ev.bind (uq (by unfold nJ; omega)) ?_
 by_cases hn : cZ a ≤ n
 ·refine Ev.pos (by omega) ?_
  have : a / 2 ^ n = 0 := Nat.div_eq_of_lt (Nat.lt_of_lt_of_le (jq a) (Nat.pow_le_pow_right (by decide) hn))
  rw [this]
  unfold wI
  rw [gZ]
  exact Ev.now _
 ·refine Ev.neg (by omega) (Ev.bind (nU (by unfold nJ; omega)) ?_)
  have hb : cZ a ≤ 64 * (toW a).length := kW (by have := lg a; rwa [show WB = 2 ^ 64 from rfl, ← Nat.pow_mul] at this)
  have hs : n % 64 < 64 := Nat.mod_lt _ (by decide)
  have hq : n / 64 ≤ (toW a).length := by omega
  have e1 : wrap64 (Int.tdiv (n : Int) 64) = ((n / 64 : Nat) : Int) := LD (by omega)
  have e2 : wrap64 (((toW a).length : Int) - ((n / 64 : Nat) : Int)) = (((toW a).length - n / 64 : Nat) : Int) := by rw [w64 (by omega) (by omega)]; omega
  have c1 : (0 : Int) ≤ (((toW a).length - n / 64 : Nat) : Int) := by omega
  have c2 : (((toW a).length - n / 64 : Nat) : Int).toNat ≤ 35184372088832 := by omega
  have hr := OL (iw a) (by omega) (n / 64) (n % 64) hq hs ((toW a).length - n / 64) 0 (by omega) _ (kL.start _ _ _)
  rw [Nat.div_add_mod, dB] at hr
  rw [e1, e2, oN]
  exact Ev.pos c1 (Ev.pos c2 hr)
theorem OO (a i : Nat) : (toW a).getD i 0 = a / WB ^ i % WB := by
 have h1 := pK (iw a) (k := i)
 rw [dB] at h1
 rw [h1, lX, Nat.add_mul_mod_self_left, Nat.mod_eq_of_lt ((iw a).get i)]
theorem LP (a i : Nat) : (toW a).getD (i / 64) 0 / 2 ^ (i % 64) % 2 = a / 2 ^ i % 2 := by
 rw [OO]
 have h64 : i % 64 < 64 := Nat.mod_lt _ (by decide)
 have e1 : WB = 2 ^ (i % 64) * 2 ^ (64 - i % 64) := by rw [← Nat.pow_add, Nat.add_sub_cancel' (by omega)]
 have e2 : a / 2 ^ i = a / WB ^ (i / 64) / 2 ^ (i % 64) := by
  rw [show WB = 2 ^ 64 from rfl, ← Nat.pow_mul, Nat.div_div_eq_div_mul, ← Nat.pow_add, Nat.div_add_mod]
 rw [e2]
 generalize a / WB ^ (i / 64) = b
 obtain ⟨m, hm⟩ : ∃ m, 64 - i % 64 = m + 1 := ⟨63 - i % 64, by omega⟩
 rw [hm] at e1
 rw [e1, Nat.mod_mul_right_div_self, Nat.pow_succ, Nat.mul_comm (2 ^ m) 2, Nat.mod_mul_right_mod]
theorem and_one (x : Nat) (h : x < WB) : Go.bits .and .u64 (x : Int) 1 = ((x % 2 : Nat) : Int) := by
 have := u64_and_nat x 1 h (by decide)
 rw [show ((1 : Nat) : Int) = 1 from rfl] at this
 rw [this, Nat.and_one_is_mod]
theorem LQ {a : Nat} (i : Nat) (h : (toW a).length ≤ 10000000) (hi : i ≤ 1000000000000000) : dN.f (wI a) (i : Int) = some ((a / 2 ^ i % 2 : Nat) : Int) := by
 have h1 : ¬ ((i : Int) < 0) := by omega
 have e2 := F6 i
 have c1 : (0 : Int) ≤ ((i / 64 : Nat) : Int) := by omega
 have c2 : (0 : Int) ≤ ((i % 64 : Nat) : Int) := by omega
 have c3 : i % 64 ≤ 64 := by omega
 have c4 : i % 64 < 18446744073709551616 := by omega
 have c5 : (toW a).length ≤ i / 64 → ((i / 64 : Nat) : Int) ≥ ((toW a).length : Int) := fun _ => by omega
 have c6 : ¬ (toW a).length ≤ i / 64 → ¬ ((i / 64 : Nat) : Int) ≥ ((toW a).length : Int) := fun _ => by omega
 have c7 : ¬ (toW a).length ≤ i / 64 → ((i / 64 : Nat) : Int) < ((toW a).length : Int) := fun _ => by omega
 have e1 := LD (n := i) (by omega)
 unfold dN.f wI
 rw [if_neg h1, e1, e2, bQ]
 by_cases hl : (toW a).length ≤ i / 64
 ·rw [if_pos (c5 hl), ← LP, List.getD_eq_getElem?_getD, List.getElem?_eq_none hl]
  simp
 ·rw [if_neg (c6 hl), if_pos c1, if_pos (c7 hl), rJ c4, if_pos c2, jo, zK _ _ c3, and_one _ (Nat.lt_of_le_of_lt (Nat.div_le_self _ _) ((iw a).get _)), LP]
theorem Io {zs : List Nat} (h : Wd zs) (k : Nat) : zs.getD k 0 = val zs / WB ^ k % WB := by
 rw [pK h, lX, Nat.add_mul_mod_self_left, Nat.mod_eq_of_lt (h.get k)]
theorem Ip {zs : List Nat} {k : Nat} (h : k < zs.length) (v : Nat) : val (zs.set k v) + WB ^ k * zs.getD k 0 = val zs + WB ^ k * v := by
 have h1 := jK (zs.set k v) (k + 1)
 have h2 := jK zs (k + 1)
 rw [iq _ _ _ h, rQ (ys := zs) (by rw [List.length_set]) (k + 1) (fun j hj => getD_set_ne _ _ _ _ (by omega))] at h1
 rw [dL] at h2
 omega
theorem LU {zs : List Nat} (hw : Wd zs) {j : Nat} (hj : j / 64 < zs.length) (m : Nat) (hm : val zs = m * 2 ^ (j + 1)) :
  Go.bits .or .u64 ((zs.getD (j / 64) 0 : Nat) : Int) (shl .u64 1 ((j % 64 : Nat) : Int)) = ((zs.getD (j / 64) 0 + 2 ^ (j % 64) : Nat) : Int) ∧ zs.getD (j / 64) 0 + 2 ^ (j % 64) < WB ∧ val (zs.set (j / 64) (zs.getD (j / 64) 0 + 2 ^ (j % 64))) = val zs + 2 ^ j := by
 have hs : j % 64 < 64 := Nat.mod_lt _ (by decide)
 have hs' : j % 64 ≤ 64 := Nat.le_of_lt hs
 have e0 : 64 * (j / 64) + j % 64 = j := Nat.div_add_mod j 64
 have e3 : j + 1 = 64 * (j / 64) + (j % 64 + 1) := by omega
 obtain ⟨c, hc⟩ : ∃ c, 64 = (j % 64 + 1) + c := ⟨63 - j % 64, by omega⟩
 have hval := Ip hj (zs.getD (j / 64) 0 + 2 ^ (j % 64))
 have hword := Io hw (j / 64)
 have hx := hw.get (j / 64)
 generalize j / 64 = k at *
 generalize j % 64 = s at *
 have e1 : val zs / WB ^ k = m * 2 ^ (s + 1) := by
  rw [hm, e3, Nat.pow_add, show WB ^ k = 2 ^ (64 * k) by rw [show WB = 2 ^ 64 from rfl, ← Nat.pow_mul], Nat.mul_left_comm, Nat.mul_div_cancel_left _ (Nat.two_pow_pos _)]
 have e2 : WB = 2 ^ c * 2 ^ (s + 1) := by rw [← Nat.pow_add, Nat.add_comm c, ← hc]
 rw [e1, e2, Nat.mul_mod_mul_right] at hword
 have hy : m % 2 ^ c < 2 ^ c := Nat.mod_lt _ (Nat.two_pow_pos _)
 generalize m % 2 ^ c = y at *
 have hp : 2 ^ (s + 1) = 2 * 2 ^ s := by rw [Nat.pow_succ, Nat.mul_comm]
 have hlt : zs.getD k 0 + 2 ^ s < WB := by
  rw [hword, e2]
  have h1 : (y + 1) * 2 ^ (s + 1) ≤ 2 ^ c * 2 ^ (s + 1) := Nat.mul_le_mul_right _ hy
  have h2 := Nat.two_pow_pos s
  rw [Nat.add_mul, hp] at h1
  rw [hp]
  omega
 refine ⟨?_, hlt, ?_⟩
 ·have h1 : shl .u64 1 (s : Int) = ((2 ^ s : Nat) : Int) := by
   have := uZ 1 s hs'
   rw [show ((1 : Nat) : Int) = 1 from rfl] at this
   rw [this, Int.one_mul]
   have h2 : 2 ^ s < 18446744073709551616 := Nat.lt_of_le_of_lt (Nat.le_add_left _ _) hlt
   have := rJ h2
   rwa [Int.natCast_pow] at this
  rw [h1, u64_or_nat _ _ hx (Nat.lt_of_le_of_lt (Nat.le_add_left _ _) hlt), hword, Nat.mul_comm y, ← Nat.two_pow_add_eq_or_of_lt (by rw [hp]; have := Nat.two_pow_pos s; omega)]
 ·rw [Nat.mul_add] at hval
  have h3 : WB ^ k * 2 ^ s = 2 ^ j := by rw [show WB = 2 ^ 64 from rfl, ← Nat.pow_mul, ← Nat.pow_add, e0]
  rw [h3] at hval
  omega
def QR (a b : Nat) : List Int × List Int := (wI (a / b), wI (a % b))
theorem LV (a j : Nat) : a / 2 ^ j = 2 * (a / 2 ^ (j + 1)) + a / 2 ^ j % 2 := by
 rw [Nat.pow_succ, ← Nat.div_div_eq_div_mul]; omega
theorem QZ {a b : Nat} (hb : 0 < b) (ha : (toW a).length ≤ 1000000) (hbl : (toW b).length ≤ 1000000) : ∀ j : Nat, j ≤ 64 * (toW a).length → ∀ zs : List Nat, Wd zs → zs.length = (toW a).length → val zs = a / 2 ^ j / b * 2 ^ j →
  Ev (fun k => aI.l0 k (wI a) (wI b) (toI zs) (wI (a / 2 ^ j % b)) ((j : Int) - 1)) (QR a b) := by
 intro j
 induction j with
 | zero =>
  intro hj zs hw hl hv
  rw [Nat.pow_zero, Nat.div_one, Nat.mul_one] at hv
  refine Ev.one fun k => ?_
  rw [aI.l0, if_neg (by omega), pO hw (by omega), hv]
  simp only [Option.bind_some, Nat.pow_zero, Nat.div_one]
  rfl
 | succ j ih =>
  intro hj zs hw hl hv
  have c1 : (j : Int) ≥ 0 := by omega
  have c2 : (0 : Int) ≤ ((j / 64 : Nat) : Int) := by omega
  have c3 : ((j / 64 : Nat) : Int) < (zs.length : Int) := by omega
  have c4 : (0 : Int) ≤ ((j % 64 : Nat) : Int) := by omega
  have c5 : j % 64 < 18446744073709551616 := by omega
  have c6 : j / 64 < zs.length := by omega
  have c7 : ((j + 1 : Nat) : Int) - 1 = (j : Int) := by omega
  have c8 : j ≤ 64 * (toW a).length := by omega
  have c9 : j < 1000000000000000000 := by omega
  have c10 : j ≤ 1000000000000000 := by omega
  have c11 : wrap64 ((j : Int) - 1) = (j : Int) - 1 := w64 (by omega) (by omega)
  have c12 : (toW a).length ≤ 10000000 := by omega
  have hlen2 : ∀ v, v < 2 * b → (toW v).length ≤ 1000001 := fun v hv => by
   refine Nat.le_trans (jg (k := (toW b).length + 1) (Nat.lt_of_lt_of_le hv ?_)) (Nat.succ_le_succ hbl)
   have h1 := lg b
   rw [Nat.pow_succ, Nat.mul_comm]
   exact Nat.mul_le_mul (Nat.le_of_lt h1) (by decide)
  have hR : a / 2 ^ (j + 1) % b < b := Nat.mod_lt _ hb
  have hQR := Nat.div_add_mod (a / 2 ^ (j + 1)) b
  have hd := LV a j
  have hbit : a / 2 ^ j % 2 < 2 := Nat.mod_lt _ (by decide)
  have hB := LQ (a := a) j c12 c10
  generalize hbb : a / 2 ^ j % 2 = bit at *
  generalize hRR : a / 2 ^ (j + 1) % b = R at *
  generalize hQQ : a / 2 ^ (j + 1) / b = Q at *
  have hsum : a / 2 ^ j = b * (2 * Q) + (2 * R + bit) := by rw [hd, ← hQR]; rw [Nat.mul_left_comm b 2 Q]; omega
  have hup := Qr (a := R) 1 (by have := hlen2 R (by omega); omega) (by omega)
  rw [Nat.pow_one, show R * 2 = 2 * R by omega] at hup
  have hj1 : Ev (fun k => aI.j1 k (wI a) (wI b) (toI zs) (wI (2 * R + bit)) (j : Int)) (QR a b) := by
   have hr1 := hlen2 (2 * R + bit) (by omega)
   have hcmp := wF (a := 2 * R + bit) (b := b) (by unfold nJ; omega) (by unfold nJ; omega)
   refine Ev.step (f := fun k => (bn.f k (wI (2 * R + bit)) (wI b)).bind fun t504 => (if t504 ≥ 0 then ((aX.f k (wI (2 * R + bit)) (wI b)).bind fun t505 => aI.l0 k (wI a) (wI b) (toI (zs.set (j / 64) (zs.getD (j / 64) 0 + 2 ^ (j % 64)))) t505 ((j : Int) - 1)) else aI.l0 k (wI a) (wI b) (toI zs) (wI (2 * R + bit)) ((j : Int) - 1))) (fun k => ?_) ?_
   ·have hsb := (LU hw c6 Q hv).1
    rw [aI.j1]
    simp only [LD c9, F6, bQ, rJ c5, jo, hsb, jT, c11, if_pos c2, if_pos c3, if_pos c4]
   ·refine Ev.bind hcmp ?_
    by_cases hge : b ≤ 2 * R + bit
    ·have hc : lG (2 * R + bit) b ≥ 0 := by
      rcases Nat.lt_or_ge b (2 * R + bit) with h | h
      ·rw [qK h]; decide
      ·rw [show 2 * R + bit = b by omega, uY]; decide
     refine Ev.pos hc (Ev.bind (OJ (by unfold nJ; omega) hge) ?_)
     have hsb := (LU hw c6 Q hv).2
     have hq1 : a / 2 ^ j / b = 2 * Q + 1 := by
      rw [hsum, Nat.mul_add_div hb, show 2 * R + bit = b + (2 * R + bit - b) by omega, Nat.add_div_left _ hb, Nat.div_eq_of_lt (show 2 * R + bit - b < b by omega)]
     have hm1 : a / 2 ^ j % b = 2 * R + bit - b := by
      rw [hsum, Nat.mul_add_mod, show 2 * R + bit = b + (2 * R + bit - b) by omega, Nat.add_mod_left, Nat.mod_eq_of_lt (show 2 * R + bit - b < b by omega)]
      omega
     have := ih c8 (zs.set (j / 64) (zs.getD (j / 64) 0 + 2 ^ (j % 64))) (hw.set _ _ hsb.1) (by rw [List.length_set]; exact hl) (by rw [hsb.2, hv, hq1, Nat.add_mul, Nat.pow_succ]; rw [Nat.one_mul, Nat.mul_comm 2 Q, Nat.mul_assoc, Nat.mul_comm (2 ^ j) 2])
     rwa [hm1] at this
    ·have hc : ¬ lG (2 * R + bit) b ≥ 0 := by rw [nS (by omega)]; decide
     refine Ev.neg hc ?_
     have hq1 : a / 2 ^ j / b = 2 * Q := by rw [hsum, Nat.mul_add_div hb, Nat.div_eq_of_lt (show 2 * R + bit < b by omega), Nat.add_zero]
     have hm1 : a / 2 ^ j % b = 2 * R + bit := by rw [hsum, Nat.mul_add_mod, Nat.mod_eq_of_lt (show 2 * R + bit < b by omega)]
     have := ih c8 zs hw hl (by rw [hv, hq1, Nat.pow_succ, Nat.mul_comm 2 Q, Nat.mul_assoc, Nat.mul_comm (2 ^ j) 2])
     rwa [hm1] at this
  refine Ev.step (f := fun k => (bF.f k (wI R) 1).bind fun t494 => ((dN.f (wI a) (j : Int)).bind fun t497 => (if t497 = 1 then ((aJ.f k t494 (([1] : List Int))).bind fun t501 => (aI.j1 k (wI a) (wI b) (toI zs) t501 (j : Int))) else (aI.j1 k (wI a) (wI b) (toI zs) t494 (j : Int))))) (fun k => ?_) ?_
  ·rw [aI.l0, c7, if_pos c1]
  ·refine Ev.bind hup ?_
   rw [hB]
   simp only [Option.bind_some]
   have hr2 := hlen2 (2 * R) (by omega)
   rcases (show bit = 1 ∨ bit = 0 by omega) with h1 | h1
   ·subst h1
    have hadd := LJ (a := 2 * R) (b := 1) (by omega) (by rw [lD]; decide)
    rw [show wI 1 = [1] by unfold wI; rw [lD]; rfl] at hadd
    exact Ev.pos rfl (Ev.bind hadd hj1)
   ·subst h1
    exact Ev.neg (by decide) hj1
theorem Q5 {a b : Nat} (hb : b ≠ 0) (ha : (toW a).length ≤ 1000000) (hbl : (toW b).length ≤ 1000000) : Ev (fun k => aI.f k (wI a) (wI b)) (QR a b) := by
 unfold aI.f
 refine Ev.bind (uq (by unfold nJ; omega)) (Ev.bind (uq (by unfold nJ; omega)) ?_)
 have h1 := jq a
 have h2 := ng hb
 by_cases h : cZ a < cZ b
 ·refine Ev.pos (by omega) ?_
  have hlt : a < b := Nat.lt_of_lt_of_le h1 (Nat.le_trans (Nat.pow_le_pow_right (by decide) (by omega)) h2)
  have ht := pO (iw a) (by omega)
  rw [dB] at ht
  rw [show wI a = toI (toW a) from rfl, ht]
  unfold QR
  rw [Nat.div_eq_of_lt hlt, Nat.mod_eq_of_lt hlt, show wI 0 = [] by unfold wI; rw [gZ]; rfl]
  exact Ev.now _
 ·refine Ev.neg (by omega) (Ev.bind (nU (by unfold nJ; omega)) ?_)
  have hbp : 0 < cZ b := by rw [jQ hb]; omega
  have hba : cZ a ≤ 64 * (toW a).length := kW (by have := lg a; rwa [show WB = 2 ^ 64 from rfl, ← Nat.pow_mul] at this)
  have c1 : (0 : Int) ≤ ((toW a).length : Int) := by omega
  have c2 : (((toW a).length : Nat) : Int).toNat ≤ 35184372088832 := by omega
  have e1 : wrap64 ((wrap64 ((cZ a : Int) - (cZ b : Int))) + 1) = ((cZ a - cZ b + 1 : Nat) : Int) := by rw [w64 (x := (cZ a : Int) - (cZ b : Int)) (by omega) (by omega), w64 (by omega) (by omega)]; omega
  have e2 : wrap64 ((cZ a : Int) - (cZ b : Int)) = ((cZ a - cZ b + 1 : Nat) : Int) - 1 := by rw [w64 (by omega) (by omega)]; omega
  have hsm : a / 2 ^ (cZ a - cZ b + 1) < b := by
   refine Nat.lt_of_lt_of_le ?_ h2
   refine Nat.div_lt_of_lt_mul ?_
   rw [← Nat.pow_add]
   exact Nat.lt_of_lt_of_le h1 (Nat.pow_le_pow_right (by decide) (by omega))
  have hq := QZ (a := a) (b := b) (by omega) ha hbl (cZ a - cZ b + 1) (by omega) (List.replicate (toW a).length 0) (Wd.replicate _) (by simp) (by rw [jE, Nat.div_eq_of_lt hsm, Nat.zero_mul])
  rw [Nat.mod_eq_of_lt hsm] at hq
  rw [e1, e2, oN]
  exact Ev.pos c1 (Ev.pos c2 (Ev.bind (OM _ (by omega)) hq))
theorem Jr {a b : Nat} (hb : b ≠ 0) (ha : (toW a).length ≤ 1000000) (hbl : (toW b).length ≤ 1000000) : Ev (fun k => dD.f k (wI a) (wI b)) (QR a b) := by
 unfold dD.f
 exact Ev.bind (Q5 hb ha hbl) (Ev.now _)
end Go.Proofs.YtafikkmnkeddpaaGreatDoor.P
namespace Go.Proofs.YtafikkmnkeddpaaGreatDoor.P
open Go.RowKit Go.Proofs.YtafikkmnkeddpaaGreatDoorW.PrintWords Go.Proofs.YtafikkmnkeddpaaGreatDoorW.PrintLast Go.Proofs.YtafikkmnkeddpaaGreatDoorW.PrintMore
abbrev HB : Nat := 4294967296
def vB (B : Nat) : List Nat → Nat
 | [] => 0
 | x :: xs => x + B * vB B xs
def WdB (B : Nat) (xs : List Nat) : Prop := ∀ x ∈ xs, x < B
theorem WdB.get {B : Nat} (hB : 0 < B) {xs : List Nat} (h : WdB B xs) (i : Nat) : xs.getD i 0 < B := by
 by_cases hi : i < xs.length
 ·rw [List.getD_eq_getElem?_getD, List.getElem?_eq_getElem hi]; exact h _ (List.getElem_mem hi)
 ·rw [List.getD_eq_getElem?_getD, List.getElem?_eq_none (by omega)]; exact hB
theorem WdB.set {B : Nat} {xs : List Nat} (h : WdB B xs) (i y : Nat) (hy : y < B) : WdB B (xs.set i y) := fun z hz => by
 rcases List.mem_or_eq_of_mem_set hz with hz | rfl
 ·exact h z hz
 ·exact hy
theorem WdB.rep {B : Nat} (hB : 0 < B) (n : Nat) : WdB B (List.replicate n 0) := fun z hz => by
 have := List.eq_of_mem_replicate hz
 subst this
 exact hB
theorem BK (B : Nat) (xs ys : List Nat) : vB B (xs ++ ys) = vB B xs + B ^ xs.length * vB B ys := by
 induction xs with
 | nil => simp [vB]
 | cons x xs ih =>
  simp only [List.cons_append, vB, ih, List.length_cons, Nat.pow_succ]
  rw [Nat.mul_add, Nat.mul_comm (B ^ xs.length) B, Nat.mul_assoc]
  omega
theorem Q7 (B n : Nat) : vB B (List.replicate n 0) = 0 := by
 induction n with
 | zero => rfl
 | succ n ih => simp [List.replicate_succ, vB, ih]
theorem Tj {B : Nat} {xs : List Nat} (h : WdB B xs) : vB B xs < B ^ xs.length := by
 induction xs with
 | nil => simp [vB]
 | cons x xs ih =>
  have h1 := ih fun y hy => h y (by simp [hy])
  have h2 := h x (by simp)
  simp only [vB, List.length_cons, Nat.pow_succ]
  have : B * (vB B xs + 1) ≤ B * B ^ xs.length := Nat.mul_le_mul_left _ h1
  rw [Nat.mul_comm (B ^ xs.length) B]
  rw [Nat.mul_add] at this
  omega
theorem lU (B : Nat) (xs : List Nat) (i : Nat) : vB B (xs.take (i + 1)) = vB B (xs.take i) + B ^ i * xs.getD i 0 := by
 by_cases h : i < xs.length
 ·rw [o_ xs i h, BK, List.length_take, Nat.min_eq_left (by omega)]
  simp [vB]
 ·rw [List.take_of_length_le (by omega), List.take_of_length_le (by omega), List.getD_eq_getElem?_getD, List.getElem?_eq_none (by omega)]
  simp
theorem zL (B : Nat) : ∀ (xs : List Nat) (k v : Nat), k < xs.length → vB B (xs.set k v) + B ^ k * xs.getD k 0 = vB B xs + B ^ k * v
 | [], k, v, h => by simp at h
 | x :: xs, 0, v, h => by simp [vB]; omega
 | x :: xs, k + 1, v, h => by
  have := zL B xs k v (by simpa using h)
  simp only [List.set_cons_succ, vB, List.getD_cons_succ, Nat.pow_succ]
  have h2 := congrArg (B * ·) this
  simp only [Nat.mul_add] at h2
  rw [Nat.mul_comm (B ^ k) B, Nat.mul_assoc, Nat.mul_assoc]
  omega
def lZ : List Nat → List Nat
 | [] => []
 | x :: xs => x % HB :: x / HB :: lZ xs
theorem nZ (xs : List Nat) : (lZ xs).length = 2 * xs.length := by
 induction xs with
 | nil => rfl
 | cons x xs ih => simp only [lZ, List.length_cons, ih]; omega
theorem Dt {xs : List Nat} (h : Wd xs) : WdB HB (lZ xs) := by
 induction xs with
 | nil => intro y hy; simp [lZ] at hy
 | cons x xs ih =>
  intro y hy
  simp only [lZ, List.mem_cons] at hy
  rcases hy with rfl | rfl | hy
  ·exact Nat.mod_lt _ (by decide)
  ·refine Nat.div_lt_of_lt_mul ?_; exact h.head
  ·exact ih h.tail y hy
theorem zM (xs : List Nat) : vB HB (lZ xs) = val xs := by
 induction xs with
 | nil => rfl
 | cons x xs ih =>
  simp only [lZ, vB, val, ih]
  have := Nat.mod_add_div x HB
  rw [Nat.mul_add, ← Nat.mul_assoc, show HB * HB = WB from rfl]
  omega
theorem Js (xs : List Nat) (x : Nat) : lZ (xs ++ [x]) = lZ xs ++ [x % HB, x / HB] := by
 induction xs with
 | nil => rfl
 | cons y ys ih => simp only [List.cons_append, lZ, ih]
theorem zN (n : Nat) (h : n < WB) : Go.bits .and .u64 (n : Int) 4294967295 = ((n % HB : Nat) : Int) := FI n h
theorem Jt {xs : List Nat} (hx : Wd xs) (hl : xs.length ≤ 100000000) : ∀ d i, i + d = xs.length →
  Ev (fun k => bf.l0 k (toI xs) (xs.length : Int) (toI (lZ (xs.take i) ++ List.replicate (2 * d) 0)) (i : Int)) (toI (lZ xs)) := by
 intro d
 induction d with
 | zero =>
  intro i hi
  refine Ev.one fun k => ?_
  rw [bf.l0, if_neg (by omega), List.take_of_length_le (by omega)]
  simp
 | succ d ih =>
  intro i hi
  have hlt : i < xs.length := by omega
  have c1 : (i : Int) < (xs.length : Int) := by omega
  have c2 : (0 : Int) ≤ (i : Int) := by omega
  have hlen : (lZ (xs.take i) ++ List.replicate (2 * (d + 1)) 0).length = 2 * xs.length := by
   rw [List.length_append, nZ, List.length_take, List.length_replicate]; omega
  have c3 : (0 : Int) ≤ ((2 * i : Nat) : Int) := by omega
  have c4 : ((2 * i : Nat) : Int) < ((2 * xs.length : Nat) : Int) := by omega
  have c5 : (0 : Int) ≤ ((2 * i + 1 : Nat) : Int) := by omega
  have c6 : ((2 * i + 1 : Nat) : Int) < ((2 * xs.length : Nat) : Int) := by omega
  have c7 : i + 1 + d = xs.length := by omega
  have c8 : i < 1000000000000000000 := by omega
  have c9 : 2 * i < 1000000000000000000 := by omega
  have hdl : (lZ (xs.take i)).length = 2 * i := by rw [nZ, List.length_take]; omega
  have hset : ((lZ (xs.take i) ++ List.replicate (2 * (d + 1)) 0).set (2 * i) (xs.getD i 0 % HB)).set (2 * i + 1) (xs.getD i 0 / HB) = lZ (xs.take (i + 1)) ++ List.replicate (2 * d) 0 := by
   rw [show 2 * (d + 1) = 2 * d + 1 + 1 by omega, List.replicate_succ, List.replicate_succ, List.set_append_right _ _ (by omega), List.set_append_right _ _ (by omega), hdl, o_ xs i hlt, Js, show 2 * i - 2 * i = 0 by omega, show 2 * i + 1 - 2 * i = 1 by omega]
   simp
  have e1 : wrap64 (2 * (i : Int)) = ((2 * i : Nat) : Int) := by rw [w64 (by omega) (by omega)]; omega
  have e2 := lS c9
  have e3 := lS c8
  have e4 : ((xs.getD i 0 : Nat) : Int) / 4294967296 = ((xs.getD i 0 / HB : Nat) : Int) := by rw [Int.natCast_ediv]; rfl
  have := ih (i + 1) c7
  refine Ev.step (f := fun k => bf.l0 k (toI xs) (xs.length : Int) (toI (lZ (xs.take (i + 1)) ++ List.replicate (2 * d) 0)) ((i + 1 : Nat) : Int)) (fun k => ?_) this
  rw [bf.l0, if_pos c1, if_pos c2, bQ, if_pos c1]
  simp only [e1, e2, e3, bQ, hlen, jo]
  rw [if_pos c3, if_pos c4, if_pos c5, if_pos c6, zN _ (hx.get i), jT, e4, jT, hset]
theorem wG {a : Nat} (h : (toW a).length ≤ 10000000) : Ev (fun k => bf.f k (wI a)) (toI (lZ (toW a))) := by
 unfold bf.f
 refine Ev.bind (nU (by unfold nJ; omega)) ?_
 have e1 : wrap64 (2 * ((toW a).length : Int)) = ((2 * (toW a).length : Nat) : Int) := by rw [w64 (by omega) (by omega)]; omega
 have c1 : (0 : Int) ≤ ((2 * (toW a).length : Nat) : Int) := by omega
 have c2 : ((2 * (toW a).length : Nat) : Int).toNat ≤ 35184372088832 := by omega
 have := Jt (iw a) (by omega) (toW a).length 0 (by omega)
 rw [e1, oN]
 exact Ev.pos c1 (Ev.pos c2 this)
theorem OQ (k : Nat) : HB ^ (2 * k) = WB ^ k := by rw [Nat.pow_mul, show HB ^ 2 = WB from rfl]
theorem LW {ds : List Nat} (hd : WdB HB ds) (hl : ds.length ≤ 100000000) : ∀ d i, i + d = ds.length → ∀ zs : List Nat, Wd zs → zs.length = (ds.length + 1) / 2 → val zs = vB HB (ds.take i) →
  Ev (fun k => bg.l0 k (toI ds) (toI zs) (i : Int)) (wI (vB HB ds)) := by
 intro d
 induction d with
 | zero =>
  intro i hi zs hw hz hv
  refine Ev.one fun k => ?_
  rw [bg.l0, bQ, if_neg (by omega), pO hw (by omega), hv, List.take_of_length_le (by omega)]
  rfl
 | succ d ih =>
  intro i hi zs hw hz hv
  have hlt : i < ds.length := by omega
  have c1 : (i : Int) < (ds.length : Int) := by omega
  have c2 : (0 : Int) ≤ (i : Int) := by omega
  have c3 : (0 : Int) ≤ ((i / 2 : Nat) : Int) := by omega
  have c4 : ((i / 2 : Nat) : Int) < (zs.length : Int) := by omega
  have c4' : i / 2 < zs.length := by omega
  have c5 : (0 : Int) ≤ ((32 * (i % 2) : Nat) : Int) := by omega
  have c6 : 32 * (i % 2) < 64 := by omega
  have c7 : i + 1 + d = ds.length := by omega
  have c8 : i < 1000000000000000000 := by omega
  have c9 : 2 * (i / 2) + i % 2 = i := by omega
  have e1 : wrap64 (Int.tdiv (i : Int) 2) = ((i / 2 : Nat) : Int) := by rw [Int.tdiv_eq_ediv_of_nonneg (by omega), w64 (by omega) (by omega)]; omega
  have e2 : wrap64 (32 * (Int.tmod (i : Int) 2)) = ((32 * (i % 2) : Nat) : Int) := by rw [Int.tmod_eq_emod_of_nonneg (by omega), w64 (by omega) (by omega)]; omega
  have hm2 : i % 2 < 2 := by omega
  have hdi := hd.get (by decide) i
  have hword := Io hw (i / 2)
  have hvl : vB HB (ds.take i) < HB ^ i := by
   have := Tj (B := HB) (xs := ds.take i) fun x hx => hd x (List.mem_of_mem_take hx)
   rwa [List.length_take, Nat.min_eq_left (by omega)] at this
  have hpow : HB ^ i = WB ^ (i / 2) * HB ^ (i % 2) := by rw [← OQ, ← Nat.pow_add, c9]
  have hsm : zs.getD (i / 2) 0 < HB ^ (i % 2) := by
   rw [hword, hv]
   refine Nat.lt_of_le_of_lt (Nat.mod_le _ _) (Nat.div_lt_of_lt_mul ?_)
   rwa [← hpow]
  have hvs := Ip c4' (zs.getD (i / 2) 0 + ds.getD i 0 * HB ^ (i % 2))
  have hts := lU HB ds i
  have hor : Go.bits .or .u64 ((zs.getD (i / 2) 0 : Nat) : Int) (shl .u64 ((ds.getD i 0 : Nat) : Int) ((32 * (i % 2) : Nat) : Int)) = ((zs.getD (i / 2) 0 + ds.getD i 0 * HB ^ (i % 2) : Nat) : Int) ∧ zs.getD (i / 2) 0 + ds.getD i 0 * HB ^ (i % 2) < WB := by
   have hp : HB ^ (i % 2) = 2 ^ (32 * (i % 2)) := by rw [show HB = 2 ^ 32 from rfl, ← Nat.pow_mul]
   have hprod : ds.getD i 0 * HB ^ (i % 2) + HB ^ (i % 2) ≤ WB := by
    have h1 : (ds.getD i 0 + 1) * HB ^ (i % 2) ≤ HB * HB ^ (i % 2) := Nat.mul_le_mul_right _ hdi
    have h2 : HB * HB ^ (i % 2) ≤ WB := by
     have : HB ^ (i % 2) ≤ HB ^ 1 := Nat.pow_le_pow_right (by decide) (by omega)
     exact Nat.mul_le_mul_left HB this
    rw [Nat.add_mul, Nat.one_mul] at h1
    exact Nat.le_trans h1 h2
   have hlt2 : ds.getD i 0 * HB ^ (i % 2) < WB := Nat.lt_of_lt_of_le (Nat.lt_add_of_pos_right (Nat.pow_pos (by decide))) hprod
   have hsum : zs.getD (i / 2) 0 + ds.getD i 0 * HB ^ (i % 2) < WB := by
    refine Nat.lt_of_lt_of_le ?_ hprod
    rw [Nat.add_comm]
    exact Nat.add_lt_add_left hsm _
   rw [hp] at hsm hlt2 hsum ⊢
   refine ⟨?_, hsum⟩
   rw [uZ _ _ (Nat.le_of_lt c6), Gm _ _ _ hsm c6 (Nat.lt_of_lt_of_le hdi (by decide)), Nat.mod_eq_of_lt hlt2]
  have hv2 : val (zs.set (i / 2) (zs.getD (i / 2) 0 + ds.getD i 0 * HB ^ (i % 2))) = vB HB (ds.take (i + 1)) := by
   rw [hts, hpow, Nat.mul_assoc, Nat.mul_comm (HB ^ (i % 2)) (ds.getD i 0), ← hv]
   rw [Nat.mul_add] at hvs
   omega
  have e3 := lS c8
  have e4 := rJ (s := 32 * (i % 2)) (Nat.lt_trans c6 (by decide))
  have := ih (i + 1) c7 _ (hw.set _ _ hor.2) (by rw [List.length_set]; exact hz) hv2
  refine Ev.step (f := fun k => bg.l0 k (toI ds) (toI (zs.set (i / 2) (zs.getD (i / 2) 0 + ds.getD i 0 * HB ^ (i % 2)))) ((i + 1 : Nat) : Int)) (fun k => ?_) this
  rw [bg.l0, bQ, if_pos c1]
  simp only [e1, e2, e3, e4, bQ, jo]
  rw [if_pos c3, if_pos c4, if_pos c2, if_pos c5, hor.1, jT]
theorem Eo {ds : List Nat} (hd : WdB HB ds) (hl : ds.length ≤ 100000000) : Ev (fun k => bg.f k (toI ds)) (wI (vB HB ds)) := by
 unfold bg.f
 have e1 : wrap64 (Int.tdiv (wrap64 (((toI ds).length : Int) + 1)) 2) = (((ds.length + 1) / 2 : Nat) : Int) := by
  rw [bQ, w64 (x := (ds.length : Int) + 1) (by omega) (by omega), Int.tdiv_eq_ediv_of_nonneg (by omega), w64 (by omega) (by omega)]; omega
 have c1 : (0 : Int) ≤ (((ds.length + 1) / 2 : Nat) : Int) := by omega
 have c2 : (((ds.length + 1) / 2 : Nat) : Int).toNat ≤ 35184372088832 := by omega
 have := LW hd hl ds.length 0 (by omega) (List.replicate ((ds.length + 1) / 2) 0) (Wd.replicate _) (by simp) (by rw [jE]; rfl)
 rw [e1, oN]
 exact Ev.pos c1 (Ev.pos c2 this)
theorem LX {H x y p c : Nat} (hx : x < H) (hy : y < H) (hp : p < H) (hc : c < H) : x * y + p + c < H * H := by
 obtain ⟨h, rfl⟩ : ∃ h, H = h + 1 := ⟨H - 1, by omega⟩
 have h1 : x * y ≤ h * h := Nat.mul_le_mul (by omega) (by omega)
 have h2 : (h + 1) * (h + 1) = h * h + h + h + 1 := by rw [Nat.add_mul, Nat.mul_add]; omega
 omega
theorem Ju {H P V V' Y t p c x y : Nat} (ht : t = x * y + p + c) (h1 : V' + P * p = V + P * (t % H)) : V' + t / H * (P * H) = V + P * (x * y) + c * P := by
 have h2 := Nat.mod_add_div t H
 have h3 : P * (t % H) + P * (H * (t / H)) = P * (x * y) + P * p + P * c := by rw [← Nat.mul_add, h2, ht, Nat.mul_add, Nat.mul_add]
 have h4 : t / H * (P * H) = P * (H * (t / H)) := by rw [Nat.mul_comm, Nat.mul_assoc]
 have h5 : c * P = P * c := Nat.mul_comm _ _
 omega
theorem Ep {V V' V0 P Pi Pj x y Y c c' H : Nat} (h1 : V' + c' * (P * H) = V + P * (x * y) + c * P) (h2 : V + c * P = V0 + x * Y * Pi) (hP : P = Pj * Pi) : V' + c' * (P * H) = V0 + x * (Y + Pj * y) * Pi := by
 have h3 : P * (x * y) = x * (Pj * y) * Pi := by rw [hP, Nat.mul_left_comm x Pj y, Nat.mul_right_comm]
 rw [h1, Nat.mul_add, Nat.add_mul, h3]
 omega
theorem OT {a b : Nat} (h : a * b < 18446744073709551616) : IntKind.u64.wrap ((a : Int) * (b : Int)) = ((a * b : Nat) : Int) := by rw [← Int.natCast_mul]; exact rJ h
theorem LY {a b : Nat} (h : a + b < 18446744073709551616) : IntKind.u64.wrap ((a : Int) + (b : Int)) = ((a + b : Nat) : Int) := by rw [← Int.natCast_add]; exact rJ h
theorem OU {xs ys : List Nat} (hx : WdB HB xs) (hy : WdB HB ys) (hlx : xs.length ≤ 10000000) (hly : ys.length ≤ 10000000) (i : Nat) (hi : i < xs.length) (V0 : Nat) {r : List Int}
  (hend : ∀ (ps : List Nat) (c : Nat), WdB HB ps → ps.length = xs.length + ys.length → c < HB → vB HB ps + c * HB ^ (i + ys.length) = V0 + xs.getD i 0 * vB HB ys * HB ^ i → (∀ m, i + ys.length ≤ m → ps.getD m 0 = 0) →
   Ev (fun k => aG.l1 k (toI xs) (toI ys) (toI ps) (i : Int) (c : Int) (ys.length : Int)) r) :
  ∀ d j, j + d = ys.length → ∀ (ps : List Nat) (c : Nat), WdB HB ps → ps.length = xs.length + ys.length → c < HB → vB HB ps + c * HB ^ (i + j) = V0 + xs.getD i 0 * vB HB (ys.take j) * HB ^ i → (∀ m, i + ys.length ≤ m → ps.getD m 0 = 0) →
   Ev (fun k => aG.l1 k (toI xs) (toI ys) (toI ps) (i : Int) (c : Int) (j : Int)) r := by
 intro d
 induction d with
 | zero =>
  intro j hj ps c h1 h2 h3 h4 h5
  have : j = ys.length := by omega
  subst this
  rw [List.take_of_length_le (Nat.le_refl _)] at h4
  exact hend ps c h1 h2 h3 h4 h5
 | succ d ih =>
  intro j hj ps c h1 h2 h3 h4 h5
  have c1 : (j : Int) < (ys.length : Int) := by omega
  have c2 : (0 : Int) ≤ (i : Int) := by omega
  have c3 : (i : Int) < (xs.length : Int) := by omega
  have c4 : (0 : Int) ≤ (j : Int) := by omega
  have c5 : (0 : Int) ≤ ((j + i : Nat) : Int) := by omega
  have c6 : ((j + i : Nat) : Int) < (ps.length : Int) := by omega
  have c6' : j + i < ps.length := by omega
  have c7 : j + 1 + d = ys.length := by omega
  have c8 : j < 1000000000000000000 := by omega
  have c9 : i < 1000000000000000000 := by omega
  have q1 : i + (j + 1) = (j + i) + 1 := by omega
  have q2 : i + j = j + i := by omega
  have q3 : ∀ m, i + ys.length ≤ m → j + i ≠ m := fun m hm => by omega
  rw [q2] at h4
  have hxi := hx.get (by decide) i
  have hyj := hy.get (by decide) j
  have hp := h1.get (by decide) (j + i)
  have ht := LX hxi hyj hp h3
  have hW : HB * HB = 18446744073709551616 := rfl
  have e1 := OH c9 c8
  have e2 := lS c8
  have hvs := zL HB ps (j + i) ((xs.getD i 0 * ys.getD j 0 + ps.getD (j + i) 0 + c) % HB) c6'
  have hpv := Ju (Y := 0) rfl hvs
  have hts := lU HB ys j
  have hW1 : xs.getD i 0 * ys.getD j 0 < 18446744073709551616 := by
   rw [← hW]; exact Nat.lt_of_le_of_lt (Nat.le_trans (Nat.le_add_right _ _) (Nat.le_add_right _ _)) ht
  have hW2 : xs.getD i 0 * ys.getD j 0 + ps.getD (j + i) 0 < 18446744073709551616 := by
   rw [← hW]; exact Nat.lt_of_le_of_lt (Nat.le_add_right _ _) ht
  have hW3 : xs.getD i 0 * ys.getD j 0 + ps.getD (j + i) 0 + c < 18446744073709551616 := by rw [← hW]; exact ht
  have hdiv : (((xs.getD i 0 * ys.getD j 0 + ps.getD (j + i) 0 + c : Nat)) : Int) / 4294967296 = (((xs.getD i 0 * ys.getD j 0 + ps.getD (j + i) 0 + c) / HB : Nat) : Int) := by rw [Int.natCast_ediv]; rfl
  have hcy : (xs.getD i 0 * ys.getD j 0 + ps.getD (j + i) 0 + c) / HB < HB := Nat.div_lt_of_lt_mul ht
  have hnew := ih (j + 1) c7 (ps.set (j + i) ((xs.getD i 0 * ys.getD j 0 + ps.getD (j + i) 0 + c) % HB)) ((xs.getD i 0 * ys.getD j 0 + ps.getD (j + i) 0 + c) / HB) (h1.set _ _ (Nat.mod_lt _ (by decide))) (by rw [List.length_set]; exact h2) hcy (by
    rw [q1, Nat.pow_succ, hts]
    exact Ep hpv h4 (Nat.pow_add _ _ _)) (fun m hm => by rw [getD_set_ne _ _ _ _ (q3 m hm)]; exact h5 m hm)
  refine Ev.step (f := fun k => aG.l1 k (toI xs) (toI ys) (toI (ps.set (j + i) ((xs.getD i 0 * ys.getD j 0 + ps.getD (j + i) 0 + c) % HB))) (i : Int) (((xs.getD i 0 * ys.getD j 0 + ps.getD (j + i) 0 + c) / HB : Nat) : Int) ((j + 1 : Nat) : Int)) (fun k => ?_) hnew
  rw [aG.l1, bQ, if_pos c1]
  simp only [e1, e2, bQ, jo]
  rw [if_pos c2, if_pos c3, if_pos c4, if_pos c5, if_pos c6, OT hW1, LY hW2, LY hW3, zN _ hW3, jT, hdiv]
theorem OV {xs ys : List Nat} (hx : WdB HB xs) (hy : WdB HB ys) (hlx : xs.length ≤ 10000000) (hly : ys.length ≤ 10000000) : ∀ d i, i + d = xs.length → ∀ (ps : List Nat), WdB HB ps → ps.length = xs.length + ys.length → vB HB ps = vB HB (xs.take i) * vB HB ys → (∀ m, i + ys.length ≤ m → ps.getD m 0 = 0) →
  Ev (fun k => aG.l0 k (toI xs) (toI ys) (toI ps) (i : Int)) (wI (vB HB xs * vB HB ys)) := by
 intro d
 induction d with
 | zero =>
  intro i hi ps h1 h2 h3 h4
  rw [List.take_of_length_le (by omega)] at h3
  have hw := Eo h1 (by omega)
  rw [h3] at hw
  have c1 : ¬ ((i : Int) < (xs.length : Int)) := by omega
  refine Ev.step (f := fun k => (bg.f k (toI ps)).bind fun t392 => (some t392)) (fun k => ?_) (Ev.bind hw (Ev.now _))
  rw [aG.l0, bQ, if_neg c1]
 | succ d ih =>
  intro i hi ps h1 h2 h3 h4
  have hlt : i < xs.length := by omega
  have c1 : (i : Int) < (xs.length : Int) := by omega
  have c2 : ¬ ((ys.length : Int) < (ys.length : Int)) := by omega
  have c3 : (0 : Int) ≤ ((ys.length + i : Nat) : Int) := by omega
  have c5 : i < 1000000000000000000 := by omega
  have c6 : ys.length < 1000000000000000000 := by omega
  have c7 : i + 1 + d = xs.length := by omega
  have q6 : ∀ m, i + 1 + ys.length ≤ m → i + ys.length ≤ m := fun m hm => by omega
  have e1 := OH c5 c6
  have e2 := lS c5
  have hts := lU HB xs i
  refine Ev.step (f := fun k => aG.l1 k (toI xs) (toI ys) (toI ps) (i : Int) ((0 : Nat) : Int) ((0 : Nat) : Int)) (fun k => by rw [aG.l0, bQ, if_pos c1]; rfl) ?_
  refine OU hx hy hlx hly i hlt (vB HB ps) (fun qs c g1 g2 g3 g4 g5 => ?_) ys.length 0 (Nat.zero_add _) ps 0 h1 h2 (by decide) (by simp [vB]) h4
  by_cases h0 : 0 < ys.length
  ·have c4 : ((ys.length + i : Nat) : Int) < (qs.length : Int) := by omega
   have c4' : ys.length + i < qs.length := by omega
   have q4 : ys.length + i = i + ys.length := Nat.add_comm _ _
   have q5 : ∀ m, i + 1 + ys.length ≤ m → ys.length + i ≠ m := fun m hm => by omega
   have hz := g5 (ys.length + i) (Nat.le_of_eq q4.symm)
   have hvs := zL HB qs (ys.length + i) c c4'
   rw [hz, Nat.mul_zero, Nat.add_zero, q4] at hvs
   have := ih (i + 1) c7 (qs.set (ys.length + i) c) (g1.set _ _ g3) (by rw [List.length_set]; exact g2) (by
    rw [q4, hvs, hts, Nat.add_mul, ← h3, Nat.mul_comm (HB ^ (i + ys.length)) c, g4, Nat.mul_comm (HB ^ i), Nat.mul_right_comm]) (fun m hm => by rw [getD_set_ne _ _ _ _ (q5 m hm)]; exact g5 m (q6 m hm))
   refine Ev.step (f := fun k => aG.l0 k (toI xs) (toI ys) (toI (qs.set (ys.length + i) c)) ((i + 1 : Nat) : Int)) (fun k => ?_) this
   rw [aG.l1]
   simp only [bQ, e1, e2]
   rw [if_neg c2, if_pos (show (ys.length : Int) > 0 from Int.natCast_pos.2 h0), if_pos c3, if_pos c4, jT]
  ·have hy0 : ys = [] := List.length_eq_zero_iff.1 (Nat.eq_zero_of_not_pos h0)
   subst hy0
   have hc0 : c = 0 := by
    simp only [vB, Nat.mul_zero, Nat.zero_mul, Nat.add_zero, List.length_nil] at g4 h3
    rcases Nat.eq_zero_or_pos c with h | h
    ·exact h
    ·have := Nat.pow_pos (n := i) (show 0 < HB by decide)
     have h6 := Nat.mul_pos h this
     omega
   subst hc0
   have := ih (i + 1) c7 qs g1 g2 (by rw [hts]; simp only [vB, Nat.mul_zero, Nat.zero_mul, Nat.add_zero] at *; rw [g4, h3]) (fun m hm => g5 m (q6 m hm))
   refine Ev.step (f := fun k => aG.l0 k (toI xs) (toI []) (toI qs) ((i + 1 : Nat) : Int)) (fun k => ?_) this
   rw [aG.l1]
   simp only [bQ, e2]
   rw [if_neg c2, if_neg (by decide)]
theorem zO {a b : Nat} (ha : (toW a).length ≤ 1000000) (hb : (toW b).length ≤ 1000000) : Ev (fun k => aG.f k (wI a) (wI b)) (wI (a * b)) := by
 unfold aG.f
 refine Ev.bind (wG (by omega)) (Ev.bind (wG (by omega)) ?_)
 have hl1 := nZ (toW a)
 have hl2 := nZ (toW b)
 have e1 : wrap64 (((toI (lZ (toW a))).length : Int) + ((toI (lZ (toW b))).length : Int)) = (((lZ (toW a)).length + (lZ (toW b)).length : Nat) : Int) := by
  rw [bQ, bQ, w64 (by omega) (by omega)]; omega
 have c1 : (0 : Int) ≤ (((lZ (toW a)).length + (lZ (toW b)).length : Nat) : Int) := by omega
 have c2 : (((lZ (toW a)).length + (lZ (toW b)).length : Nat) : Int).toNat ≤ 35184372088832 := by omega
 have := OV (Dt (iw a)) (Dt (iw b)) (by omega) (by omega) (lZ (toW a)).length 0 (by omega) (List.replicate ((lZ (toW a)).length + (lZ (toW b)).length) 0) (WdB.rep (by decide) _) (by simp) (by rw [Q7]; simp [vB]) (fun m _ => by
  rw [List.getD_eq_getElem?_getD, List.getElem?_replicate]; split <;> rfl)
 rw [zM, zM, dB, dB] at this
 rw [e1, oN]
 exact Ev.pos c1 (Ev.pos c2 this)
theorem LZ {a b : Nat} (ha : (toW a).length ≤ 1000000) (hb : (toW b).length ≤ 1000000) : Ev (fun k => dS.f k (wI a) (wI b)) (wI (a * b)) := by
 unfold dS.f
 exact Ev.bind (zO ha hb) (Ev.now _)
theorem BL {b : Nat} (h0 : b ≠ 0) (h : b < WB) : wI b = [(b : Int)] := by
 unfold wI
 rw [lT h0, Nat.mod_eq_of_lt h, Nat.div_eq_of_lt h, gZ]
 rfl
theorem Q8 {b n : Nat} (h2 : 2 ≤ b) (hb : b < WB) (hn : n ≤ 20000) (hf : gY (b ^ n)) : ∀ d i, i + d = n → Ev (fun k => aH.l0 k (b : Int) (n : Int) (wI (b ^ i)) (i : Int)) (wI (b ^ n), 0) := by
 intro d
 induction d with
 | zero =>
  intro i hi
  have hin : i = n := by omega
  subst hin
  have c1 : ¬ ((i : Int) < (i : Int)) := by omega
  refine Ev.step (f := fun k => aH.j2 k (b : Int) (i : Int) (wI (b ^ i)) (i : Int) false) (fun k => by rw [aH.l0, if_neg c1]) ?_
  exact Ev.one fun k => by rw [aH.j2, if_neg (by decide)]
 | succ d ih =>
  intro i hi
  have c1 : (i : Int) < (n : Int) := by omega
  have c2 : i < 1000000000000000000 := by omega
  have c3 : i + 1 + d = n := by omega
  have c4 : ((b : Int) != 1) = true := by simp; omega
  have hfi : (toW (b ^ i)).length ≤ 1024 := Nat.le_trans (gU (Nat.pow_le_pow_right (by omega) (by omega))) hf
  have hfi1 : (toW (b ^ (i + 1))).length ≤ 1024 := Nat.le_trans (gU (Nat.pow_le_pow_right (by omega) (by omega))) hf
  have hp0 : b ^ (i + 1) ≠ 0 := Nat.pos_iff_ne_zero.1 (Nat.pow_pos (by omega))
  have hpl := iJ hp0
  have hw1 := BL (b := b) (by omega) hb
  have hb1 : (toW b).length ≤ 1000000 := by rw [← gJ, hw1]; simp
  have hprod := zO (a := b ^ i) (b := b) (by omega) hb1
  rw [← Nat.pow_succ, hw1] at hprod
  have c5 : ¬ (((wI (b ^ (i + 1))).length : Int) > 1024) := by rw [gJ]; omega
  have c6 : ¬ (((wI (b ^ (i + 1))).length : Int) = 0) := by rw [gJ]; omega
  refine Ev.step (f := fun k => aH.j2 k (b : Int) (n : Int) (wI (b ^ i)) (i : Int) true) (fun k => by rw [aH.l0, if_pos c1, c4]) ?_
  refine Ev.step (f := fun k => (aG.f k (wI (b ^ i)) (([(b : Int)] : List Int))).bind fun t409 => (if (t409.length : Int) > 1024 then (some (([] : List Int), 5)) else (if (t409.length : Int) = 0 then (some (t409, 0)) else (aH.l0 k (b : Int) (n : Int) t409 ((i + 1 : Nat) : Int))))) (fun k => by rw [aH.j2, if_pos rfl, lS c2]) ?_
  exact Ev.bind hprod (Ev.neg c5 (Ev.neg c6 (ih (i + 1) c3)))
theorem L6 {b n : Nat} (h2 : 2 ≤ b) (hb : b < WB) (hn : n ≤ 20000) (hf : gY (b ^ n)) : Ev (fun k => aH.f k (b : Int) (n : Int)) (wI (b ^ n), 0) := by
 unfold aH.f
 have c1 : ¬ ((n : Int) < 0) := by omega
 have c2 : decide ((n : Int) > 20000) = false := by simp; omega
 refine Ev.neg c1 ?_
 rw [c2]
 have := Q8 h2 hb hn hf n 0 (by omega)
 rw [Nat.pow_zero, show wI 1 = [1] by unfold wI; rw [lD]; rfl] at this
 exact Ev.step (f := fun k => aH.l0 k (b : Int) (n : Int) [1] 0) (fun k => by rw [aH.j0, if_neg (by decide)]) this
theorem L8 {n : Nat} (hn : n ≤ 20000) (hf : gY (10 ^ n)) : Ev (fun k => dU.f k (n : Int)) (wI (10 ^ n)) := by
 unfold dU.f
 exact Ev.bind (L6 (b := 10) (by decide) (by decide) hn hf) (Ev.now _)
end Go.Proofs.YtafikkmnkeddpaaGreatDoor.P
namespace Go.Proofs.YtafikkmnkeddpaaGreatDoor.P
open Go.RowKit Go.Proofs.YtafikkmnkeddpaaGreatDoorW.PrintWords Go.Proofs.YtafikkmnkeddpaaGreatDoorW.PrintLast Go.Proofs.YtafikkmnkeddpaaGreatDoorW.PrintMore
def byt (s : ByteArray) (i : Nat) : Nat := (s.data.toList.getD i 0).toNat
theorem kT (s : ByteArray) (i : Nat) : bt s (i : Int) = ((byt s i : Nat) : Int) := by
 unfold bt byt
 by_cases h : i < s.size
 ·have h' : (i : Int).toNat < s.size := by rw [Int.toNat_natCast]; exact h
  rw [dif_pos h']
  congr 2
  rw [List.getD_eq_getElem?_getD, Lib.data_getElem? s i h]
  rfl
 ·have h' : ¬ (i : Int).toNat < s.size := by rw [Int.toNat_natCast]; exact h
  rw [dif_neg h', List.getD_eq_getElem?_getD, List.getElem?_eq_none (by rw [Array.length_toList]; exact Nat.le_of_not_lt h)]
  rfl
theorem L9 (s : ByteArray) {i : Nat} (h : i < s.size) : s.data.toList.take (i + 1) = s.data.toList.take i ++ [s.data.toList.getD i 0] := by
 have h' : i < s.data.toList.length := by rw [Array.length_toList]; exact h
 rw [List.take_succ_eq_append_getElem h', List.getD_eq_getElem?_getD, List.getElem?_eq_getElem h']
 rfl
theorem zQ (s : ByteArray) {i : Nat} (h : i < s.size) : dK (s.data.toList.take (i + 1)) = 10 * dK (s.data.toList.take i) + (byt s i - 48) := by
 rw [L9 s h, xu]; rfl
theorem OW {s : ByteArray} (hd : rV s.data.toList) {i : Nat} (h : i < s.size) : 48 ≤ byt s i ∧ byt s i ≤ 57 := by
 have h' : i < s.data.toList.length := by rw [Array.length_toList]; exact h
 unfold byt
 rw [List.getD_eq_getElem?_getD, List.getElem?_eq_getElem h']
 exact hd _ (List.getElem_mem h')
theorem Gq {H P V V' Vt V0 d t S c pc : Nat} (ht : t = d * S + c) (h1 : V' + P * d = V + P * (t % H)) (h2 : V + c * P + Vt = Vt * S + pc + V0) : V' + t / H * (P * H) + (Vt + P * d) = (Vt + P * d) * S + pc + V0 := by
 have h3 := Nat.mod_add_div t H
 have h4 : P * (t % H) + P * (H * (t / H)) = P * (d * S) + P * c := by rw [← Nat.mul_add, h3, ht, Nat.mul_add]
 have h5 : t / H * (P * H) = P * (H * (t / H)) := by rw [Nat.mul_comm, Nat.mul_assoc]
 have h6 : c * P = P * c := Nat.mul_comm _ _
 have h7 : (Vt + P * d) * S = Vt * S + P * (d * S) := by rw [Nat.add_mul, Nat.mul_assoc]
 omega
theorem L_ (s : ByteArray) (i : Nat) (S pc : Nat) (hS : S ≤ 1000000000) (hpc : pc < HB) (ds0 : List Nat) {r : List Int × Int}
  (hend : ∀ (ds : List Nat) (c : Nat), WdB HB ds → ds.length = ds0.length → c < HB → vB HB ds + c * HB ^ ds0.length = vB HB ds0 * S + pc → Ev (fun k => au.l1 k s (toI ds) (S : Int) (i : Int) (c : Int) (ds0.length : Int)) r) (hl0 : ds0.length ≤ 1000000) :
  ∀ d j, j + d = ds0.length → ∀ (ds : List Nat) (c : Nat), WdB HB ds → ds.length = ds0.length → c < HB → vB HB ds + c * HB ^ j + vB HB (ds0.take j) = vB HB (ds0.take j) * S + pc + vB HB ds0 → (∀ m, j ≤ m → ds.getD m 0 = ds0.getD m 0) →
   Ev (fun k => au.l1 k s (toI ds) (S : Int) (i : Int) (c : Int) (j : Int)) r := by
 intro d
 induction d with
 | zero =>
  intro j hj ds c h1 h2 h3 h4 h5
  have : j = ds0.length := by omega
  subst this
  rw [List.take_of_length_le (Nat.le_refl _)] at h4
  exact hend ds c h1 h2 h3 (by omega)
 | succ d ih =>
  intro j hj ds c h1 h2 h3 h4 h5
  have c1 : (j : Int) < (ds.length : Int) := by omega
  have c1' : j < ds.length := by omega
  have c2 : (0 : Int) ≤ (j : Int) := by omega
  have c7 : j + 1 + d = ds0.length := by omega
  have c8 : j < 1000000000000000000 := by omega
  have q3 : ∀ m, j + 1 ≤ m → j ≠ m := fun m hm => by omega
  have q4 : ∀ m, j + 1 ≤ m → j ≤ m := fun m hm => by omega
  have hdj := h1.get (by decide) j
  have hS' : S ≤ HB := Nat.le_trans hS (by decide)
  have ht : ds.getD j 0 * S + c < HB * HB := by
   have e1 : ds.getD j 0 * S ≤ ds.getD j 0 * HB := Nat.mul_le_mul_left _ hS'
   have e2 : (ds.getD j 0 + 1) * HB ≤ HB * HB := Nat.mul_le_mul_right _ hdj
   rw [Nat.add_mul, Nat.one_mul] at e2
   exact Nat.lt_of_lt_of_le (Nat.add_lt_add_of_le_of_lt e1 h3) e2
  have hW : HB * HB = 18446744073709551616 := rfl
  have e2 := lS c8
  have hvs := zL HB ds j ((ds.getD j 0 * S + c) % HB) c1'
  have hts := lU HB ds0 j
  have hdd := h5 j (Nat.le_refl _)
  have hW1 : ds.getD j 0 * S < 18446744073709551616 := by rw [← hW]; exact Nat.lt_of_le_of_lt (Nat.le_add_right _ _) ht
  have hW3 : ds.getD j 0 * S + c < 18446744073709551616 := by rw [← hW]; exact ht
  have hdiv : (((ds.getD j 0 * S + c : Nat)) : Int) / 4294967296 = (((ds.getD j 0 * S + c) / HB : Nat) : Int) := by rw [Int.natCast_ediv]; rfl
  have hcy : (ds.getD j 0 * S + c) / HB < HB := Nat.div_lt_of_lt_mul ht
  have hnew := ih (j + 1) c7 (ds.set j ((ds.getD j 0 * S + c) % HB)) ((ds.getD j 0 * S + c) / HB) (h1.set _ _ (Nat.mod_lt _ (by decide))) (by rw [List.length_set]; exact h2) hcy (by
    rw [Nat.pow_succ, hts, ← hdd]
    exact Gq rfl hvs h4) (fun m hm => by rw [getD_set_ne _ _ _ _ (q3 m hm)]; exact h5 m (q4 m hm))
  refine Ev.step (f := fun k => au.l1 k s (toI (ds.set j ((ds.getD j 0 * S + c) % HB))) (S : Int) (i : Int) (((ds.getD j 0 * S + c) / HB : Nat) : Int) ((j + 1 : Nat) : Int)) (fun k => ?_) hnew
  rw [au.l1, bQ, if_pos c1, if_pos c2]
  simp only [e2, jo]
  rw [OT hW1, LY hW3, zN _ hW3, jT, hdiv]
theorem Mc {s : ByteArray} (hd : rV s.data.toList) (hs : s.size ≤ 20000) (hf : gY (dK s.data.toList)) : ∀ d i, i + d = s.size → ∀ (ds : List Nat) (pc S : Nat), WdB HB ds → ds.length ≤ i → pc < S → (i < s.size → S = 10 ^ (i % 9)) → (i = s.size → pc = 0 ∧ S = 1) → dK (s.data.toList.take i) = vB HB ds * S + pc →
  Ev (fun k => au.l0 k s (toI ds) (pc : Int) (S : Int) (i : Int)) (wI (dK s.data.toList), 0) := by
 intro d
 induction d with
 | zero =>
  intro i hi ds pc S h1 h2 h3 h4 h5 h6
  have hin : i = s.size := by omega
  subst hin
  obtain ⟨rfl, rfl⟩ := h5 rfl
  rw [List.take_of_length_le (by rw [Array.length_toList]; exact Nat.le_refl _), Nat.mul_one, Nat.add_zero] at h6
  have hw := Eo h1 (by omega)
  rw [← h6] at hw
  have c1 : ¬ ((s.size : Int) < (s.size : Int)) := by omega
  have c2 : ¬ (((wI (dK s.data.toList)).length : Int) > 1024) := by rw [gJ]; unfold gY at hf; omega
  refine Ev.step (f := fun k => (bg.f k (toI ds)).bind fun t346 => (if (t346.length : Int) > 1024 then (some (([] : List Int), 5)) else (some (t346, 0)))) (fun k => by rw [au.l0, if_neg c1]) ?_
  exact Ev.bind hw (Ev.neg c2 (Ev.now _))
 | succ d ih =>
  intro i hi ds pc S h1 h2 h3 h4 h5 h6
  have hlt : i < s.size := by omega
  have hb := OW hd hlt
  have hS := h4 hlt
  have hS9 : S ≤ 100000000 := by
   rw [hS]
   have : 10 ^ (i % 9) ≤ 10 ^ 8 := Nat.pow_le_pow_right (by decide) (by omega)
   exact this
  have c1 : (i : Int) < (s.size : Int) := by omega
  have c2 : (0 : Int) ≤ (i : Int) := by omega
  have c3 : ¬ (((byt s i : Nat) : Int) < 48) := by omega
  have c4 : decide (((byt s i : Nat) : Int) > 57) = false := by simp; omega
  have c5 : i < 1000000000000000000 := by omega
  have c6 : i + 1 + d = s.size := by omega
  have c7 : ds.length ≤ i + 1 := by omega
  have c8 : ds.length ≤ 1000000 := by omega
  have hpcn : 10 * pc + (byt s i - 48) < 10 * S := by omega
  have e1 : IntKind.u64.wrap ((IntKind.u64.wrap (10 * (pc : Int))) + ((((byt s i : Nat) : Int) - 48) % 256)) = ((10 * pc + (byt s i - 48) : Nat) : Int) := by
   rw [wue (10 * (pc : Int)), wue]; omega
  have e2 : IntKind.u64.wrap (10 * (S : Int)) = ((10 * S : Nat) : Int) := by rw [wue]; omega
  have e3 : Int.tmod (i : Int) 9 = ((i % 9 : Nat) : Int) := by rw [Int.tmod_eq_emod_of_nonneg (by omega)]; omega
  have e4 : wrap64 ((s.size : Int) - 1) = ((s.size - 1 : Nat) : Int) := by rw [w64 (by omega) (by omega)]; omega
  have hdv : dK (s.data.toList.take (i + 1)) = vB HB ds * (10 * S) + (10 * pc + (byt s i - 48)) := by
   rw [zQ s hlt, h6, Nat.mul_add, Nat.mul_left_comm 10]; omega
  have flush : (i % 9 = 8 ∨ i + 1 = s.size) → Ev (fun k => au.j2 k s (toI ds) ((10 * pc + (byt s i - 48) : Nat) : Int) ((10 * S : Nat) : Int) (i : Int) true) (wI (dK s.data.toList), 0) := by
   intro hfl
   refine Ev.step (f := fun k => au.l1 k s (toI ds) ((10 * S : Nat) : Int) (i : Int) ((10 * pc + (byt s i - 48) : Nat) : Int) ((0 : Nat) : Int)) (fun k => by rw [au.j2, if_pos rfl]; rfl) ?_
   have g1 : 10 * S ≤ 1000000000 := by omega
   have g2 : 10 * pc + (byt s i - 48) < HB := Nat.lt_of_lt_of_le hpcn (Nat.le_trans g1 (by decide))
   have g3 : i + 1 = s.size → (0 : Nat) = 0 ∧ (1 : Nat) = 1 := fun _ => ⟨rfl, rfl⟩
   have g4 : i + 1 < s.size → i % 9 = 8 → 1 = 10 ^ ((i + 1) % 9) := fun _ h => by rw [show (i + 1) % 9 = 0 by omega, Nat.pow_zero]
   have g5 : i + 1 < s.size → 1 = 10 ^ ((i + 1) % 9) := fun h => g4 h (by omega)
   refine L_ s i (10 * S) (10 * pc + (byt s i - 48)) g1 g2 ds (fun es c k1 k2 k3 k4 => ?_) c8 ds.length 0 (Nat.zero_add _) ds _ h1 rfl g2 (by simp [vB, Nat.add_comm]) (fun m _ => rfl)
   have n1 : ¬ ((ds.length : Int) < (es.length : Int)) := by omega
   by_cases h0 : 0 < c
   ·have n2 : es.length < 17592186044416 := by omega
    have n3 : (es ++ [c]).length ≤ i + 1 := by rw [List.length_append]; simp; omega
    have := ih (i + 1) c6 (es ++ [c]) 0 1 (fun y hy => by
     rcases List.mem_append.1 hy with hy | hy
     ·exact k1 y hy
     ·rw [List.mem_singleton.1 hy]; exact k3) n3 (by decide) g5 g3 (by
     rw [hdv, BK, k2, Nat.mul_one, Nat.add_zero, ← k4]; simp only [vB, Nat.mul_zero, Nat.add_zero]; rw [Nat.mul_comm c])
    refine Ev.step (f := fun k => au.l0 k s (toI (es ++ [c])) 0 1 ((i + 1 : Nat) : Int)) (fun k => ?_) this
    rw [au.l1, bQ, if_neg n1, if_pos (show (c : Int) > 0 from Int.natCast_pos.2 h0), if_pos n2, lS c5, uU]
   ·have hc0 : c = 0 := Nat.eq_zero_of_not_pos h0
    subst hc0
    have n3 : es.length ≤ i + 1 := by omega
    have := ih (i + 1) c6 es 0 1 k1 n3 (by decide) g5 g3 (by
     rw [hdv, Nat.mul_one, Nat.add_zero, ← k4, Nat.zero_mul, Nat.add_zero])
    refine Ev.step (f := fun k => au.l0 k s (toI es) 0 1 ((i + 1 : Nat) : Int)) (fun k => ?_) this
    rw [au.l1, bQ, if_neg n1, if_neg (by decide), lS c5]
  refine Ev.step (f := fun k => au.j1 k s (toI ds) (pc : Int) (S : Int) (i : Int) false) (fun k => by rw [au.l0, if_pos c1, if_pos c2, kT, if_neg c3, c4]) ?_
  have hj2 : ∀ b : Bool, Ev (fun k => au.j2 k s (toI ds) ((10 * pc + (byt s i - 48) : Nat) : Int) ((10 * S : Nat) : Int) (i : Int) b) (wI (dK s.data.toList), 0) → (∀ k, au.j1 (k + 1) s (toI ds) (pc : Int) (S : Int) (i : Int) false = au.j2 k s (toI ds) ((10 * pc + (byt s i - 48) : Nat) : Int) ((10 * S : Nat) : Int) (i : Int) b) → Ev (fun k => au.j1 k s (toI ds) (pc : Int) (S : Int) (i : Int) false) (wI (dK s.data.toList), 0) := fun b h1 h2 => Ev.step h2 h1
  by_cases h9 : i % 9 = 8
  ·refine hj2 true (flush (.inl h9)) fun k => ?_
   have n1 : ((i % 9 : Nat) : Int) = 8 := by rw [h9]; rfl
   rw [au.j1, if_neg (by decide), if_pos c2, if_pos c1, e3, if_pos n1, kT, e1, e2]
  ·have n1 : ¬ ((i % 9 : Nat) : Int) = 8 := fun h => h9 (Int.ofNat_inj.1 h)
   by_cases he : i + 1 = s.size
   ·refine hj2 true (flush (.inr he)) fun k => ?_
    have n2 : ((i : Int) == ((s.size - 1 : Nat) : Int)) = true := by rw [show s.size - 1 = i from by rw [← he]; rfl]; simp
    rw [au.j1, if_neg (by decide), if_pos c2, if_pos c1, e3, if_neg n1, kT, e1, e2, e4, n2]
   ·have n3 : i ≠ s.size - 1 := by clear e1 e2 e3 e4; omega
    have n2 : ((i : Int) == ((s.size - 1 : Nat) : Int)) = false := beq_eq_false_iff_ne.2 fun h => n3 (Int.ofNat_inj.1 h)
    have m1 : i + 1 < s.size → 10 * S = 10 ^ ((i + 1) % 9) := fun _ => by
     rw [show (i + 1) % 9 = i % 9 + 1 by clear e1 e2 e3 e4; omega, Nat.pow_succ, ← hS, Nat.mul_comm]
    have := ih (i + 1) c6 ds (10 * pc + (byt s i - 48)) (10 * S) h1 c7 hpcn m1 (fun h => absurd h he) hdv
    refine hj2 false ?_ fun k => ?_
    ·exact Ev.step (f := fun k => au.l0 k s (toI ds) ((10 * pc + (byt s i - 48) : Nat) : Int) ((10 * S : Nat) : Int) ((i + 1 : Nat) : Int)) (fun k => by rw [au.j2, if_neg (by decide), lS c5]) this
    ·rw [au.j1, if_neg (by decide), if_pos c2, if_pos c1, e3, if_neg n1, kT, e1, e2, e4, n2]
theorem Md {s : ByteArray} (hd : rV s.data.toList) (h0 : 0 < s.size) (hs : s.size ≤ 20000) (hf : gY (dK s.data.toList)) : Ev (fun k => au.f k s) (wI (dK s.data.toList), 0) := by
 unfold au.f
 have c1 : ¬ ((s.size : Int) > 20000) := by omega
 have c2 : ¬ ((s.size : Int) = 0) := by omega
 have e1 : wrap64 ((wrap64 ((s.size : Int) / 9)) + 2) = ((s.size / 9 + 2 : Nat) : Int) := by rw [w64 (x := (s.size : Int) / 9) (by omega) (by omega), w64 (by omega) (by omega)]; omega
 have c3 : (0 : Int) ≤ ((s.size / 9 + 2 : Nat) : Int) := by omega
 have c4 : ((s.size / 9 + 2 : Nat) : Int).toNat ≤ 35184372088832 := by omega
 refine Ev.neg c1 (Ev.neg c2 ?_)
 rw [e1]
 refine Ev.pos c3 (Ev.pos c4 ?_)
 exact Mc hd hs hf s.size 0 (Nat.zero_add _) [] 0 1 (fun y hy => by simp at hy) (Nat.le_refl _) (by decide) (fun _ => rfl) (fun _ => ⟨rfl, rfl⟩) (by simp [dK, vB])
end Go.Proofs.YtafikkmnkeddpaaGreatDoor.P
namespace Go.Proofs.YtafikkmnkeddpaaGreatDoor.P
open Go.RowKit Go.Proofs.YtafikkmnkeddpaaGreatDoorW.PrintWords Go.Proofs.YtafikkmnkeddpaaGreatDoorW.PrintLast Go.Proofs.YtafikkmnkeddpaaGreatDoorW.PrintMore
theorem OX (bs : List Nat) (hl : bs.length ≤ 1000000) : ∀ d i, i + d = bs.length → ∀ zs : List Nat, zs.length = bs.length → (∀ m, m < i → zs.getD m 0 = bs.getD (bs.length - 1 - m) 0) →
  Ev (fun k => aj.l4 k (toI bs) (toI zs) (i : Int)) (strOfNums (toI bs.reverse), 0) := by
 intro d
 induction d with
 | zero =>
  intro i hi zs h1 h2
  have c1 : ¬ ((i : Int) < (bs.length : Int)) := by omega
  have he : zs = bs.reverse := by
   refine List.ext_getElem (by rw [h1, List.length_reverse]) fun m g1 g2 => ?_
   have := h2 m (by omega)
   rw [List.getD_eq_getElem?_getD, List.getD_eq_getElem?_getD, List.getElem?_eq_getElem g1, List.getElem?_eq_getElem (by omega)] at this
   rw [List.getElem_reverse]
   exact this
  exact Ev.one fun k => by rw [aj.l4, bQ, if_neg c1, he]
 | succ d ih =>
  intro i hi zs h1 h2
  have c1 : (i : Int) < (bs.length : Int) := by omega
  have c2 : (0 : Int) ≤ ((bs.length - 1 - i : Nat) : Int) := by omega
  have c3 : ((bs.length - 1 - i : Nat) : Int) < (bs.length : Int) := by omega
  have c4 : (0 : Int) ≤ (i : Int) := by omega
  have c5 : (i : Int) < (zs.length : Int) := by omega
  have c5' : i < zs.length := by omega
  have c6 : i + 1 + d = bs.length := by omega
  have c7 : i < 1000000000000000000 := by omega
  have e1 : wrap64 ((wrap64 ((bs.length : Int) - 1)) - (i : Int)) = ((bs.length - 1 - i : Nat) : Int) := by rw [w64 (x := (bs.length : Int) - 1) (by omega) (by omega), w64 (by omega) (by omega)]; omega
  have := ih (i + 1) c6 (zs.set i (bs.getD (bs.length - 1 - i) 0)) (by rw [List.length_set]; exact h1) (fun m hm => by
   by_cases hmi : m = i
   ·subst hmi; rw [jk _ _ _ c5']
   ·rw [getD_set_ne _ _ _ _ (fun h => hmi h.symm)]; exact h2 m (by clear e1; omega))
  refine Ev.step (f := fun k => aj.l4 k (toI bs) (toI (zs.set i (bs.getD (bs.length - 1 - i) 0))) ((i + 1 : Nat) : Int)) (fun k => ?_) this
  rw [aj.l4, bQ, if_pos c1, e1, if_pos c2, if_pos c3, if_pos c4, bQ, if_pos c5, jo, jT, lS c7]
theorem Uf (r d : Nat) (hr : r < 1000000000) (hd : d < HB) : Go.bits .or .u64 (IntKind.u64.wrap ((r : Int) * 4294967296)) ((d : Nat) : Int) = ((r * HB + d : Nat) : Int) := by
 have h1 : r * HB < WB := Nat.lt_of_lt_of_le (Nat.mul_lt_mul_of_pos_right hr (by decide)) (by decide)
 have := or_hi r d 32 hd h1 (by decide)
 have e := OT (a := r) (b := HB) h1
 rw [show ((HB : Nat) : Int) = 4294967296 from rfl] at e
 rw [e]
 exact this
theorem Gs {H N P V V' Dl d t r X : Nat} (ht : t = r * H + d) (h1 : V' + P * d = V + P * (t / N)) (h3 : X + (Dl + P * d) * N = V * N + r * (P * H) + (Dl + P * d)) : X + Dl * N = V' * N + t % N * P + Dl := by
 have e1 := Nat.mod_add_div t N
 have e2 : P * (t % N) + P * (N * (t / N)) = P * (r * H) + P * d := by rw [← Nat.mul_add, e1, ht, Nat.mul_add]
 have e3 : P * (N * (t / N)) = P * (t / N) * N := by rw [Nat.mul_comm N, Nat.mul_assoc]
 have e4 : r * (P * H) = P * (r * H) := Nat.mul_left_comm _ _ _
 have e5 : t % N * P = P * (t % N) := Nat.mul_comm _ _
 have e6 : V' * N + P * d * N = V * N + P * (t / N) * N := by rw [← Nat.add_mul, h1, Nat.add_mul]
 have e7 : (Dl + P * d) * N = Dl * N + P * d * N := Nat.add_mul _ _ _
 generalize P * (t / N) * N = A at *
 generalize P * (t % N) = B at *
 generalize P * (r * H) = C at *
 generalize P * d * N = D at *
 omega
theorem OY (bs : List Int) (left : Nat) (ds0 : List Nat) (hl : left ≤ ds0.length) (hl2 : ds0.length ≤ 1000000) {r : ByteArray × Int}
  (hend : ∀ (es : List Nat) (q : Nat), WdB HB es → es.length = ds0.length → q < 1000000000 → vB HB (ds0.take left) = vB HB (es.take left) * 1000000000 + q → Ev (fun k => aj.l2 k (toI es) bs (left : Int) (q : Int)) r) :
  ∀ i, i ≤ left → ∀ (es : List Nat) (q : Nat), WdB HB es → es.length = ds0.length → q < 1000000000 → vB HB (ds0.take left) + vB HB (ds0.take i) * 1000000000 = vB HB (es.take left) * 1000000000 + q * HB ^ i + vB HB (ds0.take i) → (∀ m, m < i → es.getD m 0 = ds0.getD m 0) →
   Ev (fun k => aj.l1 k (toI es) bs (left : Int) (q : Int) ((i : Int) - 1)) r := by
 intro i
 induction i with
 | zero =>
  intro hi es q h1 h2 h3 h4 h5
  have c1 : ¬ (((0 : Nat) : Int) - 1 ≥ 0) := by omega
  refine Ev.step (f := fun k => aj.l2 k (toI es) bs (left : Int) (q : Int)) (fun k => by rw [aj.l1, if_neg c1]) (hend es q h1 h2 h3 ?_)
  simpa [vB] using h4
 | succ i ih =>
  intro hi es q h1 h2 h3 h4 h5
  have c0 : ((i + 1 : Nat) : Int) - 1 = (i : Int) := by omega
  have c1 : (i : Int) ≥ 0 := by omega
  have c2 : (0 : Int) ≤ (i : Int) := by omega
  have c3 : (i : Int) < (es.length : Int) := by omega
  have c3' : i < es.length := by omega
  have c4 : i ≤ left := by omega
  have c5 : wrap64 ((i : Int) - 1) = (i : Int) - 1 := w64 (by omega) (by omega)
  have q1 : ∀ m, m < i → i ≠ m := fun m hm => by omega
  have q2 : ∀ m, m < i → m < i + 1 := fun m hm => by omega
  have c6 : i < (es.take left).length := by rw [List.length_take]; omega
  have hdi := h1.get (by decide) i
  have hdd := h5 i (Nat.lt_succ_self i)
  have ht : q * HB + es.getD i 0 < 1000000000 * HB := by
   have : (q + 1) * HB ≤ 1000000000 * HB := Nat.mul_le_mul_right _ h3
   rw [Nat.add_mul, Nat.one_mul] at this
   exact Nat.lt_of_lt_of_le (Nat.add_lt_add_left hdi _) this
  have hq : (q * HB + es.getD i 0) / 1000000000 < HB := Nat.div_lt_of_lt_mul ht
  have hor := Uf q (es.getD i 0) h3 hdi
  have hnn : ((q * HB + es.getD i 0 : Nat) : Int).tdiv 1000000000 = (((q * HB + es.getD i 0) / 1000000000 : Nat) : Int) := by
   rw [Int.tdiv_eq_ediv_of_nonneg (Int.natCast_nonneg _), Int.natCast_ediv]; rfl
  have hmm : ((q * HB + es.getD i 0 : Nat) : Int).tmod 1000000000 = (((q * HB + es.getD i 0) % 1000000000 : Nat) : Int) := by
   rw [Int.tmod_eq_emod_of_nonneg (Int.natCast_nonneg _), Int.natCast_emod]; rfl
  have hw : IntKind.u64.wrap (((q * HB + es.getD i 0) / 1000000000 : Nat) : Int) = (((q * HB + es.getD i 0) / 1000000000 : Nat) : Int) := rJ (Nat.lt_trans hq (by decide))
  have hts := lU HB ds0 i
  have hset : (es.set i ((q * HB + es.getD i 0) / 1000000000)).take left = (es.take left).set i ((q * HB + es.getD i 0) / 1000000000) := List.take_set
  have htk : (es.take left).getD i 0 = es.getD i 0 := by
   rw [List.getD_eq_getElem?_getD, List.getElem?_take, if_pos (by rw [List.length_take] at c6; exact Nat.lt_of_lt_of_le c6 (Nat.min_le_left _ _)), ← List.getD_eq_getElem?_getD]
  have hvs := zL HB (es.take left) i ((q * HB + es.getD i 0) / 1000000000) c6
  rw [htk] at hvs
  rw [hts, ← hdd, Nat.pow_succ] at h4
  have := ih c4 (es.set i ((q * HB + es.getD i 0) / 1000000000)) ((q * HB + es.getD i 0) % 1000000000) (h1.set _ _ hq) (by rw [List.length_set]; exact h2) (Nat.mod_lt _ (by decide)) (by
   rw [hset]
   exact Gs rfl hvs h4) (fun m hm => by rw [getD_set_ne _ _ _ _ (q1 m hm)]; exact h5 m (q2 m hm))
  refine Ev.step (f := fun k => aj.l1 k (toI (es.set i ((q * HB + es.getD i 0) / 1000000000))) bs (left : Int) (((q * HB + es.getD i 0) % 1000000000 : Nat) : Int) ((i : Int) - 1)) (fun k => ?_) this
  rw [c0, aj.l1, if_pos c1, if_pos c2, bQ, if_pos c3, jo, hor, hnn, hmm, hw, jT, c5]
theorem OZ (bs : List Int) (q : Nat) (es : List Nat) (hw : WdB HB es) (hl2 : es.length ≤ 1000000) {r : ByteArray × Int} :
  ∀ n, n ≤ es.length → (∀ m, m ≤ n → vB HB (es.take m) = vB HB (es.take n) → (vB HB (es.take m) = 0 → m = 0) → Ev (fun k => aj.j3 k (toI es) bs (m : Int) (q : Int)) r) →
   Ev (fun k => aj.l2 k (toI es) bs (n : Int) (q : Int)) r := by
 intro n
 induction n with
 | zero =>
  intro hn h
  have c1 : ¬ (((0 : Nat) : Int) > 0) := by omega
  exact Ev.step (f := fun k => aj.j3 k (toI es) bs ((0 : Nat) : Int) (q : Int)) (fun k => by rw [aj.l2, if_neg c1]) (h 0 (Nat.le_refl _) rfl fun _ => rfl)
 | succ n ih =>
  intro hn h
  have c1 : ((n + 1 : Nat) : Int) > 0 := by omega
  have c2 : (0 : Int) ≤ (n : Int) := by omega
  have c3 : (n : Int) < (es.length : Int) := by omega
  have c4 : n < 1000000000000000000 := by omega
  have c5 : n ≤ es.length := by omega
  have hts := lU HB es n
  by_cases h0 : es.getD n 0 = 0
  ·have hts' : vB HB (es.take (n + 1)) = vB HB (es.take n) := by rw [h0, Nat.mul_zero] at hts; exact hts
   have := ih c5 fun m h1 h2 h3 => h m (Nat.le_succ_of_le h1) (by rw [h2, hts']) h3
   refine Ev.step (f := fun k => aj.l2 k (toI es) bs (n : Int) (q : Int)) (fun k => ?_) this
   rw [aj.l2, if_pos c1, QO c4, if_pos c2, bQ, if_pos c3, jo, h0, if_pos (show ((0 : Nat) : Int) = 0 from rfl)]
  ·have hp := Nat.pow_pos (n := n) (show 0 < HB by decide)
   have h6 := Nat.mul_pos hp (Nat.pos_of_ne_zero h0)
   have hne : ¬ ((es.getD n 0 : Nat) : Int) = 0 := fun h => h0 (Int.ofNat_inj.1 h)
   refine Ev.step (f := fun k => aj.j3 k (toI es) bs ((n + 1 : Nat) : Int) (q : Int)) (fun k => ?_) (h (n + 1) (Nat.le_refl _) rfl fun hz => ?_)
   ·rw [aj.l2, if_pos c1, QO c4, if_pos c2, bQ, if_pos c3, jo, if_neg hne]
   ·rw [hts] at hz; omega
theorem O1 (es : List Nat) (left : Nat) (Q : Nat) (hQ : Q = 0 ↔ left = 0) (v : Nat) {r : ByteArray × Int}
  (hend : ∀ bs : List Nat, bs.length ≤ 1000000 → lH v = bs ++ lH Q → Ev (fun k => aj.l0 k (toI es) (asc bs) (left : Int)) r) :
  ∀ d j : Nat, j + d = 9 → ∀ (bs : List Nat) (q : Nat), bs.length + d ≤ 1000000 → q < 10 ^ d → lH v = bs ++ lH (Q * 10 ^ d + q) → Ev (fun k => aj.l3 k (toI es) (asc bs) (left : Int) (q : Int) (j : Int)) r := by
 intro d
 induction d with
 | zero =>
  intro j hj bs q h1 h2 h3
  have hq : q = 0 := by simpa using h2
  subst hq
  have c1 : ¬ ((j : Int) < 9) := by omega
  rw [Nat.pow_zero, Nat.mul_one, Nat.add_zero] at h3
  exact Ev.step (f := fun k => aj.l0 k (toI es) (asc bs) (left : Int)) (fun k => by rw [aj.l3, if_neg c1]) (hend bs h1 h3)
 | succ d ih =>
  intro j hj bs q h1 h2 h3
  have c1 : (j : Int) < 9 := by omega
  have c2 : j < 1000000000000000000 := by omega
  have c3 : j + 1 + d = 9 := by omega
  have hpow : 10 ^ (d + 1) = 10 * 10 ^ d := by rw [Nat.pow_succ, Nat.mul_comm]
  have hq10 : q / 10 < 10 ^ d := Nat.div_lt_of_lt_mul (by rw [← hpow]; exact h2)
  have hb1 : (bs ++ [q % 10]).length + d ≤ 1000000 := by rw [List.length_append]; simp; omega
  have hb2 : bs.length < 140737488355328 := by omega
  have hqs : q < 10000000000 := by
   have : 10 ^ (d + 1) ≤ 10 ^ 10 := Nat.pow_le_pow_right (by decide) (by omega)
   exact Nat.lt_of_lt_of_le h2 this
  have e1 : (IntKind.u64.wrap (48 + (Int.tmod (q : Int) 10))) % 256 = ((48 + q % 10 : Nat) : Int) := by
   rw [Int.tmod_eq_emod_of_nonneg (Int.natCast_nonneg _), wu64 (by omega) (by omega)]; omega
  have e2 : IntKind.u64.wrap (Int.tdiv (q : Int) 10) = ((q / 10 : Nat) : Int) := by
   rw [Int.tdiv_eq_ediv_of_nonneg (Int.natCast_nonneg _), wu64 (by omega) (by omega)]; omega
  have go : (Q * 10 ^ (d + 1) + q ≠ 0) → Ev (fun k => aj.l3 k (toI es) (asc (bs ++ [q % 10])) (left : Int) ((q / 10 : Nat) : Int) ((j + 1 : Nat) : Int)) r := fun hne =>
   ih (j + 1) c3 (bs ++ [q % 10]) (q / 10) hb1 hq10 (by
    rw [h3, vJ hne, hpow, Nat.mul_left_comm Q 10, Nat.mul_add_mod, Nat.mul_add_div (by decide), List.append_assoc]
    rfl)
  by_cases hL : 0 < left
  ·have hQ0 : Q ≠ 0 := fun h => by rw [hQ.1 h] at hL; exact Nat.lt_irrefl 0 hL
   have hne : Q * 10 ^ (d + 1) + q ≠ 0 := by
    have := Nat.mul_pos (Nat.pos_of_ne_zero hQ0) (Nat.pow_pos (n := d + 1) (show 0 < 10 by decide))
    omega
   refine Ev.step (f := fun k => aj.l3 k (toI es) (asc (bs ++ [q % 10])) (left : Int) ((q / 10 : Nat) : Int) ((j + 1 : Nat) : Int)) (fun k => ?_) (go hne)
   rw [aj.l3, if_pos c1, if_pos (show (left : Int) > 0 from Int.natCast_pos.2 hL), kH, if_pos hb2, e1, e2, r_, lS c2]
  ·have hL0 : left = 0 := Nat.eq_zero_of_not_pos hL
   have hQ0 := hQ.2 hL0
   subst hL0 hQ0
   by_cases hq0 : 0 < q
   ·refine Ev.step (f := fun k => aj.l3 k (toI es) (asc (bs ++ [q % 10])) ((0 : Nat) : Int) ((q / 10 : Nat) : Int) ((j + 1 : Nat) : Int)) (fun k => ?_) (go (by omega))
    rw [aj.l3, if_pos c1, if_neg (by decide), if_pos (show (q : Int) > 0 from Int.natCast_pos.2 hq0), kH, if_pos hb2, e1, e2, r_, lS c2]
   ·have hq1 : q = 0 := Nat.eq_zero_of_not_pos hq0
    subst hq1
    rw [Nat.zero_mul, Nat.add_zero] at h3
    refine Ev.step (f := fun k => aj.l0 k (toI es) (asc bs) ((0 : Nat) : Int)) (fun k => ?_) (hend bs (by omega) h3)
    rw [aj.l3, if_pos c1, if_neg (by decide), if_neg (by decide)]
theorem O4 (v : Nat) (hv : v ≠ 0) (hd1 : (lH v).length ≤ 900000) : ∀ V : Nat, ∀ (ds : List Nat) (left : Nat) (bs : List Nat), WdB HB ds → ds.length ≤ 1000000 → left ≤ ds.length → vB HB (ds.take left) = V → (0 < left → V ≠ 0) → lH v = bs ++ lH V →
  Ev (fun k => aj.l0 k (toI ds) (asc bs) (left : Int)) (strOfNums (asc (lH v).reverse), 0) := by
 intro V
 induction V using Nat.strongRecOn with
 | _ V ih =>
  intro ds left bs h1 h2 h3 h4 h5 h6
  have hbl : bs.length ≤ 900000 := by
   have := congrArg List.length h6
   rw [List.length_append] at this
   omega
  by_cases hL : 0 < left
  ·have c5 : (left : Int) - 1 = wrap64 ((left : Int) - 1) := (w64 (by omega) (by omega)).symm
   have hVp := h5 hL
   refine Ev.step (f := fun k => aj.l1 k (toI ds) (asc bs) (left : Int) ((0 : Nat) : Int) ((left : Int) - 1)) (fun k => by rw [aj.l0, if_pos (show (left : Int) > 0 from Int.natCast_pos.2 hL), ← c5]; rfl) ?_
   refine OY (asc bs) left ds h3 h2 (fun es q g1 g2 g3 g4 => ?_) left (Nat.le_refl _) ds 0 h1 rfl (by decide) (by rw [Nat.zero_mul]; omega) (fun m _ => rfl)
   rw [h4] at g4
   refine OZ (asc bs) q es g1 (by omega) left (by omega) fun m k1 k2 k3 => ?_
   refine Ev.step (f := fun k => aj.l3 k (toI es) (asc bs) (m : Int) (q : Int) ((0 : Nat) : Int)) (fun k => by rw [aj.j3]; rfl) ?_
   have hQ : vB HB (es.take m) = 0 ↔ m = 0 := ⟨k3, fun h => by rw [h]; rfl⟩
   refine O1 es m (vB HB (es.take m)) hQ v (fun cs l1 l2 => ?_) 9 0 rfl bs q (by omega) g3 (by rw [k2, h6, g4])
   refine ih (vB HB (es.take m)) (by rw [k2]; omega) es m cs g1 (by omega) (by omega) rfl (fun h => fun hz => by rw [k3 hz] at h; exact Nat.lt_irrefl 0 h) l2
  ·have hL0 : left = 0 := Nat.eq_zero_of_not_pos hL
   subst hL0
   have hV0 : V = 0 := h4.symm
   rw [hV0, tH, List.append_nil] at h6
   rw [h6]
   have e1 : (0 : Int) ≤ (((asc bs).length : Nat) : Int) := Int.natCast_nonneg _
   have e2 : (((asc bs).length : Nat) : Int).toNat ≤ 281474976710656 := by rw [kH]; omega
   have := OX (bs.map (48 + ·)) (by rw [List.length_map]; omega) (bs.map (48 + ·)).length 0 (Nat.zero_add _) (List.replicate (bs.map (48 + ·)).length 0) (by simp) (fun m hm => absurd hm (Nat.not_lt_zero m))
   rw [← List.map_reverse] at this
   refine Ev.step (f := fun k => aj.l4 k (asc bs) (toI (List.replicate (bs.map (48 + ·)).length 0)) ((0 : Nat) : Int)) (fun k => ?_) this
   rw [aj.l0, if_neg (by decide), if_pos e1, if_pos e2, oN, kH, List.length_map]
   rfl
theorem O5 {v : Nat} (hv : v ≠ 0) (hf : gY v) : Ev (fun k => aj.f k (wI v)) (strOfNums (asc (lH v).reverse), 0) := by
 unfold gY at hf
 unfold aj.f
 have hp := iJ hv
 have c1 : ¬ (((toW v).length : Int) > 1024) := by omega
 have c2 : ¬ (((toW v).length : Int) = 0) := by omega
 have hl := nZ (toW v)
 refine Ev.bind (nU (by unfold nJ; omega)) (Ev.neg c1 (Ev.bind (nU (by unfold nJ; omega)) (Ev.neg c2 (Ev.bind (wG (by omega)) ?_))))
 have hlen : (lH v).length ≤ 900000 := by
  have h1 := (vK hv).1
  have h2 := lg v
  rw [show WB = 2 ^ 64 from rfl, ← Nat.pow_mul] at h2
  have h3 := sZ (Nat.lt_of_le_of_lt (Nat.le_trans (Nat.pow_le_pow_left (show 2 ≤ 10 by decide) _) h1) h2)
  omega
 rw [bQ]
 refine O4 v hv hlen v (lZ (toW v)) (lZ (toW v)).length [] (Dt (iw v)) (by omega) (Nat.le_refl _) (by rw [List.take_of_length_le (Nat.le_refl _), zM, dB]) (fun _ => hv) rfl
end Go.Proofs.YtafikkmnkeddpaaGreatDoor.P
namespace Go.Proofs.YtafikkmnkeddpaaGreatDoor
theorem wO {a b : Nat} (h : a ≤ b) : cZ a ≤ cZ b := kW (Nat.lt_of_le_of_lt h (jq b))
theorem Nk : cZ 1 = 1 := by decide
def oH (r d : Nat) : Nat := if r = 0 then 0 else if 2 * r < d then 1 else if 2 * r = d then 2 else 3
def lOf (a d : Nat) : Nat := oH (a % d) d
theorem JF (r d : Nat) {k : Nat} (hk : 0 < k) : oH (r * k) (d * k) = oH r d := by
 unfold oH
 have e1 : (r * k = 0) = (r = 0) := by
  apply propext
  constructor
  ·intro h
   rcases Nat.mul_eq_zero.1 h with h | h
   ·exact h
   ·omega
  ·rintro rfl; simp
 have e2 : (2 * (r * k) < d * k) = (2 * r < d) := by
  rw [← Nat.mul_assoc]
  exact propext (Nat.mul_lt_mul_right hk)
 have e3 : (2 * (r * k) = d * k) = (2 * r = d) := by
  rw [← Nat.mul_assoc]
  exact propext (Nat.mul_left_inj (by omega))
 simp only [e1, e2, e3]
theorem vk (a d : Nat) {k : Nat} (hk : 0 < k) : lOf (a * k) (d * k) = lOf a d := by
 unfold lOf
 rw [Nat.mul_mod_mul_right, JF _ _ hk]
theorem vw (a d : Nat) {k : Nat} (hk : 0 < k) : a * k / (d * k) = a / d := Nat.mul_div_mul_right _ _ hk
theorem Nl (r d : Nat) : oH r d ≤ 3 := by unfold oH; split <;> (try split) <;> (try split) <;> omega
theorem Ac {r d : Nat} : oH r d = 0 ↔ r = 0 := by unfold oH; split <;> (try split) <;> (try split) <;> simp_all
def mM (j : Nat) (more : Bool) : Nat := if more then j % 4 + 1 - j % 2 else j % 4
theorem PL (A D k : Nat) (hD : 0 < D) : A / (D * 2 ^ (k + 2)) = wE (A / D) k / 4 ∧ lOf A (D * 2 ^ (k + 2)) = mM (wE (A / D) k) (decide (A % D ≠ 0)) := by
 have hP : 0 < 2 ^ k := Nat.two_pow_pos k
 have hA := Nat.div_add_mod A D
 have hr := Nat.mod_lt A hD
 generalize A / D = n at *
 generalize A % D = r at *
 have hn := Nat.div_add_mod n (2 ^ k)
 have hv := Nat.mod_lt n hP
 have hm : wE n k = if n % 2 ^ k = 0 then n / 2 ^ k else n / 2 ^ k + 1 - n / 2 ^ k % 2 := rfl
 generalize n / 2 ^ k = m at *
 generalize n % 2 ^ k = v at *
 have h4 : 2 ^ (k + 2) = 4 * 2 ^ k := by rw [Nat.pow_add]; omega
 rw [h4]
 generalize 2 ^ k = P at *
 have hW : D * v + r < D * P := by
  have : D * (v + 1) ≤ D * P := Nat.mul_le_mul_left _ hv
  rw [Nat.mul_add] at this
  omega
 have hA2 : A = D * P * m + (D * v + r) := by rw [← hA, ← hn, Nat.mul_add, Nat.mul_assoc]; omega
 have hW0 : D * v + r = 0 ↔ v = 0 ∧ r = 0 := by
  constructor
  ·intro h
   have h1 : D * v = 0 := by omega
   rcases Nat.mul_eq_zero.1 h1 with h2 | h2
   ·omega
   ·exact ⟨h2, by omega⟩
  ·rintro ⟨rfl, rfl⟩; simp
 have e : D * (4 * P) = 4 * (D * P) := Nat.mul_left_comm _ _ _
 rw [e]
 generalize D * P = Q at *
 generalize D * v + r = W at *
 have hQ : 0 < Q := by omega
 have hmd := Nat.div_add_mod m 4
 have hms := Nat.mod_lt m (show 0 < 4 by decide)
 generalize m / 4 = u at *
 generalize hs' : m % 4 = s at *
 have hA3 : A = Q * s + W + 4 * Q * u := by
  rw [hA2, ← hmd, Nat.mul_add]
  have : Q * (4 * u) = 4 * Q * u := by rw [← Nat.mul_assoc, Nat.mul_comm Q 4]
  omega
 have hlt : Q * s + W < 4 * Q := by
  have : Q * s ≤ Q * 3 := Nat.mul_le_mul_left _ (by omega)
  omega
 have hd : A / (4 * Q) = u := by rw [hA3, Nat.add_mul_div_left _ _ (by omega), Nat.div_eq_of_lt hlt]; omega
 have hmo : A % (4 * Q) = Q * s + W := by rw [hA3, Nat.add_mul_mod_self_left, Nat.mod_eq_of_lt hlt]
 unfold lOf
 rw [hd, hmo, hm]
 constructor
 ·split <;> omega
 ·have hs4 : s = 0 ∨ s = 1 ∨ s = 2 ∨ s = 3 := by omega
  have hl : oH (Q * s + W) (4 * Q) = if W = 0 then s else s + 1 - s % 2 := by
   unfold oH
   rcases hs4 with h | h | h | h <;> subst h <;> (repeat' split) <;> omega
  rw [hl]
  unfold mM
  by_cases hv0 : v = 0
  ·rw [if_pos hv0]
   by_cases hr0 : r = 0
   ·have hw : W = 0 := hW0.2 ⟨hv0, hr0⟩
    simp only [hr0, hw, ne_eq, not_true, decide_false, if_true, Bool.false_eq_true, if_false]
    omega
   ·have hw : W ≠ 0 := fun h => hr0 (hW0.1 h).2
    simp only [hr0, hw, ne_eq, not_false_eq_true, decide_true, if_true, if_false]
    omega
  ·rw [if_neg hv0]
   have hw : W ≠ 0 := fun h => hv0 (hW0.1 h).1
   simp only [hw, if_false]
   split <;> omega
theorem Np (n i : Nat) (hi : i ≤ 2) : n / 2 ^ i = n * 2 ^ (2 - i) / 4 ∧ lOf n (2 ^ i) = mM (n * 2 ^ (2 - i)) false := by
 unfold lOf mM oH
 have : i = 0 ∨ i = 1 ∨ i = 2 := by omega
 rcases this with rfl | rfl | rfl
 ·refine ⟨by simp, ?_⟩
  simp [Nat.mod_one]
 ·refine ⟨by simp; omega, ?_⟩
  rw [show 2 ^ 1 = 2 from rfl]
  simp only [Bool.false_eq_true, if_false]
  (repeat' split) <;> omega
 ·refine ⟨by simp, ?_⟩
  rw [show 2 ^ 2 = 4 from rfl, show 2 ^ (2 - 2) = 1 from rfl]
  simp only [Bool.false_eq_true, if_false]
  (repeat' split) <;> omega
def upN (num : Nat) (E q : Int) : Nat := num * 2 ^ (E - q).toNat
def dnN (den : Nat) (E q : Int) : Nat := den * 2 ^ (q - E).toNat
def plU (num den : Nat) (E q : Int) : Nat := upN num E q / dnN den E q
def plL (num den : Nat) (E q : Int) : Nat := lOf (upN num E q) (dnN den E q)
theorem IK {den : Nat} (h : 0 < den) (E q : Int) : 0 < dnN den E q := Nat.mul_pos h (Nat.two_pow_pos _)
theorem qN (num den : Nat) (E e q : Int) (h : e ≤ q) : plU num den E q = upN num E e / (dnN den E e * 2 ^ (q - e).toNat) ∧ plL num den E q = lOf (upN num E e) (dnN den E e * 2 ^ (q - e).toNat) := by
 have e1 : upN num E q * 2 ^ (E - e).toNat = upN num E e * 2 ^ (E - q).toNat := by
  unfold upN
  rw [Nat.mul_assoc, Nat.mul_assoc, Nat.mul_comm (2 ^ _)]
 have e2 : dnN den E q * 2 ^ (E - e).toNat = dnN den E e * 2 ^ (q - e).toNat * 2 ^ (E - q).toNat := by
  unfold dnN
  simp only [Nat.mul_assoc, ← Nat.pow_add]
  congr 2
  omega
 unfold plU plL
 constructor
 ·rw [← vw _ _ (Nat.two_pow_pos (E - e).toNat), e1, e2, vw _ _ (Nat.two_pow_pos _)]
 ·rw [← vk _ _ (Nat.two_pow_pos (E - e).toNat), e1, e2, vk _ _ (Nat.two_pow_pos _)]
theorem Nq (num den : Nat) (E e q : Int) (h : q ≤ e) : plU num den E q = upN num E e * 2 ^ (e - q).toNat / dnN den E e ∧ plL num den E q = lOf (upN num E e * 2 ^ (e - q).toNat) (dnN den E e) := by
 have e1 : upN num E q * 2 ^ (e - E).toNat = upN num E e * 2 ^ (e - q).toNat * 2 ^ (q - E).toNat := by
  unfold upN
  simp only [Nat.mul_assoc, ← Nat.pow_add]
  congr 2
  omega
 have e2 : dnN den E q * 2 ^ (e - E).toNat = dnN den E e * 2 ^ (q - E).toNat := by
  unfold dnN
  rw [Nat.mul_assoc, Nat.mul_assoc, Nat.mul_comm (2 ^ _)]
 unfold plU plL
 constructor
 ·rw [← vw _ _ (Nat.two_pow_pos (e - E).toNat), e1, e2, vw _ _ (Nat.two_pow_pos _)]
 ·rw [← vk _ _ (Nat.two_pow_pos (e - E).toNat), e1, e2, vk _ _ (Nat.two_pow_pos _)]
theorem mO (num den : Nat) (E e q : Int) (h : e ≤ q) : plU num den E q = plU num den E e / 2 ^ (q - e).toNat := by
 rw [(qN num den E e q h).1]
 unfold plU
 rw [Nat.div_div_eq_div_mul]
theorem GL {num den : Nat} {E t t' : Int} (h : plU num den E t = 1) (h' : plU num den E t' = 1) : t = t' := by
 have key : ∀ a b : Int, a < b → plU num den E a = 1 → plU num den E b = 1 → False := by
  intro a b hab ha hb
  have := mO num den E a b (by omega)
  rw [ha, hb] at this
  obtain ⟨k, hk⟩ : ∃ k, (b - a).toNat = k + 1 := ⟨(b - a).toNat - 1, by omega⟩
  rw [hk, Nat.pow_succ, Nat.div_eq_of_lt (by have := Nat.two_pow_pos k; omega)] at this
  omega
 rcases Int.lt_trichotomy t t' with h1 | h1 | h1
 ·exact (key _ _ h1 h h').elim
 ·exact h1
 ·exact (key _ _ h1 h' h).elim
theorem Rq {num den : Nat} {E e : Int} (h : plU num den E e ≠ 0) : plU num den E (e + cZ (plU num den E e) - 1) = 1 := by
 have hp : 0 < cZ (plU num den E e) := by rw [jQ h]; omega
 rw [mO num den E e _ (by omega)]
 rw [show (e + (cZ (plU num den E e) : Int) - 1 - e).toNat = cZ (plU num den E e) - 1 by omega]
 have h1 := jq (plU num den E e)
 have h2 := ng h
 generalize plU num den E e = n at *
 obtain ⟨k, hk⟩ : ∃ k, cZ n = k + 1 := ⟨cZ n - 1, by omega⟩
 rw [hk] at h1 h2
 rw [hk]
 rw [Nat.add_sub_cancel] at h2 ⊢
 rw [Nat.pow_succ] at h1
 exact Nat.div_eq_of_lt_le (by omega) (by omega)
theorem oh {num den : Nat} {E t q : Int} (h : plU num den E t = 1) (hq : q ≤ t) : cZ (plU num den E q) = (t - q).toNat + 1 := by
 have := mO num den E q t hq
 rw [h] at this
 have hP := Nat.two_pow_pos (t - q).toNat
 generalize plU num den E q = n at *
 have h1 := (Nat.div_eq_iff hP).1 this.symm
 refine qJ (by omega) ?_
 rw [Nat.pow_succ]
 omega
theorem vC {num den : Nat} {E t q : Int} (h : plU num den E t = 1) (hq : t < q) : plU num den E q = 0 := by
 rw [mO num den E t q (by omega), h]
 obtain ⟨k, hk⟩ : ∃ k, (q - t).toNat = k + 1 := ⟨(q - t).toNat - 1, by omega⟩
 rw [hk, Nat.pow_succ]
 exact Nat.div_eq_of_lt (by have := Nat.two_pow_pos k; omega)
def qO (num den : Nat) (E : Int) : Int := if plU num den E ((cZ num : Int) - cZ den + E) = 0 then (cZ num : Int) - cZ den + E - 1 else (cZ num : Int) - cZ den + E
theorem nO {num den : Nat} (hn : num ≠ 0) (hd : 0 < den) (E : Int) : plU num den E (qO num den E) = 1 := by
 have hn1 := jq num
 have hn2 := ng hn
 have hd1 := jq den
 have hd2 := ng (v := den) (by omega)
 have hnp : 0 < cZ num := by rw [jQ hn]; omega
 have hdp : 0 < cZ den := by rw [jQ (by omega)]; omega
 generalize hb : cZ num = b at *
 generalize hc : cZ den = c at *
 obtain ⟨b', rfl⟩ : ∃ k, b = k + 1 := ⟨b - 1, by omega⟩
 obtain ⟨c', rfl⟩ : ∃ k, c = k + 1 := ⟨c - 1, by omega⟩
 rw [Nat.add_sub_cancel] at *
 have lt2 : plU num den E (((b' + 1 : Nat) : Int) - ((c' + 1 : Nat) : Int) + E) < 2 := by
  unfold plU upN dnN
  rw [Nat.div_lt_iff_lt_mul (Nat.mul_pos hd (Nat.two_pow_pos _))]
  calc num * 2 ^ (E - (((b' + 1 : Nat) : Int) - ((c' + 1 : Nat) : Int) + E)).toNat < 2 ^ (b' + 1) * 2 ^ (E - (((b' + 1 : Nat) : Int) - ((c' + 1 : Nat) : Int) + E)).toNat := Nat.mul_lt_mul_of_pos_right hn1 (Nat.two_pow_pos _)
   _ = 2 * (2 ^ c' * 2 ^ ((((b' + 1 : Nat) : Int) - ((c' + 1 : Nat) : Int) + E) - E).toNat) := by
    rw [← Nat.pow_add, ← Nat.pow_add, ← Nat.pow_succ']
    congr 1
    omega
   _ ≤ 2 * (den * 2 ^ ((((b' + 1 : Nat) : Int) - ((c' + 1 : Nat) : Int) + E) - E).toNat) := Nat.mul_le_mul_left _ (Nat.mul_le_mul_right _ hd2)
 have ge1 : 1 ≤ plU num den E (((b' + 1 : Nat) : Int) - ((c' + 1 : Nat) : Int) + E - 1) := by
  unfold plU upN dnN
  rw [Nat.le_div_iff_mul_le (Nat.mul_pos hd (Nat.two_pow_pos _)), Nat.one_mul]
  calc den * 2 ^ ((((b' + 1 : Nat) : Int) - ((c' + 1 : Nat) : Int) + E - 1) - E).toNat ≤ 2 ^ (c' + 1) * 2 ^ ((((b' + 1 : Nat) : Int) - ((c' + 1 : Nat) : Int) + E - 1) - E).toNat := Nat.mul_le_mul_right _ (by omega)
   _ = 2 ^ b' * 2 ^ (E - (((b' + 1 : Nat) : Int) - ((c' + 1 : Nat) : Int) + E - 1)).toNat := by
    rw [← Nat.pow_add, ← Nat.pow_add]
    congr 1
    omega
   _ ≤ _ := Nat.mul_le_mul_right _ hn2
 have hcl := mO num den E (((b' + 1 : Nat) : Int) - ((c' + 1 : Nat) : Int) + E - 1) (((b' + 1 : Nat) : Int) - ((c' + 1 : Nat) : Int) + E) (by omega)
 rw [show (((b' + 1 : Nat) : Int) - ((c' + 1 : Nat) : Int) + E - (((b' + 1 : Nat) : Int) - ((c' + 1 : Nat) : Int) + E - 1)).toNat = 1 by omega, Nat.pow_one] at hcl
 unfold qO
 rw [hb, hc]
 split
 ·rename_i h0; rw [h0] at hcl; omega
 ·omega
def Ae (m : Int) (neg odd : Bool) (l : Nat) : Bool :=
 if m = 0 then decide (l = 3) || (decide (l = 2) && odd) else if m = 1 then decide (2 ≤ l) else if m = 3 then !neg else if m = 4 then neg else if m = 5 then !odd else false
def gB (m : Int) (neg : Bool) (u l : Nat) : Nat := if l ≠ 0 ∧ Ae m neg (decide (u % 2 = 1)) l = true then u + 1 else u
theorem wP (m : Int) (neg : Bool) (u l : Nat) : u ≤ gB m neg u l := by unfold gB; split <;> omega
theorem qx (m : Int) (neg : Bool) (u l : Nat) : gB m neg u l ≤ u + 1 := by unfold gB; split <;> omega
theorem EK (m : Int) (neg : Bool) (u : Nat) : gB m neg u 0 = u := by unfold gB; simp
structure Fm where
 W : Nat
 P : Nat
 emin : Int
 emax : Int
structure Fm.Ok (F : Fm) : Prop where
 p2 : 2 ≤ F.P
 pw : F.P < F.W
 w64 : F.W ≤ 64
 ee : F.emin ≤ F.emax
 fld : F.emax - F.emin + 2 < 2 ^ (F.W - F.P)
def lF (F : Fm) (m : Int) (neg : Bool) : Nat :=
 (if m = 0 ∨ m = 1 ∨ (m = 3 ∧ neg = false) ∨ (m = 4 ∧ neg = true) then (2 ^ (F.W - F.P) - 1) * 2 ^ (F.P - 1) else (2 ^ (F.W - F.P) - 2) * 2 ^ (F.P - 1) + (2 ^ (F.P - 1) - 1)) + if neg then 2 ^ (F.W - 1) else 0
def vF (F : Fm) (m : Int) (neg : Bool) (num den : Nat) (E : Int) : Nat × Nat :=
 let t := qO num den E
 let least := F.emin - F.P + 1
 let q := max (t - F.P + 1) least
 let n := gB m neg (plU num den E q) (plL num den E q)
 if F.emax + 1 < (cZ n : Int) + q then (lF F m neg, 20)
 else ((q - least).toNat * 2 ^ (F.P - 1) + n + (if neg then 2 ^ (F.W - 1) else 0),
  if plL num den E q = 0 then 0 else if (cZ (gB m neg (plU num den E (t - F.P + 1)) (plL num den E (t - F.P + 1))) : Int) + (t - F.P + 1) ≤ F.emin then 24 else 16)
structure EL (num den : Nat) (E : Int) (n : Nat) (e : Int) (mo : Bool) (P : Nat) : Prop where
 u : plU num den E e = n
 more : mo = decide (plL num den E e ≠ 0)
 pos : n ≠ 0
 long : mo = true → P + 3 ≤ cZ n
def EM (n : Nat) (e q : Int) : Nat := if 2 ≤ q - e then wE n (q - e - 2).toNat else n * 2 ^ (2 - (q - e)).toNat
theorem EL.cut {num den : Nat} {E : Int} {n : Nat} {e : Int} {more : Bool} {P : Nat} (h : EL num den E n e more P) (hd : 0 < den) {q : Int} (hq : 2 ≤ q - e ∨ more = false) :
  plU num den E q = EM n e q / 4 ∧ plL num den E q = mM (EM n e q) more := by
 have hD := IK hd E e
 have hm : more = decide (upN num E e % dnN den E e ≠ 0) := by
  rw [h.more]
  congr 1
  unfold plL lOf
  rw [Ne, Ac]
 by_cases h2 : 2 ≤ q - e
 ·have hc := qN num den E e q (by omega)
  rw [show (q - e).toNat = (q - e - 2).toNat + 2 by omega] at hc
  have hf := PL (upN num E e) (dnN den E e) (q - e - 2).toNat hD
  have hu : upN num E e / dnN den E e = n := h.u
  rw [hu] at hf
  unfold EM
  rw [if_pos h2, hc.1, hc.2, hf.1, hf.2, hm]
  exact ⟨rfl, rfl⟩
 ·have hmf : more = false := by rcases hq with hq | hq; exact absurd hq h2; exact hq
  have hr : upN num E e % dnN den E e = 0 := by
   rw [hmf] at hm
   simpa using hm.symm
  have hA : upN num E e = n * dnN den E e := by
   have := Nat.div_add_mod (upN num E e) (dnN den E e)
   rw [hr, show upN num E e / dnN den E e = n from h.u] at this
   rw [← this, Nat.mul_comm]; rfl
  unfold EM
  rw [if_neg h2, hmf]
  by_cases h0 : 0 ≤ q - e
  ·have hc := qN num den E e q (by omega)
   have hn := Np n (q - e).toNat (by omega)
   rw [hA, Nat.mul_comm (dnN den E e), vw _ _ hD, vk _ _ hD] at hc
   rw [hc.1, hc.2, show (2 - (q - e)).toNat = 2 - (q - e).toNat by omega]
   exact hn
  ·have hc := Nq num den E e q (by omega)
   rw [hA, Nat.mul_right_comm, Nat.mul_div_cancel _ hD] at hc
   rw [hc.1, hc.2]
   rw [show (2 - (q - e)).toNat = (e - q).toNat + 2 by omega, Nat.pow_add, ← Nat.mul_assoc]
   refine ⟨by omega, ?_⟩
   unfold lOf mM
   rw [Nat.mul_mod_left]
   simp [oH]
theorem EL.top {num den : Nat} {E : Int} {n : Nat} {e : Int} {more : Bool} {P : Nat} (h : EL num den E n e more P) (hn : num ≠ 0) (hd : 0 < den) : qO num den E = e + cZ n - 1 := by
 have := Rq (num := num) (den := den) (E := E) (e := e) (by rw [h.u]; exact h.pos)
 rw [h.u] at this
 exact GL (nO hn hd E) this
def qy (m : Int) (neg more : Bool) (n : Nat) (e q : Int) : Nat × Bool := (gB m neg (EM n e q / 4) (mM (EM n e q) more), decide (mM (EM n e q) more ≠ 0))
def BX (F : Fm) (m : Int) (neg more : Bool) (n : Nat) (e : Int) : Nat × Nat :=
 let t := e + cZ n - 1
 if F.emax < t then (lF F m neg, 20)
 else
  let least := F.emin - F.P + 1
  let q := max t F.emin - F.P + 1
  let u := (qy m neg more n e q).1
  if F.emax < q + cZ u - 1 then (lF F m neg, 20)
  else ((q - least).toNat * 2 ^ (F.P - 1) + u + (if neg then 2 ^ (F.W - 1) else 0),
   if (qy m neg more n e q).2 = false then 0
   else if F.emin ≤ t then 16
   else if t - F.P + cZ (qy m neg more n e (t - F.P + 1)).1 < F.emin then 24 else 16)
theorem PN {F : Fm} (hF : F.Ok) {num den : Nat} {E : Int} {n : Nat} {e : Int} {more : Bool} (h : EL num den E n e more F.P) (hn : num ≠ 0) (hd : 0 < den) (m : Int) (neg : Bool) :
  BX F m neg more n e = vF F m neg num den E := by
 have ht := h.top hn hd
 have hts := nO hn hd E
 have hp2 := hF.p2
 have hee := hF.ee
 have hbn : 0 < cZ n := by rw [jQ h.pos]; omega
 have hq : ∀ q : Int, qO num den E - F.P + 1 ≤ q → 2 ≤ q - e ∨ more = false := fun q hq => by
  cases hm : more with
  | false => exact .inr rfl
  | true => have := h.long hm; left; omega
 have hcut : ∀ q : Int, qO num den E - F.P + 1 ≤ q → qy m neg more n e q = (gB m neg (plU num den E q) (plL num den E q), decide (plL num den E q ≠ 0)) := fun q h1 => by
  have := h.cut hd (hq q h1)
  unfold qy
  rw [← this.1, ← this.2]
 unfold BX vF
 rw [← ht]
 generalize qO num den E = t at *
 simp only []
 have hqq : max t F.emin - F.P + 1 = max (t - F.P + 1) (F.emin - F.P + 1) := by omega
 have hlow : ∀ q : Int, q = t - F.P + 1 → F.P ≤ cZ (gB m neg (plU num den E q) (plL num den E q)) := fun q hq1 => by
  have h1 := oh hts (q := q) (by omega)
  have h2 := wO (wP m neg (plU num den E q) (plL num den E q))
  rw [h1] at h2
  omega
 obtain ⟨q, hqe⟩ : ∃ q, q = max (t - F.P + 1) (F.emin - F.P + 1) := ⟨_, rfl⟩
 rw [hqq, ← hqe, hcut q (by omega), hcut _ (Int.le_refl _)]
 simp only []
 have hlo := hlow _ rfl
 have hloq : t - F.P + 1 = q → F.P ≤ cZ (gB m neg (plU num den E q) (plL num den E q)) := fun h => hlow q h.symm
 clear hlow hcut hq hqq
 generalize hy : cZ (gB m neg (plU num den E (t - F.P + 1)) (plL num den E (t - F.P + 1))) = y at *
 generalize hx : cZ (gB m neg (plU num den E q) (plL num den E q)) = x at *
 by_cases hb : F.emax < t
 ·have h2 : F.emax + 1 < (x : Int) + q := by have := hloq (by omega); omega
  rw [if_pos hb, if_pos h2]
 ·rw [if_neg hb]
  by_cases hb2 : F.emax < q + (x : Int) - 1
  ·have h2 : F.emax + 1 < (x : Int) + q := by omega
   rw [if_pos hb2, if_pos h2]
  ·have h2 : ¬ F.emax + 1 < (x : Int) + q := by omega
   rw [if_neg hb2, if_neg h2]
   congr 1
   by_cases hl : plL num den E q = 0
   ·rw [if_pos (by simp [hl]), if_pos hl]
   ·rw [if_neg (by simp [hl]), if_neg hl]
    by_cases hg : F.emin ≤ t
    ·have h3 : ¬ (y : Int) + (t - F.P + 1) ≤ F.emin := by omega
     rw [if_pos hg, if_neg h3]
    ·rw [if_neg hg]
     by_cases hz : t - F.P + (y : Int) < F.emin
     ·have h3 : (y : Int) + (t - F.P + 1) ≤ F.emin := by omega
      rw [if_pos hz, if_pos h3]
     ·have h3 : ¬ (y : Int) + (t - F.P + 1) ≤ F.emin := by omega
      rw [if_neg hz, if_neg h3]
end Go.Proofs.YtafikkmnkeddpaaGreatDoor
namespace Go.Proofs.YtafikkmnkeddpaaGreatDoor
theorem Rt {num den : Nat} {E t k : Int} (h : plU num den E t = 1) (hk : plU num den E k ≠ 0) : k ≤ t := by
 rcases Int.lt_or_le t k with h1 | h1
 ·exact absurd (vC h h1) hk
 ·exact h1
theorem Ru {num den : Nat} {E t k : Int} (h : plU num den E t = 1) (hk : plU num den E k = 0) : t < k := by
 rcases Int.lt_or_le t k with h1 | h1
 ·exact h1
 ·have := oh h h1
  rw [hk, o7] at this
  omega
theorem PO {F : Fm} (hF : F.Ok) (m : Int) (neg : Bool) {num den : Nat} {E : Int} (hn : num ≠ 0) (hd : 0 < den) (h : plU num den E (F.emax + 1) ≠ 0) : vF F m neg num den E = (lF F m neg, 20) := by
 have hts := nO hn hd E
 have hg := Rt hts h
 have hp2 := hF.p2
 have hee := hF.ee
 unfold vF
 generalize qO num den E = t at *
 simp only []
 have e : max (t - F.P + 1) (F.emin - F.P + 1) = t - F.P + 1 := by omega
 rw [e]
 have h1 := oh hts (q := t - F.P + 1) (by omega)
 have h2 := wO (wP m neg (plU num den E (t - F.P + 1)) (plL num den E (t - F.P + 1)))
 rw [h1] at h2
 rw [if_pos]
 omega
theorem JG {F : Fm} (hF : F.Ok) (m : Int) (neg : Bool) {num den : Nat} {E : Int} (hn : num ≠ 0) (hd : 0 < den) (h : plU num den E (F.emin - F.P) = 0) :
  vF F m neg num den E = (gB m neg 0 1 + (if neg then 2 ^ (F.W - 1) else 0), 24) := by
 have hts := nO hn hd E
 have hg := Ru hts h
 have hp2 := hF.p2
 have hee := hF.ee
 have hc := qN num den E (F.emin - F.P) (F.emin - F.P + 1) (by omega)
 have hU : plU num den E (F.emin - F.P + 1) = 0 := by rw [mO num den E (F.emin - F.P) _ (by omega), h]; simp
 have hL : plL num den E (F.emin - F.P + 1) = 1 := by
  rw [hc.2, show (F.emin - F.P + 1 - (F.emin - F.P)).toNat = 1 by omega, Nat.pow_one]
  have hD := IK hd E (F.emin - F.P)
  have ha : upN num E (F.emin - F.P) < dnN den E (F.emin - F.P) := by
   have := (Nat.div_eq_zero_iff).1 h
   omega
  have hA : upN num E (F.emin - F.P) ≠ 0 := Nat.mul_ne_zero hn (by have := Nat.two_pow_pos (E - (F.emin - F.P)).toNat; omega)
  unfold lOf oH
  rw [Nat.mod_eq_of_lt (by omega), if_neg hA, if_pos (by omega)]
 unfold vF
 generalize qO num den E = t at *
 simp only []
 have e : max (t - F.P + 1) (F.emin - F.P + 1) = F.emin - F.P + 1 := by omega
 rw [e, hU, hL]
 have hb : cZ (gB m neg 0 1) ≤ 1 := kW (by have := qx m neg 0 1; omega)
 have h1 := oh hts (q := t - F.P + 1) (by omega)
 have h2 : cZ (gB m neg (plU num den E (t - F.P + 1)) (plL num den E (t - F.P + 1))) ≤ F.P + 1 := by
  refine kW ?_
  have h3 := qx m neg (plU num den E (t - F.P + 1)) (plL num den E (t - F.P + 1))
  have h4 := jq (plU num den E (t - F.P + 1))
  rw [h1, show (t - (t - F.P + 1)).toNat + 1 = F.P by omega] at h4
  rw [Nat.pow_succ]
  have := Nat.two_pow_pos F.P
  omega
 have h3 : ¬ F.emax + 1 < ((cZ (gB m neg 0 1) : Nat) : Int) + (F.emin - F.P + 1) := by omega
 have h4 : ((cZ (gB m neg (plU num den E (t - F.P + 1)) (plL num den E (t - F.P + 1))) : Nat) : Int) + (t - F.P + 1) ≤ F.emin := by omega
 rw [if_neg h3]
 congr 1
 ·simp
 ·rw [if_neg (show ¬ (1 : Nat) = 0 by decide), if_pos h4]
theorem Nr {F : Fm} (hF : F.Ok) (m : Int) (neg : Bool) {num den : Nat} {E : Int} (hn : num ≠ 0) (hd : 0 < den) : (vF F m neg num den E).1 < 2 ^ F.W := by
 have hts := nO hn hd E
 have hp2 := hF.p2
 have hpw := hF.pw
 have hfld := hF.fld
 have hsg : (if neg = true then 2 ^ (F.W - 1) else 0) ≤ 2 ^ (F.W - 1) := by split <;> simp
 have hW : 2 ^ F.W = 2 ^ (F.W - 1) + 2 ^ (F.W - 1) := by
  have : F.W = (F.W - 1) + 1 := by omega
  rw [this, Nat.pow_succ, Nat.add_sub_cancel]
  omega
 have hW1 : 2 ^ (F.W - 1) = 2 ^ (F.W - F.P) * 2 ^ (F.P - 1) := by rw [← Nat.pow_add]; congr 1; omega
 have h2 : 2 ≤ 2 ^ (F.W - F.P) := by
  have := Nat.pow_le_pow_right (show 0 < 2 by decide) (show 1 ≤ F.W - F.P by omega)
  simpa using this
 have hP := Nat.two_pow_pos (F.P - 1)
 have hby : lF F m neg < 2 ^ F.W := by
  unfold lF
  generalize 2 ^ (F.W - F.P) = a at *
  generalize 2 ^ (F.P - 1) = b at *
  obtain ⟨c, rfl⟩ : ∃ c, a = c + 2 := ⟨a - 2, by omega⟩
  have e1 : (c + 2) * b = c * b + 2 * b := by rw [Nat.add_mul]
  have e2 : (c + 2 - 1) * b = c * b + b := by rw [show c + 2 - 1 = c + 1 by omega, Nat.add_mul]; omega
  have e3 : (c + 2 - 2) * b = c * b := rfl
  rw [e2, e3]
  split <;> omega
 unfold vF
 generalize qO num den E = t at *
 simp only []
 obtain ⟨q, hq⟩ : ∃ q, q = max (t - F.P + 1) (F.emin - F.P + 1) := ⟨_, rfl⟩
 rw [← hq]
 split
 ·exact hby
 ·rename_i hov
  simp only []
  generalize hn : gB m neg (plU num den E q) (plL num den E q) = n at *
  have hn1 := jq n
  have hnle : n ≤ 2 ^ F.P := by
   have h3 := qx m neg (plU num den E q) (plL num den E q)
   rw [hn] at h3
   have h4 : plU num den E q < 2 ^ F.P := by
    rcases Int.lt_or_le t q with h5 | h5
    ·rw [vC hts h5]; exact Nat.two_pow_pos _
    ·have h6 := oh hts h5
     have h7 := jq (plU num den E q)
     rw [h6] at h7
     exact Nat.lt_of_lt_of_le h7 (Nat.pow_le_pow_right (by decide) (by omega))
   omega
  have hPP : 2 ^ F.P = 2 * 2 ^ (F.P - 1) := by
   have : F.P = (F.P - 1) + 1 := by omega
   rw [this, Nat.pow_succ, Nat.add_sub_cancel]
   omega
  obtain ⟨k, hk⟩ : ∃ k, k = (q - (F.emin - F.P + 1)).toNat := ⟨_, rfl⟩
  rw [← hk]
  have key : k * 2 ^ (F.P - 1) + n < 2 ^ (F.W - 1) := by
   rw [hW1]
   by_cases hs : cZ n ≤ F.P
   ·have h8 : n < 2 ^ F.P := Nat.lt_of_lt_of_le hn1 (Nat.pow_le_pow_right (by decide) hs)
    by_cases hqe : q ≤ F.emax - F.P + 1
    ·have hkl : k + 2 ≤ 2 ^ (F.W - F.P) := by
      have : ((k : Int) + 2) ≤ ((2 ^ (F.W - F.P) : Nat) : Int) := by push_cast; omega
      omega
     have := Nat.mul_le_mul_right (2 ^ (F.P - 1)) hkl
     rw [Nat.add_mul] at this
     omega
    ·
     have hqt : q = t - F.P + 1 := by have := hF.ee; omega
     have h9 := oh hts (q := q) (by omega)
     have h10 := wO (wP m neg (plU num den E q) (plL num den E q))
     rw [hn, h9] at h10
     omega
   ·have hqe : q + 1 ≤ F.emax - F.P + 1 := by omega
    have hkl : k + 3 ≤ 2 ^ (F.W - F.P) := by
     have : ((k : Int) + 3) ≤ ((2 ^ (F.W - F.P) : Nat) : Int) := by push_cast; omega
     omega
    have := Nat.mul_le_mul_right (2 ^ (F.P - 1)) hkl
    rw [Nat.add_mul] at this
    omega
  omega
structure qZ (num den : Nat) (n r : Nat) (s : Nat) : Prop where
 eq : n * den + r = num * 2 ^ s
 lt : r < den
theorem qZ.step0 {num den n r s : Nat} (h : qZ num den n r s) (h2 : r + r < den) : qZ num den (n + n) (r + r) (s + 1) :=
 ⟨by rw [Nat.add_mul, Nat.pow_succ, ← Nat.mul_assoc, ← h.eq]; omega, h2⟩
theorem qZ.step1 {num den n r s : Nat} (h : qZ num den n r s) (h2 : den ≤ r + r) : qZ num den (n + n + 1) (r + r - den) (s + 1) :=
 ⟨by rw [Nat.add_mul, Nat.add_mul, Nat.pow_succ, ← Nat.mul_assoc, ← h.eq]; omega, by have := h.lt; omega⟩
theorem qZ.done {num den n r s : Nat} (h : qZ num den n r s) (hn : num ≠ 0) (P : Nat) (hl : P + 3 ≤ cZ n ∨ r = 0) (E : Int) : EL num den E n (E - s) (decide (0 < r)) P := by
 have hd : 0 < den := Nat.lt_of_le_of_lt (Nat.zero_le _) h.lt
 have hU : upN num E (E - s) = n * den + r := by unfold upN; rw [h.eq]; congr 2; omega
 have hD : dnN den E (E - s) = den := by unfold dnN; rw [show ((E - (s : Int)) - E).toNat = 0 by omega]; simp
 have h1 : (n * den + r) / den = n := by rw [Nat.mul_comm, Nat.mul_add_div hd, Nat.div_eq_of_lt h.lt]; omega
 have h2 : (n * den + r) % den = r := by rw [Nat.mul_comm, Nat.mul_add_mod, Nat.mod_eq_of_lt h.lt]
 refine ⟨by unfold plU; rw [hU, hD, h1], ?_, ?_, ?_⟩
 ·unfold plL lOf
  rw [hU, hD, h2]
  congr 1
  exact propext (by rw [ne_eq, Ac]; omega)
 ·rintro rfl
  rcases hl with hl | hl
  ·rw [o7] at hl; omega
  ·subst hl
   have := h.eq
   rw [Nat.zero_mul, Nat.zero_add] at this
   exact Nat.mul_ne_zero hn (by have := Nat.two_pow_pos s; omega) this.symm
 ·intro hm
  have : 0 < r := by simpa using hm
  omega
theorem xA {n : Nat} (h : n ≠ 0) : cZ (n + n) = cZ n + 1 ∧ cZ (n + n + 1) = cZ n + 1 := by
 have h1 := jq n
 have h2 := ng h
 obtain ⟨k, hk⟩ : ∃ k, cZ n = k + 1 := ⟨cZ n - 1, by rw [jQ h]; omega⟩
 rw [hk] at h1 h2 ⊢
 rw [Nat.add_sub_cancel] at h2
 have e : 2 ^ (k + 1 + 1) = 2 * 2 ^ (k + 1) := by rw [Nat.pow_succ 2 (k + 1)]; omega
 have e2 : 2 ^ (k + 1) = 2 * 2 ^ k := by rw [Nat.pow_succ]; omega
 exact ⟨qJ (by omega) (by omega), qJ (by omega) (by omega)⟩
end Go.Proofs.YtafikkmnkeddpaaGreatDoor
namespace Go.Proofs.YtafikkmnkeddpaaGreatDoor
def xC (F : Fm) (m : Int) (neg : Bool) (n : Nat) (x : Int) : Nat × Nat := vF F m neg (n * 10 ^ x.toNat) (10 ^ (-x).toNat) 0
structure Fm.Small (F : Fm) : Prop where
 ok : F.Ok
 top : F.emax ≤ 1023
 top0 : 0 ≤ F.emax
 low : -1075 ≤ F.emin - F.P
 low0 : F.emin - F.P ≤ 0
theorem ku (k : Nat) : 0 < 10 ^ k := Nat.pow_pos (by decide)
theorem Qw {c : Nat} (h : c = 399) : 2 ^ 1024 ≤ 10 ^ c := by subst h; decide +kernel
theorem Qx {c : Nat} (h : c = 400) : 2 ^ 1075 ≤ 10 ^ c := by subst h; decide +kernel
theorem DW {F : Fm} (hF : F.Small) (m : Int) (neg : Bool) {n L : Nat} (h1 : 10 ^ L ≤ n) {x : Int} (hx : 399 ≤ L + x) : xC F m neg n x = (lF F m neg, 20) := by
 have hn : n ≠ 0 := by have := ku L; omega
 have hnum : n * 10 ^ x.toNat ≠ 0 := Nat.mul_ne_zero hn (by have := ku x.toNat; omega)
 refine PO hF.ok m neg hnum (ku _) ?_
 obtain ⟨c, hc⟩ : ∃ c : Nat, c = 399 := ⟨_, rfl⟩
 have hh : (-x).toNat + c ≤ L + x.toNat := by omega
 have hle : 10 ^ (-x).toNat * 2 ^ (F.emax + 1).toNat ≤ n * 10 ^ x.toNat := by
  have e2 : 2 ^ (F.emax + 1).toNat ≤ 10 ^ c := Nat.le_trans (Nat.pow_le_pow_right (by decide) (by have := hF.top; omega)) (Qw hc)
  calc 10 ^ (-x).toNat * 2 ^ (F.emax + 1).toNat ≤ 10 ^ (-x).toNat * 10 ^ c := Nat.mul_le_mul_left _ e2
   _ = 10 ^ ((-x).toNat + c) := (Nat.pow_add _ _ _).symm
   _ ≤ 10 ^ (L + x.toNat) := Nat.pow_le_pow_right (by decide) hh
   _ = 10 ^ L * 10 ^ x.toNat := Nat.pow_add _ _ _
   _ ≤ n * 10 ^ x.toNat := Nat.mul_le_mul_right _ h1
 unfold plU upN dnN
 have h0 := hF.top0
 rw [show (0 - (F.emax + 1)).toNat = 0 by omega, Nat.pow_zero, Nat.mul_one, show F.emax + 1 - 0 = F.emax + 1 by omega]
 have := (Nat.le_div_iff_mul_le (Nat.mul_pos (ku (-x).toNat) (Nat.two_pow_pos (F.emax + 1).toNat))).2 (by rw [Nat.one_mul]; exact hle)
 omega
theorem yu {F : Fm} (hF : F.Small) (m : Int) (neg : Bool) {n L : Nat} (h0 : n ≠ 0) (h1 : n < 10 ^ L) {x : Int} (hx : L + x ≤ -400) : xC F m neg n x = (gB m neg 0 1 + (if neg then 2 ^ (F.W - 1) else 0), 24) := by
 have hnum : n * 10 ^ x.toNat ≠ 0 := Nat.mul_ne_zero h0 (by have := ku x.toNat; omega)
 refine JG hF.ok m neg hnum (ku _) ?_
 have hlo := hF.low
 have hlo0 := hF.low0
 obtain ⟨c, hc⟩ : ∃ c : Nat, c = 400 := ⟨_, rfl⟩
 have hh : L + c ≤ (-x).toNat := by omega
 have hlt : n * 10 ^ x.toNat * 2 ^ (-(F.emin - F.P)).toNat < 10 ^ (-x).toNat := by
  have e2 : 2 ^ (-(F.emin - F.P)).toNat ≤ 10 ^ c := Nat.le_trans (Nat.pow_le_pow_right (by decide) (by omega)) (Qx hc)
  rw [show x.toNat = 0 by omega, Nat.pow_zero, Nat.mul_one]
  calc n * 2 ^ (-(F.emin - F.P)).toNat < 10 ^ L * 2 ^ (-(F.emin - F.P)).toNat := Nat.mul_lt_mul_of_pos_right h1 (Nat.two_pow_pos _)
   _ ≤ 10 ^ L * 10 ^ c := Nat.mul_le_mul_left _ e2
   _ = 10 ^ (L + c) := (Nat.pow_add _ _ _).symm
   _ ≤ 10 ^ (-x).toNat := Nat.pow_le_pow_right (by decide) hh
 unfold plU upN dnN
 rw [show 0 - (F.emin - F.P) = -(F.emin - F.P) by omega, show (F.emin - (F.P : Int) - 0).toNat = 0 by omega, Nat.pow_zero, Nat.mul_one]
 exact Nat.div_eq_of_lt hlt
theorem yx {F : Fm} (hF : F.Small) (m : Int) (neg : Bool) {n L : Nat} (h1 : 10 ^ L ≤ n) (h2 : n < 10 ^ (L + 1)) {x lo hi : Int} (hlo : lo + L ≤ -401) (hhi : 399 ≤ hi + L) : xC F m neg n (max lo (min x hi)) = xC F m neg n x := by
 have hn : n ≠ 0 := by have := ku L; omega
 rcases Int.lt_or_le hi x with h | h
 ·rw [DW hF m neg h1 (by omega), DW hF m neg h1 (by omega)]
 ·rcases Int.lt_or_le x lo with h' | h'
  ·rw [yu hF m neg hn h2 (by omega), yu hF m neg hn h2 (by omega)]
  ·rw [show max lo (min x hi) = x by omega]
end Go.Proofs.YtafikkmnkeddpaaGreatDoor
namespace Go.Proofs.YtafikkmnkeddpaaGreatDoor.P
open Go.RowKit Go.Proofs.YtafikkmnkeddpaaGreatDoorW.PrintWords Go.Proofs.YtafikkmnkeddpaaGreatDoorW.PrintLast Go.Proofs.YtafikkmnkeddpaaGreatDoorW.PrintMore
structure IsF (a : Int) (F : Fm) : Prop where
 row : bJ.f a = some ((F.W : Int), (F.P : Int), F.emin, F.emax, true)
 small : F.Small
 ones : 2 * F.emax + 2 = ((2 ^ (F.W - F.P) : Nat) : Int)
 emin1 : -2000 ≤ F.emin
def fmH : Fm := ⟨16, 11, -14, 15⟩
def fmB : Fm := ⟨16, 8, -126, 127⟩
def fmS : Fm := ⟨32, 24, -126, 127⟩
def fmD : Fm := ⟨64, 53, -1022, 1023⟩
theorem Ug : IsF 0 fmH := ⟨rfl, ⟨⟨by decide, by decide, by decide, by decide, by decide⟩, by decide, by decide, by decide, by decide⟩, by decide, by decide⟩
theorem Uh : IsF 1 fmB := ⟨rfl, ⟨⟨by decide, by decide, by decide, by decide, by decide⟩, by decide, by decide, by decide, by decide⟩, by decide, by decide⟩
theorem Ui : IsF 2 fmS := ⟨rfl, ⟨⟨by decide, by decide, by decide, by decide, by decide⟩, by decide, by decide, by decide, by decide⟩, by decide, by decide⟩
theorem Uj : IsF 3 fmD := ⟨rfl, ⟨⟨by decide, by decide, by decide, by decide, by decide⟩, by decide, by decide, by decide, by decide⟩, by decide, by decide⟩
theorem nM {v n : Nat} : (toW (v * 2 ^ n)).length ≤ (toW v).length + n / 64 + 1 := by
 refine jg ?_
 have h1 := lg v
 have h2 : 2 ^ n ≤ WB ^ (n / 64 + 1) := by
  rw [show WB = 2 ^ 64 from rfl, ← Nat.pow_mul]
  exact Nat.pow_le_pow_right (by decide) (by omega)
 rw [Nat.add_assoc, Nat.pow_add]
 exact Nat.lt_of_lt_of_le (Nat.mul_lt_mul_of_pos_right h1 (Nat.two_pow_pos n)) (Nat.mul_le_mul_left _ h2)
theorem Q9 {a b : Nat} (h : a ≤ b) : (toW a).length ≤ (toW b).length := gU h
theorem Me {r d : Nat} (h : r ≠ 0) : wrap64 (2 + lG (r * 2) d) = ((oH r d : Nat) : Int) := by
 unfold oH lG
 rw [if_neg h, Nat.mul_comm]
 split
 ·rw [w64 (by decide) (by decide)]; rfl
 ·split
  ·rw [w64 (by decide) (by decide)]; rfl
  ·rw [w64 (by decide) (by decide)]; rfl
theorem Iq {A D : Nat} (hD : D ≠ 0) (hA : (toW A).length ≤ 900000) (hDl : (toW D).length ≤ 900000) : Ev (fun k => (dD.f k (wI A) (wI D)).bind fun bt => (if (bt.2.length : Int) = 0 then (some (bt.1, 0)) else ((dM.f k bt.2 1).bind fun t => ((bn.f k t (wI D)).bind fun t' => (some (bt.1, wrap64 (2 + t'))))))) (wI (A / D), ((lOf A D : Nat) : Int)) := by
 refine Ev.bind (Jr hD (by omega) (by omega)) ?_
 have hr : A % D < D := Nat.mod_lt _ (Nat.pos_of_ne_zero hD)
 have hrl := Q9 (Nat.le_of_lt hr)
 unfold lOf QR
 simp only []
 rw [gJ]
 by_cases h0 : A % D = 0
 ·rw [h0, gZ]
  refine Ev.pos rfl ?_
  unfold oH
  rw [if_pos rfl]
  exact Ev.now _
 ·have hp := iJ h0
  refine Ev.neg (by omega) ?_
  have hup := LM (a := A % D) 1 (by omega) (by omega)
  rw [Nat.pow_one] at hup
  have hs := nM (v := A % D) (n := 1)
  rw [Nat.pow_one] at hs
  refine Ev.bind hup (Ev.bind (wF (by unfold nJ; omega) (by unfold nJ; omega)) ?_)
  rw [Me h0]
  exact Ev.now _
theorem wH (neg : Bool) {num den : Nat} (hd : den ≠ 0) (hn : (toW num).length ≤ 100000) (hdl : (toW den).length ≤ 100000) {E q : Int} (h1 : -10000000 ≤ E - q) (h2 : E - q ≤ 10000000) (hE : -100000000 ≤ E) (hE2 : E ≤ 100000000) :
  Ev (fun k => bT.f k neg (wI num) (wI den) E q) (wI (plU num den E q), ((plL num den E q : Nat) : Int)) := by
 unfold bT.f plU plL upN dnN
 by_cases h : E ≥ q
 ·refine Ev.pos h ?_
  have e0 : (q - E).toNat = 0 := by omega
  have e1 : wrap64 (E - q) = (((E - q).toNat : Nat) : Int) := by rw [w64 (by omega) (by omega)]; omega
  have hs := nM (v := num) (n := (E - q).toNat)
  have c1 : (toW num).length ≤ 10000000 := by omega
  have c2 : (E - q).toNat ≤ 1000000000 := by omega
  have c3 : (toW (num * 2 ^ (E - q).toNat)).length ≤ 900000 := by omega
  rw [e0, Nat.pow_zero, Nat.mul_one, e1]
  exact Ev.bind (LM (a := num) (E - q).toNat c1 c2) (Iq hd c3 (by omega))
 ·refine Ev.neg h ?_
  have e0 : (E - q).toNat = 0 := by omega
  have e1 : wrap64 (q - E) = (((q - E).toNat : Nat) : Int) := by rw [w64 (by omega) (by omega)]; omega
  have hs := nM (v := den) (n := (q - E).toNat)
  have c1 : (toW den).length ≤ 10000000 := by omega
  have c2 : (q - E).toNat ≤ 1000000000 := by omega
  have c3 : (toW (den * 2 ^ (q - E).toNat)).length ≤ 900000 := by omega
  have c4 : (toW num).length ≤ 900000 := by omega
  have hd2 : den * 2 ^ (q - E).toNat ≠ 0 := Nat.mul_ne_zero hd (by have := Nat.two_pow_pos (q - E).toNat; omega)
  rw [e0, Nat.pow_zero, Nat.mul_one, e1]
  exact Ev.bind (LM (a := den) (q - E).toNat c1 c2) (Iq hd2 c4 c3)
theorem lK (v : Nat) : cZ v ≤ 64 * (toW v).length := kW (by have := lg v; rwa [show WB = 2 ^ 64 from rfl, ← Nat.pow_mul] at this)
theorem Q_ (neg : Bool) {num den : Nat} (hd : den ≠ 0) (hn : (toW num).length ≤ 10000) (hdl : (toW den).length ≤ 10000) {E : Int} (hE : -10000000 ≤ E) (hE2 : E ≤ 10000000) :
  Ev (fun k => eU.f k neg (wI num) (wI den) E) (qO num den E) := by
 unfold eU.f qO
 have b1 := lK num
 have b2 := lK den
 have e1 : wrap64 ((wrap64 ((cZ num : Int) - (cZ den : Int))) + E) = (cZ num : Int) - cZ den + E := by rw [w64 (x := (cZ num : Int) - (cZ den : Int)) (by omega) (by omega), w64 (by omega) (by omega)]
 have e2 : wrap64 (((cZ num : Int) - cZ den + E) - 1) = (cZ num : Int) - cZ den + E - 1 := w64 (by omega) (by omega)
 have c1 : -10000000 ≤ E - ((cZ num : Int) - cZ den + E) := by omega
 have c2 : E - ((cZ num : Int) - cZ den + E) ≤ 10000000 := by omega
 refine Ev.bind (uq (by unfold nJ; omega)) (Ev.bind (uq (by unfold nJ; omega)) ?_)
 rw [e1, e2]
 refine Ev.bind (wH neg hd (by omega) (by omega) c1 c2 (by omega) (by omega)) ?_
 simp only []
 rw [gJ]
 by_cases h0 : plU num den E ((cZ num : Int) - cZ den + E) = 0
 ·rw [if_pos h0, h0, gZ]
  exact Ev.pos rfl (Ev.now _)
 ·have hp := iJ h0
  rw [if_neg h0]
  exact Ev.neg (by omega) (Ev.now _)
theorem BM (m : Int) (neg : Bool) {u : Nat} (hu : (toW u).length ≤ 1000000) {l : Nat} (hl : l ≤ 3) : Ev (fun k => dw.f k m neg (wI u) (l : Int)) (wI (gB m neg u l)) := by
 have hadd := LJ (a := u) (b := 1) (by omega) (by rw [lD]; decide)
 rw [show wI 1 = [1] by unfold wI; rw [lD]; rfl] at hadd
 have hA : Ev (fun k => (aJ.f k (wI u) (([1] : List Int))).bind fun t => (some t)) (wI (u + 1)) := Ev.bind hadd (Ev.now _)
 have hN : Ev (fun _ : Nat => some (wI u)) (wI u) := Ev.now _
 have hb := LQ (a := u) 0 (by omega) (by omega)
 rw [Nat.pow_zero, Nat.div_one] at hb
 have hpar : u % 2 = 0 ∨ u % 2 = 1 := by omega
 have hls : l = 0 ∨ l = 1 ∨ l = 2 ∨ l = 3 := by omega
 unfold dw.f gB Ae
 rw [show ((0 : Nat) : Int) = 0 from rfl] at hb
 rw [hb]
 simp only [Option.bind_some]
 by_cases m0 : m = 0
 ·subst m0
  rcases hpar with hp | hp <;> rw [hp] <;> rcases hls with h | h | h | h <;> subst h <;> simp <;> first | exact hadd | exact hN
 ·by_cases m1 : m = 1
  ·subst m1
   rcases hls with h | h | h | h <;> subst h <;> simp <;> first | exact hadd | exact hN
  ·by_cases m3 : m = 3
   ·subst m3
    cases neg <;> rcases hls with h | h | h | h <;> subst h <;> simp <;> first | exact hadd | exact hN
   ·by_cases m4 : m = 4
    ·subst m4
     cases neg <;> rcases hls with h | h | h | h <;> subst h <;> simp <;> first | exact hadd | exact hN
    ·by_cases m5 : m = 5
     ·subst m5
      rcases hpar with hp | hp <;> rw [hp] <;> rcases hls with h | h | h | h <;> subst h <;> simp <;> first | exact hadd | exact hN
     ·simp [m0, m1, m3, m4, m5]
      exact hN
theorem qM {x s : Nat} (hs : s ≤ 64) (h : x * 2 ^ s < 18446744073709551616) : shl .u64 (x : Int) (s : Int) = ((x * 2 ^ s : Nat) : Int) := by
 rw [uZ _ _ hs]
 have := OT (a := x) (b := 2 ^ s) h
 rwa [Int.natCast_pow] at this
theorem u_ {a : Int} {F : Fm} (hF : IsF a F) {s e f : Nat} (hs : s ≤ 1) (he : e < 2 ^ (F.W - F.P)) (hf : f < 2 ^ (F.P - 1)) : bK.f a (s : Int) (e : Int) (f : Int) = some ((s * 2 ^ (F.W - 1) + e * 2 ^ (F.P - 1) + f : Nat) : Int) := by
 have hp2 := hF.small.ok.p2
 have hpw := hF.small.ok.pw
 have hw := hF.small.ok.w64
 have hW1 : 2 ^ (F.W - 1) = 2 ^ (F.W - F.P) * 2 ^ (F.P - 1) := by rw [← Nat.pow_add]; congr 1; omega
 have hef : e * 2 ^ (F.P - 1) + 2 ^ (F.P - 1) ≤ 2 ^ (F.W - 1) := by
  have := Nat.mul_le_mul_right (2 ^ (F.P - 1)) he
  rw [Nat.succ_mul] at this
  rwa [hW1]
 have h64 : 2 * 2 ^ (F.W - 1) ≤ 18446744073709551616 := by
  rw [← Nat.pow_succ']
  have : 2 ^ (F.W - 1 + 1) ≤ 2 ^ 64 := Nat.pow_le_pow_right (by decide) (by omega)
  exact this
 have hsW : s * 2 ^ (F.W - 1) ≤ 2 ^ (F.W - 1) := by
  have := Nat.mul_le_mul_right (2 ^ (F.W - 1)) hs
  rwa [Nat.one_mul] at this
 have hpp := Nat.two_pow_pos (F.P - 1)
 have e1 : IntKind.u64.wrap (wrap64 ((F.W : Int) - 1)) = ((F.W - 1 : Nat) : Int) := by rw [w64 (by omega) (by omega), wu64 (by omega) (by omega)]; omega
 have e2 : IntKind.u64.wrap (wrap64 ((F.P : Int) - 1)) = ((F.P - 1 : Nat) : Int) := by rw [w64 (by omega) (by omega), wu64 (by omega) (by omega)]; omega
 have k1 : s * 2 ^ (F.W - 1) < 18446744073709551616 := by clear e1 e2; omega
 have k2 : e * 2 ^ (F.P - 1) < 18446744073709551616 := by clear e1 e2; omega
 have k3 : f < 18446744073709551616 := by clear e1 e2; omega
 have k4 : s * 2 ^ (F.W - 1) + e * 2 ^ (F.P - 1) < 18446744073709551616 := by clear e1 e2; omega
 have k5 : e * 2 ^ (F.P - 1) < 2 ^ (F.W - 1) := by clear e1 e2; omega
 have k6 : F.W - 1 ≤ 64 := by clear e1 e2; omega
 have k7 : F.P - 1 ≤ 64 := by clear e1 e2; omega
 have o1 : s * 2 ^ (F.W - 1) ||| e * 2 ^ (F.P - 1) = s * 2 ^ (F.W - 1) + e * 2 ^ (F.P - 1) := by
  rw [Nat.mul_comm s, ← Nat.two_pow_add_eq_or_of_lt k5]
 have o2 : (s * 2 ^ (F.W - 1) + e * 2 ^ (F.P - 1)) ||| f = s * 2 ^ (F.W - 1) + e * 2 ^ (F.P - 1) + f := by
  have : s * 2 ^ (F.W - 1) + e * 2 ^ (F.P - 1) = 2 ^ (F.P - 1) * (s * 2 ^ (F.W - F.P) + e) := by
   rw [hW1, Nat.mul_add, Nat.mul_comm (2 ^ (F.P - 1)) e, ← Nat.mul_assoc, Nat.mul_comm (2 ^ (F.P - 1))]
  rw [this, ← Nat.two_pow_add_eq_or_of_lt hf]
 unfold bK.f
 rw [hF.row]
 simp only [Option.bind_some]
 rw [e1, e2, if_pos (Int.natCast_nonneg _), if_pos (Int.natCast_nonneg _), qM k6 k1, qM k7 k2, u64_or_nat _ _ k1 k2, o1, u64_or_nat _ _ k4 k3, o2]
def sg (neg : Bool) : Nat := if neg then 1 else 0
theorem x9 (neg : Bool) : b_.f neg = some ((sg neg : Nat) : Int) := by cases neg <;> rfl
theorem Ir (neg : Bool) : sg neg ≤ 1 := by cases neg <;> decide
theorem Du (neg : Bool) (x : Nat) : sg neg * x = if neg = true then x else 0 := by cases neg <;> simp [sg]
theorem MB {a : Int} {F : Fm} (hF : IsF a F) (neg : Bool) : dR.f a ((sg neg : Nat) : Int) = some (((2 ^ (F.W - F.P) - 1) * 2 ^ (F.P - 1) + (if neg = true then 2 ^ (F.W - 1) else 0) : Nat) : Int) := by
 have ho := hF.ones
 have htop := hF.small.top
 have htop0 := hF.small.top0
 have hpos := Nat.two_pow_pos (F.W - F.P)
 have e1 : IntKind.u64.wrap (wrap64 ((wrap64 (2 * F.emax)) + 1)) = ((2 ^ (F.W - F.P) - 1 : Nat) : Int) := by
  rw [w64 (x := 2 * F.emax) (by omega) (by omega), w64 (by omega) (by omega), wu64 (by omega) (by omega)]; omega
 have hm := u_ hF (s := sg neg) (e := 2 ^ (F.W - F.P) - 1) (f := 0) (Ir neg) (Nat.sub_lt hpos (by decide)) (Nat.two_pow_pos _)
 unfold dR.f
 rw [hF.row]
 simp only [Option.bind_some]
 rw [e1]
 rw [show ((0 : Nat) : Int) = 0 from rfl] at hm
 rw [hm, Du]
 simp only [Option.bind_some]
 congr 2
 rw [Nat.add_zero, Nat.add_comm]
theorem O6 {a : Int} {F : Fm} (hF : IsF a F) (neg : Bool) : dJ.f a ((sg neg : Nat) : Int) = some (((if neg = true then 2 ^ (F.W - 1) else 0) : Nat) : Int) := by
 have hm := u_ hF (s := sg neg) (e := 0) (f := 0) (Ir neg) (Nat.two_pow_pos _) (Nat.two_pow_pos _)
 unfold dJ.f
 rw [show ((0 : Nat) : Int) = 0 from rfl] at hm
 rw [hm, Du, Nat.zero_mul]
 rfl
theorem Rf {a : Int} {F : Fm} (hF : IsF a F) : eG.f a = some (((2 ^ (F.W - F.P) - 1) * 2 ^ (F.P - 1) + 2 ^ (F.P - 2) : Nat) : Int) := by
 have ho := hF.ones
 have htop := hF.small.top
 have htop0 := hF.small.top0
 have hp2 := hF.small.ok.p2
 have hpw := hF.small.ok.pw
 have hw := hF.small.ok.w64
 have hpos := Nat.two_pow_pos (F.W - F.P)
 have e1 : IntKind.u64.wrap (wrap64 ((wrap64 (2 * F.emax)) + 1)) = ((2 ^ (F.W - F.P) - 1 : Nat) : Int) := by
  rw [w64 (x := 2 * F.emax) (by omega) (by omega), w64 (by omega) (by omega), wu64 (by omega) (by omega)]; omega
 have e2 : IntKind.u64.wrap (wrap64 ((F.P : Int) - 2)) = ((F.P - 2 : Nat) : Int) := by rw [w64 (by omega) (by omega), wu64 (by omega) (by omega)]; omega
 have k1 : F.P - 2 ≤ 64 := by clear e1 e2; omega
 have k2 : 1 * 2 ^ (F.P - 2) < 18446744073709551616 := by
  rw [Nat.one_mul]
  exact Nat.lt_of_lt_of_le (Nat.pow_lt_pow_right (by decide) (show F.P - 2 < 64 by clear e1 e2; omega)) (by decide)
 have hm := u_ hF (s := 0) (e := 2 ^ (F.W - F.P) - 1) (f := 2 ^ (F.P - 2)) (by decide) (Nat.sub_lt hpos (by decide)) (Nat.pow_lt_pow_right (by decide) (show F.P - 2 < F.P - 1 by clear e1 e2; omega))
 have hs := qM (x := 1) k1 k2
 rw [show ((1 : Nat) : Int) = 1 from rfl, Nat.one_mul] at hs
 unfold eG.f
 rw [hF.row]
 simp only [Option.bind_some]
 rw [e1, e2, if_pos (Int.natCast_nonneg _), hs]
 rw [show ((0 : Nat) : Int) = 0 from rfl] at hm
 rw [hm, Nat.zero_mul, Nat.zero_add]
 rfl
theorem Es {a : Int} {F : Fm} (hF : IsF a F) (neg : Bool) : dG.f a ((sg neg : Nat) : Int) = some (((2 ^ (F.W - F.P) - 2) * 2 ^ (F.P - 1) + (2 ^ (F.P - 1) - 1) + (if neg = true then 2 ^ (F.W - 1) else 0) : Nat) : Int) := by
 have ho := hF.ones
 have htop := hF.small.top
 have htop0 := hF.small.top0
 have hp2 := hF.small.ok.p2
 have hpw := hF.small.ok.pw
 have hw := hF.small.ok.w64
 have hpos := Nat.two_pow_pos (F.W - F.P)
 have hpos1 := Nat.two_pow_pos (F.P - 1)
 have e1 : IntKind.u64.wrap (wrap64 (2 * F.emax)) = ((2 ^ (F.W - F.P) - 2 : Nat) : Int) := by
  rw [w64 (x := 2 * F.emax) (by omega) (by omega), wu64 (by omega) (by omega)]; omega
 have e2 : IntKind.u64.wrap (wrap64 ((F.P : Int) - 1)) = ((F.P - 1 : Nat) : Int) := by rw [w64 (by omega) (by omega), wu64 (by omega) (by omega)]; omega
 have k1 : F.P - 1 ≤ 64 := by clear e1 e2; omega
 have k2 : 1 * 2 ^ (F.P - 1) < 18446744073709551616 := by
  rw [Nat.one_mul]
  exact Nat.lt_of_lt_of_le (Nat.pow_lt_pow_right (by decide) (show F.P - 1 < 64 by clear e1 e2; omega)) (by decide)
 have hs := qM (x := 1) k1 k2
 rw [show ((1 : Nat) : Int) = 1 from rfl, Nat.one_mul] at hs
 rw [Nat.one_mul] at k2
 have e3 : IntKind.u64.wrap (((2 ^ (F.P - 1) : Nat) : Int) - 1) = ((2 ^ (F.P - 1) - 1 : Nat) : Int) := by
  clear e1 e2 hs
  generalize 2 ^ (F.P - 1) = x at *
  rw [wu64 (by omega) (by omega)]; omega
 have hm := u_ hF (s := sg neg) (e := 2 ^ (F.W - F.P) - 2) (f := 2 ^ (F.P - 1) - 1) (Ir neg) (Nat.sub_lt hpos (by decide)) (Nat.sub_lt hpos1 (by decide))
 unfold dG.f
 rw [hF.row]
 simp only [Option.bind_some]
 rw [e1, e2, if_pos (Int.natCast_nonneg _), hs, e3, hm, Du]
 simp only [Option.bind_some]
 congr 2
 rw [Nat.add_assoc, Nat.add_comm]
theorem Jv {a : Int} {F : Fm} (hF : IsF a F) (m : Int) (neg : Bool) : Ev (fun k => aV.f k a m neg) ((lF F m neg : Nat) : Int) := by
 have hI : ∀ neg : Bool, Ev (fun k => aV.j0 k a neg true) (((2 ^ (F.W - F.P) - 1) * 2 ^ (F.P - 1) + (if neg = true then 2 ^ (F.W - 1) else 0) : Nat) : Int) := fun neg => Ev.one fun k => by
  rw [aV.j0, if_pos rfl, x9]
  simp only [Option.bind_some]
  rw [MB hF]
  rfl
 have hG : ∀ neg : Bool, Ev (fun k => aV.j0 k a neg false) (((2 ^ (F.W - F.P) - 2) * 2 ^ (F.P - 1) + (2 ^ (F.P - 1) - 1) + (if neg = true then 2 ^ (F.W - 1) else 0) : Nat) : Int) := fun neg => Ev.one fun k => by
  rw [aV.j0, if_neg (by decide), x9]
  simp only [Option.bind_some]
  rw [Es hF]
  rfl
 unfold aV.f lF
 by_cases m0 : m = 0
 ·subst m0; simpa using hI neg
 ·by_cases m1 : m = 1
  ·subst m1; simpa using hI neg
  ·by_cases m3 : m = 3
   ·subst m3
    cases neg
    ·simpa using hI false
    ·simpa using hG true
   ·by_cases m4 : m = 4
    ·subst m4
     cases neg
     ·simpa using hG false
     ·simpa using hI true
    ·simp only [m0, m1, m3, m4, if_false, false_or, false_and]
     exact hG neg
def Gt (F : Fm) (m : Int) (neg : Bool) (num den : Nat) (E t q : Int) : Nat × Nat :=
 if F.emax + 1 < (cZ (gB m neg (plU num den E q) (plL num den E q)) : Int) + q then (lF F m neg, 20)
 else ((q - (F.emin - F.P + 1)).toNat * 2 ^ (F.P - 1) + gB m neg (plU num den E q) (plL num den E q) + (if neg then 2 ^ (F.W - 1) else 0),
  if plL num den E q = 0 then 0 else if (cZ (gB m neg (plU num den E (t - F.P + 1)) (plL num den E (t - F.P + 1))) : Int) + (t - F.P + 1) ≤ F.emin then 24 else 16)
theorem O7 (F : Fm) (m : Int) (neg : Bool) (num den : Nat) (E : Int) : vF F m neg num den E = Gt F m neg num den E (qO num den E) (max (qO num den E - F.P + 1) (F.emin - F.P + 1)) := rfl
theorem MC {a : Int} {F : Fm} (hF : IsF a F) (neg : Bool) (L1 L2 : List Int) (E : Int) {least q : Int} (h0 : least ≤ q) (h1 : q - least ≤ 100000000) (h2 : -1000000 ≤ least) (h3 : least ≤ 1000000) (n : Nat) (fl : Int) (hlt : (q - least).toNat * 2 ^ (F.P - 1) + n + (if neg = true then 2 ^ (F.W - 1) else 0) < 2 ^ F.W) :
  Ev (fun k => aN.j1 k a least q (wI n) fl neg L1 L2 E (F.W : Int) (F.P : Int) F.emin F.emax) ((((q - least).toNat * 2 ^ (F.P - 1) + n + (if neg = true then 2 ^ (F.W - 1) else 0) : Nat) : Int), fl) := by
 have hp2 := hF.small.ok.p2
 have hpw := hF.small.ok.pw
 have hw := hF.small.ok.w64
 have h64 : 2 ^ F.W ≤ 18446744073709551616 := by
  have : 2 ^ F.W ≤ 2 ^ 64 := Nat.pow_le_pow_right (by decide) hw
  exact this
 have hWW : 2 ^ F.W = 2 ^ (F.W - 1) + 2 ^ (F.W - 1) := by
  obtain ⟨w, hw'⟩ : ∃ w, F.W = w + 1 := ⟨F.W - 1, by omega⟩
  rw [hw', Nat.pow_succ, Nat.add_sub_cancel]; omega
 have hpp := Nat.two_pow_pos (F.P - 1)
 obtain ⟨k, hk⟩ : ∃ k : Nat, k = (q - least).toNat := ⟨_, rfl⟩
 rw [← hk] at hlt ⊢
 have g0 : wrap64 (q - least) = (k : Int) := by rw [w64 (by omega) (by omega)]; omega
 have gP : IntKind.u64.wrap (wrap64 ((F.P : Int) - 1)) = ((F.P - 1 : Nat) : Int) := by rw [w64 (by omega) (by omega), wu64 (by omega) (by omega)]; omega
 have k1 : F.P - 1 ≤ 64 := by clear g0 gP; omega
 have k2 : k * 2 ^ (F.P - 1) < 18446744073709551616 := by clear g0 gP; omega
 have k3 : k * 2 ^ (F.P - 1) + n < 18446744073709551616 := by clear g0 gP; omega
 have k4 : n < 18446744073709551616 := by clear g0 gP; omega
 have k5 : k < 18446744073709551616 := by clear g0 gP; omega
 have k6 : neg = true → k * 2 ^ (F.P - 1) + n < 2 ^ (F.W - 1) := fun h => by rw [if_pos h] at hlt; clear g0 gP; omega
 have k7 : 2 ^ (F.W - 1) < 18446744073709551616 := by clear g0 gP; have := Nat.two_pow_pos (F.W - 1); omega
 have hM := u_ hF (s := sg neg) (e := 0) (f := 0) (Ir neg) (Nat.two_pow_pos _) (Nat.two_pow_pos _)
 rw [show ((0 : Nat) : Int) = 0 from rfl, Nat.zero_mul, Nat.add_zero, Du] at hM
 have hor : Go.bits .or .u64 (((if neg = true then 2 ^ (F.W - 1) else 0 : Nat)) : Int) ((k * 2 ^ (F.P - 1) + n : Nat) : Int) = ((k * 2 ^ (F.P - 1) + n + (if neg = true then 2 ^ (F.W - 1) else 0) : Nat) : Int) := by
  cases neg
  ·have := u64_or_nat 0 (k * 2 ^ (F.P - 1) + n) (by decide) k3
   rw [Nat.zero_or] at this
   simpa using this
  ·have h6 := k6 rfl
   have := u64_or_nat (2 ^ (F.W - 1)) (k * 2 ^ (F.P - 1) + n) k7 k3
   have h7 := Nat.two_pow_add_eq_or_of_lt h6 1
   rw [Nat.mul_one] at h7
   rw [← h7] at this
   rw [if_pos rfl, this, Nat.add_comm]
 have hsh := qM k1 k2
 have hwk := rJ k5
 have hadd := LY k3
 refine Ev.one fun f => ?_
 by_cases hn : n = 0
 ·subst hn
  rw [aN.j1, gJ, gZ, if_neg (by decide), x9]
  simp only [Option.bind_some]
  rw [hM]
  simp only [Option.bind_some]
  rw [gP, if_pos (Int.natCast_nonneg _), g0, hwk, hsh]
  rw [show (0 : Int) = ((0 : Nat) : Int) from rfl, hadd, hor]
 ·have hw1 := BL hn k4
  have hrd : rd (wI n) 0 = (n : Int) := by rw [hw1]; rfl
  have hlen : (wI n).length = 1 := by rw [hw1]; rfl
  rw [aN.j1, hlen, if_pos (by decide), if_pos (by decide), x9]
  simp only [Option.bind_some]
  rw [hM]
  simp only [Option.bind_some]
  rw [gP, if_pos (Int.natCast_nonneg _), g0, hwk, hsh, hrd, hadd, hor]
theorem MF {a : Int} {F : Fm} (hF : IsF a F) (m : Int) (neg : Bool) {num den : Nat} (hn : num ≠ 0) (hd : den ≠ 0) (hnl : (toW num).length ≤ 1000) (hdl : (toW den).length ≤ 1000) {E : Int} (hE : -1000000 ≤ E) (hE2 : E ≤ 1000000) {t q : Int} (ht : plU num den E t = 1)
  (htb : -200000 ≤ t - E ∧ t - E ≤ 200000) (hq : q = max (t - F.P + 1) (F.emin - F.P + 1)) (hlt : F.emax + 1 < (cZ (gB m neg (plU num den E q) (plL num den E q)) : Int) + q ∨ (q - (F.emin - F.P + 1)).toNat * 2 ^ (F.P - 1) + gB m neg (plU num den E q) (plL num den E q) + (if neg = true then 2 ^ (F.W - 1) else 0) < 2 ^ F.W) :
  Ev (fun k => aN.j0 k a m t (F.emin - F.P + 1) q neg (wI num) (wI den) E (F.W : Int) (F.P : Int) F.emin F.emax) (((Gt F m neg num den E t q).1 : Int), ((Gt F m neg num den E t q).2 : Int)) := by
 have hp2 := hF.small.ok.p2
 have hpw := hF.small.ok.pw
 have hw := hF.small.ok.w64
 have htop := hF.small.top
 have htop0 := hF.small.top0
 have hemin := hF.emin1
 have hee := hF.small.ok.ee
 have short : ∀ q' : Int, t - F.P + 1 ≤ q' → plL num den E q' ≤ 3 ∧ cZ (plU num den E q') ≤ F.P ∧ cZ (gB m neg (plU num den E q') (plL num den E q')) ≤ F.P + 1 := fun q' h => by
  have hb : cZ (plU num den E q') ≤ F.P := by
   rcases Int.lt_or_le t q' with h5 | h5
   ·rw [vC ht h5, o7]; omega
   ·rw [oh ht h5]; omega
  refine ⟨Nl _ _, hb, kW ?_⟩
  have h3 := qx m neg (plU num den E q') (plL num den E q')
  have h4 := Nat.lt_of_lt_of_le (jq (plU num den E q')) (Nat.pow_le_pow_right (show 0 < 2 by decide) hb)
  rw [Nat.pow_succ]
  have := Nat.two_pow_pos F.P
  omega
 have EC : ∀ v : Nat, cZ v ≤ 66 → (toW v).length ≤ 2 := fun v h => jg (by
  have h1 := Nat.lt_of_lt_of_le (jq v) (Nat.pow_le_pow_right (show 0 < 2 by decide) h)
  exact Nat.lt_of_lt_of_le h1 (by decide))
 have s1 := short q (by omega)
 have s2 := short (t - F.P + 1) (Int.le_refl _)
 have f1 := EC _ (Nat.le_trans s1.2.1 (by omega))
 have f2 := EC _ (Nat.le_trans s1.2.2 (by omega))
 have f3 := EC _ (Nat.le_trans s2.2.1 (by omega))
 have f4 := EC _ (Nat.le_trans s2.2.2 (by omega))
 have p1 := wH neg hd (q := q) (E := E) (Nat.le_trans hnl (by decide)) (Nat.le_trans hdl (by decide)) (by omega) (by omega) (by omega) (by omega)
 have p2 := wH neg hd (q := t - F.P + 1) (E := E) (Nat.le_trans hnl (by decide)) (Nat.le_trans hdl (by decide)) (by omega) (by omega) (by omega) (by omega)
 have ch1 := BM m neg (u := plU num den E q) (Nat.le_trans f1 (by decide)) s1.1
 have ch2 := BM m neg (u := plU num den E (t - F.P + 1)) (Nat.le_trans f3 (by decide)) s2.1
 have l1 := uq (v := gB m neg (plU num den E q) (plL num den E q)) (Nat.le_trans f2 (by decide))
 have l2 := uq (v := gB m neg (plU num den E (t - F.P + 1)) (plL num den E (t - F.P + 1))) (Nat.le_trans f4 (by decide))
 have j1 := fun fl hlt => MC hF neg (wI num) (wI den) E (least := F.emin - F.P + 1) (q := q) (by omega) (by omega) (by omega) (by omega) (gB m neg (plU num den E q) (plL num den E q)) fl hlt
 have bb := Jv hF m neg
 clear EC short f1 f2 f3 f4
 unfold Gt
 generalize hn1 : gB m neg (plU num den E q) (plL num den E q) = n1 at *
 generalize hn2 : gB m neg (plU num den E (t - F.P + 1)) (plL num den E (t - F.P + 1)) = n2 at *
 have c1 : (F.emax + 1 < (cZ n1 : Int) + q) ↔ wrap64 ((cZ n1 : Int) + q) > wrap64 (F.emax + 1) := by rw [w64 (x := (cZ n1 : Int) + q) (by omega) (by omega), w64 (x := F.emax + 1) (by omega) (by omega)]
 have c2 : ((cZ n2 : Int) + (t - F.P + 1) ≤ F.emin) ↔ wrap64 ((wrap64 ((wrap64 ((cZ n2 : Int) + t)) - (F.P : Int))) + 1) ≤ F.emin := by
  rw [w64 (x := (cZ n2 : Int) + t) (by omega) (by omega), w64 (x := (cZ n2 : Int) + t - (F.P : Int)) (by omega) (by omega), w64 (x := (cZ n2 : Int) + t - (F.P : Int) + 1) (by omega) (by omega)]; omega
 have e1 : wrap64 ((wrap64 (t - (F.P : Int))) + 1) = t - F.P + 1 := by rw [w64 (x := t - (F.P : Int)) (by omega) (by omega), w64 (by omega) (by omega)]
 refine Ev.step (f := fun k => (bT.f k neg (wI num) (wI den) E q).bind fun bt611 => ((dw.f k m neg bt611.1 bt611.2).bind fun t615 => ((aY.f k t615).bind fun t618 => (if (wrap64 (t618 + q)) > (wrap64 (F.emax + 1)) then ((aV.f k a m neg).bind fun t619 => (some (t619, 20))) else (if bt611.2 > 0 then ((bT.f k neg (wI num) (wI den) E (wrap64 ((wrap64 (t - (F.P : Int))) + 1))).bind fun bt620 => ((dw.f k m neg bt620.1 bt620.2).bind fun t624 => ((aY.f k t624).bind fun t627 => (if (wrap64 ((wrap64 ((wrap64 (t627 + t)) - (F.P : Int))) + 1)) ≤ F.emin then (aN.j1 k a (F.emin - F.P + 1) q t615 24 neg (wI num) (wI den) E (F.W : Int) (F.P : Int) F.emin F.emax) else (aN.j1 k a (F.emin - F.P + 1) q t615 16 neg (wI num) (wI den) E (F.W : Int) (F.P : Int) F.emin F.emax))))) else (aN.j1 k a (F.emin - F.P + 1) q t615 0 neg (wI num) (wI den) E (F.W : Int) (F.P : Int) F.emin F.emax)))))) (fun k => by rw [aN.j0]) ?_
 refine Ev.bind p1 (Ev.bind ch1 (Ev.bind l1 ?_))
 by_cases hov : F.emax + 1 < (cZ n1 : Int) + q
 ·rw [if_pos hov]
  exact Ev.pos (c1.1 hov) (Ev.bind bb (Ev.now _))
 ·have hlt' := hlt.resolve_left hov
  rw [if_neg hov]
  refine Ev.neg (fun h => hov (c1.2 h)) ?_
  by_cases hl : plL num den E q = 0
  ·rw [if_pos hl]
   refine Ev.neg (by simp only []; rw [hl]; decide) ?_
   exact j1 0 hlt'
  ·rw [if_neg hl]
   refine Ev.pos (show ((plL num den E q : Nat) : Int) > 0 from Int.natCast_pos.2 (Nat.pos_of_ne_zero hl)) ?_
   rw [e1]
   refine Ev.bind p2 (Ev.bind ch2 (Ev.bind l2 ?_))
   by_cases hu : (cZ n2 : Int) + (t - F.P + 1) ≤ F.emin
   ·rw [if_pos hu]
    exact Ev.pos (c2.1 hu) (j1 24 hlt')
   ·rw [if_neg hu]
    exact Ev.neg (fun h => hu (c2.2 h)) (j1 16 hlt')
theorem Et {a : Int} {F : Fm} (hF : IsF a F) (m : Int) (neg : Bool) {num den : Nat} (hn : num ≠ 0) (hd : den ≠ 0) (hnl : (toW num).length ≤ 1000) (hdl : (toW den).length ≤ 1000) {E : Int} (hE : -1000000 ≤ E) (hE2 : E ≤ 1000000) :
  Ev (fun k => aN.f k a m neg (wI num) (wI den) E) (((vF F m neg num den E).1 : Int), ((vF F m neg num den E).2 : Int)) := by
 have hp2 := hF.small.ok.p2
 have hpw := hF.small.ok.pw
 have hw := hF.small.ok.w64
 have htop := hF.small.top
 have htop0 := hF.small.top0
 have hemin := hF.emin1
 have hee := hF.small.ok.ee
 have b1 := lK num
 have b2 := lK den
 have hts := nO hn (Nat.pos_of_ne_zero hd) E
 have htb : -200000 ≤ qO num den E - E ∧ qO num den E - E ≤ 200000 := by unfold qO; split <;> omega
 have hlt := Nr hF.small.ok m neg (E := E) hn (Nat.pos_of_ne_zero hd)
 have hlp := iJ hn
 have htr := pO (iw num) (by omega)
 rw [dB, ← Ib] at htr
 have c1 : ¬ (((wI num).length : Int) = 0) := by rw [gJ]; omega
 unfold aN.f
 rw [htr]
 simp only [Option.bind_some]
 refine Ev.neg c1 ?_
 rw [hF.row]
 simp only [Option.bind_some]
 refine Ev.bind (Q_ neg hd (by omega) (by omega) (by omega) (by omega)) ?_
 rw [O7] at hlt ⊢
 generalize qO num den E = t at *
 have e1 : wrap64 ((wrap64 (t - (F.P : Int))) + 1) = t - F.P + 1 := by rw [w64 (x := t - (F.P : Int)) (by omega) (by omega), w64 (by omega) (by omega)]
 have e2 : wrap64 ((wrap64 (F.emin - (F.P : Int))) + 1) = F.emin - F.P + 1 := by rw [w64 (x := F.emin - (F.P : Int)) (by omega) (by omega), w64 (by omega) (by omega)]
 have fin : ∀ q : Int, q = max (t - F.P + 1) (F.emin - F.P + 1) → Ev (fun k => aN.j0 k a m t (F.emin - F.P + 1) q neg (wI num) (wI den) E (F.W : Int) (F.P : Int) F.emin F.emax) (((Gt F m neg num den E t q).1 : Int), ((Gt F m neg num den E t q).2 : Int)) := fun q hq => by
  rw [← hq] at hlt
  refine MF hF m neg hn hd hnl hdl hE hE2 hts htb hq ?_
  unfold Gt at hlt
  by_cases hov : F.emax + 1 < (cZ (gB m neg (plU num den E q) (plL num den E q)) : Int) + q
  ·exact .inl hov
  ·rw [if_neg hov] at hlt; exact .inr hlt
 rw [e1, e2]
 by_cases hc : t - F.P + 1 < F.emin - F.P + 1
 ·refine Ev.pos hc ?_
  have := fin (F.emin - F.P + 1) (by clear e1 e2; omega)
  rw [show max (t - (F.P : Int) + 1) (F.emin - F.P + 1) = F.emin - F.P + 1 by clear e1 e2; omega]
  exact this
 ·refine Ev.neg hc ?_
  have := fin (t - F.P + 1) (by clear e1 e2; omega)
  rw [show max (t - (F.P : Int) + 1) (F.emin - F.P + 1) = t - F.P + 1 by clear e1 e2; omega]
  exact this
end Go.Proofs.YtafikkmnkeddpaaGreatDoor.P
namespace Go.Proofs.YtafikkmnkeddpaaGreatDoor.P
open Go.RowKit Go.Proofs.YtafikkmnkeddpaaGreatDoorW.PrintWords Go.Proofs.YtafikkmnkeddpaaGreatDoorW.PrintLast Go.Proofs.YtafikkmnkeddpaaGreatDoorW.PrintMore
def isD (c : UInt8) : Bool := decide (48 ≤ c.toNat) && decide (c.toNat ≤ 57)
abbrev bl (s : ByteArray) : List UInt8 := s.data.toList
theorem gG (s : ByteArray) : (bl s).length = s.size := Array.length_toList
theorem jv (s : ByteArray) : s.toList = bl s := ByteArray.toList_eq s
theorem lM (s : ByteArray) (i : Nat) : bl (s.extract i s.size) = (bl s).drop i := by
 have : bl (s.extract i s.size) = ((bl s).drop i).take (s.size - i) := by simp [bl]
 rw [this, List.take_of_length_le (by rw [List.length_drop, gG]; exact Nat.le_refl _)]
theorem lN (s : ByteArray) (i : Nat) : (s.extract i s.size).size = s.size - i := by rw [← gG, lM, List.length_drop, gG]
theorem drop_cons {l : List UInt8} {i : Nat} (h : i < l.length) : l.drop i = l.getD i 0 :: l.drop (i + 1) := by
 rw [List.drop_eq_getElem_cons h, List.getD_eq_getElem?_getD, List.getElem?_eq_getElem h]
 rfl
theorem lu (s : ByteArray) (i : Nat) : byt s i = ((bl s).getD i 0).toNat := rfl
theorem MG (c : UInt8) (n : Nat) (h : n < 256) : ((c.toNat : Int) = (n : Int)) = (c = UInt8.ofNat n) := by
 apply propext
 constructor
 ·intro e
  apply UInt8.toNat_inj.1
  rw [Int.ofNat_inj.1 e, UInt8.toNat_ofNat', Nat.mod_eq_of_lt h]
 ·rintro rfl
  rw [UInt8.toNat_ofNat', Nat.mod_eq_of_lt h]
theorem yc (c : UInt8) : dh.f ((c.toNat : Nat) : Int) = some (isD c) := by
 unfold dh.f isD
 by_cases h : 48 ≤ c.toNat
 ·rw [if_pos (by omega), decide_eq_true h, Bool.true_and]
  congr 1
  exact decide_eq_decide.2 (by omega)
 ·rw [if_neg (by omega), decide_eq_false h, Bool.false_and]
def zS (neg : Bool) (x : Int) : Int := if neg then -x else x
def qc (M : Nat) (l : List UInt8) (neg : Bool) : Int × Bool := if l ≠ [] ∧ l.all isD = true then (zS neg ((min (dK l) M : Nat) : Int), true) else (0, false)
def iY (l : List UInt8) : List UInt8 := if l.getD 0 0 = 45 ∨ l.getD 0 0 = 43 then l.drop 1 else l
def jr (l : List UInt8) : Bool := decide (l.getD 0 0 = 45)
def exS (M : Nat) (l : List UInt8) : Int × Bool := qc M (iY l) (jr l)
theorem Iu (M x d : Nat) (h : M ≤ 1000000000) (hd : d ≤ 9) : mn (wrap64 ((wrap64 (10 * ((min x M : Nat) : Int))) + (d : Int))) (M : Int) = ((min (10 * x + d) M : Nat) : Int) := by
 rw [w64 (x := 10 * ((min x M : Nat) : Int)) (by omega) (by omega), w64 (by omega) (by omega)]
 unfold mn
 split <;> omega
theorem Iw {c : UInt8} (h : isD c = true) : (((c.toNat : Int) - 48) % 256) = ((c.toNat - 48 : Nat) : Int) ∧ c.toNat - 48 ≤ 9 := by
 unfold isD at h
 simp only [Bool.and_eq_true, decide_eq_true_eq] at h
 omega
theorem uh {l : List UInt8} {i : Nat} (hi : i < l.length) (h : isD (l.getD i 0) = false) : l.all isD = false := by
 rw [List.all_eq_false]
 refine ⟨l[i], List.getElem_mem hi, ?_⟩
 rw [List.getD_eq_getElem?_getD, List.getElem?_eq_getElem hi] at h
 simpa using h
theorem uj {l : List UInt8} {i : Nat} (hi : i < l.length) (h0 : (l.take i).all isD = true) (h : isD (l.getD i 0) = true) : (l.take (i + 1)).all isD = true := by
 rw [List.take_succ_eq_append_getElem hi, List.all_append, h0]
 rw [List.getD_eq_getElem?_getD, List.getElem?_eq_getElem hi] at h
 simpa using h
theorem Rh (s : ByteArray) (neg : Bool) (hs : s.size ≤ 1000000) : ∀ d i, i + d = s.size → ((bl s).take i).all isD = true → Ev (fun k => ak.l0 k s neg ((min (dK ((bl s).take i)) 1000000000 : Nat) : Int) (i : Int)) (qc 1000000000 (bl s) neg) := by
 intro d
 induction d with
 | zero =>
  intro i hi ha
  have c1 : ¬ ((i : Int) < (s.size : Int)) := by omega
  rw [List.take_of_length_le (by rw [gG]; omega)] at ha ⊢
  refine Ev.one fun k => ?_
  have hneg : wrap64 (-((min (dK (bl s)) 1000000000 : Nat) : Int)) = -((min (dK (bl s)) 1000000000 : Nat) : Int) := w64 (by omega) (by omega)
  rw [ak.l0, if_neg c1, hneg]
  unfold qc
  by_cases h0 : bl s = []
  ·have hz : s.size = 0 := by rw [← gG, h0]; rfl
   rw [h0, hz]
   cases neg <;> rfl
  ·have hz : 0 < s.size := by rw [← gG]; exact List.length_pos_iff.2 h0
   have : decide ((s.size : Int) > 0) = true := decide_eq_true (by omega)
   have ht : bl s ≠ [] ∧ (bl s).all isD = true := ⟨h0, ha⟩
   simp only [this, ht, and_self, if_true, ne_eq, not_false_eq_true]
   cases neg <;> rfl
 | succ d ih =>
  intro i hi ha
  have hlt : i < (bl s).length := by rw [gG]; omega
  have c1 : (i : Int) < (s.size : Int) := by omega
  have c2 : (0 : Int) ≤ (i : Int) := by omega
  have c3 : i < 1000000000000000000 := by omega
  have c4 : i + 1 + d = s.size := by omega
  by_cases hD : isD ((bl s).getD i 0) = true
  ·have hv := Iw hD
   have := ih (i + 1) c4 (uj hlt ha hD)
   rw [zQ s (by rw [← gG]; exact hlt), lu] at this
   refine Ev.step (f := fun k => ak.l0 k s neg ((min (10 * dK ((bl s).take i) + (((bl s).getD i 0).toNat - 48)) 1000000000 : Nat) : Int) ((i + 1 : Nat) : Int)) (fun k => ?_) this
   rw [ak.l0, if_pos c1, if_pos c2, kT, lu, yc]
   simp only [Option.bind_some]
   rw [if_pos hD, hv.1, lS c3]
   have := Iu 1000000000 (dK ((bl s).take i)) (((bl s).getD i 0).toNat - 48) (Nat.le_refl _) hv.2
   rw [show ((1000000000 : Nat) : Int) = 1000000000 from rfl] at this
   rw [this]
  ·have hD' : isD ((bl s).getD i 0) = false := by simpa using hD
   refine Ev.one fun k => ?_
   rw [ak.l0, if_pos c1, if_pos c2, kT, lu, yc]
   simp only [Option.bind_some]
   rw [if_neg hD]
   unfold qc
   rw [uh hlt hD', if_neg (by simp)]
theorem Gu (s : ByteArray) (neg : Bool) (hs : s.size ≤ 1000000) : Ev (fun k => ak.j2 k s neg) (qc 1000000000 (bl s) neg) :=
 Ev.step (f := fun k => ak.l0 k s neg 0 0) (fun k => by rw [ak.j2]) (Rh s neg hs s.size 0 (Nat.zero_add _) rfl)
theorem Ri (s : ByteArray) (hs : s.size ≤ 1000000) : Ev (fun k => ak.f k s) (exS 1000000000 (bl s)) := by
 have e0 : bt s 0 = (((bl s).getD 0 0).toNat : Int) := kT s 0
 unfold ak.f exS iY jr
 by_cases h0 : 0 < s.size
 ·have c1 : (s.size : Int) > 0 := by omega
  have c2 : (0 : Int) < (s.size : Int) := by omega
  have c3 : (1 : Int) ≤ (s.size : Int) := by omega
  refine Ev.pos c1 (Ev.pos c2 ?_)
  rw [e0]
  have e45 := MG ((bl s).getD 0 0) 45 (by decide)
  have e43 := MG ((bl s).getD 0 0) 43 (by decide)
  rw [show UInt8.ofNat 45 = 45 from rfl, show ((45 : Nat) : Int) = 45 from rfl] at e45
  rw [show UInt8.ofNat 43 = 43 from rfl, show ((43 : Nat) : Int) = 43 from rfl] at e43
  have b45 : ((((bl s).getD 0 0).toNat : Int) == 45) = decide ((bl s).getD 0 0 = 45) := by
   rw [Bool.eq_iff_iff, beq_iff_eq, decide_eq_true_eq, e45]
  have b43 : ((((bl s).getD 0 0).toNat : Int) == 43) = decide ((bl s).getD 0 0 = 43) := by
   rw [Bool.eq_iff_iff, beq_iff_eq, decide_eq_true_eq, e43]
  rw [b45]
  have hT := Gu (s.extract 1 s.size) (decide ((bl s).getD 0 0 = 45)) (by rw [lN]; omega)
  rw [lM] at hT
  have hS := Gu s (decide ((bl s).getD 0 0 = 45)) hs
  by_cases h45 : (bl s).getD 0 0 = 45
  ·rw [if_pos (.inl h45)]
   refine Ev.step (f := fun k => ak.j1 k s (decide ((bl s).getD 0 0 = 45)) true) (fun k => by rw [ak.j0, if_pos c1, if_pos c2, e0, if_pos (by rw [e45]; exact h45)]) ?_
   exact Ev.step (f := fun k => ak.j2 k (s.extract 1 s.size) (decide ((bl s).getD 0 0 = 45))) (fun k => by rw [ak.j1, if_pos rfl, if_pos c3]) hT
  ·have n45 : ¬ (((bl s).getD 0 0).toNat : Int) = 45 := by rw [e45]; exact h45
   by_cases h43 : (bl s).getD 0 0 = 43
   ·rw [if_pos (.inr h43)]
    refine Ev.step (f := fun k => ak.j1 k s (decide ((bl s).getD 0 0 = 45)) true) (fun k => by rw [ak.j0, if_pos c1, if_pos c2, e0, if_neg n45, b43, decide_eq_true h43]) ?_
    exact Ev.step (f := fun k => ak.j2 k (s.extract 1 s.size) (decide ((bl s).getD 0 0 = 45))) (fun k => by rw [ak.j1, if_pos rfl, if_pos c3]) hT
   ·rw [if_neg (by rintro (h | h); exact h45 h; exact h43 h)]
    refine Ev.step (f := fun k => ak.j1 k s (decide ((bl s).getD 0 0 = 45)) false) (fun k => by rw [ak.j0, if_pos c1, if_pos c2, e0, if_neg n45, b43, decide_eq_false h43]) ?_
    exact Ev.step (f := fun k => ak.j2 k s (decide ((bl s).getD 0 0 = 45))) (fun k => by rw [ak.j1, if_neg (by decide)]) hS
 ·have hz : s.size = 0 := by omega
  have hb : bl s = [] := List.length_eq_zero_iff.1 (by rw [gG]; exact hz)
  have c1 : ¬ (s.size : Int) > 0 := by omega
  refine Ev.neg c1 ?_
  have hS := Gu s false hs
  rw [hb] at hS ⊢
  refine Ev.step (f := fun k => ak.j1 k s false false) (fun k => by rw [ak.j0, if_neg c1]) ?_
  exact Ev.step (f := fun k => ak.j2 k s false) (fun k => by rw [ak.j1, if_neg (by decide)]) hS
def exV (l : List UInt8) : Bool × Nat × Bool := (jr l, dK (iY l), decide (iY l ≠ [] ∧ (iY l).all isD = true))
theorem Iy (M : Nat) (l : List UInt8) : exS M l = if (exV l).2.2 = true then (zS (exV l).1 ((min (exV l).2.1 M : Nat) : Int), true) else (0, false) := by
 unfold exS qc exV
 simp only [decide_eq_true_eq]
def Jw (M : Nat) (e : Bool × Nat × Int) : Int := zS e.1 ((min e.2.1 M : Nat) : Int) - e.2.2
def jV : List UInt8 → List UInt8 → Int → List UInt8 × (Bool × Nat × Int) × Bool
 | [], D, b => (D, (false, 0, mx 0 b), decide (D ≠ []))
 | c :: l, D, b => if isD c = true then jV l (D ++ [c]) (if b ≥ 0 then b + 1 else b) else if c = 46 ∧ b < 0 then jV l D 0
  else if c = 101 ∨ c = 69 then (D, ((exV l).1, (exV l).2.1, mx 0 b), (exV l).2.2 && decide (D ≠ [])) else (D, (false, 0, 0), false)
def O8 (r : Bool × Bool × Bool × ByteArray × Int × Bool) (neg : Bool) (S : List UInt8 × (Bool × Nat × Int) × Bool) : Prop :=
 r.1 = neg ∧ r.2.1 = false ∧ r.2.2.1 = false ∧ r.2.2.2.2.2 = S.2.2 ∧ (S.2.2 = true → bl r.2.2.2.1 = S.1 ∧ r.2.2.2.2.1 = Jw 1000000000 S.2.1)
theorem Iz (D : ByteArray) : (D.toList != ([] : List UInt8)) = decide (bl D ≠ []) := by
 rw [jv, Bool.eq_iff_iff, bne_iff_ne, decide_eq_true_eq]
theorem Eu (s : ByteArray) {i : Nat} (h : i < s.size) : bl (s.extract i (i + 1)) = [(bl s).getD i 0] := by
 have : bl (s.extract i (i + 1)) = ((bl s).drop i).take (i + 1 - i) := by simp [bl]
 rw [this, drop_cons (by rw [gG]; exact h), show i + 1 - i = 1 by omega]
 rfl
theorem zT (x : Int) (n : Int) (p : Prop) [Decidable p] (h : (x = n) = p) : (x == n) = decide p := by
 rw [Bool.eq_iff_iff, beq_iff_eq, decide_eq_true_eq, h]
theorem b8 (c : UInt8) (n : Nat) (h : n < 256) (c' : UInt8) (hc : c' = UInt8.ofNat n) (x : Int) (hx : x = (n : Int)) : ((c.toNat : Int) = x) = (c = c') := by
 rw [hx, hc]; exact MG c n h
theorem uw (neg : Bool) (x : Nat) (h : x ≤ 1000000000) : -1000000000 ≤ zS neg (x : Int) ∧ zS neg (x : Int) ≤ 1000000000 := by
 cases neg <;> simp [zS] <;> omega
theorem mx0 {b : Int} (h : -1 ≤ b) (h2 : b ≤ 1000000) : 0 ≤ mx 0 b ∧ mx 0 b ≤ 1000000 := by unfold mx; split <;> omega
theorem MH (s : ByteArray) (neg : Bool) (hs : s.size ≤ 1000000) : ∀ d i, i + d = s.size → ∀ (D : ByteArray) (b : Int), -1 ≤ b → b ≤ i → D.size ≤ i →
  ∃ r, Ev (fun k => ah.l0 k s b (i : Int) neg false false D 0) r ∧ O8 r neg (jV ((bl s).drop i) (bl D) b) := by
 intro d
 induction d with
 | zero =>
  intro i hi D b h1 h2 h3
  have c1 : ¬ ((i : Int) < (s.size : Int)) := by omega
  rw [List.drop_of_length_le (by rw [gG]; omega)]
  have hm := mx0 h1 (by omega)
  have hw : wrap64 (-(mx 0 b)) = -(mx 0 b) := w64 (by omega) (by omega)
  refine ⟨_, Ev.one fun k => by rw [ah.l0, if_neg c1, hw, Iz], rfl, rfl, rfl, rfl, fun _ => ⟨rfl, ?_⟩⟩
  show -(mx 0 b) = (0 : Int) - mx 0 b
  omega
 | succ d ih =>
  intro i hi D b h1 h2 h3
  have hlt : i < (bl s).length := by rw [gG]; omega
  have hlt' : i < s.size := by omega
  have c1 : (i : Int) < (s.size : Int) := by omega
  have c2 : (0 : Int) ≤ (i : Int) := by omega
  have c3 : i < 1000000000000000000 := by omega
  have c4 : i + 1 + d = s.size := by omega
  have c5 : (i : Int) ≤ ((i + 1 : Nat) : Int) := by omega
  have c6 : ((i + 1 : Nat) : Int) ≤ (s.size : Int) := by omega
  have c7 : (0 : Int) ≤ ((i + 1 : Nat) : Int) := by omega
  have hx1 := Eu s hlt'
  have hx2 : (s.extract i (i + 1)).size = 1 := by rw [← gG, hx1]; rfl
  have c8 : D.size + (s.extract i (i + 1)).size ≤ 9223372036854775807 := by omega
  have hD2 : bl (D ++ s.extract i (i + 1)) = bl D ++ [(bl s).getD i 0] := by rw [← hx1]; simp [bl]
  have hD3 : (D ++ s.extract i (i + 1)).size ≤ i + 1 := by rw [← gG, hD2, List.length_append, gG]; simp; omega
  have n1 : ((i : Int)).toNat = i := Int.toNat_natCast i
  have n2 : (((i + 1 : Nat) : Int)).toNat = i + 1 := Int.toNat_natCast (i + 1)
  have hm := mx0 h1 (by omega)
  rw [drop_cons hlt]
  have e46 := b8 ((bl s).getD i 0) 46 (by decide) 46 rfl 46 rfl
  have e101 := b8 ((bl s).getD i 0) 101 (by decide) 101 rfl 101 rfl
  have e69 := b8 ((bl s).getD i 0) 69 (by decide) 69 rfl 69 rfl
  have head : ∀ k, ah.l0 (k + 1) s b (i : Int) neg false false D 0 = if isD ((bl s).getD i 0) = true then (if b ≥ 0 then (ah.l0 k s (wrap64 (b + 1)) ((i + 1 : Nat) : Int) neg false false (D ++ s.extract i (i + 1)) 0) else (ah.l0 k s b ((i + 1 : Nat) : Int) neg false false (D ++ s.extract i (i + 1)) 0)) else (if (bl s).getD i 0 = 46 then (ah.j4 k s b (i : Int) (decide (b < 0)) neg false false D 0) else (ah.j4 k s b (i : Int) false neg false false D 0)) := fun k => by
   rw [ah.l0, if_pos c1, if_pos c2, kT, lu, yc]
   simp only [Option.bind_some]
   simp only [lS c3, n1, n2, if_pos c5, if_pos c6, if_pos c8, e46]
  by_cases hD : isD ((bl s).getD i 0) = true
  ·unfold jV
   rw [if_pos hD, ← hD2]
   by_cases hb : b ≥ 0
   ·have hwb : wrap64 (b + 1) = b + 1 := w64 (by omega) (by omega)
    obtain ⟨r, hr, hrel⟩ := ih (i + 1) c4 (D ++ s.extract i (i + 1)) (b + 1) (by omega) (by omega) hD3
    rw [if_pos hb]
    exact ⟨r, Ev.step (f := fun k => ah.l0 k s (b + 1) ((i + 1 : Nat) : Int) neg false false (D ++ s.extract i (i + 1)) 0) (fun k => by rw [head, if_pos hD, if_pos hb, hwb]) hr, hrel⟩
   ·obtain ⟨r, hr, hrel⟩ := ih (i + 1) c4 (D ++ s.extract i (i + 1)) b h1 (by omega) hD3
    rw [if_neg hb]
    exact ⟨r, Ev.step (f := fun k => ah.l0 k s b ((i + 1 : Nat) : Int) neg false false (D ++ s.extract i (i + 1)) 0) (fun k => by rw [head, if_pos hD, if_neg hb]) hr, hrel⟩
  ·unfold jV
   rw [if_neg hD]
   by_cases hp : (bl s).getD i 0 = 46 ∧ b < 0
   ·obtain ⟨r, hr, hrel⟩ := ih (i + 1) c4 D 0 (by omega) (by omega) (by omega)
    rw [if_pos hp]
    refine ⟨r, Ev.step (f := fun k => ah.j4 k s b (i : Int) true neg false false D 0) (fun k => by rw [head, if_neg hD, if_pos hp.1, decide_eq_true hp.2]) ?_, hrel⟩
    exact Ev.step (f := fun k => ah.l0 k s 0 ((i + 1 : Nat) : Int) neg false false D 0) (fun k => by rw [ah.j4, if_pos rfl, lS c3]) hr
   ·rw [if_neg hp]
    have toj : ∀ r, Ev (fun k => ah.j4 k s b (i : Int) false neg false false D 0) r → Ev (fun k => ah.l0 k s b (i : Int) neg false false D 0) r := fun r hr => by
     refine Ev.step (f := fun k => ah.j4 k s b (i : Int) false neg false false D 0) (fun k => ?_) hr
     rw [head, if_neg hD]
     by_cases h46 : (bl s).getD i 0 = 46
     ·rw [if_pos h46, decide_eq_false fun h => hp ⟨h46, h⟩]
     ·rw [if_neg h46]
    have hex := Ri (s.extract (i + 1) s.size) (by rw [lN]; omega)
    rw [lM, Iy] at hex
    by_cases he : (bl s).getD i 0 = 101 ∨ (bl s).getD i 0 = 69
    ·rw [if_pos he]
     have hfin : ∃ r, Ev (fun k => (ak.f k (s.extract (i + 1) s.size)).bind fun bt307 => (if bt307.2 = true then (some (neg, false, false, D, wrap64 (bt307.1 - (mx 0 b)), (D.toList != ([] : List UInt8)))) else (some (neg, false, false, D, wrap64 (bt307.1 - (mx 0 b)), false)))) r ∧ O8 r neg (bl D, ((exV ((bl s).drop (i + 1))).1, (exV ((bl s).drop (i + 1))).2.1, mx 0 b), (exV ((bl s).drop (i + 1))).2.2 && decide (bl D ≠ [])) := by
      by_cases hv : (exV ((bl s).drop (i + 1))).2.2 = true
      ·rw [if_pos hv] at hex
       refine ⟨_, Ev.bind hex (Ev.pos rfl (Ev.now _)), rfl, rfl, rfl, ?_, fun _ => ⟨rfl, ?_⟩⟩
       ·rw [hv, Bool.true_and]; exact Iz D
       ·have hsr := uw (exV ((bl s).drop (i + 1))).1 (min (exV ((bl s).drop (i + 1))).2.1 1000000000) (Nat.min_le_right _ _)
        exact w64 (by omega) (by omega)
      ·rw [if_neg hv] at hex
       have hv' : (exV ((bl s).drop (i + 1))).2.2 = false := by simpa using hv
       refine ⟨_, Ev.bind hex (Ev.neg (by decide) (Ev.now _)), rfl, rfl, rfl, ?_, fun h => ?_⟩
       ·rw [hv', Bool.false_and]
       ·rw [hv', Bool.false_and] at h; cases h
     obtain ⟨r, hr, hrel⟩ := hfin
     refine ⟨r, toj r ?_, hrel⟩
     rcases he with he | he
     ·refine Ev.step (f := _) (fun k => ?_) hr
      rw [ah.j4, if_neg (by decide), if_pos c2, if_pos c1, kT, lu, if_pos (by rw [e101]; exact he), lS c3, if_pos c7, if_pos c6, n2]
     ·refine Ev.step (f := _) (fun k => ?_) hr
      rw [ah.j4, if_neg (by decide), if_pos c2, if_pos c1, kT, lu, if_neg (by rw [e101, he]; decide), if_pos (by rw [e69]; exact he), lS c3, if_pos c7, if_pos c6, n2]
    ·rw [if_neg he]
     refine ⟨(neg, false, false, D, 0, false), toj _ (Ev.one fun k => ?_), rfl, rfl, rfl, rfl, fun h => by cases h⟩
     rw [ah.j4, if_neg (by decide), if_pos c2, if_pos c1, kT, lu, if_neg (by rw [e101]; exact fun h => he (.inl h)), if_neg (by rw [e69]; exact fun h => he (.inr h))]
def iG (c : UInt8) : UInt8 := if 65 ≤ c.toNat ∧ c.toNat ≤ 90 then UInt8.ofNat (c.toNat + 32) else c
theorem str1 (x : Nat) : bl (strOfNums [((x : Nat) : Int)]) = [UInt8.ofNat x] := by
 unfold bl
 rw [strOfNums_data]
 rfl
theorem O9 (x : Int) : (strOfNums [x]).size = 1 := by rw [strOfNums_size]; rfl
theorem MI (s : ByteArray) (hs : s.size ≤ 1000000) : ∀ d i, i + d = s.size → ∀ x : ByteArray, bl x = ((bl s).take i).map iG → ∃ t, Ev (fun k => aW.l0 k s x (i : Int)) t ∧ bl t = (bl s).map iG := by
 intro d
 induction d with
 | zero =>
  intro i hi x hx
  have c1 : ¬ ((i : Int) < (s.size : Int)) := by omega
  rw [List.take_of_length_le (by rw [gG]; omega)] at hx
  exact ⟨x, Ev.one fun k => by rw [aW.l0, if_neg c1], hx⟩
 | succ d ih =>
  intro i hi x hx
  have hlt : i < (bl s).length := by rw [gG]; omega
  have c1 : (i : Int) < (s.size : Int) := by omega
  have c2 : (0 : Int) ≤ (i : Int) := by omega
  have c3 : i < 1000000000000000000 := by omega
  have c4 : i + 1 + d = s.size := by omega
  have hxs : x.size = i := by rw [← gG, hx, List.length_map, List.length_take, Nat.min_eq_left (Nat.le_of_lt hlt)]
  have c5 : ∀ y : Int, x.size + (strOfNums [y]).size ≤ 9223372036854775807 := fun y => by rw [O9]; omega
  have step : ∀ y : Nat, UInt8.ofNat y = iG ((bl s).getD i 0) → (∀ k, aW.l0 (k + 1) s x (i : Int) = aW.l0 k s (x ++ strOfNums [(y : Int)]) ((i + 1 : Nat) : Int)) → ∃ t, Ev (fun k => aW.l0 k s x (i : Int)) t ∧ bl t = (bl s).map iG := fun y hy hk => by
   obtain ⟨t, ht, hb⟩ := ih (i + 1) c4 (x ++ strOfNums [(y : Int)]) (by
    have : bl (x ++ strOfNums [(y : Int)]) = bl x ++ bl (strOfNums [(y : Int)]) := by simp [bl]
    rw [this, hx, str1, hy, List.take_succ_eq_append_getElem hlt, List.map_append, List.getD_eq_getElem?_getD, List.getElem?_eq_getElem hlt]
    rfl)
   exact ⟨t, Ev.step hk ht, hb⟩
  generalize hc : (bl s).getD i 0 = c at *
  have hcl := c.toNat_lt
  have m32 : ((c.toNat : Int) + 32) % 256 = ((c.toNat + 32 : Nat) : Int) ∨ ¬ c.toNat ≤ 90 := by omega
  by_cases h65 : 65 ≤ c.toNat
  ·have k1 : (c.toNat : Int) ≥ 65 := by omega
   by_cases h90 : c.toNat ≤ 90
   ·have k2 : (c.toNat : Int) ≤ 90 := by omega
    have hm := m32.resolve_right (fun h => h h90)
    refine step (c.toNat + 32) (by unfold iG; rw [if_pos ⟨h65, h90⟩]) fun k => ?_
    rw [aW.l0, if_pos c1, if_pos c2, kT, lu, hc, if_pos k1, if_pos k2, hm]
    simp only [Option.bind_some]
    rw [if_pos (c5 _), lS c3]
   ·have k2 : ¬ (c.toNat : Int) ≤ 90 := by omega
    refine step c.toNat (by unfold iG; rw [if_neg (fun h => h90 h.2)]; simp) fun k => ?_
    rw [aW.l0, if_pos c1, if_pos c2, kT, lu, hc, if_pos k1, if_neg k2]
    simp only [Option.bind_some]
    rw [if_pos (c5 _), lS c3]
  ·have k1 : ¬ (c.toNat : Int) ≥ 65 := by omega
   refine step c.toNat (by unfold iG; rw [if_neg (fun h => h65 h.1)]; simp) fun k => ?_
   rw [aW.l0, if_pos c1, if_pos c2, kT, lu, hc, if_neg k1]
   simp only [Option.bind_some]
   rw [if_pos (c5 _), lS c3]
theorem MJ (s : ByteArray) (hs : s.size ≤ 1000000) : ∃ t, Ev (fun k => aW.f k s) t ∧ bl t = (bl s).map iG := by
 unfold aW.f
 exact MI s hs s.size 0 (Nat.zero_add _) ⟨#[]⟩ rfl
def uy : List UInt8 := [105, 110, 102]
def tK : List UInt8 := [110, 97, 110]
def Dv (r : Bool × Bool × Bool × ByteArray × Int × Bool) (l : List UInt8) : Prop :=
 if (iY l).map iG = uy then r.1 = jr l ∧ r.2.1 = true ∧ r.2.2.1 = false ∧ r.2.2.2.2.2 = true
 else if (iY l).map iG = tK then r.1 = jr l ∧ r.2.1 = false ∧ r.2.2.1 = true ∧ r.2.2.2.2.2 = true
 else O8 r (jr l) (jV (iY l) [] (-1))
theorem zU (s : ByteArray) (hs : s.size ≤ 1000000) (neg : Bool) : ∃ r, Ev (fun k => ah.j1 k s neg false false (⟨#[]⟩ : ByteArray) 0) r ∧
    (if (bl s).map iG = uy then r.1 = neg ∧ r.2.1 = true ∧ r.2.2.1 = false ∧ r.2.2.2.2.2 = true
     else if (bl s).map iG = tK then r.1 = neg ∧ r.2.1 = false ∧ r.2.2.1 = true ∧ r.2.2.2.2.2 = true
     else O8 r neg (jV (bl s) [] (-1))) := by
  obtain ⟨r0, hr0, hrel0⟩ := MH s neg hs s.size 0 (Nat.zero_add _) ⟨#[]⟩ (-1) (by decide) (by decide) (by decide)
  have hj2 : Ev (fun k => ah.j2 k s neg false false (⟨#[]⟩ : ByteArray) 0) r0 := Ev.step (f := fun k => ah.l0 k s (-1) 0 neg false false (⟨#[]⟩ : ByteArray) 0) (fun k => by rw [ah.j2]) hr0
  rw [List.drop_zero] at hrel0
  by_cases h3 : s.size = 3
  · have c1 : (s.size : Int) = 3 := by omega
    obtain ⟨t, ht, htb⟩ := MJ s hs
    have ei : (t.toList == ([105, 110, 102] : List UInt8)) = decide ((bl s).map iG = uy) := by rw [jv, htb, Bool.eq_iff_iff, beq_iff_eq, decide_eq_true_eq]; rfl
    have en : (t.toList == ([110, 97, 110] : List UInt8)) = decide ((bl s).map iG = tK) := by rw [jv, htb, Bool.eq_iff_iff, beq_iff_eq, decide_eq_true_eq]; rfl
    have ei' : (t.toList = ([105, 110, 102] : List UInt8)) = ((bl s).map iG = uy) := by rw [jv, htb]; rfl
    have en' : (t.toList = ([110, 97, 110] : List UInt8)) = ((bl s).map iG = tK) := by rw [jv, htb]; rfl
    have hhead : ∀ k, ah.j1 (k + 1) s neg false false (⟨#[]⟩ : ByteArray) 0 = (aW.f k s).bind fun t304 => ((aW.f k s).bind fun t305 => (if t304.toList = ([105, 110, 102] : List UInt8) then (some (neg, (t304.toList == ([105, 110, 102] : List UInt8)), (t305.toList == ([110, 97, 110] : List UInt8)), (⟨#[]⟩ : ByteArray), 0, true)) else (if t305.toList = ([110, 97, 110] : List UInt8) then (some (neg, (t304.toList == ([105, 110, 102] : List UInt8)), (t305.toList == ([110, 97, 110] : List UInt8)), (⟨#[]⟩ : ByteArray), 0, true)) else (ah.j2 k s neg (t304.toList == ([105, 110, 102] : List UInt8)) (t305.toList == ([110, 97, 110] : List UInt8)) (⟨#[]⟩ : ByteArray) 0)))) := fun k => by
      rw [ah.j1, if_pos c1]
    by_cases hi : (bl s).map iG = uy
    · have hn : ¬ (bl s).map iG = tK := by rw [hi]; decide
      refine ⟨(neg, true, false, ⟨#[]⟩, 0, true), Ev.step hhead (Ev.bind ht (Ev.bind ht (Ev.pos (by rw [ei']; exact hi) ?_))), ?_⟩
      · rw [ei, en, decide_eq_true hi, decide_eq_false hn]
        exact Ev.now _
      · rw [if_pos hi]; exact ⟨rfl, rfl, rfl, rfl⟩
    · by_cases hn : (bl s).map iG = tK
      · refine ⟨(neg, false, true, ⟨#[]⟩, 0, true), Ev.step hhead (Ev.bind ht (Ev.bind ht (Ev.neg (by rw [ei']; exact hi) (Ev.pos (by rw [en']; exact hn) ?_)))), ?_⟩
        · rw [ei, en, decide_eq_true hn, decide_eq_false hi]
          exact Ev.now _
        · rw [if_neg hi, if_pos hn]; exact ⟨rfl, rfl, rfl, rfl⟩
      · refine ⟨r0, Ev.step hhead (Ev.bind ht (Ev.bind ht (Ev.neg (by rw [ei']; exact hi) (Ev.neg (by rw [en']; exact hn) ?_)))), ?_⟩
        · rw [ei, en, decide_eq_false hi, decide_eq_false hn]
          exact hj2
        · rw [if_neg hi, if_neg hn]; exact hrel0
  · have c1 : ¬ (s.size : Int) = 3 := by omega
    have hlen : ((bl s).map iG).length ≠ 3 := by rw [List.length_map, gG]; exact h3
    have hi : ¬ (bl s).map iG = uy := fun h => hlen (by rw [h]; rfl)
    have hn : ¬ (bl s).map iG = tK := fun h => hlen (by rw [h]; rfl)
    refine ⟨r0, Ev.step (f := fun k => ah.j2 k s neg false false (⟨#[]⟩ : ByteArray) 0) (fun k => by rw [ah.j1, if_neg c1]) hj2, ?_⟩
    rw [if_neg hi, if_neg hn]
    exact hrel0
theorem MK (s : ByteArray) (hs : s.size ≤ 1000000) : ∃ r, Ev (fun k => ah.f k s) r ∧ Dv r (bl s) := by
 have e0 : bt s 0 = (((bl s).getD 0 0).toNat : Int) := kT s 0
 unfold ah.f Dv iY jr
 by_cases h0 : 0 < s.size
 ·have c1 : (s.size : Int) > 0 := by omega
  have c2 : (0 : Int) < (s.size : Int) := by omega
  have c3 : (1 : Int) ≤ (s.size : Int) := by omega
  have e45 := b8 ((bl s).getD 0 0) 45 (by decide) 45 rfl 45 rfl
  have e43 := b8 ((bl s).getD 0 0) 43 (by decide) 43 rfl 43 rfl
  have b45 := zT _ _ _ e45
  have b43 := zT _ _ _ e43
  have hT := zU (s.extract 1 s.size) (by rw [lN]; omega) (decide ((bl s).getD 0 0 = 45))
  rw [lM] at hT
  obtain ⟨r, hr0, hrel⟩ := hT
  have hr : Ev (fun k => ah.j0 k s true false false false (⟨#[]⟩ : ByteArray) 0) r := Ev.step (f := fun k => ah.j1 k (s.extract 1 s.size) (decide ((bl s).getD 0 0 = 45)) false false (⟨#[]⟩ : ByteArray) 0) (fun k => by rw [ah.j0, if_pos rfl, if_pos c2, if_pos c3, e0, b45]) hr0
  by_cases h45 : (bl s).getD 0 0 = 45
  ·rw [if_pos (.inl h45)]
   refine ⟨r, Ev.pos c1 (Ev.pos c2 (Ev.pos (by rw [e0, e45]; exact h45) hr)), hrel⟩
  ·have n45 : ¬ bt s 0 = 45 := by rw [e0, e45]; exact h45
   by_cases h43 : (bl s).getD 0 0 = 43
   ·rw [if_pos (.inr h43)]
    refine ⟨r, Ev.pos c1 (Ev.pos c2 (Ev.neg n45 ?_)), hrel⟩
    rw [e0, b43, decide_eq_true h43]
    exact hr
   ·obtain ⟨r, hr, hrel⟩ := zU s hs false
    rw [if_neg (by rintro (h | h); exact h45 h; exact h43 h), decide_eq_false h45]
    refine ⟨r, Ev.pos c1 (Ev.pos c2 (Ev.neg n45 ?_)), hrel⟩
    rw [e0, b43, decide_eq_false h43]
    exact Ev.step (f := fun k => ah.j1 k s false false false (⟨#[]⟩ : ByteArray) 0) (fun k => by rw [ah.j0, if_neg (by decide)]) hr
 ·have hb : bl s = [] := List.length_eq_zero_iff.1 (by rw [gG]; omega)
  have c1 : ¬ (s.size : Int) > 0 := by omega
  obtain ⟨r, hr, hrel⟩ := zU s hs false
  rw [hb] at hrel ⊢
  refine ⟨r, Ev.neg c1 (Ev.step (f := fun k => ah.j1 k s false false false (⟨#[]⟩ : ByteArray) 0) (fun k => by rw [ah.j0, if_neg (by decide)]) hr), hrel⟩
end Go.Proofs.YtafikkmnkeddpaaGreatDoor.P
namespace Go.Proofs.YtafikkmnkeddpaaGreatDoor.P
open Go.RowKit Go.Proofs.YtafikkmnkeddpaaGreatDoorW.PrintWords Go.Proofs.YtafikkmnkeddpaaGreatDoorW.PrintLast Go.Proofs.YtafikkmnkeddpaaGreatDoorW.PrintMore
theorem qY (a b : Int) : mx a b = max a b := by unfold mx; split <;> omega
theorem Qs (a b : Int) : mn a b = min a b := by unfold mn; split <;> omega
theorem O_ (c : UInt8) : isD c = true ↔ 48 ≤ c.toNat ∧ c.toNat ≤ 57 := by unfold isD; simp
theorem xw {l : List UInt8} (h : l.all isD = true) : rV l := fun b hb => (O_ b).1 (List.all_eq_true.1 h b hb)
theorem pq : ∀ (l D : List UInt8) (b : Int), D.all isD = true → -1 ≤ b → (jV l D b).1.all isD = true ∧ (jV l D b).1.length ≤ D.length + l.length ∧ 0 ≤ (jV l D b).2.1.2.2 ∧ (jV l D b).2.1.2.2 ≤ mx 0 b + l.length ∧ ((jV l D b).2.2 = true → (jV l D b).1 ≠ [])
 | [], D, b, h, hb => by
  have : 0 ≤ mx 0 b := by unfold mx; split <;> omega
  refine ⟨h, by simp [jV], this, by simp [jV], fun hk => by simpa [jV] using hk⟩
 | c :: l, D, b, h, hb => by
  have hm : 0 ≤ mx 0 b := by unfold mx; split <;> omega
  unfold jV
  split
  ·rename_i hc
   have h' : (D ++ [c]).all isD = true := by rw [List.all_append, h]; simpa using hc
   by_cases h0 : b ≥ 0
   ·rw [if_pos h0]
    obtain ⟨h1, h2, h3, h4, h5⟩ := pq l (D ++ [c]) (b + 1) h' (by omega)
    have e1 : mx 0 (b + 1) = mx 0 b + 1 := by rw [qY, qY]; omega
    exact ⟨h1, by simp at h2 ⊢; omega, h3, by rw [e1] at h4; simp; omega, h5⟩
   ·rw [if_neg h0]
    obtain ⟨h1, h2, h3, h4, h5⟩ := pq l (D ++ [c]) b h' hb
    exact ⟨h1, by simp at h2 ⊢; omega, h3, by simp; omega, h5⟩
  ·split
   ·rename_i hc hp
    obtain ⟨h1, h2, h3, h4, h5⟩ := pq l D 0 h (by decide)
    have e1 : mx 0 0 = 0 := by unfold mx; split <;> omega
    exact ⟨h1, by simp; omega, h3, by rw [e1] at h4; simp; omega, h5⟩
   ·split
    ·exact ⟨h, by simp, hm, by simp; omega, fun hk => by
      simp only [Bool.and_eq_true, decide_eq_true_eq] at hk
      exact hk.2⟩
    ·exact ⟨h, by simp, Int.le_refl 0, by simp; omega, fun hk => by cases hk⟩
def Gv (e : Bool × Nat × Int) : Int := zS e.1 (e.2.1 : Int) - e.2.2
theorem zV {M : Nat} (hM : 100000 ≤ M) (e : Bool × Nat × Int) (h1 : 0 ≤ e.2.2) (h2 : e.2.2 ≤ 3000) {lo hi : Int} (hlo : -20000 ≤ lo) (hhi : hi ≤ 20000) (hlh : lo ≤ hi) : max lo (min (Jw M e) hi) = max lo (min (Gv e) hi) := by
 unfold Jw Gv
 obtain ⟨n, x, y⟩ := e
 simp only [] at *
 by_cases hx : x ≤ M
 ·rw [Nat.min_eq_left hx]
 ·rw [Nat.min_eq_right (by omega)]
  cases n <;> simp only [zS, if_true, Bool.false_eq_true, if_false] <;> omega
def oU (a : Int) : Option Fm := if a = 0 then some fmH else if a = 1 then some fmB else if a = 2 then some fmS else if a = 3 then some fmD else none
theorem rX {a : Int} {F : Fm} (h : oU a = some F) : IsF a F := by
 unfold oU at h
 split at h
 ·rename_i h0; subst h0; cases h; exact Ug
 ·split at h
  ·rename_i h0; subst h0; cases h; exact Uh
  ·split at h
   ·rename_i h0; subst h0; cases h; exact Ui
   ·split at h
    ·rename_i h0; subst h0; cases h; exact Uj
    ·cases h
theorem BN {a : Int} (h : oU a = none) : a ≠ 0 ∧ a ≠ 1 ∧ a ≠ 2 ∧ a ≠ 3 := by
 unfold oU at h
 split at h
 ·cases h
 ·split at h
  ·cases h
  ·split at h
   ·cases h
   ·split at h
    ·cases h
    ·exact ⟨by assumption, by assumption, by assumption, by assumption⟩
def uz (a m : Int) (l : List UInt8) : Int × Int × Int :=
  match oU a with
  | none => (0, 0, 2)
  | some F =>
    if m < 0 ∨ 5 < m then (0, 0, 3)
    else if 2000 < l.length then (0, 0, 5)
    else if (iY l).map iG = uy then (((2 ^ (F.W - F.P) - 1) * 2 ^ (F.P - 1) + (if jr l = true then 2 ^ (F.W - 1) else 0) : Nat), 0, 0)
    else if (iY l).map iG = tK then (((2 ^ (F.W - F.P) - 1) * 2 ^ (F.P - 1) + 2 ^ (F.P - 2) : Nat), 0, 0)
    else if (jV (iY l) [] (-1)).2.2 = true then
      (if dK (jV (iY l) [] (-1)).1 = 0 then (((if jr l = true then 2 ^ (F.W - 1) else 0 : Nat) : Int), 0, 0)
       else (((xC F m (jr l) (dK (jV (iY l) [] (-1)).1) (Gv (jV (iY l) [] (-1)).2.1)).1 : Int), ((xC F m (jr l) (dK (jV (iY l) [] (-1)).1) (Gv (jV (iY l) [] (-1)).2.1)).2 : Int), 0))
    else (0, 0, 8)
theorem zW {v k : Nat} (h : v < 10 ^ k) : (toW v).length ≤ k / 19 + 1 := jg (Nat.lt_of_lt_of_le h (zH k))
theorem zX (k : Nat) : (toW (10 ^ k)).length ≤ (k + 1) / 19 + 1 := zW (by rw [Nat.pow_succ]; have := ku k; omega)
theorem Ew {a m : Int} (h : oU a = none) : Ev (fun k => aQ.f k a m []) 2 := by
 obtain ⟨h0, h1, h2, h3⟩ := BN h
 unfold aQ.f bJ.f
 rw [if_neg h0, if_neg h1, if_neg h2, if_neg h3]
 exact Ev.now _
theorem vg {a m : Int} {F : Fm} (hF : IsF a F) : Ev (fun k => aQ.f k a m []) (if m < 0 ∨ 5 < m then 3 else 0) := by
 unfold aQ.f
 rw [hF.row]
 simp only [Option.bind_some, if_true]
 by_cases h0 : m < 0
 ·rw [if_pos (.inl h0)]
  exact Ev.pos h0 (Ev.one fun k => by rw [aQ.j0, if_pos rfl])
 ·refine Ev.neg h0 ?_
  by_cases h5 : 5 < m
  ·rw [if_pos (.inr h5), decide_eq_true (show m > 5 from h5)]
   exact Ev.one fun k => by rw [aQ.j0, if_pos rfl]
  ·rw [if_neg (by omega), decide_eq_false (show ¬ m > 5 from h5)]
   refine Ev.step (f := fun k => aQ.l0 k a [] 0 0) (fun k => by rw [aQ.j0, if_neg (by decide)]; rfl) ?_
   exact Ev.one fun k => by rw [aQ.l0, if_neg (by decide)]
theorem Pg {a : Int} {F : Fm} (hF : IsF a F) (m : Int) (neg : Bool) {n L : Nat} (hL : L ≤ 2000) (h1 : 10 ^ L ≤ n) (h2 : n < 10 ^ (L + 1)) {x : Int} (hx1 : -3000 ≤ x) (hx2 : x ≤ 600) (hxp : 0 ≤ x → L + x ≤ 600) :
  Ev (fun k => if x ≥ 0 then ((dU.f k x).bind fun t654 => ((dS.f k (wI n) t654).bind fun t657 => ((aN.f k a m neg t657 (([1] : List Int)) 0).bind fun bt660 => (some (bt660.1, bt660.2, (0 : Int)))))) else ((dU.f k (wrap64 (-x))).bind fun t662 => ((aN.f k a m neg (wI n) t662 0).bind fun bt665 => (some (bt665.1, bt665.2, (0 : Int)))))) (((xC F m neg n x).1 : Int), ((xC F m neg n x).2 : Int), 0) := by
 have hn0 : n ≠ 0 := by have := ku L; omega
 have hnl := zW h2
 unfold xC
 by_cases h : x ≥ 0
 ·refine Ev.pos h ?_
  obtain ⟨k, rfl⟩ := Int.eq_ofNat_of_zero_le h
  have hk := hxp h
  have e1 : ((k : Nat) : Int).toNat = k := Int.toNat_natCast k
  have e2 : (-((k : Nat) : Int)).toNat = 0 := by omega
  have ht := zX k
  have hprod : n * 10 ^ k < 10 ^ (L + 1 + k) := by rw [Nat.pow_add]; exact Nat.mul_lt_mul_of_pos_right h2 (ku k)
  have hpl := zW hprod
  have hT := L8 (n := k) (by omega) (by unfold gY; omega)
  have hM := LZ (a := n) (b := 10 ^ k) (by omega) (by omega)
  have hne : n * 10 ^ k ≠ 0 := Nat.mul_ne_zero hn0 (by have := ku k; omega)
  have hR := Et hF m neg (num := n * 10 ^ k) (den := 1) (E := 0) hne (by decide) (by omega) (by rw [lD]; decide) (by decide) (by decide)
  rw [show wI 1 = [1] by unfold wI; rw [lD]; rfl] at hR
  rw [e1, e2, Nat.pow_zero]
  exact Ev.bind hT (Ev.bind hM (Ev.bind hR (Ev.now _)))
 ·refine Ev.neg h ?_
  obtain ⟨k, hk⟩ : ∃ k : Nat, (k : Int) = -x := ⟨(-x).toNat, by omega⟩
  have e0 : wrap64 (-x) = (k : Int) := by rw [w64 (by omega) (by omega), hk]
  have e1 : x.toNat = 0 := by omega
  have e2 : (-x).toNat = k := by omega
  have ht := zX k
  have hT := L8 (n := k) (by omega) (by unfold gY; omega)
  have hp : 10 ^ k ≠ 0 := by have := ku k; omega
  have hR := Et hF m neg (num := n) (den := 10 ^ k) (E := 0) hn0 hp (by omega) (by omega) (by decide) (by decide)
  rw [e0, e1, e2, Nat.pow_zero, Nat.mul_one]
  exact Ev.bind hT (Ev.bind hR (Ev.now _))
theorem Jy (a m : Int) (s : ByteArray) : Ev (fun k => bC.f k a m s) (uz a m (bl s)) := by
 unfold bC.f uz
 cases hf : oU a with
 | none =>
  refine Ev.bind (Ew hf) ?_
  exact Ev.neg (by decide) (Ev.now _)
 | some F =>
  have hF := rX hf
  simp only []
  by_cases hm : m < 0 ∨ 5 < m
  ·have := vg (m := m) hF
   rw [if_pos hm] at this ⊢
   exact Ev.bind this (Ev.neg (by decide) (Ev.now _))
  ·have hmode := vg (m := m) hF
   rw [if_neg hm] at hmode ⊢
   refine Ev.bind hmode (Ev.pos rfl ?_)
   by_cases hsz : 2000 < (bl s).length
   ·rw [if_pos hsz]
    exact Ev.pos (by rw [gG] at hsz; omega) (Ev.now _)
   ·rw [if_neg hsz]
    rw [gG] at hsz
    refine Ev.neg (by omega) ?_
    obtain ⟨r, hr, hrel⟩ := MK s (by omega)
    refine Ev.bind hr ?_
    obtain ⟨r1, r2, r3, r4, r5, r6⟩ := r
    unfold Dv at hrel
    simp only [] at hrel ⊢
    have sgE : ∀ (b : Bool) (g : Nat → Int → Option (Int × Int × Int)) (v : Int × Int × Int), b = jr (bl s) → Ev (fun k => g k ((sg (jr (bl s)) : Nat) : Int)) v → Ev (fun k => if b = true then g k 1 else g k 0) v := fun b g v hb hg => by
     subst hb
     cases hmm : jr (bl s)
     ·rw [hmm] at hg; exact Ev.neg (by decide) hg
     ·rw [hmm] at hg; exact Ev.pos rfl hg
    split at hrel
    ·rename_i hi
     obtain ⟨g1, g2, g3, g4⟩ := hrel
     rw [if_pos hi]
     refine sgE r1 (fun k x12 => bC.j0 k a m r6 x12 r1 r2 r3 r4 r5) _ g1 ?_
     subst g1 g2 g3 g4
     refine Ev.one fun k => ?_
     rw [bC.j0, if_pos rfl, if_neg (by decide), if_pos rfl, MB hF]
     rfl
    ·rename_i hi
     rw [if_neg hi]
     split at hrel
     ·rename_i hn
      obtain ⟨g1, g2, g3, g4⟩ := hrel
      rw [if_pos hn]
      refine sgE r1 (fun k x12 => bC.j0 k a m r6 x12 r1 r2 r3 r4 r5) _ g1 ?_
      subst g1 g2 g3 g4
      refine Ev.one fun k => ?_
      rw [bC.j0, if_pos rfl, if_pos rfl, Rf hF]
      rfl
     ·rename_i hn
      obtain ⟨g1, g2, g3, g4, g5⟩ := hrel
      simp only [] at g1 g2 g3 g4 g5
      rw [if_neg hn]
      refine sgE r1 (fun k x12 => bC.j0 k a m r6 x12 r1 r2 r3 r4 r5) _ g1 ?_
      subst g1 g2 g3 g4
      by_cases hok : (jV (iY (bl s)) [] (-1)).2.2 = true
      ·obtain ⟨g6, g7⟩ := g5 hok
       have hul : (iY (bl s)).length ≤ s.size := by
        rw [← gG]
        unfold iY
        split
        ·rw [List.length_drop]; omega
        ·exact Nat.le_refl _
       obtain ⟨p1, p2, p3, p4, p5⟩ := pq (iY (bl s)) [] (-1) rfl (by decide)
       have hmx : mx 0 (-1) = 0 := by unfold mx; split <;> omega
       rw [hmx] at p4
       rw [if_pos hok, ← g6] at *
       generalize (jV (iY (bl s)) [] (-1)).2.1 = ex at *
       have p2' : r4.size ≤ (iY (bl s)).length := by rw [← gG]; simpa using p2
       have hsz4 : r4.size ≤ 2000 := by omega
       have hpos4 : 0 < r4.size := by rw [← gG]; exact List.length_pos_iff.2 (p5 hok)
       have hdig := xw p1
       have hdl : dK (bl r4) < 10 ^ r4.size := by rw [← gG]; exact qw hdig
       have hfit := zW hdl
       have hfit2 : gY (dK (bl r4)) := Nat.le_trans hfit (by omega)
       have hP := Md hdig hpos4 (by omega) hfit2
       refine Ev.step (f := _) (fun k => by rw [bC.j0, if_pos hok, if_neg (by decide), if_neg (by decide)]) ?_
       refine Ev.bind hP ?_
       simp only []
       by_cases hz : dK (bl r4) = 0
       ·rw [if_pos hz, hz]
        refine Ev.pos (by rw [gJ, gZ]; rfl) ?_
        rw [O6 hF]
        exact Ev.now _
       ·rw [if_neg hz]
        have hwp := iJ hz
        refine Ev.neg (by rw [gJ]; exact fun h => absurd (Int.ofNat_inj.1 h) (Nat.pos_iff_ne_zero.1 hwp)) ?_
        have hT := O5 hz hfit2
        refine Ev.bind hT ?_
        have hrl := vK hz
        have hsize : (strOfNums (asc (lH (dK (bl r4))).reverse)).size = (lH (dK (bl r4))).length := by rw [strOfNums_size, kH, List.length_reverse]
        simp only [hsize]
        obtain ⟨L, hL⟩ : ∃ L, (lH (dK (bl r4))).length = L + 1 := ⟨(lH (dK (bl r4))).length - 1, by omega⟩
        rw [hL] at hrl ⊢
        rw [Nat.add_sub_cancel] at hrl
        have hLs : L < r4.size := (Nat.pow_lt_pow_iff_right (show 1 < 10 by decide)).1 (Nat.lt_of_le_of_lt hrl.1 hdl)
        have hul2 : ex.2.2 ≤ 2000 := by omega
        have hxr : -1000003000 ≤ r5 ∧ r5 ≤ 1000003000 := by
         rw [g7]
         unfold Jw
         have := uw ex.1 (min ex.2.1 1000000000) (Nat.min_le_right _ _)
         omega
        have ew : wrap64 ((mx (-500) (mn (wrap64 ((wrap64 (((L + 1 : Nat) : Int) - 1)) + r5)) 500)) - (wrap64 (((L + 1 : Nat) : Int) - 1))) = max (-500 - (L : Int)) (min r5 (500 - (L : Int))) := by
         rw [QO (by omega), w64 (x := (L : Int) + r5) (by omega) (by omega)]
         rw [qY, Qs, w64 (by omega) (by omega)]
         omega
        rw [ew, g7, zV (by decide) ex p3 (by omega) (by omega) (by omega) (by omega)]
        have hcl := yx hF.small m (jr (bl s)) hrl.1 hrl.2.1 (x := Gv ex) (lo := -500 - (L : Int)) (hi := 500 - (L : Int)) (by omega) (by omega)
        rw [← hcl]
        exact Pg hF m (jr (bl s)) (by omega) hrl.1 hrl.2.1 (by omega) (by omega) (by omega)
      ·rw [if_neg hok]
       have hok' : (jV (iY (bl s)) [] (-1)).2.2 = false := by simpa using hok
       refine Ev.one fun k => ?_
       rw [bC.j0, hok', if_neg (by decide)]
end Go.Proofs.YtafikkmnkeddpaaGreatDoor.P
namespace Go.Proofs.YtafikkmnkeddpaaGreatDoor.P
open Go.RowKit Go.Proofs.YtafikkmnkeddpaaGreatDoorW.PrintWords Go.Proofs.YtafikkmnkeddpaaGreatDoorW.PrintLast Go.Proofs.YtafikkmnkeddpaaGreatDoorW.PrintMore
theorem nN {P : Int → Fm → Prop} (h0 : P 0 fmH) (h1 : P 1 fmB) (h2 : P 2 fmS) (h3 : P 3 fmD) {a : Int} {F : Fm} (h : oU a = some F) : P a F := by
 unfold oU at h
 split at h
 ·rename_i e; subst e; cases h; exact h0
 ·split at h
  ·rename_i e; subst e; cases h; exact h1
  ·split at h
   ·rename_i e; subst e; cases h; exact h2
   ·split at h
    ·rename_i e; subst e; cases h; exact h3
    ·cases h
theorem IB {a : Int} {F : Fm} (h : oU a = some F) : bU.f a = some ((F.W : Int), (F.P : Int), F.emin, F.emax, 0) := by
 refine nN (P := fun a F => bU.f a = some ((F.W : Int), (F.P : Int), F.emin, F.emax, 0)) ?_ ?_ ?_ ?_ h <;> rfl
theorem Ey {a : Int} (h : oU a = none) : bU.f a = some (0, 0, 0, 0, 2) := by
 obtain ⟨h0, h1, h2, h3⟩ := BN h
 unfold bU.f lV
 rw [if_neg h0, if_neg h1, if_neg h2, if_neg h3]
theorem Tm {a : Int} {F : Fm} (h : oU a = some F) (neg : Bool) : fA.f a neg = some ((((2 ^ (F.W - F.P) - 1) * 2 ^ (F.P - 1) + (if neg = true then 2 ^ (F.W - 1) else 0) : Nat) : Int), 0) := by
 refine nN (P := fun a F => fA.f a neg = some ((((2 ^ (F.W - F.P) - 1) * 2 ^ (F.P - 1) + (if neg = true then 2 ^ (F.W - 1) else 0) : Nat) : Int), 0)) ?_ ?_ ?_ ?_ h <;> cases neg <;> decide +kernel
theorem Jz {a : Int} {F : Fm} (h : oU a = some F) (neg : Bool) : fV.f a neg = some ((((2 ^ (F.W - F.P) - 2) * 2 ^ (F.P - 1) + (2 ^ (F.P - 1) - 1) + (if neg = true then 2 ^ (F.W - 1) else 0) : Nat) : Int), 0) := by
 refine nN (P := fun a F => fV.f a neg = some ((((2 ^ (F.W - F.P) - 2) * 2 ^ (F.P - 1) + (2 ^ (F.P - 1) - 1) + (if neg = true then 2 ^ (F.W - 1) else 0) : Nat) : Int), 0)) ?_ ?_ ?_ ?_ h <;> cases neg <;> decide +kernel
theorem Tn {a : Int} {F : Fm} (h : oU a = some F) (neg : Bool) : gW.f a neg = some (((if neg = true then 2 ^ (F.W - 1) else 0 : Nat) : Int), 0) := by
 refine nN (P := fun a F => gW.f a neg = some (((if neg = true then 2 ^ (F.W - 1) else 0 : Nat) : Int), 0)) ?_ ?_ ?_ ?_ h <;> cases neg <;> decide +kernel
theorem Uk {a : Int} {F : Fm} (h : oU a = some F) : je.f a = some ((((2 ^ (F.W - F.P) - 1) * 2 ^ (F.P - 1) + 2 ^ (F.P - 2) : Nat) : Int), 0) := by
 refine nN (P := fun a F => je.f a = some ((((2 ^ (F.W - F.P) - 1) * 2 ^ (F.P - 1) + 2 ^ (F.P - 2) : Nat) : Int), 0)) ?_ ?_ ?_ ?_ h <;> decide +kernel
theorem Pm {a : Int} {F : Fm} (h : oU a = some F) (m : Int) (neg : Bool) : Ev (fun k => bH.f k a m neg) ((lF F m neg : Nat) : Int) := by
 have hI : ∀ neg : Bool, Ev (fun k => bH.j0 k a neg true) (((2 ^ (F.W - F.P) - 1) * 2 ^ (F.P - 1) + (if neg = true then 2 ^ (F.W - 1) else 0) : Nat) : Int) := fun neg => Ev.one fun k => by
  rw [bH.j0, if_pos rfl, Tm h]
  rfl
 have hG : ∀ neg : Bool, Ev (fun k => bH.j0 k a neg false) (((2 ^ (F.W - F.P) - 2) * 2 ^ (F.P - 1) + (2 ^ (F.P - 1) - 1) + (if neg = true then 2 ^ (F.W - 1) else 0) : Nat) : Int) := fun neg => Ev.one fun k => by
  rw [bH.j0, if_neg (by decide), Jz h]
  rfl
 unfold bH.f lF
 by_cases m0 : m = 0
 ·subst m0; simpa using hI neg
 ·by_cases m1 : m = 1
  ·subst m1; simpa using hI neg
  ·by_cases m3 : m = 3
   ·subst m3
    cases neg
    ·simpa using hI false
    ·simpa using hG true
   ·by_cases m4 : m = 4
    ·subst m4
     cases neg
     ·simpa using hG false
     ·simpa using hI true
    ·simp only [m0, m1, m3, m4, if_false, false_or, false_and]
     exact hG neg
theorem MP (m : Int) (neg odd : Bool) {l : Nat} (h1 : 1 ≤ l) (h2 : l ≤ 3) : f_.f m neg odd (l : Int) = some (Ae m neg odd l) := by
 have hls : l = 1 ∨ l = 2 ∨ l = 3 := by omega
 unfold f_.f Ae
 by_cases m4 : m = 4
 ·subst m4; cases neg <;> rfl
 ·by_cases m3 : m = 3
  ·subst m3; cases neg <;> rfl
  ·by_cases m0 : m = 0
   ·subst m0; cases odd <;> rcases hls with h | h | h <;> subst h <;> rfl
   ·by_cases m1 : m = 1
    ·subst m1; rcases hls with h | h | h <;> subst h <;> rfl
    ·by_cases m5 : m = 5
     ·subst m5; cases odd <;> rfl
     ·rw [if_neg m4, if_neg m3, if_neg m0, if_neg m1, if_neg m5, if_neg m0, if_neg m1, if_neg m3, if_neg m4, if_neg m5]
theorem Gw {v : Nat} (h : v ≠ 0) : rd (wI v) 0 = ((v % WB : Nat) : Int) := by
 have := jo (toW v) 0
 rw [show ((0 : Nat) : Int) = 0 from rfl] at this
 rw [Ib, this, lT h]
 rfl
theorem Ul (v : Nat) : Go.bits .and .u64 ((v % WB : Nat) : Int) 3 = ((v % 4 : Nat) : Int) := by
 have := u64_and_nat (v % WB) 3 (Nat.mod_lt _ (by decide)) (by decide)
 rw [show ((3 : Nat) : Int) = 3 from rfl] at this
 rw [this, show (3 : Nat) = 2 ^ 2 - 1 from rfl, Nat.and_two_pow_sub_one_eq_mod]
 congr 1
 exact Nat.mod_mod_of_dvd v ⟨4611686018427387904, rfl⟩
theorem and1 (v : Nat) : Go.bits .and .u64 ((v % WB : Nat) : Int) 1 = ((v % 2 : Nat) : Int) := by
 rw [and_one _ (Nat.mod_lt _ (by decide))]
 congr 1
 exact Nat.mod_mod_of_dvd v ⟨9223372036854775808, rfl⟩
theorem or1 {x : Nat} (h : x < 4) : Go.bits .or .u64 (x : Int) 1 = ((x + 1 - x % 2 : Nat) : Int) := by
 have hx : x = 0 ∨ x = 1 ∨ x = 2 ∨ x = 3 := by omega
 have := u64_or_nat x 1 (by omega) (by decide)
 rw [show ((1 : Nat) : Int) = 1 from rfl] at this
 rw [this]
 rcases hx with h | h | h | h <;> subst h <;> rfl
theorem MQ (j : Nat) (more : Bool) : mM j more ≤ 3 := by unfold mM; split <;> omega
theorem IC (m : Int) (neg more : Bool) {n : Nat} (e : Int) {j : Nat} (hj : (toW j).length ≤ 80000000) : Ev (fun k => aC.j0 k m (wI j) neg (wI n) e more) (wI (gB m neg (j / 4) (mM j more)), decide (mM j more ≠ 0)) := by
 have hju : (toW (j / 4)).length ≤ 80000000 := Nat.le_trans (gU (Nat.div_le_self _ _)) hj
 have h2 : Ev (fun k => aC.j2 k m (wI j) ((mM j more : Nat) : Int) neg (wI n) e more) (wI (gB m neg (j / 4) (mM j more)), decide (mM j more ≠ 0)) := by
  have hr := MQ j more
  generalize mM j more = l at *
  have hshr : kD.f (wI j) 2 = some (wI (j / 4), 0) := by
   unfold kD.f
   rw [if_pos ⟨OkI.wI (by omega), by decide, by decide⟩, jU]
   rfl
  have h3 : ∀ odd : Bool, odd = decide (j / 4 % 2 = 1) → Ev (fun k => aC.j3 k m (l : Int) (wI (j / 4)) odd neg (wI n) e more) (wI (gB m neg (j / 4) l), decide (l ≠ 0)) := fun odd ho => by
   have hb : ((l : Int) != 0) = decide (l ≠ 0) := by
    rw [Bool.eq_iff_iff, bne_iff_ne, decide_eq_true_eq]
    omega
   refine Ev.one fun k => ?_
   rw [aC.j3]
   by_cases h0 : l = 0
   ·subst h0
    rw [if_pos (show ((0 : Nat) : Int) = 0 from rfl), EK]
    rfl
   ·rw [if_neg (by omega), MP m neg odd (by omega) hr]
    simp only [Option.bind_some]
    unfold gB
    rw [ho]
    have hadd : iQ.f (wI (j / 4)) [1] = some (wI (j / 4 + 1)) := by
     unfold iQ.f
     rw [show ([1] : List Int) = wI 1 by unfold wI; rw [lD]; rfl, if_pos ⟨OkI.wI (by omega), OkI.wI (by rw [lD]; decide)⟩, jU, jU]
    by_cases hg : Ae m neg (decide (j / 4 % 2 = 1)) l = true
    ·rw [if_pos hg, if_pos ⟨h0, hg⟩, hadd, hb]
     rfl
    ·rw [if_neg hg, if_neg (fun h => hg h.2), hb]
  by_cases h0 : j / 4 = 0
  ·refine Ev.step (f := fun k => aC.j3 k m (l : Int) (wI (j / 4)) false neg (wI n) e more) (fun k => ?_) (h3 false (by rw [h0]; rfl))
   rw [aC.j2, hshr]
   simp only [Option.bind_some]
   rw [gJ, h0, gZ, if_neg (by decide)]
  ·have hp := iJ h0
   refine Ev.step (f := fun k => aC.j3 k m (l : Int) (wI (j / 4)) (decide (j / 4 % 2 = 1)) neg (wI n) e more) (fun k => ?_) (h3 _ rfl)
   have c1 : (((wI (j / 4)).length : Nat) : Int) > 0 := by rw [gJ]; omega
   have c2 : 0 < (((wI (j / 4)).length : Nat) : Int) := c1
   rw [aC.j2, hshr]
   simp only [Option.bind_some]
   rw [if_pos c1, if_pos c2, Gw h0, and1]
   congr 1
   rw [Bool.eq_iff_iff, beq_iff_eq, decide_eq_true_eq]
   omega
 have h1 : Ev (fun k => aC.j1 k m (wI j) ((j % 4 : Nat) : Int) neg (wI n) e more) (wI (gB m neg (j / 4) (mM j more)), decide (mM j more ≠ 0)) := by
  refine Ev.step (f := fun k => aC.j2 k m (wI j) ((mM j more : Nat) : Int) neg (wI n) e more) (fun k => ?_) h2
  rw [aC.j1]
  cases more
  ·rw [if_neg (by decide)]; rfl
  ·rw [if_pos rfl, or1 (Nat.mod_lt _ (by decide))]
   congr 2
   unfold mM
   rw [if_pos rfl]
   omega
 by_cases h0 : j = 0
 ·subst h0
  refine Ev.step (f := fun k => aC.j1 k m (wI 0) ((0 % 4 : Nat) : Int) neg (wI n) e more) (fun k => ?_) h1
  rw [aC.j0, gJ, gZ, if_neg (by decide)]
  rfl
 ·have hp := iJ h0
  have c1 : (((wI j).length : Nat) : Int) > 0 := by rw [gJ]; omega
  have c2 : 0 < (((wI j).length : Nat) : Int) := c1
  refine Ev.step (f := fun k => aC.j1 k m (wI j) ((j % 4 : Nat) : Int) neg (wI n) e more) (fun k => ?_) h1
  rw [aC.j0, if_pos c1, if_pos c2, Gw h0, Ul]
theorem Rj (v n : Nat) : wE v n ≤ v + 1 := by
 unfold wE
 have := Nat.div_le_self v (2 ^ n)
 split <;> omega
theorem Ez (v : Nat) : (toW (v + 1)).length ≤ (toW v).length + 1 := jg (by
 have := lg v
 rw [Nat.pow_succ]
 have h2 : 0 < WB ^ (toW v).length := Nat.pow_pos (by decide)
 calc v + 1 ≤ WB ^ (toW v).length := this
  _ < WB ^ (toW v).length * WB := by
   have : WB ^ (toW v).length * 1 < WB ^ (toW v).length * WB := Nat.mul_lt_mul_of_pos_left (by decide) h2
   rwa [Nat.mul_one] at this)
theorem IE (m : Int) (neg more : Bool) {n : Nat} {e q : Int} (hn : (toW n).length ≤ 900) (h1 : -100000 ≤ e) (h2 : e ≤ 100000) (h3 : -100000 ≤ q) (h4 : q ≤ 100000) (h5 : q - e < 2 → 2 - (q - e) ≤ 7000) :
  Ev (fun k => aC.f k neg (wI n) e more m q) (wI (qy m neg more n e q).1, (qy m neg more n e q).2) := by
 have e1 : wrap64 (q - e) = q - e := w64 (by omega) (by omega)
 unfold aC.f qy EM
 rw [e1]
 by_cases h : 2 ≤ q - e
 ·have e2 : wrap64 (q - e - 2) = q - e - 2 := w64 (by omega) (by omega)
  have hjam : kC.f (wI n) (wrap64 (q - e - 2)) = some (wI (wE n (q - e - 2).toNat), 0) := by
   unfold kC.f
   rw [e2, if_pos ⟨OkI.wI (by omega), by omega, by omega⟩, jU]
  have hl := Nat.le_trans (gU (Rj n (q - e - 2).toNat)) (Ez n)
  rw [if_pos h]
  refine Ev.pos h ?_
  rw [hjam]
  exact IC m neg more e (by omega)
 ·have e2 : wrap64 (2 - (q - e)) = 2 - (q - e) := w64 (by omega) (by omega)
  have hl := nM (v := n) (n := (2 - (q - e)).toNat)
  have h6 := h5 (by omega)
  have hshl : gK.f (wI n) (wrap64 (2 - (q - e))) = some (wI (n * 2 ^ (2 - (q - e)).toNat), 0) := by
   unfold gK.f gY
   rw [e2, jU, if_pos ⟨OkI.wI (by omega), by omega, by omega, by omega, by omega⟩]
  rw [if_neg h]
  refine Ev.neg h ?_
  rw [hshl]
  exact IC m neg more e (by omega)
theorem Gx {v : Nat} (h : (toW v).length ≤ 1000000) : iD.f (wI v) = some ((cZ v : Nat) : Int) := by
 unfold iD.f
 rw [if_pos (OkI.wI (by omega)), jU]
theorem Rk {u v : Nat} (h : (toW u).length ≤ 1000000) (h' : (toW v).length ≤ 1000000) : iQ.f (wI u) (wI v) = some (wI (u + v)) := by
 unfold iQ.f
 rw [if_pos ⟨OkI.wI (by omega), OkI.wI (by omega)⟩, jU, jU]
theorem Tq : wI 1 = [1] := by unfold wI; rw [lD]; rfl
theorem Dw (v : Nat) : decide (0 < (wI v).length) = decide (0 < v) := by
 rw [gJ]
 apply decide_eq_decide.2
 constructor
 ·intro h
  rcases Nat.eq_zero_or_pos v with h0 | h0
  ·subst h0; rw [gZ] at h; exact absurd h (by decide)
  ·exact h0
 ·intro h; exact iJ (by omega)
theorem Pn {num den : Nat} (hn : num ≠ 0) (hnl : (toW num).length ≤ 400) (hdl : (toW den).length ≤ 400) {dg : Nat} (hdg : dg ≤ 60) : ∀ μ n r s : Nat, (if n = 0 then (den - r) + dg + 1 else dg - cZ n + 1) = μ → qZ num den n r s → s ≤ 40000 → (toW n).length ≤ 900 →
  ∃ n' r' s' : Nat, Ev (fun k => aZ.l0 k (wI den) (dg : Int) (wI r) false (wI n) (-(s : Int)) false) (false, wI n', -(s' : Int), decide (0 < r')) ∧ qZ num den n' r' s' ∧ (dg ≤ cZ n' ∨ r' = 0) ∧ s' ≤ 40001 ∧ (toW n').length ≤ 900 := by
 intro μ
 induction μ using Nat.strongRecOn with
 | _ μ ih =>
  intro n r s hμ hq hs hnn
  have hrl := hq.lt
  have hrlen : (toW r).length ≤ 400 := Nat.le_trans (gU (Nat.le_of_lt hrl)) hdl
  have hlen := Gx (v := n) (by omega)
  have c0 : (((cZ n : Nat) : Int) < (dg : Int)) ↔ cZ n < dg := by omega
  by_cases hgo : cZ n < dg ∧ 0 < r
  ·obtain ⟨hb, hr⟩ := hgo
   have hs2 : s + 2 ≤ 30000 := by
    have e := hq.eq
    have h1 := jq n
    have h2 : n * den + r < 2 ^ cZ n * den := by
     have : (n + 1) * den ≤ 2 ^ cZ n * den := Nat.mul_le_mul_right _ h1
     rw [Nat.add_mul, Nat.one_mul] at this
     omega
    have h3 := lK den
    have h4 := jq den
    have h5 : 2 ^ s ≤ num * 2 ^ s := Nat.le_mul_of_pos_left _ (Nat.pos_of_ne_zero hn)
    have h6 : 2 ^ cZ n * den ≤ 2 ^ cZ n * 2 ^ cZ den := Nat.mul_le_mul_left _ (Nat.le_of_lt h4)
    rw [← Nat.pow_add] at h6
    have h7 := sZ (a := s) (b := cZ n + cZ den) (Nat.lt_of_le_of_lt h5 (Nat.lt_of_lt_of_le (by rw [← e]; exact h2) h6))
    omega
   have hn1 : (toW n).length ≤ 1 := jg (by
    have h1 := Nat.lt_of_lt_of_le (jq n) (Nat.pow_le_pow_right (show 0 < 2 by decide) (show cZ n ≤ 60 by omega))
    exact Nat.lt_of_lt_of_le h1 (by decide))
   have hd1 := Rk (u := n) (v := n) (by omega) (by omega)
   have hd2 := Rk (u := r) (v := r) (by omega) (by omega)
   have hrr : (toW (r + r)).length ≤ 402 := by
    have := nM (v := r) (n := 1)
    rw [Nat.pow_one, Nat.mul_two] at this
    omega
   have hnn2 : (toW (n + n)).length ≤ 3 := by
    have := nM (v := n) (n := 1)
    rw [Nat.pow_one, Nat.mul_two] at this
    omega
   have hnn3 := Ez (n + n)
   have ew : wrap64 (-(s : Int) - 1) = -((s + 1 : Nat) : Int) := by rw [w64 (by omega) (by omega)]; omega
   have hcmp : iC.f (wI (r + r)) (wI den) = some (lG (r + r) den) := by
    unfold iC.f
    rw [if_pos ⟨OkI.wI (by omega), OkI.wI (by omega)⟩, jU, jU]
   have hh : ∀ k, aZ.l0 (k + 1) (wI den) (dg : Int) (wI r) false (wI n) (-(s : Int)) false = aZ.j1 k (wI den) (dg : Int) (wI r) true false (wI n) (-(s : Int)) false := fun k => by
    rw [aZ.l0, hlen]
    simp only [Option.bind_some]
    rw [if_pos (c0.2 hb), Dw, decide_eq_true hr]
   by_cases hge : den ≤ r + r
   ·have hstep := hq.step1 hge
    have hc : lG (r + r) den ≥ 0 := by
     rcases Nat.lt_or_ge den (r + r) with h | h
     ·rw [qK h]; decide
     ·rw [show r + r = den by omega, uY]; decide
    have hsub : jG.f (wI (r + r)) (wI den) = some (wI (r + r - den), 0) := by
     unfold jG.f
     rw [if_pos ⟨OkI.wI (by omega), OkI.wI (by omega)⟩, jU, jU, if_neg (by omega)]
    have hadd := Rk (u := n + n) (v := 1) (by omega) (by rw [lD]; decide)
    rw [Tq] at hadd
    obtain ⟨n', r', s', h1, h2⟩ := ih _ (by
     rw [← hμ, if_neg (by omega)]
     by_cases hz : n = 0
     ·subst hz; rw [if_pos rfl, show 0 + 0 + 1 = 1 from rfl, Nk]; omega
     ·rw [if_neg hz, (xA hz).2]; omega) (n + n + 1) (r + r - den) (s + 1) rfl hstep (by omega) (by omega)
    refine ⟨n', r', s', Ev.step hh (Ev.step (f := fun k => aZ.l0 k (wI den) (dg : Int) (wI (r + r - den)) false (wI (n + n + 1)) (-((s + 1 : Nat) : Int)) false) (fun k => ?_) h1), h2⟩
    rw [aZ.j1, if_pos rfl, hd1]
    simp only [Option.bind_some]
    rw [hd2]
    simp only [Option.bind_some]
    rw [hcmp]
    simp only [Option.bind_some]
    rw [if_pos hc, hsub]
    simp only [Option.bind_some]
    rw [hadd]
    simp only [Option.bind_some]
    rw [ew]
   ·have hstep := hq.step0 (by omega)
    have hc : ¬ lG (r + r) den ≥ 0 := by rw [nS (by omega)]; decide
    obtain ⟨n', r', s', h1, h2⟩ := ih _ (by
     rw [← hμ]
     by_cases hz : n = 0
     ·subst hz; rw [if_pos rfl, if_pos rfl]; omega
     ·rw [if_neg hz, if_neg (by omega), (xA hz).1]; omega) (n + n) (r + r) (s + 1) rfl hstep (by omega) (by omega)
    refine ⟨n', r', s', Ev.step hh (Ev.step (f := fun k => aZ.l0 k (wI den) (dg : Int) (wI (r + r)) false (wI (n + n)) (-((s + 1 : Nat) : Int)) false) (fun k => ?_) h1), h2⟩
    rw [aZ.j1, if_pos rfl, hd1]
    simp only [Option.bind_some]
    rw [hd2]
    simp only [Option.bind_some]
    rw [hcmp]
    simp only [Option.bind_some]
    rw [if_neg hc, ew]
  ·refine ⟨n, r, s, ?_, hq, by omega, by omega, hnn⟩
   refine Ev.step (f := fun k => aZ.j1 k (wI den) (dg : Int) (wI r) false false (wI n) (-(s : Int)) false) (fun k => ?_) (Ev.one fun k => ?_)
   ·rw [aZ.l0, hlen]
    simp only [Option.bind_some]
    by_cases hb : cZ n < dg
    ·rw [if_pos (c0.2 hb), Dw, decide_eq_false (fun h => hgo ⟨hb, h⟩)]
    ·rw [if_neg (fun h => hb (c0.1 h))]
   ·rw [aZ.j1, if_neg (by decide), Dw]
theorem Po {num den : Nat} (hn : num ≠ 0) (hd : den ≠ 0) (hnl : (toW num).length ≤ 400) (hdl : (toW den).length ≤ 400) {dg : Nat} (hdg : dg ≤ 60) :
  ∃ n' r' s' : Nat, Ev (fun k => aZ.f k (wI num) (wI den) (dg : Int)) (false, wI n', -(s' : Int), decide (0 < r')) ∧ qZ num den n' r' s' ∧ (dg ≤ cZ n' ∨ r' = 0) ∧ s' ≤ 40001 ∧ (toW n').length ≤ 900 := by
 have b1 := lK num
 have b2 := lK den
 obtain ⟨sh, hsh⟩ : ∃ sh : Nat, sh = cZ den - cZ num - 1 := ⟨_, rfl⟩
 have ew : mx 0 (wrap64 ((wrap64 (((cZ den : Nat) : Int) - ((cZ num : Nat) : Int))) - 1)) = (sh : Int) := by
  rw [w64 (x := ((cZ den : Nat) : Int) - ((cZ num : Nat) : Int)) (by omega) (by omega), w64 (by omega) (by omega), qY]; omega
 have en : wrap64 (-(sh : Int)) = -(sh : Int) := w64 (by omega) (by omega)
 have hl := nM (v := num) (n := sh)
 have hup : gK.f (wI num) (sh : Int) = some (wI (num * 2 ^ sh), 0) := by
  unfold gK.f gY
  rw [jU, Int.toNat_natCast, if_pos ⟨OkI.wI (by omega), by omega, by omega, by omega, by omega⟩]
 have hdm : iF.f (wI (num * 2 ^ sh)) (wI den) = some (wI (num * 2 ^ sh / den), wI (num * 2 ^ sh % den), 0) := by
  unfold iF.f gY
  rw [jU, jU, if_pos ⟨⟨OkI.wI (by omega), OkI.wI (by omega)⟩, by omega, by omega, hd⟩]
 have hq0 : qZ num den (num * 2 ^ sh / den) (num * 2 ^ sh % den) sh := ⟨by rw [Nat.mul_comm, Nat.div_add_mod], Nat.mod_lt _ (Nat.pos_of_ne_zero hd)⟩
 have hnl2 : (toW (num * 2 ^ sh / den)).length ≤ 900 := Nat.le_trans (gU (Nat.div_le_self _ _)) (by omega)
 obtain ⟨n', r', s', h1, h2⟩ := Pn hn hnl hdl hdg _ _ _ _ rfl hq0 (by omega) hnl2
 refine ⟨n', r', s', ?_, h2⟩
 unfold aZ.f
 rw [Gx (v := den) (by omega), Gx (v := num) (by omega)]
 simp only [Option.bind_some, ew]
 rw [hup]
 simp only [Option.bind_some]
 rw [hdm]
 simp only [Option.bind_some, en]
 exact h1
end Go.Proofs.YtafikkmnkeddpaaGreatDoor.P
