/- DeciShortest: for every format and pattern the program's Shortest and Whole answer what the document answers, text and error: the statement Rows.DeciShortestCardSaid, the row tied to the text of the program. No condition. -/
import Derived.Test.YtafikkmnkeddpaaGreatDoorRows
import Derived.LaidMore
import Derived.ChangeAt
import Derived.Stop.LaidErr
import Derived.Lib.LaidU8
import Derived.Lib.LaidCase
import Derived.Test.YtafikkmnkeddpaaGreatDoorCards
import Derived.Test.YtafikkmnkeddpaaGreatDoorTie
import Derived.ProofKit
import Derived.OpenShut
import Derived.Lay
import Derived.ChangeMaps5
import Derived.Stop.Joined
import Derived.Lib.SmallJoins
import Derived.SevenTiedAt
import Derived.Test.YtafikkmnkeddpaaGreatDoorM5
set_option linter.unusedVariables false
set_option linter.unusedSimpArgs false
set_option maxRecDepth 100000
namespace Go.Proofs.YtafikkmnkeddpaaGreatDoor.P
open Go.RowKit Go.Proofs.YtafikkmnkeddpaaGreatDoorW.PrintWords Go.Proofs.YtafikkmnkeddpaaGreatDoorW.PrintLast Go.Proofs.YtafikkmnkeddpaaGreatDoorW.PrintMore Go.Proofs.YtafikkmnkeddpaaGreatDoor.E Go.Proofs.Tryz
def fJ.enc (r : ByteArray) : AV := .v (.string r)
def fJ.app (k : Nat) : List AV → (AV → Option AV) → Option AV := fun l K => match l with
 | [.v (.int .u64 a)] => (fJ.f k a).bind fun r => K (fJ.enc r)
 | _ => none
def fJ.p0 (k : Nat) : Pt := ⟨[.c [1, 1, 0, 0, 0, 0, 0], .c [1, 1, 0, 0, 0, 0, 1], .c [1, 1, 0, 0, 0, 1], .l [1, 1, 0, 0, 0], .b 0, .c [1, 1, 1]], [(0, none, []), (3, none, [])], [], [], [], fun s => match s with
 | ⟨[(0, .v (.int .u64 a)), (3, .v (.string b))], []⟩ => (fJ.l0 k a b).map fJ.enc
 | _ => none⟩
def fJ.E (k : Nat) : Env := ⟨23, tys, [], [(2, fJ.p0 k)], [], false, [9], false⟩
def iF.enc (r : ByteArray) : AV := .v (.string r)
def iF.app (k : Nat) : List AV → (AV → Option AV) → Option AV := fun l K => match l with
 | [.v (.int .i64 a)] => (iF.f k a).bind fun r => K (iF.enc r)
 | _ => none
def iF.E (k : Nat) : Env := ⟨13, tys, [(18, fJ.app k)], [], [], false, [9], false⟩
def mJ.enc (r : Int × Int) : AV := .tup [.v (.int .u64 r.1), .v (.int .i64 r.2)]
def mJ.app : List AV → (AV → Option AV) → Option AV := fun l K => match l with
 | [.v (.int .i64 a), .v (.int .u64 b)] => (mJ.f a b).bind fun r => K (mJ.enc r)
 | _ => none
def mJ.E : Env := ⟨17, tys, [(72, b_.app), (73, qy.app)], [], [], false, [22, 24], false⟩
def dA.enc (r : List Int × List Int) : AV := .tup [.ro true .u64 r.1, .ro true .u64 r.2]
def dA.app (k : Nat) : List AV → (AV → Option AV) → Option AV := fun l K => match l with
 | [.v (.int .u64 a), .v (.int .i64 b), .v (.int .i64 c)] => (dA.f k a b c).bind fun r => K (dA.enc r)
 | _ => none
def dA.p0 (k : Nat) : Pt := ⟨[.c [1, 1, 1, 0, 0], .c [1, 1, 1, 0, 1], .c [1, 1, 1, 1]], [(1, none, []), (6, some .u64, []), (7, some .u64, [])], [], [], [], fun s => match s with
 | ⟨[(1, .v (.int .i64 a)), (6, .ro true .u64 b), (7, .ro true .u64 c)], []⟩ => (dA.j0 k a b c).map dA.enc
 | _ => none⟩
def dA.E (k : Nat) : Env := ⟨40, tys, [(60, gy.app), (61, iP.app), (89, ig.app)], [(5, dA.p0 k)], [], false, [73, 73], false⟩
def ru.enc (r : Bool) : AV := .v (.bool r)
def ru.app : List AV → (AV → Option AV) → Option AV := fun l K => match l with
 | [.v (.int .i64 a), .v (.bool b), .v (.bool c), .v (.int .i64 d)] => (ru.f a b c d).bind fun r => K (ru.enc r)
 | _ => none
def ru.E : Env := ⟨36, tys, [], [], [], false, [4], false⟩
def gB.enc (r : ByteArray × Bool × Int) : AV := .tup [.v (.string r.1), .v (.bool r.2.1), .v (.int .i64 r.2.2)]
def gB.app (k : Nat) : List AV → (AV → Option AV) → Option AV := fun l K => match l with
 | [.v (.int .i64 a), .v (.int .i64 b), .v (.int .u64 c), .v (.int .i64 d)] => (gB.f k a b c d).bind fun r => K (gB.enc r)
 | _ => none
def gB.p0 (k : Nat) : Pt := ⟨[.c [1, 1, 1, 1, 1, 1, 1, 1, 1, 1, 1, 1, 1, 0], .c [1, 1, 1, 1, 1, 1, 1, 1, 1, 1, 1, 1, 1, 1]], [(3, none, []), (16, none, []), (19, some .u64, []), (22, none, [])], [(14, [])], [], [11], fun s => match s with
 | ⟨[(3, .v (.int .i64 a)), (16, .v (.int .i64 b)), (19, .ro true .u64 c), (22, .v (.bool d)), (14, .ptr 14 0), (11, .ptr 11 0)], [(14, .cells [.v (.bool e), .v (.int .u64 f), .v (.int .i64 g), .v (.int .u64 i)]), (11, .cells [.top, .top, .top, .top])]⟩ => (gB.j2 k a b c d e f g i).map gB.enc
 | _ => none⟩
def gB.p1 (k : Nat) : Pt := ⟨[.c [1, 1, 1, 1, 0, 1], .c [1, 1, 1, 1, 1]], [(0, none, []), (1, none, []), (2, none, []), (3, none, []), (49, none, [])], [], [], [11], fun s => match s with
 | ⟨[(0, .v (.int .i64 a)), (1, .v (.int .i64 b)), (2, .v (.int .u64 c)), (3, .v (.int .i64 d)), (49, .v (.bool e)), (11, .ptr 11 0)], [(11, .cells [.top, .top, .top, .top])]⟩ => (gB.j0 k a b c d e).map gB.enc
 | _ => none⟩
def gB.p2 (k : Nat) : Pt := ⟨[.c [1, 1, 1, 1, 1, 1, 1, 1, 1, 1, 1, 1, 0, 1], .c [1, 1, 1, 1, 1, 1, 1, 1, 1, 1, 1, 1, 1]], [(3, none, []), (16, none, []), (19, some .u64, []), (22, none, []), (115, none, [])], [(14, [])], [], [11], fun s => match s with
 | ⟨[(3, .v (.int .i64 a)), (16, .v (.int .i64 b)), (19, .ro true .u64 c), (22, .v (.bool d)), (115, .v (.bool e)), (14, .ptr 14 0), (11, .ptr 11 0)], [(14, .cells [.v (.bool f), .v (.int .u64 g), .v (.int .i64 i), .v (.int .u64 j)]), (11, .cells [.top, .top, .top, .top])]⟩ => (gB.j1 k a b c d e f g i j).map gB.enc
 | _ => none⟩
def gB.E (k : Nat) : Env := ⟨140, tys, [(52, dn.app), (53, iy.app), (72, b_.app), (90, dG.app), (76, dI.app), (78, jg.app), (74, bD.app k), (98, strings_HasSuffix.app), (92, strings_Repeat.app), (99, jC.app), (100, dA.app k), (101, jf.app), (89, ig.app), (103, jd.app), (102, ru.app), (104, jE.app)], [(23, gB.p0 k), (100049, gB.p1 k), (100115, gB.p2 k)], [(13, [0, 1, 2, 3, 4, 5, 6, 7, 8, 9, 10, 11]), (21, [0, 1, 2, 3, 4, 5, 6, 7, 8, 9, 10, 11, 12, 13, 14])], false, [9, 4, 24], false⟩
def bT.enc (r : Int × Int × Int × Int) : AV := .tup [.v (.int .u64 r.1), .v (.int .u64 r.2.1), .v (.int .u64 r.2.2.1), .v (.int .u64 r.2.2.2)]
def bT.app : List AV → (AV → Option AV) → Option AV := fun l K => match l with
 | [.v (.int .i64 a), .v (.int .u64 b)] => (bT.f a b).bind fun r => K (bT.enc r)
 | _ => none
def bT.E : Env := ⟨42, tys, [(145, bJ.app)], [], [(4, [0, 1, 2, 3, 4, 5, 6, 7, 8, 9, 10, 11, 12, 13, 14, 15, 16, 17, 18, 19, 20])], false, [22, 22, 22, 22], false⟩
theorem bT.fok : FO 186 f186 (dF f186) (bT.E) := fo fV func186 ⟨bJ.ok, trivial⟩
theorem bT.ok : AO 186 (bT.app) := eX stays mixed (bT.fok) (dX rfl) fun l K r h => by
 dsimp only [bT.app] at h
 split at h
 ·rename_i a b
  exact fin (enc := bT.enc) h rfl fun y h => by
   exact via ((bJ.f a).bind fun c => if 0 ≤ IntKind.wrap .u64 (wrap64 (c.1 - 1)) then if 0 ≤ IntKind.wrap .u64 (wrap64 (c.2.1 - 1)) then if 0 ≤ IntKind.wrap .u64 (wrap64 (c.2.1 - 1)) then if (shl .u64 1 (IntKind.wrap .u64 (wrap64 (c.2.1 - 1))) : Int) = 0 then none else some (.tup [uA (Go.bits .and .u64 (shr .u64 b (IntKind.wrap .u64 (wrap64 (c.1 - 1)))) 1), uA (Go.bits .and .u64 (shr .u64 b (IntKind.wrap .u64 (wrap64 (c.2.1 - 1)))) (IntKind.wrap .u64 (wrap64 ((wrap64 (2 * c.2.2.2.1)) + 1)))), uA (Int.tmod b (shl .u64 1 (IntKind.wrap .u64 (wrap64 (c.2.1 - 1))))), uA (IntKind.wrap .u64 (wrap64 ((wrap64 (2 * c.2.2.2.1)) + 1)))]) else none else none else none) (by rw [bT.f] at h; exact Eq.trans (Eq.symm mt2) h)
 ·cases h
def eu.enc (r : Bool) : AV := .v (.bool r)
def eu.app : List AV → (AV → Option AV) → Option AV := fun l K => match l with
 | [.v (.int .i64 a), .v (.int .u64 b)] => (eu.f a b).bind fun r => K (eu.enc r)
 | _ => none
def eu.E : Env := ⟨23, tys, [(186, bT.app)], [], [], false, [4], false⟩
theorem eu.fok : FO 105 f105 (dF f105) (eu.E) := fo fV func105 ⟨bT.ok, trivial⟩
theorem eu.ok : AO 105 (eu.app) := eX stays mixed (eu.fok) (dX rfl) fun l K r h => by
 dsimp only [eu.app] at h
 split at h
 ·rename_i a b
  exact fin (enc := eu.enc) h rfl fun y h => by
   exact via ((bT.f a b).bind fun c => if (c.2.1 == 0) then some (bA (c.2.2.1 == 0)) else some (bA false)) (by rw [eu.f] at h; exact Eq.trans (Eq.symm mt2) h)
 ·cases h
def dJ.enc (r : Int) : AV := .v (.int .u64 r)
def dJ.app : List AV → (AV → Option AV) → Option AV := fun l K => match l with
 | [.v (.int .i64 a), .v (.int .u64 b)] => (dJ.f a b).bind fun r => K (dJ.enc r)
 | _ => none
def dJ.E : Env := ⟨18, tys, [(186, bT.app)], [], [], false, [22], false⟩
theorem dJ.fok : FO 108 f108 (dF f108) (dJ.E) := fo fV func108 ⟨bT.ok, trivial⟩
theorem dJ.ok : AO 108 (dJ.app) := eX stays mixed (dJ.fok) (dX rfl) fun l K r h => by
 dsimp only [dJ.app] at h
 split at h
 ·rename_i a b
  exact fin (enc := dJ.enc) h rfl fun y h => by
   exact via ((bT.f a b).bind fun c => some (uA c.1)) (by rw [dJ.f] at h; exact Eq.trans (Eq.symm mt2) h)
 ·cases h
def fG.enc (r : Bool) : AV := .v (.bool r)
def fG.app : List AV → (AV → Option AV) → Option AV := fun l K => match l with
 | [.v (.int .i64 a), .v (.int .u64 b)] => (fG.f a b).bind fun r => K (fG.enc r)
 | _ => none
def fG.E : Env := ⟨24, tys, [(186, bT.app)], [], [], false, [4], false⟩
theorem fG.fok : FO 163 f163 (dF f163) (fG.E) := fo fV func163 ⟨bT.ok, trivial⟩
theorem fG.ok : AO 163 (fG.app) := eX stays mixed (fG.fok) (dX rfl) fun l K r h => by
 dsimp only [fG.app] at h
 split at h
 ·rename_i a b
  exact fin (enc := fG.enc) h rfl fun y h => by
   exact via ((bT.f a b).bind fun c => if (c.2.1 == c.2.2.2) then some (bA (c.2.2.1 != 0)) else some (bA false)) (by rw [fG.f] at h; exact Eq.trans (Eq.symm mt2) h)
 ·cases h
def fH.enc (r : Bool) : AV := .v (.bool r)
def fH.app : List AV → (AV → Option AV) → Option AV := fun l K => match l with
 | [.v (.int .i64 a), .v (.int .u64 b)] => (fH.f a b).bind fun r => K (fH.enc r)
 | _ => none
def fH.E : Env := ⟨24, tys, [(186, bT.app)], [], [], false, [4], false⟩
theorem fH.fok : FO 164 f164 (dF f164) (fH.E) := fo fV func164 ⟨bT.ok, trivial⟩
theorem fH.ok : AO 164 (fH.app) := eX stays mixed (fH.fok) (dX rfl) fun l K r h => by
 dsimp only [fH.app] at h
 split at h
 ·rename_i a b
  exact fin (enc := fH.enc) h rfl fun y h => by
   exact via ((bT.f a b).bind fun c => if (c.2.1 == c.2.2.2) then some (bA (c.2.2.1 == 0)) else some (bA false)) (by rw [fH.f] at h; exact Eq.trans (Eq.symm mt2) h)
 ·cases h
def aT.enc (r : ByteArray) : AV := .v (.string r)
def aT.app (k : Nat) : List AV → (AV → Option AV) → Option AV := fun l K => match l with
 | [.v (.int .i64 a), .v (.int .u64 b)] => (aT.f k a b).bind fun r => K (aT.enc r)
 | _ => none
def aT.p0 (k : Nat) : Pt := ⟨[.c [1, 1, 1, 0, 0, 0], .c [1, 1, 1, 0, 0, 1], .b 0, .c [1, 1, 1, 1]], [(0, none, []), (1, none, []), (5, none, [])], [], [], [], fun s => match s with
 | ⟨[(0, .v (.int .i64 a)), (1, .v (.int .u64 b)), (5, .v (.string c))], []⟩ => (aT.j0 k a b c).map aT.enc
 | _ => none⟩
def aT.E (k : Nat) : Env := ⟨26, tys, [(108, dJ.app), (163, fG.app), (164, fH.app), (105, eu.app)], [(4, aT.p0 k)], [], false, [9], false⟩
theorem aT.fok (k : Nat) : FO 80 f80 (dF f80) (aT.E k) := fo fV func80 ⟨dJ.ok, ⟨fG.ok, ⟨fH.ok, ⟨eu.ok, trivial⟩⟩⟩⟩
theorem aT.s0 : jM f80 aT.E aT.p0 := fun k s r h => by
 dsimp only [aT.p0] at h
 split at h
 ·rename_i a b c
  rcases k with _ | k
  ·cases h
  exact ⟨k, rfl, via ((fG.f a b).bind fun d => if d then some (sA (⟨#[110, 97, 110]⟩ : ByteArray)) else (fH.f a b).bind fun e => if e then if c.size + (⟨#[105, 110, 102]⟩ : ByteArray).size ≤ 9223372036854775807 then some (sA (c ++ (⟨#[105, 110, 102]⟩ : ByteArray))) else none else (eu.f a b).bind fun f => if f then if c.size + (⟨#[48]⟩ : ByteArray).size ≤ 9223372036854775807 then some (sA (c ++ (⟨#[48]⟩ : ByteArray))) else none else some (sA (⟨#[]⟩ : ByteArray))) (by rw [aT.j0] at h; exact Eq.trans (Eq.symm mt2) h)⟩
 ·cases h
theorem aT.pts : ∀ k, jI prog (dF f80) (aT.E k) GOk (Fin prog f80) := je stays mixed aT.fok [(4, aT.p0)] ⟨aT.s0, trivial⟩
theorem aT.ok (k : Nat) : AO 80 (aT.app k) := eX stays mixed (aT.fok k) (aT.pts k) fun l K r h => by
 dsimp only [aT.app] at h
 split at h
 ·rename_i a b
  exact fin (enc := aT.enc) h rfl fun y h => by
   exact via ((dJ.f a b).bind fun c => if (c == 1) then (aT.j0 k a b (⟨#[45]⟩ : ByteArray)).map aT.enc else (aT.j0 k a b (⟨#[]⟩ : ByteArray)).map aT.enc) (by rw [aT.f] at h; exact Eq.trans (Eq.symm mt2) h)
 ·cases h
def fB.enc (r : Int × Int) : AV := .tup [.v (.int .u64 r.1), .v (.int .i64 r.2)]
def fB.app : List AV → (AV → Option AV) → Option AV := fun l K => match l with
 | [.v (.int .i64 a), .v (.int .u64 b)] => (fB.f a b).bind fun r => K (fB.enc r)
 | _ => none
def fB.E : Env := ⟨51, tys, [(145, bJ.app), (186, bT.app)], [], [(4, [0, 1, 2, 3, 4, 5, 6, 7, 8]), (5, [0, 1, 2, 3, 4, 5, 6, 7, 8, 9, 10, 11, 12, 13, 14, 15, 16, 17, 18])], false, [22, 3], false⟩
theorem fB.fok : FO 165 f165 (dF f165) (fB.E) := fo fV func165 ⟨bJ.ok, ⟨bT.ok, trivial⟩⟩
theorem fB.ok : AO 165 (fB.app) := eX stays mixed (fB.fok) (dX rfl) fun l K r h => by
 dsimp only [fB.app] at h
 split at h
 ·rename_i a b
  exact fin (enc := fB.enc) h rfl fun y h => by
   exact via ((bJ.f a).bind fun c => (bT.f a b).bind fun d => if (d.2.1 == 0) then some (.tup [uA d.2.2.1, iA (wrap64 ((wrap64 (c.2.2.1 - c.2.1)) + 1))]) else if 0 ≤ IntKind.wrap .u64 (wrap64 (c.2.1 - 1)) then some (.tup [uA (IntKind.wrap .u64 ((shl .u64 1 (IntKind.wrap .u64 (wrap64 (c.2.1 - 1)))) + d.2.2.1)), iA (wrap64 ((wrap64 ((wrap64 ((wrap64 ((wrap64 (d.2.1)) - 1)) + c.2.2.1)) - c.2.1)) + 1))]) else none) (by rw [fB.f] at h; exact Eq.trans (Eq.symm mt2) h)
 ·cases h
def dw.enc (r : List Int × List Int) : AV := .tup [.ro true .u64 r.1, .ro true .u64 r.2]
def dw.app (k : Nat) : List AV → (AV → Option AV) → Option AV := fun l K => match l with
 | [.v (.int .i64 a), .v (.int .u64 b)] => (dw.f k a b).bind fun r => K (dw.enc r)
 | _ => none
def dw.E (k : Nat) : Env := ⟨28, tys, [(165, fB.app), (166, dB.app k), (154, bI.app)], [], [], false, [73, 73], false⟩
theorem dw.fok (k : Nat) : FO 81 f81 (dF f81) (dw.E k) := fo fV func81 ⟨fB.ok, ⟨dB.ok k, ⟨bI.ok, trivial⟩⟩⟩
theorem dw.ok (k : Nat) : AO 81 (dw.app k) := eX stays mixed (dw.fok k) (dX rfl) fun l K r h => by
 dsimp only [dw.app] at h
 split at h
 ·rename_i a b
  exact fin (enc := dw.enc) h rfl fun y h => by
   exact via ((fB.f a b).bind fun c => if (decide (c.2 ≥ 0)) then (dB.f k ([c.1] : List Int) c.2).bind fun d => some (.tup [rA d, rA ([1] : List Int)]) else (bI.f ([c.1] : List Int)).bind fun e => (dB.f k ([1] : List Int) (wrap64 (-c.2))).bind fun f => some (.tup [rA e, rA f])) (by rw [dw.f] at h; exact Eq.trans (Eq.symm mt2) h)
 ·cases h
def bK.enc (r : Int) : AV := .v (.int .i64 r)
def bK.app (k : Nat) : List AV → (AV → Option AV) → Option AV := fun l K => match l with
 | [.ro false .u64 a, .ro false .u64 b] => (bK.f k a b).bind fun r => K (bK.enc r)
 | _ => none
def bK.p0 (k : Nat) : Pt := ⟨[.c [1, 1, 1, 1, 0, 0, 0, 0, 0], .c [1, 1, 1, 1, 0, 0, 0, 0, 1], .c [1, 1, 1, 1, 0, 0, 0, 1], .l [1, 1, 1, 1, 0, 0, 0], .b 0, .c [1, 1, 1, 1, 1]], [(0, some .u64, [false]), (1, some .u64, [false]), (9, none, [])], [], [], [], fun s => match s with
 | ⟨[(0, .ro false .u64 a), (1, .ro false .u64 b), (9, .v (.int .i64 c))], []⟩ => (bK.l0 k a b c).map bK.enc
 | _ => none⟩
def bK.E (k : Nat) : Env := ⟨37, tys, [(167, cO.app k), (68, ah.app k), (168, aU.app k), (69, bQ.app k)], [(6, bK.p0 k)], [], false, [3], false⟩
theorem bK.fok (k : Nat) : FO 82 f82 (dF f82) (bK.E k) := fo fV func82 ⟨cO.ok k, ⟨ah.ok k, ⟨aU.ok k, ⟨bQ.ok k, trivial⟩⟩⟩⟩
theorem bK.s0 : jM f82 bK.E bK.p0 := fun k s r h => by
 dsimp only [bK.p0] at h
 split at h
 ·rename_i a b c
  rcases k with _ | k
  ·cases h
  exact ⟨k, rfl, via ((aU.f k a b).bind fun d => if (decide (d < 0)) then (bQ.f k a ([10] : List Int)).bind fun e => (bK.l0 k e b (wrap64 (c - 1))).map bK.enc else some (iA c)) (by rw [bK.l0] at h; exact Eq.trans (Eq.symm mt2) h)⟩
 ·cases h
theorem bK.pts : ∀ k, jI prog (dF f82) (bK.E k) GOk (Fin prog f82) := je stays mixed bK.fok [(6, bK.p0)] ⟨bK.s0, trivial⟩
theorem bK.ok (k : Nat) : AO 82 (bK.app k) := eX stays mixed (bK.fok k) (bK.pts k) fun l K r h => by
 dsimp only [bK.app] at h
 split at h
 ·rename_i a b
  exact fin (enc := bK.enc) h rfl fun y h => by
   exact via ((cO.f k a b).bind fun c => if (decide ((c.1.length : Int) > 0)) then (ah.f k c.1).bind fun d => some (iA (wrap64 ((d.1.size : Int) - 1))) else (bK.l0 k a b 0).map bK.enc) (by rw [bK.f] at h; exact Eq.trans (Eq.symm mt2) h)
 ·cases h
def bn.enc (r : List Int × Int) : AV := .tup [.ro true .u64 r.1, .v (.int .i64 r.2)]
def bn.app (k : Nat) : List AV → (AV → Option AV) → Option AV := fun l K => match l with
 | [.ro false .u64 a, .ro false .u64 b, .v (.int .i64 c)] => (bn.f k a b c).bind fun r => K (bn.enc r)
 | _ => none
def bn.p0 (k : Nat) : Pt := ⟨[.c [1, 1, 0], .c [1, 1, 1]], [(0, some .u64, [false]), (1, some .u64, [false])], [], [], [], fun s => match s with
 | ⟨[(0, .ro false .u64 a), (1, .ro false .u64 b)], []⟩ => (bn.j0 k a b).map bn.enc
 | _ => none⟩
def bn.E (k : Nat) : Env := ⟨37, tys, [(70, dQ.app k), (69, bQ.app k), (167, cO.app k), (166, dB.app k), (168, aU.app k)], [(4, bn.p0 k)], [], false, [73, 3], false⟩
theorem bn.fok (k : Nat) : FO 83 f83 (dF f83) (bn.E k) := fo fV func83 ⟨dQ.ok k, ⟨bQ.ok k, ⟨cO.ok k, ⟨dB.ok k, ⟨aU.ok k, trivial⟩⟩⟩⟩⟩
theorem bn.s0 : jM f83 bn.E bn.p0 := fun k s r h => by
 dsimp only [bn.p0] at h
 split at h
 ·rename_i a b
  rcases k with _ | k
  ·cases h
  exact ⟨k, rfl, via ((cO.f k a b).bind fun c => if ((c.2.length : Int) == 0) then some (.tup [rA c.1, iA 0]) else (dB.f k c.2 1).bind fun d => (aU.f k d b).bind fun e => some (.tup [rA c.1, iA (wrap64 (2 + e))])) (by rw [bn.j0] at h; exact Eq.trans (Eq.symm mt2) h)⟩
 ·cases h
theorem bn.pts : ∀ k, jI prog (dF f83) (bn.E k) GOk (Fin prog f83) := je stays mixed bn.fok [(4, bn.p0)] ⟨bn.s0, trivial⟩
theorem bn.ok (k : Nat) : AO 83 (bn.app k) := eX stays mixed (bn.fok k) (bn.pts k) fun l K r h => by
 dsimp only [bn.app] at h
 split at h
 ·rename_i a b c
  exact fin (enc := bn.enc) h rfl fun y h => by
   exact via (if (decide (c ≥ 0)) then (dQ.f k c).bind fun d => (bQ.f k a d).bind fun e => (bn.j0 k e b).map bn.enc else (dQ.f k (wrap64 (-c))).bind fun f => (bQ.f k b f).bind fun g => (bn.j0 k a g).map bn.enc) (by rw [bn.f] at h; exact Eq.trans (Eq.symm mt2) h)
 ·cases h
def bU.enc (r : ByteArray) : AV := .v (.string r)
def bU.app : List AV → (AV → Option AV) → Option AV := fun l K => match l with
 | [.v (.int .i64 a), .v (.int .u64 b)] => (bU.f a b).bind fun r => K (bU.enc r)
 | _ => none
def bU.E : Env := ⟨9, tys, [(108, dJ.app)], [], [], false, [9], false⟩
theorem bU.fok : FO 86 f86 (dF f86) (bU.E) := fo fV func86 ⟨dJ.ok, trivial⟩
theorem bU.ok : AO 86 (bU.app) := eX stays mixed (bU.fok) (dX rfl) fun l K r h => by
 dsimp only [bU.app] at h
 split at h
 ·rename_i a b
  exact fin (enc := bU.enc) h rfl fun y h => by
   exact via ((dJ.f a b).bind fun c => if (c == 1) then some (sA (⟨#[45]⟩ : ByteArray)) else some (sA (⟨#[]⟩ : ByteArray))) (by rw [bU.f] at h; exact Eq.trans (Eq.symm mt2) h)
 ·cases h
def cZ.enc (r : ByteArray) : AV := .v (.string r)
def cZ.app (k : Nat) : List AV → (AV → Option AV) → Option AV := fun l K => match l with
 | [.v (.int .i64 a)] => (cZ.f k a).bind fun r => K (cZ.enc r)
 | _ => none
def cZ.E (k : Nat) : Env := ⟨19, tys, [(170, cZ.app k), (68, ah.app k)], [], [], false, [9], false⟩
theorem cZ.fok (k : Nat) (ih : AO 170 (cZ.app k)) : FO 170 f170 (dF f170) (cZ.E k) := fo fV func170 ⟨ih, ⟨ah.ok k, trivial⟩⟩
theorem cZ.ok : ∀ k, AO 170 (cZ.app k)
 | 0 => ⟨⟨f170, func170, by kernel_rfl, by kernel_rfl⟩, fun l args w O K r hG hO hl h => by
  dsimp only [cZ.app] at h
  split at h
  ·cases h
  ·cases h⟩
 | k + 1 => eX stays mixed (cZ.fok k (cZ.ok k)) (dX rfl) fun l K r h => by
  dsimp only [cZ.app] at h
  split at h
  ·rename_i a
   exact fin (enc := cZ.enc) h rfl fun y h => by
    exact via (if (decide (a < 0)) then (cZ.f k (wrap64 (-a))).bind fun b => if (⟨#[45]⟩ : ByteArray).size + b.size ≤ 9223372036854775807 then some (sA ((⟨#[45]⟩ : ByteArray) ++ b)) else none else (ah.f k ([IntKind.wrap .u64 (a)] : List Int)).bind fun c => some (sA c.1)) (by rw [cZ.f] at h; exact Eq.trans (Eq.symm mt2) h)
  ·cases h
def dH.enc (r : ByteArray) : AV := .v (.string r)
def dH.app (k : Nat) : List AV → (AV → Option AV) → Option AV := fun l K => match l with
 | [.v (.string a), .v (.int .i64 b)] => (dH.f k a b).bind fun r => K (dH.enc r)
 | _ => none
def dH.E (k : Nat) : Env := ⟨21, tys, [(170, cZ.app k)], [], [], false, [9], false⟩
theorem dH.fok (k : Nat) : FO 87 f87 (dF f87) (dH.E k) := fo fV func87 ⟨cZ.ok k, trivial⟩
theorem dH.ok (k : Nat) : AO 87 (dH.app k) := eX stays mixed (dH.fok k) (dX rfl) fun l K r h => by
 dsimp only [dH.app] at h
 split at h
 ·rename_i a b
  exact fin (enc := dH.enc) h rfl fun y h => by
   exact via (if (0 : Int) ≤ 1 then if 1 ≤ (a.size : Int) then if (decide ((a.size : Int) > 1)) then if (0 : Int) ≤ 1 then if 1 ≤ (a.size : Int) then if (⟨#[46]⟩ : ByteArray).size + (a.extract (1 : Int).toNat ((a.size : Int) : Int).toNat).size ≤ 9223372036854775807 then if (a.extract 0 (1 : Int).toNat).size + ((⟨#[46]⟩ : ByteArray) ++ (a.extract (1 : Int).toNat ((a.size : Int) : Int).toNat)).size ≤ 9223372036854775807 then if ((a.extract 0 (1 : Int).toNat) ++ ((⟨#[46]⟩ : ByteArray) ++ (a.extract (1 : Int).toNat ((a.size : Int) : Int).toNat))).size + (⟨#[101]⟩ : ByteArray).size ≤ 9223372036854775807 then (cZ.f k b).bind fun c => if (((a.extract 0 (1 : Int).toNat) ++ ((⟨#[46]⟩ : ByteArray) ++ (a.extract (1 : Int).toNat ((a.size : Int) : Int).toNat))) ++ (⟨#[101]⟩ : ByteArray)).size + c.size ≤ 9223372036854775807 then some (sA ((((a.extract 0 (1 : Int).toNat) ++ ((⟨#[46]⟩ : ByteArray) ++ (a.extract (1 : Int).toNat ((a.size : Int) : Int).toNat))) ++ (⟨#[101]⟩ : ByteArray)) ++ c)) else none else none else none else none else none else none else if (a.extract 0 (1 : Int).toNat).size + (⟨#[101]⟩ : ByteArray).size ≤ 9223372036854775807 then (cZ.f k b).bind fun d => if ((a.extract 0 (1 : Int).toNat) ++ (⟨#[101]⟩ : ByteArray)).size + d.size ≤ 9223372036854775807 then some (sA (((a.extract 0 (1 : Int).toNat) ++ (⟨#[101]⟩ : ByteArray)) ++ d)) else none else none else none else none) (by rw [dH.f] at h; exact Eq.trans (Eq.symm mt2) h)
 ·cases h
def aV.enc (r : ByteArray) : AV := .v (.string r)
def aV.app (k : Nat) : List AV → (AV → Option AV) → Option AV := fun l K => match l with
 | [.v (.int .i64 a)] => (aV.f k a).bind fun r => K (aV.enc r)
 | _ => none
def aV.p0 (k : Nat) : Pt := ⟨[.c [1, 1, 0, 0, 0, 0, 0], .c [1, 1, 0, 0, 0, 0, 1], .c [1, 1, 0, 0, 0, 1], .l [1, 1, 0, 0, 0], .b 0, .c [1, 1, 1]], [(0, none, []), (3, none, [])], [], [], [], fun s => match s with
 | ⟨[(0, .v (.int .i64 a)), (3, .v (.string b))], []⟩ => (aV.l0 k a b).map aV.enc
 | _ => none⟩
def aV.E (k : Nat) : Env := ⟨11, tys, [], [(2, aV.p0 k)], [], false, [9], false⟩
theorem aV.fok (k : Nat) : FO 106 f106 (dF f106) (aV.E k) := fo fV func106 trivial
theorem aV.s0 : jM f106 aV.E aV.p0 := fun k s r h => by
 dsimp only [aV.p0] at h
 split at h
 ·rename_i a b
  rcases k with _ | k
  ·cases h
  exact ⟨k, rfl, via (if (decide ((b.size : Int) < a)) then if b.size + (⟨#[48]⟩ : ByteArray).size ≤ 9223372036854775807 then (aV.l0 k a (b ++ (⟨#[48]⟩ : ByteArray))).map aV.enc else none else some (sA b)) (by rw [aV.l0] at h; exact Eq.trans (Eq.symm mt2) h)⟩
 ·cases h
theorem aV.pts : ∀ k, jI prog (dF f106) (aV.E k) GOk (Fin prog f106) := je stays mixed aV.fok [(2, aV.p0)] ⟨aV.s0, trivial⟩
theorem aV.ok (k : Nat) : AO 106 (aV.app k) := eX stays mixed (aV.fok k) (aV.pts k) fun l K r h => by
 dsimp only [aV.app] at h
 split at h
 ·rename_i a
  exact fin (enc := aV.enc) h rfl fun y h => by
   exact via ((aV.l0 k a (⟨#[]⟩ : ByteArray)).map aV.enc) (by rw [aV.f] at h; exact Eq.trans (Eq.symm mt2) h)
 ·cases h
def gJ.enc (r : List Int) : AV := .ro false .u64 r
def gJ.app (k : Nat) : List AV → (AV → Option AV) → Option AV := fun l K => match l with
 | [.v (.int .i64 a), .v (.bool b), .ro false .u64 c, .v (.int .i64 d)] => (gJ.f k a b c d).bind fun r => K (gJ.enc r)
 | _ => none
def gJ.p0 (k : Nat) : Pt := ⟨[.c [1, 1, 0], .c [1, 1, 1]], [(0, none, []), (1, none, []), (2, some .u64, [false]), (3, none, []), (9, none, [])], [], [], [], fun s => match s with
 | ⟨[(0, .v (.int .i64 a)), (1, .v (.bool b)), (2, .ro false .u64 c), (3, .v (.int .i64 d)), (9, .v (.bool e))], []⟩ => (gJ.j0 k a b c d e).map gJ.enc
 | _ => none⟩
def gJ.E (k : Nat) : Env := ⟨57, tys, [(84, ak.app k)], [(2, gJ.p0 k)], [], true, [73], false⟩
def gK.enc (r : ByteArray × Bool × Int) : AV := .tup [.v (.string r.1), .v (.bool r.2.1), .v (.int .i64 r.2.2)]
def gK.app (k : Nat) : List AV → (AV → Option AV) → Option AV := fun l K => match l with
 | [.v (.int .i64 a), .v (.int .i64 b), .v (.int .u64 c), .v (.int .i64 d)] => (gK.f k a b c d).bind fun r => K (gK.enc r)
 | _ => none
def gK.p0 (k : Nat) : Pt := ⟨[.c [1, 1, 1, 0, 1], .c [1, 1, 1, 1]], [(0, none, []), (1, none, []), (2, none, []), (3, none, []), (33, none, [])], [], [], [], fun s => match s with
 | ⟨[(0, .v (.int .i64 a)), (1, .v (.int .i64 b)), (2, .v (.int .u64 c)), (3, .v (.int .i64 d)), (33, .v (.bool e))], []⟩ => (gK.j0 k a b c d e).map gK.enc
 | _ => none⟩
def gK.E (k : Nat) : Env := ⟨99, tys, [(62, dR.app k), (105, eu.app), (86, bU.app), (106, aV.app k), (87, dH.app k), (80, aT.app k), (81, dw.app k), (82, bK.app k), (83, bn.app k), (108, dJ.app), (107, gJ.app k), (68, ah.app k)], [(100033, gK.p0 k)], [], false, [9, 4, 3], false⟩
def jL.enc (r : Bool) : AV := .v (.bool r)
def jL.app (k : Nat) : List AV → (AV → Option AV) → Option AV := fun l K => match l with
 | [.agg [.v (.int .i64 a), .v (.int .i64 b), .v (.int .u64 c), .v (.int .i64 d)]] => (jL.f k a b c d).bind fun r => K (jL.enc r)
 | _ => none
def jL.E (k : Nat) : Env := ⟨51, tys, [(26, gB.app k), (27, gK.app k), (16, dS.app k)], [], [], false, [4], false⟩
def eG.enc (r : Bool) : AV := .v (.bool r)
def eG.app (k : Nat) : List AV → (AV → Option AV) → Option AV := fun l K => match l with
 | [.v (.int .i64 a), .v (.int .u64 b), .ro false .u64 c, .v (.int .i64 d)] => (eG.f k a b c d).bind fun r => K (eG.enc r)
 | _ => none
def eG.E (k : Nat) : Env := ⟨39, tys, [(108, dJ.app), (70, dQ.app k), (69, bQ.app k), (71, aI.app k)], [], [], false, [4], false⟩
theorem eG.fok (k : Nat) : FO 85 f85 (dF f85) (eG.E k) := fo fV func85 ⟨dJ.ok, ⟨dQ.ok k, ⟨bQ.ok k, ⟨aI.ok k, trivial⟩⟩⟩⟩
theorem eG.ok (k : Nat) : AO 85 (eG.app k) := eX stays mixed (eG.fok k) (dX rfl) fun l K r h => by
 dsimp only [eG.app] at h
 split at h
 ·rename_i a b c d
  exact fin (enc := eG.enc) h rfl fun y h => by
   exact via ((dJ.f a b).bind fun e => if (decide (d ≥ 0)) then (dQ.f k d).bind fun f => (bQ.f k c f).bind fun g => (aI.f k a 0 (e == 1) g ([1] : List Int) 0).bind fun i => some (bA (i.1 == b)) else (dQ.f k (wrap64 (-d))).bind fun j => (aI.f k a 0 (e == 1) c j 0).bind fun m => some (bA (m.1 == b))) (by rw [eG.f] at h; exact Eq.trans (Eq.symm mt2) h)
 ·cases h
def bZ.enc (r : ByteArray) : AV := .v (.string r)
def bZ.app (k : Nat) : List AV → (AV → Option AV) → Option AV := fun l K => match l with
 | [.v (.string a), .v (.int .i64 b)] => (bZ.f k a b).bind fun r => K (bZ.enc r)
 | _ => none
def bZ.E (k : Nat) : Env := ⟨37, tys, [(106, aV.app k)], [], [(5, [0, 1, 2, 3, 4, 5, 6, 7, 8, 9, 10])], false, [9], false⟩
theorem bZ.fok (k : Nat) : FO 88 f88 (dF f88) (bZ.E k) := fo fV func88 ⟨aV.ok k, trivial⟩
theorem bZ.ok (k : Nat) : AO 88 (bZ.app k) := eX stays mixed (bZ.fok k) (dX rfl) fun l K r h => by
 dsimp only [bZ.app] at h
 split at h
 ·rename_i a b
  exact fin (enc := bZ.enc) h rfl fun y h => by
   exact via (if (decide (b < 0)) then (aV.f k (wrap64 ((wrap64 (-b)) - 1))).bind fun c => if (⟨#[48, 46]⟩ : ByteArray).size + c.size ≤ 9223372036854775807 then if ((⟨#[48, 46]⟩ : ByteArray) ++ c).size + a.size ≤ 9223372036854775807 then some (sA (((⟨#[48, 46]⟩ : ByteArray) ++ c) ++ a)) else none else none else if (decide ((a.size : Int) ≤ (wrap64 (b + 1)))) then (aV.f k (wrap64 ((wrap64 (b + 1)) - (a.size : Int)))).bind fun d => if a.size + d.size ≤ 9223372036854775807 then some (sA (a ++ d)) else none else if 0 ≤ wrap64 (b + 1) then if wrap64 (b + 1) ≤ (a.size : Int) then if (a.extract 0 (wrap64 (b + 1) : Int).toNat).size + (⟨#[46]⟩ : ByteArray).size ≤ 9223372036854775807 then if 0 ≤ wrap64 (b + 1) then if wrap64 (b + 1) ≤ (a.size : Int) then if ((a.extract 0 (wrap64 (b + 1) : Int).toNat) ++ (⟨#[46]⟩ : ByteArray)).size + (a.extract (wrap64 (b + 1) : Int).toNat ((a.size : Int) : Int).toNat).size ≤ 9223372036854775807 then some (sA (((a.extract 0 (wrap64 (b + 1) : Int).toNat) ++ (⟨#[46]⟩ : ByteArray)) ++ (a.extract (wrap64 (b + 1) : Int).toNat ((a.size : Int) : Int).toNat))) else none else none else none else none else none else none) (by rw [bZ.f] at h; exact Eq.trans (Eq.symm mt2) h)
 ·cases h
def dY.enc (r : ByteArray × Int) : AV := .tup [.v (.string r.1), .v (.int .i64 r.2)]
def dY.app (k : Nat) : List AV → (AV → Option AV) → Option AV := fun l K => match l with
 | [.v (.int .i64 a), .v (.int .u64 b)] => (dY.f k a b).bind fun r => K (dY.enc r)
 | _ => none
def dY.p0 (k : Nat) : Pt := ⟨[.c [1, 1, 1, 1, 1, 1, 1, 1, 1, 0], .c [1, 1, 1, 1, 1, 1, 1, 1, 1, 1]], [(17, none, [])], [(7, [])], [], [], fun s => match s with
 | ⟨[(17, .v (.string a)), (7, .ptr 7 0)], [(7, .cells [.v (.bool b), .v (.int .u64 c), .v (.int .i64 d), .v (.int .u64 e)])]⟩ => (dY.j0 k a b c d e).map dY.enc
 | _ => none⟩
def dY.E (k : Nat) : Env := ⟨114, tys, [(72, b_.app), (74, bD.app k), (89, ig.app), (90, dG.app), (76, dI.app), (91, gX.app), (61, iP.app), (92, strings_Repeat.app), (93, fZ.app)], [(17, dY.p0 k)], [(18, [0, 1, 2, 3, 4, 5, 6, 7, 8])], false, [9, 24], false⟩
theorem dY.fok (k : Nat) : FO 22 f22 (dF f22) (dY.E k) := fo fV func22 ⟨b_.ok, ⟨bD.ok k, ⟨ig.ok, ⟨dG.ok, ⟨dI.ok, ⟨gX.ok, ⟨iP.ok, ⟨strings_Repeat.ok, ⟨fZ.ok, trivial⟩⟩⟩⟩⟩⟩⟩⟩⟩
theorem dY.s0 : jM f22 dY.E dY.p0 := fun k s r h => by
 dsimp only [dY.p0] at h
 split at h
 ·rename_i a b c d e
  rcases k with _ | k
  ·cases h
  exact ⟨k, rfl, via (if 0 ≤ wrap64 ((a.size : Int) + d) then if wrap64 ((a.size : Int) + d) ≤ (a.size : Int) then if 0 ≤ wrap64 ((a.size : Int) + d) then if wrap64 ((a.size : Int) + d) ≤ (a.size : Int) then (fZ.f (a.extract (wrap64 ((a.size : Int) + d) : Int).toNat ((a.size : Int) : Int).toNat) (⟨#[48]⟩ : ByteArray)).bind fun f => if (f.toList != (⟨#[]⟩ : ByteArray).toList) then if (⟨#[46]⟩ : ByteArray).size + f.size ≤ 9223372036854775807 then if (a.extract 0 (wrap64 ((a.size : Int) + d) : Int).toNat).size + ((⟨#[46]⟩ : ByteArray) ++ f).size ≤ 9223372036854775807 then (dI.f b c d e).bind fun g => if g.size + ((a.extract 0 (wrap64 ((a.size : Int) + d) : Int).toNat) ++ ((⟨#[46]⟩ : ByteArray) ++ f)).size ≤ 9223372036854775807 then some (.tup [sA (g ++ ((a.extract 0 (wrap64 ((a.size : Int) + d) : Int).toNat) ++ ((⟨#[46]⟩ : ByteArray) ++ f))), iA 0]) else none else none else none else (dI.f b c d e).bind fun i => if i.size + (a.extract 0 (wrap64 ((a.size : Int) + d) : Int).toNat).size ≤ 9223372036854775807 then some (.tup [sA (i ++ (a.extract 0 (wrap64 ((a.size : Int) + d) : Int).toNat)), iA 0]) else none else none else none else none else none) (by rw [dY.j0] at h; exact Eq.trans (Eq.symm mt2) h)⟩
 ·cases h
theorem dY.pts : ∀ k, jI prog (dF f22) (dY.E k) GOk (Fin prog f22) := je stays mixed dY.fok [(17, dY.p0)] ⟨dY.s0, trivial⟩
theorem dY.ok (k : Nat) : AO 22 (dY.app k) := eX stays mixed (dY.fok k) (dY.pts k) fun l K r h => by
 dsimp only [dY.app] at h
 split at h
 ·rename_i a b
  exact fin (enc := dY.enc) h rfl fun y h => by
   exact via ((b_.f a b).bind fun c => if (c != 0) then some (.tup [sA (⟨#[]⟩ : ByteArray), iA c]) else (bD.f k a b).bind fun d => if (d.2.2.2.2.toList != (⟨#[]⟩ : ByteArray).toList) then some (.tup [sA d.2.2.2.2, iA 0]) else if (decide (d.2.2.1 ≥ 0)) then (ig.f ([d.2.1] : List Int) d.2.2.1).bind fun e => (dG.f e.1).bind fun f => (dI.f d.1 d.2.1 d.2.2.1 d.2.2.2.1).bind fun g => if g.size + f.1.size ≤ 9223372036854775807 then some (.tup [sA (g ++ f.1), iA 0]) else none else (gX.f 5 (wrap64 (-d.2.2.1))).bind fun i => (iP.f ([d.2.1] : List Int) i.1).bind fun j => (dG.f j.1).bind fun m => if (decide ((wrap64 ((wrap64 ((wrap64 (-d.2.2.1)) - (m.1.size : Int))) + 1)) > 0)) then (strings_Repeat.f (⟨#[48]⟩ : ByteArray) (wrap64 ((wrap64 ((wrap64 (-d.2.2.1)) - (m.1.size : Int))) + 1))).bind fun n => if n.size + m.1.size ≤ 9223372036854775807 then (dY.j0 k (n ++ m.1) d.1 d.2.1 d.2.2.1 d.2.2.2.1).map dY.enc else none else (dY.j0 k m.1 d.1 d.2.1 d.2.2.1 d.2.2.2.1).map dY.enc) (by rw [dY.f] at h; exact Eq.trans (Eq.symm mt2) h)
 ·cases h
def bf.enc (r : ByteArray × Int) : AV := .tup [.v (.string r.1), .v (.int .i64 r.2)]
def bf.app (k : Nat) : List AV → (AV → Option AV) → Option AV := fun l K => match l with
 | [.v (.int .i64 a), .v (.int .u64 b)] => (bf.f k a b).bind fun r => K (bf.enc r)
 | _ => none
def bf.p0 (k : Nat) : Pt := ⟨[.c [1, 1, 1, 1, 1, 1, 1, 1, 0, 0, 0, 0, 0], .c [1, 1, 1, 1, 1, 1, 1, 1, 0, 0, 0, 0, 1], .c [1, 1, 1, 1, 1, 1, 1, 1, 0, 0, 0, 1], .l [1, 1, 1, 1, 1, 1, 1, 1, 0, 0, 0], .b 0, .c [1, 1, 1, 1, 1, 1, 1, 1, 1]], [(0, none, []), (1, none, []), (10, none, []), (13, none, [])], [], [], [], fun s => match s with
 | ⟨[(0, .v (.int .i64 a)), (1, .v (.int .u64 b)), (10, .v (.int .i64 c)), (13, .v (.string d))], []⟩ => (bf.l0 k a b c d).map bf.enc
 | _ => none⟩
def bf.E (k : Nat) : Env := ⟨81, tys, [(79, dL.app), (80, aT.app k), (81, dw.app k), (94, aN.app k), (95, au.app k), (69, bQ.app k), (68, ah.app k), (86, bU.app), (88, bZ.app k)], [(11, bf.p0 k)], [], false, [9, 3], false⟩
theorem bf.fok (k : Nat) : FO 23 f23 (dF f23) (bf.E k) := fo fV func23 ⟨dL.ok, ⟨aT.ok k, ⟨dw.ok k, ⟨aN.ok k, ⟨au.ok k, ⟨bQ.ok k, ⟨ah.ok k, ⟨bU.ok, ⟨bZ.ok k, trivial⟩⟩⟩⟩⟩⟩⟩⟩⟩
theorem bf.s0 : jM f23 bf.E bf.p0 := fun k s r h => by
 dsimp only [bf.p0] at h
 split at h
 ·rename_i a b c d
  rcases k with _ | k
  ·cases h
  exact ⟨k, rfl, via (if (decide (c > 0)) then if 0 ≤ wrap64 ((d.size : Int) - 1) then if wrap64 ((d.size : Int) - 1) < (d.size : Int) then if ((bt d (wrap64 ((d.size : Int) - 1))) == 48) then if (decide ((d.size : Int) > 1)) then if 0 ≤ wrap64 ((d.size : Int) - 1) then if wrap64 ((d.size : Int) - 1) ≤ (d.size : Int) then (bf.l0 k a b (wrap64 (c - 1)) (d.extract 0 (wrap64 ((d.size : Int) - 1) : Int).toNat)).map bf.enc else none else none else (bU.f a b).bind fun e => (bZ.f k d (wrap64 ((wrap64 ((d.size : Int) - 1)) - c))).bind fun f => if e.size + f.size ≤ 9223372036854775807 then some (.tup [sA (e ++ f), iA 0]) else none else (bU.f a b).bind fun g => (bZ.f k d (wrap64 ((wrap64 ((d.size : Int) - 1)) - c))).bind fun i => if g.size + i.size ≤ 9223372036854775807 then some (.tup [sA (g ++ i), iA 0]) else none else none else none else (bU.f a b).bind fun j => (bZ.f k d (wrap64 ((wrap64 ((d.size : Int) - 1)) - c))).bind fun m => if j.size + m.size ≤ 9223372036854775807 then some (.tup [sA (j ++ m), iA 0]) else none) (by rw [bf.l0] at h; exact Eq.trans (Eq.symm mt2) h)⟩
 ·cases h
theorem bf.pts : ∀ k, jI prog (dF f23) (bf.E k) GOk (Fin prog f23) := je stays mixed bf.fok [(11, bf.p0)] ⟨bf.s0, trivial⟩
theorem bf.ok (k : Nat) : AO 23 (bf.app k) := eX stays mixed (bf.fok k) (bf.pts k) fun l K r h => by
 dsimp only [bf.app] at h
 split at h
 ·rename_i a b
  exact fin (enc := bf.enc) h rfl fun y h => by
   exact via ((dL.f a b).bind fun c => if (c != 0) then some (.tup [sA (⟨#[]⟩ : ByteArray), iA c]) else (aT.f k a b).bind fun d => if (d.toList != (⟨#[]⟩ : ByteArray).toList) then some (.tup [sA d, iA 0]) else (dw.f k a b).bind fun e => (aN.f k e.2).bind fun f => (au.f k 5 (wrap64 (f - 1))).bind fun g => (bQ.f k e.1 g.1).bind fun i => (ah.f k i).bind fun j => (bf.l0 k a b (wrap64 (f - 1)) j.1).map bf.enc) (by rw [bf.f] at h; exact Eq.trans (Eq.symm mt2) h)
 ·cases h
def aj.enc (r : ByteArray × Int) : AV := .tup [.v (.string r.1), .v (.int .i64 r.2)]
def aj.app (k : Nat) : List AV → (AV → Option AV) → Option AV := fun l K => match l with
 | [.v (.int .i64 a), .v (.int .u64 b)] => (aj.f k a b).bind fun r => K (aj.enc r)
 | _ => none
def aj.p0 (k : Nat) : Pt := ⟨[.c [1, 1, 1, 1, 1, 1, 1, 0, 0, 0, 0, 0], .c [1, 1, 1, 1, 1, 1, 1, 0, 0, 0, 0, 1], .b 1, .c [1, 1, 1, 1, 1, 1, 1, 0, 0, 1], .l [1, 1, 1, 1, 1, 1, 1, 0, 0], .b 0], [(0, none, []), (1, none, []), (8, some .u64, []), (9, some .u64, []), (10, none, []), (11, none, [])], [], [], [], fun s => match s with
 | ⟨[(0, .v (.int .i64 a)), (1, .v (.int .u64 b)), (8, .ro true .u64 c), (9, .ro true .u64 d), (10, .v (.int .i64 e)), (11, .v (.int .i64 f))], []⟩ => (aj.l11 k a b c d e f).map aj.enc
 | _ => none⟩
def aj.p1 (k : Nat) : Pt := ⟨[.c [1, 1, 1, 1, 1, 1, 1, 0, 0, 0, 0, 1, 1, 1, 1, 0, 0], .c [1, 1, 1, 1, 1, 1, 1, 0, 0, 0, 0, 1, 1, 1, 1, 0, 1], .c [1, 1, 1, 1, 1, 1, 1, 0, 0, 0, 0, 1, 1, 1, 1, 1], .b 1, .c [1, 1, 1, 1, 1, 1, 1, 0, 0, 1], .l [1, 1, 1, 1, 1, 1, 1, 0, 0], .b 0], [(0, none, []), (1, none, []), (10, none, []), (11, none, []), (12, some .u64, []), (13, none, []), (14, some .u64, []), (15, none, []), (16, none, [])], [], [], [], fun s => match s with
 | ⟨[(0, .v (.int .i64 a)), (1, .v (.int .u64 b)), (10, .v (.int .i64 c)), (11, .v (.int .i64 d)), (12, .ro true .u64 e), (13, .v (.int .i64 f)), (14, .ro true .u64 g), (15, .v (.bool i)), (16, .v (.bool j))], []⟩ => (aj.j15 k a b c d e f g i j).map aj.enc
 | _ => none⟩
def aj.p2 (k : Nat) : Pt := ⟨[.c [1, 1, 1, 1, 1, 1, 1, 0, 0, 0, 0, 1, 1, 1, 1, 1, 0], .c [1, 1, 1, 1, 1, 1, 1, 0, 0, 0, 0, 1, 1, 1, 1, 1, 1], .b 1, .c [1, 1, 1, 1, 1, 1, 1, 0, 0, 1], .l [1, 1, 1, 1, 1, 1, 1, 0, 0], .b 0], [(0, none, []), (1, none, []), (10, none, []), (11, none, []), (12, some .u64, [])], [], [], [], fun s => match s with
 | ⟨[(0, .v (.int .i64 a)), (1, .v (.int .u64 b)), (10, .v (.int .i64 c)), (11, .v (.int .i64 d)), (12, .ro true .u64 e)], []⟩ => (aj.j17 k a b c d e).map aj.enc
 | _ => none⟩
def aj.p3 (k : Nat) : Pt := ⟨[.c [1, 1, 1, 1, 1, 1, 1, 0, 0, 0, 0, 1, 1, 1, 1, 1, 1, 1, 0, 0, 0, 0, 0], .c [1, 1, 1, 1, 1, 1, 1, 0, 0, 0, 0, 1, 1, 1, 1, 1, 1, 1, 0, 0, 0, 0, 1], .c [1, 1, 1, 1, 1, 1, 1, 0, 0, 0, 0, 1, 1, 1, 1, 1, 1, 1, 0, 0, 0, 1], .l [1, 1, 1, 1, 1, 1, 1, 0, 0, 0, 0, 1, 1, 1, 1, 1, 1, 1, 0, 0, 0], .b 2, .c [1, 1, 1, 1, 1, 1, 1, 0, 0, 0, 0, 1, 1, 1, 1, 1, 1, 1, 1], .b 1, .c [1, 1, 1, 1, 1, 1, 1, 0, 0, 1], .l [1, 1, 1, 1, 1, 1, 1, 0, 0], .b 0], [(0, none, []), (1, none, []), (17, none, []), (19, none, [])], [], [], [], fun s => match s with
 | ⟨[(0, .v (.int .i64 a)), (1, .v (.int .u64 b)), (17, .v (.string c)), (19, .v (.int .i64 d))], []⟩ => (aj.l19 k a b c d).map aj.enc
 | _ => none⟩
def aj.E (k : Nat) : Env := ⟨141, tys, [(79, dL.app), (80, aT.app k), (81, dw.app k), (82, bK.app k), (83, bn.app k), (84, ak.app k), (85, eG.app k), (68, ah.app k), (86, bU.app), (87, dH.app k), (88, bZ.app k)], [(11, aj.p0 k), (15, aj.p1 k), (17, aj.p2 k), (19, aj.p3 k)], [], false, [9, 3], false⟩
theorem aj.fok (k : Nat) : FO 21 f21 (dF f21) (aj.E k) := fo fV func21 ⟨dL.ok, ⟨aT.ok k, ⟨dw.ok k, ⟨bK.ok k, ⟨bn.ok k, ⟨ak.ok k, ⟨eG.ok k, ⟨ah.ok k, ⟨bU.ok, ⟨dH.ok k, ⟨bZ.ok k, trivial⟩⟩⟩⟩⟩⟩⟩⟩⟩⟩⟩
theorem aj.s0 : jM f21 aj.E aj.p0 := fun k s r h => by
 dsimp only [aj.p0] at h
 split at h
 ·rename_i a b c d e f
  rcases k with _ | k
  ·cases h
  rw [aj.l11] at h
  exact ⟨k, rfl, via ((bn.f k c d (wrap64 ((wrap64 (f - 1)) - e))).bind fun g => (ak.f k g.1 ([1] : List Int)).bind fun i => (eG.f k a b g.1 (wrap64 ((wrap64 (e - f)) + 1))).bind fun j => (eG.f k a b i (wrap64 ((wrap64 (e - f)) + 1))).bind fun m => if (!j) then if (!m) then (aj.l11 k a b c d e (wrap64 (f + 1))).map aj.enc else (aj.j15 k a b e f g.1 g.2 i j m).map aj.enc else (aj.j15 k a b e f g.1 g.2 i j m).map aj.enc) (Eq.trans (Eq.symm mtt) h)⟩
 ·cases h
theorem aj.s1 : jM f21 aj.E aj.p1 := fun k s r h => by
 dsimp only [aj.p1] at h
 split at h
 ·rename_i a b c d e f g i j
  rcases k with _ | k
  ·cases h
  rw [aj.j15] at h
  exact ⟨k, rfl, via (if (!i) = false then if j then if (f == 3) = false then if (f == 2) then if (0 : Int) ≤ 0 then if 0 < (e.length : Int) then if (2 : Int) = 0 then none else if ((Int.tmod (rd e 0) 2) == 1) then (aj.j17 k a b c d g).map aj.enc else (aj.j17 k a b c d e).map aj.enc else none else none else (aj.j17 k a b c d e).map aj.enc else (aj.j17 k a b c d g).map aj.enc else (aj.j17 k a b c d e).map aj.enc else (aj.j17 k a b c d g).map aj.enc) (Eq.trans (Eq.symm mtt) h)⟩
 ·cases h
theorem aj.s2 : jM f21 aj.E aj.p2 := fun k s r h => by
 dsimp only [aj.p2] at h
 split at h
 ·rename_i a b c d e
  rcases k with _ | k
  ·cases h
  rw [aj.j17] at h
  exact ⟨k, rfl, via ((ah.f k e).bind fun f => (aj.l19 k a b f.1 (wrap64 ((wrap64 (c - d)) + (f.1.size : Int)))).map aj.enc) (Eq.trans (Eq.symm mtt) h)⟩
 ·cases h
theorem aj.s3 : jM f21 aj.E aj.p3 := fun k s r h => by
 dsimp only [aj.p3] at h
 split at h
 ·rename_i a b c d
  rcases k with _ | k
  ·cases h
  rw [aj.l19] at h
  exact ⟨k, rfl, via (if 0 ≤ wrap64 ((c.size : Int) - 1) then if wrap64 ((c.size : Int) - 1) < (c.size : Int) then if ((bt c (wrap64 ((c.size : Int) - 1))) == 48) then if 0 ≤ wrap64 ((c.size : Int) - 1) then if wrap64 ((c.size : Int) - 1) ≤ (c.size : Int) then (aj.l19 k a b (c.extract 0 (wrap64 ((c.size : Int) - 1) : Int).toNat) d).map aj.enc else none else none else if (decide (d < (-5))) = false then if (decide (d > 15)) then (bU.f a b).bind fun e => (dH.f k c d).bind fun f => if e.size + f.size ≤ 9223372036854775807 then some (.tup [sA (e ++ f), iA 0]) else none else (bU.f a b).bind fun g => (bZ.f k c d).bind fun i => if g.size + i.size ≤ 9223372036854775807 then some (.tup [sA (g ++ i), iA 0]) else none else (bU.f a b).bind fun j => (dH.f k c d).bind fun m => if j.size + m.size ≤ 9223372036854775807 then some (.tup [sA (j ++ m), iA 0]) else none else none else none) (Eq.trans (Eq.symm mtt) h)⟩
 ·cases h
theorem aj.pts : ∀ k, jI prog (dF f21) (aj.E k) GOk (Fin prog f21) := je stays mixed aj.fok [(11, aj.p0), (15, aj.p1), (17, aj.p2), (19, aj.p3)] ⟨aj.s0, aj.s1, aj.s2, aj.s3, trivial⟩
theorem aj.ok (k : Nat) : AO 21 (aj.app k) := eX stays mixed (aj.fok k) (aj.pts k) fun l K r h => by
 dsimp only [aj.app] at h
 split at h
 ·rename_i a b
  exact fin (enc := aj.enc) h rfl fun y h => by
   exact via ((dL.f a b).bind fun c => if (c != 0) then some (.tup [sA (⟨#[]⟩ : ByteArray), iA c]) else (aT.f k a b).bind fun d => if (d.toList != (⟨#[]⟩ : ByteArray).toList) then some (.tup [sA d, iA 0]) else (dw.f k a b).bind fun e => (bK.f k e.1 e.2).bind fun f => (aj.l11 k a b e.1 e.2 f 1).map aj.enc) (by rw [aj.f] at h; exact Eq.trans (Eq.symm mtt) h)
 ·cases h
def dO.enc (r : Bool) : AV := .v (.bool r)
def dO.app (k : Nat) : List AV → (AV → Option AV) → Option AV := fun l K => match l with
 | [.v (.int .i64 a), .v (.int .u64 b)] => (dO.f k a b).bind fun r => K (dO.enc r)
 | _ => none
def dO.E (k : Nat) : Env := ⟨53, tys, [(20, bW.app k), (21, aj.app k), (16, dS.app k), (22, dY.app k), (23, bf.app k)], [], [], false, [4], false⟩
theorem dO.fok (k : Nat) : FO 6 f6 (dF f6) (dO.E k) := fo fV func6 ⟨bW.ok k, ⟨aj.ok k, ⟨dS.ok k, ⟨dY.ok k, ⟨bf.ok k, trivial⟩⟩⟩⟩⟩
theorem dO.ok (k : Nat) : AO 6 (dO.app k) := eX stays mixed (dO.fok k) (dX rfl) fun l K r h => by
 dsimp only [dO.app] at h
 split at h
 ·rename_i a b
  exact fin (enc := dO.enc) h rfl fun y h => by
   exact via ((bW.f k a b).bind fun c => (aj.f k a b).bind fun d => (dS.f k).bind fun e => if (!e) = false then if (c.1.toList != d.1.toList) = false then if (c.2 != d.2) then some (bA false) else (dY.f k a b).bind fun f => (bf.f k a b).bind fun g => if (f.1.toList == g.1.toList) then some (bA (f.2 == g.2)) else some (bA false) else some (bA false) else some (bA false)) (by rw [dO.f] at h; exact Eq.trans (Eq.symm mtt) h)
 ·cases h
end Go.Proofs.YtafikkmnkeddpaaGreatDoor.P
namespace Go.Proofs.YtafikkmnkeddpaaGreatDoor
open Go.Lib Go.ChangeShapes Go.WideShapes Go.ChangeAt Go.RowKit
theorem caseRanges_eq : Go.Pinned.caseRanges = Lib.caseData := by kernel_rfl
theorem utf8First_eq : Go.Pinned.utf8First = Lib.firstData := by kernel_rfl
theorem Bc {w : World} (h : Lib.VarReads Tryz.prog w "vernier/format.rows" Rows.laid_vernier_format_rows) : jJ w := by
 obtain ⟨g, t, cs, fuel, p, hg, hty, hvar, hd⟩ := h
 obtain rfl := Option.some.inj ((show Tryz.prog.globalNamed "vernier/format.rows" = some 2 by kernel_rfl).symm.trans hg)
 obtain rfl := Option.some.inj ((show (Tryz.prog.globals[2]?).map (·.type) = some 181 by kernel_rfl).symm.trans hty)
 have hc : Tryz.prog.cellsOf 88 = 4 := by kernel_rfl
 have c1 : Tryz.prog.cellsOf 3 = 1 := by kernel_rfl
 have row : ∀ i, i < 4 → ∀ j, j < 4 → w.cell? ⟨2, 4 * i + j, none⟩ = some (.int .i64 (uF.getD (4 * i + j) 0)) := fun i hi j hj => by
  obtain ⟨fuel', d, q, hdi, he⟩ := Lib.array_elem Tryz.underlying181 hd i hi
  rw [hc] at he
  have hdd : d = .agg (([uF.getD (4 * i) 0, uF.getD (4 * i + 1) 0, uF.getD (4 * i + 2) 0, uF.getD (4 * i + 3) 0] : List Int).map fun z => .lit (.int .i64 z)) := by
   rcases (show i = 0 ∨ i = 1 ∨ i = 2 ∨ i = 3 by omega) with rfl | rfl | rfl | rfl <;> exact (Option.some.inj hdi).symm
  rw [hdd] at he
  have hcs := Lib.ints_of_struct Tryz.underlying88 (k := .i64) (fun j f hj => by
   match j, hj with
   | 0, hj => simp at hj; subst hj; exact ⟨Tryz.underlying3, rfl, c1⟩
   | 1, hj => simp at hj; subst hj; exact ⟨Tryz.underlying3, rfl, c1⟩
   | 2, hj => simp at hj; subst hj; exact ⟨Tryz.underlying3, rfl, c1⟩
   | 3, hj => simp at hj; subst hj; exact ⟨Tryz.underlying3, rfl, c1⟩
   | j + 4, hj => simp at hj) (by rw [hc]; rfl) he
  have e := congrArg (·[j]?) hcs
  simp only [List.getElem?_take, List.getElem?_drop] at e
  rw [World.var?_cell hg hvar (4 * i + j), ← Array.getElem?_toList]
  rw [if_pos hj, Nat.mul_comm i 4] at e
  rw [e]
  rcases (show j = 0 ∨ j = 1 ∨ j = 2 ∨ j = 3 by omega) with rfl | rfl | rfl | rfl <;> rfl
 refine ⟨block_lt_of_cell (row 0 (by decide) 0 (by decide)), fun j hj => ?_⟩
 have := row (j / 4) (by omega) (j % 4) (by omega)
 rwa [show 4 * (j / 4) + j % 4 = j by omega] at this
set_option maxRecDepth 100000 in
theorem Oi {W : World} (h : laidMetH Tryz.prog Rows.deciParsesRow.laid W) : Tabs W := by
 rw [MakeChecks.laidMetH_plain _ _ _ (by kernel_rfl)] at h
 have h1 := Go.laidMet.tail h
 have h2 := Go.laidMet.tail h1
 have t1 : Lib.TabIs Tryz.prog W "math/bits.deBruijn64tab" .u8 (Lib.deBruijn64tab.map fun (z : Nat) => (z : Int)) :=
  Lib.tabIs_of_head (g := 3) (t := 261) (e := 5) (n := 64) (by kernel_rfl) (by kernel_rfl) (by kernel_rfl) (by kernel_rfl) (by kernel_rfl) (by kernel_rfl) h1
 have t2 : Lib.TabIs Tryz.prog W "internal/strconv.uint64pow10" .u64 Lib.pow10Tab :=
  Lib.tabIs_of_head (g := 6) (t := 282) (e := 22) (n := 20) (by kernel_rfl) (by kernel_rfl) (by kernel_rfl) (by kernel_rfl) (by kernel_rfl) (by kernel_rfl) h2
 refine ⟨?_, ?_, ?_, ?_, t2⟩
 ·have hc : ∀ j, j < 64 → W.cell? ⟨3, j, none⟩ = some (.int .u8 ((Lib.deBruijn64tab.map fun (z : Nat) => (z : Int)).getD j 0)) := fun j hj => t1.cell (by kernel_rfl) j hj
  refine ⟨block_lt_of_cell (hc 0 (by decide)), fun j hj => ?_⟩
  rw [hc j hj]
  simp only [List.getD_eq_getElem?_getD, List.getElem?_map]
  cases Lib.deBruijn64tab[j]? <;> rfl
 ·exact Bc (Lib.laidMet.reads h (by simp [Rows.deciParsesRow]))
 ·exact utf8Tabs_of_reads (ρ := Tryz.lays159_ren) { Tryz.lays159 with } ⟨by kernel_rfl, by kernel_rfl, by kernel_rfl, by kernel_rfl, by kernel_rfl, by kernel_rfl, by kernel_rfl⟩
   (Lib.laidMet.reads h (by rw [← utf8First_eq]; simp [Rows.deciParsesRow, Rows.laid_unicode_utf8_first])) (Lib.laidMet.reads h (by
    have e : Lib.acceptData = Rows.laid_unicode_utf8_acceptRanges := by kernel_rfl
    rw [e]
    simp [Rows.deciParsesRow]))
 ·exact caseVar_of_reads (ρ := Tryz.lays159_ren) { Tryz.lays159 with } Tryz.lays159.t206 ⟨by kernel_rfl, by kernel_rfl, by kernel_rfl, by kernel_rfl, by kernel_rfl, by kernel_rfl⟩
   (Lib.laidMet.reads h (by rw [← caseRanges_eq]; simp [Rows.deciParsesRow, Rows.laid_unicode_CaseRanges]))
theorem QK {W : World} (h : laidMetH Tryz.prog Rows.deciParsesRow.laid W) : GOk W :=
 have t := Oi h
 ⟨fun w' hb => ⟨t.tz.below hb, t.rows.below hb, Utf8Tabs_below t.u8 hb, CaseVar_below t.cs hb, Lib.tabBelow_of_tabIs t.p10 w' hb⟩⟩
end Go.Proofs.YtafikkmnkeddpaaGreatDoor
namespace Go.Proofs.YtafikkmnkeddpaaGreatDoor
open Go.ChangeMaps Go.ChangeShapes Go.WideShapes Go.ChangeAt Go.RowKit Go.Joins
theorem own : ownKnob Tryz.prog.godebug = none := by kernel_rfl
variable {H : Type} {enc : TypeId × Value → H}
theorem wf_u64 {a : Int} (h : (Lit.int .u64 a).wf = true) : 0 ≤ a ∧ a ≤ 18446744073709551615 := by
 simp only [Lit.wf, IntKind.min, IntKind.max, IntKind.signed, IntKind.bits, Bool.and_eq_true, decide_eq_true_eq] at h
 simp at h
 omega
set_option maxRecDepth 100000 in
theorem lifted (os : Os) (started : os.Started) (H : Type) (enc : TypeId × Value → H) :
  ReturnsInHanded {} Tryz.checked os 6 .any (fun w args => (Rows.deciShortestSpec.pre enc Tryz.prog Tryz.f6 [] false w args ∧ laidMetH Tryz.prog Rows.deciShortestRow.laid w) ∧ sizedMet enc Tryz.prog Tryz.f6 (OpenSpec.ofChange Rows.deciShortestSpec) false w args)
   (Rows.deciShortestSpec.post enc Tryz.prog Tryz.f6 false true false false) := by
 refine returnsInHanded_of_change_and (C := Tryz.checked) (X := fun w _ => laidMetH Tryz.prog Rows.deciShortestRow.laid w) (fun _ _ _ hh h => h.of_heap hh) own started (by kernel_rfl) Tryz.func6
  (ChangeSpec.witness_shaped (enc := enc) (C := Tryz.checked) (os := os) (X := fun w _ => laidMetH Tryz.prog Rows.deciShortestRow.laid w) false (World.laidAll Tryz.prog os Rows.deciShortestRow.laid) #[.int .i64 0, .int .u64 0] 8 (World.laidAll_os _ _ _)
   (World.shaped_of_ZipB (by kernel_rfl) (by kernel_rfl)) (by kernel_rfl) (by kernel_rfl) (by kernel_rfl)
   (by rw [MakeChecks.laidMetH_plain _ _ _ (by kernel_rfl)]; exact laidMet_laidAll _ (by kernel_rfl) (by kernel_rfl))) ?_
 intro W base args ds gs before hval0 hW _ _ hL _
 have hval : ∀ (j : Nat) t v, Tryz.f6.params[j]? = some t → args[j]? = some v → Value.okWide Tryz.prog W .any base t v := hval0
 have hW' := hW
 obtain ⟨p, q, hA0, hV, rfl, hfz, hnd⟩ := hW
 have hA : DataW.TrodAll enc Tryz.prog W 0 (fun _ => true) true Tryz.f6.params.toList args.toList ds p := hA0
 rw [Tryz.params6] at hA hval
 obtain ⟨v0, v1, d0, d1, p0, p1, rfl, rfl, rfl, h0, h1⟩ := trodAll_two hA
 obtain ⟨rfl, rfl⟩ := trodVars_none hV
 obtain ⟨a0, rfl, rfl, rfl, b0⟩ := open_int Tryz.underlying3 (hval 0 3 v0 rfl rfl) h0
 obtain ⟨a1, rfl, rfl, rfl, b1⟩ := open_int Tryz.underlying22 (hval 1 22 v1 rfl rfl) h1
 have hG := QK hL
 clear hA0 hval0
 simp only [List.append_nil] at hW'
 obtain ⟨k, hk⟩ := P.wP a0 a1 (wf_u64 b1).1 (by have := (wf_u64 b1).2; omega)
 refine (E.Tf (x := .bool true) (l := [.v (.int .i64 a0), .v (.int .u64 a1)]) (P.dO.ok k) hG (.cons _ _ _ _ (.v _) (.cons _ _ _ _ (.v _) .nil)) (by show (P.dO.f k a0 a1).bind _ = _; rw [hk]; rfl)).mono fun e W' ⟨he, hb⟩ => ?_
 subst he
 exact ⟨_, rfl, _, _, _, [], [], [], hW', trodAll_cons_mk (shut_bool Tryz.underlying4 _) trodAll_mk0, trodAll_cons_mk (shut_int Tryz.underlying3 b0) (trodAll_cons_mk (shut_int Tryz.underlying22 b1) trodAll_mk0), rfl, hb.frame _, fun h => by cases h⟩
theorem Ea {P : Program} {f : FuncId} {fn : Func} {s : ChangeSpec} {c : OpenClaim}
  (h1 : (c.wf (OpenSpec.ofChange s) && laidOutB P && mapsRowed P && fn.params.all (P.readableRec ·) && namedTie P c.named s.vars) = true)
  (h2 : ((c.stops == []) && (P.stops == []) && (c.knobs == []) && (P.stopKnobs == [])) = true)
  (h3 : (c.inPlace == P.inPlace f) = true) (h4 : (c.unfollowed == P.unfollowed f) = true) (h5 : (c.recurses == P.recurses f) = true) (h6 : (c.named == P.varsNamed f) = true)
  (h7 : ((c.maps == (fn.params.toList ++ s.plain.varTypes P).any (P.mapsRec ·)) && (c.ifaces == (fn.params.toList ++ s.plain.varTypes P).any (P.ifacesRec ·)) && (c.mapsOut == P.mapsAmong fn.resultTypes.toList) &&
   (c.loops == (fn.params.toList ++ s.plain.varTypes P).any (P.loopsFrom ·)) && (c.wideKeys == (fn.params.toList ++ s.plain.varTypes P ++ fn.resultTypes.toList).any (P.wideKeysFrom ·)) &&
   s.vars.all (P.varReadable ·) && fn.resultTypes.all (fun t => P.readableRec t && decide (t < P.types.size)) && (c.ifacesOut == fn.resultTypes.toList.any (P.ifacesRec ·)) && (c.loopsOut == fn.resultTypes.toList.any (P.loopsFrom ·)) && (c.plainKeys == P.plainKeys) && c.shortTexts.isNone) = true)
  (h8 : (P.stopsHeard && P.mayEnter) = true) (h9 : ((c.lifted == P.liftsFinal) && (P.make == some c.make)) = true)
  (h10 : ((c.kinds == (if c.domain.isEmpty then [] else fn.params.toList.map fun t => match P.underlying t with | some (.int k) => some k | _ => none)) && (c.pinned == c.pinnedBy)) = true)
  (h11 : ((c.veiled == (fn.params.toList ++ s.plain.varTypes P ++ fn.resultTypes.toList).any (P.veiledRec ·)) && c.veiledFits P fn.params.toList (fn.params.toList ++ s.plain.varTypes P ++ fn.resultTypes.toList)) = true) : joinedFacts P f fn s c = true := by
 simp only [joinedFacts, Bool.and_eq_true] at *
 obtain ⟨⟨⟨⟨a1, a2⟩, a3⟩, a4⟩, a5⟩ := h1
 obtain ⟨⟨⟨b1, b2⟩, b3⟩, b4⟩ := h2
 obtain ⟨⟨⟨⟨⟨⟨⟨⟨⟨⟨c1, c2⟩, c3⟩, c4⟩, c5⟩, c6⟩, c7⟩, c8⟩, c9⟩, c10⟩, c11⟩ := h7
 obtain ⟨d1, d2⟩ := h8
 obtain ⟨e1, e2⟩ := h9
 obtain ⟨f1, f2⟩ := h10
 obtain ⟨g1, g2⟩ := h11
 and_intros <;> assumption
noncomputable abbrev pg : Program := Tryz.pinned.checked.prog
noncomputable abbrev fn0 : Func := Tryz.f6
noncomputable abbrev cl : OpenClaim := Rows.deciShortestRow
noncomputable abbrev sp : ChangeSpec := Rows.deciShortestSpec
theorem jo1 : (cl.wf (OpenSpec.ofChange sp) && laidOutB pg && mapsRowed pg && fn0.params.all (pg.readableRec ·) && namedTie pg cl.named sp.vars) = true := by kernel_rfl
theorem jo3 : (cl.inPlace == pg.inPlace 6) = true := by kernel_rfl
theorem jo4 : (cl.unfollowed == pg.unfollowed 6) = true := by kernel_rfl
theorem jo5 : (cl.recurses == pg.recurses 6) = true := by kernel_rfl
theorem jo6 : (cl.named == pg.varsNamed 6) = true := by kernel_rfl
theorem jo8 : (pg.stopsHeard && pg.mayEnter) = true := by kernel_rfl
theorem jo9 : ((cl.lifted == pg.liftsFinal) && (pg.make == some cl.make)) = true := by kernel_rfl
theorem joined : joinedFacts pg 6 fn0 sp cl = true :=
 Ea jo1 (by kernel_rfl) jo3 jo4 jo5 jo6 (by kernel_rfl) jo8 jo9 (by kernel_rfl) (by kernel_rfl)
theorem holds : Rows.DeciShortestSaid :=
 OpenClaim.holds_of_wide 6 Tryz.f6 rfl rfl rfl rfl rfl rfl rfl ⟨rfl, rfl, rfl, rfl, rfl⟩ rfl rfl rfl rfl rfl (by kernel_rfl) Tryz.func6 joined
  (of_decide_eq_true (by kernel_rfl)) (by unfold Func.isWrapper; first | (rw [if_pos (by decide +kernel)]; kernel_rfl) | (rw [if_neg (by decide +kernel)]; exact ⟨rfl, rfl⟩))
  (fun os started H enc _ => lifted os started H enc)
theorem mainIs : pg.mainIs = some (true, "a428c48d2c159c322eb171410f219799c82a6e30d22fa21a80504f9541438305".toList) := by kernel_rfl
theorem looks : pg.looks [] = false := by kernel_rfl
theorem goes : cl.goesBy pg = false := by kernel_rfl
theorem wft : cl.wfByText (OpenSpec.ofChange sp) = true := by kernel_rfl
theorem proved : Rows.DeciShortestCardSaid :=
 Claim7.holds_tied_plain_at .later [] [.data, .data, .data, .data, .data, .pinned, .pinned] true (true, "a428c48d2c159c322eb171410f219799c82a6e30d22fa21a80504f9541438305") false
  holds (fun _ h => by cases h) wft (fun _ h => by cases h) deciShortest_row_tie rfl ⟨rfl, rfl⟩ mainIs rfl
  (fun f fn hf hfn => by
   obtain rfl : f = 6 := Option.some.inj ((show Tryz.prog.funcNamed "vernier/vernierlaw16.DeciShortest" = some 6 by kernel_rfl).symm.trans hf) |>.symm
   obtain rfl : fn = Tryz.f6 := (Option.some.inj (Tryz.func6.symm.trans hfn)).symm
   exact ⟨looks.symm, fun j t ht => by
    rw [Tryz.params6] at ht
    have hm : t ∈ [3, 22] := by simpa using Array.mem_of_getElem? ht
    have hall : ([3, 22].all fun u => !Tryz.prog.wantsStandIn u) = true := by kernel_rfl
    exact (show Tryz.prog.wantsStandIn t = false by simpa using List.all_eq_true.1 hall t hm)⟩)
  goes.symm
#print axioms proved
end Go.Proofs.YtafikkmnkeddpaaGreatDoor
