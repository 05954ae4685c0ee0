/- DeciAlike: one number written in many ways is read alike, flags too, and with a minus it is the opposite in the mirrored mode: the statement Rows.DeciAlikeCardSaid, the row tied to the text of the program. No condition. -/
import Derived.Test.YtafikkmnkeddpaaGreatDoorRows
import Derived.LaidMore
import Derived.ChangeAt
import Derived.Stop.LaidErr
import Derived.Lib.LaidU8
import Derived.Lib.LaidCase
import Derived.Test.YtafikkmnkeddpaaGreatDoorCards
import Derived.Test.YtafikkmnkeddpaaGreatDoorTie
import Derived.ProofKit
import Derived.OpenShut
import Derived.Lay
import Derived.ChangeMaps5
import Derived.Stop.Joined
import Derived.Lib.SmallJoins
import Derived.SevenTiedAt
import Derived.Test.YtafikkmnkeddpaaGreatDoorK4
set_option linter.unusedVariables false
set_option linter.unusedSimpArgs false
set_option maxRecDepth 100000
namespace Go.Proofs.YtafikkmnkeddpaaGreatDoor.P
open Go.RowKit Go.Proofs.YtafikkmnkeddpaaGreatDoorW.PrintWords Go.Proofs.YtafikkmnkeddpaaGreatDoorW.PrintLast Go.Proofs.YtafikkmnkeddpaaGreatDoorW.PrintMore Go.Proofs.YtafikkmnkeddpaaGreatDoor.E Go.Proofs.Tryz
def dR.enc (r : Bool) : AV := .v (.bool r)
def dR.app : List AV → (AV → Option AV) → Option AV := fun l K => match l with
 | [.v (.int .i64 a)] => (dR.f a).bind fun r => K (dR.enc r)
 | _ => none
def dR.E : Env := ⟨9, tys, [], [], [], false, [4], false⟩
theorem dR.fok : FO 53 f53 (gQ f53) (dR.E) := fo jE func53 trivial
theorem dR.ok : AO 53 (dR.app) := iM stays mixed (dR.fok) (gU rfl) fun l K r h => by
 dsimp only [dR.app] at h
 split at h
 ·rename_i a
  exact fin (enc := dR.enc) h rfl fun y h => by
   exact via (if (decide (a ≥ 0)) then some (bA (decide (a ≤ 5))) else some (bA false)) (by rw [dR.f] at h; exact Eq.trans (Eq.symm mt2) h)
 ·cases h
def fF.enc (r : Bool) : AV := .v (.bool r)
def fF.app : List AV → (AV → Option AV) → Option AV := fun l K => match l with
 | [.v (.int .u8 a)] => (fF.f a).bind fun r => K (fF.enc r)
 | _ => none
def fF.E : Env := ⟨9, tys, [], [], [], false, [4], false⟩
theorem fF.fok : FO 129 f129 (gQ f129) (fF.E) := fo jE func129 trivial
theorem fF.ok : AO 129 (fF.app) := iM stays mixed (fF.fok) (gU rfl) fun l K r h => by
 dsimp only [fF.app] at h
 split at h
 ·rename_i a
  exact fin (enc := fF.enc) h rfl fun y h => by
   exact via (if (decide (a ≥ 48)) then some (bA (decide (a ≤ 57))) else some (bA false)) (by rw [fF.f] at h; exact Eq.trans (Eq.symm mt2) h)
 ·cases h
def ah.enc (r : Int × Bool) : AV := .tup [.v (.int .i64 r.1), .v (.bool r.2)]
def ah.app (k : Nat) : List AV → (AV → Option AV) → Option AV := fun l K => match l with
 | [.v (.string a)] => (ah.f k a).bind fun r => K (ah.enc r)
 | _ => none
def ah.p0 (k : Nat) : Pt := ⟨[.c [1, 1, 1, 1, 0, 0], .c [1, 1, 1, 1, 0, 1], .c [1, 1, 1, 1, 1]], [(0, none, []), (2, none, []), (4, none, [])], [], [], [], fun s => match s with
 | ⟨[(0, .v (.string a)), (2, .v (.int .i64 b)), (4, .v (.bool c))], []⟩ => (ah.j1 k a b c).map ah.enc
 | _ => none⟩
def ah.p1 (k : Nat) : Pt := ⟨[.c [1, 1, 1, 1, 1, 0, 0], .c [1, 1, 1, 1, 1, 0, 1], .c [1, 1, 1, 1, 1, 1]], [(0, none, []), (2, none, []), (4, none, [])], [], [], [], fun s => match s with
 | ⟨[(0, .v (.string a)), (2, .v (.int .i64 b)), (4, .v (.bool c))], []⟩ => (ah.j3 k a b c).map ah.enc
 | _ => none⟩
def ah.p2 (k : Nat) : Pt := ⟨[.c [1, 1, 1, 1, 1, 1, 0, 1, 0, 0, 0], .c [1, 1, 1, 1, 1, 1, 0, 1, 0, 0, 1], .l [1, 1, 1, 1, 1, 1, 0, 1, 0, 0], .b 0, .c [1, 1, 1, 1, 1, 1, 1]], [(0, none, []), (2, none, []), (4, none, []), (38, none, []), (39, none, [])], [], [], [], fun s => match s with
 | ⟨[(0, .v (.string a)), (2, .v (.int .i64 b)), (4, .v (.bool c)), (38, .v (.int .i64 d)), (39, .v (.int .i64 e))], []⟩ => (ah.l0 k a b c d e).map ah.enc
 | _ => none⟩
def ah.p3 (k : Nat) : Pt := ⟨[.c [1, 0, 1], .c [1, 1]], [(0, none, []), (2, none, []), (13, none, [])], [], [], [], fun s => match s with
 | ⟨[(0, .v (.string a)), (2, .v (.int .i64 b)), (13, .v (.bool c))], []⟩ => (ah.j0 k a b c).map ah.enc
 | _ => none⟩
def ah.p4 (k : Nat) : Pt := ⟨[.c [1, 1, 1, 1, 0, 1], .c [1, 1, 1, 1, 1]], [(0, none, []), (2, none, []), (4, none, []), (32, none, [])], [], [], [], fun s => match s with
 | ⟨[(0, .v (.string a)), (2, .v (.int .i64 b)), (4, .v (.bool c)), (32, .v (.bool d))], []⟩ => (ah.j2 k a b c d).map ah.enc
 | _ => none⟩
def ah.E (k : Nat) : Env := ⟨61, tys, [(129, fF.app)], [(5, ah.p0 k), (7, ah.p1 k), (10, ah.p2 k), (100013, ah.p3 k), (100032, ah.p4 k)], [], false, [3, 4], false⟩
theorem ah.fok (k : Nat) : FO 130 f130 (gQ f130) (ah.E k) := fo jE func130 ⟨fF.ok, trivial⟩
theorem ah.s0 : nR f130 ah.E ah.p0 := fun k s r h => by
 dsimp only [ah.p0] at h
 split at h
 ·rename_i a b c
  rcases k with _ | k
  ·cases h
  exact ⟨k, rfl, via (if c = false then if (a.toList != (⟨#[]⟩ : ByteArray).toList) then if (0 : Int) ≤ 0 then if 0 < (a.size : Int) then (ah.j2 k a b c ((bt a 0) == 43)).map ah.enc else none else none else (ah.j2 k a b c false).map ah.enc else (ah.j2 k a b c true).map ah.enc) (by rw [ah.j1] at h; exact Eq.trans (Eq.symm mt2) h)⟩
 ·cases h
theorem ah.s1 : nR f130 ah.E ah.p1 := fun k s r h => by
 dsimp only [ah.p1] at h
 split at h
 ·rename_i a b c
  rcases k with _ | k
  ·cases h
  exact ⟨k, rfl, via (if (a.toList == (⟨#[]⟩ : ByteArray).toList) then some (.tup [iA 0, bA false]) else (ah.l0 k a b c (a.size : Int) 0).map ah.enc) (by rw [ah.j3] at h; exact Eq.trans (Eq.symm mt2) h)⟩
 ·cases h
theorem ah.s2 : nR f130 ah.E ah.p2 := fun k s r h => by
 dsimp only [ah.p2] at h
 split at h
 ·rename_i a b c d e
  rcases k with _ | k
  ·cases h
  exact ⟨k, rfl, via (if (decide (e < d)) then if 0 ≤ e then if e < (a.size : Int) then (fF.f (bt a e)).bind fun f => if (!f) then some (.tup [iA 0, bA false]) else if 0 ≤ e then if e < (a.size : Int) then (ah.l0 k a (mn (wrap64 ((wrap64 (10 * b)) + (wrap64 (((bt a e) - 48) % 256)))) 1048576) c d (wrap64 (e + 1))).map ah.enc else none else none else none else none else if c then some (.tup [iA (wrap64 (-b)), bA true]) else some (.tup [iA b, bA true])) (by rw [ah.l0] at h; exact Eq.trans (Eq.symm mt2) h)⟩
 ·cases h
theorem ah.s3 : nR f130 ah.E ah.p3 := fun k s r h => by
 dsimp only [ah.p3] at h
 split at h
 ·rename_i a b c
  rcases k with _ | k
  ·cases h
  exact ⟨k, rfl, via (if c then some (.tup [iA 0, bA false]) else if (0 : Int) ≤ 1 then if 1 ≤ (a.size : Int) then if ((a.extract (1 : Int).toNat ((a.size : Int) : Int).toNat).toList != (⟨#[]⟩ : ByteArray).toList) then if (0 : Int) ≤ 0 then if 0 < ((a.extract (1 : Int).toNat ((a.size : Int) : Int).toNat).size : Int) then (ah.j1 k (a.extract (1 : Int).toNat ((a.size : Int) : Int).toNat) b ((bt (a.extract (1 : Int).toNat ((a.size : Int) : Int).toNat) 0) == 45)).map ah.enc else none else none else (ah.j1 k (a.extract (1 : Int).toNat ((a.size : Int) : Int).toNat) b false).map ah.enc else none else none) (by rw [ah.j0] at h; exact Eq.trans (Eq.symm mt2) h)⟩
 ·cases h
theorem ah.s4 : nR f130 ah.E ah.p4 := fun k s r h => by
 dsimp only [ah.p4] at h
 split at h
 ·rename_i a b c d
  rcases k with _ | k
  ·cases h
  exact ⟨k, rfl, via (if d then if (0 : Int) ≤ 1 then if 1 ≤ (a.size : Int) then (ah.j3 k (a.extract (1 : Int).toNat ((a.size : Int) : Int).toNat) b c).map ah.enc else none else none else (ah.j3 k a b c).map ah.enc) (by rw [ah.j2] at h; exact Eq.trans (Eq.symm mt2) h)⟩
 ·cases h
theorem ah.pts : ∀ k, mD prog (gQ f130) (ah.E k) GOk (Fin prog f130) := mP stays mixed ah.fok [(5, ah.p0), (7, ah.p1), (10, ah.p2), (100013, ah.p3), (100032, ah.p4)] ⟨ah.s0, ah.s1, ah.s2, ah.s3, ah.s4, trivial⟩
theorem ah.ok (k : Nat) : AO 130 (ah.app k) := iM stays mixed (ah.fok k) (ah.pts k) fun l K r h => by
 dsimp only [ah.app] at h
 split at h
 ·rename_i a
  exact fin (enc := ah.enc) h rfl fun y h => by
   exact via (if (0 : Int) ≤ 0 then if 0 < (a.size : Int) then if ((bt a 0) != 101) then if (0 : Int) ≤ 0 then if 0 < (a.size : Int) then (ah.j0 k a 0 ((bt a 0) != 69)).map ah.enc else none else none else (ah.j0 k a 0 false).map ah.enc else none else none) (by rw [ah.f] at h; exact Eq.trans (Eq.symm mt2) h)
 ·cases h
def au.enc (r : Bool × ByteArray × ByteArray × Int × Bool) : AV := .tup [.agg [.v (.bool r.1), .v (.string r.2.1), .v (.string r.2.2.1), .v (.int .i64 r.2.2.2.1)], .v (.bool r.2.2.2.2)]
def au.app (k : Nat) : List AV → (AV → Option AV) → Option AV := fun l K => match l with
 | [.v (.string a)] => (au.f k a).bind fun r => K (au.enc r)
 | _ => none
def au.p0 (k : Nat) : Pt := ⟨[.c [1, 0, 1, 0, 0], .c [1, 0, 1, 0, 1], .c [1, 0, 1, 1], .s [1, 0]], [(0, none, [])], [(2, [])], [], [], fun s => match s with
 | ⟨[(0, .v (.string a)), (2, .ptr 2 0)], [(2, .cells [.v (.bool b), .v (.string c), .v (.string d), .v (.int .i64 e)])]⟩ => (au.j1 k a b c d e).map au.enc
 | _ => none⟩
def au.p1 (k : Nat) : Pt := ⟨[.c [1, 0, 1, 1, 1, 1, 1, 1, 0, 0, 0, 0, 0], .c [1, 0, 1, 1, 1, 1, 1, 1, 0, 0, 0, 0, 1], .c [1, 0, 1, 1, 1, 1, 1, 1, 0, 0, 0, 1], .l [1, 0, 1, 1, 1, 1, 1, 1, 0, 0, 0], .b 0, .c [1, 0, 1, 1, 1, 1, 1, 1, 1], .s [1, 0]], [(0, none, []), (6, none, []), (7, none, [])], [(2, [])], [(5, .u8, 5)], [], fun s => match s with
 | ⟨[(0, .v (.string a)), (6, .v (.bool b)), (7, .v (.int .i64 c)), (2, .ptr 2 0), (5, .own 5)], [(2, .cells [.v (.bool d), .v (.string e), .v (.string f), .v (.int .i64 g)]), (5, .ints .u8 5 i)]⟩ => (au.l0 k a i b c d e f g).map au.enc
 | _ => none⟩
def au.p2 (k : Nat) : Pt := ⟨[.c [1, 0, 1, 1, 1, 1, 1, 1, 1, 0], .c [1, 0, 1, 1, 1, 1, 1, 1, 1, 1], .s [1, 0]], [(0, none, []), (7, none, [])], [(2, [])], [(5, .u8, 5)], [], fun s => match s with
 | ⟨[(0, .v (.string a)), (7, .v (.int .i64 b)), (2, .ptr 2 0), (5, .own 5)], [(2, .cells [.v (.bool c), .v (.string d), .v (.string e), .v (.int .i64 f)]), (5, .ints .u8 5 g)]⟩ => (au.j4 k a g b c d e f).map au.enc
 | _ => none⟩
def au.p3 (k : Nat) : Pt := ⟨[.c [1, 0, 0, 1], .c [1, 0, 1], .s [1, 0]], [(0, none, []), (21, none, [])], [(2, [])], [], [], fun s => match s with
 | ⟨[(0, .v (.string a)), (21, .v (.bool b)), (2, .ptr 2 0)], [(2, .cells [.v (.bool c), .v (.string d), .v (.string e), .v (.int .i64 f)])]⟩ => (au.j0 k a b c d e f).map au.enc
 | _ => none⟩
def au.p4 (k : Nat) : Pt := ⟨[.c [1, 0, 1, 0, 1, 1], .c [1, 0, 1, 1], .s [1, 0]], [(0, none, []), (4, none, []), (40, none, [])], [(2, [])], [], [], fun s => match s with
 | ⟨[(0, .v (.string a)), (4, .v (.string b)), (40, .v (.bool c)), (2, .ptr 2 0)], [(2, .cells [.v (.bool d), .v (.string e), .v (.string f), .v (.int .i64 g)])]⟩ => (au.j2 k a b c d e f g).map au.enc
 | _ => none⟩
def au.E (k : Nat) : Env := ⟨101, tys, [(128, fP.app), (129, fF.app), (130, ah.app k)], [(4, au.p0 k), (11, au.p1 k), (20, au.p2 k), (100021, au.p3 k), (100040, au.p4 k)], [], false, [93, 4], false⟩
theorem au.fok (k : Nat) : FO 54 f54 (gQ f54) (au.E k) := fo jE func54 ⟨fP.ok, ⟨fF.ok, ⟨ah.ok k, trivial⟩⟩⟩
theorem au.s0 : nR f54 au.E au.p0 := fun k s r h => by
 dsimp only [au.p0] at h
 split at h
 ·rename_i a b c d e
  rcases k with _ | k
  ·cases h
  exact ⟨k, rfl, via ((fP.f a).bind fun f => if ((a.size : Int) == 3) then if (f.toList == (⟨#[105, 110, 102]⟩ : ByteArray).toList) = false then (au.j2 k a f (f.toList == (⟨#[110, 97, 110]⟩ : ByteArray).toList) b c d e).map au.enc else (au.j2 k a f true b c d e).map au.enc else (au.j2 k a f false b c d e).map au.enc) (by rw [au.j1] at h; exact Eq.trans (Eq.symm mt2) h)⟩
 ·cases h
theorem au.s1 : nR f54 au.E au.p1 := fun k s r h => by
 dsimp only [au.p1] at h
 split at h
 ·rename_i a b c d e f g i
  rcases k with _ | k
  ·cases h
  exact ⟨k, rfl, via (if (decide (c < (a.size : Int))) then if 0 ≤ c then if c < (a.size : Int) then (fF.f (bt a c)).bind fun j => if j then if (i.length + ([bt a c] : List Int).length) * 1 ≤ 140737488355328 then if b then (au.l0 k a (i ++ ([bt a c] : List Int)) b (wrap64 (c + 1)) d e f (wrap64 (g - 1))).map au.enc else (au.l0 k a (i ++ ([bt a c] : List Int)) b (wrap64 (c + 1)) d e f g).map au.enc else none else if ((bt a c) == 46) then if (!b) then (au.l0 k a i true (wrap64 (c + 1)) d e f g).map au.enc else (au.j4 k a i c d e f g).map au.enc else (au.j4 k a i c d e f g).map au.enc else none else none else (au.j4 k a i c d e f g).map au.enc) (by rw [au.l0] at h; exact Eq.trans (Eq.symm mt2) h)⟩
 ·cases h
theorem au.s2 : nR f54 au.E au.p2 := fun k s r h => by
 dsimp only [au.p2] at h
 split at h
 ·rename_i a b c d e f g
  rcases k with _ | k
  ·cases h
  exact ⟨k, rfl, via (if ((g.length : Int) == 0) then some (.tup [.agg [bA c, sA d, sA (strOfNums g), iA f], bA false]) else if (b == (a.size : Int)) then some (.tup [.agg [bA c, sA d, sA (strOfNums g), iA f], bA true]) else if 0 ≤ b then if b ≤ (a.size : Int) then (ah.f k (a.extract (b : Int).toNat ((a.size : Int) : Int).toNat)).bind fun i => some (.tup [.agg [bA c, sA d, sA (strOfNums g), iA (wrap64 (f + i.1))], bA i.2]) else none else none) (by rw [au.j4] at h; exact Eq.trans (Eq.symm mt2) h)⟩
 ·cases h
theorem au.s3 : nR f54 au.E au.p3 := fun k s r h => by
 dsimp only [au.p3] at h
 split at h
 ·rename_i a b c d e f
  rcases k with _ | k
  ·cases h
  exact ⟨k, rfl, via (if b then if (0 : Int) ≤ 0 then if 0 < (a.size : Int) then if (0 : Int) ≤ 1 then if 1 ≤ (a.size : Int) then (au.j1 k (a.extract (1 : Int).toNat ((a.size : Int) : Int).toNat) ((bt a 0) == 45) d e f).map au.enc else none else none else none else none else (au.j1 k a c d e f).map au.enc) (by rw [au.j0] at h; exact Eq.trans (Eq.symm mt2) h)⟩
 ·cases h
theorem au.s4 : nR f54 au.E au.p4 := fun k s r h => by
 dsimp only [au.p4] at h
 split at h
 ·rename_i a b c d e f g
  rcases k with _ | k
  ·cases h
  exact ⟨k, rfl, via (if c then some (.tup [.agg [bA d, sA b, sA f, iA g], bA true]) else if (0 : Int) = 0 then if 0 ≤ (a.size : Int) then if ((a.size : Int) : Int).toNat * 1 ≤ 281474976710656 then (au.l0 k a ([] : List Int) false 0 d e f g).map au.enc else none else none else none) (by rw [au.j2] at h; exact Eq.trans (Eq.symm mt2) h)⟩
 ·cases h
theorem au.pts : ∀ k, mD prog (gQ f54) (au.E k) GOk (Fin prog f54) := mP stays mixed au.fok [(4, au.p0), (11, au.p1), (20, au.p2), (100021, au.p3), (100040, au.p4)] ⟨au.s0, au.s1, au.s2, au.s3, au.s4, trivial⟩
theorem au.ok (k : Nat) : AO 54 (au.app k) := iM stays mixed (au.fok k) (au.pts k) fun l K r h => by
 dsimp only [au.app] at h
 split at h
 ·rename_i a
  exact fin (enc := au.enc) h rfl fun y h => by
   exact via (if (a.toList != (⟨#[]⟩ : ByteArray).toList) then if (0 : Int) ≤ 0 then if 0 < (a.size : Int) then if ((bt a 0) == 43) = false then if (0 : Int) ≤ 0 then if 0 < (a.size : Int) then (au.j0 k a ((bt a 0) == 45) false (⟨#[]⟩ : ByteArray) (⟨#[]⟩ : ByteArray) 0).map au.enc else none else none else (au.j0 k a true false (⟨#[]⟩ : ByteArray) (⟨#[]⟩ : ByteArray) 0).map au.enc else none else none else (au.j0 k a false false (⟨#[]⟩ : ByteArray) (⟨#[]⟩ : ByteArray) 0).map au.enc) (by rw [au.f] at h; exact Eq.trans (Eq.symm mt2) h)
 ·cases h
def eF.enc (r : Int) : AV := .v (.int .i64 r)
def eF.app : List AV → (AV → Option AV) → Option AV := fun l K => match l with
 | [.v (.int .i64 a)] => (eF.f a).bind fun r => K (eF.enc r)
 | _ => none
def eF.E : Env := ⟨9, tys, [], [], [], false, [24], false⟩
theorem eF.fok : FO 211 f211 (gQ f211) (eF.E) := fo jE func211 trivial
theorem eF.ok : AO 211 (eF.app) := iM stays mixed (eF.fok) (gU rfl) fun l K r h => by
 dsimp only [eF.app] at h
 split at h
 ·rename_i a
  exact fin (enc := eF.enc) h rfl fun y h => by
   exact via (if (decide (a < 0)) = false then if (decide (a > 5)) then some (iA 3) else some (iA 0) else some (iA 3)) (by rw [eF.f] at h; exact Eq.trans (Eq.symm mt2) h)
 ·cases h
def fZ.enc (r : Int × Int × Int × Int × Int) : AV := .tup [.agg [.v (.int .i64 r.1), .v (.int .i64 r.2.1), .v (.int .i64 r.2.2.1), .v (.int .i64 r.2.2.2.1)], .v (.int .i64 r.2.2.2.2)]
def fZ.app : List AV → (AV → Option AV) → Option AV := fun l K => match l with
 | [.v (.int .i64 a), .v (.int .i64 b)] => (fZ.f a b).bind fun r => K (fZ.enc r)
 | _ => none
def fZ.E : Env := ⟨20, tys, [(52, bg.app), (211, eF.app)], [], [(4, [0, 1, 2, 3, 4])], false, [88, 24], false⟩
theorem fZ.fok : FO 139 f139 (gQ f139) (fZ.E) := fo jE func139 ⟨bg.ok, ⟨eF.ok, trivial⟩⟩
theorem fZ.ok : AO 139 (fZ.app) := iM stays mixed (fZ.fok) (gU rfl) fun l K r h => by
 dsimp only [fZ.app] at h
 split at h
 ·rename_i a b
  exact fin (enc := fZ.enc) h rfl fun y h => by
   exact via ((bg.f a).bind fun c => if (c.2.2.2.2 != 0) then some (.tup [.agg [iA c.1, iA c.2.1, iA c.2.2.1, iA c.2.2.2.1], iA c.2.2.2.2]) else (eF.f b).bind fun d => some (.tup [.agg [iA c.1, iA c.2.1, iA c.2.2.1, iA c.2.2.2.1], iA d])) (by rw [fZ.f] at h; exact Eq.trans (Eq.symm mt2) h)
 ·cases h
def jh.enc (r : Int × Int × Int) : AV := .tup [.v (.int .u64 r.1), .v (.int .i64 r.2.1), .v (.int .i64 r.2.2)]
def jh.app : List AV → (AV → Option AV) → Option AV := fun l K => match l with
 | [.v (.int .i64 a), .v (.bool b)] => (jh.f a b).bind fun r => K (jh.enc r)
 | _ => none
def jh.E : Env := ⟨17, tys, [(58, gZ.app)], [], [], false, [22, 23, 24], false⟩
theorem jh.fok : FO 141 f141 (gQ f141) (jh.E) := fo jE func141 ⟨gZ.ok, trivial⟩
theorem jh.ok : AO 141 (jh.app) := iM stays mixed (jh.fok) (gU rfl) fun l K r h => by
 dsimp only [jh.app] at h
 split at h
 ·rename_i a b
  exact fin (enc := jh.enc) h rfl fun y h => by
   exact via ((gZ.f a b).bind fun c => some (.tup [uA c.1, iA 0, iA c.2])) (by rw [jh.f] at h; exact Eq.trans (Eq.symm mt2) h)
 ·cases h
def aG.enc (r : Bool × List Int × Int × Bool) : AV := .agg [.v (.bool r.1), .ro true .u64 r.2.1, .v (.int .i64 r.2.2.1), .v (.bool r.2.2.2)]
def aG.app (k : Nat) : List AV → (AV → Option AV) → Option AV := fun l K => match l with
 | [.ro false .u64 a, .ro false .u64 b, .v (.int .i64 c)] => (aG.f k a b c).bind fun r => K (aG.enc r)
 | _ => none
def aG.p0 (k : Nat) : Pt := ⟨[.c [1, 1, 1, 1, 1, 0, 0, 0, 0, 0], .c [1, 1, 1, 1, 1, 0, 0, 0, 0, 1], .c [1, 1, 1, 1, 1, 0, 0, 0, 1], .l [1, 1, 1, 1, 1, 0, 0, 0], .b 0, .c [1, 1, 1, 1, 1, 1]], [(1, some .u64, [false]), (2, none, []), (11, some .u64, [])], [(13, [])], [], [6], fun s => match s with
 | ⟨[(1, .ro false .u64 a), (2, .v (.int .i64 b)), (11, .ro true .u64 c), (13, .ptr 13 0), (6, .ptr 6 0)], [(13, .cells [.v (.bool d), .ro true .u64 e, .v (.int .i64 f), .v (.bool g)]), (6, .cells [.top, .top, .top, .top])]⟩ => (aG.l0 k a b c d e f g).map aG.enc
 | _ => none⟩
def aG.p1 (k : Nat) : Pt := ⟨[.c [1, 1, 1, 1, 1, 0, 0, 0, 0, 1], .c [1, 1, 1, 1, 1, 0, 0, 0, 1], .l [1, 1, 1, 1, 1, 0, 0, 0], .b 0, .c [1, 1, 1, 1, 1, 1]], [(1, some .u64, [false]), (2, none, []), (11, some .u64, []), (47, none, [])], [(13, [])], [], [6], fun s => match s with
 | ⟨[(1, .ro false .u64 a), (2, .v (.int .i64 b)), (11, .ro true .u64 c), (47, .v (.bool d)), (13, .ptr 13 0), (6, .ptr 6 0)], [(13, .cells [.v (.bool e), .ro true .u64 f, .v (.int .i64 g), .v (.bool i)]), (6, .cells [.top, .top, .top, .top])]⟩ => (aG.j1 k a b c d e f g i).map aG.enc
 | _ => none⟩
def aG.E (k : Nat) : Env := ⟨81, tys, [(182, iG.app), (89, fA.app), (101, iq.app), (104, iJ.app), (103, iy.app), (160, kD.app)], [(5, aG.p0 k), (100047, aG.p1 k)], [], false, [197], false⟩
theorem aG.fok (k : Nat) : FO 142 f142 (gQ f142) (aG.E k) := fo jE func142 ⟨iG.ok, ⟨fA.ok, ⟨iq.ok, ⟨iJ.ok, ⟨iy.ok, ⟨kD.ok, trivial⟩⟩⟩⟩⟩⟩
theorem aG.s0 : nR f142 aG.E aG.p0 := fun k s r h => by
 dsimp only [aG.p0] at h
 split at h
 ·rename_i a b c d e f g
  rcases k with _ | k
  ·cases h
  exact ⟨k, rfl, via ((iG.f e).bind fun i => if (decide (i < b)) then (aG.j1 k a b c (decide ((c.length : Int) > 0)) d e f g).map aG.enc else (aG.j1 k a b c false d e f g).map aG.enc) (by rw [aG.l0] at h; exact Eq.trans (Eq.symm mt2) h)⟩
 ·cases h
theorem aG.s1 : nR f142 aG.E aG.p1 := fun k s r h => by
 dsimp only [aG.p1] at h
 split at h
 ·rename_i a b c d e f g i
  rcases k with _ | k
  ·cases h
  exact ⟨k, rfl, via (if d then (iJ.f f f).bind fun j => (iJ.f c c).bind fun m => (iy.f m a).bind fun n => if (decide (n ≥ 0)) then (kD.f m a).bind fun o => (iJ.f j ([1] : List Int)).bind fun p => (aG.l0 k a b o.1 e p (wrap64 (g - 1)) i).map aG.enc else (aG.l0 k a b m e j (wrap64 (g - 1)) i).map aG.enc else some (.agg [bA e, rA f, iA g, bA (decide ((c.length : Int) > 0))])) (by rw [aG.j1] at h; exact Eq.trans (Eq.symm mt2) h)⟩
 ·cases h
theorem aG.pts : ∀ k, mD prog (gQ f142) (aG.E k) GOk (Fin prog f142) := mP stays mixed aG.fok [(5, aG.p0), (100047, aG.p1)] ⟨aG.s0, aG.s1, trivial⟩
theorem aG.ok (k : Nat) : AO 142 (aG.app k) := iM stays mixed (aG.fok k) (aG.pts k) fun l K r h => by
 dsimp only [aG.app] at h
 split at h
 ·rename_i a b c
  exact fin (enc := aG.enc) h rfl fun y h => by
   exact via ((iG.f b).bind fun d => (iG.f a).bind fun e => (fA.f a (mx 0 (wrap64 ((wrap64 (d - e)) - 1)))).bind fun f => (iq.f f.1 b).bind fun g => (aG.l0 k b c g.2.1 false g.1 (wrap64 (-(mx 0 (wrap64 ((wrap64 (d - e)) - 1))))) false).map aG.enc) (by rw [aG.f] at h; exact Eq.trans (Eq.symm mt2) h)
 ·cases h
def dQ.enc (r : Int) : AV := .v (.int .i64 r)
def dQ.app : List AV → (AV → Option AV) → Option AV := fun l K => match l with
 | [.agg [.v (.bool a), .ro false .u64 b, .v (.int .i64 c), .v (.bool d)]] => (dQ.f a b c d).bind fun r => K (dQ.enc r)
 | _ => none
def dQ.E : Env := ⟨10, tys, [(182, iG.app)], [], [(1, [0, 1, 2, 3, 4, 5, 6, 7])], false, [3], false⟩
theorem dQ.fok : FO 212 f212 (gQ f212) (dQ.E) := fo jE func212 ⟨iG.ok, trivial⟩
theorem dQ.ok : AO 212 (dQ.app) := iM stays mixed (dQ.fok) (gU rfl) fun l K r h => by
 dsimp only [dQ.app] at h
 split at h
 ·rename_i a b c d
  exact fin (enc := dQ.enc) h rfl fun y h => by
   exact via ((iG.f b).bind fun e => some (iA (wrap64 ((wrap64 (c + e)) - 1)))) (by rw [dQ.f] at h; exact Eq.trans (Eq.symm mt2) h)
 ·cases h
def aQ.enc (r : Int) : AV := .v (.int .u64 r)
def aQ.app (k : Nat) : List AV → (AV → Option AV) → Option AV := fun l K => match l with
 | [.v (.int .i64 a), .v (.int .i64 b), .v (.bool c)] => (aQ.f k a b c).bind fun r => K (aQ.enc r)
 | _ => none
def aQ.p0 (k : Nat) : Pt := ⟨[.c [1, 1, 0, 0], .c [1, 1, 0, 1], .c [1, 1, 1]], [(0, none, []), (2, none, []), (7, none, [])], [], [], [], fun s => match s with
 | ⟨[(0, .v (.int .i64 a)), (2, .v (.bool b)), (7, .v (.bool c))], []⟩ => (aQ.j0 k a b c).map aQ.enc
 | _ => none⟩
def aQ.E (k : Nat) : Env := ⟨48, tys, [(56, dM.app), (248, fQ.app)], [(2, aQ.p0 k)], [], false, [22], false⟩
theorem aQ.fok (k : Nat) : FO 213 f213 (gQ f213) (aQ.E k) := fo jE func213 ⟨dM.ok, ⟨fQ.ok, trivial⟩⟩
theorem aQ.s0 : nR f213 aQ.E aQ.p0 := fun k s r h => by
 dsimp only [aQ.p0] at h
 split at h
 ·rename_i a b c
  rcases k with _ | k
  ·cases h
  exact ⟨k, rfl, via (if c then (dM.f a b).bind fun d => some (uA d.1) else (fQ.f a b).bind fun e => some (uA e.1)) (by rw [aQ.j0] at h; exact Eq.trans (Eq.symm mt2) h)⟩
 ·cases h
theorem aQ.pts : ∀ k, mD prog (gQ f213) (aQ.E k) GOk (Fin prog f213) := mP stays mixed aQ.fok [(2, aQ.p0)] ⟨aQ.s0, trivial⟩
theorem aQ.ok (k : Nat) : AO 213 (aQ.app k) := iM stays mixed (aQ.fok k) (aQ.pts k) fun l K r h => by
 dsimp only [aQ.app] at h
 split at h
 ·rename_i a b c
  exact fin (enc := aQ.enc) h rfl fun y h => by
   exact via (if (b == 0) = false then if (b == 1) = false then if (b == 3) then if (!c) = false then if (b == 4) then (aQ.j0 k a c c).map aQ.enc else (aQ.j0 k a c false).map aQ.enc else (aQ.j0 k a c true).map aQ.enc else if (b == 4) then (aQ.j0 k a c c).map aQ.enc else (aQ.j0 k a c false).map aQ.enc else (aQ.j0 k a c true).map aQ.enc else (aQ.j0 k a c true).map aQ.enc) (by rw [aQ.f] at h; exact Eq.trans (Eq.symm mt2) h)
 ·cases h
def f_.enc (r : Bool) : AV := .v (.bool r)
def f_.app : List AV → (AV → Option AV) → Option AV := fun l K => match l with
 | [.v (.int .i64 a), .v (.bool b), .v (.bool c), .v (.int .u64 d)] => (f_.f a b c d).bind fun r => K (f_.enc r)
 | _ => none
def f_.E : Env := ⟨31, tys, [], [], [], false, [4], false⟩
theorem f_.fok : FO 251 f251 (gQ f251) (f_.E) := fo jE func251 trivial
theorem f_.ok : AO 251 (f_.app) := iM stays mixed (f_.fok) (gU rfl) fun l K r h => by
 dsimp only [f_.app] at h
 split at h
 ·rename_i a b c d
  exact fin (enc := f_.enc) h rfl fun y h => by
   exact via (if (a == 4) then some (bA (!(!b))) else if (a == 3) then some (bA (!b)) else if (a == 0) then if (d == 2) then some (bA c) else some (bA (decide (d ≥ 2))) else if (a == 1) then some (bA (decide (d ≥ 2))) else if (a == 5) then some (bA (!c)) else some (bA false)) (by rw [f_.f] at h; exact Eq.trans (Eq.symm mt2) h)
 ·cases h
def aj.enc (r : List Int × Bool) : AV := .tup [.ro true .u64 r.1, .v (.bool r.2)]
def aj.app (k : Nat) : List AV → (AV → Option AV) → Option AV := fun l K => match l with
 | [.agg [.v (.bool a), .ro false .u64 b, .v (.int .i64 c), .v (.bool d)], .v (.int .i64 e), .v (.int .i64 f)] => (aj.f k a b c d e f).bind fun r => K (aj.enc r)
 | _ => none
def aj.p0 (k : Nat) : Pt := ⟨[.c [1, 1, 1, 0], .c [1, 1, 1, 1]], [(1, none, []), (8, some .u64, [])], [(3, [false])], [], [], fun s => match s with
 | ⟨[(1, .v (.int .i64 a)), (8, .ro true .u64 b), (3, .ptr 3 0)], [(3, .cells [.v (.bool c), .ro false .u64 d, .v (.int .i64 e), .v (.bool f)])]⟩ => (aj.j0 k a b c d e f).map aj.enc
 | _ => none⟩
def aj.p1 (k : Nat) : Pt := ⟨[.c [1, 1, 1, 1, 1, 0, 0], .c [1, 1, 1, 1, 1, 0, 1], .c [1, 1, 1, 1, 1, 1]], [(1, none, []), (8, some .u64, []), (9, none, [])], [(3, [false])], [], [], fun s => match s with
 | ⟨[(1, .v (.int .i64 a)), (8, .ro true .u64 b), (9, .v (.int .u64 c)), (3, .ptr 3 0)], [(3, .cells [.v (.bool d), .ro false .u64 e, .v (.int .i64 f), .v (.bool g)])]⟩ => (aj.j1 k a b c d e f g).map aj.enc
 | _ => none⟩
def aj.p2 (k : Nat) : Pt := ⟨[.c [1, 1, 1, 1, 1, 1, 0], .c [1, 1, 1, 1, 1, 1, 1]], [(1, none, []), (8, some .u64, []), (9, none, [])], [(3, [false])], [], [], fun s => match s with
 | ⟨[(1, .v (.int .i64 a)), (8, .ro true .u64 b), (9, .v (.int .u64 c)), (3, .ptr 3 0)], [(3, .cells [.v (.bool d), .ro false .u64 e, .v (.int .i64 f), .v (.bool g)])]⟩ => (aj.j2 k a b c d e f g).map aj.enc
 | _ => none⟩
def aj.p3 (k : Nat) : Pt := ⟨[.c [1, 1, 1, 1, 1, 1, 1, 1, 0, 0], .c [1, 1, 1, 1, 1, 1, 1, 1, 0, 1], .c [1, 1, 1, 1, 1, 1, 1, 1, 1]], [(1, none, []), (9, none, []), (10, some .u64, []), (12, none, [])], [(3, [false])], [], [], fun s => match s with
 | ⟨[(1, .v (.int .i64 a)), (9, .v (.int .u64 b)), (10, .ro true .u64 c), (12, .v (.bool d)), (3, .ptr 3 0)], [(3, .cells [.v (.bool e), .ro false .u64 f, .v (.int .i64 g), .v (.bool i)])]⟩ => (aj.j3 k a b c d e f g i).map aj.enc
 | _ => none⟩
def aj.E (k : Nat) : Env := ⟨82, tys, [(249, lg.app), (89, fA.app), (250, lu.app), (251, f_.app), (104, iJ.app)], [(5, aj.p0 k), (8, aj.p1 k), (10, aj.p2 k), (12, aj.p3 k)], [], false, [73, 4], false⟩
theorem aj.fok (k : Nat) : FO 214 f214 (gQ f214) (aj.E k) := fo jE func214 ⟨lg.ok, ⟨fA.ok, ⟨lu.ok, ⟨f_.ok, ⟨iJ.ok, trivial⟩⟩⟩⟩⟩
theorem aj.s0 : nR f214 aj.E aj.p0 := fun k s r h => by
 dsimp only [aj.p0] at h
 split at h
 ·rename_i a b c d e f
  rcases k with _ | k
  ·cases h
  exact ⟨k, rfl, via (if (decide ((b.length : Int) > 0)) then if (0 : Int) ≤ 0 then if 0 < (b.length : Int) then (aj.j1 k a b (Go.bits .and .u64 (rd b 0) 3) c d e f).map aj.enc else none else none else (aj.j1 k a b 0 c d e f).map aj.enc) (by rw [aj.j0] at h; exact Eq.trans (Eq.symm mt2) h)⟩
 ·cases h
theorem aj.s1 : nR f214 aj.E aj.p1 := fun k s r h => by
 dsimp only [aj.p1] at h
 split at h
 ·rename_i a b c d e f g
  rcases k with _ | k
  ·cases h
  exact ⟨k, rfl, via (if g then (aj.j2 k a b (Go.bits .or .u64 c 1) d e f g).map aj.enc else (aj.j2 k a b c d e f g).map aj.enc) (by rw [aj.j1] at h; exact Eq.trans (Eq.symm mt2) h)⟩
 ·cases h
theorem aj.s2 : nR f214 aj.E aj.p2 := fun k s r h => by
 dsimp only [aj.p2] at h
 split at h
 ·rename_i a b c d e f g
  rcases k with _ | k
  ·cases h
  exact ⟨k, rfl, via ((lu.f b 2).bind fun i => if (decide ((i.1.length : Int) > 0)) then if (0 : Int) ≤ 0 then if 0 < (i.1.length : Int) then (aj.j3 k a c i.1 ((Go.bits .and .u64 (rd i.1 0) 1) == 1) d e f g).map aj.enc else none else none else (aj.j3 k a c i.1 false d e f g).map aj.enc) (by rw [aj.j2] at h; exact Eq.trans (Eq.symm mt2) h)⟩
 ·cases h
theorem aj.s3 : nR f214 aj.E aj.p3 := fun k s r h => by
 dsimp only [aj.p3] at h
 split at h
 ·rename_i a b c d e f g i
  rcases k with _ | k
  ·cases h
  exact ⟨k, rfl, via (if (b != 0) then (f_.f a e d b).bind fun j => if j then (iJ.f c ([1] : List Int)).bind fun m => some (.tup [rA m, bA (b != 0)]) else some (.tup [rA c, bA (b != 0)]) else some (.tup [rA c, bA (b != 0)])) (by rw [aj.j3] at h; exact Eq.trans (Eq.symm mt2) h)⟩
 ·cases h
theorem aj.pts : ∀ k, mD prog (gQ f214) (aj.E k) GOk (Fin prog f214) := mP stays mixed aj.fok [(5, aj.p0), (8, aj.p1), (10, aj.p2), (12, aj.p3)] ⟨aj.s0, aj.s1, aj.s2, aj.s3, trivial⟩
theorem aj.ok (k : Nat) : AO 214 (aj.app k) := iM stays mixed (aj.fok k) (aj.pts k) fun l K r h => by
 dsimp only [aj.app] at h
 split at h
 ·rename_i a b c d e f
  exact fin (enc := aj.enc) h rfl fun y h => by
   exact via (if (decide ((wrap64 (f - c)) ≥ 2)) then (lg.f b (wrap64 ((wrap64 (f - c)) - 2))).bind fun g => (aj.j0 k e g.1 a b c d).map aj.enc else (fA.f b (wrap64 (2 - (wrap64 (f - c))))).bind fun i => (aj.j0 k e i.1 a b c d).map aj.enc) (by rw [aj.f] at h; exact Eq.trans (Eq.symm mt2) h)
 ·cases h
def dw.enc (r : Bool) : AV := .v (.bool r)
def dw.app (k : Nat) : List AV → (AV → Option AV) → Option AV := fun l K => match l with
 | [.agg [.v (.bool a), .ro false .u64 b, .v (.int .i64 c), .v (.bool d)], .agg [.v (.int .i64 e), .v (.int .i64 f), .v (.int .i64 g), .v (.int .i64 i)], .v (.int .i64 j), .v (.int .i64 m)] => (dw.f k a b c d e f g i j m).bind fun r => K (dw.enc r)
 | _ => none
def dw.E (k : Nat) : Env := ⟨36, tys, [(214, aj.app k), (182, iG.app)], [], [(4, [0, 1, 2, 3, 4, 7, 8, 5, 6, 9, 10])], false, [4], false⟩
theorem dw.fok (k : Nat) : FO 215 f215 (gQ f215) (dw.E k) := fo jE func215 ⟨aj.ok k, ⟨iG.ok, trivial⟩⟩
theorem dw.ok (k : Nat) : AO 215 (dw.app k) := iM stays mixed (dw.fok k) (gU rfl) fun l K r h => by
 dsimp only [dw.app] at h
 split at h
 ·rename_i a b c d e f g i j m
  exact fin (enc := dw.enc) h rfl fun y h => by
   exact via (if (decide (m ≥ g)) then some (bA false) else (aj.f k a b c d j (wrap64 ((wrap64 (m - f)) + 1))).bind fun n => (iG.f n.1).bind fun o => some (bA (decide ((wrap64 ((wrap64 (m - f)) + o)) < g)))) (by rw [dw.f] at h; exact Eq.trans (Eq.symm mt2) h)
 ·cases h
def aA.enc (r : Int × Int) : AV := .tup [.v (.int .u64 r.1), .v (.int .i64 r.2)]
def aA.app (k : Nat) : List AV → (AV → Option AV) → Option AV := fun l K => match l with
 | [.agg [.v (.bool a), .ro false .u64 b, .v (.int .i64 c), .v (.bool d)], .v (.int .i64 e), .agg [.v (.int .i64 f), .v (.int .i64 g), .v (.int .i64 i), .v (.int .i64 j)], .v (.int .i64 m)] => (aA.f k a b c d e f g i j m).bind fun r => K (aA.enc r)
 | _ => none
def aA.p0 (k : Nat) : Pt := ⟨[.c [1, 1, 1, 1, 1, 1, 1, 1, 0, 0], .c [1, 1, 1, 1, 1, 1, 1, 1, 0, 1], .c [1, 1, 1, 1, 1, 1, 1, 1, 1]], [(1, none, []), (3, none, []), (10, none, []), (12, none, []), (13, some .u64, []), (14, none, []), (15, none, [])], [(4, [false]), (6, [])], [], [], fun s => match s with
 | ⟨[(1, .v (.int .i64 a)), (3, .v (.int .i64 b)), (10, .v (.int .i64 c)), (12, .v (.int .i64 d)), (13, .ro true .u64 e), (14, .v (.bool f)), (15, .v (.int .u64 g)), (4, .ptr 4 0), (6, .ptr 6 0)], [(4, .cells [.v (.bool i), .ro false .u64 j, .v (.int .i64 m), .v (.bool n)]), (6, .cells [.v (.int .i64 o), .v (.int .i64 p), .v (.int .i64 q), .v (.int .i64 t)])]⟩ => (aA.j0 k a b c d e f g i j m n o p q t).map aA.enc
 | _ => none⟩
def aA.p1 (k : Nat) : Pt := ⟨[.c [1, 1, 1, 1, 1, 1, 1, 1, 1, 1, 0, 0], .c [1, 1, 1, 1, 1, 1, 1, 1, 1, 1, 0, 1], .c [1, 1, 1, 1, 1, 1, 1, 1, 1, 1, 1]], [(3, none, []), (10, none, []), (14, none, []), (15, none, [])], [(4, [false]), (6, [])], [], [], fun s => match s with
 | ⟨[(3, .v (.int .i64 a)), (10, .v (.int .i64 b)), (14, .v (.bool c)), (15, .v (.int .u64 d)), (4, .ptr 4 0), (6, .ptr 6 0)], [(4, .cells [.v (.bool e), .ro false .u64 f, .v (.int .i64 g), .v (.bool i)]), (6, .cells [.v (.int .i64 j), .v (.int .i64 m), .v (.int .i64 n), .v (.int .i64 o)])]⟩ => (aA.j1 k a b c d e f g i j m n o).map aA.enc
 | _ => none⟩
def aA.E (k : Nat) : Env := ⟨95, tys, [(212, dQ.app), (213, aQ.app k), (214, aj.app k), (182, iG.app), (215, dw.app k)], [(10, aA.p0 k), (14, aA.p1 k)], [(10, [0, 1, 5, 6, 2, 3, 4, 7])], false, [22, 23], false⟩
theorem aA.fok (k : Nat) : FO 143 f143 (gQ f143) (aA.E k) := fo jE func143 ⟨dQ.ok, ⟨aQ.ok k, ⟨aj.ok k, ⟨iG.ok, ⟨dw.ok k, trivial⟩⟩⟩⟩⟩
theorem aA.s0 : nR f143 aA.E aA.p0 := fun k s r h => by
 dsimp only [aA.p0] at h
 split at h
 ·rename_i a b c d e f g i j m n o p q t
  rcases k with _ | k
  ·cases h
  exact ⟨k, rfl, via ((iG.f e).bind fun u => if (decide ((wrap64 ((wrap64 (d + u)) - 1)) > t)) then (aQ.f k a b i).bind fun v => some (.tup [uA v, iA 20]) else if i then if 0 ≤ wrap64 (o - 1) then (aA.j1 k b c f (Go.bits .or .u64 g (shl .u64 1 (wrap64 (o - 1)))) i j m n o p q t).map aA.enc else none else (aA.j1 k b c f g i j m n o p q t).map aA.enc) (by rw [aA.j0] at h; exact Eq.trans (Eq.symm mt2) h)⟩
 ·cases h
theorem aA.s1 : nR f143 aA.E aA.p1 := fun k s r h => by
 dsimp only [aA.p1] at h
 split at h
 ·rename_i a b c d e f g i j m n o
  rcases k with _ | k
  ·cases h
  exact ⟨k, rfl, via (if (!c) then some (.tup [uA d, iA 0]) else (dw.f k e f g i j m n o a b).bind fun p => if p then some (.tup [uA d, iA 24]) else some (.tup [uA d, iA 16])) (by rw [aA.j1] at h; exact Eq.trans (Eq.symm mt2) h)⟩
 ·cases h
theorem aA.pts : ∀ k, mD prog (gQ f143) (aA.E k) GOk (Fin prog f143) := mP stays mixed aA.fok [(10, aA.p0), (14, aA.p1)] ⟨aA.s0, aA.s1, trivial⟩
theorem aA.ok (k : Nat) : AO 143 (aA.app k) := iM stays mixed (aA.fok k) (aA.pts k) fun l K r h => by
 dsimp only [aA.app] at h
 split at h
 ·rename_i a b c d e f g i j m
  exact fin (enc := aA.enc) h rfl fun y h => by
   exact via ((dQ.f a b c d).bind fun n => if (decide (n > j)) then (aQ.f k e m a).bind fun o => some (.tup [uA o, iA 20]) else (aj.f k a b c d m (wrap64 ((wrap64 ((mx n i) - g)) + 1))).bind fun p => if 0 ≤ wrap64 (g - 1) then if (decide ((p.1.length : Int) > 0)) then if (0 : Int) ≤ 0 then if 0 < (p.1.length : Int) then (aA.j0 k e m n (wrap64 ((wrap64 ((mx n i) - g)) + 1)) p.1 p.2 (IntKind.wrap .u64 ((shl .u64 (IntKind.wrap .u64 (wrap64 ((wrap64 ((wrap64 ((mx n i) - g)) + 1)) - (wrap64 ((wrap64 (i - g)) + 1))))) (wrap64 (g - 1))) + (rd p.1 0))) a b c d f g i j).map aA.enc else none else none else (aA.j0 k e m n (wrap64 ((wrap64 ((mx n i) - g)) + 1)) p.1 p.2 (shl .u64 (IntKind.wrap .u64 (wrap64 ((wrap64 ((wrap64 ((mx n i) - g)) + 1)) - (wrap64 ((wrap64 (i - g)) + 1))))) (wrap64 (g - 1))) a b c d f g i j).map aA.enc else none) (by rw [aA.f] at h; exact Eq.trans (Eq.symm mt2) h)
 ·cases h
def bJ.enc (r : Int × Int × Int) : AV := .tup [.v (.int .u64 r.1), .v (.int .i64 r.2.1), .v (.int .i64 r.2.2)]
def bJ.app (k : Nat) : List AV → (AV → Option AV) → Option AV := fun l K => match l with
 | [.v (.int .i64 a), .v (.int .i64 b), .v (.bool c), .ro false .u64 d, .ro false .u64 e, .v (.int .i64 f)] => (bJ.f k a b c d e f).bind fun r => K (bJ.enc r)
 | _ => none
def bJ.p0 (k : Nat) : Pt := ⟨[.c [1, 1, 1, 1, 0, 0, 1, 1, 1], .b 0, .c [1, 1, 1, 1, 1]], [(0, none, []), (1, none, []), (2, none, []), (3, some .u64, []), (4, some .u64, []), (5, none, []), (40, none, [])], [(15, [])], [], [], fun s => match s with
 | ⟨[(0, .v (.int .i64 a)), (1, .v (.int .i64 b)), (2, .v (.bool c)), (3, .ro true .u64 d), (4, .ro true .u64 e), (5, .v (.int .i64 f)), (40, .v (.bool g)), (15, .ptr 15 0)], [(15, .cells [.v (.int .i64 i), .v (.int .i64 j), .v (.int .i64 m), .v (.int .i64 n)])]⟩ => (bJ.j0 k a b c d e f g i j m n).map bJ.enc
 | _ => none⟩
def bJ.E (k : Nat) : Env := ⟨84, tys, [(139, fZ.app), (140, jK.app), (141, jh.app), (142, aG.app k), (143, aA.app k)], [(100040, bJ.p0 k)], [], false, [22, 23, 24], false⟩
theorem bJ.fok (k : Nat) : FO 59 f59 (gQ f59) (bJ.E k) := fo jE func59 ⟨fZ.ok, ⟨jK.ok, ⟨jh.ok, ⟨aG.ok k, ⟨aA.ok k, trivial⟩⟩⟩⟩⟩
theorem bJ.s0 : nR f59 bJ.E bJ.p0 := fun k s r h => by
 dsimp only [bJ.p0] at h
 split at h
 ·rename_i a b c d e f g i j m n
  rcases k with _ | k
  ·cases h
  exact ⟨k, rfl, via (if g then some (.tup [uA 0, iA 0, iA 30]) else if ((e.length : Int) == 0) then some (.tup [uA 0, iA 0, iA 10]) else if ((d.length : Int) == 0) then (jh.f a c).bind fun o => some (.tup [uA o.1, iA o.2.1, iA o.2.2]) else (aG.f k d e (wrap64 (j + 3))).bind fun p => (aA.f k c p.2.1 (wrap64 (p.2.2.1 + f)) p.2.2.2 a i j m n b).bind fun q => some (.tup [uA q.1, iA q.2, iA 0])) (by rw [bJ.j0] at h; exact Eq.trans (Eq.symm mt2) h)⟩
 ·cases h
theorem bJ.pts : ∀ k, mD prog (gQ f59) (bJ.E k) GOk (Fin prog f59) := mP stays mixed bJ.fok [(100040, bJ.p0)] ⟨bJ.s0, trivial⟩
theorem bJ.ok (k : Nat) : AO 59 (bJ.app k) := iM stays mixed (bJ.fok k) (bJ.pts k) fun l K r h => by
 dsimp only [bJ.app] at h
 split at h
 ·rename_i a b c d e f
  exact fin (enc := bJ.enc) h rfl fun y h => by
   exact via ((fZ.f a b).bind fun g => if (g.2.2.2.2 != 0) then some (.tup [uA 0, iA 0, iA g.2.2.2.2]) else (jK.f d).bind fun i => (jK.f e).bind fun j => if (decide ((wrap64 ((i.length : Int) + (j.length : Int))) > 1024)) then some (.tup [uA 0, iA 0, iA 5]) else if (decide (f < (-40000))) = false then (bJ.j0 k a b c i j f (decide (f > 40000)) g.1 g.2.1 g.2.2.1 g.2.2.2.1).map bJ.enc else (bJ.j0 k a b c i j f true g.1 g.2.1 g.2.2.1 g.2.2.2.1).map bJ.enc) (by rw [bJ.f] at h; exact Eq.trans (Eq.symm mt2) h)
 ·cases h
def dH.enc (r : List Int) : AV := .ro true .u64 r
def dH.app : List AV → (AV → Option AV) → Option AV := fun l K => match l with
 | [.v (.int .i64 a)] => (dH.f a).bind fun r => K (dH.enc r)
 | _ => none
def dH.E : Env := ⟨11, tys, [(91, gB.app)], [], [], false, [73], false⟩
theorem dH.fok : FO 60 f60 (gQ f60) (dH.E) := fo jE func60 ⟨gB.ok, trivial⟩
theorem dH.ok : AO 60 (dH.app) := iM stays mixed (dH.fok) (gU rfl) fun l K r h => by
 dsimp only [dH.app] at h
 split at h
 ·rename_i a
  exact fin (enc := dH.enc) h rfl fun y h => by
   exact via ((gB.f 10 a).bind fun b => some (rA b.1)) (by rw [dH.f] at h; exact Eq.trans (Eq.symm mt2) h)
 ·cases h
def bV.enc (r : Int × Int × Int) : AV := .tup [.v (.int .u64 r.1), .v (.int .i64 r.2.1), .v (.int .i64 r.2.2)]
def bV.app (k : Nat) : List AV → (AV → Option AV) → Option AV := fun l K => match l with
 | [.v (.int .i64 a), .v (.int .i64 b), .v (.string c)] => (bV.f k a b c).bind fun r => K (bV.enc r)
 | _ => none
def bV.E (k : Nat) : Env := ⟨121, tys, [(52, bg.app), (53, dR.app), (54, au.app k), (55, fM.app), (56, dM.app), (57, jw.app), (58, gZ.app), (37, jH.app), (60, dH.app), (59, bJ.app k), (61, gY.app)], [], [(17, [0, 1, 2, 3, 4, 5, 6, 7, 8, 9, 10, 11, 12, 13, 14])], false, [22, 23, 24], false⟩
theorem bV.fok (k : Nat) : FO 14 f14 (gQ f14) (bV.E k) := fo jE func14 ⟨bg.ok, ⟨dR.ok, ⟨au.ok k, ⟨fM.ok, ⟨dM.ok, ⟨jw.ok, ⟨gZ.ok, ⟨jH.ok, ⟨dH.ok, ⟨bJ.ok k, ⟨gY.ok, trivial⟩⟩⟩⟩⟩⟩⟩⟩⟩⟩⟩
theorem bV.ok (k : Nat) : AO 14 (bV.app k) := iM stays mixed (bV.fok k) (gU rfl) fun l K r h => by
 dsimp only [bV.app] at h
 split at h
 ·rename_i a b c
  exact fin (enc := bV.enc) h rfl fun y h => by
   exact via ((bg.f a).bind fun d => if (d.2.2.2.2 != 0) then some (.tup [uA 0, iA 0, iA d.2.2.2.2]) else (dR.f b).bind fun e => if (!e) then some (.tup [uA 0, iA 0, iA 3]) else if (decide ((c.size : Int) > 2000)) then some (.tup [uA 0, iA 0, iA 5]) else (au.f k c).bind fun f => if (!f.2.2.2.2) then some (.tup [uA 0, iA 0, iA 8]) else (fM.f f.2.2.1 (⟨#[48]⟩ : ByteArray)).bind fun g => if (f.2.1.toList == (⟨#[105, 110, 102]⟩ : ByteArray).toList) then (dM.f a f.1).bind fun i => some (.tup [uA i.1, iA 0, iA i.2]) else if (f.2.1.toList == (⟨#[110, 97, 110]⟩ : ByteArray).toList) then (jw.f a).bind fun j => some (.tup [uA j.1, iA 0, iA j.2]) else if (g.toList == (⟨#[]⟩ : ByteArray).toList) then (gZ.f a f.1).bind fun m => some (.tup [uA m.1, iA 0, iA m.2]) else (jH.f g).bind fun n => if (decide ((mx (wrap64 ((-400) - (g.size : Int))) (mn f.2.2.2.1 (wrap64 (400 - (g.size : Int))))) < 0)) then (dH.f (wrap64 (-(mx (wrap64 ((-400) - (g.size : Int))) (mn f.2.2.2.1 (wrap64 (400 - (g.size : Int)))))))).bind fun o => (bJ.f k a b f.1 n.1 o 0).bind fun p => some (.tup [uA p.1, iA p.2.1, iA p.2.2]) else (dH.f (mx (wrap64 ((-400) - (g.size : Int))) (mn f.2.2.2.1 (wrap64 (400 - (g.size : Int)))))).bind fun q => (gY.f n.1 q).bind fun t => (bJ.f k a b f.1 t.1 ([1] : List Int) 0).bind fun u => some (.tup [uA u.1, iA u.2.1, iA u.2.2])) (by rw [bV.f] at h; exact Eq.trans (Eq.symm mt2) h)
 ·cases h
def bW.enc (r : Int × Int × Int × Int × Bool) : AV := .tup [.agg [.v (.int .i64 r.1), .v (.int .i64 r.2.1), .v (.int .i64 r.2.2.1), .v (.int .i64 r.2.2.2.1)], .v (.bool r.2.2.2.2)]
def bW.app : List AV → (AV → Option AV) → Option AV := fun l K => match l with
 | [.v (.int .i64 a)] => (bW.f a).bind fun r => K (bW.enc r)
 | _ => none
def bW.E : Env := ⟨18, tys, [], [], [], false, [201, 4], false⟩
def gW.enc (r : Int) : AV := .v (.int .i64 r)
def gW.app : List AV → (AV → Option AV) → Option AV := fun l K => match l with
 | [.v (.int .i64 a), .v (.int .u64 b)] => (gW.f a b).bind fun r => K (gW.enc r)
 | _ => none
def gW.E : Env := ⟨25, tys, [(145, bW.app)], [], [], false, [3], false⟩
def bK.enc (r : Int) : AV := .v (.int .i64 r)
def bK.app (k : Nat) : List AV → (AV → Option AV) → Option AV := fun l K => match l with
 | [.v (.int .i64 a), .v (.int .i64 b), .ro false .u64 c] => (bK.f k a b c).bind fun r => K (bK.enc r)
 | _ => none
def bK.p0 (k : Nat) : Pt := ⟨[.c [1, 1, 1, 1, 0, 1, 0, 0, 0], .c [1, 1, 1, 1, 0, 1, 0, 0, 1], .l [1, 1, 1, 1, 0, 1, 0, 0], .b 0, .c [1, 1, 1, 1, 1]], [(0, none, []), (25, some .u64, [false]), (26, none, []), (27, none, [])], [], [], [7], fun s => match s with
 | ⟨[(0, .v (.int .i64 a)), (25, .ro false .u64 b), (26, .v (.int .i64 c)), (27, .v (.int .i64 d)), (7, .ptr 7 0)], [(7, .cells [.top, .top, .top, .top])]⟩ => (bK.l0 k a b c d).map bK.enc
 | _ => none⟩
def bK.p1 (k : Nat) : Pt := ⟨[.c [1, 1, 1, 0, 1], .c [1, 1, 1, 1]], [(0, none, []), (2, some .u64, [false]), (24, none, [])], [], [], [7], fun s => match s with
 | ⟨[(0, .v (.int .i64 a)), (2, .ro false .u64 b), (24, .v (.bool c)), (7, .ptr 7 0)], [(7, .cells [.top, .top, .top, .top])]⟩ => (bK.j0 k a b c).map bK.enc
 | _ => none⟩
def bK.E (k : Nat) : Env := ⟨38, tys, [(145, bW.app), (79, gW.app)], [(7, bK.p0 k), (100024, bK.p1 k)], [], false, [3], false⟩
def dK.enc (r : ByteArray) : AV := .v (.string r)
def dK.app (k : Nat) : List AV → (AV → Option AV) → Option AV := fun l K => match l with
 | [.v (.string a)] => (dK.f k a).bind fun r => K (dK.enc r)
 | _ => none
def dK.p0 (k : Nat) : Pt := ⟨[.c [1, 1, 0, 1, 0, 0, 0, 0], .c [1, 1, 0, 1, 0, 0, 0, 1], .c [1, 1, 0, 1, 0, 0, 1], .l [1, 1, 0, 1, 0, 0], .b 0, .c [1, 1, 1]], [(0, none, []), (3, none, []), (4, none, [])], [], [], [], fun s => match s with
 | ⟨[(0, .v (.string a)), (3, .v (.string b)), (4, .v (.int .i64 c))], []⟩ => (dK.l0 k a b c).map dK.enc
 | _ => none⟩
def dK.E (k : Nat) : Env := ⟨29, tys, [], [(3, dK.p0 k)], [], false, [9], false⟩
def gX.enc (r : Bool) : AV := .v (.bool r)
def gX.app : List AV → (AV → Option AV) → Option AV := fun l K => match l with
 | [.v (.int .u8 a)] => (gX.f a).bind fun r => K (gX.enc r)
 | _ => none
def gX.E : Env := ⟨9, tys, [], [], [], false, [4], false⟩
def aK.enc (r : Int × Bool) : AV := .tup [.v (.int .i64 r.1), .v (.bool r.2)]
def aK.app (k : Nat) : List AV → (AV → Option AV) → Option AV := fun l K => match l with
 | [.v (.string a)] => (aK.f k a).bind fun r => K (aK.enc r)
 | _ => none
def aK.p0 (k : Nat) : Pt := ⟨[.c [1, 1, 0, 0], .c [1, 1, 0, 1], .c [1, 1, 1]], [(0, none, []), (4, none, [])], [], [], [], fun s => match s with
 | ⟨[(0, .v (.string a)), (4, .v (.bool b))], []⟩ => (aK.j0 k a b).map aK.enc
 | _ => none⟩
def aK.p1 (k : Nat) : Pt := ⟨[.c [1, 1, 1, 0], .c [1, 1, 1, 1]], [(0, none, []), (4, none, [])], [], [], [], fun s => match s with
 | ⟨[(0, .v (.string a)), (4, .v (.bool b))], []⟩ => (aK.j2 k a b).map aK.enc
 | _ => none⟩
def aK.p2 (k : Nat) : Pt := ⟨[.c [1, 1, 1, 1, 0, 1, 0, 0, 0, 0], .c [1, 1, 1, 1, 0, 1, 0, 0, 0, 1], .c [1, 1, 1, 1, 0, 1, 0, 0, 1], .l [1, 1, 1, 1, 0, 1, 0, 0], .b 0, .c [1, 1, 1, 1, 1]], [(0, none, []), (4, none, []), (5, none, []), (6, none, [])], [], [], [], fun s => match s with
 | ⟨[(0, .v (.string a)), (4, .v (.bool b)), (5, .v (.int .i64 c)), (6, .v (.int .i64 d))], []⟩ => (aK.l0 k a b c d).map aK.enc
 | _ => none⟩
def aK.p3 (k : Nat) : Pt := ⟨[.c [1, 1, 0, 1], .c [1, 1, 1]], [(0, none, []), (4, none, []), (27, none, [])], [], [], [], fun s => match s with
 | ⟨[(0, .v (.string a)), (4, .v (.bool b)), (27, .v (.bool c))], []⟩ => (aK.j1 k a b c).map aK.enc
 | _ => none⟩
def aK.E (k : Nat) : Env := ⟨57, tys, [(147, gX.app)], [(2, aK.p0 k), (4, aK.p1 k), (6, aK.p2 k), (100027, aK.p3 k)], [], false, [3, 4], false⟩
def aI.enc (r : Bool × Bool × Bool × ByteArray × Int × Bool) : AV := .tup [.agg [.v (.bool r.1), .v (.bool r.2.1), .v (.bool r.2.2.1), .v (.string r.2.2.2.1), .v (.int .i64 r.2.2.2.2.1)], .v (.bool r.2.2.2.2.2)]
def aI.app (k : Nat) : List AV → (AV → Option AV) → Option AV := fun l K => match l with
 | [.v (.string a)] => (aI.f k a).bind fun r => K (aI.enc r)
 | _ => none
def aI.p0 (k : Nat) : Pt := ⟨[.c [1, 1, 1, 0, 0], .c [1, 1, 1, 0, 1], .c [1, 1, 1, 1]], [(0, none, [])], [(4, [])], [], [2], fun s => match s with
 | ⟨[(0, .v (.string a)), (4, .ptr 4 0), (2, .ptr 2 0)], [(4, .cells [.v (.bool b), .v (.bool c), .v (.bool d), .v (.string e), .v (.int .i64 f)]), (2, .cells [.top, .top, .top, .top, .top])]⟩ => (aI.j1 k a b c d e f).map aI.enc
 | _ => none⟩
def aI.p1 (k : Nat) : Pt := ⟨[.c [1, 1, 1, 1, 0], .c [1, 1, 1, 1, 1]], [(0, none, [])], [(4, [])], [], [2], fun s => match s with
 | ⟨[(0, .v (.string a)), (4, .ptr 4 0), (2, .ptr 2 0)], [(4, .cells [.v (.bool b), .v (.bool c), .v (.bool d), .v (.string e), .v (.int .i64 f)]), (2, .cells [.top, .top, .top, .top, .top])]⟩ => (aI.j2 k a b c d e f).map aI.enc
 | _ => none⟩
def aI.p2 (k : Nat) : Pt := ⟨[.c [1, 1, 1, 1, 1, 0, 1, 0, 0, 0, 0], .c [1, 1, 1, 1, 1, 0, 1, 0, 0, 0, 1], .c [1, 1, 1, 1, 1, 0, 1, 0, 0, 1], .l [1, 1, 1, 1, 1, 0, 1, 0, 0], .b 0, .c [1, 1, 1, 1, 1, 1]], [(0, none, []), (5, none, []), (6, none, [])], [(4, [])], [], [2], fun s => match s with
 | ⟨[(0, .v (.string a)), (5, .v (.int .i64 b)), (6, .v (.int .i64 c)), (4, .ptr 4 0), (2, .ptr 2 0)], [(4, .cells [.v (.bool d), .v (.bool e), .v (.bool f), .v (.string g), .v (.int .i64 i)]), (2, .cells [.top, .top, .top, .top, .top])]⟩ => (aI.l0 k a b c d e f g i).map aI.enc
 | _ => none⟩
def aI.p3 (k : Nat) : Pt := ⟨[.c [1, 1, 0, 1], .c [1, 1, 1]], [(0, none, []), (22, none, [])], [(4, [])], [], [2], fun s => match s with
 | ⟨[(0, .v (.string a)), (22, .v (.bool b)), (4, .ptr 4 0), (2, .ptr 2 0)], [(4, .cells [.v (.bool c), .v (.bool d), .v (.bool e), .v (.string f), .v (.int .i64 g)]), (2, .cells [.top, .top, .top, .top, .top])]⟩ => (aI.j0 k a b c d e f g).map aI.enc
 | _ => none⟩
def aI.p4 (k : Nat) : Pt := ⟨[.c [1, 1, 1, 1, 1, 0, 1, 0, 0, 1, 0, 0, 0, 1, 1, 1], .b 2, .b 1, .c [1, 1, 1, 1, 1, 0, 1, 0, 0, 1, 1], .l [1, 1, 1, 1, 1, 0, 1, 0, 0], .b 0, .c [1, 1, 1, 1, 1, 1]], [(0, none, []), (5, none, []), (6, none, []), (72, none, [])], [(4, [])], [], [2], fun s => match s with
 | ⟨[(0, .v (.string a)), (5, .v (.int .i64 b)), (6, .v (.int .i64 c)), (72, .v (.bool d)), (4, .ptr 4 0), (2, .ptr 2 0)], [(4, .cells [.v (.bool e), .v (.bool f), .v (.bool g), .v (.string i), .v (.int .i64 j)]), (2, .cells [.top, .top, .top, .top, .top])]⟩ => (aI.j4 k a b c d e f g i j).map aI.enc
 | _ => none⟩
def aI.x23 (k : Nat) (x8 : Bool) (x5000 : Bool) (x5001 : Bool) (x5002 : Bool) (x5003 : ByteArray) (x5004 : Int) : Option AV := if x8 then some (.tup [.agg [bA x5000, bA x5001, bA x5002, sA x5003, iA x5004], bA (x5003.toList != (⟨#[]⟩ : ByteArray).toList)]) else some (.tup [.agg [bA x5000, bA x5001, bA x5002, sA x5003, iA x5004], bA false])
def aI.q23 (k : Nat) : Pt := ⟨[.c [1, 1, 1, 1, 1, 0, 1, 0, 0, 1, 0, 0, 0, 1, 1, 1, 1, 1, 0, 1, 1, 0], .c [1, 1, 1, 1, 1, 0, 1, 0, 0, 1, 0, 0, 0, 1, 1, 1, 1, 1, 0, 1, 1, 1], .b 2, .b 1, .c [1, 1, 1, 1, 1, 0, 1, 0, 0, 1, 1], .l [1, 1, 1, 1, 1, 0, 1, 0, 0], .b 0, .c [1, 1, 1, 1, 1, 1]], [(8, none, [])], [(4, [])], [], [2], fun s => match s with
 | ⟨[(8, .v (.bool x8)), (4, .ptr 4 0), (2, .ptr 2 0)], [(4, .cells [.v (.bool x5000), .v (.bool x5001), .v (.bool x5002), .v (.string x5003), .v (.int .i64 x5004)]), (2, .cells [.top, .top, .top, .top, .top])]⟩ => aI.x23 k x8 x5000 x5001 x5002 x5003 x5004
 | _ => none⟩
def aI.x25 (k : Nat) (x5000 : Bool) (x5001 : Bool) (x5002 : Bool) (x5003 : ByteArray) (x5004 : Int) : Option AV := some (.tup [.agg [bA x5000, bA x5001, bA x5002, sA x5003, iA x5004], bA (x5003.toList != (⟨#[]⟩ : ByteArray).toList)])
def aI.q25 (k : Nat) : Pt := ⟨[.c [1, 1, 1, 1, 1, 1, 1, 0], .c [1, 1, 1, 1, 1, 1, 1, 1]], [], [(4, [])], [], [2], fun s => match s with
 | ⟨[(4, .ptr 4 0), (2, .ptr 2 0)], [(4, .cells [.v (.bool x5000), .v (.bool x5001), .v (.bool x5002), .v (.string x5003), .v (.int .i64 x5004)]), (2, .cells [.top, .top, .top, .top, .top])]⟩ => aI.x25 k x5000 x5001 x5002 x5003 x5004
 | _ => none⟩
def aI.E (k : Nat) : Env := ⟨120, tys, [(146, dK.app k), (147, gX.app), (148, aK.app k)], [(23, aI.q23 k), (25, aI.q25 k), (5, aI.p0 k), (9, aI.p1 k), (11, aI.p2 k), (100022, aI.p3 k), (100072, aI.p4 k)], [(15, [0, 1, 2, 3, 4, 5, 6, 7, 8, 9])], false, [104, 4], false⟩
def dX.enc (r : Int) : AV := .v (.int .u64 r)
def dX.app : List AV → (AV → Option AV) → Option AV := fun l K => match l with
 | [.v (.int .i64 a), .v (.int .u64 b), .v (.int .u64 c), .v (.int .u64 d)] => (dX.f a b c d).bind fun r => K (dX.enc r)
 | _ => none
def dX.E : Env := ⟨31, tys, [(145, bW.app)], [], [], false, [22], false⟩
def jW.enc (r : Int) : AV := .v (.int .u64 r)
def jW.app : List AV → (AV → Option AV) → Option AV := fun l K => match l with
 | [.v (.int .i64 a)] => (jW.f a).bind fun r => K (jW.enc r)
 | _ => none
def jW.E : Env := ⟨22, tys, [(145, bW.app), (149, dX.app)], [], [], false, [22], false⟩
def jo.enc (r : Int) : AV := .v (.int .u64 r)
def jo.app : List AV → (AV → Option AV) → Option AV := fun l K => match l with
 | [.v (.int .i64 a), .v (.int .u64 b)] => (jo.f a b).bind fun r => K (jo.enc r)
 | _ => none
def jo.E : Env := ⟨20, tys, [(145, bW.app), (149, dX.app)], [], [], false, [22], false⟩
def dN.enc (r : List Int) : AV := .ro true .u64 r
def dN.app (k : Nat) : List AV → (AV → Option AV) → Option AV := fun l K => match l with
 | [.ro false .u64 a] => (dN.f k a).bind fun r => K (dN.enc r)
 | _ => none
def dN.p0 (k : Nat) : Pt := ⟨[.c [1, 1, 0, 1, 0, 0, 0, 0], .c [1, 1, 0, 1, 0, 0, 0, 1], .c [1, 1, 0, 1, 0, 0, 1], .l [1, 1, 0, 1, 0, 0], .b 0, .c [1, 1, 1]], [(0, some .u64, [false]), (4, none, []), (2, some .u64, [])], [], [(3, .u64, 22)], [], fun s => match s with
 | ⟨[(0, .ro false .u64 a), (4, .v (.int .i64 b)), (2, .ro true .u64 []), (3, .own 3)], [(3, .ints .u64 22 c)]⟩ => (dN.l0 k a c b).map dN.enc
 | _ => none⟩
def dN.E (k : Nat) : Env := ⟨37, tys, [(154, dF.app)], [(3, dN.p0 k)], [(5, [0, 1, 2, 3, 4, 5, 6, 7, 8, 9, 10, 11, 12, 13, 14, 15, 16, 17, 18, 19])], false, [73], false⟩
def aT.enc (r : List Int × Int) : AV := .tup [.ro true .u64 r.1, .v (.int .i64 r.2)]
def aT.app (k : Nat) : List AV → (AV → Option AV) → Option AV := fun l K => match l with
 | [.v (.string a)] => (aT.f k a).bind fun r => K (aT.enc r)
 | _ => none
def aT.p0 (k : Nat) : Pt := ⟨[.c [1, 1, 1, 1, 1, 1, 0, 1, 0, 0, 0, 0], .c [1, 1, 1, 1, 1, 1, 0, 1, 0, 0, 0, 1], .c [1, 1, 1, 1, 1, 1, 0, 1, 0, 0, 1], .l [1, 1, 1, 1, 1, 1, 0, 1, 0, 0], .b 0, .c [1, 1, 1, 1, 1, 1, 1]], [(0, none, []), (5, none, []), (6, none, []), (7, none, [])], [], [(4, .u64, 22)], [], fun s => match s with
 | ⟨[(0, .v (.string a)), (5, .v (.int .u64 b)), (6, .v (.int .u64 c)), (7, .v (.int .i64 d)), (4, .own 4)], [(4, .ints .u64 22 e)]⟩ => (aT.l0 k a e b c d).map aT.enc
 | _ => none⟩
def aT.p1 (k : Nat) : Pt := ⟨[.c [1, 1, 1, 1, 1, 1, 0, 1, 0, 0, 1, 0, 0, 1, 1, 1, 1, 0, 1, 0, 1, 0, 0, 0, 0], .c [1, 1, 1, 1, 1, 1, 0, 1, 0, 0, 1, 0, 0, 1, 1, 1, 1, 0, 1, 0, 1, 0, 0, 0, 1], .c [1, 1, 1, 1, 1, 1, 0, 1, 0, 0, 1, 0, 0, 1, 1, 1, 1, 0, 1, 0, 1, 0, 0, 1], .l [1, 1, 1, 1, 1, 1, 0, 1, 0, 0, 1, 0, 0, 1, 1, 1, 1, 0, 1, 0, 1, 0, 0], .b 2, .c [1, 1, 1, 1, 1, 1, 0, 1, 0, 0, 1, 0, 0, 1, 1, 1, 1, 0, 1, 1], .b 1, .c [1, 1, 1, 1, 1, 1, 0, 1, 0, 0, 1, 1], .l [1, 1, 1, 1, 1, 1, 0, 1, 0, 0], .b 0, .c [1, 1, 1, 1, 1, 1, 1]], [(0, none, []), (6, none, []), (7, none, []), (8, none, []), (9, none, [])], [], [(4, .u64, 22)], [], fun s => match s with
 | ⟨[(0, .v (.string a)), (6, .v (.int .u64 b)), (7, .v (.int .i64 c)), (8, .v (.int .u64 d)), (9, .v (.int .i64 e)), (4, .own 4)], [(4, .ints .u64 22 f)]⟩ => (aT.l1 k a f b c d e).map aT.enc
 | _ => none⟩
def aT.p2 (k : Nat) : Pt := ⟨[.c [1, 1, 1, 1, 1, 1, 0, 1, 0, 0, 1, 0, 0, 0, 1], .c [1, 1, 1, 1, 1, 1, 0, 1, 0, 0, 1, 0, 0, 1], .b 1, .c [1, 1, 1, 1, 1, 1, 0, 1, 0, 0, 1, 1], .l [1, 1, 1, 1, 1, 1, 0, 1, 0, 0], .b 0, .c [1, 1, 1, 1, 1, 1, 1]], [(0, none, []), (5, none, []), (6, none, []), (7, none, []), (38, none, [])], [], [(4, .u64, 22)], [], fun s => match s with
 | ⟨[(0, .v (.string a)), (5, .v (.int .u64 b)), (6, .v (.int .u64 c)), (7, .v (.int .i64 d)), (38, .v (.bool e)), (4, .own 4)], [(4, .ints .u64 22 f)]⟩ => (aT.j1 k a f b c d e).map aT.enc
 | _ => none⟩
def aT.p3 (k : Nat) : Pt := ⟨[.c [1, 1, 1, 1, 1, 1, 0, 1, 0, 0, 1, 0, 0, 1, 1, 1, 1], .b 1, .c [1, 1, 1, 1, 1, 1, 0, 1, 0, 0, 1, 1], .l [1, 1, 1, 1, 1, 1, 0, 1, 0, 0], .b 0, .c [1, 1, 1, 1, 1, 1, 1]], [(0, none, []), (5, none, []), (6, none, []), (7, none, []), (58, none, [])], [], [(4, .u64, 22)], [], fun s => match s with
 | ⟨[(0, .v (.string a)), (5, .v (.int .u64 b)), (6, .v (.int .u64 c)), (7, .v (.int .i64 d)), (58, .v (.bool e)), (4, .own 4)], [(4, .ints .u64 22 f)]⟩ => (aT.j2 k a f b c d e).map aT.enc
 | _ => none⟩
def aT.E (k : Nat) : Env := ⟨93, tys, [(150, dN.app k)], [(9, aT.p0 k), (18, aT.p1 k), (100038, aT.p2 k), (100058, aT.p3 k)], [], false, [73, 3], false⟩
def jf.enc (r : Int) : AV := .v (.int .u64 r)
def jf.app : List AV → (AV → Option AV) → Option AV := fun l K => match l with
 | [.v (.int .i64 a), .v (.int .u64 b)] => (jf.f a b).bind fun r => K (jf.enc r)
 | _ => none
def jf.E : Env := ⟨8, tys, [(149, dX.app)], [], [], false, [22], false⟩
def aX.enc (r : Int) : AV := .v (.int .i64 r)
def aX.app (k : Nat) : List AV → (AV → Option AV) → Option AV := fun l K => match l with
 | [.ro false .u64 a] => (aX.f k a).bind fun r => K (aX.enc r)
 | _ => none
def aX.p0 (k : Nat) : Pt := ⟨[.c [1, 1, 0, 0, 0, 0, 0], .c [1, 1, 0, 0, 0, 0, 1], .c [1, 1, 0, 0, 0, 1], .l [1, 1, 0, 0, 0], .b 0, .c [1, 1, 1]], [(0, some .u64, [false]), (3, none, [])], [], [], [], fun s => match s with
 | ⟨[(0, .ro false .u64 a), (3, .v (.int .i64 b))], []⟩ => (aX.l0 k a b).map aX.enc
 | _ => none⟩
def aX.E (k : Nat) : Env := ⟨19, tys, [], [(2, aX.p0 k)], [], false, [3], false⟩
end Go.Proofs.YtafikkmnkeddpaaGreatDoor.P
set_option maxRecDepth 100000
namespace Go.Proofs.YtafikkmnkeddpaaGreatDoor.P
open Go.RowKit Go.Proofs.YtafikkmnkeddpaaGreatDoorW.PrintWords Go.Proofs.YtafikkmnkeddpaaGreatDoorW.PrintLast Go.Proofs.YtafikkmnkeddpaaGreatDoorW.PrintMore Go.Proofs.YtafikkmnkeddpaaGreatDoor.E Go.Proofs.Tryz
def dD.enc (r : List Int) : AV := .new 22 .u64 r
def dD.app (k : Nat) : List AV → (AV → Option AV) → Option AV := fun l K => match l with
 | [.ro false .u64 a] => (dD.f k a).bind fun r => K (dD.enc r)
 | _ => none
def dD.p0 (k : Nat) : Pt := ⟨[.c [1, 1, 1, 0, 1, 0, 0, 0, 0], .c [1, 1, 1, 0, 1, 0, 0, 0, 1], .c [1, 1, 1, 0, 1, 0, 0, 1], .l [1, 1, 1, 0, 1, 0, 0], .b 0, .c [1, 1, 1, 1]], [(0, some .u64, [false]), (3, none, []), (5, none, []), (2, some .u64, [])], [], [(4, .u64, 22)], [], fun s => match s with
 | ⟨[(0, .ro false .u64 a), (3, .v (.int .i64 b)), (5, .v (.int .i64 c)), (2, .ro true .u64 []), (4, .own 4)], [(4, .ints .u64 22 d)]⟩ => (dD.l0 k a b d c).map dD.enc
 | _ => none⟩
def dD.E (k : Nat) : Env := ⟨36, tys, [(151, aX.app k)], [(4, dD.p0 k)], [], false, [73], true⟩
def aC.enc (r : ByteArray × Int) : AV := .tup [.v (.string r.1), .v (.int .i64 r.2)]
def aC.app (k : Nat) : List AV → (AV → Option AV) → Option AV := fun l K => match l with
 | [.ro false .u64 a] => (aC.f k a).bind fun r => K (aC.enc r)
 | _ => none
def aC.p0 (k : Nat) : Pt := ⟨[.c [1, 1, 1, 1, 1, 1, 0, 0, 0, 0, 0], .c [1, 1, 1, 1, 1, 1, 0, 0, 0, 0, 1], .c [1, 1, 1, 1, 1, 1, 0, 0, 0, 1], .l [1, 1, 1, 1, 1, 1, 0, 0, 0], .b 0, .c [1, 1, 1, 1, 1, 1, 1]], [(6, none, [])], [], [(4, .u64, 22), (5, .u8, 5)], [], fun s => match s with
 | ⟨[(6, .v (.int .i64 a)), (4, .own 4), (5, .own 5)], [(4, .ints .u64 22 b), (5, .ints .u8 5 c)]⟩ => (aC.l0 k b c a).map aC.enc
 | _ => none⟩
def aC.p1 (k : Nat) : Pt := ⟨[.c [1, 1, 1, 1, 1, 1, 0, 0, 0, 1, 0, 1, 0, 1, 0, 0, 0, 0], .c [1, 1, 1, 1, 1, 1, 0, 0, 0, 1, 0, 1, 0, 1, 0, 0, 0, 1], .c [1, 1, 1, 1, 1, 1, 0, 0, 0, 1, 0, 1, 0, 1, 0, 0, 1], .l [1, 1, 1, 1, 1, 1, 0, 0, 0, 1, 0, 1, 0, 1, 0, 0], .b 2, .c [1, 1, 1, 1, 1, 1, 0, 0, 0, 1, 0, 1, 1], .b 1, .l [1, 1, 1, 1, 1, 1, 0, 0, 0], .b 0, .c [1, 1, 1, 1, 1, 1, 1]], [(6, none, []), (7, none, []), (8, none, [])], [], [(4, .u64, 22), (5, .u8, 5)], [], fun s => match s with
 | ⟨[(6, .v (.int .i64 a)), (7, .v (.int .u64 b)), (8, .v (.int .i64 c)), (4, .own 4), (5, .own 5)], [(4, .ints .u64 22 d), (5, .ints .u8 5 e)]⟩ => (aC.l1 k d e a b c).map aC.enc
 | _ => none⟩
def aC.p2 (k : Nat) : Pt := ⟨[.c [1, 1, 1, 1, 1, 1, 0, 0, 0, 1, 0, 1, 1, 0, 0, 0, 0, 0], .c [1, 1, 1, 1, 1, 1, 0, 0, 0, 1, 0, 1, 1, 0, 0, 0, 0, 1], .c [1, 1, 1, 1, 1, 1, 0, 0, 0, 1, 0, 1, 1, 0, 0, 0, 1], .l [1, 1, 1, 1, 1, 1, 0, 0, 0, 1, 0, 1, 1, 0, 0, 0], .b 4, .c [1, 1, 1, 1, 1, 1, 0, 0, 0, 1, 0, 1, 1, 1], .b 1, .l [1, 1, 1, 1, 1, 1, 0, 0, 0], .b 0, .c [1, 1, 1, 1, 1, 1, 1]], [(6, none, []), (7, none, [])], [], [(4, .u64, 22), (5, .u8, 5)], [], fun s => match s with
 | ⟨[(6, .v (.int .i64 a)), (7, .v (.int .u64 b)), (4, .own 4), (5, .own 5)], [(4, .ints .u64 22 c), (5, .ints .u8 5 d)]⟩ => (aC.l2 k c d a b).map aC.enc
 | _ => none⟩
def aC.p3 (k : Nat) : Pt := ⟨[.c [1, 1, 1, 1, 1, 1, 0, 0, 0, 1, 0, 1, 1, 1, 0], .c [1, 1, 1, 1, 1, 1, 0, 0, 0, 1, 0, 1, 1, 1, 1], .b 1, .l [1, 1, 1, 1, 1, 1, 0, 0, 0], .b 0, .c [1, 1, 1, 1, 1, 1, 1]], [(6, none, []), (7, none, [])], [], [(4, .u64, 22), (5, .u8, 5)], [], fun s => match s with
 | ⟨[(6, .v (.int .i64 a)), (7, .v (.int .u64 b)), (4, .own 4), (5, .own 5)], [(4, .ints .u64 22 c), (5, .ints .u8 5 d)]⟩ => (aC.j3 k c d a b).map aC.enc
 | _ => none⟩
def aC.p4 (k : Nat) : Pt := ⟨[.c [1, 1, 1, 1, 1, 1, 0, 0, 0, 1, 0, 1, 1, 1, 1, 0, 0, 0, 0], .c [1, 1, 1, 1, 1, 1, 0, 0, 0, 1, 0, 1, 1, 1, 1, 0, 0, 0, 1], .c [1, 1, 1, 1, 1, 1, 0, 0, 0, 1, 0, 1, 1, 1, 1, 0, 0, 1], .l [1, 1, 1, 1, 1, 1, 0, 0, 0, 1, 0, 1, 1, 1, 1, 0, 0], .b 6, .b 1, .l [1, 1, 1, 1, 1, 1, 0, 0, 0], .b 0, .c [1, 1, 1, 1, 1, 1, 1]], [(6, none, []), (7, none, []), (10, none, [])], [], [(4, .u64, 22), (5, .u8, 5)], [], fun s => match s with
 | ⟨[(6, .v (.int .i64 a)), (7, .v (.int .u64 b)), (10, .v (.int .i64 c)), (4, .own 4), (5, .own 5)], [(4, .ints .u64 22 d), (5, .ints .u8 5 e)]⟩ => (aC.l3 k d e a b c).map aC.enc
 | _ => none⟩
def aC.p5 (k : Nat) : Pt := ⟨[.c [1, 1, 1, 1, 1, 1, 1, 1, 0, 1, 0, 0, 0, 0], .c [1, 1, 1, 1, 1, 1, 1, 1, 0, 1, 0, 0, 0, 1], .c [1, 1, 1, 1, 1, 1, 1, 1, 0, 1, 0, 0, 1], .l [1, 1, 1, 1, 1, 1, 1, 1, 0, 1, 0, 0], .b 8, .c [1, 1, 1, 1, 1, 1, 1, 1, 1]], [(12, none, [])], [], [(5, .u8, 5), (11, .u8, 5)], [], fun s => match s with
 | ⟨[(12, .v (.int .i64 a)), (5, .own 5), (11, .own 11)], [(5, .ints .u8 5 b), (11, .ints .u8 5 c)]⟩ => (aC.l4 k b c a).map aC.enc
 | _ => none⟩
def aC.E (k : Nat) : Env := ⟨100, tys, [(151, aX.app k), (152, dD.app k)], [(8, aC.p0 k), (11, aC.p1 k), (16, aC.p2 k), (18, aC.p3 k), (19, aC.p4 k), (25, aC.p5 k)], [], false, [9, 3], false⟩
def bD.enc (r : List Int) : AV := .ro true .u64 r
def bD.app (k : Nat) : List AV → (AV → Option AV) → Option AV := fun l K => match l with
 | [.ro false .u64 a, .ro false .u64 b] => (bD.f k a b).bind fun r => K (bD.enc r)
 | _ => none
def bD.p0 (k : Nat) : Pt := ⟨[.c [1, 1, 1, 1, 0, 1, 0, 0, 0, 0], .c [1, 1, 1, 1, 0, 1, 0, 0, 0, 1], .c [1, 1, 1, 1, 0, 1, 0, 0, 1], .l [1, 1, 1, 1, 0, 1, 0, 0], .b 0, .c [1, 1, 1, 1, 1]], [(5, some .u64, []), (6, some .u64, []), (8, none, []), (4, some .u64, [])], [], [(7, .u64, 22)], [], fun s => match s with
 | ⟨[(5, .ro true .u64 a), (6, .ro true .u64 b), (8, .v (.int .i64 c)), (4, .ro true .u64 []), (7, .own 7)], [(7, .ints .u64 22 d)]⟩ => (bD.l0 k a b d c).map bD.enc
 | _ => none⟩
def bD.p1 (k : Nat) : Pt := ⟨[.c [1, 1, 1, 1, 0, 1, 0, 0, 1, 0, 0, 1, 0, 1, 0, 0, 0, 0], .c [1, 1, 1, 1, 0, 1, 0, 0, 1, 0, 0, 1, 0, 1, 0, 0, 0, 1], .c [1, 1, 1, 1, 0, 1, 0, 0, 1, 0, 0, 1, 0, 1, 0, 0, 1], .l [1, 1, 1, 1, 0, 1, 0, 0, 1, 0, 0, 1, 0, 1, 0, 0], .b 2, .c [1, 1, 1, 1, 0, 1, 0, 0, 1, 0, 0, 1, 1], .b 1, .c [1, 1, 1, 1, 0, 1, 0, 0, 1, 1], .l [1, 1, 1, 1, 0, 1, 0, 0], .b 0, .c [1, 1, 1, 1, 1]], [(5, some .u64, []), (6, some .u64, []), (8, none, []), (9, none, []), (10, none, []), (4, some .u64, [])], [], [(7, .u64, 22)], [], fun s => match s with
 | ⟨[(5, .ro true .u64 a), (6, .ro true .u64 b), (8, .v (.int .i64 c)), (9, .v (.int .u64 d)), (10, .v (.int .i64 e)), (4, .ro true .u64 []), (7, .own 7)], [(7, .ints .u64 22 f)]⟩ => (bD.l1 k a b f c d e).map bD.enc
 | _ => none⟩
def bD.E (k : Nat) : Env := ⟨73, tys, [(152, dD.app k), (150, dN.app k)], [(5, bD.p0 k), (9, bD.p1 k)], [(11, [0, 1, 2, 3, 4, 5, 6, 7, 8, 9, 10, 11, 12, 13, 14, 15, 16, 17, 18])], false, [73], false⟩
def dO.enc (r : List Int) : AV := .ro true .u64 r
def dO.app (k : Nat) : List AV → (AV → Option AV) → Option AV := fun l K => match l with
 | [.ro false .u64 a, .ro false .u64 b] => (dO.f k a b).bind fun r => K (dO.enc r)
 | _ => none
def dO.E (k : Nat) : Env := ⟨8, tys, [(153, bD.app k)], [], [], false, [73], false⟩
def bf.enc (r : List Int × Int) : AV := .tup [.ro true .u64 r.1, .v (.int .i64 r.2)]
def bf.app (k : Nat) : List AV → (AV → Option AV) → Option AV := fun l K => match l with
 | [.v (.int .u64 a), .v (.int .i64 b)] => (bf.f k a b).bind fun r => K (bf.enc r)
 | _ => none
def bf.p0 (k : Nat) : Pt := ⟨[.c [1, 1, 1, 0, 1, 0, 0, 0, 0], .c [1, 1, 1, 0, 1, 0, 0, 0, 1], .c [1, 1, 1, 0, 1, 0, 0, 1], .l [1, 1, 1, 0, 1, 0, 0], .b 0, .c [1, 1, 1, 1]], [(0, none, []), (1, none, []), (6, some .u64, []), (7, none, [])], [], [], [], fun s => match s with
 | ⟨[(0, .v (.int .u64 a)), (1, .v (.int .i64 b)), (6, .ro true .u64 c), (7, .v (.int .i64 d))], []⟩ => (bf.l0 k a b c d).map bf.enc
 | _ => none⟩
def bf.p1 (k : Nat) : Pt := ⟨[.c [1, 0, 1], .c [1, 1]], [(0, none, []), (1, none, []), (13, none, [])], [], [], [], fun s => match s with
 | ⟨[(0, .v (.int .u64 a)), (1, .v (.int .i64 b)), (13, .v (.bool c))], []⟩ => (bf.j0 k a b c).map bf.enc
 | _ => none⟩
def bf.p2 (k : Nat) : Pt := ⟨[.c [1, 1, 1, 0, 1, 0, 0, 0, 1], .c [1, 1, 1, 0, 1, 0, 0, 1], .l [1, 1, 1, 0, 1, 0, 0], .b 0, .c [1, 1, 1, 1]], [(0, none, []), (1, none, []), (6, some .u64, []), (7, none, []), (21, none, [])], [], [], [], fun s => match s with
 | ⟨[(0, .v (.int .u64 a)), (1, .v (.int .i64 b)), (6, .ro true .u64 c), (7, .v (.int .i64 d)), (21, .v (.bool e))], []⟩ => (bf.j2 k a b c d e).map bf.enc
 | _ => none⟩
def bf.E (k : Nat) : Env := ⟨36, tys, [(153, bD.app k)], [(5, bf.p0 k), (100013, bf.p1 k), (100021, bf.p2 k)], [], false, [73, 3], false⟩
def gI.enc (r : List Int) : AV := .ro true .u64 r
def gI.app (k : Nat) : List AV → (AV → Option AV) → Option AV := fun l K => match l with
 | [.v (.int .i64 a)] => (gI.f k a).bind fun r => K (gI.enc r)
 | _ => none
def gI.E (k : Nat) : Env := ⟨11, tys, [(95, bf.app k)], [], [], false, [73], false⟩
def bU.enc (r : Int) : AV := .v (.int .i64 r)
def bU.app (k : Nat) : List AV → (AV → Option AV) → Option AV := fun l K => match l with
 | [.ro false .u64 a] => (bU.f k a).bind fun r => K (bU.enc r)
 | _ => none
def bU.p0 (k : Nat) : Pt := ⟨[.c [1, 1, 1, 1, 0, 1, 0, 0, 0, 0], .c [1, 1, 1, 1, 0, 1, 0, 0, 0, 1], .c [1, 1, 1, 1, 0, 1, 0, 0, 1], .l [1, 1, 1, 1, 0, 1, 0, 0], .b 0, .c [1, 1, 1, 1, 1]], [(3, none, []), (4, none, []), (5, none, [])], [], [], [], fun s => match s with
 | ⟨[(3, .v (.int .i64 a)), (4, .v (.int .i64 b)), (5, .v (.int .u64 c))], []⟩ => (bU.l0 k a b c).map bU.enc
 | _ => none⟩
def bU.E (k : Nat) : Env := ⟨26, tys, [(151, aX.app k)], [(6, bU.p0 k)], [], false, [3], false⟩
def gV.enc (r : Int) : AV := .v (.int .u64 r)
def gV.app : List AV → (AV → Option AV) → Option AV := fun l K => match l with
 | [.v (.bool a)] => (gV.f a).bind fun r => K (gV.enc r)
 | _ => none
def gV.E : Env := ⟨4, tys, [], [], [], false, [22], false⟩
def fB.enc (r : List Int) : AV := .ro true .u64 r
def fB.app (k : Nat) : List AV → (AV → Option AV) → Option AV := fun l K => match l with
 | [.ro false .u64 a, .v (.int .i64 b)] => (fB.f k a b).bind fun r => K (fB.enc r)
 | _ => none
def fB.p0 (k : Nat) : Pt := ⟨[.c [1, 1, 1, 0, 1, 0, 0, 0, 0], .c [1, 1, 1, 0, 1, 0, 0, 0, 1], .c [1, 1, 1, 0, 1, 0, 0, 1], .l [1, 1, 1, 0, 1, 0, 0], .b 0, .c [1, 1, 1, 1]], [(0, some .u64, [false]), (1, none, []), (5, none, []), (7, none, []), (4, some .u64, [])], [], [(6, .u64, 22)], [], fun s => match s with
 | ⟨[(0, .ro false .u64 a), (1, .v (.int .i64 b)), (5, .v (.int .i64 c)), (7, .v (.int .i64 d)), (4, .ro true .u64 []), (6, .own 6)], [(6, .ints .u64 22 e)]⟩ => (fB.l0 k a b c e d).map fB.enc
 | _ => none⟩
def fB.E (k : Nat) : Env := ⟨64, tys, [(151, aX.app k), (154, dF.app)], [(4, fB.p0 k)], [(6, [0, 1, 2, 3, 4, 5, 6, 7, 8, 9, 10, 11, 12, 13, 14, 15, 16, 17, 18, 19, 20, 21, 22])], false, [73], false⟩
def gK.enc (r : List Int) : AV := .ro true .u64 r
def gK.app (k : Nat) : List AV → (AV → Option AV) → Option AV := fun l K => match l with
 | [.ro false .u64 a, .v (.int .i64 b)] => (gK.f k a b).bind fun r => K (gK.enc r)
 | _ => none
def gK.E (k : Nat) : Env := ⟨8, tys, [(219, fB.app k)], [], [], false, [73], false⟩
def jl.enc (r : Int) : AV := .v (.int .u64 r)
def jl.app : List AV → (AV → Option AV) → Option AV := fun l K => match l with
 | [.ro false .u64 a, .v (.int .i64 b)] => (jl.f a b).bind fun r => K (jl.enc r)
 | _ => none
def jl.E : Env := ⟨13, tys, [], [], [], false, [22], false⟩
def aV.enc (r : List Int) : AV := .ro true .u64 r
def aV.app (k : Nat) : List AV → (AV → Option AV) → Option AV := fun l K => match l with
 | [.ro false .u64 a, .ro false .u64 b] => (aV.f k a b).bind fun r => K (aV.enc r)
 | _ => none
def aV.p0 (k : Nat) : Pt := ⟨[.c [1, 1, 1, 0], .c [1, 1, 1, 1]], [(0, some .u64, [false]), (1, some .u64, [false]), (5, none, [])], [], [], [], fun s => match s with
 | ⟨[(0, .ro false .u64 a), (1, .ro false .u64 b), (5, .v (.int .i64 c))], []⟩ => (aV.j0 k a b c).map aV.enc
 | _ => none⟩
def aV.p1 (k : Nat) : Pt := ⟨[.c [1, 1, 1, 1, 1, 0, 1, 0, 0, 0, 0], .c [1, 1, 1, 1, 1, 0, 1, 0, 0, 0, 1], .c [1, 1, 1, 1, 1, 0, 1, 0, 0, 1], .l [1, 1, 1, 1, 1, 0, 1, 0, 0], .b 0, .c [1, 1, 1, 1, 1, 1]], [(0, some .u64, [false]), (1, some .u64, [false]), (5, none, []), (7, none, []), (8, none, [])], [], [(6, .u64, 22)], [], fun s => match s with
 | ⟨[(0, .ro false .u64 a), (1, .ro false .u64 b), (5, .v (.int .i64 c)), (7, .v (.int .u64 d)), (8, .v (.int .i64 e)), (6, .own 6)], [(6, .ints .u64 22 f)]⟩ => (aV.l0 k a b c f d e).map aV.enc
 | _ => none⟩
def aV.E (k : Nat) : Env := ⟨57, tys, [(151, aX.app k), (169, jl.app), (154, dF.app)], [(4, aV.p0 k), (7, aV.p1 k)], [], false, [73], false⟩
def dA.enc (r : Int) : AV := .v (.int .i64 r)
def dA.app (k : Nat) : List AV → (AV → Option AV) → Option AV := fun l K => match l with
 | [.ro false .u64 a, .ro false .u64 b] => (dA.f k a b).bind fun r => K (dA.enc r)
 | _ => none
def dA.p0 (k : Nat) : Pt := ⟨[.c [1, 1, 1, 1, 0, 1, 0, 0, 0, 0], .c [1, 1, 1, 1, 0, 1, 0, 0, 0, 1], .c [1, 1, 1, 1, 0, 1, 0, 0, 1], .l [1, 1, 1, 1, 0, 1, 0, 0], .b 0, .c [1, 1, 1, 1, 1]], [(0, some .u64, [false]), (1, some .u64, [false]), (7, none, [])], [], [], [], fun s => match s with
 | ⟨[(0, .ro false .u64 a), (1, .ro false .u64 b), (7, .v (.int .i64 c))], []⟩ => (dA.l0 k a b c).map dA.enc
 | _ => none⟩
def dA.E (k : Nat) : Env := ⟨42, tys, [(151, aX.app k)], [(8, dA.p0 k)], [(10, [0, 1, 2, 3, 4, 5, 6, 7, 8]), (12, [0, 1, 2, 3, 4, 5, 6, 7, 8])], false, [3], false⟩
def jq.enc (r : Int) : AV := .v (.int .u64 r)
def jq.app : List AV → (AV → Option AV) → Option AV := fun l K => match l with
 | [.ro false .u64 a, .v (.int .i64 b)] => (jq.f a b).bind fun r => K (jq.enc r)
 | _ => none
def jq.E : Env := ⟨24, tys, [], [], [], false, [22], false⟩
def dY.enc (r : List Int) : AV := .ro true .u64 r
def dY.app (k : Nat) : List AV → (AV → Option AV) → Option AV := fun l K => match l with
 | [.ro false .u64 a, .v (.int .i64 b)] => (dY.f k a b).bind fun r => K (dY.enc r)
 | _ => none
def dY.p0 (k : Nat) : Pt := ⟨[.c [1, 1, 1, 1, 0, 1, 0, 0, 0, 0], .c [1, 1, 1, 1, 0, 1, 0, 0, 0, 1], .c [1, 1, 1, 1, 0, 1, 0, 0, 1], .l [1, 1, 1, 1, 0, 1, 0, 0], .b 0, .c [1, 1, 1, 1, 1]], [(0, some .u64, [false]), (1, none, []), (5, none, []), (7, none, []), (4, some .u64, [])], [], [(6, .u64, 22)], [], fun s => match s with
 | ⟨[(0, .ro false .u64 a), (1, .v (.int .i64 b)), (5, .v (.int .i64 c)), (7, .v (.int .i64 d)), (4, .ro true .u64 []), (6, .own 6)], [(6, .ints .u64 22 e)]⟩ => (dY.l0 k a b c e d).map dY.enc
 | _ => none⟩
def dY.E (k : Nat) : Env := ⟨74, tys, [(94, bU.app k), (151, aX.app k), (154, dF.app)], [(6, dY.p0 k)], [(10, [0, 1, 2, 3, 4, 5, 6, 7, 8, 9, 10, 11, 12, 13, 14, 15, 16, 17, 18, 19, 20, 21])], false, [73], false⟩
def dP.enc (r : List Int) : AV := .ro true .u64 r
def dP.app (k : Nat) : List AV → (AV → Option AV) → Option AV := fun l K => match l with
 | [.ro false .u64 a, .ro false .u64 b] => (dP.f k a b).bind fun r => K (dP.enc r)
 | _ => none
def dP.p0 (k : Nat) : Pt := ⟨[.c [1, 1, 1, 1, 0, 1, 0, 0, 0, 0], .c [1, 1, 1, 1, 0, 1, 0, 0, 0, 1], .c [1, 1, 1, 1, 0, 1, 0, 0, 1], .l [1, 1, 1, 1, 0, 1, 0, 0], .b 0, .c [1, 1, 1, 1, 1]], [(0, some .u64, [false]), (1, some .u64, [false]), (5, none, []), (7, none, []), (8, none, []), (4, some .u64, [])], [], [(6, .u64, 22)], [], fun s => match s with
 | ⟨[(0, .ro false .u64 a), (1, .ro false .u64 b), (5, .v (.int .i64 c)), (7, .v (.int .u64 d)), (8, .v (.int .i64 e)), (4, .ro true .u64 []), (6, .own 6)], [(6, .ints .u64 22 f)]⟩ => (dP.l0 k a b c f d e).map dP.enc
 | _ => none⟩
def dP.E (k : Nat) : Env := ⟨49, tys, [(151, aX.app k), (169, jl.app), (154, dF.app)], [(5, dP.p0 k)], [], false, [73], false⟩
def bI.enc (r : List Int × List Int) : AV := .tup [.ro true .u64 r.1, .ro true .u64 r.2]
def bI.app (k : Nat) : List AV → (AV → Option AV) → Option AV := fun l K => match l with
 | [.ro false .u64 a, .ro false .u64 b] => (bI.f k a b).bind fun r => K (bI.enc r)
 | _ => none
def bI.p0 (k : Nat) : Pt := ⟨[.c [1, 1, 1, 1, 1, 1, 0, 1, 0, 0, 0, 0], .c [1, 1, 1, 1, 1, 1, 0, 1, 0, 0, 0, 1], .c [1, 1, 1, 1, 1, 1, 0, 1, 0, 0, 1], .l [1, 1, 1, 1, 1, 1, 0, 1, 0, 0], .b 0, .c [1, 1, 1, 1, 1, 1, 1]], [(0, some .u64, [false]), (1, some .u64, [false]), (9, some .u64, []), (10, none, [])], [], [(8, .u64, 22)], [], fun s => match s with
 | ⟨[(0, .ro false .u64 a), (1, .ro false .u64 b), (9, .ro true .u64 c), (10, .v (.int .i64 d)), (8, .own 8)], [(8, .ints .u64 22 e)]⟩ => (bI.l0 k a b e c d).map bI.enc
 | _ => none⟩
def bI.p1 (k : Nat) : Pt := ⟨[.c [1, 1, 1, 1, 1, 1, 0, 1, 0, 0, 1, 0, 0, 1, 1, 0], .c [1, 1, 1, 1, 1, 1, 0, 1, 0, 0, 1, 0, 0, 1, 1, 1], .b 1, .c [1, 1, 1, 1, 1, 1, 0, 1, 0, 0, 1, 1], .l [1, 1, 1, 1, 1, 1, 0, 1, 0, 0], .b 0, .c [1, 1, 1, 1, 1, 1, 1]], [(0, some .u64, [false]), (1, some .u64, [false]), (9, some .u64, []), (10, none, [])], [], [(8, .u64, 22)], [], fun s => match s with
 | ⟨[(0, .ro false .u64 a), (1, .ro false .u64 b), (9, .ro true .u64 c), (10, .v (.int .i64 d)), (8, .own 8)], [(8, .ints .u64 22 e)]⟩ => (bI.j1 k a b e c d).map bI.enc
 | _ => none⟩
def bI.E (k : Nat) : Env := ⟨69, tys, [(94, bU.app k), (154, dF.app), (151, aX.app k), (253, dY.app k), (219, fB.app k), (216, jq.app), (84, aV.app k), (168, dA.app k), (254, dP.app k)], [(8, bI.p0 k), (13, bI.p1 k)], [], false, [73, 73], false⟩
def fV.enc (r : List Int × List Int) : AV := .tup [.ro true .u64 r.1, .ro true .u64 r.2]
def fV.app (k : Nat) : List AV → (AV → Option AV) → Option AV := fun l K => match l with
 | [.ro false .u64 a, .ro false .u64 b] => (fV.f k a b).bind fun r => K (fV.enc r)
 | _ => none
def fV.E (k : Nat) : Env := ⟨11, tys, [(220, bI.app k)], [], [], false, [73, 73], false⟩
def g_.enc (r : List Int × Int) : AV := .tup [.ro true .u64 r.1, .v (.int .i64 r.2)]
def g_.app (k : Nat) : List AV → (AV → Option AV) → Option AV := fun l K => match l with
 | [.agg [.v (.bool a), .ro false .u64 b, .ro false .u64 c, .v (.int .i64 d)], .v (.int .i64 e)] => (g_.f k a b c d e).bind fun r => K (g_.enc r)
 | _ => none
def g_.E (k : Nat) : Env := ⟨46, tys, [(166, gK.app k), (167, fV.app k), (168, dA.app k)], [], [], false, [73, 3], false⟩
def jX.enc (r : Int) : AV := .v (.int .i64 r)
def jX.app (k : Nat) : List AV → (AV → Option AV) → Option AV := fun l K => match l with
 | [.agg [.v (.bool a), .ro false .u64 b, .ro false .u64 c, .v (.int .i64 d)]] => (jX.f k a b c d).bind fun r => K (jX.enc r)
 | _ => none
def jX.E (k : Nat) : Env := ⟨28, tys, [(94, bU.app k), (157, g_.app k)], [], [(1, [0, 1, 3, 4, 7, 8, 2, 5, 6, 9, 10])], false, [3], false⟩
def iZ.enc (r : List Int) : AV := .ro false .u64 r
def iZ.app (k : Nat) : List AV → (AV → Option AV) → Option AV := fun l K => match l with
 | [.v (.int .i64 a), .v (.bool b), .ro false .u64 c, .v (.int .i64 d)] => (iZ.f k a b c d).bind fun r => K (iZ.enc r)
 | _ => none
def iZ.E (k : Nat) : Env := ⟨50, tys, [(216, jq.app), (84, aV.app k)], [], [], true, [73], false⟩
def jc.enc (r : Int) : AV := .v (.int .u64 r)
def jc.app : List AV → (AV → Option AV) → Option AV := fun l K => match l with
 | [.v (.int .i64 a), .v (.int .u64 b)] => (jc.f a b).bind fun r => K (jc.enc r)
 | _ => none
def jc.E : Env := ⟨25, tys, [(145, bW.app), (149, dX.app)], [], [], false, [22], false⟩
def b_.enc (r : Int) : AV := .v (.int .u64 r)
def b_.app (k : Nat) : List AV → (AV → Option AV) → Option AV := fun l K => match l with
 | [.v (.int .i64 a), .v (.int .i64 b), .v (.bool c)] => (b_.f k a b c).bind fun r => K (b_.enc r)
 | _ => none
def b_.p0 (k : Nat) : Pt := ⟨[.c [1, 1, 0, 0], .c [1, 1, 0, 1], .c [1, 1, 1]], [(0, none, []), (2, none, []), (7, none, [])], [], [], [], fun s => match s with
 | ⟨[(0, .v (.int .i64 a)), (2, .v (.bool b)), (7, .v (.bool c))], []⟩ => (b_.j0 k a b c).map b_.enc
 | _ => none⟩
def b_.E (k : Nat) : Env := ⟨38, tys, [(155, gV.app), (65, jo.app), (217, jc.app)], [(2, b_.p0 k)], [], false, [22], false⟩
def bM.enc (r : Int × Int) : AV := .tup [.v (.int .u64 r.1), .v (.int .i64 r.2)]
def bM.app (k : Nat) : List AV → (AV → Option AV) → Option AV := fun l K => match l with
 | [.v (.int .i64 a), .v (.int .i64 b), .agg [.v (.bool c), .ro false .u64 d, .ro false .u64 e, .v (.int .i64 f)]] => (bM.f k a b c d e f).bind fun r => K (bM.enc r)
 | _ => none
def bM.p0 (k : Nat) : Pt := ⟨[.c [1, 1, 1, 1, 1, 1, 1, 0], .c [1, 1, 1, 1, 1, 1, 1, 1]], [(0, none, []), (1, none, []), (10, none, []), (11, none, []), (12, none, [])], [(5, [false, false]), (8, [])], [], [], fun s => match s with
 | ⟨[(0, .v (.int .i64 a)), (1, .v (.int .i64 b)), (10, .v (.int .i64 c)), (11, .v (.int .i64 d)), (12, .v (.int .i64 e)), (5, .ptr 5 0), (8, .ptr 8 0)], [(5, .cells [.v (.bool f), .ro false .u64 g, .ro false .u64 i, .v (.int .i64 j)]), (8, .cells [.v (.int .i64 m), .v (.int .i64 n), .v (.int .i64 o), .v (.int .i64 p)])]⟩ => (bM.j0 k a b c d e f g i j m n o p).map bM.enc
 | _ => none⟩
def bM.p1 (k : Nat) : Pt := ⟨[.c [1, 1, 1, 1, 1, 1, 1, 1, 1, 1, 1, 1, 0], .c [1, 1, 1, 1, 1, 1, 1, 1, 1, 1, 1, 1, 1]], [(0, none, []), (11, none, []), (12, none, []), (15, some .u64, [false]), (16, none, [])], [(5, [false, false]), (8, [])], [], [], fun s => match s with
 | ⟨[(0, .v (.int .i64 a)), (11, .v (.int .i64 b)), (12, .v (.int .i64 c)), (15, .ro false .u64 d), (16, .v (.int .i64 e)), (5, .ptr 5 0), (8, .ptr 8 0)], [(5, .cells [.v (.bool f), .ro false .u64 g, .ro false .u64 i, .v (.int .i64 j)]), (8, .cells [.v (.int .i64 m), .v (.int .i64 n), .v (.int .i64 o), .v (.int .i64 p)])]⟩ => (bM.j1 k a b c d e f g i j m n o p).map bM.enc
 | _ => none⟩
def bM.E (k : Nat) : Env := ⟨129, tys, [(154, dF.app), (155, gV.app), (67, jf.app), (145, bW.app), (156, jX.app k), (157, g_.app k), (158, iZ.app k), (94, bU.app k), (159, b_.app k), (149, dX.app)], [(9, bM.p0 k), (19, bM.p1 k)], [(11, [0, 2, 4, 5, 6, 1, 3, 7]), (17, [0, 1, 2, 3, 4, 7, 9, 10, 13, 14, 5, 6, 8, 11, 12, 15]), (22, [0, 1, 2, 5, 6, 7, 8, 9, 10, 11, 12, 13, 14, 15, 17, 3, 4, 16, 18, 19])], false, [22, 3], false⟩
def eG.enc (r : Int × Int × Int) : AV := .tup [.v (.int .u64 r.1), .v (.int .i64 r.2.1), .v (.int .i64 r.2.2)]
def eG.app (k : Nat) : List AV → (AV → Option AV) → Option AV := fun l K => match l with
 | [.v (.int .i64 a), .v (.int .i64 b), .v (.string c)] => (eG.f k a b c).bind fun r => K (eG.enc r)
 | _ => none
def eG.p0 (k : Nat) : Pt := ⟨[.c [1, 1, 1, 1, 1, 1, 1, 0, 0, 0], .c [1, 1, 1, 1, 1, 1, 1, 0, 0, 1], .b 0, .c [1, 1, 1, 1, 1, 1, 1, 1]], [(0, none, []), (1, none, []), (11, none, []), (12, none, [])], [(10, [])], [], [], fun s => match s with
 | ⟨[(0, .v (.int .i64 a)), (1, .v (.int .i64 b)), (11, .v (.bool c)), (12, .v (.int .u64 d)), (10, .ptr 10 0)], [(10, .cells [.v (.bool e), .v (.bool f), .v (.bool g), .v (.string i), .v (.int .i64 j)])]⟩ => (eG.j0 k a b c d e f g i j).map eG.enc
 | _ => none⟩
def eG.E (k : Nat) : Env := ⟨107, tys, [(62, bK.app k), (63, aI.app k), (64, jW.app), (65, jo.app), (66, aT.app k), (67, jf.app), (68, aC.app k), (70, gI.app k), (69, dO.app k), (71, bM.app k)], [(10, eG.p0 k)], [], false, [22, 3, 3], false⟩
def aZ.enc (r : Int) : AV := .v (.int .i64 r)
def aZ.app : List AV → (AV → Option AV) → Option AV := fun l K => match l with
 | [.v (.int .i64 a), .v (.int .u64 b)] => (aZ.f a b).bind fun r => K (aZ.enc r)
 | _ => none
def aZ.E : Env := ⟨25, tys, [(52, bg.app)], [], [], false, [24], false⟩
theorem aZ.fok : FO 72 f72 (gQ f72) (aZ.E) := fo jE func72 ⟨bg.ok, trivial⟩
theorem aZ.ok : AO 72 (aZ.app) := iM stays mixed (aZ.fok) (gU rfl) fun l K r h => by
 dsimp only [aZ.app] at h
 split at h
 ·rename_i a b
  exact fin (enc := aZ.enc) h rfl fun y h => by
   exact via ((bg.f a).bind fun c => if (c.2.2.2.2 != 0) then some (iA c.2.2.2.2) else if (decide (c.1 < 64)) then if 0 ≤ c.1 then if ((shr .u64 b c.1) != 0) then some (iA 4) else some (iA 0) else none else some (iA 0)) (by rw [aZ.f] at h; exact Eq.trans (Eq.symm mt2) h)
 ·cases h
def aU.enc (r : Bool × Int × Int × Int × ByteArray) : AV := .tup [.agg [.v (.bool r.1), .v (.int .u64 r.2.1), .v (.int .i64 r.2.2.1), .v (.int .u64 r.2.2.2.1)], .v (.string r.2.2.2.2)]
def aU.app (k : Nat) : List AV → (AV → Option AV) → Option AV := fun l K => match l with
 | [.v (.int .i64 a), .v (.int .u64 b)] => (aU.f k a b).bind fun r => K (aU.enc r)
 | _ => none
def aU.p0 (k : Nat) : Pt := ⟨[.c [1, 1, 1, 1, 1, 1, 0, 0], .c [1, 1, 1, 1, 1, 1, 0, 1], .c [1, 1, 1, 1, 1, 1, 1]], [(8, none, []), (10, none, []), (11, none, []), (12, none, []), (14, none, [])], [(6, [])], [], [4], fun s => match s with
 | ⟨[(8, .v (.int .i64 a)), (10, .v (.bool b)), (11, .v (.int .u64 c)), (12, .v (.int .u64 d)), (14, .v (.string e)), (6, .ptr 6 0), (4, .ptr 4 0)], [(6, .cells [.v (.int .i64 f), .v (.int .i64 g), .v (.int .i64 i), .v (.int .i64 j)]), (4, .cells [.top, .top, .top, .top])]⟩ => (aU.j0 k a b c d e f g i j).map aU.enc
 | _ => none⟩
def aU.p1 (k : Nat) : Pt := ⟨[.c [1, 1, 1, 1, 1, 1, 0, 1, 0, 1], .b 0, .c [1, 1, 1, 1, 1, 1, 1]], [(10, none, []), (11, none, []), (12, none, []), (14, none, []), (36, none, []), (37, none, [])], [(6, [])], [], [4], fun s => match s with
 | ⟨[(10, .v (.bool a)), (11, .v (.int .u64 b)), (12, .v (.int .u64 c)), (14, .v (.string d)), (36, .v (.int .i64 e)), (37, .v (.bool f)), (6, .ptr 6 0), (4, .ptr 4 0)], [(6, .cells [.v (.int .i64 g), .v (.int .i64 i), .v (.int .i64 j), .v (.int .i64 m)]), (4, .cells [.top, .top, .top, .top])]⟩ => (aU.j1 k a b c d e f g i j m).map aU.enc
 | _ => none⟩
def aU.p2 (k : Nat) : Pt := ⟨[.c [1, 1, 1, 1, 1, 1, 0, 1, 0, 1, 1, 1], .b 0, .c [1, 1, 1, 1, 1, 1, 1]], [(10, none, []), (11, none, []), (12, none, []), (14, none, []), (36, none, []), (41, none, [])], [(6, [])], [], [4], fun s => match s with
 | ⟨[(10, .v (.bool a)), (11, .v (.int .u64 b)), (12, .v (.int .u64 c)), (14, .v (.string d)), (36, .v (.int .i64 e)), (41, .v (.bool f)), (6, .ptr 6 0), (4, .ptr 4 0)], [(6, .cells [.v (.int .i64 g), .v (.int .i64 i), .v (.int .i64 j), .v (.int .i64 m)]), (4, .cells [.top, .top, .top, .top])]⟩ => (aU.j2 k a b c d e f g i j m).map aU.enc
 | _ => none⟩
def aU.E (k : Nat) : Env := ⟨87, tys, [(52, bg.app), (117, jm.app), (118, iV.app)], [(7, aU.p0 k), (100037, aU.p1 k), (100041, aU.p2 k)], [(19, [0, 1, 2, 3, 4, 5, 6, 7, 8])], false, [118, 9], false⟩
theorem aU.fok (k : Nat) : FO 74 f74 (gQ f74) (aU.E k) := fo jE func74 ⟨bg.ok, ⟨jm.ok, ⟨iV.ok, trivial⟩⟩⟩
theorem aU.s0 : nR f74 aU.E aU.p0 := fun k s r h => by
 dsimp only [aU.p0] at h
 split at h
 ·rename_i a b c d e f g i j
  rcases k with _ | k
  ·cases h
  exact ⟨k, rfl, via (if (a == 1) then (aU.j1 k b c d e a (a == 1) f g i j).map aU.enc else (aU.j1 k b c d e a (a == 0) f g i j).map aU.enc) (by rw [aU.j0] at h; exact Eq.trans (Eq.symm mt2) h)⟩
 ·cases h
theorem aU.s1 : nR f74 aU.E aU.p1 := fun k s r h => by
 dsimp only [aU.p1] at h
 split at h
 ·rename_i a b c d e f g i j m
  rcases k with _ | k
  ·cases h
  exact ⟨k, rfl, via (if f then some (.tup [.agg [bA false, uA 0, iA 0, uA 0], sA (⟨#[110, 97, 110]⟩ : ByteArray)]) else if (e == 2) then (aU.j2 k a b c d e (e == 2) g i j m).map aU.enc else (aU.j2 k a b c d e (e == 9) g i j m).map aU.enc) (by rw [aU.j1] at h; exact Eq.trans (Eq.symm mt2) h)⟩
 ·cases h
theorem aU.s2 : nR f74 aU.E aU.p2 := fun k s r h => by
 dsimp only [aU.p2] at h
 split at h
 ·rename_i a b c d e f g i j m
  rcases k with _ | k
  ·cases h
  exact ⟨k, rfl, via (if f then if d.size + (⟨#[105, 110, 102]⟩ : ByteArray).size ≤ 9223372036854775807 then some (.tup [.agg [bA false, uA 0, iA 0, uA 0], sA (d ++ (⟨#[105, 110, 102]⟩ : ByteArray))]) else none else if (e == 5) then if (e == 5) then if d.size + (⟨#[48]⟩ : ByteArray).size ≤ 9223372036854775807 then some (.tup [.agg [bA false, uA 0, iA 0, uA 0], sA (d ++ (⟨#[48]⟩ : ByteArray))]) else none else if (decide (b > 0)) then if 0 ≤ wrap64 (i - 1) then if (c == 0) then if (decide (b > 1)) then some (.tup [.agg [bA a, uA (Go.bits .or .u64 c (shl .u64 1 (wrap64 (i - 1)))), iA (wrap64 ((wrap64 ((wrap64 (j - i)) + 1)) + (wrap64 ((wrap64 (b)) - 1)))), uA 1], sA (⟨#[]⟩ : ByteArray)]) else some (.tup [.agg [bA a, uA (Go.bits .or .u64 c (shl .u64 1 (wrap64 (i - 1)))), iA (wrap64 ((wrap64 ((wrap64 (j - i)) + 1)) + (wrap64 ((wrap64 (b)) - 1)))), uA 2], sA (⟨#[]⟩ : ByteArray)]) else some (.tup [.agg [bA a, uA (Go.bits .or .u64 c (shl .u64 1 (wrap64 (i - 1)))), iA (wrap64 ((wrap64 ((wrap64 (j - i)) + 1)) + (wrap64 ((wrap64 (b)) - 1)))), uA 2], sA (⟨#[]⟩ : ByteArray)]) else none else some (.tup [.agg [bA a, uA c, iA (wrap64 ((wrap64 (j - i)) + 1)), uA 2], sA (⟨#[]⟩ : ByteArray)]) else if (e == 6) then if d.size + (⟨#[48]⟩ : ByteArray).size ≤ 9223372036854775807 then some (.tup [.agg [bA false, uA 0, iA 0, uA 0], sA (d ++ (⟨#[48]⟩ : ByteArray))]) else none else if (decide (b > 0)) then if 0 ≤ wrap64 (i - 1) then if (c == 0) then if (decide (b > 1)) then some (.tup [.agg [bA a, uA (Go.bits .or .u64 c (shl .u64 1 (wrap64 (i - 1)))), iA (wrap64 ((wrap64 ((wrap64 (j - i)) + 1)) + (wrap64 ((wrap64 (b)) - 1)))), uA 1], sA (⟨#[]⟩ : ByteArray)]) else some (.tup [.agg [bA a, uA (Go.bits .or .u64 c (shl .u64 1 (wrap64 (i - 1)))), iA (wrap64 ((wrap64 ((wrap64 (j - i)) + 1)) + (wrap64 ((wrap64 (b)) - 1)))), uA 2], sA (⟨#[]⟩ : ByteArray)]) else some (.tup [.agg [bA a, uA (Go.bits .or .u64 c (shl .u64 1 (wrap64 (i - 1)))), iA (wrap64 ((wrap64 ((wrap64 (j - i)) + 1)) + (wrap64 ((wrap64 (b)) - 1)))), uA 2], sA (⟨#[]⟩ : ByteArray)]) else none else some (.tup [.agg [bA a, uA c, iA (wrap64 ((wrap64 (j - i)) + 1)), uA 2], sA (⟨#[]⟩ : ByteArray)])) (by rw [aU.j2] at h; exact Eq.trans (Eq.symm mt2) h)⟩
 ·cases h
theorem aU.pts : ∀ k, mD prog (gQ f74) (aU.E k) GOk (Fin prog f74) := mP stays mixed aU.fok [(7, aU.p0), (100037, aU.p1), (100041, aU.p2)] ⟨aU.s0, aU.s1, aU.s2, trivial⟩
theorem aU.ok (k : Nat) : AO 74 (aU.app k) := iM stays mixed (aU.fok k) (aU.pts k) fun l K r h => by
 dsimp only [aU.app] at h
 split at h
 ·rename_i a b
  exact fin (enc := aU.enc) h rfl fun y h => by
   exact via ((bg.f a).bind fun c => (jm.f a b).bind fun d => (iV.f a b).bind fun e => if e.1 then (aU.j0 k d.1 e.1 e.2.1 e.2.2.1 (⟨#[45]⟩ : ByteArray) c.1 c.2.1 c.2.2.1 c.2.2.2.1).map aU.enc else (aU.j0 k d.1 e.1 e.2.1 e.2.2.1 (⟨#[]⟩ : ByteArray) c.1 c.2.1 c.2.2.1 c.2.2.2.1).map aU.enc) (by rw [aU.f] at h; exact Eq.trans (Eq.symm mt2) h)
 ·cases h
def bQ.enc (r : ByteArray) : AV := .v (.string r)
def bQ.app : List AV → (AV → Option AV) → Option AV := fun l K => match l with
 | [.agg [.v (.bool a), .v (.int .u64 b), .v (.int .i64 c), .v (.int .u64 d)]] => (bQ.f a b c d).bind fun r => K (bQ.enc r)
 | _ => none
def bQ.E : Env := ⟨5, tys, [], [], [], false, [9], false⟩
theorem bQ.fok : FO 76 f76 (gQ f76) (bQ.E) := fo jE func76 trivial
theorem bQ.ok : AO 76 (bQ.app) := iM stays mixed (bQ.fok) (gU rfl) fun l K r h => by
 dsimp only [bQ.app] at h
 split at h
 ·rename_i a b c d
  exact fin (enc := bQ.enc) h rfl fun y h => by
   exact via (if a then some (sA (⟨#[45]⟩ : ByteArray)) else some (sA (⟨#[]⟩ : ByteArray))) (by rw [bQ.f] at h; exact Eq.trans (Eq.symm mt2) h)
 ·cases h
def iF.enc (r : ByteArray) : AV := .v (.string r)
def iF.app : List AV → (AV → Option AV) → Option AV := fun l K => match l with
 | [.v (.string a), .v (.int .i64 b)] => (iF.f a b).bind fun r => K (iF.enc r)
 | _ => none
def iF.E : Env := ⟨39, tys, [(92, strings_Repeat.app)], [], [(5, [0, 1, 2, 3, 4, 5, 6, 7, 8, 9, 10])], false, [9], false⟩
theorem iF.fok : FO 77 f77 (gQ f77) (iF.E) := fo jE func77 ⟨strings_Repeat.ok, trivial⟩
theorem iF.ok : AO 77 (iF.app) := iM stays mixed (iF.fok) (gU rfl) fun l K r h => by
 dsimp only [iF.app] at h
 split at h
 ·rename_i a b
  exact fin (enc := iF.enc) h rfl fun y h => by
   exact via (if (decide (b < 0)) then (strings_Repeat.f (⟨#[48]⟩ : ByteArray) (wrap64 ((wrap64 (-b)) - 1))).bind fun c => if (⟨#[48, 46]⟩ : ByteArray).size + c.size ≤ 9223372036854775807 then if ((⟨#[48, 46]⟩ : ByteArray) ++ c).size + a.size ≤ 9223372036854775807 then some (sA (((⟨#[48, 46]⟩ : ByteArray) ++ c) ++ a)) else none else none else if (decide (b ≥ (wrap64 ((a.size : Int) - 1)))) then (strings_Repeat.f (⟨#[48]⟩ : ByteArray) (wrap64 ((wrap64 (b - (a.size : Int))) + 1))).bind fun d => if a.size + d.size ≤ 9223372036854775807 then some (sA (a ++ d)) else none else if 0 ≤ wrap64 (b + 1) then if wrap64 (b + 1) ≤ (a.size : Int) then if (a.extract 0 (wrap64 (b + 1) : Int).toNat).size + (⟨#[46]⟩ : ByteArray).size ≤ 9223372036854775807 then if 0 ≤ wrap64 (b + 1) then if wrap64 (b + 1) ≤ (a.size : Int) then if ((a.extract 0 (wrap64 (b + 1) : Int).toNat) ++ (⟨#[46]⟩ : ByteArray)).size + (a.extract (wrap64 (b + 1) : Int).toNat ((a.size : Int) : Int).toNat).size ≤ 9223372036854775807 then some (sA (((a.extract 0 (wrap64 (b + 1) : Int).toNat) ++ (⟨#[46]⟩ : ByteArray)) ++ (a.extract (wrap64 (b + 1) : Int).toNat ((a.size : Int) : Int).toNat))) else none else none else none else none else none else none) (by rw [iF.f] at h; exact Eq.trans (Eq.symm mt2) h)
 ·cases h
def iW.enc (r : ByteArray) : AV := .v (.string r)
def iW.app : List AV → (AV → Option AV) → Option AV := fun l K => match l with
 | [.v (.string a), .v (.int .i64 b)] => (iW.f a b).bind fun r => K (iW.enc r)
 | _ => none
def iW.E : Env := ⟨21, tys, [(120, strconv_Itoa.app)], [], [], false, [9], false⟩
theorem iW.fok : FO 78 f78 (gQ f78) (iW.E) := fo jE func78 ⟨strconv_Itoa.ok, trivial⟩
set_option maxHeartbeats 2000000 in
theorem iW.ok : AO 78 (iW.app) := iM stays mixed (iW.fok) (gU rfl) fun l K r h => by
 dsimp only [iW.app] at h
 split at h
 ·rename_i a b
  exact fin (enc := iW.enc) h rfl fun y h => by
   exact via (if (0 : Int) ≤ 1 then if 1 ≤ (a.size : Int) then if (decide ((a.size : Int) > 1)) then if (0 : Int) ≤ 1 then if 1 ≤ (a.size : Int) then if (⟨#[46]⟩ : ByteArray).size + (a.extract (1 : Int).toNat ((a.size : Int) : Int).toNat).size ≤ 9223372036854775807 then if (a.extract 0 (1 : Int).toNat).size + ((⟨#[46]⟩ : ByteArray) ++ (a.extract (1 : Int).toNat ((a.size : Int) : Int).toNat)).size ≤ 9223372036854775807 then if ((a.extract 0 (1 : Int).toNat) ++ ((⟨#[46]⟩ : ByteArray) ++ (a.extract (1 : Int).toNat ((a.size : Int) : Int).toNat))).size + (⟨#[101]⟩ : ByteArray).size ≤ 9223372036854775807 then (strconv_Itoa.f b).bind fun c => if (((a.extract 0 (1 : Int).toNat) ++ ((⟨#[46]⟩ : ByteArray) ++ (a.extract (1 : Int).toNat ((a.size : Int) : Int).toNat))) ++ (⟨#[101]⟩ : ByteArray)).size + c.size ≤ 9223372036854775807 then some (sA ((((a.extract 0 (1 : Int).toNat) ++ ((⟨#[46]⟩ : ByteArray) ++ (a.extract (1 : Int).toNat ((a.size : Int) : Int).toNat))) ++ (⟨#[101]⟩ : ByteArray)) ++ c)) else none else none else none else none else none else none else if (a.extract 0 (1 : Int).toNat).size + (⟨#[101]⟩ : ByteArray).size ≤ 9223372036854775807 then (strconv_Itoa.f b).bind fun d => if ((a.extract 0 (1 : Int).toNat) ++ (⟨#[101]⟩ : ByteArray)).size + d.size ≤ 9223372036854775807 then some (sA (((a.extract 0 (1 : Int).toNat) ++ (⟨#[101]⟩ : ByteArray)) ++ d)) else none else none else none else none) (by rw [iW.f] at h; exact Eq.trans (Eq.symm mt2) h)
 ·cases h
def bn.enc (r : ByteArray × Int) : AV := .tup [.v (.string r.1), .v (.int .i64 r.2)]
def bn.app (k : Nat) : List AV → (AV → Option AV) → Option AV := fun l K => match l with
 | [.v (.int .i64 a), .v (.int .u64 b)] => (bn.f k a b).bind fun r => K (bn.enc r)
 | _ => none
def bn.p0 (k : Nat) : Pt := ⟨[.c [1, 1, 1, 1, 1, 0, 1], .c [1, 1, 1, 1, 1, 1]], [(9, none, []), (10, none, []), (36, none, [])], [(7, [])], [], [], fun s => match s with
 | ⟨[(9, .v (.string a)), (10, .v (.int .i64 b)), (36, .v (.bool c)), (7, .ptr 7 0)], [(7, .cells [.v (.bool d), .v (.int .u64 e), .v (.int .i64 f), .v (.int .u64 g)])]⟩ => (bn.j0 k a b c d e f g).map bn.enc
 | _ => none⟩
def bn.E (k : Nat) : Env := ⟨49, tys, [(72, aZ.app), (74, aU.app k), (75, fJ.app), (76, bQ.app), (77, iF.app), (78, iW.app)], [(100036, bn.p0 k)], [], false, [9, 24], false⟩
theorem bn.fok (k : Nat) : FO 20 f20 (gQ f20) (bn.E k) := fo jE func20 ⟨aZ.ok, ⟨aU.ok k, ⟨fJ.ok, ⟨bQ.ok, ⟨iF.ok, ⟨iW.ok, trivial⟩⟩⟩⟩⟩⟩
theorem bn.s0 : nR f20 bn.E bn.p0 := fun k s r h => by
 dsimp only [bn.p0] at h
 split at h
 ·rename_i a b c d e f g
  rcases k with _ | k
  ·cases h
  exact ⟨k, rfl, via (if c then (bQ.f d e f g).bind fun i => (iF.f a b).bind fun j => if i.size + j.size ≤ 9223372036854775807 then some (.tup [sA (i ++ j), iA 0]) else none else (bQ.f d e f g).bind fun m => (iW.f a b).bind fun n => if m.size + n.size ≤ 9223372036854775807 then some (.tup [sA (m ++ n), iA 0]) else none) (by rw [bn.j0] at h; exact Eq.trans (Eq.symm mt2) h)⟩
 ·cases h
theorem bn.pts : ∀ k, mD prog (gQ f20) (bn.E k) GOk (Fin prog f20) := mP stays mixed bn.fok [(100036, bn.p0)] ⟨bn.s0, trivial⟩
theorem bn.ok (k : Nat) : AO 20 (bn.app k) := iM stays mixed (bn.fok k) (bn.pts k) fun l K r h => by
 dsimp only [bn.app] at h
 split at h
 ·rename_i a b
  exact fin (enc := bn.enc) h rfl fun y h => by
   exact via ((aZ.f a b).bind fun c => if (c != 0) then some (.tup [sA (⟨#[]⟩ : ByteArray), iA c]) else (aU.f k a b).bind fun d => if (d.2.2.2.2.toList != (⟨#[]⟩ : ByteArray).toList) then some (.tup [sA d.2.2.2.2, iA 0]) else (fJ.f d.1 d.2.1 d.2.2.1 d.2.2.2.1).bind fun e => if (decide (e.2 ≥ (-5))) then (bn.j0 k e.1 e.2 (decide (e.2 ≤ 15)) d.1 d.2.1 d.2.2.1 d.2.2.2.1).map bn.enc else (bn.j0 k e.1 e.2 false d.1 d.2.1 d.2.2.1 d.2.2.2.1).map bn.enc) (by rw [bn.f] at h; exact Eq.trans (Eq.symm mt2) h)
 ·cases h
def bG.enc (r : Bool) : AV := .v (.bool r)
def bG.app (k : Nat) : List AV → (AV → Option AV) → Option AV := fun l K => match l with
 | [] => (bG.f k).bind fun r => K (bG.enc r)
 | _ => none
def bG.E (k : Nat) : Env := ⟨33, tys, [(14, bV.app k), (20, bn.app k)], [], [], false, [4], false⟩
theorem bG.fok (k : Nat) : FO 16 f16 (gQ f16) (bG.E k) := fo jE func16 ⟨bV.ok k, ⟨bn.ok k, trivial⟩⟩
theorem bG.ok (k : Nat) : AO 16 (bG.app k) := iM stays mixed (bG.fok k) (gU rfl) fun l K r h => by
 dsimp only [bG.app] at h
 split at h
 ·exact fin (enc := bG.enc) h rfl fun y h => by
   exact via ((bV.f k 3 0 (⟨#[48, 46, 49]⟩ : ByteArray)).bind fun a => (bn.f k 0 13653).bind fun b => if (a.1 == 4591870180066957722) then if (a.2.1 == 16) then if (a.2.2 == 0) then if (b.1.toList == (⟨#[48, 46, 51, 51, 51, 51]⟩ : ByteArray).toList) then some (bA (b.2 == 0)) else some (bA false) else some (bA false) else some (bA false) else some (bA false)) (by rw [bG.f] at h; exact Eq.trans (Eq.symm mt2) h)
 ·cases h
def jI.enc (r : Bool) : AV := .v (.bool r)
def jI.app (k : Nat) : List AV → (AV → Option AV) → Option AV := fun l K => match l with
 | [.v (.int .i64 a), .v (.int .i64 b), .v (.string c)] => (jI.f k a b c).bind fun r => K (jI.enc r)
 | _ => none
def jI.E (k : Nat) : Env := ⟨45, tys, [(14, bV.app k), (15, eG.app k), (16, bG.app k)], [], [], false, [4], false⟩
end Go.Proofs.YtafikkmnkeddpaaGreatDoor.P
set_option maxRecDepth 100000
namespace Go.Proofs.YtafikkmnkeddpaaGreatDoor.P
open Go.RowKit Go.Proofs.YtafikkmnkeddpaaGreatDoorW.PrintWords Go.Proofs.YtafikkmnkeddpaaGreatDoorW.PrintLast Go.Proofs.YtafikkmnkeddpaaGreatDoorW.PrintMore Go.Proofs.YtafikkmnkeddpaaGreatDoor.E Go.Proofs.Tryz
def aH.enc (r : ByteArray) : AV := .v (.string r)
def aH.app (k : Nat) : List AV → (AV → Option AV) → Option AV := fun l K => match l with
 | [.v (.int .u64 a)] => (aH.f k a).bind fun r => K (aH.enc r)
 | _ => none
def aH.p0 (k : Nat) : Pt := ⟨[.c [1, 1, 0, 0, 0, 0, 0], .c [1, 1, 0, 0, 0, 0, 1], .c [1, 1, 0, 0, 0, 1], .l [1, 1, 0, 0, 0], .b 0, .c [1, 1, 1]], [(0, none, []), (3, none, [])], [], [], [], fun s => match s with
 | ⟨[(0, .v (.int .u64 a)), (3, .v (.string b))], []⟩ => (aH.l0 k a b).map aH.enc
 | _ => none⟩
def aH.E (k : Nat) : Env := ⟨23, tys, [], [(2, aH.p0 k)], [], false, [9], false⟩
theorem aH.fok (k : Nat) : FO 18 f18 (gQ f18) (aH.E k) := fo jE func18 trivial
theorem aH.s0 : nR f18 aH.E aH.p0 := fun k s r h => by
 dsimp only [aH.p0] at h
 split at h
 ·rename_i a b
  rcases k with _ | k
  ·cases h
  exact ⟨k, rfl, via (if (decide (a > 9)) then if (10 : Int) = 0 then none else if (strOfNums ([(IntKind.wrap .u64 (48 + (Int.tmod a 10))) % 256] : List Int)).size + b.size ≤ 9223372036854775807 then if (10 : Int) = 0 then none else (aH.l0 k (IntKind.wrap .u64 (Int.tdiv a 10)) ((strOfNums ([(IntKind.wrap .u64 (48 + (Int.tmod a 10))) % 256] : List Int)) ++ b)).map aH.enc else none else if (strOfNums ([(IntKind.wrap .u64 (48 + a)) % 256] : List Int)).size + b.size ≤ 9223372036854775807 then some (sA ((strOfNums ([(IntKind.wrap .u64 (48 + a)) % 256] : List Int)) ++ b)) else none) (by rw [aH.l0] at h; exact Eq.trans (Eq.symm mt2) h)⟩
 ·cases h
theorem aH.pts : ∀ k, mD prog (gQ f18) (aH.E k) GOk (Fin prog f18) := mP stays mixed aH.fok [(2, aH.p0)] ⟨aH.s0, trivial⟩
theorem aH.ok (k : Nat) : AO 18 (aH.app k) := iM stays mixed (aH.fok k) (aH.pts k) fun l K r h => by
 dsimp only [aH.app] at h
 split at h
 ·rename_i a
  exact fin (enc := aH.enc) h rfl fun y h => by
   exact via ((aH.l0 k a (⟨#[]⟩ : ByteArray)).map aH.enc) (by rw [aH.f] at h; exact Eq.trans (Eq.symm mt2) h)
 ·cases h
def aW.enc (r : ByteArray) : AV := .v (.string r)
def aW.app (k : Nat) : List AV → (AV → Option AV) → Option AV := fun l K => match l with
 | [.v (.int .i64 a)] => (aW.f k a).bind fun r => K (aW.enc r)
 | _ => none
def aW.E (k : Nat) : Env := ⟨13, tys, [(18, aH.app k)], [], [], false, [9], false⟩
theorem aW.fok (k : Nat) : FO 17 f17 (gQ f17) (aW.E k) := fo jE func17 ⟨aH.ok k, trivial⟩
theorem aW.ok (k : Nat) : AO 17 (aW.app k) := iM stays mixed (aW.fok k) (gU rfl) fun l K r h => by
 dsimp only [aW.app] at h
 split at h
 ·rename_i a
  exact fin (enc := aW.enc) h rfl fun y h => by
   exact via (if (decide (a < 0)) then (aH.f k (IntKind.wrap .u64 (wrap64 (-a)))).bind fun b => if (⟨#[45]⟩ : ByteArray).size + b.size ≤ 9223372036854775807 then some (sA ((⟨#[45]⟩ : ByteArray) ++ b)) else none else (aH.f k (IntKind.wrap .u64 (a))).bind fun c => some (sA c)) (by rw [aW.f] at h; exact Eq.trans (Eq.symm mt2) h)
 ·cases h
def dU.enc (r : Bool) : AV := .v (.bool r)
def dU.app (k : Nat) : List AV → (AV → Option AV) → Option AV := fun l K => match l with
 | [.agg [.v (.int .i64 a), .v (.int .i64 b), .v (.int .u64 c), .v (.int .i16 d), .v (.int .u8 e), .v (.int .u8 f)], .v (.int .u64 g)] => (dU.f k a b c d e f g).bind fun r => K (dU.enc r)
 | _ => none
def dU.p0 (k : Nat) : Pt := ⟨[.c [1, 1, 1, 1, 1, 1, 1, 0, 1], .c [1, 1, 1, 1, 1, 1, 1, 1]], [(5, none, []), (7, none, []), (9, none, []), (10, none, []), (12, none, []), (13, none, []), (15, none, []), (66, none, [])], [], [], [2], fun s => match s with
 | ⟨[(5, .v (.int .i64 a)), (7, .v (.int .u64 b)), (9, .v (.string c)), (10, .v (.int .u64 d)), (12, .v (.int .i64 e)), (13, .v (.int .u64 f)), (15, .v (.int .i64 g)), (66, .v (.bool i)), (2, .ptr 2 0)], [(2, .cells [.top, .top, .top, .top, .top, .top])]⟩ => (dU.j0 k a b c d e f g i).map dU.enc
 | _ => none⟩
def dU.E (k : Nat) : Env := ⟨146, tys, [(16, bG.app k), (17, aW.app k), (18, aH.app k), (14, bV.app k)], [(100066, dU.p0 k)], [(3, [0, 1, 2, 3, 4, 5]), (4, [0, 1, 2, 3, 4, 5, 6, 7, 8, 9])], false, [4], false⟩
def fO.enc (r : Int × Int) : AV := .tup [.v (.int .u64 r.1), .v (.int .i64 r.2)]
def fO.app : List AV → (AV → Option AV) → Option AV := fun l K => match l with
 | [.v (.int .i64 a), .v (.int .u64 b)] => (fO.f a b).bind fun r => K (fO.enc r)
 | _ => none
def fO.E : Env := ⟨17, tys, [(72, aZ.app), (73, jg.app)], [], [], false, [22, 24], false⟩
theorem fO.fok : FO 19 f19 (gQ f19) (fO.E) := fo jE func19 ⟨aZ.ok, ⟨jg.ok, trivial⟩⟩
theorem fO.ok : AO 19 (fO.app) := iM stays mixed (fO.fok) (gU rfl) fun l K r h => by
 dsimp only [fO.app] at h
 split at h
 ·rename_i a b
  exact fin (enc := fO.enc) h rfl fun y h => by
   exact via ((aZ.f a b).bind fun c => if (c != 0) then some (.tup [uA 0, iA c]) else (jg.f a).bind fun d => some (.tup [uA (Go.bits .xor .u64 b d), iA 0])) (by rw [fO.f] at h; exact Eq.trans (Eq.symm mt2) h)
 ·cases h
def ak.enc (r : Bool) : AV := .v (.bool r)
def ak.app (k : Nat) : List AV → (AV → Option AV) → Option AV := fun l K => match l with
 | [.agg [.v (.int .i64 a), .v (.int .i64 b), .v (.int .u64 c), .v (.int .i16 d), .v (.int .u8 e), .v (.int .u8 f)]] => (ak.f k a b c d e f).bind fun r => K (ak.enc r)
 | _ => none
def ak.p0 (k : Nat) : Pt := ⟨[.c [1, 1, 1, 1, 1, 1, 1, 0, 1, 0, 0, 0], .c [1, 1, 1, 1, 1, 1, 1, 0, 1, 0, 0, 1], .l [1, 1, 1, 1, 1, 1, 1, 0, 1, 0, 0], .b 0, .c [1, 1, 1, 1, 1, 1, 1, 1]], [(3, none, []), (4, none, []), (5, none, []), (6, none, []), (7, none, []), (8, none, []), (9, none, []), (10, none, []), (45, none, []), (46, none, [])], [(1, [])], [], [], fun s => match s with
 | ⟨[(3, .v (.int .i64 a)), (4, .v (.int .i64 b)), (5, .v (.string c)), (6, .v (.int .i64 d)), (7, .v (.int .u64 e)), (8, .v (.int .i64 f)), (9, .v (.int .i64 g)), (10, .v (.string i)), (45, .v (.int .u8 j)), (46, .v (.int .u8 m)), (1, .ptr 1 0)], [(1, .cells [.v (.int .i64 n), .v (.int .i64 o), .v (.int .u64 p), .v (.int .i16 q), .v (.int .u8 t), .v (.int .u8 u)])]⟩ => (ak.l0 k a b c d e f g i j m n o p q t u).map ak.enc
 | _ => none⟩
def ak.p1 (k : Nat) : Pt := ⟨[.c [1, 1, 1, 1, 1, 1, 1, 1, 1, 1, 0, 1], .c [1, 1, 1, 1, 1, 1, 1, 1, 1, 1, 1]], [(3, none, []), (4, none, []), (5, none, []), (6, none, []), (7, none, []), (8, none, []), (9, none, []), (97, none, [])], [], [], [1], fun s => match s with
 | ⟨[(3, .v (.int .i64 a)), (4, .v (.int .i64 b)), (5, .v (.string c)), (6, .v (.int .i64 d)), (7, .v (.int .u64 e)), (8, .v (.int .i64 f)), (9, .v (.int .i64 g)), (97, .v (.bool i)), (1, .ptr 1 0)], [(1, .cells [.top, .top, .top, .top, .top, .top])]⟩ => (ak.j1 k a b c d e f g i).map ak.enc
 | _ => none⟩
def ak.E (k : Nat) : Env := ⟨147, tys, [(16, bG.app k), (18, aH.app k), (17, aW.app k), (14, bV.app k), (19, fO.app)], [(9, ak.p0 k), (100097, ak.p1 k)], [(3, [0, 1, 2, 3, 4, 5]), (13, [0, 1, 2, 3, 4, 5, 6, 7, 8, 9, 10, 11, 12, 13, 14, 15, 16, 17, 18, 19, 20, 21, 22, 23, 24, 25, 26, 27, 28, 29])], false, [4], false⟩
theorem ak.fok (k : Nat) : FO 5 f5 (gQ f5) (ak.E k) := fo jE func5 ⟨bG.ok k, ⟨aH.ok k, ⟨aW.ok k, ⟨bV.ok k, ⟨fO.ok, trivial⟩⟩⟩⟩⟩
set_option maxHeartbeats 2000000 in
theorem ak.s0 : nR f5 ak.E ak.p0 := fun k s r h => by
 dsimp only [ak.p0] at h
 split at h
 ·rename_i a b c d e f g i j m n o p q t u
  rcases k with _ | k
  ·cases h
  exact ⟨k, rfl, via (if (decide (m < j)) then if i.size + (⟨#[48]⟩ : ByteArray).size ≤ 9223372036854775807 then (ak.l0 k a b c d e f g (i ++ (⟨#[48]⟩ : ByteArray)) j ((m + 1) % 256) n o p q t u).map ak.enc else none else if (wrap64 ((c.size : Int) + 1) : Int) = 0 then none else if (⟨#[43]⟩ : ByteArray).size + i.size ≤ 9223372036854775807 then if 0 ≤ Int.tmod (wrap64 (u)) (wrap64 ((c.size : Int) + 1)) then if Int.tmod (wrap64 (u)) (wrap64 ((c.size : Int) + 1)) ≤ (c.size : Int) then if ((⟨#[43]⟩ : ByteArray) ++ i).size + (c.extract 0 (Int.tmod (wrap64 (u)) (wrap64 ((c.size : Int) + 1)) : Int).toNat).size ≤ 9223372036854775807 then if (((⟨#[43]⟩ : ByteArray) ++ i) ++ (c.extract 0 (Int.tmod (wrap64 (u)) (wrap64 ((c.size : Int) + 1)) : Int).toNat)).size + (⟨#[46]⟩ : ByteArray).size ≤ 9223372036854775807 then if 0 ≤ Int.tmod (wrap64 (u)) (wrap64 ((c.size : Int) + 1)) then if Int.tmod (wrap64 (u)) (wrap64 ((c.size : Int) + 1)) ≤ (c.size : Int) then if ((((⟨#[43]⟩ : ByteArray) ++ i) ++ (c.extract 0 (Int.tmod (wrap64 (u)) (wrap64 ((c.size : Int) + 1)) : Int).toNat)) ++ (⟨#[46]⟩ : ByteArray)).size + (c.extract (Int.tmod (wrap64 (u)) (wrap64 ((c.size : Int) + 1)) : Int).toNat ((c.size : Int) : Int).toNat).size ≤ 9223372036854775807 then if (((((⟨#[43]⟩ : ByteArray) ++ i) ++ (c.extract 0 (Int.tmod (wrap64 (u)) (wrap64 ((c.size : Int) + 1)) : Int).toNat)) ++ (⟨#[46]⟩ : ByteArray)) ++ (c.extract (Int.tmod (wrap64 (u)) (wrap64 ((c.size : Int) + 1)) : Int).toNat ((c.size : Int) : Int).toNat)).size + (⟨#[69]⟩ : ByteArray).size ≤ 9223372036854775807 then (aW.f k (wrap64 ((wrap64 (d + (c.size : Int))) - (Int.tmod (wrap64 (u)) (wrap64 ((c.size : Int) + 1)))))).bind fun v => if ((((((⟨#[43]⟩ : ByteArray) ++ i) ++ (c.extract 0 (Int.tmod (wrap64 (u)) (wrap64 ((c.size : Int) + 1)) : Int).toNat)) ++ (⟨#[46]⟩ : ByteArray)) ++ (c.extract (Int.tmod (wrap64 (u)) (wrap64 ((c.size : Int) + 1)) : Int).toNat ((c.size : Int) : Int).toNat)) ++ (⟨#[69]⟩ : ByteArray)).size + v.size ≤ 9223372036854775807 then (bV.f k a b (((((((⟨#[43]⟩ : ByteArray) ++ i) ++ (c.extract 0 (Int.tmod (wrap64 (u)) (wrap64 ((c.size : Int) + 1)) : Int).toNat)) ++ (⟨#[46]⟩ : ByteArray)) ++ (c.extract (Int.tmod (wrap64 (u)) (wrap64 ((c.size : Int) + 1)) : Int).toNat ((c.size : Int) : Int).toNat)) ++ (⟨#[69]⟩ : ByteArray)) ++ v)).bind fun w => if (e != w.1) = false then if (f != w.2.1) = false then (ak.j1 k a b c d e f g (g != w.2.2)).map ak.enc else (ak.j1 k a b c d e f g true).map ak.enc else (ak.j1 k a b c d e f g true).map ak.enc else none else none else none else none else none else none else none else none else none else none) (by rw [ak.l0] at h; exact Eq.trans (Eq.symm mt2) h)⟩
 ·cases h
set_option maxHeartbeats 2000000 in
theorem ak.s1 : nR f5 ak.E ak.p1 := fun k s r h => by
 dsimp only [ak.p1] at h
 split at h
 ·rename_i a b c d e f g i
  rcases k with _ | k
  ·cases h
  exact ⟨k, rfl, via (if i then some (bA false) else if (g != 0) then if (e == 0) then some (bA (f == 0)) else some (bA false) else if (b == 3) then if (⟨#[45]⟩ : ByteArray).size + c.size ≤ 9223372036854775807 then if ((⟨#[45]⟩ : ByteArray) ++ c).size + (⟨#[101]⟩ : ByteArray).size ≤ 9223372036854775807 then (aW.f k d).bind fun j => if (((⟨#[45]⟩ : ByteArray) ++ c) ++ (⟨#[101]⟩ : ByteArray)).size + j.size ≤ 9223372036854775807 then (bV.f k a 4 ((((⟨#[45]⟩ : ByteArray) ++ c) ++ (⟨#[101]⟩ : ByteArray)) ++ j)).bind fun m => (fO.f a e).bind fun n => if (m.2.2 == 0) then if (n.2 == 0) then if (m.1 == n.1) then some (bA (f == m.2.1)) else some (bA false) else some (bA false) else some (bA false) else none else none else none else if (b == 4) then if (⟨#[45]⟩ : ByteArray).size + c.size ≤ 9223372036854775807 then if ((⟨#[45]⟩ : ByteArray) ++ c).size + (⟨#[101]⟩ : ByteArray).size ≤ 9223372036854775807 then (aW.f k d).bind fun o => if (((⟨#[45]⟩ : ByteArray) ++ c) ++ (⟨#[101]⟩ : ByteArray)).size + o.size ≤ 9223372036854775807 then (bV.f k a 3 ((((⟨#[45]⟩ : ByteArray) ++ c) ++ (⟨#[101]⟩ : ByteArray)) ++ o)).bind fun p => (fO.f a e).bind fun q => if (p.2.2 == 0) then if (q.2 == 0) then if (p.1 == q.1) then some (bA (f == p.2.1)) else some (bA false) else some (bA false) else some (bA false) else none else none else none else if (⟨#[45]⟩ : ByteArray).size + c.size ≤ 9223372036854775807 then if ((⟨#[45]⟩ : ByteArray) ++ c).size + (⟨#[101]⟩ : ByteArray).size ≤ 9223372036854775807 then (aW.f k d).bind fun t => if (((⟨#[45]⟩ : ByteArray) ++ c) ++ (⟨#[101]⟩ : ByteArray)).size + t.size ≤ 9223372036854775807 then (bV.f k a b ((((⟨#[45]⟩ : ByteArray) ++ c) ++ (⟨#[101]⟩ : ByteArray)) ++ t)).bind fun u => (fO.f a e).bind fun v => if (u.2.2 == 0) then if (v.2 == 0) then if (u.1 == v.1) then some (bA (f == u.2.1)) else some (bA false) else some (bA false) else some (bA false) else none else none else none) (by rw [ak.j1] at h; exact Eq.trans (Eq.symm mt2) h)⟩
 ·cases h
theorem ak.pts : ∀ k, mD prog (gQ f5) (ak.E k) GOk (Fin prog f5) := mP stays mixed ak.fok [(9, ak.p0), (100097, ak.p1)] ⟨ak.s0, ak.s1, trivial⟩
set_option maxHeartbeats 2000000 in
theorem ak.ok (k : Nat) : AO 5 (ak.app k) := iM stays mixed (ak.fok k) (ak.pts k) fun l K r h => by
 dsimp only [ak.app] at h
 split at h
 ·rename_i a b c d e f
  exact fin (enc := ak.enc) h rfl fun y h => by
   exact via ((bG.f k).bind fun g => if (!g) then some (bA false) else (aH.f k c).bind fun i => if i.size + (⟨#[101]⟩ : ByteArray).size ≤ 9223372036854775807 then (aW.f k (wrap64 (d))).bind fun j => if (i ++ (⟨#[101]⟩ : ByteArray)).size + j.size ≤ 9223372036854775807 then (bV.f k a b ((i ++ (⟨#[101]⟩ : ByteArray)) ++ j)).bind fun m => (ak.l0 k a b i (wrap64 (d)) m.1 m.2.1 m.2.2 (⟨#[]⟩ : ByteArray) (Go.bits .and .u8 e 15) 0 a b c d e f).map ak.enc else none else none) (by rw [ak.f] at h; exact Eq.trans (Eq.symm mt2) h)
 ·cases h
def bC.enc (r : List Int × List Int) : AV := .tup [.ro true .u64 r.1, .ro true .u64 r.2]
def bC.app (k : Nat) : List AV → (AV → Option AV) → Option AV := fun l K => match l with
 | [.v (.int .u64 a), .v (.int .i64 b), .v (.int .i64 c)] => (bC.f k a b c).bind fun r => K (bC.enc r)
 | _ => none
def bC.p0 (k : Nat) : Pt := ⟨[.c [1, 1, 1, 0, 0], .c [1, 1, 1, 0, 1], .c [1, 1, 1, 1]], [(1, none, []), (6, some .u64, []), (7, some .u64, [])], [], [], [], fun s => match s with
 | ⟨[(1, .v (.int .i64 a)), (6, .ro true .u64 b), (7, .ro true .u64 c)], []⟩ => (bC.j0 k a b c).map bC.enc
 | _ => none⟩
def bC.E (k : Nat) : Env := ⟨40, tys, [(60, dH.app), (61, gY.app), (89, fA.app)], [(5, bC.p0 k)], [], false, [73, 73], false⟩
def qV.enc (r : Bool) : AV := .v (.bool r)
def qV.app : List AV → (AV → Option AV) → Option AV := fun l K => match l with
 | [.v (.int .i64 a), .v (.bool b), .v (.bool c), .v (.int .i64 d)] => (qV.f a b c d).bind fun r => K (qV.enc r)
 | _ => none
def qV.E : Env := ⟨36, tys, [], [], [], false, [4], false⟩
def dS.enc (r : ByteArray × Bool × Int) : AV := .tup [.v (.string r.1), .v (.bool r.2.1), .v (.int .i64 r.2.2)]
def dS.app (k : Nat) : List AV → (AV → Option AV) → Option AV := fun l K => match l with
 | [.v (.int .i64 a), .v (.int .i64 b), .v (.int .u64 c), .v (.int .i64 d)] => (dS.f k a b c d).bind fun r => K (dS.enc r)
 | _ => none
def dS.p0 (k : Nat) : Pt := ⟨[.c [1, 1, 1, 1, 1, 1, 1, 1, 1, 1, 1, 1, 1, 0], .c [1, 1, 1, 1, 1, 1, 1, 1, 1, 1, 1, 1, 1, 1]], [(3, none, []), (16, none, []), (19, some .u64, []), (22, none, [])], [(14, [])], [], [11], fun s => match s with
 | ⟨[(3, .v (.int .i64 a)), (16, .v (.int .i64 b)), (19, .ro true .u64 c), (22, .v (.bool d)), (14, .ptr 14 0), (11, .ptr 11 0)], [(14, .cells [.v (.bool e), .v (.int .u64 f), .v (.int .i64 g), .v (.int .u64 i)]), (11, .cells [.top, .top, .top, .top])]⟩ => (dS.j2 k a b c d e f g i).map dS.enc
 | _ => none⟩
def dS.p1 (k : Nat) : Pt := ⟨[.c [1, 1, 1, 1, 0, 1], .c [1, 1, 1, 1, 1]], [(0, none, []), (1, none, []), (2, none, []), (3, none, []), (49, none, [])], [], [], [11], fun s => match s with
 | ⟨[(0, .v (.int .i64 a)), (1, .v (.int .i64 b)), (2, .v (.int .u64 c)), (3, .v (.int .i64 d)), (49, .v (.bool e)), (11, .ptr 11 0)], [(11, .cells [.top, .top, .top, .top])]⟩ => (dS.j0 k a b c d e).map dS.enc
 | _ => none⟩
def dS.p2 (k : Nat) : Pt := ⟨[.c [1, 1, 1, 1, 1, 1, 1, 1, 1, 1, 1, 1, 0, 1], .c [1, 1, 1, 1, 1, 1, 1, 1, 1, 1, 1, 1, 1]], [(3, none, []), (16, none, []), (19, some .u64, []), (22, none, []), (115, none, [])], [(14, [])], [], [11], fun s => match s with
 | ⟨[(3, .v (.int .i64 a)), (16, .v (.int .i64 b)), (19, .ro true .u64 c), (22, .v (.bool d)), (115, .v (.bool e)), (14, .ptr 14 0), (11, .ptr 11 0)], [(14, .cells [.v (.bool f), .v (.int .u64 g), .v (.int .i64 i), .v (.int .u64 j)]), (11, .cells [.top, .top, .top, .top])]⟩ => (dS.j1 k a b c d e f g i j).map dS.enc
 | _ => none⟩
def dS.E (k : Nat) : Env := ⟨140, tys, [(52, bg.app), (53, dR.app), (72, aZ.app), (90, bP.app), (76, bQ.app), (78, iW.app), (74, aU.app k), (98, strings_HasSuffix.app), (92, strings_Repeat.app), (99, jQ.app), (100, bC.app k), (101, iq.app), (89, fA.app), (103, iy.app), (102, qV.app), (104, iJ.app)], [(23, dS.p0 k), (100049, dS.p1 k), (100115, dS.p2 k)], [(13, [0, 1, 2, 3, 4, 5, 6, 7, 8, 9, 10, 11]), (21, [0, 1, 2, 3, 4, 5, 6, 7, 8, 9, 10, 11, 12, 13, 14])], false, [9, 4, 24], false⟩
def dW.enc (r : Int × Int × Int × Int) : AV := .tup [.v (.int .u64 r.1), .v (.int .u64 r.2.1), .v (.int .u64 r.2.2.1), .v (.int .u64 r.2.2.2)]
def dW.app : List AV → (AV → Option AV) → Option AV := fun l K => match l with
 | [.v (.int .i64 a), .v (.int .u64 b)] => (dW.f a b).bind fun r => K (dW.enc r)
 | _ => none
def dW.E : Env := ⟨42, tys, [(145, bW.app)], [], [(4, [0, 1, 2, 3, 4, 5, 6, 7, 8, 9, 10, 11, 12, 13, 14, 15, 16, 17, 18, 19, 20])], false, [22, 22, 22, 22], false⟩
def iH.enc (r : Bool) : AV := .v (.bool r)
def iH.app : List AV → (AV → Option AV) → Option AV := fun l K => match l with
 | [.v (.int .i64 a), .v (.int .u64 b)] => (iH.f a b).bind fun r => K (iH.enc r)
 | _ => none
def iH.E : Env := ⟨23, tys, [(186, dW.app)], [], [], false, [4], false⟩
def gJ.enc (r : Int) : AV := .v (.int .u64 r)
def gJ.app : List AV → (AV → Option AV) → Option AV := fun l K => match l with
 | [.v (.int .i64 a), .v (.int .u64 b)] => (gJ.f a b).bind fun r => K (gJ.enc r)
 | _ => none
def gJ.E : Env := ⟨18, tys, [(186, dW.app)], [], [], false, [22], false⟩
def jF.enc (r : Bool) : AV := .v (.bool r)
def jF.app : List AV → (AV → Option AV) → Option AV := fun l K => match l with
 | [.v (.int .i64 a), .v (.int .u64 b)] => (jF.f a b).bind fun r => K (jF.enc r)
 | _ => none
def jF.E : Env := ⟨24, tys, [(186, dW.app)], [], [], false, [4], false⟩
def jG.enc (r : Bool) : AV := .v (.bool r)
def jG.app : List AV → (AV → Option AV) → Option AV := fun l K => match l with
 | [.v (.int .i64 a), .v (.int .u64 b)] => (jG.f a b).bind fun r => K (jG.enc r)
 | _ => none
def jG.E : Env := ⟨24, tys, [(186, dW.app)], [], [], false, [4], false⟩
def bZ.enc (r : ByteArray) : AV := .v (.string r)
def bZ.app (k : Nat) : List AV → (AV → Option AV) → Option AV := fun l K => match l with
 | [.v (.int .i64 a), .v (.int .u64 b)] => (bZ.f k a b).bind fun r => K (bZ.enc r)
 | _ => none
def bZ.p0 (k : Nat) : Pt := ⟨[.c [1, 1, 1, 0, 0, 0], .c [1, 1, 1, 0, 0, 1], .b 0, .c [1, 1, 1, 1]], [(0, none, []), (1, none, []), (5, none, [])], [], [], [], fun s => match s with
 | ⟨[(0, .v (.int .i64 a)), (1, .v (.int .u64 b)), (5, .v (.string c))], []⟩ => (bZ.j0 k a b c).map bZ.enc
 | _ => none⟩
def bZ.E (k : Nat) : Env := ⟨26, tys, [(108, gJ.app), (163, jF.app), (164, jG.app), (105, iH.app)], [(4, bZ.p0 k)], [], false, [9], false⟩
def jy.enc (r : Int × Int) : AV := .tup [.v (.int .u64 r.1), .v (.int .i64 r.2)]
def jy.app : List AV → (AV → Option AV) → Option AV := fun l K => match l with
 | [.v (.int .i64 a), .v (.int .u64 b)] => (jy.f a b).bind fun r => K (jy.enc r)
 | _ => none
def jy.E : Env := ⟨51, tys, [(145, bW.app), (186, dW.app)], [], [(4, [0, 1, 2, 3, 4, 5, 6, 7, 8]), (5, [0, 1, 2, 3, 4, 5, 6, 7, 8, 9, 10, 11, 12, 13, 14, 15, 16, 17, 18])], false, [22, 3], false⟩
def fG.enc (r : List Int × List Int) : AV := .tup [.ro true .u64 r.1, .ro true .u64 r.2]
def fG.app (k : Nat) : List AV → (AV → Option AV) → Option AV := fun l K => match l with
 | [.v (.int .i64 a), .v (.int .u64 b)] => (fG.f k a b).bind fun r => K (fG.enc r)
 | _ => none
def fG.E (k : Nat) : Env := ⟨28, tys, [(165, jy.app), (166, gK.app k), (154, dF.app)], [], [], false, [73, 73], false⟩
def eX.enc (r : Int) : AV := .v (.int .i64 r)
def eX.app (k : Nat) : List AV → (AV → Option AV) → Option AV := fun l K => match l with
 | [.ro false .u64 a, .ro false .u64 b] => (eX.f k a b).bind fun r => K (eX.enc r)
 | _ => none
def eX.p0 (k : Nat) : Pt := ⟨[.c [1, 1, 1, 1, 0, 0, 0, 0, 0], .c [1, 1, 1, 1, 0, 0, 0, 0, 1], .c [1, 1, 1, 1, 0, 0, 0, 1], .l [1, 1, 1, 1, 0, 0, 0], .b 0, .c [1, 1, 1, 1, 1]], [(0, some .u64, [false]), (1, some .u64, [false]), (9, none, [])], [], [], [], fun s => match s with
 | ⟨[(0, .ro false .u64 a), (1, .ro false .u64 b), (9, .v (.int .i64 c))], []⟩ => (eX.l0 k a b c).map eX.enc
 | _ => none⟩
def eX.E (k : Nat) : Env := ⟨37, tys, [(167, fV.app k), (68, aC.app k), (168, dA.app k), (69, dO.app k)], [(6, eX.p0 k)], [], false, [3], false⟩
def dJ.enc (r : List Int × Int) : AV := .tup [.ro true .u64 r.1, .v (.int .i64 r.2)]
def dJ.app (k : Nat) : List AV → (AV → Option AV) → Option AV := fun l K => match l with
 | [.ro false .u64 a, .ro false .u64 b, .v (.int .i64 c)] => (dJ.f k a b c).bind fun r => K (dJ.enc r)
 | _ => none
def dJ.p0 (k : Nat) : Pt := ⟨[.c [1, 1, 0], .c [1, 1, 1]], [(0, some .u64, [false]), (1, some .u64, [false])], [], [], [], fun s => match s with
 | ⟨[(0, .ro false .u64 a), (1, .ro false .u64 b)], []⟩ => (dJ.j0 k a b).map dJ.enc
 | _ => none⟩
def dJ.E (k : Nat) : Env := ⟨37, tys, [(70, gI.app k), (69, dO.app k), (167, fV.app k), (166, gK.app k), (168, dA.app k)], [(4, dJ.p0 k)], [], false, [73, 3], false⟩
def dL.enc (r : ByteArray) : AV := .v (.string r)
def dL.app : List AV → (AV → Option AV) → Option AV := fun l K => match l with
 | [.v (.int .i64 a), .v (.int .u64 b)] => (dL.f a b).bind fun r => K (dL.enc r)
 | _ => none
def dL.E : Env := ⟨9, tys, [(108, gJ.app)], [], [], false, [9], false⟩
def ig.enc (r : ByteArray) : AV := .v (.string r)
def ig.app (k : Nat) : List AV → (AV → Option AV) → Option AV := fun l K => match l with
 | [.v (.int .i64 a)] => (ig.f k a).bind fun r => K (ig.enc r)
 | _ => none
def ig.E (k : Nat) : Env := ⟨19, tys, [(170, ig.app k), (68, aC.app k)], [], [], false, [9], false⟩
def fC.enc (r : ByteArray) : AV := .v (.string r)
def fC.app (k : Nat) : List AV → (AV → Option AV) → Option AV := fun l K => match l with
 | [.v (.string a), .v (.int .i64 b)] => (fC.f k a b).bind fun r => K (fC.enc r)
 | _ => none
def fC.E (k : Nat) : Env := ⟨21, tys, [(170, ig.app k)], [], [], false, [9], false⟩
def dh.enc (r : ByteArray) : AV := .v (.string r)
def dh.app (k : Nat) : List AV → (AV → Option AV) → Option AV := fun l K => match l with
 | [.v (.int .i64 a)] => (dh.f k a).bind fun r => K (dh.enc r)
 | _ => none
def dh.p0 (k : Nat) : Pt := ⟨[.c [1, 1, 0, 0, 0, 0, 0], .c [1, 1, 0, 0, 0, 0, 1], .c [1, 1, 0, 0, 0, 1], .l [1, 1, 0, 0, 0], .b 0, .c [1, 1, 1]], [(0, none, []), (3, none, [])], [], [], [], fun s => match s with
 | ⟨[(0, .v (.int .i64 a)), (3, .v (.string b))], []⟩ => (dh.l0 k a b).map dh.enc
 | _ => none⟩
def dh.E (k : Nat) : Env := ⟨11, tys, [], [(2, dh.p0 k)], [], false, [9], false⟩
def dZ.enc (r : List Int) : AV := .ro false .u64 r
def dZ.app (k : Nat) : List AV → (AV → Option AV) → Option AV := fun l K => match l with
 | [.v (.int .i64 a), .v (.bool b), .ro false .u64 c, .v (.int .i64 d)] => (dZ.f k a b c d).bind fun r => K (dZ.enc r)
 | _ => none
def dZ.p0 (k : Nat) : Pt := ⟨[.c [1, 1, 0], .c [1, 1, 1]], [(0, none, []), (1, none, []), (2, some .u64, [false]), (3, none, []), (9, none, [])], [], [], [], fun s => match s with
 | ⟨[(0, .v (.int .i64 a)), (1, .v (.bool b)), (2, .ro false .u64 c), (3, .v (.int .i64 d)), (9, .v (.bool e))], []⟩ => (dZ.j0 k a b c d e).map dZ.enc
 | _ => none⟩
def dZ.E (k : Nat) : Env := ⟨57, tys, [(84, aV.app k)], [(2, dZ.p0 k)], [], true, [73], false⟩
def d_.enc (r : ByteArray × Bool × Int) : AV := .tup [.v (.string r.1), .v (.bool r.2.1), .v (.int .i64 r.2.2)]
def d_.app (k : Nat) : List AV → (AV → Option AV) → Option AV := fun l K => match l with
 | [.v (.int .i64 a), .v (.int .i64 b), .v (.int .u64 c), .v (.int .i64 d)] => (d_.f k a b c d).bind fun r => K (d_.enc r)
 | _ => none
def d_.p0 (k : Nat) : Pt := ⟨[.c [1, 1, 1, 0, 1], .c [1, 1, 1, 1]], [(0, none, []), (1, none, []), (2, none, []), (3, none, []), (33, none, [])], [], [], [], fun s => match s with
 | ⟨[(0, .v (.int .i64 a)), (1, .v (.int .i64 b)), (2, .v (.int .u64 c)), (3, .v (.int .i64 d)), (33, .v (.bool e))], []⟩ => (d_.j0 k a b c d e).map d_.enc
 | _ => none⟩
def d_.E (k : Nat) : Env := ⟨99, tys, [(62, bK.app k), (105, iH.app), (86, dL.app), (106, dh.app k), (87, fC.app k), (80, bZ.app k), (81, fG.app k), (82, eX.app k), (83, dJ.app k), (108, gJ.app), (107, dZ.app k), (68, aC.app k)], [(100033, d_.p0 k)], [], false, [9, 4, 3], false⟩
def jJ.enc (r : Bool) : AV := .v (.bool r)
def jJ.app (k : Nat) : List AV → (AV → Option AV) → Option AV := fun l K => match l with
 | [.agg [.v (.int .i64 a), .v (.int .i64 b), .v (.int .u64 c), .v (.int .i64 d)]] => (jJ.f k a b c d).bind fun r => K (jJ.enc r)
 | _ => none
def jJ.E (k : Nat) : Env := ⟨51, tys, [(26, dS.app k), (27, d_.app k), (16, bG.app k)], [], [], false, [4], false⟩
def ji.enc (r : Bool) : AV := .v (.bool r)
def ji.app (k : Nat) : List AV → (AV → Option AV) → Option AV := fun l K => match l with
 | [.v (.int .i64 a), .v (.int .u64 b), .ro false .u64 c, .v (.int .i64 d)] => (ji.f k a b c d).bind fun r => K (ji.enc r)
 | _ => none
def ji.E (k : Nat) : Env := ⟨39, tys, [(108, gJ.app), (70, gI.app k), (69, dO.app k), (71, bM.app k)], [], [], false, [4], false⟩
def fH.enc (r : ByteArray) : AV := .v (.string r)
def fH.app (k : Nat) : List AV → (AV → Option AV) → Option AV := fun l K => match l with
 | [.v (.string a), .v (.int .i64 b)] => (fH.f k a b).bind fun r => K (fH.enc r)
 | _ => none
def fH.E (k : Nat) : Env := ⟨37, tys, [(106, dh.app k)], [], [(5, [0, 1, 2, 3, 4, 5, 6, 7, 8, 9, 10])], false, [9], false⟩
def jM.enc (r : ByteArray × Int) : AV := .tup [.v (.string r.1), .v (.int .i64 r.2)]
def jM.app (k : Nat) : List AV → (AV → Option AV) → Option AV := fun l K => match l with
 | [.v (.int .i64 a), .v (.int .u64 b)] => (jM.f k a b).bind fun r => K (jM.enc r)
 | _ => none
def jM.p0 (k : Nat) : Pt := ⟨[.c [1, 1, 1, 1, 1, 1, 1, 1, 1, 0], .c [1, 1, 1, 1, 1, 1, 1, 1, 1, 1]], [(17, none, [])], [(7, [])], [], [], fun s => match s with
 | ⟨[(17, .v (.string a)), (7, .ptr 7 0)], [(7, .cells [.v (.bool b), .v (.int .u64 c), .v (.int .i64 d), .v (.int .u64 e)])]⟩ => (jM.j0 k a b c d e).map jM.enc
 | _ => none⟩
def jM.E (k : Nat) : Env := ⟨114, tys, [(72, aZ.app), (74, aU.app k), (89, fA.app), (90, bP.app), (76, bQ.app), (91, gB.app), (61, gY.app), (92, strings_Repeat.app), (93, je.app)], [(17, jM.p0 k)], [(18, [0, 1, 2, 3, 4, 5, 6, 7, 8])], false, [9, 24], false⟩
def eU.enc (r : ByteArray × Int) : AV := .tup [.v (.string r.1), .v (.int .i64 r.2)]
def eU.app (k : Nat) : List AV → (AV → Option AV) → Option AV := fun l K => match l with
 | [.v (.int .i64 a), .v (.int .u64 b)] => (eU.f k a b).bind fun r => K (eU.enc r)
 | _ => none
def eU.p0 (k : Nat) : Pt := ⟨[.c [1, 1, 1, 1, 1, 1, 1, 1, 0, 0, 0, 0, 0], .c [1, 1, 1, 1, 1, 1, 1, 1, 0, 0, 0, 0, 1], .c [1, 1, 1, 1, 1, 1, 1, 1, 0, 0, 0, 1], .l [1, 1, 1, 1, 1, 1, 1, 1, 0, 0, 0], .b 0, .c [1, 1, 1, 1, 1, 1, 1, 1, 1]], [(0, none, []), (1, none, []), (10, none, []), (13, none, [])], [], [], [], fun s => match s with
 | ⟨[(0, .v (.int .i64 a)), (1, .v (.int .u64 b)), (10, .v (.int .i64 c)), (13, .v (.string d))], []⟩ => (eU.l0 k a b c d).map eU.enc
 | _ => none⟩
def eU.E (k : Nat) : Env := ⟨81, tys, [(79, gW.app), (80, bZ.app k), (81, fG.app k), (94, bU.app k), (95, bf.app k), (69, dO.app k), (68, aC.app k), (86, dL.app), (88, fH.app k)], [(11, eU.p0 k)], [], false, [9, 3], false⟩
def aJ.enc (r : ByteArray × Int) : AV := .tup [.v (.string r.1), .v (.int .i64 r.2)]
def aJ.app (k : Nat) : List AV → (AV → Option AV) → Option AV := fun l K => match l with
 | [.v (.int .i64 a), .v (.int .u64 b)] => (aJ.f k a b).bind fun r => K (aJ.enc r)
 | _ => none
def aJ.p0 (k : Nat) : Pt := ⟨[.c [1, 1, 1, 1, 1, 1, 1, 0, 0, 0, 0, 0], .c [1, 1, 1, 1, 1, 1, 1, 0, 0, 0, 0, 1], .b 1, .c [1, 1, 1, 1, 1, 1, 1, 0, 0, 1], .l [1, 1, 1, 1, 1, 1, 1, 0, 0], .b 0], [(0, none, []), (1, none, []), (8, some .u64, []), (9, some .u64, []), (10, none, []), (11, none, [])], [], [], [], fun s => match s with
 | ⟨[(0, .v (.int .i64 a)), (1, .v (.int .u64 b)), (8, .ro true .u64 c), (9, .ro true .u64 d), (10, .v (.int .i64 e)), (11, .v (.int .i64 f))], []⟩ => (aJ.l11 k a b c d e f).map aJ.enc
 | _ => none⟩
def aJ.p1 (k : Nat) : Pt := ⟨[.c [1, 1, 1, 1, 1, 1, 1, 0, 0, 0, 0, 1, 1, 1, 1, 0, 0], .c [1, 1, 1, 1, 1, 1, 1, 0, 0, 0, 0, 1, 1, 1, 1, 0, 1], .c [1, 1, 1, 1, 1, 1, 1, 0, 0, 0, 0, 1, 1, 1, 1, 1], .b 1, .c [1, 1, 1, 1, 1, 1, 1, 0, 0, 1], .l [1, 1, 1, 1, 1, 1, 1, 0, 0], .b 0], [(0, none, []), (1, none, []), (10, none, []), (11, none, []), (12, some .u64, []), (13, none, []), (14, some .u64, []), (15, none, []), (16, none, [])], [], [], [], fun s => match s with
 | ⟨[(0, .v (.int .i64 a)), (1, .v (.int .u64 b)), (10, .v (.int .i64 c)), (11, .v (.int .i64 d)), (12, .ro true .u64 e), (13, .v (.int .i64 f)), (14, .ro true .u64 g), (15, .v (.bool i)), (16, .v (.bool j))], []⟩ => (aJ.j15 k a b c d e f g i j).map aJ.enc
 | _ => none⟩
def aJ.p2 (k : Nat) : Pt := ⟨[.c [1, 1, 1, 1, 1, 1, 1, 0, 0, 0, 0, 1, 1, 1, 1, 1, 0], .c [1, 1, 1, 1, 1, 1, 1, 0, 0, 0, 0, 1, 1, 1, 1, 1, 1], .b 1, .c [1, 1, 1, 1, 1, 1, 1, 0, 0, 1], .l [1, 1, 1, 1, 1, 1, 1, 0, 0], .b 0], [(0, none, []), (1, none, []), (10, none, []), (11, none, []), (12, some .u64, [])], [], [], [], fun s => match s with
 | ⟨[(0, .v (.int .i64 a)), (1, .v (.int .u64 b)), (10, .v (.int .i64 c)), (11, .v (.int .i64 d)), (12, .ro true .u64 e)], []⟩ => (aJ.j17 k a b c d e).map aJ.enc
 | _ => none⟩
def aJ.p3 (k : Nat) : Pt := ⟨[.c [1, 1, 1, 1, 1, 1, 1, 0, 0, 0, 0, 1, 1, 1, 1, 1, 1, 1, 0, 0, 0, 0, 0], .c [1, 1, 1, 1, 1, 1, 1, 0, 0, 0, 0, 1, 1, 1, 1, 1, 1, 1, 0, 0, 0, 0, 1], .c [1, 1, 1, 1, 1, 1, 1, 0, 0, 0, 0, 1, 1, 1, 1, 1, 1, 1, 0, 0, 0, 1], .l [1, 1, 1, 1, 1, 1, 1, 0, 0, 0, 0, 1, 1, 1, 1, 1, 1, 1, 0, 0, 0], .b 2, .c [1, 1, 1, 1, 1, 1, 1, 0, 0, 0, 0, 1, 1, 1, 1, 1, 1, 1, 1], .b 1, .c [1, 1, 1, 1, 1, 1, 1, 0, 0, 1], .l [1, 1, 1, 1, 1, 1, 1, 0, 0], .b 0], [(0, none, []), (1, none, []), (17, none, []), (19, none, [])], [], [], [], fun s => match s with
 | ⟨[(0, .v (.int .i64 a)), (1, .v (.int .u64 b)), (17, .v (.string c)), (19, .v (.int .i64 d))], []⟩ => (aJ.l19 k a b c d).map aJ.enc
 | _ => none⟩
def aJ.E (k : Nat) : Env := ⟨141, tys, [(79, gW.app), (80, bZ.app k), (81, fG.app k), (82, eX.app k), (83, dJ.app k), (84, aV.app k), (85, ji.app k), (68, aC.app k), (86, dL.app), (87, fC.app k), (88, fH.app k)], [(11, aJ.p0 k), (15, aJ.p1 k), (17, aJ.p2 k), (19, aJ.p3 k)], [], false, [9, 3], false⟩
def jr.enc (r : Bool) : AV := .v (.bool r)
def jr.app (k : Nat) : List AV → (AV → Option AV) → Option AV := fun l K => match l with
 | [.v (.int .i64 a), .v (.int .u64 b)] => (jr.f k a b).bind fun r => K (jr.enc r)
 | _ => none
def jr.E (k : Nat) : Env := ⟨53, tys, [(20, bn.app k), (21, aJ.app k), (16, bG.app k), (22, jM.app k), (23, eU.app k)], [], [], false, [4], false⟩
end Go.Proofs.YtafikkmnkeddpaaGreatDoor.P
namespace Go.Proofs.YtafikkmnkeddpaaGreatDoor
open Go.Lib Go.ChangeShapes Go.WideShapes Go.ChangeAt Go.RowKit
theorem caseRanges_eq : Go.Pinned.caseRanges = Lib.caseData := by kernel_rfl
theorem utf8First_eq : Go.Pinned.utf8First = Lib.firstData := by kernel_rfl
theorem Aa {w : World} (h : Lib.VarReads Tryz.prog w "vernier/format.rows" Rows.laid_vernier_format_rows) : jA w := by
 obtain ⟨g, t, cs, fuel, p, hg, hty, hvar, hd⟩ := h
 obtain rfl := Option.some.inj ((show Tryz.prog.globalNamed "vernier/format.rows" = some 2 by kernel_rfl).symm.trans hg)
 obtain rfl := Option.some.inj ((show (Tryz.prog.globals[2]?).map (·.type) = some 181 by kernel_rfl).symm.trans hty)
 have hc : Tryz.prog.cellsOf 88 = 4 := by kernel_rfl
 have c1 : Tryz.prog.cellsOf 3 = 1 := by kernel_rfl
 have row : ∀ i, i < 4 → ∀ j, j < 4 → w.cell? ⟨2, 4 * i + j, none⟩ = some (.int .i64 (uf.getD (4 * i + j) 0)) := fun i hi j hj => by
  obtain ⟨fuel', d, q, hdi, he⟩ := Lib.array_elem Tryz.underlying181 hd i hi
  rw [hc] at he
  have hdd : d = .agg (([uf.getD (4 * i) 0, uf.getD (4 * i + 1) 0, uf.getD (4 * i + 2) 0, uf.getD (4 * i + 3) 0] : List Int).map fun z => .lit (.int .i64 z)) := by
   rcases (show i = 0 ∨ i = 1 ∨ i = 2 ∨ i = 3 by omega) with rfl | rfl | rfl | rfl <;> exact (Option.some.inj hdi).symm
  rw [hdd] at he
  have hcs := Lib.ints_of_struct Tryz.underlying88 (k := .i64) (fun j f hj => by
   match j, hj with
   | 0, hj => simp at hj; subst hj; exact ⟨Tryz.underlying3, rfl, c1⟩
   | 1, hj => simp at hj; subst hj; exact ⟨Tryz.underlying3, rfl, c1⟩
   | 2, hj => simp at hj; subst hj; exact ⟨Tryz.underlying3, rfl, c1⟩
   | 3, hj => simp at hj; subst hj; exact ⟨Tryz.underlying3, rfl, c1⟩
   | j + 4, hj => simp at hj) (by rw [hc]; rfl) he
  have e := congrArg (·[j]?) hcs
  simp only [List.getElem?_take, List.getElem?_drop] at e
  rw [World.var?_cell hg hvar (4 * i + j), ← Array.getElem?_toList]
  rw [if_pos hj, Nat.mul_comm i 4] at e
  rw [e]
  rcases (show j = 0 ∨ j = 1 ∨ j = 2 ∨ j = 3 by omega) with rfl | rfl | rfl | rfl <;> rfl
 refine ⟨block_lt_of_cell (row 0 (by decide) 0 (by decide)), fun j hj => ?_⟩
 have := row (j / 4) (by omega) (j % 4) (by omega)
 rwa [show 4 * (j / 4) + j % 4 = j by omega] at this
set_option maxRecDepth 100000 in
theorem MK {W : World} (h : laidMetH Tryz.prog Rows.deciParsesRow.laid W) : Tabs W := by
 rw [MakeChecks.laidMetH_plain _ _ _ (by kernel_rfl)] at h
 have h1 := Go.laidMet.tail h
 have h2 := Go.laidMet.tail h1
 have t1 : Lib.TabIs Tryz.prog W "math/bits.deBruijn64tab" .u8 (Lib.deBruijn64tab.map fun (z : Nat) => (z : Int)) :=
  Lib.tabIs_of_head (g := 3) (t := 261) (e := 5) (n := 64) (by kernel_rfl) (by kernel_rfl) (by kernel_rfl) (by kernel_rfl) (by kernel_rfl) (by kernel_rfl) h1
 have t2 : Lib.TabIs Tryz.prog W "internal/strconv.uint64pow10" .u64 Lib.pow10Tab :=
  Lib.tabIs_of_head (g := 6) (t := 282) (e := 22) (n := 20) (by kernel_rfl) (by kernel_rfl) (by kernel_rfl) (by kernel_rfl) (by kernel_rfl) (by kernel_rfl) h2
 refine ⟨?_, ?_, ?_, ?_, t2⟩
 ·have hc : ∀ j, j < 64 → W.cell? ⟨3, j, none⟩ = some (.int .u8 ((Lib.deBruijn64tab.map fun (z : Nat) => (z : Int)).getD j 0)) := fun j hj => t1.cell (by kernel_rfl) j hj
  refine ⟨block_lt_of_cell (hc 0 (by decide)), fun j hj => ?_⟩
  rw [hc j hj]
  simp only [List.getD_eq_getElem?_getD, List.getElem?_map]
  cases Lib.deBruijn64tab[j]? <;> rfl
 ·exact Aa (Lib.laidMet.reads h (by simp [Rows.deciParsesRow]))
 ·exact utf8Tabs_of_reads (ρ := Tryz.lays159_ren) { Tryz.lays159 with } ⟨by kernel_rfl, by kernel_rfl, by kernel_rfl, by kernel_rfl, by kernel_rfl, by kernel_rfl, by kernel_rfl⟩
   (Lib.laidMet.reads h (by rw [← utf8First_eq]; simp [Rows.deciParsesRow, Rows.laid_unicode_utf8_first])) (Lib.laidMet.reads h (by
    have e : Lib.acceptData = Rows.laid_unicode_utf8_acceptRanges := by kernel_rfl
    rw [e]
    simp [Rows.deciParsesRow]))
 ·exact caseVar_of_reads (ρ := Tryz.lays159_ren) { Tryz.lays159 with } Tryz.lays159.t206 ⟨by kernel_rfl, by kernel_rfl, by kernel_rfl, by kernel_rfl, by kernel_rfl, by kernel_rfl⟩
   (Lib.laidMet.reads h (by rw [← caseRanges_eq]; simp [Rows.deciParsesRow, Rows.laid_unicode_CaseRanges]))
theorem OW {W : World} (h : laidMetH Tryz.prog Rows.deciParsesRow.laid W) : GOk W :=
 have t := MK h
 ⟨fun w' hb => ⟨t.tz.below hb, t.rows.below hb, Utf8Tabs_below t.u8 hb, CaseVar_below t.cs hb, Lib.tabBelow_of_tabIs t.p10 w' hb⟩⟩
end Go.Proofs.YtafikkmnkeddpaaGreatDoor
namespace Go.Proofs.YtafikkmnkeddpaaGreatDoor
open Go.ChangeMaps Go.ChangeShapes Go.WideShapes Go.ChangeAt Go.RowKit Go.Joins
theorem own : ownKnob Tryz.prog.godebug = none := by kernel_rfl
variable {H : Type} {enc : TypeId × Value → H}
theorem wf_u64 {a : Int} (h : (Lit.int .u64 a).wf = true) : 0 ≤ a ∧ a ≤ 18446744073709551615 := by
 simp only [Lit.wf, IntKind.min, IntKind.max, IntKind.signed, IntKind.bits, Bool.and_eq_true, decide_eq_true_eq] at h
 simp at h
 omega
theorem wf_i16 {a : Int} (h : (Lit.int .i16 a).wf = true) : -32768 ≤ a ∧ a ≤ 32767 := by
 simp only [Lit.wf, IntKind.min, IntKind.max, IntKind.signed, IntKind.bits, Bool.and_eq_true, decide_eq_true_eq] at h
 simp at h
 omega
theorem wf_u8 {a : Int} (h : (Lit.int .u8 a).wf = true) : 0 ≤ a ∧ a ≤ 255 := by
 simp only [Lit.wf, IntKind.min, IntKind.max, IntKind.signed, IntKind.bits, Bool.and_eq_true, decide_eq_true_eq] at h
 simp at h
 omega
theorem Rj {α : Type} {cs : Array α} (h : cs.size = 6) : ∃ c0 c1 c2 c3 c4 c5, cs = #[c0, c1, c2, c3, c4, c5] := by
 obtain ⟨l⟩ := cs
 match l, h with
 | [c0, c1, c2, c3, c4, c5], _ => exact ⟨c0, c1, c2, c3, c4, c5, rfl⟩
theorem Rk {α : Type} {l : List α} (h : l.length = 6) : ∃ c0 c1 c2 c3 c4 c5, l = [c0, c1, c2, c3, c4, c5] := by
 match l, h with
 | [c0, c1, c2, c3, c4, c5], _ => exact ⟨c0, c1, c2, c3, c4, c5, rfl⟩
set_option maxRecDepth 100000 in
theorem Qk {w : World} {base : Nat} {spare : Nat → Bool} {held : Bool} {r : Reach} {b0 : Nat} {v : Value} {D : DataW H} {p : List MemPlace}
  (hv : Value.okWide Tryz.prog w r b0 35 v) (h : DataW.Trod enc Tryz.prog w base spare held 35 v D p) :
  ∃ a0 a1 a2 a3 a4 a5 : Int, v = .agg #[.int .i64 a0, .int .i64 a1, .int .u64 a2, .int .i16 a3, .int .u8 a4, .int .u8 a5] ∧ D = .agg [.lit (.int .i64 a0), .lit (.int .i64 a1), .lit (.int .u64 a2), .lit (.int .i16 a3), .lit (.int .u8 a4), .lit (.int .u8 a5)] ∧ p = [] ∧ (Lit.int .i64 a0).wf = true ∧ (Lit.int .i64 a1).wf = true ∧ (Lit.int .u64 a2).wf = true ∧ (Lit.int .i16 a3).wf = true ∧ (Lit.int .u8 a4).wf = true ∧ (Lit.int .u8 a5).wf = true := by
 obtain ⟨cs, rfl, hsz⟩ := okWide_struct Tryz.underlying35 hv
 obtain ⟨c0, c1, c2, c3, c4, c5, rfl⟩ := Rj (hsz.trans (show Tryz.prog.cellsOf 35 = 6 by kernel_rfl))
 obtain ⟨fuel, hf⟩ := h
 obtain ⟨xs, n, _, hx, _, hlen, hg⟩ := DataW.trod_struct Tryz.underlying35 hf
 obtain ⟨y0, y1, y2, y3, y4, y5, rfl⟩ := Rk (show xs.length = 6 from hlen)
 have s0 : Tryz.prog.cellsOf 3 = 1 := by kernel_rfl
 have s1 : Tryz.prog.cellsOf 22 = 1 := by kernel_rfl
 have s2 : Tryz.prog.cellsOf 33 = 1 := by kernel_rfl
 have s3 : Tryz.prog.cellsOf 5 = 1 := by kernel_rfl
 have g0 : DataW.trod enc Tryz.prog w base spare held n 3 [c0] = some y0 := by simpa [Value.cells, s0] using hg 0 _ rfl
 have g1 : DataW.trod enc Tryz.prog w base spare held n 3 [c1] = some y1 := by simpa [Value.cells, s0] using hg 1 _ rfl
 have g2 : DataW.trod enc Tryz.prog w base spare held n 22 [c2] = some y2 := by simpa [Value.cells, s1] using hg 2 _ rfl
 have g3 : DataW.trod enc Tryz.prog w base spare held n 33 [c3] = some y3 := by simpa [Value.cells, s2] using hg 3 _ rfl
 have g4 : DataW.trod enc Tryz.prog w base spare held n 5 [c4] = some y4 := by simpa [Value.cells, s3] using hg 4 _ rfl
 have g5 : DataW.trod enc Tryz.prog w base spare held n 5 [c5] = some y5 := by simpa [Value.cells, s3] using hg 5 _ rfl
 obtain ⟨a0, e0, z0, w0⟩ := DataW.trod_int Tryz.underlying3 g0
 obtain ⟨a1, e1, z1, w1⟩ := DataW.trod_int Tryz.underlying3 g1
 obtain ⟨a2, e2, z2, w2⟩ := DataW.trod_int Tryz.underlying22 g2
 obtain ⟨a3, e3, z3, w3⟩ := DataW.trod_int Tryz.underlying33 g3
 obtain ⟨a4, e4, z4, w4⟩ := DataW.trod_int Tryz.underlying5 g4
 obtain ⟨a5, e5, z5, w5⟩ := DataW.trod_int Tryz.underlying5 g5
 simp only [List.cons.injEq, and_true] at e0 e1 e2 e3 e4 e5
 subst e0 z0 e1 z1 e2 z2 e3 z3 e4 z4 e5 z5
 simp only [Prod.mk.injEq] at hx
 obtain ⟨rfl, rfl⟩ := hx
 exact ⟨a0, a1, a2, a3, a4, a5, rfl, rfl, rfl, w0, w1, w2, w3, w4, w5⟩
set_option maxRecDepth 100000 in
theorem shut0 {w : World} {base : Nat} {spare : Nat → Bool} {held : Bool} {a0 a1 a2 a3 a4 a5 : Int} (h0 : (Lit.int .i64 a0).wf = true) (h1 : (Lit.int .i64 a1).wf = true) (h2 : (Lit.int .u64 a2).wf = true) (h3 : (Lit.int .i16 a3).wf = true) (h4 : (Lit.int .u8 a4).wf = true) (h5 : (Lit.int .u8 a5).wf = true) :
  DataW.Trod enc Tryz.prog w base spare held 35 (.agg #[.int .i64 a0, .int .i64 a1, .int .u64 a2, .int .i16 a3, .int .u8 a4, .int .u8 a5]) (.agg [.lit (.int .i64 a0), .lit (.int .i64 a1), .lit (.int .u64 a2), .lit (.int .i16 a3), .lit (.int .u8 a4), .lit (.int .u8 a5)]) [] := by
 have s0 : Tryz.prog.cellsOf 3 = 1 := by kernel_rfl
 have s1 : Tryz.prog.cellsOf 22 = 1 := by kernel_rfl
 have s2 : Tryz.prog.cellsOf 33 = 1 := by kernel_rfl
 have s3 : Tryz.prog.cellsOf 5 = 1 := by kernel_rfl
 have t0 := trod_int_mk (enc := enc) (w := w) (base := base) (spare := spare) (held := held) 0 Tryz.underlying3 h0
 have t1 := trod_int_mk (enc := enc) (w := w) (base := base) (spare := spare) (held := held) 0 Tryz.underlying3 h1
 have t2 := trod_int_mk (enc := enc) (w := w) (base := base) (spare := spare) (held := held) 0 Tryz.underlying22 h2
 have t3 := trod_int_mk (enc := enc) (w := w) (base := base) (spare := spare) (held := held) 0 Tryz.underlying33 h3
 have t4 := trod_int_mk (enc := enc) (w := w) (base := base) (spare := spare) (held := held) 0 Tryz.underlying5 h4
 have t5 := trod_int_mk (enc := enc) (w := w) (base := base) (spare := spare) (held := held) 0 Tryz.underlying5 h5
 refine ⟨2, ?_⟩
 have := trod_struct_mk (enc := enc) (w := w) (base := base) (spare := spare) (held := held) (n := 1) (cs := [.int .i64 a0, .int .i64 a1, .int .u64 a2, .int .i16 a3, .int .u8 a4, .int .u8 a5])
  (xs := [(.lit (.int .i64 a0), []), (.lit (.int .i64 a1), []), (.lit (.int .u64 a2), []), (.lit (.int .i16 a3), []), (.lit (.int .u8 a4), []), (.lit (.int .u8 a5), [])])
  Tryz.underlying35 (by kernel_rfl) (by simp [s0, s1, s2, s3, t0, t1, t2, t3, t4, t5])
 simpa [Value.cells] using this
set_option maxRecDepth 100000 in
theorem lifted (os : Os) (started : os.Started) (H : Type) (enc : TypeId × Value → H) :
  ReturnsInHanded {} Tryz.checked os 5 .any (fun w args => (Rows.deciAlikeSpec.pre enc Tryz.prog Tryz.f5 [] false w args ∧ laidMetH Tryz.prog Rows.deciAlikeRow.laid w) ∧ sizedMet enc Tryz.prog Tryz.f5 (OpenSpec.ofChange Rows.deciAlikeSpec) false w args)
   (Rows.deciAlikeSpec.post enc Tryz.prog Tryz.f5 false true false false) := by
 refine returnsInHanded_of_change_and (C := Tryz.checked) (X := fun w _ => laidMetH Tryz.prog Rows.deciAlikeRow.laid w) (fun _ _ _ hh h => h.of_heap hh) own started (by kernel_rfl) Tryz.func5
  (ChangeSpec.witness_shaped (enc := enc) (C := Tryz.checked) (os := os) (X := fun w _ => laidMetH Tryz.prog Rows.deciAlikeRow.laid w) false (World.laidAll Tryz.prog os Rows.deciAlikeRow.laid) #[.agg #[.int .i64 0, .int .i64 0, .int .u64 0, .int .i16 0, .int .u8 0, .int .u8 0]] 8 (World.laidAll_os _ _ _)
   (World.shaped_of_ZipB (by kernel_rfl) (by kernel_rfl)) (by kernel_rfl) (by kernel_rfl) (by kernel_rfl)
   (by rw [MakeChecks.laidMetH_plain _ _ _ (by kernel_rfl)]; exact laidMet_laidAll _ (by kernel_rfl) (by kernel_rfl))) ?_
 intro W base args ds gs before hval0 hW _ _ hL _
 have hval : ∀ (j : Nat) t v, Tryz.f5.params[j]? = some t → args[j]? = some v → Value.okWide Tryz.prog W .any base t v := hval0
 have hW' := hW
 obtain ⟨p, q, hA0, hV, rfl, hfz, hnd⟩ := hW
 have hA : DataW.TrodAll enc Tryz.prog W 0 (fun _ => true) true Tryz.f5.params.toList args.toList ds p := hA0
 rw [Tryz.params5] at hA hval
 obtain ⟨v0, d0, rfl, rfl, h0⟩ := trodAll_one hA
 obtain ⟨rfl, rfl⟩ := trodVars_none hV
 obtain ⟨a0, a1, a2, a3, a4, a5, rfl, rfl, rfl, b0, b1, b2, b3, b4, b5⟩ := Qk (hval 0 35 v0 rfl rfl) h0
 have hG := OW hL
 clear hA0 hval0
 simp only [List.append_nil] at hW'
 obtain ⟨k, hk⟩ := P.yB a0 a1 a2 a3 a4 a5 (wf_u64 b2).1 (by have := (wf_u64 b2).2; omega) (wf_i16 b3).1 (wf_i16 b3).2 (wf_u8 b4).1 (wf_u8 b4).2 (wf_u8 b5).1 (wf_u8 b5).2
 refine (E.Qs (x := .bool true) (l := [.agg [.v (.int .i64 a0), .v (.int .i64 a1), .v (.int .u64 a2), .v (.int .i16 a3), .v (.int .u8 a4), .v (.int .u8 a5)]]) (P.ak.ok k) hG (.cons _ _ _ _ (.agg _ _ (.cons _ _ _ _ (.v _) (.cons _ _ _ _ (.v _) (.cons _ _ _ _ (.v _) (.cons _ _ _ _ (.v _) (.cons _ _ _ _ (.v _) (.cons _ _ _ _ (.v _) .nil))))))) .nil) (by show (P.ak.f k a0 a1 a2 a3 a4 a5).bind _ = _; rw [hk]; rfl)).mono fun e W' ⟨he, hb⟩ => ?_
 subst he
 exact ⟨_, rfl, _, _, _, [], [], [], hW', trodAll_cons_mk (shut_bool Tryz.underlying4 _) trodAll_mk0, trodAll_cons_mk (shut0 b0 b1 b2 b3 b4 b5) trodAll_mk0, rfl, hb.frame _, fun h => by cases h⟩
theorem BK {P : Program} {f : FuncId} {fn : Func} {s : ChangeSpec} {c : OpenClaim}
  (h1 : (c.wf (OpenSpec.ofChange s) && laidOutB P && mapsRowed P && fn.params.all (P.readableRec ·) && namedTie P c.named s.vars) = true)
  (h2 : ((c.stops == []) && (P.stops == []) && (c.knobs == []) && (P.stopKnobs == [])) = true)
  (h3 : (c.inPlace == P.inPlace f) = true) (h4 : (c.unfollowed == P.unfollowed f) = true) (h5 : (c.recurses == P.recurses f) = true) (h6 : (c.named == P.varsNamed f) = true)
  (h7 : ((c.maps == (fn.params.toList ++ s.plain.varTypes P).any (P.mapsRec ·)) && (c.ifaces == (fn.params.toList ++ s.plain.varTypes P).any (P.ifacesRec ·)) && (c.mapsOut == P.mapsAmong fn.resultTypes.toList) &&
   (c.loops == (fn.params.toList ++ s.plain.varTypes P).any (P.loopsFrom ·)) && (c.wideKeys == (fn.params.toList ++ s.plain.varTypes P ++ fn.resultTypes.toList).any (P.wideKeysFrom ·)) &&
   s.vars.all (P.varReadable ·) && fn.resultTypes.all (fun t => P.readableRec t && decide (t < P.types.size)) && (c.ifacesOut == fn.resultTypes.toList.any (P.ifacesRec ·)) && (c.loopsOut == fn.resultTypes.toList.any (P.loopsFrom ·)) && (c.plainKeys == P.plainKeys) && c.shortTexts.isNone) = true)
  (h8 : (P.stopsHeard && P.mayEnter) = true) (h9 : ((c.lifted == P.liftsFinal) && (P.make == some c.make)) = true)
  (h10 : ((c.kinds == (if c.domain.isEmpty then [] else fn.params.toList.map fun t => match P.underlying t with | some (.int k) => some k | _ => none)) && (c.pinned == c.pinnedBy)) = true)
  (h11 : ((c.veiled == (fn.params.toList ++ s.plain.varTypes P ++ fn.resultTypes.toList).any (P.veiledRec ·)) && c.veiledFits P fn.params.toList (fn.params.toList ++ s.plain.varTypes P ++ fn.resultTypes.toList)) = true) : joinedFacts P f fn s c = true := by
 simp only [joinedFacts, Bool.and_eq_true] at *
 obtain ⟨⟨⟨⟨a1, a2⟩, a3⟩, a4⟩, a5⟩ := h1
 obtain ⟨⟨⟨b1, b2⟩, b3⟩, b4⟩ := h2
 obtain ⟨⟨⟨⟨⟨⟨⟨⟨⟨⟨c1, c2⟩, c3⟩, c4⟩, c5⟩, c6⟩, c7⟩, c8⟩, c9⟩, c10⟩, c11⟩ := h7
 obtain ⟨d1, d2⟩ := h8
 obtain ⟨e1, e2⟩ := h9
 obtain ⟨f1, f2⟩ := h10
 obtain ⟨g1, g2⟩ := h11
 and_intros <;> assumption
noncomputable abbrev pg : Program := Tryz.pinned.checked.prog
noncomputable abbrev fn0 : Func := Tryz.f5
noncomputable abbrev cl : OpenClaim := Rows.deciAlikeRow
noncomputable abbrev sp : ChangeSpec := Rows.deciAlikeSpec
theorem jo1 : (cl.wf (OpenSpec.ofChange sp) && laidOutB pg && mapsRowed pg && fn0.params.all (pg.readableRec ·) && namedTie pg cl.named sp.vars) = true := by kernel_rfl
theorem jo3 : (cl.inPlace == pg.inPlace 5) = true := by kernel_rfl
theorem jo4 : (cl.unfollowed == pg.unfollowed 5) = true := by kernel_rfl
theorem jo5 : (cl.recurses == pg.recurses 5) = true := by kernel_rfl
theorem jo6 : (cl.named == pg.varsNamed 5) = true := by kernel_rfl
theorem jo8 : (pg.stopsHeard && pg.mayEnter) = true := by kernel_rfl
theorem jo9 : ((cl.lifted == pg.liftsFinal) && (pg.make == some cl.make)) = true := by kernel_rfl
theorem joined : joinedFacts pg 5 fn0 sp cl = true :=
 BK jo1 (by kernel_rfl) jo3 jo4 jo5 jo6 (by kernel_rfl) jo8 jo9 (by kernel_rfl) (by kernel_rfl)
theorem holds : Rows.DeciAlikeSaid :=
 OpenClaim.holds_of_wide 5 Tryz.f5 rfl rfl rfl rfl rfl rfl rfl ⟨rfl, rfl, rfl, rfl, rfl⟩ rfl rfl rfl rfl rfl (by kernel_rfl) Tryz.func5 joined
  (of_decide_eq_true (by kernel_rfl)) (by unfold Func.isWrapper; first | (rw [if_pos (by decide +kernel)]; kernel_rfl) | (rw [if_neg (by decide +kernel)]; exact ⟨rfl, rfl⟩))
  (fun os started H enc _ => lifted os started H enc)
theorem mainIs : pg.mainIs = some (true, "a428c48d2c159c322eb171410f219799c82a6e30d22fa21a80504f9541438305".toList) := by kernel_rfl
theorem looks : pg.looks [] = false := by kernel_rfl
theorem goes : cl.goesBy pg = false := by kernel_rfl
theorem wft : cl.wfByText (OpenSpec.ofChange sp) = true := by kernel_rfl
theorem proved : Rows.DeciAlikeCardSaid :=
 Claim7.holds_tied_plain_at .later [] [.data, .data, .data, .data, .data, .pinned, .pinned] true (true, "a428c48d2c159c322eb171410f219799c82a6e30d22fa21a80504f9541438305") false
  holds (fun _ h => by cases h) wft (fun _ h => by cases h) deciAlike_row_tie rfl ⟨rfl, rfl⟩ mainIs rfl
  (fun f fn hf hfn => by
   obtain rfl : f = 5 := Option.some.inj ((show Tryz.prog.funcNamed "vernier/vernierlaw16.DeciAlike" = some 5 by kernel_rfl).symm.trans hf) |>.symm
   obtain rfl : fn = Tryz.f5 := (Option.some.inj (Tryz.func5.symm.trans hfn)).symm
   exact ⟨looks.symm, fun j t ht => by
    rw [Tryz.params5] at ht
    have hm : t ∈ [35] := by simpa using Array.mem_of_getElem? ht
    have hall : ([35].all fun u => !Tryz.prog.wantsStandIn u) = true := by kernel_rfl
    exact (show Tryz.prog.wantsStandIn t = false by simpa using List.all_eq_true.1 hall t hm)⟩)
  goes.symm
#print axioms proved
end Go.Proofs.YtafikkmnkeddpaaGreatDoor
