/- DeciDigits: for every format, mode, pattern and number of digits the program's Digits answers what the document answers: text, whether it is another number, error: the statement Rows.DeciDigitsCardSaid, the row tied to the text of the program. No condition. -/
import Derived.Test.YtafikkmnkeddpaaGreatDoorRows
import Derived.LaidMore
import Derived.ChangeAt
import Derived.Stop.LaidErr
import Derived.Lib.LaidU8
import Derived.Lib.LaidCase
import Derived.Test.YtafikkmnkeddpaaGreatDoorCards
import Derived.Test.YtafikkmnkeddpaaGreatDoorTie
import Derived.ProofKit
import Derived.OpenShut
import Derived.Lay
import Derived.ChangeMaps5
import Derived.Stop.Joined
import Derived.Lib.SmallJoins
import Derived.SevenTiedAt
import Derived.Test.YtafikkmnkeddpaaGreatDoorM4
set_option linter.unusedVariables false
set_option linter.unusedSimpArgs false
set_option maxRecDepth 100000
namespace Go.Proofs.YtafikkmnkeddpaaGreatDoor.P
open Go.RowKit Go.Proofs.YtafikkmnkeddpaaGreatDoorW.PrintWords Go.Proofs.YtafikkmnkeddpaaGreatDoorW.PrintLast Go.Proofs.YtafikkmnkeddpaaGreatDoorW.PrintMore Go.Proofs.YtafikkmnkeddpaaGreatDoor.E Go.Proofs.Tryz
def tys : List (TypeId × TI) := [(3, .int .i64), (4, .bool), (5, .int .u8), (9, .str), (22, .int .u64), (33, .int .i16), (35, .st [.v (.int .i64 0), .v (.int .i64 0), .v (.int .u64 0), .v (.int .i16 0), .v (.int .u8 0), .v (.int .u8 0)] [(0, 1, false), (1, 1, false), (2, 1, false), (3, 1, false), (4, 1, false), (5, 1, false)]), (53, .st [.v (.int .i64 0), .v (.int .i64 0), .v (.int .u64 0), .v (.int .i64 0)] [(0, 1, false), (1, 1, false), (2, 1, false), (3, 1, false)]), (61, .int .u64), (64, .sl 5 .u8 1), (73, .sl 22 .u64 8), (88, .st [.v (.int .i64 0), .v (.int .i64 0), .v (.int .i64 0), .v (.int .i64 0)] [(0, 1, false), (1, 1, false), (2, 1, false), (3, 1, false)]), (93, .st [.v (.bool false), .v (.string (⟨#[]⟩ : ByteArray)), .v (.string (⟨#[]⟩ : ByteArray)), .v (.int .i64 0)] [(0, 1, false), (1, 1, false), (2, 1, false), (3, 1, false)]), (104, .st [.v (.bool false), .v (.bool false), .v (.bool false), .v (.string (⟨#[]⟩ : ByteArray)), .v (.int .i64 0)] [(0, 1, false), (1, 1, false), (2, 1, false), (3, 1, false), (4, 1, false)]), (111, .st [.v (.bool false), .s .u64, .s .u64, .v (.int .i64 0)] [(0, 1, false), (1, 1, false), (2, 1, false), (3, 1, false)]), (118, .st [.v (.bool false), .v (.int .u64 0), .v (.int .i64 0), .v (.int .u64 0)] [(0, 1, false), (1, 1, false), (2, 1, false), (3, 1, false)]), (197, .st [.v (.bool false), .s .u64, .v (.int .i64 0), .v (.bool false)] [(0, 1, false), (1, 1, false), (2, 1, false), (3, 1, false)]), (201, .st [.v (.int .i64 0), .v (.int .i64 0), .v (.int .i64 0), .v (.int .i64 0)] [(0, 1, false), (1, 1, false), (2, 1, false), (3, 1, false)])]
theorem ty3 : m_ prog 3 (match lk 3 tys with | some i => i | none => .bool) := ⟨by kernel_rfl, by kernel_rfl⟩
theorem ty4 : m_ prog 4 (match lk 4 tys with | some i => i | none => .bool) := ⟨by kernel_rfl, by kernel_rfl⟩
theorem ty5 : m_ prog 5 (match lk 5 tys with | some i => i | none => .bool) := ⟨by kernel_rfl, by kernel_rfl⟩
theorem ty9 : m_ prog 9 (match lk 9 tys with | some i => i | none => .bool) := ⟨by kernel_rfl, by kernel_rfl⟩
theorem RS : m_ prog 22 (match lk 22 tys with | some i => i | none => .bool) := ⟨by kernel_rfl, by kernel_rfl⟩
theorem RU : m_ prog 33 (match lk 33 tys with | some i => i | none => .bool) := ⟨by kernel_rfl, by kernel_rfl⟩
theorem RV : m_ prog 35 (match lk 35 tys with | some i => i | none => .bool) := ⟨_, underlying35, by kernel_rfl, by kernel_rfl⟩
theorem RX : m_ prog 53 (match lk 53 tys with | some i => i | none => .bool) := ⟨_, underlying53, by kernel_rfl, by kernel_rfl⟩
theorem RY : m_ prog 61 (match lk 61 tys with | some i => i | none => .bool) := ⟨by kernel_rfl, by kernel_rfl⟩
theorem RZ : m_ prog 64 (match lk 64 tys with | some i => i | none => .bool) := ⟨by kernel_rfl, by kernel_rfl, by kernel_rfl, by kernel_rfl, by decide⟩
theorem O4 : m_ prog 73 (match lk 73 tys with | some i => i | none => .bool) := ⟨by kernel_rfl, by kernel_rfl, by kernel_rfl, by kernel_rfl, by decide⟩
theorem I8 : m_ prog 88 (match lk 88 tys with | some i => i | none => .bool) := ⟨_, underlying88, by kernel_rfl, by kernel_rfl⟩
theorem R_ : m_ prog 93 (match lk 93 tys with | some i => i | none => .bool) := ⟨_, underlying93, by kernel_rfl, by kernel_rfl⟩
theorem Qw : m_ prog 104 (match lk 104 tys with | some i => i | none => .bool) := ⟨_, underlying104, by kernel_rfl, by kernel_rfl⟩
theorem Qx : m_ prog 111 (match lk 111 tys with | some i => i | none => .bool) := ⟨_, underlying111, by kernel_rfl, by kernel_rfl⟩
theorem Qy : m_ prog 118 (match lk 118 tys with | some i => i | none => .bool) := ⟨_, underlying118, by kernel_rfl, by kernel_rfl⟩
theorem Qz : m_ prog 197 (match lk 197 tys with | some i => i | none => .bool) := ⟨_, underlying197, by kernel_rfl, by kernel_rfl⟩
theorem QA : m_ prog 201 (match lk 201 tys with | some i => i | none => .bool) := ⟨_, underlying201, by kernel_rfl, by kernel_rfl⟩
theorem fQ : kK prog tys := And.intro ty3 <| And.intro ty4 <| And.intro ty5 <| And.intro ty9 <| And.intro RS <| And.intro RU <| And.intro RV <| And.intro RX <| And.intro RY <| And.intro RZ <| And.intro O4 <| And.intro I8 <| And.intro R_ <| And.intro Qw <| And.intro Qx <| And.intro Qy <| And.intro Qz <| And.intro QA <| trivial
theorem stays : rC GOk := ⟨fun w w' h hb => h.below hb⟩
theorem mixed : prog.follows .mixedOrders = true := by kernel_rfl
abbrev AO := jI prog GOk
abbrev FO := BP prog GOk
def jU.app : List AV → (AV → Option AV) → Option AV := fun l K => match l with
 | [.v (.string z0)] => (jU.f z0).bind fun r => K (.tup [.ro true .u64 r.1, .v (.int .i64 r.2)])
 | _ => none
theorem jU.ok : jI prog GOk 37 jU.app := ⟨⟨f37, func37, by kernel_rfl, by kernel_rfl⟩, fun l args w O K r hG hO hl h => by
 unfold jU.app at h
 split at h
 ·rename_i z0
  obtain ⟨y, hy, hK⟩ := Option.bind_eq_some_iff.1 h
  obtain ⟨v0, us0, rfl, h0, hl0⟩ := dP hl
  obtain rfl := iW h0
  obtain rfl := iG hl0
  refine ⟨_, hK, (jU.calls z0 y.1 y.2 w hy).mono ?_⟩
  rintro e w' ⟨v0_, rfl, hR0, hb⟩
  exact ⟨_, rfl, (.tup _ _ (.cons _ _ _ _ (lU hR0 hO) (.cons _ _ _ _ (.v _) .nil))), hb⟩
 ·cases h⟩
def bY.app : List AV → (AV → Option AV) → Option AV := fun l K => match l with
 | [.v (.int .i64 z0)] => (bY.f z0).bind fun r => K (.tup [.agg [.v (.int .i64 r.1), .v (.int .i64 r.2.1), .v (.int .i64 r.2.2.1), .v (.int .i64 r.2.2.2.1)], .v (.int .i64 r.2.2.2.2)])
 | _ => none
theorem bY.ok : jI prog GOk 52 bY.app := ⟨⟨f52, func52, by kernel_rfl, by kernel_rfl⟩, fun l args w O K r hG hO hl h => by
 unfold bY.app at h
 split at h
 ·rename_i z0
  obtain ⟨y, hy, hK⟩ := Option.bind_eq_some_iff.1 h
  obtain ⟨v0, us0, rfl, h0, hl0⟩ := dP hl
  obtain rfl := iW h0
  obtain rfl := iG hl0
  refine ⟨_, hK, (bY.calls z0 y.1 y.2.1 y.2.2.1 y.2.2.2.1 y.2.2.2.2 w hG hy).mono ?_⟩
  rintro e w' ⟨rfl, hb⟩
  exact ⟨_, rfl, (.tup _ _ (.cons _ _ _ _ (.agg _ _ (.cons _ _ _ _ (.v _) (.cons _ _ _ _ (.v _) (.cons _ _ _ _ (.v _) (.cons _ _ _ _ (.v _) .nil))))) (.cons _ _ _ _ (.v _) .nil))), hb⟩
 ·cases h⟩
def iI.app : List AV → (AV → Option AV) → Option AV := fun l K => match l with
 | [.v (.string z0)] => (iI.f z0).bind fun r => K (.v (.string r))
 | _ => none
theorem iI.ok : jI prog GOk 128 iI.app := ⟨⟨f128, func128, by kernel_rfl, by kernel_rfl⟩, fun l args w O K r hG hO hl h => by
 unfold iI.app at h
 split at h
 ·rename_i z0
  obtain ⟨y, hy, hK⟩ := Option.bind_eq_some_iff.1 h
  obtain ⟨v0, us0, rfl, h0, hl0⟩ := dP hl
  obtain rfl := iW h0
  obtain rfl := iG hl0
  refine ⟨_, hK, (iI.calls z0 y w hG hy).mono ?_⟩
  rintro e w' ⟨rfl, hb⟩
  exact ⟨_, rfl, (.v _), hb⟩
 ·cases h⟩
def iw.app : List AV → (AV → Option AV) → Option AV := fun l K => match l with
 | [.v (.string z0), .v (.string z1)] => (iw.f z0 z1).bind fun r => K (.v (.string r))
 | _ => none
theorem iw.ok : jI prog GOk 55 iw.app := ⟨⟨f55, func55, by kernel_rfl, by kernel_rfl⟩, fun l args w O K r hG hO hl h => by
 unfold iw.app at h
 split at h
 ·rename_i z0 z1
  obtain ⟨y, hy, hK⟩ := Option.bind_eq_some_iff.1 h
  obtain ⟨v0, us0, rfl, h0, hl0⟩ := dP hl
  obtain rfl := iW h0
  obtain ⟨v1, us1, rfl, h1, hl1⟩ := dP hl0
  obtain rfl := iW h1
  obtain rfl := iG hl1
  refine ⟨_, hK, (iw.calls z0 z1 y w hy).mono ?_⟩
  rintro e w' ⟨rfl, hb⟩
  exact ⟨_, rfl, (.v _), hb.below⟩
 ·cases h⟩
def fP.app : List AV → (AV → Option AV) → Option AV := fun l K => match l with
 | [.v (.int .i64 z0), .v (.bool z1)] => (fP.f z0 z1).bind fun r => K (.tup [.v (.int .u64 r.1), .v (.int .i64 r.2)])
 | _ => none
theorem fP.ok : jI prog GOk 56 fP.app := ⟨⟨f56, func56, by kernel_rfl, by kernel_rfl⟩, fun l args w O K r hG hO hl h => by
 unfold fP.app at h
 split at h
 ·rename_i z0 z1
  obtain ⟨y, hy, hK⟩ := Option.bind_eq_some_iff.1 h
  obtain ⟨v0, us0, rfl, h0, hl0⟩ := dP hl
  obtain rfl := iW h0
  obtain ⟨v1, us1, rfl, h1, hl1⟩ := dP hl0
  obtain rfl := iW h1
  obtain rfl := iG hl1
  refine ⟨_, hK, (fP.calls z0 z1 y.1 y.2 w hG hy).mono ?_⟩
  rintro e w' ⟨rfl, hb⟩
  exact ⟨_, rfl, (.tup _ _ (.cons _ _ _ _ (.v _) (.cons _ _ _ _ (.v _) .nil))), hb⟩
 ·cases h⟩
def jL.app : List AV → (AV → Option AV) → Option AV := fun l K => match l with
 | [.v (.int .i64 z0)] => (jL.f z0).bind fun r => K (.tup [.v (.int .u64 r.1), .v (.int .i64 r.2)])
 | _ => none
theorem jL.ok : jI prog GOk 57 jL.app := ⟨⟨f57, func57, by kernel_rfl, by kernel_rfl⟩, fun l args w O K r hG hO hl h => by
 unfold jL.app at h
 split at h
 ·rename_i z0
  obtain ⟨y, hy, hK⟩ := Option.bind_eq_some_iff.1 h
  obtain ⟨v0, us0, rfl, h0, hl0⟩ := dP hl
  obtain rfl := iW h0
  obtain rfl := iG hl0
  refine ⟨_, hK, (jL.calls z0 y.1 y.2 w hG hy).mono ?_⟩
  rintro e w' ⟨rfl, hb⟩
  exact ⟨_, rfl, (.tup _ _ (.cons _ _ _ _ (.v _) (.cons _ _ _ _ (.v _) .nil))), hb⟩
 ·cases h⟩
def iQ.app : List AV → (AV → Option AV) → Option AV := fun l K => match l with
 | [.v (.int .i64 z0), .v (.bool z1)] => (iQ.f z0 z1).bind fun r => K (.tup [.v (.int .u64 r.1), .v (.int .i64 r.2)])
 | _ => none
theorem iQ.ok : jI prog GOk 58 iQ.app := ⟨⟨f58, func58, by kernel_rfl, by kernel_rfl⟩, fun l args w O K r hG hO hl h => by
 unfold iQ.app at h
 split at h
 ·rename_i z0 z1
  obtain ⟨y, hy, hK⟩ := Option.bind_eq_some_iff.1 h
  obtain ⟨v0, us0, rfl, h0, hl0⟩ := dP hl
  obtain rfl := iW h0
  obtain ⟨v1, us1, rfl, h1, hl1⟩ := dP hl0
  obtain rfl := iW h1
  obtain rfl := iG hl1
  refine ⟨_, hK, (iQ.calls z0 z1 y.1 y.2 w hG hy).mono ?_⟩
  rintro e w' ⟨rfl, hb⟩
  exact ⟨_, rfl, (.tup _ _ (.cons _ _ _ _ (.v _) (.cons _ _ _ _ (.v _) .nil))), hb⟩
 ·cases h⟩
def kC.app : List AV → (AV → Option AV) → Option AV := fun l K => match l with
 | [.ro false .u64 z0] => (kC.f z0).bind fun r => K (.ro true .u64 r)
 | _ => none
theorem kC.ok : jI prog GOk 140 kC.app := ⟨⟨f140, func140, by kernel_rfl, by kernel_rfl⟩, fun l args w O K r hG hO hl h => by
 unfold kC.app at h
 split at h
 ·rename_i z0
  obtain ⟨y, hy, hK⟩ := Option.bind_eq_some_iff.1 h
  obtain ⟨v0, us0, rfl, h0, hl0⟩ := dP hl
  obtain ⟨A0, c0, rfl, hr0, hc0⟩ := jZ h0
  obtain rfl := iG hl0
  refine ⟨_, hK, (kC.calls A0 c0 z0 y w hr0 hc0 hy).mono ?_⟩
  rintro e w' ⟨v0_, rfl, hR0, hb⟩
  exact ⟨_, rfl, (lU hR0 hO), hb⟩
 ·cases h⟩
def fV.app : List AV → (AV → Option AV) → Option AV := fun l K => match l with
 | [.ro false .u64 z0, .v (.int .i64 z1)] => (fV.f z0 z1).bind fun r => K (.tup [.ro true .u64 r.1, .v (.int .i64 r.2)])
 | _ => none
theorem fV.ok : jI prog GOk 89 fV.app := ⟨⟨f89, func89, by kernel_rfl, by kernel_rfl⟩, fun l args w O K r hG hO hl h => by
 unfold fV.app at h
 split at h
 ·rename_i z0 z1
  obtain ⟨y, hy, hK⟩ := Option.bind_eq_some_iff.1 h
  obtain ⟨v0, us0, rfl, h0, hl0⟩ := dP hl
  obtain ⟨A0, c0, rfl, hr0, hc0⟩ := jZ h0
  obtain ⟨v1, us1, rfl, h1, hl1⟩ := dP hl0
  obtain rfl := iW h1
  obtain rfl := iG hl1
  refine ⟨_, hK, (fV.calls A0 c0 z0 z1 y.1 y.2 w hr0 hc0 hy).mono ?_⟩
  rintro e w' ⟨v0_, rfl, hR0, hb⟩
  exact ⟨_, rfl, (.tup _ _ (.cons _ _ _ _ (lU hR0 hO) (.cons _ _ _ _ (.v _) .nil))), hb⟩
 ·cases h⟩
def gZ.app : List AV → (AV → Option AV) → Option AV := fun l K => match l with
 | [.ro false .u64 z0, .ro false .u64 z1] => (gZ.f z0 z1).bind fun r => K (.tup [.ro true .u64 r.1, .ro true .u64 r.2.1, .v (.int .i64 r.2.2)])
 | _ => none
theorem gZ.ok : jI prog GOk 101 gZ.app := ⟨⟨f101, func101, by kernel_rfl, by kernel_rfl⟩, fun l args w O K r hG hO hl h => by
 unfold gZ.app at h
 split at h
 ·rename_i z0 z1
  obtain ⟨y, hy, hK⟩ := Option.bind_eq_some_iff.1 h
  obtain ⟨v0, us0, rfl, h0, hl0⟩ := dP hl
  obtain ⟨A0, c0, rfl, hr0, hc0⟩ := jZ h0
  obtain ⟨v1, us1, rfl, h1, hl1⟩ := dP hl0
  obtain ⟨A1, c1, rfl, hr1, hc1⟩ := jZ h1
  obtain rfl := iG hl1
  refine ⟨_, hK, (gZ.calls A0 c0 z0 A1 c1 z1 y.1 y.2.1 y.2.2 w hr0 hc0 hr1 hc1 hy).mono ?_⟩
  rintro e w' ⟨v0_, v1_, rfl, hR0, hR1, hb⟩
  exact ⟨_, rfl, (.tup _ _ (.cons _ _ _ _ (lU hR0 hO) (.cons _ _ _ _ (lU hR1 hO) (.cons _ _ _ _ (.v _) .nil)))), hb⟩
 ·cases h⟩
def iD.app : List AV → (AV → Option AV) → Option AV := fun l K => match l with
 | [.ro false .u64 z0, .ro false .u64 z1] => (iD.f z0 z1).bind fun r => K (.v (.int .i64 r))
 | _ => none
theorem iD.ok : jI prog GOk 103 iD.app := ⟨⟨f103, func103, by kernel_rfl, by kernel_rfl⟩, fun l args w O K r hG hO hl h => by
 unfold iD.app at h
 split at h
 ·rename_i z0 z1
  obtain ⟨y, hy, hK⟩ := Option.bind_eq_some_iff.1 h
  obtain ⟨v0, us0, rfl, h0, hl0⟩ := dP hl
  obtain ⟨A0, c0, rfl, hr0, hc0⟩ := jZ h0
  obtain ⟨v1, us1, rfl, h1, hl1⟩ := dP hl0
  obtain ⟨A1, c1, rfl, hr1, hc1⟩ := jZ h1
  obtain rfl := iG hl1
  refine ⟨_, hK, (iD.calls A0 c0 z0 A1 c1 z1 y w hr0 hc0 hr1 hc1 hy).mono ?_⟩
  rintro e w' ⟨rfl, hb⟩
  exact ⟨_, rfl, (.v _), hb.below⟩
 ·cases h⟩
def iV.app : List AV → (AV → Option AV) → Option AV := fun l K => match l with
 | [.ro false .u64 z0, .ro false .u64 z1] => (iV.f z0 z1).bind fun r => K (.ro true .u64 r)
 | _ => none
theorem iV.ok : jI prog GOk 104 iV.app := ⟨⟨f104, func104, by kernel_rfl, by kernel_rfl⟩, fun l args w O K r hG hO hl h => by
 unfold iV.app at h
 split at h
 ·rename_i z0 z1
  obtain ⟨y, hy, hK⟩ := Option.bind_eq_some_iff.1 h
  obtain ⟨v0, us0, rfl, h0, hl0⟩ := dP hl
  obtain ⟨A0, c0, rfl, hr0, hc0⟩ := jZ h0
  obtain ⟨v1, us1, rfl, h1, hl1⟩ := dP hl0
  obtain ⟨A1, c1, rfl, hr1, hc1⟩ := jZ h1
  obtain rfl := iG hl1
  refine ⟨_, hK, (iV.calls A0 c0 z0 A1 c1 z1 y w hr0 hc0 hr1 hc1 hy).mono ?_⟩
  rintro e w' ⟨v0_, rfl, hR0, hb⟩
  exact ⟨_, rfl, (lU hR0 hO), hb⟩
 ·cases h⟩
def kS.app : List AV → (AV → Option AV) → Option AV := fun l K => match l with
 | [.ro false .u64 z0, .ro false .u64 z1] => (kS.f z0 z1).bind fun r => K (.tup [.ro true .u64 r.1, .v (.int .i64 r.2)])
 | _ => none
theorem kS.ok : jI prog GOk 160 kS.app := ⟨⟨f160, func160, by kernel_rfl, by kernel_rfl⟩, fun l args w O K r hG hO hl h => by
 unfold kS.app at h
 split at h
 ·rename_i z0 z1
  obtain ⟨y, hy, hK⟩ := Option.bind_eq_some_iff.1 h
  obtain ⟨v0, us0, rfl, h0, hl0⟩ := dP hl
  obtain ⟨A0, c0, rfl, hr0, hc0⟩ := jZ h0
  obtain ⟨v1, us1, rfl, h1, hl1⟩ := dP hl0
  obtain ⟨A1, c1, rfl, hr1, hc1⟩ := jZ h1
  obtain rfl := iG hl1
  refine ⟨_, hK, (kS.calls A0 c0 z0 A1 c1 z1 y.1 y.2 w hr0 hc0 hr1 hc1 hy).mono ?_⟩
  rintro e w' ⟨v0_, rfl, hR0, hb⟩
  exact ⟨_, rfl, (.tup _ _ (.cons _ _ _ _ (lU hR0 hO) (.cons _ _ _ _ (.v _) .nil))), hb⟩
 ·cases h⟩
def iZ.app : List AV → (AV → Option AV) → Option AV := fun l K => match l with
 | [.ro false .u64 z0] => (iZ.f z0).bind fun r => K (.v (.int .i64 r))
 | _ => none
theorem iZ.ok : jI prog GOk 182 iZ.app := ⟨⟨f182, func182, by kernel_rfl, by kernel_rfl⟩, fun l args w O K r hG hO hl h => by
 unfold iZ.app at h
 split at h
 ·rename_i z0
  obtain ⟨y, hy, hK⟩ := Option.bind_eq_some_iff.1 h
  obtain ⟨v0, us0, rfl, h0, hl0⟩ := dP hl
  obtain ⟨A0, c0, rfl, hr0, hc0⟩ := jZ h0
  obtain rfl := iG hl0
  refine ⟨_, hK, (iZ.calls A0 c0 z0 y w hr0 hc0 hy).mono ?_⟩
  rintro e w' ⟨rfl, hb⟩
  exact ⟨_, rfl, (.v _), hb.below⟩
 ·cases h⟩
def iy.app : List AV → (AV → Option AV) → Option AV := fun l K => match l with
 | [.v (.int .i64 z0), .v (.bool z1)] => (iy.f z0 z1).bind fun r => K (.tup [.v (.int .u64 r.1), .v (.int .i64 r.2)])
 | _ => none
theorem iy.ok : jI prog GOk 248 iy.app := ⟨⟨f248, func248, by kernel_rfl, by kernel_rfl⟩, fun l args w O K r hG hO hl h => by
 unfold iy.app at h
 split at h
 ·rename_i z0 z1
  obtain ⟨y, hy, hK⟩ := Option.bind_eq_some_iff.1 h
  obtain ⟨v0, us0, rfl, h0, hl0⟩ := dP hl
  obtain rfl := iW h0
  obtain ⟨v1, us1, rfl, h1, hl1⟩ := dP hl0
  obtain rfl := iW h1
  obtain rfl := iG hl1
  refine ⟨_, hK, (iy.calls z0 z1 y.1 y.2 w hG hy).mono ?_⟩
  rintro e w' ⟨rfl, hb⟩
  exact ⟨_, rfl, (.tup _ _ (.cons _ _ _ _ (.v _) (.cons _ _ _ _ (.v _) .nil))), hb⟩
 ·cases h⟩
def lM.app : List AV → (AV → Option AV) → Option AV := fun l K => match l with
 | [.ro false .u64 z0, .v (.int .i64 z1)] => (lM.f z0 z1).bind fun r => K (.tup [.ro true .u64 r.1, .v (.int .i64 r.2)])
 | _ => none
theorem lM.ok : jI prog GOk 249 lM.app := ⟨⟨f249, func249, by kernel_rfl, by kernel_rfl⟩, fun l args w O K r hG hO hl h => by
 unfold lM.app at h
 split at h
 ·rename_i z0 z1
  obtain ⟨y, hy, hK⟩ := Option.bind_eq_some_iff.1 h
  obtain ⟨v0, us0, rfl, h0, hl0⟩ := dP hl
  obtain ⟨A0, c0, rfl, hr0, hc0⟩ := jZ h0
  obtain ⟨v1, us1, rfl, h1, hl1⟩ := dP hl0
  obtain rfl := iW h1
  obtain rfl := iG hl1
  refine ⟨_, hK, (lM.calls A0 c0 z0 z1 y.1 y.2 w hG hr0 hc0 hy).mono ?_⟩
  rintro e w' ⟨v0_, rfl, hR0, hb⟩
  exact ⟨_, rfl, (.tup _ _ (.cons _ _ _ _ (lU hR0 hO) (.cons _ _ _ _ (.v _) .nil))), hb⟩
 ·cases h⟩
def lN.app : List AV → (AV → Option AV) → Option AV := fun l K => match l with
 | [.ro false .u64 z0, .v (.int .i64 z1)] => (lN.f z0 z1).bind fun r => K (.tup [.ro true .u64 r.1, .v (.int .i64 r.2)])
 | _ => none
theorem lN.ok : jI prog GOk 250 lN.app := ⟨⟨f250, func250, by kernel_rfl, by kernel_rfl⟩, fun l args w O K r hG hO hl h => by
 unfold lN.app at h
 split at h
 ·rename_i z0 z1
  obtain ⟨y, hy, hK⟩ := Option.bind_eq_some_iff.1 h
  obtain ⟨v0, us0, rfl, h0, hl0⟩ := dP hl
  obtain ⟨A0, c0, rfl, hr0, hc0⟩ := jZ h0
  obtain ⟨v1, us1, rfl, h1, hl1⟩ := dP hl0
  obtain rfl := iW h1
  obtain rfl := iG hl1
  refine ⟨_, hK, (lN.calls A0 c0 z0 z1 y.1 y.2 w hr0 hc0 hy).mono ?_⟩
  rintro e w' ⟨v0_, rfl, hR0, hb⟩
  exact ⟨_, rfl, (.tup _ _ (.cons _ _ _ _ (lU hR0 hO) (.cons _ _ _ _ (.v _) .nil))), hb⟩
 ·cases h⟩
def gV.app : List AV → (AV → Option AV) → Option AV := fun l K => match l with
 | [.v (.int .u64 z0), .v (.int .i64 z1)] => (gV.f z0 z1).bind fun r => K (.tup [.ro true .u64 r.1, .v (.int .i64 r.2)])
 | _ => none
theorem gV.ok : jI prog GOk 91 gV.app := ⟨⟨f91, func91, by kernel_rfl, by kernel_rfl⟩, fun l args w O K r hG hO hl h => by
 unfold gV.app at h
 split at h
 ·rename_i z0 z1
  obtain ⟨y, hy, hK⟩ := Option.bind_eq_some_iff.1 h
  obtain ⟨v0, us0, rfl, h0, hl0⟩ := dP hl
  obtain rfl := iW h0
  obtain ⟨v1, us1, rfl, h1, hl1⟩ := dP hl0
  obtain rfl := iW h1
  obtain rfl := iG hl1
  refine ⟨_, hK, (gV.calls z0 z1 y.1 y.2 w hy).mono ?_⟩
  rintro e w' ⟨v0_, rfl, hR0, hb⟩
  exact ⟨_, rfl, (.tup _ _ (.cons _ _ _ _ (lU hR0 hO) (.cons _ _ _ _ (.v _) .nil))), hb⟩
 ·cases h⟩
def iF.app : List AV → (AV → Option AV) → Option AV := fun l K => match l with
 | [.ro false .u64 z0, .ro false .u64 z1] => (iF.f z0 z1).bind fun r => K (.tup [.ro true .u64 r.1, .v (.int .i64 r.2)])
 | _ => none
theorem iF.ok : jI prog GOk 61 iF.app := ⟨⟨f61, func61, by kernel_rfl, by kernel_rfl⟩, fun l args w O K r hG hO hl h => by
 unfold iF.app at h
 split at h
 ·rename_i z0 z1
  obtain ⟨y, hy, hK⟩ := Option.bind_eq_some_iff.1 h
  obtain ⟨v0, us0, rfl, h0, hl0⟩ := dP hl
  obtain ⟨A0, c0, rfl, hr0, hc0⟩ := jZ h0
  obtain ⟨v1, us1, rfl, h1, hl1⟩ := dP hl0
  obtain ⟨A1, c1, rfl, hr1, hc1⟩ := jZ h1
  obtain rfl := iG hl1
  refine ⟨_, hK, (iF.calls A0 c0 z0 A1 c1 z1 y.1 y.2 w hr0 hc0 hr1 hc1 hy).mono ?_⟩
  rintro e w' ⟨v0_, rfl, hR0, hb⟩
  exact ⟨_, rfl, (.tup _ _ (.cons _ _ _ _ (lU hR0 hO) (.cons _ _ _ _ (.v _) .nil))), hb⟩
 ·cases h⟩
def bK.app : List AV → (AV → Option AV) → Option AV := fun l K => match l with
 | [.ro false .u64 z0] => (bK.f z0).bind fun r => K (.ro true .u64 r)
 | _ => none
theorem bK.ok : jI prog GOk 154 bK.app := ⟨⟨f154, func154, by kernel_rfl, by kernel_rfl⟩, fun l args w O K r hG hO hl h => by
 unfold bK.app at h
 split at h
 ·rename_i z0
  obtain ⟨y, hy, hK⟩ := Option.bind_eq_some_iff.1 h
  obtain ⟨v0, us0, rfl, h0, hl0⟩ := dP hl
  obtain ⟨A0, c0, rfl, hr0, hc0⟩ := jZ h0
  obtain rfl := iG hl0
  refine ⟨_, hK, (bK.calls A0 c0 z0 y w hr0 hc0 hy).mono ?_⟩
  rintro e w' ⟨v0_, rfl, hR0, hb⟩
  exact ⟨_, rfl, (lU hR0 hO), hb⟩
 ·cases h⟩
def jc.app : List AV → (AV → Option AV) → Option AV := fun l K => match l with
 | [.v (.int .i64 z0), .v (.int .u64 z1)] => (jc.f z0 z1).bind fun r => K (.tup [.v (.int .i64 r.1), .v (.int .i64 r.2)])
 | _ => none
theorem jc.ok : jI prog GOk 117 jc.app := ⟨⟨f117, func117, by kernel_rfl, by kernel_rfl⟩, fun l args w O K r hG hO hl h => by
 unfold jc.app at h
 split at h
 ·rename_i z0 z1
  obtain ⟨y, hy, hK⟩ := Option.bind_eq_some_iff.1 h
  obtain ⟨v0, us0, rfl, h0, hl0⟩ := dP hl
  obtain rfl := iW h0
  obtain ⟨v1, us1, rfl, h1, hl1⟩ := dP hl0
  obtain rfl := iW h1
  obtain rfl := iG hl1
  refine ⟨_, hK, (jc.calls z0 z1 y.1 y.2 w hG hy).mono ?_⟩
  rintro e w' ⟨rfl, hb⟩
  exact ⟨_, rfl, (.tup _ _ (.cons _ _ _ _ (.v _) (.cons _ _ _ _ (.v _) .nil))), hb⟩
 ·cases h⟩
def iM.app : List AV → (AV → Option AV) → Option AV := fun l K => match l with
 | [.v (.int .i64 z0), .v (.int .u64 z1)] => (iM.f z0 z1).bind fun r => K (.tup [.v (.bool r.1), .v (.int .u64 r.2.1), .v (.int .u64 r.2.2.1), .v (.int .i64 r.2.2.2)])
 | _ => none
theorem iM.ok : jI prog GOk 118 iM.app := ⟨⟨f118, func118, by kernel_rfl, by kernel_rfl⟩, fun l args w O K r hG hO hl h => by
 unfold iM.app at h
 split at h
 ·rename_i z0 z1
  obtain ⟨y, hy, hK⟩ := Option.bind_eq_some_iff.1 h
  obtain ⟨v0, us0, rfl, h0, hl0⟩ := dP hl
  obtain rfl := iW h0
  obtain ⟨v1, us1, rfl, h1, hl1⟩ := dP hl0
  obtain rfl := iW h1
  obtain rfl := iG hl1
  refine ⟨_, hK, (iM.calls z0 z1 y.1 y.2.1 y.2.2.1 y.2.2.2 w hG hy).mono ?_⟩
  rintro e w' ⟨rfl, hb⟩
  exact ⟨_, rfl, (.tup _ _ (.cons _ _ _ _ (.v _) (.cons _ _ _ _ (.v _) (.cons _ _ _ _ (.v _) (.cons _ _ _ _ (.v _) .nil))))), hb⟩
 ·cases h⟩
def gI.app : List AV → (AV → Option AV) → Option AV := fun l K => match l with
 | [.agg [.v (.bool z0), .v (.int .u64 z1), .v (.int .i64 z2), .v (.int .u64 z3)]] => (gI.f z0 z1 z2 z3).bind fun r => K (.tup [.v (.string r.1), .v (.int .i64 r.2)])
 | _ => none
theorem gI.ok : jI prog GOk 75 gI.app := ⟨⟨f75, func75, by kernel_rfl, by kernel_rfl⟩, fun l args w O K r hG hO hl h => by
 unfold gI.app at h
 split at h
 ·rename_i z0 z1 z2 z3
  obtain ⟨y, hy, hK⟩ := Option.bind_eq_some_iff.1 h
  obtain ⟨v0, us0, rfl, h0, hl0⟩ := dP hl
  obtain ⟨ws, rfl, hs⟩ := JV h0
  obtain ⟨u0, ws0, rfl, g0, hs0⟩ := dP hs
  obtain rfl := iW g0
  obtain ⟨u1, ws1, rfl, g1, hs1⟩ := dP hs0
  obtain rfl := iW g1
  obtain ⟨u2, ws2, rfl, g2, hs2⟩ := dP hs1
  obtain rfl := iW g2
  obtain ⟨u3, ws3, rfl, g3, hs3⟩ := dP hs2
  obtain rfl := iW g3
  obtain rfl := iG hs3
  obtain rfl := iG hl0
  refine ⟨_, hK, (gI.calls z0 z1 z2 z3 y.1 y.2 w hG hy).mono ?_⟩
  rintro e w' ⟨rfl, hb⟩
  exact ⟨_, rfl, (.tup _ _ (.cons _ _ _ _ (.v _) (.cons _ _ _ _ (.v _) .nil))), hb⟩
 ·cases h⟩
def strings_Repeat.app : List AV → (AV → Option AV) → Option AV := fun l K => match l with
 | [.v (.string z0), .v (.int .i64 z1)] => (strings_Repeat.f z0 z1).bind fun r => K (.v (.string r))
 | _ => none
theorem strings_Repeat.ok : jI prog GOk 92 strings_Repeat.app := ⟨⟨f92, func92, by kernel_rfl, by kernel_rfl⟩, fun l args w O K r hG hO hl h => by
 unfold strings_Repeat.app at h
 split at h
 ·rename_i z0 z1
  obtain ⟨y, hy, hK⟩ := Option.bind_eq_some_iff.1 h
  obtain ⟨v0, us0, rfl, h0, hl0⟩ := dP hl
  obtain rfl := iW h0
  obtain ⟨v1, us1, rfl, h1, hl1⟩ := dP hl0
  obtain rfl := iW h1
  obtain rfl := iG hl1
  refine ⟨_, hK, (strings_Repeat.calls z0 z1 y w hy).mono ?_⟩
  rintro e w' ⟨rfl, hb⟩
  exact ⟨_, rfl, (.v _), hb⟩
 ·cases h⟩
def strconv_Itoa.app : List AV → (AV → Option AV) → Option AV := fun l K => match l with
 | [.v (.int .i64 z0)] => (strconv_Itoa.f z0).bind fun r => K (.v (.string r))
 | _ => none
theorem strconv_Itoa.ok : jI prog GOk 120 strconv_Itoa.app := ⟨⟨f120, func120, by kernel_rfl, by kernel_rfl⟩, fun l args w O K r hG hO hl h => by
 unfold strconv_Itoa.app at h
 split at h
 ·rename_i z0
  obtain ⟨y, hy, hK⟩ := Option.bind_eq_some_iff.1 h
  obtain ⟨v0, us0, rfl, h0, hl0⟩ := dP hl
  obtain rfl := iW h0
  obtain rfl := iG hl0
  refine ⟨_, hK, (strconv_Itoa.calls z0 y w hG hy).mono ?_⟩
  rintro e w' ⟨rfl, hb⟩
  exact ⟨_, rfl, (.v _), hb⟩
 ·cases h⟩
def pY.app : List AV → (AV → Option AV) → Option AV := fun l K => match l with
 | [.v (.int .i64 z0)] => (pY.f z0).bind fun r => K (.v (.int .u64 r))
 | _ => none
def dA.app : List AV → (AV → Option AV) → Option AV := fun l K => match l with
 | [.ro false .u64 z0] => (dA.f z0).bind fun r => K (.tup [.v (.string r.1), .v (.int .i64 r.2)])
 | _ => none
theorem dA.ok : jI prog GOk 90 dA.app := ⟨⟨f90, func90, by kernel_rfl, by kernel_rfl⟩, fun l args w O K r hG hO hl h => by
 unfold dA.app at h
 split at h
 ·rename_i z0
  obtain ⟨y, hy, hK⟩ := Option.bind_eq_some_iff.1 h
  obtain ⟨v0, us0, rfl, h0, hl0⟩ := dP hl
  obtain ⟨A0, c0, rfl, hr0, hc0⟩ := jZ h0
  obtain rfl := iG hl0
  refine ⟨_, hK, (dA.calls A0 c0 z0 y.1 y.2 w hr0 hc0 hy).mono ?_⟩
  rintro e w' ⟨rfl, hb⟩
  exact ⟨_, rfl, (.tup _ _ (.cons _ _ _ _ (.v _) (.cons _ _ _ _ (.v _) .nil))), hb⟩
 ·cases h⟩
def strings_HasSuffix.app : List AV → (AV → Option AV) → Option AV := fun l K => match l with
 | [.v (.string z0), .v (.string z1)] => (strings_HasSuffix.f z0 z1).bind fun r => K (.v (.bool r))
 | _ => none
theorem strings_HasSuffix.ok : jI prog GOk 98 strings_HasSuffix.app := ⟨⟨f98, func98, by kernel_rfl, by kernel_rfl⟩, fun l args w O K r hG hO hl h => by
 unfold strings_HasSuffix.app at h
 split at h
 ·rename_i z0 z1
  obtain ⟨y, hy, hK⟩ := Option.bind_eq_some_iff.1 h
  obtain ⟨v0, us0, rfl, h0, hl0⟩ := dP hl
  obtain rfl := iW h0
  obtain ⟨v1, us1, rfl, h1, hl1⟩ := dP hl0
  obtain rfl := iW h1
  obtain rfl := iG hl1
  refine ⟨_, hK, (strings_HasSuffix.calls z0 z1 y w hy).mono ?_⟩
  rintro e w' ⟨rfl, hb⟩
  exact ⟨_, rfl, (.v _), hb.below⟩
 ·cases h⟩
def fB.app : List AV → (AV → Option AV) → Option AV := fun l K => match l with
 | [.agg [.v (.bool z0), .v (.int .u64 z1), .v (.int .i64 z2), .v (.int .u64 z3)]] => (fB.f z0 z1 z2 z3).bind fun r => K (.v (.int .i64 r))
 | _ => none
theorem fB.ok : jI prog GOk 99 fB.app := ⟨⟨f99, func99, by kernel_rfl, by kernel_rfl⟩, fun l args w O K r hG hO hl h => by
 unfold fB.app at h
 split at h
 ·rename_i z0 z1 z2 z3
  obtain ⟨y, hy, hK⟩ := Option.bind_eq_some_iff.1 h
  obtain ⟨v0, us0, rfl, h0, hl0⟩ := dP hl
  obtain ⟨ws, rfl, hs⟩ := JV h0
  obtain ⟨u0, ws0, rfl, g0, hs0⟩ := dP hs
  obtain rfl := iW g0
  obtain ⟨u1, ws1, rfl, g1, hs1⟩ := dP hs0
  obtain rfl := iW g1
  obtain ⟨u2, ws2, rfl, g2, hs2⟩ := dP hs1
  obtain rfl := iW g2
  obtain ⟨u3, ws3, rfl, g3, hs3⟩ := dP hs2
  obtain rfl := iW g3
  obtain rfl := iG hs3
  obtain rfl := iG hl0
  refine ⟨_, hK, (fB.calls z0 z1 z2 z3 y w hG hy).mono ?_⟩
  rintro e w' ⟨rfl, hb⟩
  exact ⟨_, rfl, (.v _), hb⟩
 ·cases h⟩
def jq.app : List AV → (AV → Option AV) → Option AV := fun l K => match l with
 | [.v (.string z0), .v (.string z1)] => (jq.f z0 z1).bind fun r => K (.v (.string r))
 | _ => none
end Go.Proofs.YtafikkmnkeddpaaGreatDoor.P
set_option maxRecDepth 100000
namespace Go.Proofs.YtafikkmnkeddpaaGreatDoor.P
open Go.RowKit Go.Proofs.YtafikkmnkeddpaaGreatDoorW.PrintWords Go.Proofs.YtafikkmnkeddpaaGreatDoorW.PrintLast Go.Proofs.YtafikkmnkeddpaaGreatDoorW.PrintMore Go.Proofs.YtafikkmnkeddpaaGreatDoor.E Go.Proofs.Tryz
def fH.enc (r : Bool) : AV := .v (.bool r)
def fH.app : List AV → (AV → Option AV) → Option AV := fun l K => match l with
 | [.v (.int .i64 a)] => (fH.f a).bind fun r => K (fH.enc r)
 | _ => none
def fH.E : Env := ⟨9, tys, [], [], [], false, [4], false⟩
theorem fH.fok : FO 53 f53 (dJ f53) (fH.E) := fo fQ func53 trivial
theorem fH.ok : AO 53 (fH.app) := fA stays mixed (fH.fok) (eG rfl) fun l K r h => by
 dsimp only [fH.app] at h
 split at h
 ·rename_i a
  exact fin (enc := fH.enc) h rfl fun y h => by
   exact via (if (decide (a ≥ 0)) = true then (some (.v (.bool (decide (a ≤ 5))))) else (some (.v (.bool false)))) (by rw [fH.f] at h; exact Eq.trans (Eq.symm mt2) h)
 ·cases h
def gQ.enc (r : Bool) : AV := .v (.bool r)
def gQ.app : List AV → (AV → Option AV) → Option AV := fun l K => match l with
 | [.v (.int .u8 a)] => (gQ.f a).bind fun r => K (gQ.enc r)
 | _ => none
def gQ.E : Env := ⟨9, tys, [], [], [], false, [4], false⟩
theorem gQ.fok : FO 129 f129 (dJ f129) (gQ.E) := fo fQ func129 trivial
theorem gQ.ok : AO 129 (gQ.app) := fA stays mixed (gQ.fok) (eG rfl) fun l K r h => by
 dsimp only [gQ.app] at h
 split at h
 ·rename_i a
  exact fin (enc := gQ.enc) h rfl fun y h => by
   exact via (if (decide (a ≥ 48)) = true then (some (.v (.bool (decide (a ≤ 57))))) else (some (.v (.bool false)))) (by rw [gQ.f] at h; exact Eq.trans (Eq.symm mt2) h)
 ·cases h
def aH.enc (r : Int × Bool) : AV := .tup [.v (.int .i64 r.1), .v (.bool r.2)]
def aH.app (k : Nat) : List AV → (AV → Option AV) → Option AV := fun l K => match l with
 | [.v (.string a)] => (aH.f k a).bind fun r => K (aH.enc r)
 | _ => none
def aH.p0 (k : Nat) : Pt := ⟨[.c [1, 1, 1, 1, 0, 0], .c [1, 1, 1, 1, 0, 1], .c [1, 1, 1, 1, 1]], [(0, none, []), (2, none, []), (4, none, [])], [], [], [], fun s => match s with
 | ⟨[(0, .v (.string a)), (2, .v (.int .i64 b)), (4, .v (.bool c))], []⟩ => (aH.j1 k a b c).map aH.enc
 | _ => none⟩
def aH.p1 (k : Nat) : Pt := ⟨[.c [1, 1, 1, 1, 1, 0, 0], .c [1, 1, 1, 1, 1, 0, 1], .c [1, 1, 1, 1, 1, 1]], [(0, none, []), (2, none, []), (4, none, [])], [], [], [], fun s => match s with
 | ⟨[(0, .v (.string a)), (2, .v (.int .i64 b)), (4, .v (.bool c))], []⟩ => (aH.j3 k a b c).map aH.enc
 | _ => none⟩
def aH.p2 (k : Nat) : Pt := ⟨[.c [1, 1, 1, 1, 1, 1, 0, 1, 0, 0, 0], .c [1, 1, 1, 1, 1, 1, 0, 1, 0, 0, 1], .l [1, 1, 1, 1, 1, 1, 0, 1, 0, 0], .b 0, .c [1, 1, 1, 1, 1, 1, 1]], [(0, none, []), (2, none, []), (4, none, []), (38, none, []), (39, none, [])], [], [], [], fun s => match s with
 | ⟨[(0, .v (.string a)), (2, .v (.int .i64 b)), (4, .v (.bool c)), (38, .v (.int .i64 d)), (39, .v (.int .i64 e))], []⟩ => (aH.l0 k a b c d e).map aH.enc
 | _ => none⟩
def aH.p3 (k : Nat) : Pt := ⟨[.c [1, 0, 1], .c [1, 1]], [(0, none, []), (2, none, []), (13, none, [])], [], [], [], fun s => match s with
 | ⟨[(0, .v (.string a)), (2, .v (.int .i64 b)), (13, .v (.bool c))], []⟩ => (aH.j0 k a b c).map aH.enc
 | _ => none⟩
def aH.p4 (k : Nat) : Pt := ⟨[.c [1, 1, 1, 1, 0, 1], .c [1, 1, 1, 1, 1]], [(0, none, []), (2, none, []), (4, none, []), (32, none, [])], [], [], [], fun s => match s with
 | ⟨[(0, .v (.string a)), (2, .v (.int .i64 b)), (4, .v (.bool c)), (32, .v (.bool d))], []⟩ => (aH.j2 k a b c d).map aH.enc
 | _ => none⟩
def aH.E (k : Nat) : Env := ⟨61, tys, [(129, gQ.app)], [(5, aH.p0 k), (7, aH.p1 k), (10, aH.p2 k), (100013, aH.p3 k), (100032, aH.p4 k)], [], false, [3, 4], false⟩
theorem aH.fok (k : Nat) : FO 130 f130 (dJ f130) (aH.E k) := fo fQ func130 ⟨gQ.ok, trivial⟩
theorem aH.s0 : jJ f130 aH.E aH.p0 := fun k s r h => by
 dsimp only [aH.p0] at h
 split at h
 ·rename_i a b c
  rcases k with _ | k
  ·cases h
  exact ⟨k, rfl, via (if c = false then (if (a.toList != (⟨#[]⟩ : ByteArray).toList) = true then (if (0 : Int) ≤ 0 then (if (0 : Int) < (a.size : Int) then ((aH.j2 k a b c ((bt a 0) == 43)).map aH.enc) else (none)) else (none)) else ((aH.j2 k a b c false).map aH.enc)) else ((aH.j2 k a b c true).map aH.enc)) (by rw [aH.j1] at h; exact Eq.trans (Eq.symm mt2) h)⟩
 ·cases h
theorem aH.s1 : jJ f130 aH.E aH.p1 := fun k s r h => by
 dsimp only [aH.p1] at h
 split at h
 ·rename_i a b c
  rcases k with _ | k
  ·cases h
  exact ⟨k, rfl, via (if (a.toList == (⟨#[]⟩ : ByteArray).toList) = true then (some (.tup [.v (.int .i64 0), .v (.bool false)])) else ((aH.l0 k a b c (a.size : Int) 0).map aH.enc)) (by rw [aH.j3] at h; exact Eq.trans (Eq.symm mt2) h)⟩
 ·cases h
theorem aH.s2 : jJ f130 aH.E aH.p2 := fun k s r h => by
 dsimp only [aH.p2] at h
 split at h
 ·rename_i a b c d e
  rcases k with _ | k
  ·cases h
  exact ⟨k, rfl, via (if (decide (e < d)) = true then (if (0 : Int) ≤ e then (if (e : Int) < (a.size : Int) then ((gQ.f (bt a e)).bind fun f => (if (!f) = true then (some (.tup [.v (.int .i64 0), .v (.bool false)])) else (if (0 : Int) ≤ e then (if (e : Int) < (a.size : Int) then ((aH.l0 k a (mn (wrap64 ((wrap64 (10 * b)) + (wrap64 (((bt a e) - 48) % 256)))) 1048576) c d (wrap64 (e + 1))).map aH.enc) else (none)) else (none)))) else (none)) else (none)) else (if c = true then (some (.tup [.v (.int .i64 (wrap64 (-b))), .v (.bool true)])) else (some (.tup [.v (.int .i64 b), .v (.bool true)])))) (by rw [aH.l0] at h; exact Eq.trans (Eq.symm mt2) h)⟩
 ·cases h
theorem aH.s3 : jJ f130 aH.E aH.p3 := fun k s r h => by
 dsimp only [aH.p3] at h
 split at h
 ·rename_i a b c
  rcases k with _ | k
  ·cases h
  exact ⟨k, rfl, via (if c = true then (some (.tup [.v (.int .i64 0), .v (.bool false)])) else (if (0 : Int) ≤ 1 then (if (1 : Int) ≤ (a.size : Int) then (if ((a.extract (1 : Int).toNat ((a.size : Int) : Int).toNat).toList != (⟨#[]⟩ : ByteArray).toList) = true then (if (0 : Int) ≤ 0 then (if (0 : Int) < ((a.extract (1 : Int).toNat ((a.size : Int) : Int).toNat).size : Int) then ((aH.j1 k (a.extract (1 : Int).toNat ((a.size : Int) : Int).toNat) b ((bt (a.extract (1 : Int).toNat ((a.size : Int) : Int).toNat) 0) == 45)).map aH.enc) else (none)) else (none)) else ((aH.j1 k (a.extract (1 : Int).toNat ((a.size : Int) : Int).toNat) b false).map aH.enc)) else (none)) else (none))) (by rw [aH.j0] at h; exact Eq.trans (Eq.symm mt2) h)⟩
 ·cases h
theorem aH.s4 : jJ f130 aH.E aH.p4 := fun k s r h => by
 dsimp only [aH.p4] at h
 split at h
 ·rename_i a b c d
  rcases k with _ | k
  ·cases h
  exact ⟨k, rfl, via (if d = true then (if (0 : Int) ≤ 1 then (if (1 : Int) ≤ (a.size : Int) then ((aH.j3 k (a.extract (1 : Int).toNat ((a.size : Int) : Int).toNat) b c).map aH.enc) else (none)) else (none)) else ((aH.j3 k a b c).map aH.enc)) (by rw [aH.j2] at h; exact Eq.trans (Eq.symm mt2) h)⟩
 ·cases h
theorem aH.pts : ∀ k, jE prog (dJ f130) (aH.E k) GOk (Fin prog f130) := iT stays mixed aH.fok [(5, aH.p0), (7, aH.p1), (10, aH.p2), (100013, aH.p3), (100032, aH.p4)] ⟨aH.s0, aH.s1, aH.s2, aH.s3, aH.s4, trivial⟩
theorem aH.ok (k : Nat) : AO 130 (aH.app k) := fA stays mixed (aH.fok k) (aH.pts k) fun l K r h => by
 dsimp only [aH.app] at h
 split at h
 ·rename_i a
  exact fin (enc := aH.enc) h rfl fun y h => by
   exact via (if (0 : Int) ≤ 0 then (if (0 : Int) < (a.size : Int) then (if ((bt a 0) != 101) = true then (if (0 : Int) ≤ 0 then (if (0 : Int) < (a.size : Int) then ((aH.j0 k a 0 ((bt a 0) != 69)).map aH.enc) else (none)) else (none)) else ((aH.j0 k a 0 false).map aH.enc)) else (none)) else (none)) (by rw [aH.f] at h; exact Eq.trans (Eq.symm mt2) h)
 ·cases h
def aN.enc (r : Bool × ByteArray × ByteArray × Int × Bool) : AV := .tup [.agg [.v (.bool r.1), .v (.string r.2.1), .v (.string r.2.2.1), .v (.int .i64 r.2.2.2.1)], .v (.bool r.2.2.2.2)]
def aN.app (k : Nat) : List AV → (AV → Option AV) → Option AV := fun l K => match l with
 | [.v (.string a)] => (aN.f k a).bind fun r => K (aN.enc r)
 | _ => none
def aN.p0 (k : Nat) : Pt := ⟨[.c [1, 0, 1, 0, 0], .c [1, 0, 1, 0, 1], .c [1, 0, 1, 1], .s [1, 0]], [(0, none, [])], [(2, [])], [], [], fun s => match s with
 | ⟨[(0, .v (.string a)), (2, .ptr 2 0)], [(2, .cells [.v (.bool b), .v (.string c), .v (.string d), .v (.int .i64 e)])]⟩ => (aN.j1 k a b c d e).map aN.enc
 | _ => none⟩
def aN.p1 (k : Nat) : Pt := ⟨[.c [1, 0, 1, 1, 1, 1, 1, 1, 0, 0, 0, 0, 0], .c [1, 0, 1, 1, 1, 1, 1, 1, 0, 0, 0, 0, 1], .c [1, 0, 1, 1, 1, 1, 1, 1, 0, 0, 0, 1], .l [1, 0, 1, 1, 1, 1, 1, 1, 0, 0, 0], .b 0, .c [1, 0, 1, 1, 1, 1, 1, 1, 1], .s [1, 0]], [(0, none, []), (6, none, []), (7, none, [])], [(2, [])], [(5, .u8, 5)], [], fun s => match s with
 | ⟨[(0, .v (.string a)), (6, .v (.bool b)), (7, .v (.int .i64 c)), (2, .ptr 2 0), (5, .own 5)], [(2, .cells [.v (.bool d), .v (.string e), .v (.string f), .v (.int .i64 g)]), (5, .ints .u8 5 i)]⟩ => (aN.l0 k a i b c d e f g).map aN.enc
 | _ => none⟩
def aN.p2 (k : Nat) : Pt := ⟨[.c [1, 0, 1, 1, 1, 1, 1, 1, 1, 0], .c [1, 0, 1, 1, 1, 1, 1, 1, 1, 1], .s [1, 0]], [(0, none, []), (7, none, [])], [(2, [])], [(5, .u8, 5)], [], fun s => match s with
 | ⟨[(0, .v (.string a)), (7, .v (.int .i64 b)), (2, .ptr 2 0), (5, .own 5)], [(2, .cells [.v (.bool c), .v (.string d), .v (.string e), .v (.int .i64 f)]), (5, .ints .u8 5 g)]⟩ => (aN.j4 k a g b c d e f).map aN.enc
 | _ => none⟩
def aN.p3 (k : Nat) : Pt := ⟨[.c [1, 0, 0, 1], .c [1, 0, 1], .s [1, 0]], [(0, none, []), (21, none, [])], [(2, [])], [], [], fun s => match s with
 | ⟨[(0, .v (.string a)), (21, .v (.bool b)), (2, .ptr 2 0)], [(2, .cells [.v (.bool c), .v (.string d), .v (.string e), .v (.int .i64 f)])]⟩ => (aN.j0 k a b c d e f).map aN.enc
 | _ => none⟩
def aN.p4 (k : Nat) : Pt := ⟨[.c [1, 0, 1, 0, 1, 1], .c [1, 0, 1, 1], .s [1, 0]], [(0, none, []), (4, none, []), (40, none, [])], [(2, [])], [], [], fun s => match s with
 | ⟨[(0, .v (.string a)), (4, .v (.string b)), (40, .v (.bool c)), (2, .ptr 2 0)], [(2, .cells [.v (.bool d), .v (.string e), .v (.string f), .v (.int .i64 g)])]⟩ => (aN.j2 k a b c d e f g).map aN.enc
 | _ => none⟩
def aN.E (k : Nat) : Env := ⟨101, tys, [(128, iI.app), (129, gQ.app), (130, aH.app k)], [(4, aN.p0 k), (11, aN.p1 k), (20, aN.p2 k), (100021, aN.p3 k), (100040, aN.p4 k)], [], false, [93, 4], false⟩
theorem aN.fok (k : Nat) : FO 54 f54 (dJ f54) (aN.E k) := fo fQ func54 ⟨iI.ok, ⟨gQ.ok, ⟨aH.ok k, trivial⟩⟩⟩
theorem aN.s0 : jJ f54 aN.E aN.p0 := fun k s r h => by
 dsimp only [aN.p0] at h
 split at h
 ·rename_i a b c d e
  rcases k with _ | k
  ·cases h
  exact ⟨k, rfl, via ((iI.f a).bind fun f => (if ((a.size : Int) == 3) = true then (if (f.toList == (⟨#[105, 110, 102]⟩ : ByteArray).toList) = false then ((aN.j2 k a f (f.toList == (⟨#[110, 97, 110]⟩ : ByteArray).toList) b c d e).map aN.enc) else ((aN.j2 k a f true b c d e).map aN.enc)) else ((aN.j2 k a f false b c d e).map aN.enc))) (by rw [aN.j1] at h; exact Eq.trans (Eq.symm mt2) h)⟩
 ·cases h
theorem aN.s1 : jJ f54 aN.E aN.p1 := fun k s r h => by
 dsimp only [aN.p1] at h
 split at h
 ·rename_i a b c d e f g i
  rcases k with _ | k
  ·cases h
  exact ⟨k, rfl, via (if (decide (c < (a.size : Int))) = true then (if (0 : Int) ≤ c then (if (c : Int) < (a.size : Int) then ((gQ.f (bt a c)).bind fun j => (if j = true then (if (i.length + ([bt a c] : List Int).length) * 1 ≤ 140737488355328 then (if b = true then ((aN.l0 k a (i ++ ([bt a c] : List Int)) b (wrap64 (c + 1)) d e f (wrap64 (g - 1))).map aN.enc) else ((aN.l0 k a (i ++ ([bt a c] : List Int)) b (wrap64 (c + 1)) d e f g).map aN.enc)) else (none)) else (if ((bt a c) == 46) = true then (if (!b) = true then ((aN.l0 k a i true (wrap64 (c + 1)) d e f g).map aN.enc) else ((aN.j4 k a i c d e f g).map aN.enc)) else ((aN.j4 k a i c d e f g).map aN.enc)))) else (none)) else (none)) else ((aN.j4 k a i c d e f g).map aN.enc)) (by rw [aN.l0] at h; exact Eq.trans (Eq.symm mt2) h)⟩
 ·cases h
theorem aN.s2 : jJ f54 aN.E aN.p2 := fun k s r h => by
 dsimp only [aN.p2] at h
 split at h
 ·rename_i a b c d e f g
  rcases k with _ | k
  ·cases h
  exact ⟨k, rfl, via (if ((g.length : Int) == 0) = true then (some (.tup [.agg [.v (.bool c), .v (.string d), .v (.string (strOfNums g)), .v (.int .i64 f)], .v (.bool false)])) else (if (b == (a.size : Int)) = true then (some (.tup [.agg [.v (.bool c), .v (.string d), .v (.string (strOfNums g)), .v (.int .i64 f)], .v (.bool true)])) else (if (0 : Int) ≤ b then (if (b : Int) ≤ (a.size : Int) then ((aH.f k (a.extract (b : Int).toNat ((a.size : Int) : Int).toNat)).bind fun i => (some (.tup [.agg [.v (.bool c), .v (.string d), .v (.string (strOfNums g)), .v (.int .i64 (wrap64 (f + i.1)))], .v (.bool i.2)]))) else (none)) else (none)))) (by rw [aN.j4] at h; exact Eq.trans (Eq.symm mt2) h)⟩
 ·cases h
theorem aN.s3 : jJ f54 aN.E aN.p3 := fun k s r h => by
 dsimp only [aN.p3] at h
 split at h
 ·rename_i a b c d e f
  rcases k with _ | k
  ·cases h
  exact ⟨k, rfl, via (if b = true then (if (0 : Int) ≤ 0 then (if (0 : Int) < (a.size : Int) then (if (0 : Int) ≤ 1 then (if (1 : Int) ≤ (a.size : Int) then ((aN.j1 k (a.extract (1 : Int).toNat ((a.size : Int) : Int).toNat) ((bt a 0) == 45) d e f).map aN.enc) else (none)) else (none)) else (none)) else (none)) else ((aN.j1 k a c d e f).map aN.enc)) (by rw [aN.j0] at h; exact Eq.trans (Eq.symm mt2) h)⟩
 ·cases h
theorem aN.s4 : jJ f54 aN.E aN.p4 := fun k s r h => by
 dsimp only [aN.p4] at h
 split at h
 ·rename_i a b c d e f g
  rcases k with _ | k
  ·cases h
  exact ⟨k, rfl, via (if c = true then (some (.tup [.agg [.v (.bool d), .v (.string b), .v (.string f), .v (.int .i64 g)], .v (.bool true)])) else (if (0 : Int) = 0 then (if (0 : Int) ≤ (a.size : Int) then (if ((a.size : Int) : Int).toNat * 1 ≤ 281474976710656 then ((aN.l0 k a ([] : List Int) false 0 d e f g).map aN.enc) else (none)) else (none)) else (none))) (by rw [aN.j2] at h; exact Eq.trans (Eq.symm mt2) h)⟩
 ·cases h
theorem aN.pts : ∀ k, jE prog (dJ f54) (aN.E k) GOk (Fin prog f54) := iT stays mixed aN.fok [(4, aN.p0), (11, aN.p1), (20, aN.p2), (100021, aN.p3), (100040, aN.p4)] ⟨aN.s0, aN.s1, aN.s2, aN.s3, aN.s4, trivial⟩
theorem aN.ok (k : Nat) : AO 54 (aN.app k) := fA stays mixed (aN.fok k) (aN.pts k) fun l K r h => by
 dsimp only [aN.app] at h
 split at h
 ·rename_i a
  exact fin (enc := aN.enc) h rfl fun y h => by
   exact via (if (a.toList != (⟨#[]⟩ : ByteArray).toList) = true then (if (0 : Int) ≤ 0 then (if (0 : Int) < (a.size : Int) then (if ((bt a 0) == 43) = false then (if (0 : Int) ≤ 0 then (if (0 : Int) < (a.size : Int) then ((aN.j0 k a ((bt a 0) == 45) false (⟨#[]⟩ : ByteArray) (⟨#[]⟩ : ByteArray) 0).map aN.enc) else (none)) else (none)) else ((aN.j0 k a true false (⟨#[]⟩ : ByteArray) (⟨#[]⟩ : ByteArray) 0).map aN.enc)) else (none)) else (none)) else ((aN.j0 k a false false (⟨#[]⟩ : ByteArray) (⟨#[]⟩ : ByteArray) 0).map aN.enc)) (by rw [aN.f] at h; exact Eq.trans (Eq.symm mt2) h)
 ·cases h
def gy.enc (r : Int) : AV := .v (.int .i64 r)
def gy.app : List AV → (AV → Option AV) → Option AV := fun l K => match l with
 | [.v (.int .i64 a)] => (gy.f a).bind fun r => K (gy.enc r)
 | _ => none
def gy.E : Env := ⟨9, tys, [], [], [], false, [24], false⟩
theorem gy.fok : FO 211 f211 (dJ f211) (gy.E) := fo fQ func211 trivial
theorem gy.ok : AO 211 (gy.app) := fA stays mixed (gy.fok) (eG rfl) fun l K r h => by
 dsimp only [gy.app] at h
 split at h
 ·rename_i a
  exact fin (enc := gy.enc) h rfl fun y h => by
   exact via (if (decide (a < 0)) = false then (if (decide (a > 5)) = true then (some (.v (.int .i64 3))) else (some (.v (.int .i64 0)))) else (some (.v (.int .i64 3)))) (by rw [gy.f] at h; exact Eq.trans (Eq.symm mt2) h)
 ·cases h
def ig.enc (r : Int × Int × Int × Int × Int) : AV := .tup [.agg [.v (.int .i64 r.1), .v (.int .i64 r.2.1), .v (.int .i64 r.2.2.1), .v (.int .i64 r.2.2.2.1)], .v (.int .i64 r.2.2.2.2)]
def ig.app : List AV → (AV → Option AV) → Option AV := fun l K => match l with
 | [.v (.int .i64 a), .v (.int .i64 b)] => (ig.f a b).bind fun r => K (ig.enc r)
 | _ => none
def ig.E : Env := ⟨20, tys, [(52, bY.app), (211, gy.app)], [], [(4, [0, 1, 2, 3, 4])], false, [88, 24], false⟩
theorem ig.fok : FO 139 f139 (dJ f139) (ig.E) := fo fQ func139 ⟨bY.ok, ⟨gy.ok, trivial⟩⟩
theorem ig.ok : AO 139 (ig.app) := fA stays mixed (ig.fok) (eG rfl) fun l K r h => by
 dsimp only [ig.app] at h
 split at h
 ·rename_i a b
  exact fin (enc := ig.enc) h rfl fun y h => by
   exact via ((bY.f a).bind fun c => (if (c.2.2.2.2 != 0) = true then (some (.tup [.agg [.v (.int .i64 c.1), .v (.int .i64 c.2.1), .v (.int .i64 c.2.2.1), .v (.int .i64 c.2.2.2.1)], .v (.int .i64 c.2.2.2.2)])) else ((gy.f b).bind fun d => (some (.tup [.agg [.v (.int .i64 c.1), .v (.int .i64 c.2.1), .v (.int .i64 c.2.2.1), .v (.int .i64 c.2.2.2.1)], .v (.int .i64 d)]))))) (by rw [ig.f] at h; exact Eq.trans (Eq.symm mt2) h)
 ·cases h
def jv.enc (r : Int × Int × Int) : AV := .tup [.v (.int .u64 r.1), .v (.int .i64 r.2.1), .v (.int .i64 r.2.2)]
def jv.app : List AV → (AV → Option AV) → Option AV := fun l K => match l with
 | [.v (.int .i64 a), .v (.bool b)] => (jv.f a b).bind fun r => K (jv.enc r)
 | _ => none
def jv.E : Env := ⟨17, tys, [(58, iQ.app)], [], [], false, [22, 23, 24], false⟩
theorem jv.fok : FO 141 f141 (dJ f141) (jv.E) := fo fQ func141 ⟨iQ.ok, trivial⟩
theorem jv.ok : AO 141 (jv.app) := fA stays mixed (jv.fok) (eG rfl) fun l K r h => by
 dsimp only [jv.app] at h
 split at h
 ·rename_i a b
  exact fin (enc := jv.enc) h rfl fun y h => by
   exact via ((iQ.f a b).bind fun c => (some (.tup [.v (.int .u64 c.1), .v (.int .i64 0), .v (.int .i64 c.2)]))) (by rw [jv.f] at h; exact Eq.trans (Eq.symm mt2) h)
 ·cases h
def bG.enc (r : Bool × List Int × Int × Bool) : AV := .agg [.v (.bool r.1), .ro true .u64 r.2.1, .v (.int .i64 r.2.2.1), .v (.bool r.2.2.2)]
def bG.app (k : Nat) : List AV → (AV → Option AV) → Option AV := fun l K => match l with
 | [.ro false .u64 a, .ro false .u64 b, .v (.int .i64 c)] => (bG.f k a b c).bind fun r => K (bG.enc r)
 | _ => none
def bG.p0 (k : Nat) : Pt := ⟨[.c [1, 1, 1, 1, 1, 0, 0, 0, 0, 0], .c [1, 1, 1, 1, 1, 0, 0, 0, 0, 1], .c [1, 1, 1, 1, 1, 0, 0, 0, 1], .l [1, 1, 1, 1, 1, 0, 0, 0], .b 0, .c [1, 1, 1, 1, 1, 1]], [(1, some .u64, [false]), (2, none, []), (11, some .u64, [])], [(13, [])], [], [6], fun s => match s with
 | ⟨[(1, .ro false .u64 a), (2, .v (.int .i64 b)), (11, .ro true .u64 c), (13, .ptr 13 0), (6, .ptr 6 0)], [(13, .cells [.v (.bool d), .ro true .u64 e, .v (.int .i64 f), .v (.bool g)]), (6, .cells [.top, .top, .top, .top])]⟩ => (bG.l0 k a b c d e f g).map bG.enc
 | _ => none⟩
def bG.p1 (k : Nat) : Pt := ⟨[.c [1, 1, 1, 1, 1, 0, 0, 0, 0, 1], .c [1, 1, 1, 1, 1, 0, 0, 0, 1], .l [1, 1, 1, 1, 1, 0, 0, 0], .b 0, .c [1, 1, 1, 1, 1, 1]], [(1, some .u64, [false]), (2, none, []), (11, some .u64, []), (47, none, [])], [(13, [])], [], [6], fun s => match s with
 | ⟨[(1, .ro false .u64 a), (2, .v (.int .i64 b)), (11, .ro true .u64 c), (47, .v (.bool d)), (13, .ptr 13 0), (6, .ptr 6 0)], [(13, .cells [.v (.bool e), .ro true .u64 f, .v (.int .i64 g), .v (.bool i)]), (6, .cells [.top, .top, .top, .top])]⟩ => (bG.j1 k a b c d e f g i).map bG.enc
 | _ => none⟩
def bG.E (k : Nat) : Env := ⟨81, tys, [(182, iZ.app), (89, fV.app), (101, gZ.app), (104, iV.app), (103, iD.app), (160, kS.app)], [(5, bG.p0 k), (100047, bG.p1 k)], [], false, [197], false⟩
theorem bG.fok (k : Nat) : FO 142 f142 (dJ f142) (bG.E k) := fo fQ func142 ⟨iZ.ok, ⟨fV.ok, ⟨gZ.ok, ⟨iV.ok, ⟨iD.ok, ⟨kS.ok, trivial⟩⟩⟩⟩⟩⟩
theorem bG.s0 : jJ f142 bG.E bG.p0 := fun k s r h => by
 dsimp only [bG.p0] at h
 split at h
 ·rename_i a b c d e f g
  rcases k with _ | k
  ·cases h
  exact ⟨k, rfl, via ((iZ.f e).bind fun i => (if (decide (i < b)) = true then ((bG.j1 k a b c (decide ((c.length : Int) > 0)) d e f g).map bG.enc) else ((bG.j1 k a b c false d e f g).map bG.enc))) (by rw [bG.l0] at h; exact Eq.trans (Eq.symm mt2) h)⟩
 ·cases h
theorem bG.s1 : jJ f142 bG.E bG.p1 := fun k s r h => by
 dsimp only [bG.p1] at h
 split at h
 ·rename_i a b c d e f g i
  rcases k with _ | k
  ·cases h
  exact ⟨k, rfl, via (if d = true then ((iV.f f f).bind fun j => ((iV.f c c).bind fun m => ((iD.f m a).bind fun n => (if (decide (n ≥ 0)) = true then ((kS.f m a).bind fun o => ((iV.f j ([1] : List Int)).bind fun p => ((bG.l0 k a b o.1 e p (wrap64 (g - 1)) i).map bG.enc))) else ((bG.l0 k a b m e j (wrap64 (g - 1)) i).map bG.enc))))) else (some (.agg [.v (.bool e), .ro true .u64 f, .v (.int .i64 g), .v (.bool (decide ((c.length : Int) > 0)))]))) (by rw [bG.j1] at h; exact Eq.trans (Eq.symm mt2) h)⟩
 ·cases h
theorem bG.pts : ∀ k, jE prog (dJ f142) (bG.E k) GOk (Fin prog f142) := iT stays mixed bG.fok [(5, bG.p0), (100047, bG.p1)] ⟨bG.s0, bG.s1, trivial⟩
theorem bG.ok (k : Nat) : AO 142 (bG.app k) := fA stays mixed (bG.fok k) (bG.pts k) fun l K r h => by
 dsimp only [bG.app] at h
 split at h
 ·rename_i a b c
  exact fin (enc := bG.enc) h rfl fun y h => by
   exact via ((iZ.f b).bind fun d => ((iZ.f a).bind fun e => ((fV.f a (mx 0 (wrap64 ((wrap64 (d - e)) - 1)))).bind fun f => ((gZ.f f.1 b).bind fun g => ((bG.l0 k b c g.2.1 false g.1 (wrap64 (-(mx 0 (wrap64 ((wrap64 (d - e)) - 1))))) false).map bG.enc))))) (by rw [bG.f] at h; exact Eq.trans (Eq.symm mt2) h)
 ·cases h
def fM.enc (r : Int) : AV := .v (.int .i64 r)
def fM.app : List AV → (AV → Option AV) → Option AV := fun l K => match l with
 | [.agg [.v (.bool a), .ro false .u64 b, .v (.int .i64 c), .v (.bool d)]] => (fM.f a b c d).bind fun r => K (fM.enc r)
 | _ => none
def fM.E : Env := ⟨10, tys, [(182, iZ.app)], [], [(1, [0, 1, 2, 3, 4, 5, 6, 7])], false, [3], false⟩
theorem fM.fok : FO 212 f212 (dJ f212) (fM.E) := fo fQ func212 ⟨iZ.ok, trivial⟩
theorem fM.ok : AO 212 (fM.app) := fA stays mixed (fM.fok) (eG rfl) fun l K r h => by
 dsimp only [fM.app] at h
 split at h
 ·rename_i a b c d
  exact fin (enc := fM.enc) h rfl fun y h => by
   exact via ((iZ.f b).bind fun e => (some (.v (.int .i64 (wrap64 ((wrap64 (c + e)) - 1)))))) (by rw [fM.f] at h; exact Eq.trans (Eq.symm mt2) h)
 ·cases h
def bV.enc (r : Int) : AV := .v (.int .u64 r)
def bV.app (k : Nat) : List AV → (AV → Option AV) → Option AV := fun l K => match l with
 | [.v (.int .i64 a), .v (.int .i64 b), .v (.bool c)] => (bV.f k a b c).bind fun r => K (bV.enc r)
 | _ => none
def bV.p0 (k : Nat) : Pt := ⟨[.c [1, 1, 0, 0], .c [1, 1, 0, 1], .c [1, 1, 1]], [(0, none, []), (2, none, []), (7, none, [])], [], [], [], fun s => match s with
 | ⟨[(0, .v (.int .i64 a)), (2, .v (.bool b)), (7, .v (.bool c))], []⟩ => (bV.j0 k a b c).map bV.enc
 | _ => none⟩
def bV.E (k : Nat) : Env := ⟨48, tys, [(56, fP.app), (248, iy.app)], [(2, bV.p0 k)], [], false, [22], false⟩
theorem bV.fok (k : Nat) : FO 213 f213 (dJ f213) (bV.E k) := fo fQ func213 ⟨fP.ok, ⟨iy.ok, trivial⟩⟩
theorem bV.s0 : jJ f213 bV.E bV.p0 := fun k s r h => by
 dsimp only [bV.p0] at h
 split at h
 ·rename_i a b c
  rcases k with _ | k
  ·cases h
  exact ⟨k, rfl, via (if c = true then ((fP.f a b).bind fun d => (some (.v (.int .u64 d.1)))) else ((iy.f a b).bind fun e => (some (.v (.int .u64 e.1))))) (by rw [bV.j0] at h; exact Eq.trans (Eq.symm mt2) h)⟩
 ·cases h
theorem bV.pts : ∀ k, jE prog (dJ f213) (bV.E k) GOk (Fin prog f213) := iT stays mixed bV.fok [(2, bV.p0)] ⟨bV.s0, trivial⟩
theorem bV.ok (k : Nat) : AO 213 (bV.app k) := fA stays mixed (bV.fok k) (bV.pts k) fun l K r h => by
 dsimp only [bV.app] at h
 split at h
 ·rename_i a b c
  exact fin (enc := bV.enc) h rfl fun y h => by
   exact via (if (b == 0) = false then (if (b == 1) = false then (if (b == 3) = true then (if (!c) = false then (if (b == 4) = true then ((bV.j0 k a c c).map bV.enc) else ((bV.j0 k a c false).map bV.enc)) else ((bV.j0 k a c true).map bV.enc)) else (if (b == 4) = true then ((bV.j0 k a c c).map bV.enc) else ((bV.j0 k a c false).map bV.enc))) else ((bV.j0 k a c true).map bV.enc)) else ((bV.j0 k a c true).map bV.enc)) (by rw [bV.f] at h; exact Eq.trans (Eq.symm mt2) h)
 ·cases h
def iq.enc (r : Bool) : AV := .v (.bool r)
def iq.app : List AV → (AV → Option AV) → Option AV := fun l K => match l with
 | [.v (.int .i64 a), .v (.bool b), .v (.bool c), .v (.int .u64 d)] => (iq.f a b c d).bind fun r => K (iq.enc r)
 | _ => none
def iq.E : Env := ⟨31, tys, [], [], [], false, [4], false⟩
theorem iq.fok : FO 251 f251 (dJ f251) (iq.E) := fo fQ func251 trivial
theorem iq.ok : AO 251 (iq.app) := fA stays mixed (iq.fok) (eG rfl) fun l K r h => by
 dsimp only [iq.app] at h
 split at h
 ·rename_i a b c d
  exact fin (enc := iq.enc) h rfl fun y h => by
   exact via (if (a == 4) = true then (some (.v (.bool (!(!b))))) else (if (a == 3) = true then (some (.v (.bool (!b)))) else (if (a == 0) = true then (if (d == 2) = true then (some (.v (.bool c))) else (some (.v (.bool (decide (d ≥ 2)))))) else (if (a == 1) = true then (some (.v (.bool (decide (d ≥ 2))))) else (if (a == 5) = true then (some (.v (.bool (!c)))) else (some (.v (.bool false)))))))) (by rw [iq.f] at h; exact Eq.trans (Eq.symm mt2) h)
 ·cases h
def aA.enc (r : List Int × Bool) : AV := .tup [.ro true .u64 r.1, .v (.bool r.2)]
def aA.app (k : Nat) : List AV → (AV → Option AV) → Option AV := fun l K => match l with
 | [.agg [.v (.bool a), .ro false .u64 b, .v (.int .i64 c), .v (.bool d)], .v (.int .i64 e), .v (.int .i64 f)] => (aA.f k a b c d e f).bind fun r => K (aA.enc r)
 | _ => none
def aA.p0 (k : Nat) : Pt := ⟨[.c [1, 1, 1, 0], .c [1, 1, 1, 1]], [(1, none, []), (8, some .u64, [])], [(3, [false])], [], [], fun s => match s with
 | ⟨[(1, .v (.int .i64 a)), (8, .ro true .u64 b), (3, .ptr 3 0)], [(3, .cells [.v (.bool c), .ro false .u64 d, .v (.int .i64 e), .v (.bool f)])]⟩ => (aA.j0 k a b c d e f).map aA.enc
 | _ => none⟩
def aA.p1 (k : Nat) : Pt := ⟨[.c [1, 1, 1, 1, 1, 0, 0], .c [1, 1, 1, 1, 1, 0, 1], .c [1, 1, 1, 1, 1, 1]], [(1, none, []), (8, some .u64, []), (9, none, [])], [(3, [false])], [], [], fun s => match s with
 | ⟨[(1, .v (.int .i64 a)), (8, .ro true .u64 b), (9, .v (.int .u64 c)), (3, .ptr 3 0)], [(3, .cells [.v (.bool d), .ro false .u64 e, .v (.int .i64 f), .v (.bool g)])]⟩ => (aA.j1 k a b c d e f g).map aA.enc
 | _ => none⟩
def aA.p2 (k : Nat) : Pt := ⟨[.c [1, 1, 1, 1, 1, 1, 0], .c [1, 1, 1, 1, 1, 1, 1]], [(1, none, []), (8, some .u64, []), (9, none, [])], [(3, [false])], [], [], fun s => match s with
 | ⟨[(1, .v (.int .i64 a)), (8, .ro true .u64 b), (9, .v (.int .u64 c)), (3, .ptr 3 0)], [(3, .cells [.v (.bool d), .ro false .u64 e, .v (.int .i64 f), .v (.bool g)])]⟩ => (aA.j2 k a b c d e f g).map aA.enc
 | _ => none⟩
def aA.p3 (k : Nat) : Pt := ⟨[.c [1, 1, 1, 1, 1, 1, 1, 1, 0, 0], .c [1, 1, 1, 1, 1, 1, 1, 1, 0, 1], .c [1, 1, 1, 1, 1, 1, 1, 1, 1]], [(1, none, []), (9, none, []), (10, some .u64, []), (12, none, [])], [(3, [false])], [], [], fun s => match s with
 | ⟨[(1, .v (.int .i64 a)), (9, .v (.int .u64 b)), (10, .ro true .u64 c), (12, .v (.bool d)), (3, .ptr 3 0)], [(3, .cells [.v (.bool e), .ro false .u64 f, .v (.int .i64 g), .v (.bool i)])]⟩ => (aA.j3 k a b c d e f g i).map aA.enc
 | _ => none⟩
def aA.E (k : Nat) : Env := ⟨82, tys, [(249, lM.app), (89, fV.app), (250, lN.app), (251, iq.app), (104, iV.app)], [(5, aA.p0 k), (8, aA.p1 k), (10, aA.p2 k), (12, aA.p3 k)], [], false, [73, 4], false⟩
theorem aA.fok (k : Nat) : FO 214 f214 (dJ f214) (aA.E k) := fo fQ func214 ⟨lM.ok, ⟨fV.ok, ⟨lN.ok, ⟨iq.ok, ⟨iV.ok, trivial⟩⟩⟩⟩⟩
theorem aA.s0 : jJ f214 aA.E aA.p0 := fun k s r h => by
 dsimp only [aA.p0] at h
 split at h
 ·rename_i a b c d e f
  rcases k with _ | k
  ·cases h
  exact ⟨k, rfl, via (if (decide ((b.length : Int) > 0)) = true then (if (0 : Int) ≤ 0 then (if (0 : Int) < (b.length : Int) then ((aA.j1 k a b (Go.bits .and .u64 (rd b 0) 3) c d e f).map aA.enc) else (none)) else (none)) else ((aA.j1 k a b 0 c d e f).map aA.enc)) (by rw [aA.j0] at h; exact Eq.trans (Eq.symm mt2) h)⟩
 ·cases h
theorem aA.s1 : jJ f214 aA.E aA.p1 := fun k s r h => by
 dsimp only [aA.p1] at h
 split at h
 ·rename_i a b c d e f g
  rcases k with _ | k
  ·cases h
  exact ⟨k, rfl, via (if g = true then ((aA.j2 k a b (Go.bits .or .u64 c 1) d e f g).map aA.enc) else ((aA.j2 k a b c d e f g).map aA.enc)) (by rw [aA.j1] at h; exact Eq.trans (Eq.symm mt2) h)⟩
 ·cases h
theorem aA.s2 : jJ f214 aA.E aA.p2 := fun k s r h => by
 dsimp only [aA.p2] at h
 split at h
 ·rename_i a b c d e f g
  rcases k with _ | k
  ·cases h
  exact ⟨k, rfl, via ((lN.f b 2).bind fun i => (if (decide ((i.1.length : Int) > 0)) = true then (if (0 : Int) ≤ 0 then (if (0 : Int) < (i.1.length : Int) then ((aA.j3 k a c i.1 ((Go.bits .and .u64 (rd i.1 0) 1) == 1) d e f g).map aA.enc) else (none)) else (none)) else ((aA.j3 k a c i.1 false d e f g).map aA.enc))) (by rw [aA.j2] at h; exact Eq.trans (Eq.symm mt2) h)⟩
 ·cases h
theorem aA.s3 : jJ f214 aA.E aA.p3 := fun k s r h => by
 dsimp only [aA.p3] at h
 split at h
 ·rename_i a b c d e f g i
  rcases k with _ | k
  ·cases h
  exact ⟨k, rfl, via (if (b != 0) = true then ((iq.f a e d b).bind fun j => (if j = true then ((iV.f c ([1] : List Int)).bind fun m => (some (.tup [.ro true .u64 m, .v (.bool (b != 0))]))) else (some (.tup [.ro true .u64 c, .v (.bool (b != 0))])))) else (some (.tup [.ro true .u64 c, .v (.bool (b != 0))]))) (by rw [aA.j3] at h; exact Eq.trans (Eq.symm mt2) h)⟩
 ·cases h
theorem aA.pts : ∀ k, jE prog (dJ f214) (aA.E k) GOk (Fin prog f214) := iT stays mixed aA.fok [(5, aA.p0), (8, aA.p1), (10, aA.p2), (12, aA.p3)] ⟨aA.s0, aA.s1, aA.s2, aA.s3, trivial⟩
theorem aA.ok (k : Nat) : AO 214 (aA.app k) := fA stays mixed (aA.fok k) (aA.pts k) fun l K r h => by
 dsimp only [aA.app] at h
 split at h
 ·rename_i a b c d e f
  exact fin (enc := aA.enc) h rfl fun y h => by
   exact via (if (decide ((wrap64 (f - c)) ≥ 2)) = true then ((lM.f b (wrap64 ((wrap64 (f - c)) - 2))).bind fun g => ((aA.j0 k e g.1 a b c d).map aA.enc)) else ((fV.f b (wrap64 (2 - (wrap64 (f - c))))).bind fun i => ((aA.j0 k e i.1 a b c d).map aA.enc))) (by rw [aA.f] at h; exact Eq.trans (Eq.symm mt2) h)
 ·cases h
def fG.enc (r : Bool) : AV := .v (.bool r)
def fG.app (k : Nat) : List AV → (AV → Option AV) → Option AV := fun l K => match l with
 | [.agg [.v (.bool a), .ro false .u64 b, .v (.int .i64 c), .v (.bool d)], .agg [.v (.int .i64 e), .v (.int .i64 f), .v (.int .i64 g), .v (.int .i64 i)], .v (.int .i64 j), .v (.int .i64 m)] => (fG.f k a b c d e f g i j m).bind fun r => K (fG.enc r)
 | _ => none
def fG.E (k : Nat) : Env := ⟨36, tys, [(214, aA.app k), (182, iZ.app)], [], [(4, [0, 1, 2, 3, 4, 7, 8, 5, 6, 9, 10])], false, [4], false⟩
theorem fG.fok (k : Nat) : FO 215 f215 (dJ f215) (fG.E k) := fo fQ func215 ⟨aA.ok k, ⟨iZ.ok, trivial⟩⟩
theorem fG.ok (k : Nat) : AO 215 (fG.app k) := fA stays mixed (fG.fok k) (eG rfl) fun l K r h => by
 dsimp only [fG.app] at h
 split at h
 ·rename_i a b c d e f g i j m
  exact fin (enc := fG.enc) h rfl fun y h => by
   exact via (if (decide (m ≥ g)) = true then (some (.v (.bool false))) else ((aA.f k a b c d j (wrap64 ((wrap64 (m - f)) + 1))).bind fun n => ((iZ.f n.1).bind fun o => (some (.v (.bool (decide ((wrap64 ((wrap64 (m - f)) + o)) < g)))))))) (by rw [fG.f] at h; exact Eq.trans (Eq.symm mt2) h)
 ·cases h
def aT.enc (r : Int × Int) : AV := .tup [.v (.int .u64 r.1), .v (.int .i64 r.2)]
def aT.app (k : Nat) : List AV → (AV → Option AV) → Option AV := fun l K => match l with
 | [.agg [.v (.bool a), .ro false .u64 b, .v (.int .i64 c), .v (.bool d)], .v (.int .i64 e), .agg [.v (.int .i64 f), .v (.int .i64 g), .v (.int .i64 i), .v (.int .i64 j)], .v (.int .i64 m)] => (aT.f k a b c d e f g i j m).bind fun r => K (aT.enc r)
 | _ => none
def aT.p0 (k : Nat) : Pt := ⟨[.c [1, 1, 1, 1, 1, 1, 1, 1, 0, 0], .c [1, 1, 1, 1, 1, 1, 1, 1, 0, 1], .c [1, 1, 1, 1, 1, 1, 1, 1, 1]], [(1, none, []), (3, none, []), (10, none, []), (12, none, []), (13, some .u64, []), (14, none, []), (15, none, [])], [(4, [false]), (6, [])], [], [], fun s => match s with
 | ⟨[(1, .v (.int .i64 a)), (3, .v (.int .i64 b)), (10, .v (.int .i64 c)), (12, .v (.int .i64 d)), (13, .ro true .u64 e), (14, .v (.bool f)), (15, .v (.int .u64 g)), (4, .ptr 4 0), (6, .ptr 6 0)], [(4, .cells [.v (.bool i), .ro false .u64 j, .v (.int .i64 m), .v (.bool n)]), (6, .cells [.v (.int .i64 o), .v (.int .i64 p), .v (.int .i64 q), .v (.int .i64 t)])]⟩ => (aT.j0 k a b c d e f g i j m n o p q t).map aT.enc
 | _ => none⟩
def aT.p1 (k : Nat) : Pt := ⟨[.c [1, 1, 1, 1, 1, 1, 1, 1, 1, 1, 0, 0], .c [1, 1, 1, 1, 1, 1, 1, 1, 1, 1, 0, 1], .c [1, 1, 1, 1, 1, 1, 1, 1, 1, 1, 1]], [(3, none, []), (10, none, []), (14, none, []), (15, none, [])], [(4, [false]), (6, [])], [], [], fun s => match s with
 | ⟨[(3, .v (.int .i64 a)), (10, .v (.int .i64 b)), (14, .v (.bool c)), (15, .v (.int .u64 d)), (4, .ptr 4 0), (6, .ptr 6 0)], [(4, .cells [.v (.bool e), .ro false .u64 f, .v (.int .i64 g), .v (.bool i)]), (6, .cells [.v (.int .i64 j), .v (.int .i64 m), .v (.int .i64 n), .v (.int .i64 o)])]⟩ => (aT.j1 k a b c d e f g i j m n o).map aT.enc
 | _ => none⟩
def aT.E (k : Nat) : Env := ⟨95, tys, [(212, fM.app), (213, bV.app k), (214, aA.app k), (182, iZ.app), (215, fG.app k)], [(10, aT.p0 k), (14, aT.p1 k)], [(10, [0, 1, 5, 6, 2, 3, 4, 7])], false, [22, 23], false⟩
theorem aT.fok (k : Nat) : FO 143 f143 (dJ f143) (aT.E k) := fo fQ func143 ⟨fM.ok, ⟨bV.ok k, ⟨aA.ok k, ⟨iZ.ok, ⟨fG.ok k, trivial⟩⟩⟩⟩⟩
theorem aT.s0 : jJ f143 aT.E aT.p0 := fun k s r h => by
 dsimp only [aT.p0] at h
 split at h
 ·rename_i a b c d e f g i j m n o p q t
  rcases k with _ | k
  ·cases h
  exact ⟨k, rfl, via ((iZ.f e).bind fun u => (if (decide ((wrap64 ((wrap64 (d + u)) - 1)) > t)) = true then ((bV.f k a b i).bind fun v => (some (.tup [.v (.int .u64 v), .v (.int .i64 20)]))) else (if i = true then (if (0 : Int) ≤ wrap64 (o - 1) then ((aT.j1 k b c f (Go.bits .or .u64 g (shl .u64 1 (wrap64 (o - 1)))) i j m n o p q t).map aT.enc) else (none)) else ((aT.j1 k b c f g i j m n o p q t).map aT.enc)))) (by rw [aT.j0] at h; exact Eq.trans (Eq.symm mt2) h)⟩
 ·cases h
theorem aT.s1 : jJ f143 aT.E aT.p1 := fun k s r h => by
 dsimp only [aT.p1] at h
 split at h
 ·rename_i a b c d e f g i j m n o
  rcases k with _ | k
  ·cases h
  exact ⟨k, rfl, via (if (!c) = true then (some (.tup [.v (.int .u64 d), .v (.int .i64 0)])) else ((fG.f k e f g i j m n o a b).bind fun p => (if p = true then (some (.tup [.v (.int .u64 d), .v (.int .i64 24)])) else (some (.tup [.v (.int .u64 d), .v (.int .i64 16)]))))) (by rw [aT.j1] at h; exact Eq.trans (Eq.symm mt2) h)⟩
 ·cases h
theorem aT.pts : ∀ k, jE prog (dJ f143) (aT.E k) GOk (Fin prog f143) := iT stays mixed aT.fok [(10, aT.p0), (14, aT.p1)] ⟨aT.s0, aT.s1, trivial⟩
theorem aT.ok (k : Nat) : AO 143 (aT.app k) := fA stays mixed (aT.fok k) (aT.pts k) fun l K r h => by
 dsimp only [aT.app] at h
 split at h
 ·rename_i a b c d e f g i j m
  exact fin (enc := aT.enc) h rfl fun y h => by
   exact via ((fM.f a b c d).bind fun n => (if (decide (n > j)) = true then ((bV.f k e m a).bind fun o => (some (.tup [.v (.int .u64 o), .v (.int .i64 20)]))) else ((aA.f k a b c d m (wrap64 ((wrap64 ((mx n i) - g)) + 1))).bind fun p => (if (0 : Int) ≤ wrap64 (g - 1) then (if (decide ((p.1.length : Int) > 0)) = true then (if (0 : Int) ≤ 0 then (if (0 : Int) < (p.1.length : Int) then ((aT.j0 k e m n (wrap64 ((wrap64 ((mx n i) - g)) + 1)) p.1 p.2 (IntKind.wrap .u64 ((shl .u64 (IntKind.wrap .u64 (wrap64 ((wrap64 ((wrap64 ((mx n i) - g)) + 1)) - (wrap64 ((wrap64 (i - g)) + 1))))) (wrap64 (g - 1))) + (rd p.1 0))) a b c d f g i j).map aT.enc) else (none)) else (none)) else ((aT.j0 k e m n (wrap64 ((wrap64 ((mx n i) - g)) + 1)) p.1 p.2 (shl .u64 (IntKind.wrap .u64 (wrap64 ((wrap64 ((wrap64 ((mx n i) - g)) + 1)) - (wrap64 ((wrap64 (i - g)) + 1))))) (wrap64 (g - 1))) a b c d f g i j).map aT.enc)) else (none))))) (by rw [aT.f] at h; exact Eq.trans (Eq.symm mt2) h)
 ·cases h
def dV.enc (r : Int × Int × Int) : AV := .tup [.v (.int .u64 r.1), .v (.int .i64 r.2.1), .v (.int .i64 r.2.2)]
def dV.app (k : Nat) : List AV → (AV → Option AV) → Option AV := fun l K => match l with
 | [.v (.int .i64 a), .v (.int .i64 b), .v (.bool c), .ro false .u64 d, .ro false .u64 e, .v (.int .i64 f)] => (dV.f k a b c d e f).bind fun r => K (dV.enc r)
 | _ => none
def dV.p0 (k : Nat) : Pt := ⟨[.c [1, 1, 1, 1, 0, 0, 1, 1, 1], .b 0, .c [1, 1, 1, 1, 1]], [(0, none, []), (1, none, []), (2, none, []), (3, some .u64, []), (4, some .u64, []), (5, none, []), (40, none, [])], [(15, [])], [], [], fun s => match s with
 | ⟨[(0, .v (.int .i64 a)), (1, .v (.int .i64 b)), (2, .v (.bool c)), (3, .ro true .u64 d), (4, .ro true .u64 e), (5, .v (.int .i64 f)), (40, .v (.bool g)), (15, .ptr 15 0)], [(15, .cells [.v (.int .i64 i), .v (.int .i64 j), .v (.int .i64 m), .v (.int .i64 n)])]⟩ => (dV.j0 k a b c d e f g i j m n).map dV.enc
 | _ => none⟩
def dV.E (k : Nat) : Env := ⟨84, tys, [(139, ig.app), (140, kC.app), (141, jv.app), (142, bG.app k), (143, aT.app k)], [(100040, dV.p0 k)], [], false, [22, 23, 24], false⟩
theorem dV.fok (k : Nat) : FO 59 f59 (dJ f59) (dV.E k) := fo fQ func59 ⟨ig.ok, ⟨kC.ok, ⟨jv.ok, ⟨bG.ok k, ⟨aT.ok k, trivial⟩⟩⟩⟩⟩
theorem dV.s0 : jJ f59 dV.E dV.p0 := fun k s r h => by
 dsimp only [dV.p0] at h
 split at h
 ·rename_i a b c d e f g i j m n
  rcases k with _ | k
  ·cases h
  exact ⟨k, rfl, via (if g = true then (some (.tup [.v (.int .u64 0), .v (.int .i64 0), .v (.int .i64 30)])) else (if ((e.length : Int) == 0) = true then (some (.tup [.v (.int .u64 0), .v (.int .i64 0), .v (.int .i64 10)])) else (if ((d.length : Int) == 0) = true then ((jv.f a c).bind fun o => (some (.tup [.v (.int .u64 o.1), .v (.int .i64 o.2.1), .v (.int .i64 o.2.2)]))) else ((bG.f k d e (wrap64 (j + 3))).bind fun p => ((aT.f k c p.2.1 (wrap64 (p.2.2.1 + f)) p.2.2.2 a i j m n b).bind fun q => (some (.tup [.v (.int .u64 q.1), .v (.int .i64 q.2), .v (.int .i64 0)]))))))) (by rw [dV.j0] at h; exact Eq.trans (Eq.symm mt2) h)⟩
 ·cases h
theorem dV.pts : ∀ k, jE prog (dJ f59) (dV.E k) GOk (Fin prog f59) := iT stays mixed dV.fok [(100040, dV.p0)] ⟨dV.s0, trivial⟩
theorem dV.ok (k : Nat) : AO 59 (dV.app k) := fA stays mixed (dV.fok k) (dV.pts k) fun l K r h => by
 dsimp only [dV.app] at h
 split at h
 ·rename_i a b c d e f
  exact fin (enc := dV.enc) h rfl fun y h => by
   exact via ((ig.f a b).bind fun g => (if (g.2.2.2.2 != 0) = true then (some (.tup [.v (.int .u64 0), .v (.int .i64 0), .v (.int .i64 g.2.2.2.2)])) else ((kC.f d).bind fun i => ((kC.f e).bind fun j => (if (decide ((wrap64 ((i.length : Int) + (j.length : Int))) > 1024)) = true then (some (.tup [.v (.int .u64 0), .v (.int .i64 0), .v (.int .i64 5)])) else (if (decide (f < (-40000))) = false then ((dV.j0 k a b c i j f (decide (f > 40000)) g.1 g.2.1 g.2.2.1 g.2.2.2.1).map dV.enc) else ((dV.j0 k a b c i j f true g.1 g.2.1 g.2.2.1 g.2.2.2.1).map dV.enc))))))) (by rw [dV.f] at h; exact Eq.trans (Eq.symm mt2) h)
 ·cases h
def fC.enc (r : List Int) : AV := .ro true .u64 r
def fC.app : List AV → (AV → Option AV) → Option AV := fun l K => match l with
 | [.v (.int .i64 a)] => (fC.f a).bind fun r => K (fC.enc r)
 | _ => none
def fC.E : Env := ⟨11, tys, [(91, gV.app)], [], [], false, [73], false⟩
theorem fC.fok : FO 60 f60 (dJ f60) (fC.E) := fo fQ func60 ⟨gV.ok, trivial⟩
theorem fC.ok : AO 60 (fC.app) := fA stays mixed (fC.fok) (eG rfl) fun l K r h => by
 dsimp only [fC.app] at h
 split at h
 ·rename_i a
  exact fin (enc := fC.enc) h rfl fun y h => by
   exact via ((gV.f 10 a).bind fun b => (some (.ro true .u64 b.1))) (by rw [fC.f] at h; exact Eq.trans (Eq.symm mt2) h)
 ·cases h
def fO.enc (r : Int × Int × Int) : AV := .tup [.v (.int .u64 r.1), .v (.int .i64 r.2.1), .v (.int .i64 r.2.2)]
def fO.app (k : Nat) : List AV → (AV → Option AV) → Option AV := fun l K => match l with
 | [.v (.int .i64 a), .v (.int .i64 b), .v (.string c)] => (fO.f k a b c).bind fun r => K (fO.enc r)
 | _ => none
def fO.E (k : Nat) : Env := ⟨121, tys, [(52, bY.app), (53, fH.app), (54, aN.app k), (55, iw.app), (56, fP.app), (57, jL.app), (58, iQ.app), (37, jU.app), (60, fC.app), (59, dV.app k), (61, iF.app)], [], [(17, [0, 1, 2, 3, 4, 5, 6, 7, 8, 9, 10, 11, 12, 13, 14])], false, [22, 23, 24], false⟩
theorem fO.fok (k : Nat) : FO 14 f14 (dJ f14) (fO.E k) := fo fQ func14 ⟨bY.ok, ⟨fH.ok, ⟨aN.ok k, ⟨iw.ok, ⟨fP.ok, ⟨jL.ok, ⟨iQ.ok, ⟨jU.ok, ⟨fC.ok, ⟨dV.ok k, ⟨iF.ok, trivial⟩⟩⟩⟩⟩⟩⟩⟩⟩⟩⟩
theorem fO.ok (k : Nat) : AO 14 (fO.app k) := fA stays mixed (fO.fok k) (eG rfl) fun l K r h => by
 dsimp only [fO.app] at h
 split at h
 ·rename_i a b c
  exact fin (enc := fO.enc) h rfl fun y h => by
   exact via ((bY.f a).bind fun d => (if (d.2.2.2.2 != 0) = true then (some (.tup [.v (.int .u64 0), .v (.int .i64 0), .v (.int .i64 d.2.2.2.2)])) else ((fH.f b).bind fun e => (if (!e) = true then (some (.tup [.v (.int .u64 0), .v (.int .i64 0), .v (.int .i64 3)])) else (if (decide ((c.size : Int) > 2000)) = true then (some (.tup [.v (.int .u64 0), .v (.int .i64 0), .v (.int .i64 5)])) else ((aN.f k c).bind fun f => (if (!f.2.2.2.2) = true then (some (.tup [.v (.int .u64 0), .v (.int .i64 0), .v (.int .i64 8)])) else ((iw.f f.2.2.1 (⟨#[48]⟩ : ByteArray)).bind fun g => (if (f.2.1.toList == (⟨#[105, 110, 102]⟩ : ByteArray).toList) = true then ((fP.f a f.1).bind fun i => (some (.tup [.v (.int .u64 i.1), .v (.int .i64 0), .v (.int .i64 i.2)]))) else (if (f.2.1.toList == (⟨#[110, 97, 110]⟩ : ByteArray).toList) = true then ((jL.f a).bind fun j => (some (.tup [.v (.int .u64 j.1), .v (.int .i64 0), .v (.int .i64 j.2)]))) else (if (g.toList == (⟨#[]⟩ : ByteArray).toList) = true then ((iQ.f a f.1).bind fun m => (some (.tup [.v (.int .u64 m.1), .v (.int .i64 0), .v (.int .i64 m.2)]))) else ((jU.f g).bind fun n => (if (decide ((mx (wrap64 ((-400) - (g.size : Int))) (mn f.2.2.2.1 (wrap64 (400 - (g.size : Int))))) < 0)) = true then ((fC.f (wrap64 (-(mx (wrap64 ((-400) - (g.size : Int))) (mn f.2.2.2.1 (wrap64 (400 - (g.size : Int)))))))).bind fun o => ((dV.f k a b f.1 n.1 o 0).bind fun p => (some (.tup [.v (.int .u64 p.1), .v (.int .i64 p.2.1), .v (.int .i64 p.2.2)])))) else ((fC.f (mx (wrap64 ((-400) - (g.size : Int))) (mn f.2.2.2.1 (wrap64 (400 - (g.size : Int)))))).bind fun q => ((iF.f n.1 q).bind fun t => ((dV.f k a b f.1 t.1 ([1] : List Int) 0).bind fun u => (some (.tup [.v (.int .u64 u.1), .v (.int .i64 u.2.1), .v (.int .i64 u.2.2)])))))))))))))))))) (by rw [fO.f] at h; exact Eq.trans (Eq.symm mt2) h)
 ·cases h
def bT.enc (r : Int × Int × Int × Int × Bool) : AV := .tup [.agg [.v (.int .i64 r.1), .v (.int .i64 r.2.1), .v (.int .i64 r.2.2.1), .v (.int .i64 r.2.2.2.1)], .v (.bool r.2.2.2.2)]
def bT.app : List AV → (AV → Option AV) → Option AV := fun l K => match l with
 | [.v (.int .i64 a)] => (bT.f a).bind fun r => K (bT.enc r)
 | _ => none
def bT.E : Env := ⟨18, tys, [], [], [], false, [201, 4], false⟩
theorem bT.fok : FO 145 f145 (dJ f145) (bT.E) := fo fQ func145 trivial
theorem bT.ok : AO 145 (bT.app) := fA stays mixed (bT.fok) (eG rfl) fun l K r h => by
 dsimp only [bT.app] at h
 split at h
 ·rename_i a
  exact fin (enc := bT.enc) h rfl fun y h => by
   exact via (if (a == 0) = true then (some (.tup [.agg [.v (.int .i64 16), .v (.int .i64 11), .v (.int .i64 (-14)), .v (.int .i64 15)], .v (.bool true)])) else (if (a == 1) = true then (some (.tup [.agg [.v (.int .i64 16), .v (.int .i64 8), .v (.int .i64 (-126)), .v (.int .i64 127)], .v (.bool true)])) else (if (a == 2) = true then (some (.tup [.agg [.v (.int .i64 32), .v (.int .i64 24), .v (.int .i64 (-126)), .v (.int .i64 127)], .v (.bool true)])) else (if (a == 3) = true then (some (.tup [.agg [.v (.int .i64 64), .v (.int .i64 53), .v (.int .i64 (-1022)), .v (.int .i64 1023)], .v (.bool true)])) else (some (.tup [.agg [.v (.int .i64 0), .v (.int .i64 0), .v (.int .i64 0), .v (.int .i64 0)], .v (.bool false)])))))) (by rw [bT.f] at h; exact Eq.trans (Eq.symm mt2) h)
 ·cases h
def dU.enc (r : Int) : AV := .v (.int .i64 r)
def dU.app : List AV → (AV → Option AV) → Option AV := fun l K => match l with
 | [.v (.int .i64 a), .v (.int .u64 b)] => (dU.f a b).bind fun r => K (dU.enc r)
 | _ => none
def dU.E : Env := ⟨25, tys, [(145, bT.app)], [], [], false, [3], false⟩
theorem dU.fok : FO 79 f79 (dJ f79) (dU.E) := fo fQ func79 ⟨bT.ok, trivial⟩
theorem dU.ok : AO 79 (dU.app) := fA stays mixed (dU.fok) (eG rfl) fun l K r h => by
 dsimp only [dU.app] at h
 split at h
 ·rename_i a b
  exact fin (enc := dU.enc) h rfl fun y h => by
   exact via ((bT.f a).bind fun c => (if (!c.2.2.2.2) = true then (some (.v (.int .i64 2))) else (if (decide (c.1 < 64)) = true then (if (0 : Int) ≤ IntKind.wrap .u64 (c.1) then (if ((shr .u64 b (IntKind.wrap .u64 (c.1))) != 0) = true then (some (.v (.int .i64 4))) else (some (.v (.int .i64 0)))) else (none)) else (some (.v (.int .i64 0)))))) (by rw [dU.f] at h; exact Eq.trans (Eq.symm mt2) h)
 ·cases h
def aI.enc (r : Int) : AV := .v (.int .i64 r)
def aI.app (k : Nat) : List AV → (AV → Option AV) → Option AV := fun l K => match l with
 | [.v (.int .i64 a), .v (.int .i64 b), .ro false .u64 c] => (aI.f k a b c).bind fun r => K (aI.enc r)
 | _ => none
def aI.p0 (k : Nat) : Pt := ⟨[.c [1, 1, 1, 1, 0, 1, 0, 0, 0], .c [1, 1, 1, 1, 0, 1, 0, 0, 1], .l [1, 1, 1, 1, 0, 1, 0, 0], .b 0, .c [1, 1, 1, 1, 1]], [(0, none, []), (25, some .u64, [false]), (26, none, []), (27, none, [])], [], [], [7], fun s => match s with
 | ⟨[(0, .v (.int .i64 a)), (25, .ro false .u64 b), (26, .v (.int .i64 c)), (27, .v (.int .i64 d)), (7, .ptr 7 0)], [(7, .cells [.top, .top, .top, .top])]⟩ => (aI.l0 k a b c d).map aI.enc
 | _ => none⟩
def aI.p1 (k : Nat) : Pt := ⟨[.c [1, 1, 1, 0, 1], .c [1, 1, 1, 1]], [(0, none, []), (2, some .u64, [false]), (24, none, [])], [], [], [7], fun s => match s with
 | ⟨[(0, .v (.int .i64 a)), (2, .ro false .u64 b), (24, .v (.bool c)), (7, .ptr 7 0)], [(7, .cells [.top, .top, .top, .top])]⟩ => (aI.j0 k a b c).map aI.enc
 | _ => none⟩
def aI.E (k : Nat) : Env := ⟨38, tys, [(145, bT.app), (79, dU.app)], [(7, aI.p0 k), (100024, aI.p1 k)], [], false, [3], false⟩
theorem aI.fok (k : Nat) : FO 62 f62 (dJ f62) (aI.E k) := fo fQ func62 ⟨bT.ok, ⟨dU.ok, trivial⟩⟩
theorem aI.s0 : jJ f62 aI.E aI.p0 := fun k s r h => by
 dsimp only [aI.p0] at h
 split at h
 ·rename_i a b c d
  rcases k with _ | k
  ·cases h
  exact ⟨k, rfl, via (if (decide (d < c)) = true then (if (0 : Int) ≤ d then (if (d : Int) < (b.length : Int) then ((dU.f a (rd b d)).bind fun e => (if (e != 0) = true then (some (.v (.int .i64 e))) else ((aI.l0 k a b c (wrap64 (d + 1))).map aI.enc))) else (none)) else (none)) else (some (.v (.int .i64 0)))) (by rw [aI.l0] at h; exact Eq.trans (Eq.symm mt2) h)⟩
 ·cases h
theorem aI.s1 : jJ f62 aI.E aI.p1 := fun k s r h => by
 dsimp only [aI.p1] at h
 split at h
 ·rename_i a b c
  rcases k with _ | k
  ·cases h
  exact ⟨k, rfl, via (if c = true then (some (.v (.int .i64 3))) else ((aI.l0 k a b (b.length : Int) 0).map aI.enc)) (by rw [aI.j0] at h; exact Eq.trans (Eq.symm mt2) h)⟩
 ·cases h
theorem aI.pts : ∀ k, jE prog (dJ f62) (aI.E k) GOk (Fin prog f62) := iT stays mixed aI.fok [(7, aI.p0), (100024, aI.p1)] ⟨aI.s0, aI.s1, trivial⟩
theorem aI.ok (k : Nat) : AO 62 (aI.app k) := fA stays mixed (aI.fok k) (aI.pts k) fun l K r h => by
 dsimp only [aI.app] at h
 split at h
 ·rename_i a b c
  exact fin (enc := aI.enc) h rfl fun y h => by
   exact via ((bT.f a).bind fun d => (if (!d.2.2.2.2) = true then (some (.v (.int .i64 2))) else (if (decide (b < 0)) = false then ((aI.j0 k a c (decide (b > 5))).map aI.enc) else ((aI.j0 k a c true).map aI.enc)))) (by rw [aI.f] at h; exact Eq.trans (Eq.symm mt2) h)
 ·cases h
def fF.enc (r : ByteArray) : AV := .v (.string r)
def fF.app (k : Nat) : List AV → (AV → Option AV) → Option AV := fun l K => match l with
 | [.v (.string a)] => (fF.f k a).bind fun r => K (fF.enc r)
 | _ => none
def fF.p0 (k : Nat) : Pt := ⟨[.c [1, 1, 0, 1, 0, 0, 0, 0], .c [1, 1, 0, 1, 0, 0, 0, 1], .c [1, 1, 0, 1, 0, 0, 1], .l [1, 1, 0, 1, 0, 0], .b 0, .c [1, 1, 1]], [(0, none, []), (3, none, []), (4, none, [])], [], [], [], fun s => match s with
 | ⟨[(0, .v (.string a)), (3, .v (.string b)), (4, .v (.int .i64 c))], []⟩ => (fF.l0 k a b c).map fF.enc
 | _ => none⟩
def fF.E (k : Nat) : Env := ⟨29, tys, [], [(3, fF.p0 k)], [], false, [9], false⟩
def jd.enc (r : Bool) : AV := .v (.bool r)
def jd.app : List AV → (AV → Option AV) → Option AV := fun l K => match l with
 | [.v (.int .u8 a)] => (jd.f a).bind fun r => K (jd.enc r)
 | _ => none
def jd.E : Env := ⟨9, tys, [], [], [], false, [4], false⟩
def bH.enc (r : Int × Bool) : AV := .tup [.v (.int .i64 r.1), .v (.bool r.2)]
def bH.app (k : Nat) : List AV → (AV → Option AV) → Option AV := fun l K => match l with
 | [.v (.string a)] => (bH.f k a).bind fun r => K (bH.enc r)
 | _ => none
def bH.p0 (k : Nat) : Pt := ⟨[.c [1, 1, 0, 0], .c [1, 1, 0, 1], .c [1, 1, 1]], [(0, none, []), (4, none, [])], [], [], [], fun s => match s with
 | ⟨[(0, .v (.string a)), (4, .v (.bool b))], []⟩ => (bH.j0 k a b).map bH.enc
 | _ => none⟩
def bH.p1 (k : Nat) : Pt := ⟨[.c [1, 1, 1, 0], .c [1, 1, 1, 1]], [(0, none, []), (4, none, [])], [], [], [], fun s => match s with
 | ⟨[(0, .v (.string a)), (4, .v (.bool b))], []⟩ => (bH.j2 k a b).map bH.enc
 | _ => none⟩
def bH.p2 (k : Nat) : Pt := ⟨[.c [1, 1, 1, 1, 0, 1, 0, 0, 0, 0], .c [1, 1, 1, 1, 0, 1, 0, 0, 0, 1], .c [1, 1, 1, 1, 0, 1, 0, 0, 1], .l [1, 1, 1, 1, 0, 1, 0, 0], .b 0, .c [1, 1, 1, 1, 1]], [(0, none, []), (4, none, []), (5, none, []), (6, none, [])], [], [], [], fun s => match s with
 | ⟨[(0, .v (.string a)), (4, .v (.bool b)), (5, .v (.int .i64 c)), (6, .v (.int .i64 d))], []⟩ => (bH.l0 k a b c d).map bH.enc
 | _ => none⟩
def bH.p3 (k : Nat) : Pt := ⟨[.c [1, 1, 0, 1], .c [1, 1, 1]], [(0, none, []), (4, none, []), (27, none, [])], [], [], [], fun s => match s with
 | ⟨[(0, .v (.string a)), (4, .v (.bool b)), (27, .v (.bool c))], []⟩ => (bH.j1 k a b c).map bH.enc
 | _ => none⟩
def bH.E (k : Nat) : Env := ⟨57, tys, [(147, jd.app)], [(2, bH.p0 k), (4, bH.p1 k), (6, bH.p2 k), (100027, bH.p3 k)], [], false, [3, 4], false⟩
def aZ.enc (r : Bool × Bool × Bool × ByteArray × Int × Bool) : AV := .tup [.agg [.v (.bool r.1), .v (.bool r.2.1), .v (.bool r.2.2.1), .v (.string r.2.2.2.1), .v (.int .i64 r.2.2.2.2.1)], .v (.bool r.2.2.2.2.2)]
def aZ.app (k : Nat) : List AV → (AV → Option AV) → Option AV := fun l K => match l with
 | [.v (.string a)] => (aZ.f k a).bind fun r => K (aZ.enc r)
 | _ => none
def aZ.p0 (k : Nat) : Pt := ⟨[.c [1, 1, 1, 0, 0], .c [1, 1, 1, 0, 1], .c [1, 1, 1, 1]], [(0, none, [])], [(4, [])], [], [2], fun s => match s with
 | ⟨[(0, .v (.string a)), (4, .ptr 4 0), (2, .ptr 2 0)], [(4, .cells [.v (.bool b), .v (.bool c), .v (.bool d), .v (.string e), .v (.int .i64 f)]), (2, .cells [.top, .top, .top, .top, .top])]⟩ => (aZ.j1 k a b c d e f).map aZ.enc
 | _ => none⟩
def aZ.p1 (k : Nat) : Pt := ⟨[.c [1, 1, 1, 1, 0], .c [1, 1, 1, 1, 1]], [(0, none, [])], [(4, [])], [], [2], fun s => match s with
 | ⟨[(0, .v (.string a)), (4, .ptr 4 0), (2, .ptr 2 0)], [(4, .cells [.v (.bool b), .v (.bool c), .v (.bool d), .v (.string e), .v (.int .i64 f)]), (2, .cells [.top, .top, .top, .top, .top])]⟩ => (aZ.j2 k a b c d e f).map aZ.enc
 | _ => none⟩
def aZ.p2 (k : Nat) : Pt := ⟨[.c [1, 1, 1, 1, 1, 0, 1, 0, 0, 0, 0], .c [1, 1, 1, 1, 1, 0, 1, 0, 0, 0, 1], .c [1, 1, 1, 1, 1, 0, 1, 0, 0, 1], .l [1, 1, 1, 1, 1, 0, 1, 0, 0], .b 0, .c [1, 1, 1, 1, 1, 1]], [(0, none, []), (5, none, []), (6, none, [])], [(4, [])], [], [2], fun s => match s with
 | ⟨[(0, .v (.string a)), (5, .v (.int .i64 b)), (6, .v (.int .i64 c)), (4, .ptr 4 0), (2, .ptr 2 0)], [(4, .cells [.v (.bool d), .v (.bool e), .v (.bool f), .v (.string g), .v (.int .i64 i)]), (2, .cells [.top, .top, .top, .top, .top])]⟩ => (aZ.l0 k a b c d e f g i).map aZ.enc
 | _ => none⟩
def aZ.p3 (k : Nat) : Pt := ⟨[.c [1, 1, 0, 1], .c [1, 1, 1]], [(0, none, []), (22, none, [])], [(4, [])], [], [2], fun s => match s with
 | ⟨[(0, .v (.string a)), (22, .v (.bool b)), (4, .ptr 4 0), (2, .ptr 2 0)], [(4, .cells [.v (.bool c), .v (.bool d), .v (.bool e), .v (.string f), .v (.int .i64 g)]), (2, .cells [.top, .top, .top, .top, .top])]⟩ => (aZ.j0 k a b c d e f g).map aZ.enc
 | _ => none⟩
def aZ.p4 (k : Nat) : Pt := ⟨[.c [1, 1, 1, 1, 1, 0, 1, 0, 0, 1, 0, 0, 0, 1, 1, 1], .b 2, .b 1, .c [1, 1, 1, 1, 1, 0, 1, 0, 0, 1, 1], .l [1, 1, 1, 1, 1, 0, 1, 0, 0], .b 0, .c [1, 1, 1, 1, 1, 1]], [(0, none, []), (5, none, []), (6, none, []), (72, none, [])], [(4, [])], [], [2], fun s => match s with
 | ⟨[(0, .v (.string a)), (5, .v (.int .i64 b)), (6, .v (.int .i64 c)), (72, .v (.bool d)), (4, .ptr 4 0), (2, .ptr 2 0)], [(4, .cells [.v (.bool e), .v (.bool f), .v (.bool g), .v (.string i), .v (.int .i64 j)]), (2, .cells [.top, .top, .top, .top, .top])]⟩ => (aZ.j4 k a b c d e f g i j).map aZ.enc
 | _ => none⟩
def aZ.x23 (k : Nat) (x8 : Bool) (x5000 : Bool) (x5001 : Bool) (x5002 : Bool) (x5003 : ByteArray) (x5004 : Int) : Option AV := if x8 = true then (some (.tup [.agg [.v (.bool x5000), .v (.bool x5001), .v (.bool x5002), .v (.string x5003), .v (.int .i64 x5004)], .v (.bool (x5003.toList != (⟨#[]⟩ : ByteArray).toList))])) else (some (.tup [.agg [.v (.bool x5000), .v (.bool x5001), .v (.bool x5002), .v (.string x5003), .v (.int .i64 x5004)], .v (.bool false)]))
def aZ.q23 (k : Nat) : Pt := ⟨[.c [1, 1, 1, 1, 1, 0, 1, 0, 0, 1, 0, 0, 0, 1, 1, 1, 1, 1, 0, 1, 1, 0], .c [1, 1, 1, 1, 1, 0, 1, 0, 0, 1, 0, 0, 0, 1, 1, 1, 1, 1, 0, 1, 1, 1], .b 2, .b 1, .c [1, 1, 1, 1, 1, 0, 1, 0, 0, 1, 1], .l [1, 1, 1, 1, 1, 0, 1, 0, 0], .b 0, .c [1, 1, 1, 1, 1, 1]], [(8, none, [])], [(4, [])], [], [2], fun s => match s with
 | ⟨[(8, .v (.bool x8)), (4, .ptr 4 0), (2, .ptr 2 0)], [(4, .cells [.v (.bool x5000), .v (.bool x5001), .v (.bool x5002), .v (.string x5003), .v (.int .i64 x5004)]), (2, .cells [.top, .top, .top, .top, .top])]⟩ => aZ.x23 k x8 x5000 x5001 x5002 x5003 x5004
 | _ => none⟩
def aZ.x25 (k : Nat) (x5000 : Bool) (x5001 : Bool) (x5002 : Bool) (x5003 : ByteArray) (x5004 : Int) : Option AV := some (.tup [.agg [.v (.bool x5000), .v (.bool x5001), .v (.bool x5002), .v (.string x5003), .v (.int .i64 x5004)], .v (.bool (x5003.toList != (⟨#[]⟩ : ByteArray).toList))])
def aZ.q25 (k : Nat) : Pt := ⟨[.c [1, 1, 1, 1, 1, 1, 1, 0], .c [1, 1, 1, 1, 1, 1, 1, 1]], [], [(4, [])], [], [2], fun s => match s with
 | ⟨[(4, .ptr 4 0), (2, .ptr 2 0)], [(4, .cells [.v (.bool x5000), .v (.bool x5001), .v (.bool x5002), .v (.string x5003), .v (.int .i64 x5004)]), (2, .cells [.top, .top, .top, .top, .top])]⟩ => aZ.x25 k x5000 x5001 x5002 x5003 x5004
 | _ => none⟩
def aZ.E (k : Nat) : Env := ⟨120, tys, [(146, fF.app k), (147, jd.app), (148, bH.app k)], [(23, aZ.q23 k), (25, aZ.q25 k), (5, aZ.p0 k), (9, aZ.p1 k), (11, aZ.p2 k), (100022, aZ.p3 k), (100072, aZ.p4 k)], [(15, [0, 1, 2, 3, 4, 5, 6, 7, 8, 9])], false, [104, 4], false⟩
def fK.enc (r : Int) : AV := .v (.int .u64 r)
def fK.app : List AV → (AV → Option AV) → Option AV := fun l K => match l with
 | [.v (.int .i64 a), .v (.int .u64 b), .v (.int .u64 c), .v (.int .u64 d)] => (fK.f a b c d).bind fun r => K (fK.enc r)
 | _ => none
def fK.E : Env := ⟨31, tys, [(145, bT.app)], [], [], false, [22], false⟩
def jV.enc (r : Int) : AV := .v (.int .u64 r)
def jV.app : List AV → (AV → Option AV) → Option AV := fun l K => match l with
 | [.v (.int .i64 a)] => (jV.f a).bind fun r => K (jV.enc r)
 | _ => none
def jV.E : Env := ⟨22, tys, [(145, bT.app), (149, fK.app)], [], [], false, [22], false⟩
def jB.enc (r : Int) : AV := .v (.int .u64 r)
def jB.app : List AV → (AV → Option AV) → Option AV := fun l K => match l with
 | [.v (.int .i64 a), .v (.int .u64 b)] => (jB.f a b).bind fun r => K (jB.enc r)
 | _ => none
def jB.E : Env := ⟨20, tys, [(145, bT.app), (149, fK.app)], [], [], false, [22], false⟩
def bf.enc (r : List Int) : AV := .ro true .u64 r
def bf.app (k : Nat) : List AV → (AV → Option AV) → Option AV := fun l K => match l with
 | [.ro false .u64 a] => (bf.f k a).bind fun r => K (bf.enc r)
 | _ => none
def bf.p0 (k : Nat) : Pt := ⟨[.c [1, 1, 0, 1, 0, 0, 0, 0], .c [1, 1, 0, 1, 0, 0, 0, 1], .c [1, 1, 0, 1, 0, 0, 1], .l [1, 1, 0, 1, 0, 0], .b 0, .c [1, 1, 1]], [(0, some .u64, [false]), (4, none, []), (2, some .u64, [])], [], [(3, .u64, 22)], [], fun s => match s with
 | ⟨[(0, .ro false .u64 a), (4, .v (.int .i64 b)), (2, .ro true .u64 []), (3, .own 3)], [(3, .ints .u64 22 c)]⟩ => (bf.l0 k a c b).map bf.enc
 | _ => none⟩
def bf.E (k : Nat) : Env := ⟨37, tys, [(154, bK.app)], [(3, bf.p0 k)], [(5, [0, 1, 2, 3, 4, 5, 6, 7, 8, 9, 10, 11, 12, 13, 14, 15, 16, 17, 18, 19])], false, [73], false⟩
theorem bf.fok (k : Nat) : FO 150 f150 (dJ f150) (bf.E k) := fo fQ func150 ⟨bK.ok, trivial⟩
theorem bf.s0 : jJ f150 bf.E bf.p0 := fun k s r h => by
 dsimp only [bf.p0] at h
 split at h
 ·rename_i a b c
  rcases k with _ | k
  ·cases h
  exact ⟨k, rfl, via (if (decide (b < (a.length : Int))) = true then (if (2 : Int) = 0 then (none) else (if (2 : Int) = 0 then (none) else (if (0 : Int) ≤ wrap64 (Int.tdiv b 2) then (if (wrap64 (Int.tdiv b 2) : Int) < (c.length : Int) then (if (0 : Int) ≤ b then (if (b : Int) < (a.length : Int) then (if (2 : Int) = 0 then (none) else (if (0 : Int) ≤ IntKind.wrap .u64 (wrap64 (32 * (Int.tmod b 2))) then (if (0 : Int) ≤ wrap64 (Int.tdiv b 2) then (if (wrap64 (Int.tdiv b 2) : Int) < (c.length : Int) then ((bf.l0 k a (c.set (wrap64 (Int.tdiv b 2) : Int).toNat (Go.bits .or .u64 (rd c (wrap64 (Int.tdiv b 2))) (shl .u64 (rd a b) (IntKind.wrap .u64 (wrap64 (32 * (Int.tmod b 2))))))) (wrap64 (b + 1))).map bf.enc) else (none)) else (none)) else (none))) else (none)) else (none)) else (none)) else (none)))) else ((bK.f c).bind fun d => (some (.ro true .u64 d)))) (by rw [bf.l0] at h; exact Eq.trans (Eq.symm mt2) h)⟩
 ·cases h
theorem bf.pts : ∀ k, jE prog (dJ f150) (bf.E k) GOk (Fin prog f150) := iT stays mixed bf.fok [(3, bf.p0)] ⟨bf.s0, trivial⟩
theorem bf.ok (k : Nat) : AO 150 (bf.app k) := fA stays mixed (bf.fok k) (bf.pts k) fun l K r h => by
 dsimp only [bf.app] at h
 split at h
 ·rename_i a
  exact fin (enc := bf.enc) h rfl fun y h => by
   exact via (if (2 : Int) = 0 then (none) else (if (0 : Int) ≤ wrap64 (Int.tdiv (wrap64 ((a.length : Int) + 1)) 2) then (if (wrap64 (Int.tdiv (wrap64 ((a.length : Int) + 1)) 2) : Int).toNat * 8 ≤ 281474976710656 then ((bf.l0 k a (List.replicate (wrap64 (Int.tdiv (wrap64 ((a.length : Int) + 1)) 2) : Int).toNat 0) 0).map bf.enc) else (none)) else (none))) (by rw [bf.f] at h; exact Eq.trans (Eq.symm mt2) h)
 ·cases h
end Go.Proofs.YtafikkmnkeddpaaGreatDoor.P
set_option maxRecDepth 100000
namespace Go.Proofs.YtafikkmnkeddpaaGreatDoor.P
open Go.RowKit Go.Proofs.YtafikkmnkeddpaaGreatDoorW.PrintWords Go.Proofs.YtafikkmnkeddpaaGreatDoorW.PrintLast Go.Proofs.YtafikkmnkeddpaaGreatDoorW.PrintMore Go.Proofs.YtafikkmnkeddpaaGreatDoor.E Go.Proofs.Tryz
def bQ.enc (r : List Int × Int) : AV := .tup [.ro true .u64 r.1, .v (.int .i64 r.2)]
def bQ.app (k : Nat) : List AV → (AV → Option AV) → Option AV := fun l K => match l with
 | [.v (.string a)] => (bQ.f k a).bind fun r => K (bQ.enc r)
 | _ => none
def bQ.p0 (k : Nat) : Pt := ⟨[.c [1, 1, 1, 1, 1, 1, 0, 1, 0, 0, 0, 0], .c [1, 1, 1, 1, 1, 1, 0, 1, 0, 0, 0, 1], .c [1, 1, 1, 1, 1, 1, 0, 1, 0, 0, 1], .l [1, 1, 1, 1, 1, 1, 0, 1, 0, 0], .b 0, .c [1, 1, 1, 1, 1, 1, 1]], [(0, none, []), (5, none, []), (6, none, []), (7, none, [])], [], [(4, .u64, 22)], [], fun s => match s with
 | ⟨[(0, .v (.string a)), (5, .v (.int .u64 b)), (6, .v (.int .u64 c)), (7, .v (.int .i64 d)), (4, .own 4)], [(4, .ints .u64 22 e)]⟩ => (bQ.l0 k a e b c d).map bQ.enc
 | _ => none⟩
def bQ.p1 (k : Nat) : Pt := ⟨[.c [1, 1, 1, 1, 1, 1, 0, 1, 0, 0, 1, 0, 0, 1, 1, 1, 1, 0, 1, 0, 1, 0, 0, 0, 0], .c [1, 1, 1, 1, 1, 1, 0, 1, 0, 0, 1, 0, 0, 1, 1, 1, 1, 0, 1, 0, 1, 0, 0, 0, 1], .c [1, 1, 1, 1, 1, 1, 0, 1, 0, 0, 1, 0, 0, 1, 1, 1, 1, 0, 1, 0, 1, 0, 0, 1], .l [1, 1, 1, 1, 1, 1, 0, 1, 0, 0, 1, 0, 0, 1, 1, 1, 1, 0, 1, 0, 1, 0, 0], .b 2, .c [1, 1, 1, 1, 1, 1, 0, 1, 0, 0, 1, 0, 0, 1, 1, 1, 1, 0, 1, 1], .b 1, .c [1, 1, 1, 1, 1, 1, 0, 1, 0, 0, 1, 1], .l [1, 1, 1, 1, 1, 1, 0, 1, 0, 0], .b 0, .c [1, 1, 1, 1, 1, 1, 1]], [(0, none, []), (6, none, []), (7, none, []), (8, none, []), (9, none, [])], [], [(4, .u64, 22)], [], fun s => match s with
 | ⟨[(0, .v (.string a)), (6, .v (.int .u64 b)), (7, .v (.int .i64 c)), (8, .v (.int .u64 d)), (9, .v (.int .i64 e)), (4, .own 4)], [(4, .ints .u64 22 f)]⟩ => (bQ.l1 k a f b c d e).map bQ.enc
 | _ => none⟩
def bQ.p2 (k : Nat) : Pt := ⟨[.c [1, 1, 1, 1, 1, 1, 0, 1, 0, 0, 1, 0, 0, 0, 1], .c [1, 1, 1, 1, 1, 1, 0, 1, 0, 0, 1, 0, 0, 1], .b 1, .c [1, 1, 1, 1, 1, 1, 0, 1, 0, 0, 1, 1], .l [1, 1, 1, 1, 1, 1, 0, 1, 0, 0], .b 0, .c [1, 1, 1, 1, 1, 1, 1]], [(0, none, []), (5, none, []), (6, none, []), (7, none, []), (38, none, [])], [], [(4, .u64, 22)], [], fun s => match s with
 | ⟨[(0, .v (.string a)), (5, .v (.int .u64 b)), (6, .v (.int .u64 c)), (7, .v (.int .i64 d)), (38, .v (.bool e)), (4, .own 4)], [(4, .ints .u64 22 f)]⟩ => (bQ.j1 k a f b c d e).map bQ.enc
 | _ => none⟩
def bQ.p3 (k : Nat) : Pt := ⟨[.c [1, 1, 1, 1, 1, 1, 0, 1, 0, 0, 1, 0, 0, 1, 1, 1, 1], .b 1, .c [1, 1, 1, 1, 1, 1, 0, 1, 0, 0, 1, 1], .l [1, 1, 1, 1, 1, 1, 0, 1, 0, 0], .b 0, .c [1, 1, 1, 1, 1, 1, 1]], [(0, none, []), (5, none, []), (6, none, []), (7, none, []), (58, none, [])], [], [(4, .u64, 22)], [], fun s => match s with
 | ⟨[(0, .v (.string a)), (5, .v (.int .u64 b)), (6, .v (.int .u64 c)), (7, .v (.int .i64 d)), (58, .v (.bool e)), (4, .own 4)], [(4, .ints .u64 22 f)]⟩ => (bQ.j2 k a f b c d e).map bQ.enc
 | _ => none⟩
def bQ.E (k : Nat) : Env := ⟨93, tys, [(150, bf.app k)], [(9, bQ.p0 k), (18, bQ.p1 k), (100038, bQ.p2 k), (100058, bQ.p3 k)], [], false, [73, 3], false⟩
def jr.enc (r : Int) : AV := .v (.int .u64 r)
def jr.app : List AV → (AV → Option AV) → Option AV := fun l K => match l with
 | [.v (.int .i64 a), .v (.int .u64 b)] => (jr.f a b).bind fun r => K (jr.enc r)
 | _ => none
def jr.E : Env := ⟨8, tys, [(149, fK.app)], [], [], false, [22], false⟩
def aG.enc (r : Int) : AV := .v (.int .i64 r)
def aG.app (k : Nat) : List AV → (AV → Option AV) → Option AV := fun l K => match l with
 | [.ro false .u64 a] => (aG.f k a).bind fun r => K (aG.enc r)
 | _ => none
def aG.p0 (k : Nat) : Pt := ⟨[.c [1, 1, 0, 0, 0, 0, 0], .c [1, 1, 0, 0, 0, 0, 1], .c [1, 1, 0, 0, 0, 1], .l [1, 1, 0, 0, 0], .b 0, .c [1, 1, 1]], [(0, some .u64, [false]), (3, none, [])], [], [], [], fun s => match s with
 | ⟨[(0, .ro false .u64 a), (3, .v (.int .i64 b))], []⟩ => (aG.l0 k a b).map aG.enc
 | _ => none⟩
def aG.E (k : Nat) : Env := ⟨19, tys, [], [(2, aG.p0 k)], [], false, [3], false⟩
theorem aG.fok (k : Nat) : FO 151 f151 (dJ f151) (aG.E k) := fo fQ func151 trivial
theorem aG.s0 : jJ f151 aG.E aG.p0 := fun k s r h => by
 dsimp only [aG.p0] at h
 split at h
 ·rename_i a b
  rcases k with _ | k
  ·cases h
  exact ⟨k, rfl, via (if (decide (b > 0)) = true then (if (0 : Int) ≤ wrap64 (b - 1) then (if (wrap64 (b - 1) : Int) < (a.length : Int) then (if ((rd a (wrap64 (b - 1))) == 0) = true then ((aG.l0 k a (wrap64 (b - 1))).map aG.enc) else (some (.v (.int .i64 b)))) else (none)) else (none)) else (some (.v (.int .i64 b)))) (by rw [aG.l0] at h; exact Eq.trans (Eq.symm mt2) h)⟩
 ·cases h
theorem aG.pts : ∀ k, jE prog (dJ f151) (aG.E k) GOk (Fin prog f151) := iT stays mixed aG.fok [(2, aG.p0)] ⟨aG.s0, trivial⟩
theorem aG.ok (k : Nat) : AO 151 (aG.app k) := fA stays mixed (aG.fok k) (aG.pts k) fun l K r h => by
 dsimp only [aG.app] at h
 split at h
 ·rename_i a
  exact fin (enc := aG.enc) h rfl fun y h => by
   exact via ((aG.l0 k a (a.length : Int)).map aG.enc) (by rw [aG.f] at h; exact Eq.trans (Eq.symm mt2) h)
 ·cases h
def aQ.enc (r : List Int) : AV := .new 22 .u64 r
def aQ.app (k : Nat) : List AV → (AV → Option AV) → Option AV := fun l K => match l with
 | [.ro false .u64 a] => (aQ.f k a).bind fun r => K (aQ.enc r)
 | _ => none
def aQ.p0 (k : Nat) : Pt := ⟨[.c [1, 1, 1, 0, 1, 0, 0, 0, 0], .c [1, 1, 1, 0, 1, 0, 0, 0, 1], .c [1, 1, 1, 0, 1, 0, 0, 1], .l [1, 1, 1, 0, 1, 0, 0], .b 0, .c [1, 1, 1, 1]], [(0, some .u64, [false]), (3, none, []), (5, none, []), (2, some .u64, [])], [], [(4, .u64, 22)], [], fun s => match s with
 | ⟨[(0, .ro false .u64 a), (3, .v (.int .i64 b)), (5, .v (.int .i64 c)), (2, .ro true .u64 []), (4, .own 4)], [(4, .ints .u64 22 d)]⟩ => (aQ.l0 k a b d c).map aQ.enc
 | _ => none⟩
def aQ.E (k : Nat) : Env := ⟨36, tys, [(151, aG.app k)], [(4, aQ.p0 k)], [], false, [73], true⟩
theorem aQ.fok (k : Nat) : FO 152 f152 (dJ f152) (aQ.E k) := fo fQ func152 ⟨aG.ok k, trivial⟩
theorem aQ.s0 : jJ f152 aQ.E aQ.p0 := fun k s r h => by
 dsimp only [aQ.p0] at h
 split at h
 ·rename_i a b c d
  rcases k with _ | k
  ·cases h
  exact ⟨k, rfl, via (if (decide (c < b)) = true then (if (0 : Int) ≤ c then (if (c : Int) < (a.length : Int) then (if (0 : Int) ≤ wrap64 (2 * c) then (if (wrap64 (2 * c) : Int) < (d.length : Int) then (if (0 : Int) ≤ c then (if (c : Int) < (a.length : Int) then (if (0 : Int) ≤ 32 then (if (0 : Int) ≤ wrap64 ((wrap64 (2 * c)) + 1) then (if (wrap64 ((wrap64 (2 * c)) + 1) : Int) < ((d.set (wrap64 (2 * c) : Int).toNat (Go.bits .and .u64 (rd a c) 4294967295)).length : Int) then ((aQ.l0 k a b ((d.set (wrap64 (2 * c) : Int).toNat (Go.bits .and .u64 (rd a c) 4294967295)).set (wrap64 ((wrap64 (2 * c)) + 1) : Int).toNat (shr .u64 (rd a c) 32)) (wrap64 (c + 1))).map aQ.enc) else (none)) else (none)) else (none)) else (none)) else (none)) else (none)) else (none)) else (none)) else (none)) else (some (.new 22 .u64 d))) (by rw [aQ.l0] at h; exact Eq.trans (Eq.symm mt2) h)⟩
 ·cases h
theorem aQ.pts : ∀ k, jE prog (dJ f152) (aQ.E k) GOk (Fin prog f152) := iT stays mixed aQ.fok [(4, aQ.p0)] ⟨aQ.s0, trivial⟩
theorem aQ.ok (k : Nat) : AO 152 (aQ.app k) := fA stays mixed (aQ.fok k) (aQ.pts k) fun l K r h => by
 dsimp only [aQ.app] at h
 split at h
 ·rename_i a
  exact fin (enc := aQ.enc) h rfl fun y h => by
   exact via ((aG.f k a).bind fun b => (if (0 : Int) ≤ wrap64 (2 * b) then (if (wrap64 (2 * b) : Int).toNat * 8 ≤ 281474976710656 then ((aQ.l0 k a b (List.replicate (wrap64 (2 * b) : Int).toNat 0) 0).map aQ.enc) else (none)) else (none))) (by rw [aQ.f] at h; exact Eq.trans (Eq.symm mt2) h)
 ·cases h
def ah.enc (r : ByteArray × Int) : AV := .tup [.v (.string r.1), .v (.int .i64 r.2)]
def ah.app (k : Nat) : List AV → (AV → Option AV) → Option AV := fun l K => match l with
 | [.ro false .u64 a] => (ah.f k a).bind fun r => K (ah.enc r)
 | _ => none
def ah.p0 (k : Nat) : Pt := ⟨[.c [1, 1, 1, 1, 1, 1, 0, 0, 0, 0, 0], .c [1, 1, 1, 1, 1, 1, 0, 0, 0, 0, 1], .c [1, 1, 1, 1, 1, 1, 0, 0, 0, 1], .l [1, 1, 1, 1, 1, 1, 0, 0, 0], .b 0, .c [1, 1, 1, 1, 1, 1, 1]], [(6, none, [])], [], [(4, .u64, 22), (5, .u8, 5)], [], fun s => match s with
 | ⟨[(6, .v (.int .i64 a)), (4, .own 4), (5, .own 5)], [(4, .ints .u64 22 b), (5, .ints .u8 5 c)]⟩ => (ah.l0 k b c a).map ah.enc
 | _ => none⟩
def ah.p1 (k : Nat) : Pt := ⟨[.c [1, 1, 1, 1, 1, 1, 0, 0, 0, 1, 0, 1, 0, 1, 0, 0, 0, 0], .c [1, 1, 1, 1, 1, 1, 0, 0, 0, 1, 0, 1, 0, 1, 0, 0, 0, 1], .c [1, 1, 1, 1, 1, 1, 0, 0, 0, 1, 0, 1, 0, 1, 0, 0, 1], .l [1, 1, 1, 1, 1, 1, 0, 0, 0, 1, 0, 1, 0, 1, 0, 0], .b 2, .c [1, 1, 1, 1, 1, 1, 0, 0, 0, 1, 0, 1, 1], .b 1, .l [1, 1, 1, 1, 1, 1, 0, 0, 0], .b 0, .c [1, 1, 1, 1, 1, 1, 1]], [(6, none, []), (7, none, []), (8, none, [])], [], [(4, .u64, 22), (5, .u8, 5)], [], fun s => match s with
 | ⟨[(6, .v (.int .i64 a)), (7, .v (.int .u64 b)), (8, .v (.int .i64 c)), (4, .own 4), (5, .own 5)], [(4, .ints .u64 22 d), (5, .ints .u8 5 e)]⟩ => (ah.l1 k d e a b c).map ah.enc
 | _ => none⟩
def ah.p2 (k : Nat) : Pt := ⟨[.c [1, 1, 1, 1, 1, 1, 0, 0, 0, 1, 0, 1, 1, 0, 0, 0, 0, 0], .c [1, 1, 1, 1, 1, 1, 0, 0, 0, 1, 0, 1, 1, 0, 0, 0, 0, 1], .c [1, 1, 1, 1, 1, 1, 0, 0, 0, 1, 0, 1, 1, 0, 0, 0, 1], .l [1, 1, 1, 1, 1, 1, 0, 0, 0, 1, 0, 1, 1, 0, 0, 0], .b 4, .c [1, 1, 1, 1, 1, 1, 0, 0, 0, 1, 0, 1, 1, 1], .b 1, .l [1, 1, 1, 1, 1, 1, 0, 0, 0], .b 0, .c [1, 1, 1, 1, 1, 1, 1]], [(6, none, []), (7, none, [])], [], [(4, .u64, 22), (5, .u8, 5)], [], fun s => match s with
 | ⟨[(6, .v (.int .i64 a)), (7, .v (.int .u64 b)), (4, .own 4), (5, .own 5)], [(4, .ints .u64 22 c), (5, .ints .u8 5 d)]⟩ => (ah.l2 k c d a b).map ah.enc
 | _ => none⟩
def ah.p3 (k : Nat) : Pt := ⟨[.c [1, 1, 1, 1, 1, 1, 0, 0, 0, 1, 0, 1, 1, 1, 0], .c [1, 1, 1, 1, 1, 1, 0, 0, 0, 1, 0, 1, 1, 1, 1], .b 1, .l [1, 1, 1, 1, 1, 1, 0, 0, 0], .b 0, .c [1, 1, 1, 1, 1, 1, 1]], [(6, none, []), (7, none, [])], [], [(4, .u64, 22), (5, .u8, 5)], [], fun s => match s with
 | ⟨[(6, .v (.int .i64 a)), (7, .v (.int .u64 b)), (4, .own 4), (5, .own 5)], [(4, .ints .u64 22 c), (5, .ints .u8 5 d)]⟩ => (ah.j3 k c d a b).map ah.enc
 | _ => none⟩
def ah.p4 (k : Nat) : Pt := ⟨[.c [1, 1, 1, 1, 1, 1, 0, 0, 0, 1, 0, 1, 1, 1, 1, 0, 0, 0, 0], .c [1, 1, 1, 1, 1, 1, 0, 0, 0, 1, 0, 1, 1, 1, 1, 0, 0, 0, 1], .c [1, 1, 1, 1, 1, 1, 0, 0, 0, 1, 0, 1, 1, 1, 1, 0, 0, 1], .l [1, 1, 1, 1, 1, 1, 0, 0, 0, 1, 0, 1, 1, 1, 1, 0, 0], .b 6, .b 1, .l [1, 1, 1, 1, 1, 1, 0, 0, 0], .b 0, .c [1, 1, 1, 1, 1, 1, 1]], [(6, none, []), (7, none, []), (10, none, [])], [], [(4, .u64, 22), (5, .u8, 5)], [], fun s => match s with
 | ⟨[(6, .v (.int .i64 a)), (7, .v (.int .u64 b)), (10, .v (.int .i64 c)), (4, .own 4), (5, .own 5)], [(4, .ints .u64 22 d), (5, .ints .u8 5 e)]⟩ => (ah.l3 k d e a b c).map ah.enc
 | _ => none⟩
def ah.p5 (k : Nat) : Pt := ⟨[.c [1, 1, 1, 1, 1, 1, 1, 1, 0, 1, 0, 0, 0, 0], .c [1, 1, 1, 1, 1, 1, 1, 1, 0, 1, 0, 0, 0, 1], .c [1, 1, 1, 1, 1, 1, 1, 1, 0, 1, 0, 0, 1], .l [1, 1, 1, 1, 1, 1, 1, 1, 0, 1, 0, 0], .b 8, .c [1, 1, 1, 1, 1, 1, 1, 1, 1]], [(12, none, [])], [], [(5, .u8, 5), (11, .u8, 5)], [], fun s => match s with
 | ⟨[(12, .v (.int .i64 a)), (5, .own 5), (11, .own 11)], [(5, .ints .u8 5 b), (11, .ints .u8 5 c)]⟩ => (ah.l4 k b c a).map ah.enc
 | _ => none⟩
def ah.E (k : Nat) : Env := ⟨100, tys, [(151, aG.app k), (152, aQ.app k)], [(8, ah.p0 k), (11, ah.p1 k), (16, ah.p2 k), (18, ah.p3 k), (19, ah.p4 k), (25, ah.p5 k)], [], false, [9, 3], false⟩
theorem ah.fok (k : Nat) : FO 68 f68 (dJ f68) (ah.E k) := fo fQ func68 ⟨aG.ok k, ⟨aQ.ok k, trivial⟩⟩
theorem ah.s0 : jJ f68 ah.E ah.p0 := fun k s r h => by
 dsimp only [ah.p0] at h
 split at h
 ·rename_i a b c
  rcases k with _ | k
  ·cases h
  exact ⟨k, rfl, via (if (decide (a > 0)) = true then ((ah.l1 k b c a 0 (wrap64 (a - 1))).map ah.enc) else (if (0 : Int) ≤ (c.length : Int) then (if ((c.length : Int) : Int).toNat * 1 ≤ 281474976710656 then ((ah.l4 k c (List.replicate ((c.length : Int) : Int).toNat 0) 0).map ah.enc) else (none)) else (none))) (by rw [ah.l0] at h; exact Eq.trans (Eq.symm mt2) h)⟩
 ·cases h
theorem ah.s1 : jJ f68 ah.E ah.p1 := fun k s r h => by
 dsimp only [ah.p1] at h
 split at h
 ·rename_i a b c d e
  rcases k with _ | k
  ·cases h
  exact ⟨k, rfl, via (if (decide (c ≥ 0)) = true then (if (0 : Int) ≤ 32 then (if (0 : Int) ≤ c then (if (c : Int) < (d.length : Int) then (if (1000000000 : Int) = 0 then (none) else (if (0 : Int) ≤ c then (if (c : Int) < (d.length : Int) then (if (1000000000 : Int) = 0 then (none) else ((ah.l1 k (d.set (c : Int).toNat (IntKind.wrap .u64 (Int.tdiv (Go.bits .or .u64 (shl .u64 b 32) (rd d c)) 1000000000))) e a (Int.tmod (Go.bits .or .u64 (shl .u64 b 32) (rd d c)) 1000000000) (wrap64 (c - 1))).map ah.enc)) else (none)) else (none))) else (none)) else (none)) else (none)) else ((ah.l2 k d e a b).map ah.enc)) (by rw [ah.l1] at h; exact Eq.trans (Eq.symm mt2) h)⟩
 ·cases h
theorem ah.s2 : jJ f68 ah.E ah.p2 := fun k s r h => by
 dsimp only [ah.p2] at h
 split at h
 ·rename_i a b c d
  rcases k with _ | k
  ·cases h
  exact ⟨k, rfl, via (if (decide (a > 0)) = true then (if (0 : Int) ≤ wrap64 (a - 1) then (if (wrap64 (a - 1) : Int) < (c.length : Int) then (if ((rd c (wrap64 (a - 1))) == 0) = true then ((ah.l2 k c d (wrap64 (a - 1)) b).map ah.enc) else ((ah.j3 k c d a b).map ah.enc)) else (none)) else (none)) else ((ah.j3 k c d a b).map ah.enc)) (by rw [ah.l2] at h; exact Eq.trans (Eq.symm mt2) h)⟩
 ·cases h
theorem ah.s3 : jJ f68 ah.E ah.p3 := fun k s r h => by
 dsimp only [ah.p3] at h
 split at h
 ·rename_i a b c d
  rcases k with _ | k
  ·cases h
  exact ⟨k, rfl, via ((ah.l3 k c d a b 0).map ah.enc) (by rw [ah.j3] at h; exact Eq.trans (Eq.symm mt2) h)⟩
 ·cases h
theorem ah.s4 : jJ f68 ah.E ah.p4 := fun k s r h => by
 dsimp only [ah.p4] at h
 split at h
 ·rename_i a b c d e
  rcases k with _ | k
  ·cases h
  exact ⟨k, rfl, via (if (decide (c < 9)) = true then (if (decide (a > 0)) = false then (if (decide (b > 0)) = true then (if (10 : Int) = 0 then (none) else (if (e.length + ([(IntKind.wrap .u64 (48 + (Int.tmod b 10))) % 256] : List Int).length) * 1 ≤ 140737488355328 then (if (10 : Int) = 0 then (none) else ((ah.l3 k d (e ++ ([(IntKind.wrap .u64 (48 + (Int.tmod b 10))) % 256] : List Int)) a (IntKind.wrap .u64 (Int.tdiv b 10)) (wrap64 (c + 1))).map ah.enc)) else (none))) else ((ah.l0 k d e a).map ah.enc)) else (if (10 : Int) = 0 then (none) else (if (e.length + ([(IntKind.wrap .u64 (48 + (Int.tmod b 10))) % 256] : List Int).length) * 1 ≤ 140737488355328 then (if (10 : Int) = 0 then (none) else ((ah.l3 k d (e ++ ([(IntKind.wrap .u64 (48 + (Int.tmod b 10))) % 256] : List Int)) a (IntKind.wrap .u64 (Int.tdiv b 10)) (wrap64 (c + 1))).map ah.enc)) else (none)))) else ((ah.l0 k d e a).map ah.enc)) (by rw [ah.l3] at h; exact Eq.trans (Eq.symm mt2) h)⟩
 ·cases h
theorem ah.s5 : jJ f68 ah.E ah.p5 := fun k s r h => by
 dsimp only [ah.p5] at h
 split at h
 ·rename_i a b c
  rcases k with _ | k
  ·cases h
  exact ⟨k, rfl, via (if (decide (a < (b.length : Int))) = true then (if (0 : Int) ≤ wrap64 ((wrap64 ((b.length : Int) - 1)) - a) then (if (wrap64 ((wrap64 ((b.length : Int) - 1)) - a) : Int) < (b.length : Int) then (if (0 : Int) ≤ a then (if (a : Int) < (c.length : Int) then ((ah.l4 k b (c.set (a : Int).toNat (rd b (wrap64 ((wrap64 ((b.length : Int) - 1)) - a)))) (wrap64 (a + 1))).map ah.enc) else (none)) else (none)) else (none)) else (none)) else (some (.tup [.v (.string (strOfNums c)), .v (.int .i64 0)]))) (by rw [ah.l4] at h; exact Eq.trans (Eq.symm mt2) h)⟩
 ·cases h
theorem ah.pts : ∀ k, jE prog (dJ f68) (ah.E k) GOk (Fin prog f68) := iT stays mixed ah.fok [(8, ah.p0), (11, ah.p1), (16, ah.p2), (18, ah.p3), (19, ah.p4), (25, ah.p5)] ⟨ah.s0, ah.s1, ah.s2, ah.s3, ah.s4, ah.s5, trivial⟩
theorem ah.ok (k : Nat) : AO 68 (ah.app k) := fA stays mixed (ah.fok k) (ah.pts k) fun l K r h => by
 dsimp only [ah.app] at h
 split at h
 ·rename_i a
  exact fin (enc := ah.enc) h rfl fun y h => by
   exact via ((aG.f k a).bind fun b => (if (decide (b > 1024)) = true then (some (.tup [.v (.string (⟨#[]⟩ : ByteArray)), .v (.int .i64 5)])) else ((aG.f k a).bind fun c => (if (c == 0) = true then (some (.tup [.v (.string (⟨#[48]⟩ : ByteArray)), .v (.int .i64 0)])) else ((aQ.f k a).bind fun d => ((ah.l0 k d ([] : List Int) (d.length : Int)).map ah.enc)))))) (by rw [ah.f] at h; exact Eq.trans (Eq.symm mt2) h)
 ·cases h
def ak.enc (r : List Int) : AV := .ro true .u64 r
def ak.app (k : Nat) : List AV → (AV → Option AV) → Option AV := fun l K => match l with
 | [.ro false .u64 a, .ro false .u64 b] => (ak.f k a b).bind fun r => K (ak.enc r)
 | _ => none
def ak.p0 (k : Nat) : Pt := ⟨[.c [1, 1, 1, 1, 0, 1, 0, 0, 0, 0], .c [1, 1, 1, 1, 0, 1, 0, 0, 0, 1], .c [1, 1, 1, 1, 0, 1, 0, 0, 1], .l [1, 1, 1, 1, 0, 1, 0, 0], .b 0, .c [1, 1, 1, 1, 1]], [(5, some .u64, []), (6, some .u64, []), (8, none, []), (4, some .u64, [])], [], [(7, .u64, 22)], [], fun s => match s with
 | ⟨[(5, .ro true .u64 a), (6, .ro true .u64 b), (8, .v (.int .i64 c)), (4, .ro true .u64 []), (7, .own 7)], [(7, .ints .u64 22 d)]⟩ => (ak.l0 k a b d c).map ak.enc
 | _ => none⟩
def ak.p1 (k : Nat) : Pt := ⟨[.c [1, 1, 1, 1, 0, 1, 0, 0, 1, 0, 0, 1, 0, 1, 0, 0, 0, 0], .c [1, 1, 1, 1, 0, 1, 0, 0, 1, 0, 0, 1, 0, 1, 0, 0, 0, 1], .c [1, 1, 1, 1, 0, 1, 0, 0, 1, 0, 0, 1, 0, 1, 0, 0, 1], .l [1, 1, 1, 1, 0, 1, 0, 0, 1, 0, 0, 1, 0, 1, 0, 0], .b 2, .c [1, 1, 1, 1, 0, 1, 0, 0, 1, 0, 0, 1, 1], .b 1, .c [1, 1, 1, 1, 0, 1, 0, 0, 1, 1], .l [1, 1, 1, 1, 0, 1, 0, 0], .b 0, .c [1, 1, 1, 1, 1]], [(5, some .u64, []), (6, some .u64, []), (8, none, []), (9, none, []), (10, none, []), (4, some .u64, [])], [], [(7, .u64, 22)], [], fun s => match s with
 | ⟨[(5, .ro true .u64 a), (6, .ro true .u64 b), (8, .v (.int .i64 c)), (9, .v (.int .u64 d)), (10, .v (.int .i64 e)), (4, .ro true .u64 []), (7, .own 7)], [(7, .ints .u64 22 f)]⟩ => (ak.l1 k a b f c d e).map ak.enc
 | _ => none⟩
def ak.E (k : Nat) : Env := ⟨73, tys, [(152, aQ.app k), (150, bf.app k)], [(5, ak.p0 k), (9, ak.p1 k)], [(11, [0, 1, 2, 3, 4, 5, 6, 7, 8, 9, 10, 11, 12, 13, 14, 15, 16, 17, 18])], false, [73], false⟩
theorem ak.fok (k : Nat) : FO 153 f153 (dJ f153) (ak.E k) := fo fQ func153 ⟨aQ.ok k, ⟨bf.ok k, trivial⟩⟩
theorem ak.s0 : jJ f153 ak.E ak.p0 := fun k s r h => by
 dsimp only [ak.p0] at h
 split at h
 ·rename_i a b c d
  rcases k with _ | k
  ·cases h
  exact ⟨k, rfl, via (if (decide (c < (a.length : Int))) = true then ((ak.l1 k a b d c 0 0).map ak.enc) else ((bf.f k d).bind fun e => (some (.ro true .u64 e)))) (by rw [ak.l0] at h; exact Eq.trans (Eq.symm mt2) h)⟩
 ·cases h
theorem ak.s1 : jJ f153 ak.E ak.p1 := fun k s r h => by
 dsimp only [ak.p1] at h
 split at h
 ·rename_i a b c d e f
  rcases k with _ | k
  ·cases h
  exact ⟨k, rfl, via (if (decide (e < (b.length : Int))) = true then (if (0 : Int) ≤ c then (if (c : Int) < (a.length : Int) then (if (0 : Int) ≤ e then (if (e : Int) < (b.length : Int) then (if (0 : Int) ≤ wrap64 (c + e) then (if (wrap64 (c + e) : Int) < (f.length : Int) then (if (0 : Int) ≤ wrap64 (c + e) then (if (wrap64 (c + e) : Int) < (f.length : Int) then (if (0 : Int) ≤ 32 then ((ak.l1 k a b (f.set (wrap64 (c + e) : Int).toNat (Go.bits .and .u64 (IntKind.wrap .u64 ((IntKind.wrap .u64 ((IntKind.wrap .u64 ((rd a c) * (rd b e))) + (rd f (wrap64 (c + e))))) + d)) 4294967295)) c (shr .u64 (IntKind.wrap .u64 ((IntKind.wrap .u64 ((IntKind.wrap .u64 ((rd a c) * (rd b e))) + (rd f (wrap64 (c + e))))) + d)) 32) (wrap64 (e + 1))).map ak.enc) else (none)) else (none)) else (none)) else (none)) else (none)) else (none)) else (none)) else (none)) else (none)) else (if (decide ((b.length : Int) > 0)) = true then (if (0 : Int) ≤ wrap64 (c + (b.length : Int)) then (if (wrap64 (c + (b.length : Int)) : Int) < (f.length : Int) then ((ak.l0 k a b (f.set (wrap64 (c + (b.length : Int)) : Int).toNat d) (wrap64 (c + 1))).map ak.enc) else (none)) else (none)) else ((ak.l0 k a b f (wrap64 (c + 1))).map ak.enc))) (by rw [ak.l1] at h; exact Eq.trans (Eq.symm mt2) h)⟩
 ·cases h
theorem ak.pts : ∀ k, jE prog (dJ f153) (ak.E k) GOk (Fin prog f153) := iT stays mixed ak.fok [(5, ak.p0), (9, ak.p1)] ⟨ak.s0, ak.s1, trivial⟩
theorem ak.ok (k : Nat) : AO 153 (ak.app k) := fA stays mixed (ak.fok k) (ak.pts k) fun l K r h => by
 dsimp only [ak.app] at h
 split at h
 ·rename_i a b
  exact fin (enc := ak.enc) h rfl fun y h => by
   exact via ((aQ.f k a).bind fun c => ((aQ.f k b).bind fun d => (if (0 : Int) ≤ wrap64 ((c.length : Int) + (d.length : Int)) then (if (wrap64 ((c.length : Int) + (d.length : Int)) : Int).toNat * 8 ≤ 281474976710656 then ((ak.l0 k c d (List.replicate (wrap64 ((c.length : Int) + (d.length : Int)) : Int).toNat 0) 0).map ak.enc) else (none)) else (none)))) (by rw [ak.f] at h; exact Eq.trans (Eq.symm mt2) h)
 ·cases h
def bZ.enc (r : List Int) : AV := .ro true .u64 r
def bZ.app (k : Nat) : List AV → (AV → Option AV) → Option AV := fun l K => match l with
 | [.ro false .u64 a, .ro false .u64 b] => (bZ.f k a b).bind fun r => K (bZ.enc r)
 | _ => none
def bZ.E (k : Nat) : Env := ⟨8, tys, [(153, ak.app k)], [], [], false, [73], false⟩
theorem bZ.fok (k : Nat) : FO 69 f69 (dJ f69) (bZ.E k) := fo fQ func69 ⟨ak.ok k, trivial⟩
theorem bZ.ok (k : Nat) : AO 69 (bZ.app k) := fA stays mixed (bZ.fok k) (eG rfl) fun l K r h => by
 dsimp only [bZ.app] at h
 split at h
 ·rename_i a b
  exact fin (enc := bZ.enc) h rfl fun y h => by
   exact via ((ak.f k a b).bind fun c => (some (.ro true .u64 c))) (by rw [bZ.f] at h; exact Eq.trans (Eq.symm mt2) h)
 ·cases h
def au.enc (r : List Int × Int) : AV := .tup [.ro true .u64 r.1, .v (.int .i64 r.2)]
def au.app (k : Nat) : List AV → (AV → Option AV) → Option AV := fun l K => match l with
 | [.v (.int .u64 a), .v (.int .i64 b)] => (au.f k a b).bind fun r => K (au.enc r)
 | _ => none
def au.p0 (k : Nat) : Pt := ⟨[.c [1, 1, 1, 0, 1, 0, 0, 0, 0], .c [1, 1, 1, 0, 1, 0, 0, 0, 1], .c [1, 1, 1, 0, 1, 0, 0, 1], .l [1, 1, 1, 0, 1, 0, 0], .b 0, .c [1, 1, 1, 1]], [(0, none, []), (1, none, []), (6, some .u64, []), (7, none, [])], [], [], [], fun s => match s with
 | ⟨[(0, .v (.int .u64 a)), (1, .v (.int .i64 b)), (6, .ro true .u64 c), (7, .v (.int .i64 d))], []⟩ => (au.l0 k a b c d).map au.enc
 | _ => none⟩
def au.p1 (k : Nat) : Pt := ⟨[.c [1, 0, 1], .c [1, 1]], [(0, none, []), (1, none, []), (13, none, [])], [], [], [], fun s => match s with
 | ⟨[(0, .v (.int .u64 a)), (1, .v (.int .i64 b)), (13, .v (.bool c))], []⟩ => (au.j0 k a b c).map au.enc
 | _ => none⟩
def au.p2 (k : Nat) : Pt := ⟨[.c [1, 1, 1, 0, 1, 0, 0, 0, 1], .c [1, 1, 1, 0, 1, 0, 0, 1], .l [1, 1, 1, 0, 1, 0, 0], .b 0, .c [1, 1, 1, 1]], [(0, none, []), (1, none, []), (6, some .u64, []), (7, none, []), (21, none, [])], [], [], [], fun s => match s with
 | ⟨[(0, .v (.int .u64 a)), (1, .v (.int .i64 b)), (6, .ro true .u64 c), (7, .v (.int .i64 d)), (21, .v (.bool e))], []⟩ => (au.j2 k a b c d e).map au.enc
 | _ => none⟩
def au.E (k : Nat) : Env := ⟨36, tys, [(153, ak.app k)], [(5, au.p0 k), (100013, au.p1 k), (100021, au.p2 k)], [], false, [73, 3], false⟩
theorem au.fok (k : Nat) : FO 95 f95 (dJ f95) (au.E k) := fo fQ func95 ⟨ak.ok k, trivial⟩
theorem au.s0 : jJ f95 au.E au.p0 := fun k s r h => by
 dsimp only [au.p0] at h
 split at h
 ·rename_i a b c d
  rcases k with _ | k
  ·cases h
  exact ⟨k, rfl, via (if (decide (d < b)) = true then ((au.j2 k a b c d (a != 1)).map au.enc) else ((au.j2 k a b c d false).map au.enc)) (by rw [au.l0] at h; exact Eq.trans (Eq.symm mt2) h)⟩
 ·cases h
theorem au.s1 : jJ f95 au.E au.p1 := fun k s r h => by
 dsimp only [au.p1] at h
 split at h
 ·rename_i a b c
  rcases k with _ | k
  ·cases h
  exact ⟨k, rfl, via (if c = true then (some (.tup [.ro true .u64 ([] : List Int), .v (.int .i64 7)])) else ((au.l0 k a b ([1] : List Int) 0).map au.enc)) (by rw [au.j0] at h; exact Eq.trans (Eq.symm mt2) h)⟩
 ·cases h
theorem au.s2 : jJ f95 au.E au.p2 := fun k s r h => by
 dsimp only [au.p2] at h
 split at h
 ·rename_i a b c d e
  rcases k with _ | k
  ·cases h
  exact ⟨k, rfl, via (if e = true then ((ak.f k c ([a] : List Int)).bind fun f => (if (decide ((f.length : Int) > 1024)) = true then (some (.tup [.ro true .u64 ([] : List Int), .v (.int .i64 5)])) else (if ((f.length : Int) == 0) = true then (some (.tup [.ro true .u64 f, .v (.int .i64 0)])) else ((au.l0 k a b f (wrap64 (d + 1))).map au.enc)))) else (some (.tup [.ro true .u64 c, .v (.int .i64 0)]))) (by rw [au.j2] at h; exact Eq.trans (Eq.symm mt2) h)⟩
 ·cases h
theorem au.pts : ∀ k, jE prog (dJ f95) (au.E k) GOk (Fin prog f95) := iT stays mixed au.fok [(5, au.p0), (100013, au.p1), (100021, au.p2)] ⟨au.s0, au.s1, au.s2, trivial⟩
theorem au.ok (k : Nat) : AO 95 (au.app k) := fA stays mixed (au.fok k) (au.pts k) fun l K r h => by
 dsimp only [au.app] at h
 split at h
 ·rename_i a b
  exact fin (enc := au.enc) h rfl fun y h => by
   exact via (if (decide (b < 0)) = false then ((au.j0 k a b (decide (b > 20000))).map au.enc) else ((au.j0 k a b true).map au.enc)) (by rw [au.f] at h; exact Eq.trans (Eq.symm mt2) h)
 ·cases h
def dR.enc (r : List Int) : AV := .ro true .u64 r
def dR.app (k : Nat) : List AV → (AV → Option AV) → Option AV := fun l K => match l with
 | [.v (.int .i64 a)] => (dR.f k a).bind fun r => K (dR.enc r)
 | _ => none
def dR.E (k : Nat) : Env := ⟨11, tys, [(95, au.app k)], [], [], false, [73], false⟩
theorem dR.fok (k : Nat) : FO 70 f70 (dJ f70) (dR.E k) := fo fQ func70 ⟨au.ok k, trivial⟩
theorem dR.ok (k : Nat) : AO 70 (dR.app k) := fA stays mixed (dR.fok k) (eG rfl) fun l K r h => by
 dsimp only [dR.app] at h
 split at h
 ·rename_i a
  exact fin (enc := dR.enc) h rfl fun y h => by
   exact via ((au.f k 10 a).bind fun b => (some (.ro true .u64 b.1))) (by rw [dR.f] at h; exact Eq.trans (Eq.symm mt2) h)
 ·cases h
def aW.enc (r : Int) : AV := .v (.int .i64 r)
def aW.app (k : Nat) : List AV → (AV → Option AV) → Option AV := fun l K => match l with
 | [.ro false .u64 a] => (aW.f k a).bind fun r => K (aW.enc r)
 | _ => none
def aW.p0 (k : Nat) : Pt := ⟨[.c [1, 1, 1, 1, 0, 1, 0, 0, 0, 0], .c [1, 1, 1, 1, 0, 1, 0, 0, 0, 1], .c [1, 1, 1, 1, 0, 1, 0, 0, 1], .l [1, 1, 1, 1, 0, 1, 0, 0], .b 0, .c [1, 1, 1, 1, 1]], [(3, none, []), (4, none, []), (5, none, [])], [], [], [], fun s => match s with
 | ⟨[(3, .v (.int .i64 a)), (4, .v (.int .i64 b)), (5, .v (.int .u64 c))], []⟩ => (aW.l0 k a b c).map aW.enc
 | _ => none⟩
def aW.E (k : Nat) : Env := ⟨26, tys, [(151, aG.app k)], [(6, aW.p0 k)], [], false, [3], false⟩
theorem aW.fok (k : Nat) : FO 94 f94 (dJ f94) (aW.E k) := fo fQ func94 ⟨aG.ok k, trivial⟩
theorem aW.s0 : jJ f94 aW.E aW.p0 := fun k s r h => by
 dsimp only [aW.p0] at h
 split at h
 ·rename_i a b c
  rcases k with _ | k
  ·cases h
  exact ⟨k, rfl, via (if (decide (c > 0)) = true then (if (0 : Int) ≤ 1 then ((aW.l0 k a (wrap64 (b + 1)) (shr .u64 c 1)).map aW.enc) else (none)) else (some (.v (.int .i64 (wrap64 ((wrap64 (64 * (wrap64 (a - 1)))) + b)))))) (by rw [aW.l0] at h; exact Eq.trans (Eq.symm mt2) h)⟩
 ·cases h
theorem aW.pts : ∀ k, jE prog (dJ f94) (aW.E k) GOk (Fin prog f94) := iT stays mixed aW.fok [(6, aW.p0)] ⟨aW.s0, trivial⟩
theorem aW.ok (k : Nat) : AO 94 (aW.app k) := fA stays mixed (aW.fok k) (aW.pts k) fun l K r h => by
 dsimp only [aW.app] at h
 split at h
 ·rename_i a
  exact fin (enc := aW.enc) h rfl fun y h => by
   exact via ((aG.f k a).bind fun b => (if (b == 0) = true then (some (.v (.int .i64 0))) else (if (0 : Int) ≤ wrap64 (b - 1) then (if (wrap64 (b - 1) : Int) < (a.length : Int) then ((aW.l0 k b 0 (rd a (wrap64 (b - 1)))).map aW.enc) else (none)) else (none)))) (by rw [aW.f] at h; exact Eq.trans (Eq.symm mt2) h)
 ·cases h
def iC.enc (r : Int) : AV := .v (.int .u64 r)
def iC.app : List AV → (AV → Option AV) → Option AV := fun l K => match l with
 | [.v (.bool a)] => (iC.f a).bind fun r => K (iC.enc r)
 | _ => none
def iC.E : Env := ⟨4, tys, [], [], [], false, [22], false⟩
def bJ.enc (r : List Int) : AV := .ro true .u64 r
def bJ.app (k : Nat) : List AV → (AV → Option AV) → Option AV := fun l K => match l with
 | [.ro false .u64 a, .v (.int .i64 b)] => (bJ.f k a b).bind fun r => K (bJ.enc r)
 | _ => none
def bJ.p0 (k : Nat) : Pt := ⟨[.c [1, 1, 1, 0, 1, 0, 0, 0, 0], .c [1, 1, 1, 0, 1, 0, 0, 0, 1], .c [1, 1, 1, 0, 1, 0, 0, 1], .l [1, 1, 1, 0, 1, 0, 0], .b 0, .c [1, 1, 1, 1]], [(0, some .u64, [false]), (1, none, []), (5, none, []), (7, none, []), (4, some .u64, [])], [], [(6, .u64, 22)], [], fun s => match s with
 | ⟨[(0, .ro false .u64 a), (1, .v (.int .i64 b)), (5, .v (.int .i64 c)), (7, .v (.int .i64 d)), (4, .ro true .u64 []), (6, .own 6)], [(6, .ints .u64 22 e)]⟩ => (bJ.l0 k a b c e d).map bJ.enc
 | _ => none⟩
def bJ.E (k : Nat) : Env := ⟨64, tys, [(151, aG.app k), (154, bK.app)], [(4, bJ.p0 k)], [(6, [0, 1, 2, 3, 4, 5, 6, 7, 8, 9, 10, 11, 12, 13, 14, 15, 16, 17, 18, 19, 20, 21, 22])], false, [73], false⟩
theorem bJ.fok (k : Nat) : FO 219 f219 (dJ f219) (bJ.E k) := fo fQ func219 ⟨aG.ok k, ⟨bK.ok, trivial⟩⟩
theorem bJ.s0 : jJ f219 bJ.E bJ.p0 := fun k s r h => by
 dsimp only [bJ.p0] at h
 split at h
 ·rename_i a b c d e
  rcases k with _ | k
  ·cases h
  exact ⟨k, rfl, via (if (decide (d < c)) = true then (if (64 : Int) = 0 then (none) else (if (64 : Int) = 0 then (none) else (if (0 : Int) ≤ wrap64 (d + (wrap64 (Int.tdiv b 64))) then (if (wrap64 (d + (wrap64 (Int.tdiv b 64))) : Int) < (e.length : Int) then (if (0 : Int) ≤ d then (if (d : Int) < (a.length : Int) then (if (64 : Int) = 0 then (none) else (if (0 : Int) ≤ IntKind.wrap .u64 (Int.tmod b 64) then (if (0 : Int) ≤ wrap64 (d + (wrap64 (Int.tdiv b 64))) then (if (wrap64 (d + (wrap64 (Int.tdiv b 64))) : Int) < (e.length : Int) then (if (64 : Int) = 0 then (none) else (if (decide ((Int.tmod b 64) > 0)) = true then (if (64 : Int) = 0 then (none) else (if (0 : Int) ≤ d then (if (d : Int) < (a.length : Int) then (if (64 : Int) = 0 then (none) else (if (0 : Int) ≤ IntKind.wrap .u64 (wrap64 (64 - (Int.tmod b 64))) then (if (0 : Int) ≤ wrap64 ((wrap64 (d + (wrap64 (Int.tdiv b 64)))) + 1) then (if (wrap64 ((wrap64 (d + (wrap64 (Int.tdiv b 64)))) + 1) : Int) < ((e.set (wrap64 (d + (wrap64 (Int.tdiv b 64))) : Int).toNat (Go.bits .or .u64 (rd e (wrap64 (d + (wrap64 (Int.tdiv b 64))))) (shl .u64 (rd a d) (IntKind.wrap .u64 (Int.tmod b 64))))).length : Int) then ((bJ.l0 k a b c ((e.set (wrap64 (d + (wrap64 (Int.tdiv b 64))) : Int).toNat (Go.bits .or .u64 (rd e (wrap64 (d + (wrap64 (Int.tdiv b 64))))) (shl .u64 (rd a d) (IntKind.wrap .u64 (Int.tmod b 64))))).set (wrap64 ((wrap64 (d + (wrap64 (Int.tdiv b 64)))) + 1) : Int).toNat (shr .u64 (rd a d) (IntKind.wrap .u64 (wrap64 (64 - (Int.tmod b 64)))))) (wrap64 (d + 1))).map bJ.enc) else (none)) else (none)) else (none))) else (none)) else (none))) else ((bJ.l0 k a b c (e.set (wrap64 (d + (wrap64 (Int.tdiv b 64))) : Int).toNat (Go.bits .or .u64 (rd e (wrap64 (d + (wrap64 (Int.tdiv b 64))))) (shl .u64 (rd a d) (IntKind.wrap .u64 (Int.tmod b 64))))) (wrap64 (d + 1))).map bJ.enc))) else (none)) else (none)) else (none))) else (none)) else (none)) else (none)) else (none)))) else ((bK.f e).bind fun f => (some (.ro true .u64 f)))) (by rw [bJ.l0] at h; exact Eq.trans (Eq.symm mt2) h)⟩
 ·cases h
theorem bJ.pts : ∀ k, jE prog (dJ f219) (bJ.E k) GOk (Fin prog f219) := iT stays mixed bJ.fok [(4, bJ.p0)] ⟨bJ.s0, trivial⟩
theorem bJ.ok (k : Nat) : AO 219 (bJ.app k) := fA stays mixed (bJ.fok k) (bJ.pts k) fun l K r h => by
 dsimp only [bJ.app] at h
 split at h
 ·rename_i a b
  exact fin (enc := bJ.enc) h rfl fun y h => by
   exact via ((aG.f k a).bind fun c => (if (64 : Int) = 0 then (none) else (if (0 : Int) ≤ wrap64 ((wrap64 (c + (wrap64 (Int.tdiv b 64)))) + 1) then (if (wrap64 ((wrap64 (c + (wrap64 (Int.tdiv b 64)))) + 1) : Int).toNat * 8 ≤ 281474976710656 then ((bJ.l0 k a b c (List.replicate (wrap64 ((wrap64 (c + (wrap64 (Int.tdiv b 64)))) + 1) : Int).toNat 0) 0).map bJ.enc) else (none)) else (none)))) (by rw [bJ.f] at h; exact Eq.trans (Eq.symm mt2) h)
 ·cases h
def dL.enc (r : List Int) : AV := .ro true .u64 r
def dL.app (k : Nat) : List AV → (AV → Option AV) → Option AV := fun l K => match l with
 | [.ro false .u64 a, .v (.int .i64 b)] => (dL.f k a b).bind fun r => K (dL.enc r)
 | _ => none
def dL.E (k : Nat) : Env := ⟨8, tys, [(219, bJ.app k)], [], [], false, [73], false⟩
theorem dL.fok (k : Nat) : FO 166 f166 (dJ f166) (dL.E k) := fo fQ func166 ⟨bJ.ok k, trivial⟩
theorem dL.ok (k : Nat) : AO 166 (dL.app k) := fA stays mixed (dL.fok k) (eG rfl) fun l K r h => by
 dsimp only [dL.app] at h
 split at h
 ·rename_i a b
  exact fin (enc := dL.enc) h rfl fun y h => by
   exact via ((bJ.f k a b).bind fun c => (some (.ro true .u64 c))) (by rw [dL.f] at h; exact Eq.trans (Eq.symm mt2) h)
 ·cases h
def d_.enc (r : Int) : AV := .v (.int .u64 r)
def d_.app : List AV → (AV → Option AV) → Option AV := fun l K => match l with
 | [.ro false .u64 a, .v (.int .i64 b)] => (d_.f a b).bind fun r => K (d_.enc r)
 | _ => none
def d_.E : Env := ⟨13, tys, [], [], [], false, [22], false⟩
theorem d_.fok : FO 169 f169 (dJ f169) (d_.E) := fo fQ func169 trivial
theorem d_.ok : AO 169 (d_.app) := fA stays mixed (d_.fok) (eG rfl) fun l K r h => by
 dsimp only [d_.app] at h
 split at h
 ·rename_i a b
  exact fin (enc := d_.enc) h rfl fun y h => by
   exact via (if (decide (b < (a.length : Int))) = true then (if (0 : Int) ≤ b then (if (b : Int) < (a.length : Int) then (some (.v (.int .u64 (rd a b)))) else (none)) else (none)) else (some (.v (.int .u64 0)))) (by rw [d_.f] at h; exact Eq.trans (Eq.symm mt2) h)
 ·cases h
def aj.enc (r : List Int) : AV := .ro true .u64 r
def aj.app (k : Nat) : List AV → (AV → Option AV) → Option AV := fun l K => match l with
 | [.ro false .u64 a, .ro false .u64 b] => (aj.f k a b).bind fun r => K (aj.enc r)
 | _ => none
def aj.p0 (k : Nat) : Pt := ⟨[.c [1, 1, 1, 0], .c [1, 1, 1, 1]], [(0, some .u64, [false]), (1, some .u64, [false]), (5, none, [])], [], [], [], fun s => match s with
 | ⟨[(0, .ro false .u64 a), (1, .ro false .u64 b), (5, .v (.int .i64 c))], []⟩ => (aj.j0 k a b c).map aj.enc
 | _ => none⟩
def aj.p1 (k : Nat) : Pt := ⟨[.c [1, 1, 1, 1, 1, 0, 1, 0, 0, 0, 0], .c [1, 1, 1, 1, 1, 0, 1, 0, 0, 0, 1], .c [1, 1, 1, 1, 1, 0, 1, 0, 0, 1], .l [1, 1, 1, 1, 1, 0, 1, 0, 0], .b 0, .c [1, 1, 1, 1, 1, 1]], [(0, some .u64, [false]), (1, some .u64, [false]), (5, none, []), (7, none, []), (8, none, [])], [], [(6, .u64, 22)], [], fun s => match s with
 | ⟨[(0, .ro false .u64 a), (1, .ro false .u64 b), (5, .v (.int .i64 c)), (7, .v (.int .u64 d)), (8, .v (.int .i64 e)), (6, .own 6)], [(6, .ints .u64 22 f)]⟩ => (aj.l0 k a b c f d e).map aj.enc
 | _ => none⟩
def aj.E (k : Nat) : Env := ⟨57, tys, [(151, aG.app k), (169, d_.app), (154, bK.app)], [(4, aj.p0 k), (7, aj.p1 k)], [], false, [73], false⟩
theorem aj.fok (k : Nat) : FO 84 f84 (dJ f84) (aj.E k) := fo fQ func84 ⟨aG.ok k, ⟨d_.ok, ⟨bK.ok, trivial⟩⟩⟩
theorem aj.s0 : jJ f84 aj.E aj.p0 := fun k s r h => by
 dsimp only [aj.p0] at h
 split at h
 ·rename_i a b c
  rcases k with _ | k
  ·cases h
  exact ⟨k, rfl, via (if (0 : Int) ≤ wrap64 (c + 1) then (if (wrap64 (c + 1) : Int).toNat * 8 ≤ 281474976710656 then ((aj.l0 k a b c (List.replicate (wrap64 (c + 1) : Int).toNat 0) 0 0).map aj.enc) else (none)) else (none)) (by rw [aj.j0] at h; exact Eq.trans (Eq.symm mt2) h)⟩
 ·cases h
theorem aj.s1 : jJ f84 aj.E aj.p1 := fun k s r h => by
 dsimp only [aj.p1] at h
 split at h
 ·rename_i a b c d e f
  rcases k with _ | k
  ·cases h
  exact ⟨k, rfl, via (if (decide (e < c)) = true then ((d_.f a e).bind fun g => ((d_.f b e).bind fun i => (if (decide ((IntKind.wrap .u64 (g + i)) < g)) = false then (if (decide ((IntKind.wrap .u64 ((IntKind.wrap .u64 (g + i)) + d)) < (IntKind.wrap .u64 (g + i)))) = true then (if (0 : Int) ≤ e then (if (e : Int) < (f.length : Int) then ((aj.l0 k a b c (f.set (e : Int).toNat (IntKind.wrap .u64 ((IntKind.wrap .u64 (g + i)) + d))) 1 (wrap64 (e + 1))).map aj.enc) else (none)) else (none)) else (if (0 : Int) ≤ e then (if (e : Int) < (f.length : Int) then ((aj.l0 k a b c (f.set (e : Int).toNat (IntKind.wrap .u64 ((IntKind.wrap .u64 (g + i)) + d))) 0 (wrap64 (e + 1))).map aj.enc) else (none)) else (none))) else (if (0 : Int) ≤ e then (if (e : Int) < (f.length : Int) then ((aj.l0 k a b c (f.set (e : Int).toNat (IntKind.wrap .u64 ((IntKind.wrap .u64 (g + i)) + d))) 1 (wrap64 (e + 1))).map aj.enc) else (none)) else (none))))) else (if (0 : Int) ≤ c then (if (c : Int) < (f.length : Int) then ((bK.f (f.set (c : Int).toNat d)).bind fun j => (some (.ro true .u64 j))) else (none)) else (none))) (by rw [aj.l0] at h; exact Eq.trans (Eq.symm mt2) h)⟩
 ·cases h
theorem aj.pts : ∀ k, jE prog (dJ f84) (aj.E k) GOk (Fin prog f84) := iT stays mixed aj.fok [(4, aj.p0), (7, aj.p1)] ⟨aj.s0, aj.s1, trivial⟩
theorem aj.ok (k : Nat) : AO 84 (aj.app k) := fA stays mixed (aj.fok k) (aj.pts k) fun l K r h => by
 dsimp only [aj.app] at h
 split at h
 ·rename_i a b
  exact fin (enc := aj.enc) h rfl fun y h => by
   exact via ((aG.f k a).bind fun c => ((aG.f k b).bind fun d => (if (decide (d > c)) = true then ((aG.f k b).bind fun e => ((aj.j0 k a b e).map aj.enc)) else ((aj.j0 k a b c).map aj.enc)))) (by rw [aj.f] at h; exact Eq.trans (Eq.symm mt2) h)
 ·cases h
def aU.enc (r : Int) : AV := .v (.int .i64 r)
def aU.app (k : Nat) : List AV → (AV → Option AV) → Option AV := fun l K => match l with
 | [.ro false .u64 a, .ro false .u64 b] => (aU.f k a b).bind fun r => K (aU.enc r)
 | _ => none
def aU.p0 (k : Nat) : Pt := ⟨[.c [1, 1, 1, 1, 0, 1, 0, 0, 0, 0], .c [1, 1, 1, 1, 0, 1, 0, 0, 0, 1], .c [1, 1, 1, 1, 0, 1, 0, 0, 1], .l [1, 1, 1, 1, 0, 1, 0, 0], .b 0, .c [1, 1, 1, 1, 1]], [(0, some .u64, [false]), (1, some .u64, [false]), (7, none, [])], [], [], [], fun s => match s with
 | ⟨[(0, .ro false .u64 a), (1, .ro false .u64 b), (7, .v (.int .i64 c))], []⟩ => (aU.l0 k a b c).map aU.enc
 | _ => none⟩
def aU.E (k : Nat) : Env := ⟨42, tys, [(151, aG.app k)], [(8, aU.p0 k)], [(10, [0, 1, 2, 3, 4, 5, 6, 7, 8]), (12, [0, 1, 2, 3, 4, 5, 6, 7, 8])], false, [3], false⟩
theorem aU.fok (k : Nat) : FO 168 f168 (dJ f168) (aU.E k) := fo fQ func168 ⟨aG.ok k, trivial⟩
theorem aU.s0 : jJ f168 aU.E aU.p0 := fun k s r h => by
 dsimp only [aU.p0] at h
 split at h
 ·rename_i a b c
  rcases k with _ | k
  ·cases h
  exact ⟨k, rfl, via (if (decide (c ≥ 0)) = true then (if (0 : Int) ≤ c then (if (c : Int) < (a.length : Int) then (if (0 : Int) ≤ c then (if (c : Int) < (b.length : Int) then (if (decide ((rd a c) < (rd b c))) = true then (some (.v (.int .i64 (-1)))) else (if (0 : Int) ≤ c then (if (c : Int) < (a.length : Int) then (if (0 : Int) ≤ c then (if (c : Int) < (b.length : Int) then (if (decide ((rd a c) > (rd b c))) = true then (some (.v (.int .i64 1))) else ((aU.l0 k a b (wrap64 (c - 1))).map aU.enc)) else (none)) else (none)) else (none)) else (none))) else (none)) else (none)) else (none)) else (none)) else (some (.v (.int .i64 0)))) (by rw [aU.l0] at h; exact Eq.trans (Eq.symm mt2) h)⟩
 ·cases h
theorem aU.pts : ∀ k, jE prog (dJ f168) (aU.E k) GOk (Fin prog f168) := iT stays mixed aU.fok [(8, aU.p0)] ⟨aU.s0, trivial⟩
theorem aU.ok (k : Nat) : AO 168 (aU.app k) := fA stays mixed (aU.fok k) (aU.pts k) fun l K r h => by
 dsimp only [aU.app] at h
 split at h
 ·rename_i a b
  exact fin (enc := aU.enc) h rfl fun y h => by
   exact via ((aG.f k a).bind fun c => ((aG.f k b).bind fun d => (if (c != d) = true then (if (decide (c < d)) = true then (some (.v (.int .i64 (-1)))) else (some (.v (.int .i64 1)))) else ((aU.l0 k a b (wrap64 (d - 1))).map aU.enc)))) (by rw [aU.f] at h; exact Eq.trans (Eq.symm mt2) h)
 ·cases h
def eF.enc (r : Int) : AV := .v (.int .u64 r)
def eF.app : List AV → (AV → Option AV) → Option AV := fun l K => match l with
 | [.ro false .u64 a, .v (.int .i64 b)] => (eF.f a b).bind fun r => K (eF.enc r)
 | _ => none
def eF.E : Env := ⟨24, tys, [], [], [], false, [22], false⟩
theorem eF.fok : FO 216 f216 (dJ f216) (eF.E) := fo fQ func216 trivial
theorem eF.ok : AO 216 (eF.app) := fA stays mixed (eF.fok) (eG rfl) fun l K r h => by
 dsimp only [eF.app] at h
 split at h
 ·rename_i a b
  exact fin (enc := eF.enc) h rfl fun y h => by
   exact via (if (decide (b < 0)) = false then (if (64 : Int) = 0 then (none) else (if (decide ((wrap64 (Int.tdiv b 64)) ≥ (a.length : Int))) = true then (some (.v (.int .u64 0))) else (if (64 : Int) = 0 then (none) else (if (0 : Int) ≤ wrap64 (Int.tdiv b 64) then (if (wrap64 (Int.tdiv b 64) : Int) < (a.length : Int) then (if (64 : Int) = 0 then (none) else (if (0 : Int) ≤ IntKind.wrap .u64 (Int.tmod b 64) then (some (.v (.int .u64 (Go.bits .and .u64 (shr .u64 (rd a (wrap64 (Int.tdiv b 64))) (IntKind.wrap .u64 (Int.tmod b 64))) 1)))) else (none))) else (none)) else (none))))) else (some (.v (.int .u64 0)))) (by rw [eF.f] at h; exact Eq.trans (Eq.symm mt2) h)
 ·cases h
def bn.enc (r : List Int) : AV := .ro true .u64 r
def bn.app (k : Nat) : List AV → (AV → Option AV) → Option AV := fun l K => match l with
 | [.ro false .u64 a, .v (.int .i64 b)] => (bn.f k a b).bind fun r => K (bn.enc r)
 | _ => none
def bn.p0 (k : Nat) : Pt := ⟨[.c [1, 1, 1, 1, 0, 1, 0, 0, 0, 0], .c [1, 1, 1, 1, 0, 1, 0, 0, 0, 1], .c [1, 1, 1, 1, 0, 1, 0, 0, 1], .l [1, 1, 1, 1, 0, 1, 0, 0], .b 0, .c [1, 1, 1, 1, 1]], [(0, some .u64, [false]), (1, none, []), (5, none, []), (7, none, []), (4, some .u64, [])], [], [(6, .u64, 22)], [], fun s => match s with
 | ⟨[(0, .ro false .u64 a), (1, .v (.int .i64 b)), (5, .v (.int .i64 c)), (7, .v (.int .i64 d)), (4, .ro true .u64 []), (6, .own 6)], [(6, .ints .u64 22 e)]⟩ => (bn.l0 k a b c e d).map bn.enc
 | _ => none⟩
def bn.E (k : Nat) : Env := ⟨74, tys, [(94, aW.app k), (151, aG.app k), (154, bK.app)], [(6, bn.p0 k)], [(10, [0, 1, 2, 3, 4, 5, 6, 7, 8, 9, 10, 11, 12, 13, 14, 15, 16, 17, 18, 19, 20, 21])], false, [73], false⟩
theorem bn.fok (k : Nat) : FO 253 f253 (dJ f253) (bn.E k) := fo fQ func253 ⟨aW.ok k, ⟨aG.ok k, ⟨bK.ok, trivial⟩⟩⟩
theorem bn.s0 : jJ f253 bn.E bn.p0 := fun k s r h => by
 dsimp only [bn.p0] at h
 split at h
 ·rename_i a b c d e
  rcases k with _ | k
  ·cases h
  exact ⟨k, rfl, via (if (decide (d < (e.length : Int))) = true then (if (64 : Int) = 0 then (none) else (if (0 : Int) ≤ wrap64 (d + (wrap64 (Int.tdiv b 64))) then (if (wrap64 (d + (wrap64 (Int.tdiv b 64))) : Int) < (a.length : Int) then (if (64 : Int) = 0 then (none) else (if (0 : Int) ≤ IntKind.wrap .u64 (Int.tmod b 64) then (if (0 : Int) ≤ d then (if (d : Int) < (e.length : Int) then (if (64 : Int) = 0 then (none) else (if (decide ((Int.tmod b 64) > 0)) = true then (if (64 : Int) = 0 then (none) else (if (decide ((wrap64 ((wrap64 (d + (wrap64 (Int.tdiv b 64)))) + 1)) < c)) = true then (if (0 : Int) ≤ d then (if (d : Int) < ((e.set (d : Int).toNat (shr .u64 (rd a (wrap64 (d + (wrap64 (Int.tdiv b 64))))) (IntKind.wrap .u64 (Int.tmod b 64)))).length : Int) then (if (64 : Int) = 0 then (none) else (if (0 : Int) ≤ wrap64 ((wrap64 (d + (wrap64 (Int.tdiv b 64)))) + 1) then (if (wrap64 ((wrap64 (d + (wrap64 (Int.tdiv b 64)))) + 1) : Int) < (a.length : Int) then (if (64 : Int) = 0 then (none) else (if (0 : Int) ≤ IntKind.wrap .u64 (wrap64 (64 - (Int.tmod b 64))) then (if (0 : Int) ≤ d then (if (d : Int) < ((e.set (d : Int).toNat (shr .u64 (rd a (wrap64 (d + (wrap64 (Int.tdiv b 64))))) (IntKind.wrap .u64 (Int.tmod b 64)))).length : Int) then ((bn.l0 k a b c ((e.set (d : Int).toNat (shr .u64 (rd a (wrap64 (d + (wrap64 (Int.tdiv b 64))))) (IntKind.wrap .u64 (Int.tmod b 64)))).set (d : Int).toNat (Go.bits .or .u64 (rd (e.set (d : Int).toNat (shr .u64 (rd a (wrap64 (d + (wrap64 (Int.tdiv b 64))))) (IntKind.wrap .u64 (Int.tmod b 64)))) d) (shl .u64 (rd a (wrap64 ((wrap64 (d + (wrap64 (Int.tdiv b 64)))) + 1))) (IntKind.wrap .u64 (wrap64 (64 - (Int.tmod b 64))))))) (wrap64 (d + 1))).map bn.enc) else (none)) else (none)) else (none))) else (none)) else (none))) else (none)) else (none)) else ((bn.l0 k a b c (e.set (d : Int).toNat (shr .u64 (rd a (wrap64 (d + (wrap64 (Int.tdiv b 64))))) (IntKind.wrap .u64 (Int.tmod b 64)))) (wrap64 (d + 1))).map bn.enc))) else ((bn.l0 k a b c (e.set (d : Int).toNat (shr .u64 (rd a (wrap64 (d + (wrap64 (Int.tdiv b 64))))) (IntKind.wrap .u64 (Int.tmod b 64)))) (wrap64 (d + 1))).map bn.enc))) else (none)) else (none)) else (none))) else (none)) else (none))) else ((bK.f e).bind fun f => (some (.ro true .u64 f)))) (by simp only [bn.l0] at h; revert h; exact tc)⟩
 ·cases h
theorem bn.pts : ∀ k, jE prog (dJ f253) (bn.E k) GOk (Fin prog f253) := iT stays mixed bn.fok [(6, bn.p0)] ⟨bn.s0, trivial⟩
theorem bn.ok (k : Nat) : AO 253 (bn.app k) := fA stays mixed (bn.fok k) (bn.pts k) fun l K r h => by
 dsimp only [bn.app] at h
 split at h
 ·rename_i a b
  exact fin (enc := bn.enc) h rfl fun y h => by
   exact via ((aW.f k a).bind fun c => (if (decide (b ≥ c)) = true then (some (.ro true .u64 ([] : List Int))) else ((aG.f k a).bind fun d => (if (64 : Int) = 0 then (none) else (if (0 : Int) ≤ wrap64 (d - (wrap64 (Int.tdiv b 64))) then (if (wrap64 (d - (wrap64 (Int.tdiv b 64))) : Int).toNat * 8 ≤ 281474976710656 then ((bn.l0 k a b d (List.replicate (wrap64 (d - (wrap64 (Int.tdiv b 64))) : Int).toNat 0) 0).map bn.enc) else (none)) else (none)))))) (by rw [bn.f] at h; exact Eq.trans (Eq.symm mt2) h)
 ·cases h
def aJ.enc (r : List Int) : AV := .ro true .u64 r
def aJ.app (k : Nat) : List AV → (AV → Option AV) → Option AV := fun l K => match l with
 | [.ro false .u64 a, .ro false .u64 b] => (aJ.f k a b).bind fun r => K (aJ.enc r)
 | _ => none
def aJ.p0 (k : Nat) : Pt := ⟨[.c [1, 1, 1, 1, 0, 1, 0, 0, 0, 0], .c [1, 1, 1, 1, 0, 1, 0, 0, 0, 1], .c [1, 1, 1, 1, 0, 1, 0, 0, 1], .l [1, 1, 1, 1, 0, 1, 0, 0], .b 0, .c [1, 1, 1, 1, 1]], [(0, some .u64, [false]), (1, some .u64, [false]), (5, none, []), (7, none, []), (8, none, []), (4, some .u64, [])], [], [(6, .u64, 22)], [], fun s => match s with
 | ⟨[(0, .ro false .u64 a), (1, .ro false .u64 b), (5, .v (.int .i64 c)), (7, .v (.int .u64 d)), (8, .v (.int .i64 e)), (4, .ro true .u64 []), (6, .own 6)], [(6, .ints .u64 22 f)]⟩ => (aJ.l0 k a b c f d e).map aJ.enc
 | _ => none⟩
def aJ.E (k : Nat) : Env := ⟨49, tys, [(151, aG.app k), (169, d_.app), (154, bK.app)], [(5, aJ.p0 k)], [], false, [73], false⟩
theorem aJ.fok (k : Nat) : FO 254 f254 (dJ f254) (aJ.E k) := fo fQ func254 ⟨aG.ok k, ⟨d_.ok, ⟨bK.ok, trivial⟩⟩⟩
theorem aJ.s0 : jJ f254 aJ.E aJ.p0 := fun k s r h => by
 dsimp only [aJ.p0] at h
 split at h
 ·rename_i a b c d e f
  rcases k with _ | k
  ·cases h
  exact ⟨k, rfl, via (if (decide (e < c)) = true then (if (0 : Int) ≤ e then (if (e : Int) < (a.length : Int) then ((d_.f b e).bind fun g => (if (0 : Int) ≤ e then (if (e : Int) < (f.length : Int) then (if (decide ((rd a e) < g)) = false then (if ((rd a e) == g) = true then (if (d == 1) = true then ((aJ.l0 k a b c (f.set (e : Int).toNat (IntKind.wrap .u64 ((IntKind.wrap .u64 ((rd a e) - g)) - d))) 1 (wrap64 (e + 1))).map aJ.enc) else ((aJ.l0 k a b c (f.set (e : Int).toNat (IntKind.wrap .u64 ((IntKind.wrap .u64 ((rd a e) - g)) - d))) 0 (wrap64 (e + 1))).map aJ.enc)) else ((aJ.l0 k a b c (f.set (e : Int).toNat (IntKind.wrap .u64 ((IntKind.wrap .u64 ((rd a e) - g)) - d))) 0 (wrap64 (e + 1))).map aJ.enc)) else ((aJ.l0 k a b c (f.set (e : Int).toNat (IntKind.wrap .u64 ((IntKind.wrap .u64 ((rd a e) - g)) - d))) 1 (wrap64 (e + 1))).map aJ.enc)) else (none)) else (none))) else (none)) else (none)) else ((bK.f f).bind fun i => (some (.ro true .u64 i)))) (by rw [aJ.l0] at h; exact Eq.trans (Eq.symm mt2) h)⟩
 ·cases h
theorem aJ.pts : ∀ k, jE prog (dJ f254) (aJ.E k) GOk (Fin prog f254) := iT stays mixed aJ.fok [(5, aJ.p0)] ⟨aJ.s0, trivial⟩
theorem aJ.ok (k : Nat) : AO 254 (aJ.app k) := fA stays mixed (aJ.fok k) (aJ.pts k) fun l K r h => by
 dsimp only [aJ.app] at h
 split at h
 ·rename_i a b
  exact fin (enc := aJ.enc) h rfl fun y h => by
   exact via ((aG.f k a).bind fun c => (if (0 : Int) ≤ c then (if (c : Int).toNat * 8 ≤ 281474976710656 then ((aJ.l0 k a b c (List.replicate (c : Int).toNat 0) 0 0).map aJ.enc) else (none)) else (none))) (by rw [aJ.f] at h; exact Eq.trans (Eq.symm mt2) h)
 ·cases h
def aC.enc (r : List Int × List Int) : AV := .tup [.ro true .u64 r.1, .ro true .u64 r.2]
def aC.app (k : Nat) : List AV → (AV → Option AV) → Option AV := fun l K => match l with
 | [.ro false .u64 a, .ro false .u64 b] => (aC.f k a b).bind fun r => K (aC.enc r)
 | _ => none
def aC.p0 (k : Nat) : Pt := ⟨[.c [1, 1, 1, 1, 1, 1, 0, 1, 0, 0, 0, 0], .c [1, 1, 1, 1, 1, 1, 0, 1, 0, 0, 0, 1], .c [1, 1, 1, 1, 1, 1, 0, 1, 0, 0, 1], .l [1, 1, 1, 1, 1, 1, 0, 1, 0, 0], .b 0, .c [1, 1, 1, 1, 1, 1, 1]], [(0, some .u64, [false]), (1, some .u64, [false]), (9, some .u64, []), (10, none, [])], [], [(8, .u64, 22)], [], fun s => match s with
 | ⟨[(0, .ro false .u64 a), (1, .ro false .u64 b), (9, .ro true .u64 c), (10, .v (.int .i64 d)), (8, .own 8)], [(8, .ints .u64 22 e)]⟩ => (aC.l0 k a b e c d).map aC.enc
 | _ => none⟩
def aC.p1 (k : Nat) : Pt := ⟨[.c [1, 1, 1, 1, 1, 1, 0, 1, 0, 0, 1, 0, 0, 1, 1, 0], .c [1, 1, 1, 1, 1, 1, 0, 1, 0, 0, 1, 0, 0, 1, 1, 1], .b 1, .c [1, 1, 1, 1, 1, 1, 0, 1, 0, 0, 1, 1], .l [1, 1, 1, 1, 1, 1, 0, 1, 0, 0], .b 0, .c [1, 1, 1, 1, 1, 1, 1]], [(0, some .u64, [false]), (1, some .u64, [false]), (9, some .u64, []), (10, none, [])], [], [(8, .u64, 22)], [], fun s => match s with
 | ⟨[(0, .ro false .u64 a), (1, .ro false .u64 b), (9, .ro true .u64 c), (10, .v (.int .i64 d)), (8, .own 8)], [(8, .ints .u64 22 e)]⟩ => (aC.j1 k a b e c d).map aC.enc
 | _ => none⟩
def aC.E (k : Nat) : Env := ⟨69, tys, [(94, aW.app k), (154, bK.app), (151, aG.app k), (253, bn.app k), (219, bJ.app k), (216, eF.app), (84, aj.app k), (168, aU.app k), (254, aJ.app k)], [(8, aC.p0 k), (13, aC.p1 k)], [], false, [73, 73], false⟩
theorem aC.fok (k : Nat) : FO 220 f220 (dJ f220) (aC.E k) := fo fQ func220 ⟨aW.ok k, ⟨bK.ok, ⟨aG.ok k, ⟨bn.ok k, ⟨bJ.ok k, ⟨eF.ok, ⟨aj.ok k, ⟨aU.ok k, ⟨aJ.ok k, trivial⟩⟩⟩⟩⟩⟩⟩⟩⟩
theorem aC.s0 : jJ f220 aC.E aC.p0 := fun k s r h => by
 dsimp only [aC.p0] at h
 split at h
 ·rename_i a b c d e
  rcases k with _ | k
  ·cases h
  exact ⟨k, rfl, via (if (decide (d ≥ 0)) = true then ((bJ.f k c 1).bind fun f => ((eF.f a d).bind fun g => (if (g == 1) = true then ((aj.f k f ([1] : List Int)).bind fun i => ((aC.j1 k a b e i d).map aC.enc)) else ((aC.j1 k a b e f d).map aC.enc)))) else ((bK.f e).bind fun j => (some (.tup [.ro true .u64 j, .ro true .u64 c])))) (by rw [aC.l0] at h; exact Eq.trans (Eq.symm mt2) h)⟩
 ·cases h
theorem aC.s1 : jJ f220 aC.E aC.p1 := fun k s r h => by
 dsimp only [aC.p1] at h
 split at h
 ·rename_i a b c d e
  rcases k with _ | k
  ·cases h
  exact ⟨k, rfl, via ((aU.f k c b).bind fun f => (if (decide (f ≥ 0)) = true then ((aJ.f k c b).bind fun g => (if (64 : Int) = 0 then (none) else (if (64 : Int) = 0 then (none) else (if (0 : Int) ≤ wrap64 (Int.tdiv d 64) then (if (wrap64 (Int.tdiv d 64) : Int) < (e.length : Int) then (if (64 : Int) = 0 then (none) else (if (0 : Int) ≤ IntKind.wrap .u64 (Int.tmod d 64) then (if (0 : Int) ≤ wrap64 (Int.tdiv d 64) then (if (wrap64 (Int.tdiv d 64) : Int) < (e.length : Int) then ((aC.l0 k a b (e.set (wrap64 (Int.tdiv d 64) : Int).toNat (Go.bits .or .u64 (rd e (wrap64 (Int.tdiv d 64))) (shl .u64 1 (IntKind.wrap .u64 (Int.tmod d 64))))) g (wrap64 (d - 1))).map aC.enc) else (none)) else (none)) else (none))) else (none)) else (none))))) else ((aC.l0 k a b e c (wrap64 (d - 1))).map aC.enc))) (by rw [aC.j1] at h; exact Eq.trans (Eq.symm mt2) h)⟩
 ·cases h
theorem aC.pts : ∀ k, jE prog (dJ f220) (aC.E k) GOk (Fin prog f220) := iT stays mixed aC.fok [(8, aC.p0), (13, aC.p1)] ⟨aC.s0, aC.s1, trivial⟩
theorem aC.ok (k : Nat) : AO 220 (aC.app k) := fA stays mixed (aC.fok k) (aC.pts k) fun l K r h => by
 dsimp only [aC.app] at h
 split at h
 ·rename_i a b
  exact fin (enc := aC.enc) h rfl fun y h => by
   exact via ((aW.f k a).bind fun c => ((aW.f k b).bind fun d => (if (decide (c < d)) = true then ((bK.f a).bind fun e => (some (.tup [.ro true .u64 ([] : List Int), .ro true .u64 e]))) else ((aG.f k a).bind fun f => (if (0 : Int) ≤ f then (if (f : Int).toNat * 8 ≤ 281474976710656 then ((bn.f k a (wrap64 ((wrap64 (c - d)) + 1))).bind fun g => ((aC.l0 k a b (List.replicate (f : Int).toNat 0) g (wrap64 (c - d))).map aC.enc)) else (none)) else (none)))))) (by rw [aC.f] at h; exact Eq.trans (Eq.symm mt2) h)
 ·cases h
def dw.enc (r : List Int × List Int) : AV := .tup [.ro true .u64 r.1, .ro true .u64 r.2]
def dw.app (k : Nat) : List AV → (AV → Option AV) → Option AV := fun l K => match l with
 | [.ro false .u64 a, .ro false .u64 b] => (dw.f k a b).bind fun r => K (dw.enc r)
 | _ => none
def dw.E (k : Nat) : Env := ⟨11, tys, [(220, aC.app k)], [], [], false, [73, 73], false⟩
theorem dw.fok (k : Nat) : FO 167 f167 (dJ f167) (dw.E k) := fo fQ func167 ⟨aC.ok k, trivial⟩
theorem dw.ok (k : Nat) : AO 167 (dw.app k) := fA stays mixed (dw.fok k) (eG rfl) fun l K r h => by
 dsimp only [dw.app] at h
 split at h
 ·rename_i a b
  exact fin (enc := dw.enc) h rfl fun y h => by
   exact via ((aC.f k a b).bind fun c => (some (.tup [.ro true .u64 c.1, .ro true .u64 c.2]))) (by rw [dw.f] at h; exact Eq.trans (Eq.symm mt2) h)
 ·cases h
def iE.enc (r : List Int × Int) : AV := .tup [.ro true .u64 r.1, .v (.int .i64 r.2)]
def iE.app (k : Nat) : List AV → (AV → Option AV) → Option AV := fun l K => match l with
 | [.agg [.v (.bool a), .ro false .u64 b, .ro false .u64 c, .v (.int .i64 d)], .v (.int .i64 e)] => (iE.f k a b c d e).bind fun r => K (iE.enc r)
 | _ => none
def iE.E (k : Nat) : Env := ⟨46, tys, [(166, dL.app k), (167, dw.app k), (168, aU.app k)], [], [], false, [73, 3], false⟩
def jW.enc (r : Int) : AV := .v (.int .i64 r)
def jW.app (k : Nat) : List AV → (AV → Option AV) → Option AV := fun l K => match l with
 | [.agg [.v (.bool a), .ro false .u64 b, .ro false .u64 c, .v (.int .i64 d)]] => (jW.f k a b c d).bind fun r => K (jW.enc r)
 | _ => none
def jW.E (k : Nat) : Env := ⟨28, tys, [(94, aW.app k), (157, iE.app k)], [], [(1, [0, 1, 3, 4, 7, 8, 2, 5, 6, 9, 10])], false, [3], false⟩
def jl.enc (r : List Int) : AV := .ro false .u64 r
def jl.app (k : Nat) : List AV → (AV → Option AV) → Option AV := fun l K => match l with
 | [.v (.int .i64 a), .v (.bool b), .ro false .u64 c, .v (.int .i64 d)] => (jl.f k a b c d).bind fun r => K (jl.enc r)
 | _ => none
def jl.E (k : Nat) : Env := ⟨50, tys, [(216, eF.app), (84, aj.app k)], [], [], true, [73], false⟩
def jm.enc (r : Int) : AV := .v (.int .u64 r)
def jm.app : List AV → (AV → Option AV) → Option AV := fun l K => match l with
 | [.v (.int .i64 a), .v (.int .u64 b)] => (jm.f a b).bind fun r => K (jm.enc r)
 | _ => none
def jm.E : Env := ⟨25, tys, [(145, bT.app), (149, fK.app)], [], [], false, [22], false⟩
def dY.enc (r : Int) : AV := .v (.int .u64 r)
def dY.app (k : Nat) : List AV → (AV → Option AV) → Option AV := fun l K => match l with
 | [.v (.int .i64 a), .v (.int .i64 b), .v (.bool c)] => (dY.f k a b c).bind fun r => K (dY.enc r)
 | _ => none
def dY.p0 (k : Nat) : Pt := ⟨[.c [1, 1, 0, 0], .c [1, 1, 0, 1], .c [1, 1, 1]], [(0, none, []), (2, none, []), (7, none, [])], [], [], [], fun s => match s with
 | ⟨[(0, .v (.int .i64 a)), (2, .v (.bool b)), (7, .v (.bool c))], []⟩ => (dY.j0 k a b c).map dY.enc
 | _ => none⟩
def dY.E (k : Nat) : Env := ⟨38, tys, [(155, iC.app), (65, jB.app), (217, jm.app)], [(2, dY.p0 k)], [], false, [22], false⟩
def dK.enc (r : Int × Int) : AV := .tup [.v (.int .u64 r.1), .v (.int .i64 r.2)]
def dK.app (k : Nat) : List AV → (AV → Option AV) → Option AV := fun l K => match l with
 | [.v (.int .i64 a), .v (.int .i64 b), .agg [.v (.bool c), .ro false .u64 d, .ro false .u64 e, .v (.int .i64 f)]] => (dK.f k a b c d e f).bind fun r => K (dK.enc r)
 | _ => none
def dK.p0 (k : Nat) : Pt := ⟨[.c [1, 1, 1, 1, 1, 1, 1, 0], .c [1, 1, 1, 1, 1, 1, 1, 1]], [(0, none, []), (1, none, []), (10, none, []), (11, none, []), (12, none, [])], [(5, [false, false]), (8, [])], [], [], fun s => match s with
 | ⟨[(0, .v (.int .i64 a)), (1, .v (.int .i64 b)), (10, .v (.int .i64 c)), (11, .v (.int .i64 d)), (12, .v (.int .i64 e)), (5, .ptr 5 0), (8, .ptr 8 0)], [(5, .cells [.v (.bool f), .ro false .u64 g, .ro false .u64 i, .v (.int .i64 j)]), (8, .cells [.v (.int .i64 m), .v (.int .i64 n), .v (.int .i64 o), .v (.int .i64 p)])]⟩ => (dK.j0 k a b c d e f g i j m n o p).map dK.enc
 | _ => none⟩
def dK.p1 (k : Nat) : Pt := ⟨[.c [1, 1, 1, 1, 1, 1, 1, 1, 1, 1, 1, 1, 0], .c [1, 1, 1, 1, 1, 1, 1, 1, 1, 1, 1, 1, 1]], [(0, none, []), (11, none, []), (12, none, []), (15, some .u64, [false]), (16, none, [])], [(5, [false, false]), (8, [])], [], [], fun s => match s with
 | ⟨[(0, .v (.int .i64 a)), (11, .v (.int .i64 b)), (12, .v (.int .i64 c)), (15, .ro false .u64 d), (16, .v (.int .i64 e)), (5, .ptr 5 0), (8, .ptr 8 0)], [(5, .cells [.v (.bool f), .ro false .u64 g, .ro false .u64 i, .v (.int .i64 j)]), (8, .cells [.v (.int .i64 m), .v (.int .i64 n), .v (.int .i64 o), .v (.int .i64 p)])]⟩ => (dK.j1 k a b c d e f g i j m n o p).map dK.enc
 | _ => none⟩
def dK.E (k : Nat) : Env := ⟨129, tys, [(154, bK.app), (155, iC.app), (67, jr.app), (145, bT.app), (156, jW.app k), (157, iE.app k), (158, jl.app k), (94, aW.app k), (159, dY.app k), (149, fK.app)], [(9, dK.p0 k), (19, dK.p1 k)], [(11, [0, 2, 4, 5, 6, 1, 3, 7]), (17, [0, 1, 2, 3, 4, 7, 9, 10, 13, 14, 5, 6, 8, 11, 12, 15]), (22, [0, 1, 2, 5, 6, 7, 8, 9, 10, 11, 12, 13, 14, 15, 17, 3, 4, 16, 18, 19])], false, [22, 3], false⟩
def fZ.enc (r : Int × Int × Int) : AV := .tup [.v (.int .u64 r.1), .v (.int .i64 r.2.1), .v (.int .i64 r.2.2)]
def fZ.app (k : Nat) : List AV → (AV → Option AV) → Option AV := fun l K => match l with
 | [.v (.int .i64 a), .v (.int .i64 b), .v (.string c)] => (fZ.f k a b c).bind fun r => K (fZ.enc r)
 | _ => none
def fZ.p0 (k : Nat) : Pt := ⟨[.c [1, 1, 1, 1, 1, 1, 1, 0, 0, 0], .c [1, 1, 1, 1, 1, 1, 1, 0, 0, 1], .b 0, .c [1, 1, 1, 1, 1, 1, 1, 1]], [(0, none, []), (1, none, []), (11, none, []), (12, none, [])], [(10, [])], [], [], fun s => match s with
 | ⟨[(0, .v (.int .i64 a)), (1, .v (.int .i64 b)), (11, .v (.bool c)), (12, .v (.int .u64 d)), (10, .ptr 10 0)], [(10, .cells [.v (.bool e), .v (.bool f), .v (.bool g), .v (.string i), .v (.int .i64 j)])]⟩ => (fZ.j0 k a b c d e f g i j).map fZ.enc
 | _ => none⟩
def fZ.E (k : Nat) : Env := ⟨107, tys, [(62, aI.app k), (63, aZ.app k), (64, jV.app), (65, jB.app), (66, bQ.app k), (67, jr.app), (68, ah.app k), (70, dR.app k), (69, bZ.app k), (71, dK.app k)], [(10, fZ.p0 k)], [], false, [22, 3, 3], false⟩
def bW.enc (r : Int) : AV := .v (.int .i64 r)
def bW.app : List AV → (AV → Option AV) → Option AV := fun l K => match l with
 | [.v (.int .i64 a), .v (.int .u64 b)] => (bW.f a b).bind fun r => K (bW.enc r)
 | _ => none
def bW.E : Env := ⟨25, tys, [(52, bY.app)], [], [], false, [24], false⟩
theorem bW.fok : FO 72 f72 (dJ f72) (bW.E) := fo fQ func72 ⟨bY.ok, trivial⟩
theorem bW.ok : AO 72 (bW.app) := fA stays mixed (bW.fok) (eG rfl) fun l K r h => by
 dsimp only [bW.app] at h
 split at h
 ·rename_i a b
  exact fin (enc := bW.enc) h rfl fun y h => by
   exact via ((bY.f a).bind fun c => (if (c.2.2.2.2 != 0) = true then (some (.v (.int .i64 c.2.2.2.2))) else (if (decide (c.1 < 64)) = true then (if (0 : Int) ≤ c.1 then (if ((shr .u64 b c.1) != 0) = true then (some (.v (.int .i64 4))) else (some (.v (.int .i64 0)))) else (none)) else (some (.v (.int .i64 0)))))) (by rw [bW.f] at h; exact Eq.trans (Eq.symm mt2) h)
 ·cases h
end Go.Proofs.YtafikkmnkeddpaaGreatDoor.P
set_option maxRecDepth 100000
namespace Go.Proofs.YtafikkmnkeddpaaGreatDoor.P
open Go.RowKit Go.Proofs.YtafikkmnkeddpaaGreatDoorW.PrintWords Go.Proofs.YtafikkmnkeddpaaGreatDoorW.PrintLast Go.Proofs.YtafikkmnkeddpaaGreatDoorW.PrintMore Go.Proofs.YtafikkmnkeddpaaGreatDoor.E Go.Proofs.Tryz
def bD.enc (r : Bool × Int × Int × Int × ByteArray) : AV := .tup [.agg [.v (.bool r.1), .v (.int .u64 r.2.1), .v (.int .i64 r.2.2.1), .v (.int .u64 r.2.2.2.1)], .v (.string r.2.2.2.2)]
def bD.app (k : Nat) : List AV → (AV → Option AV) → Option AV := fun l K => match l with
 | [.v (.int .i64 a), .v (.int .u64 b)] => (bD.f k a b).bind fun r => K (bD.enc r)
 | _ => none
def bD.p0 (k : Nat) : Pt := ⟨[.c [1, 1, 1, 1, 1, 1, 0, 0], .c [1, 1, 1, 1, 1, 1, 0, 1], .c [1, 1, 1, 1, 1, 1, 1]], [(8, none, []), (10, none, []), (11, none, []), (12, none, []), (14, none, [])], [(6, [])], [], [4], fun s => match s with
 | ⟨[(8, .v (.int .i64 a)), (10, .v (.bool b)), (11, .v (.int .u64 c)), (12, .v (.int .u64 d)), (14, .v (.string e)), (6, .ptr 6 0), (4, .ptr 4 0)], [(6, .cells [.v (.int .i64 f), .v (.int .i64 g), .v (.int .i64 i), .v (.int .i64 j)]), (4, .cells [.top, .top, .top, .top])]⟩ => (bD.j0 k a b c d e f g i j).map bD.enc
 | _ => none⟩
def bD.p1 (k : Nat) : Pt := ⟨[.c [1, 1, 1, 1, 1, 1, 0, 1, 0, 1], .b 0, .c [1, 1, 1, 1, 1, 1, 1]], [(10, none, []), (11, none, []), (12, none, []), (14, none, []), (36, none, []), (37, none, [])], [(6, [])], [], [4], fun s => match s with
 | ⟨[(10, .v (.bool a)), (11, .v (.int .u64 b)), (12, .v (.int .u64 c)), (14, .v (.string d)), (36, .v (.int .i64 e)), (37, .v (.bool f)), (6, .ptr 6 0), (4, .ptr 4 0)], [(6, .cells [.v (.int .i64 g), .v (.int .i64 i), .v (.int .i64 j), .v (.int .i64 m)]), (4, .cells [.top, .top, .top, .top])]⟩ => (bD.j1 k a b c d e f g i j m).map bD.enc
 | _ => none⟩
def bD.p2 (k : Nat) : Pt := ⟨[.c [1, 1, 1, 1, 1, 1, 0, 1, 0, 1, 1, 1], .b 0, .c [1, 1, 1, 1, 1, 1, 1]], [(10, none, []), (11, none, []), (12, none, []), (14, none, []), (36, none, []), (41, none, [])], [(6, [])], [], [4], fun s => match s with
 | ⟨[(10, .v (.bool a)), (11, .v (.int .u64 b)), (12, .v (.int .u64 c)), (14, .v (.string d)), (36, .v (.int .i64 e)), (41, .v (.bool f)), (6, .ptr 6 0), (4, .ptr 4 0)], [(6, .cells [.v (.int .i64 g), .v (.int .i64 i), .v (.int .i64 j), .v (.int .i64 m)]), (4, .cells [.top, .top, .top, .top])]⟩ => (bD.j2 k a b c d e f g i j m).map bD.enc
 | _ => none⟩
def bD.E (k : Nat) : Env := ⟨87, tys, [(52, bY.app), (117, jc.app), (118, iM.app)], [(7, bD.p0 k), (100037, bD.p1 k), (100041, bD.p2 k)], [(19, [0, 1, 2, 3, 4, 5, 6, 7, 8])], false, [118, 9], false⟩
theorem bD.fok (k : Nat) : FO 74 f74 (dJ f74) (bD.E k) := fo fQ func74 ⟨bY.ok, ⟨jc.ok, ⟨iM.ok, trivial⟩⟩⟩
theorem bD.s0 : jJ f74 bD.E bD.p0 := fun k s r h => by
 dsimp only [bD.p0] at h
 split at h
 ·rename_i a b c d e f g i j
  rcases k with _ | k
  ·cases h
  exact ⟨k, rfl, via (if (a == 1) = true then ((bD.j1 k b c d e a (a == 1) f g i j).map bD.enc) else ((bD.j1 k b c d e a (a == 0) f g i j).map bD.enc)) (by rw [bD.j0] at h; exact Eq.trans (Eq.symm mt2) h)⟩
 ·cases h
theorem bD.s1 : jJ f74 bD.E bD.p1 := fun k s r h => by
 dsimp only [bD.p1] at h
 split at h
 ·rename_i a b c d e f g i j m
  rcases k with _ | k
  ·cases h
  exact ⟨k, rfl, via (if f = true then (some (.tup [.agg [.v (.bool false), .v (.int .u64 0), .v (.int .i64 0), .v (.int .u64 0)], .v (.string (⟨#[110, 97, 110]⟩ : ByteArray))])) else (if (e == 2) = true then ((bD.j2 k a b c d e (e == 2) g i j m).map bD.enc) else ((bD.j2 k a b c d e (e == 9) g i j m).map bD.enc))) (by rw [bD.j1] at h; exact Eq.trans (Eq.symm mt2) h)⟩
 ·cases h
theorem bD.s2 : jJ f74 bD.E bD.p2 := fun k s r h => by
 dsimp only [bD.p2] at h
 split at h
 ·rename_i a b c d e f g i j m
  rcases k with _ | k
  ·cases h
  exact ⟨k, rfl, via (if f = true then (if d.size + (⟨#[105, 110, 102]⟩ : ByteArray).size ≤ 9223372036854775807 then (some (.tup [.agg [.v (.bool false), .v (.int .u64 0), .v (.int .i64 0), .v (.int .u64 0)], .v (.string (d ++ (⟨#[105, 110, 102]⟩ : ByteArray)))])) else (none)) else (if (e == 5) = true then (if (e == 5) = true then (if d.size + (⟨#[48]⟩ : ByteArray).size ≤ 9223372036854775807 then (some (.tup [.agg [.v (.bool false), .v (.int .u64 0), .v (.int .i64 0), .v (.int .u64 0)], .v (.string (d ++ (⟨#[48]⟩ : ByteArray)))])) else (none)) else (if (decide (b > 0)) = true then (if (0 : Int) ≤ wrap64 (i - 1) then (if (c == 0) = true then (if (decide (b > 1)) = true then (some (.tup [.agg [.v (.bool a), .v (.int .u64 (Go.bits .or .u64 c (shl .u64 1 (wrap64 (i - 1))))), .v (.int .i64 (wrap64 ((wrap64 ((wrap64 (j - i)) + 1)) + (wrap64 ((wrap64 (b)) - 1))))), .v (.int .u64 1)], .v (.string (⟨#[]⟩ : ByteArray))])) else (some (.tup [.agg [.v (.bool a), .v (.int .u64 (Go.bits .or .u64 c (shl .u64 1 (wrap64 (i - 1))))), .v (.int .i64 (wrap64 ((wrap64 ((wrap64 (j - i)) + 1)) + (wrap64 ((wrap64 (b)) - 1))))), .v (.int .u64 2)], .v (.string (⟨#[]⟩ : ByteArray))]))) else (some (.tup [.agg [.v (.bool a), .v (.int .u64 (Go.bits .or .u64 c (shl .u64 1 (wrap64 (i - 1))))), .v (.int .i64 (wrap64 ((wrap64 ((wrap64 (j - i)) + 1)) + (wrap64 ((wrap64 (b)) - 1))))), .v (.int .u64 2)], .v (.string (⟨#[]⟩ : ByteArray))]))) else (none)) else (some (.tup [.agg [.v (.bool a), .v (.int .u64 c), .v (.int .i64 (wrap64 ((wrap64 (j - i)) + 1))), .v (.int .u64 2)], .v (.string (⟨#[]⟩ : ByteArray))])))) else (if (e == 6) = true then (if d.size + (⟨#[48]⟩ : ByteArray).size ≤ 9223372036854775807 then (some (.tup [.agg [.v (.bool false), .v (.int .u64 0), .v (.int .i64 0), .v (.int .u64 0)], .v (.string (d ++ (⟨#[48]⟩ : ByteArray)))])) else (none)) else (if (decide (b > 0)) = true then (if (0 : Int) ≤ wrap64 (i - 1) then (if (c == 0) = true then (if (decide (b > 1)) = true then (some (.tup [.agg [.v (.bool a), .v (.int .u64 (Go.bits .or .u64 c (shl .u64 1 (wrap64 (i - 1))))), .v (.int .i64 (wrap64 ((wrap64 ((wrap64 (j - i)) + 1)) + (wrap64 ((wrap64 (b)) - 1))))), .v (.int .u64 1)], .v (.string (⟨#[]⟩ : ByteArray))])) else (some (.tup [.agg [.v (.bool a), .v (.int .u64 (Go.bits .or .u64 c (shl .u64 1 (wrap64 (i - 1))))), .v (.int .i64 (wrap64 ((wrap64 ((wrap64 (j - i)) + 1)) + (wrap64 ((wrap64 (b)) - 1))))), .v (.int .u64 2)], .v (.string (⟨#[]⟩ : ByteArray))]))) else (some (.tup [.agg [.v (.bool a), .v (.int .u64 (Go.bits .or .u64 c (shl .u64 1 (wrap64 (i - 1))))), .v (.int .i64 (wrap64 ((wrap64 ((wrap64 (j - i)) + 1)) + (wrap64 ((wrap64 (b)) - 1))))), .v (.int .u64 2)], .v (.string (⟨#[]⟩ : ByteArray))]))) else (none)) else (some (.tup [.agg [.v (.bool a), .v (.int .u64 c), .v (.int .i64 (wrap64 ((wrap64 (j - i)) + 1))), .v (.int .u64 2)], .v (.string (⟨#[]⟩ : ByteArray))])))))) (by rw [bD.j2] at h; exact Eq.trans (Eq.symm mt2) h)⟩
 ·cases h
theorem bD.pts : ∀ k, jE prog (dJ f74) (bD.E k) GOk (Fin prog f74) := iT stays mixed bD.fok [(7, bD.p0), (100037, bD.p1), (100041, bD.p2)] ⟨bD.s0, bD.s1, bD.s2, trivial⟩
theorem bD.ok (k : Nat) : AO 74 (bD.app k) := fA stays mixed (bD.fok k) (bD.pts k) fun l K r h => by
 dsimp only [bD.app] at h
 split at h
 ·rename_i a b
  exact fin (enc := bD.enc) h rfl fun y h => by
   exact via ((bY.f a).bind fun c => ((jc.f a b).bind fun d => ((iM.f a b).bind fun e => (if e.1 = true then ((bD.j0 k d.1 e.1 e.2.1 e.2.2.1 (⟨#[45]⟩ : ByteArray) c.1 c.2.1 c.2.2.1 c.2.2.2.1).map bD.enc) else ((bD.j0 k d.1 e.1 e.2.1 e.2.2.1 (⟨#[]⟩ : ByteArray) c.1 c.2.1 c.2.2.1 c.2.2.2.1).map bD.enc))))) (by rw [bD.f] at h; exact Eq.trans (Eq.symm mt2) h)
 ·cases h
def dG.enc (r : ByteArray) : AV := .v (.string r)
def dG.app : List AV → (AV → Option AV) → Option AV := fun l K => match l with
 | [.agg [.v (.bool a), .v (.int .u64 b), .v (.int .i64 c), .v (.int .u64 d)]] => (dG.f a b c d).bind fun r => K (dG.enc r)
 | _ => none
def dG.E : Env := ⟨5, tys, [], [], [], false, [9], false⟩
theorem dG.fok : FO 76 f76 (dJ f76) (dG.E) := fo fQ func76 trivial
theorem dG.ok : AO 76 (dG.app) := fA stays mixed (dG.fok) (eG rfl) fun l K r h => by
 dsimp only [dG.app] at h
 split at h
 ·rename_i a b c d
  exact fin (enc := dG.enc) h rfl fun y h => by
   exact via (if a = true then (some (.v (.string (⟨#[45]⟩ : ByteArray)))) else (some (.v (.string (⟨#[]⟩ : ByteArray))))) (by rw [dG.f] at h; exact Eq.trans (Eq.symm mt2) h)
 ·cases h
def iR.enc (r : ByteArray) : AV := .v (.string r)
def iR.app : List AV → (AV → Option AV) → Option AV := fun l K => match l with
 | [.v (.string a), .v (.int .i64 b)] => (iR.f a b).bind fun r => K (iR.enc r)
 | _ => none
def iR.E : Env := ⟨39, tys, [(92, strings_Repeat.app)], [], [(5, [0, 1, 2, 3, 4, 5, 6, 7, 8, 9, 10])], false, [9], false⟩
theorem iR.fok : FO 77 f77 (dJ f77) (iR.E) := fo fQ func77 ⟨strings_Repeat.ok, trivial⟩
theorem iR.ok : AO 77 (iR.app) := fA stays mixed (iR.fok) (eG rfl) fun l K r h => by
 dsimp only [iR.app] at h
 split at h
 ·rename_i a b
  exact fin (enc := iR.enc) h rfl fun y h => by
   exact via (if (decide (b < 0)) = true then ((strings_Repeat.f (⟨#[48]⟩ : ByteArray) (wrap64 ((wrap64 (-b)) - 1))).bind fun c => (if (⟨#[48, 46]⟩ : ByteArray).size + c.size ≤ 9223372036854775807 then (if ((⟨#[48, 46]⟩ : ByteArray) ++ c).size + a.size ≤ 9223372036854775807 then (some (.v (.string (((⟨#[48, 46]⟩ : ByteArray) ++ c) ++ a)))) else (none)) else (none))) else (if (decide (b ≥ (wrap64 ((a.size : Int) - 1)))) = true then ((strings_Repeat.f (⟨#[48]⟩ : ByteArray) (wrap64 ((wrap64 (b - (a.size : Int))) + 1))).bind fun d => (if a.size + d.size ≤ 9223372036854775807 then (some (.v (.string (a ++ d)))) else (none))) else (if (0 : Int) ≤ wrap64 (b + 1) then (if (wrap64 (b + 1) : Int) ≤ (a.size : Int) then (if (a.extract 0 (wrap64 (b + 1) : Int).toNat).size + (⟨#[46]⟩ : ByteArray).size ≤ 9223372036854775807 then (if (0 : Int) ≤ wrap64 (b + 1) then (if (wrap64 (b + 1) : Int) ≤ (a.size : Int) then (if ((a.extract 0 (wrap64 (b + 1) : Int).toNat) ++ (⟨#[46]⟩ : ByteArray)).size + (a.extract (wrap64 (b + 1) : Int).toNat ((a.size : Int) : Int).toNat).size ≤ 9223372036854775807 then (some (.v (.string (((a.extract 0 (wrap64 (b + 1) : Int).toNat) ++ (⟨#[46]⟩ : ByteArray)) ++ (a.extract (wrap64 (b + 1) : Int).toNat ((a.size : Int) : Int).toNat))))) else (none)) else (none)) else (none)) else (none)) else (none)) else (none)))) (by rw [iR.f] at h; exact Eq.trans (Eq.symm mt2) h)
 ·cases h
def gX.enc (r : ByteArray) : AV := .v (.string r)
def gX.app : List AV → (AV → Option AV) → Option AV := fun l K => match l with
 | [.v (.string a), .v (.int .i64 b)] => (gX.f a b).bind fun r => K (gX.enc r)
 | _ => none
def gX.E : Env := ⟨21, tys, [(120, strconv_Itoa.app)], [], [], false, [9], false⟩
theorem gX.fok : FO 78 f78 (dJ f78) (gX.E) := fo fQ func78 ⟨strconv_Itoa.ok, trivial⟩
set_option maxHeartbeats 2000000 in
theorem gX.ok : AO 78 (gX.app) := fA stays mixed (gX.fok) (eG rfl) fun l K r h => by
 dsimp only [gX.app] at h
 split at h
 ·rename_i a b
  exact fin (enc := gX.enc) h rfl fun y h => by
   exact via (if (0 : Int) ≤ 1 then (if (1 : Int) ≤ (a.size : Int) then (if (decide ((a.size : Int) > 1)) = true then (if (0 : Int) ≤ 1 then (if (1 : Int) ≤ (a.size : Int) then (if (⟨#[46]⟩ : ByteArray).size + (a.extract (1 : Int).toNat ((a.size : Int) : Int).toNat).size ≤ 9223372036854775807 then (if (a.extract 0 (1 : Int).toNat).size + ((⟨#[46]⟩ : ByteArray) ++ (a.extract (1 : Int).toNat ((a.size : Int) : Int).toNat)).size ≤ 9223372036854775807 then (if ((a.extract 0 (1 : Int).toNat) ++ ((⟨#[46]⟩ : ByteArray) ++ (a.extract (1 : Int).toNat ((a.size : Int) : Int).toNat))).size + (⟨#[101]⟩ : ByteArray).size ≤ 9223372036854775807 then ((strconv_Itoa.f b).bind fun c => (if (((a.extract 0 (1 : Int).toNat) ++ ((⟨#[46]⟩ : ByteArray) ++ (a.extract (1 : Int).toNat ((a.size : Int) : Int).toNat))) ++ (⟨#[101]⟩ : ByteArray)).size + c.size ≤ 9223372036854775807 then (some (.v (.string ((((a.extract 0 (1 : Int).toNat) ++ ((⟨#[46]⟩ : ByteArray) ++ (a.extract (1 : Int).toNat ((a.size : Int) : Int).toNat))) ++ (⟨#[101]⟩ : ByteArray)) ++ c)))) else (none))) else (none)) else (none)) else (none)) else (none)) else (none)) else (if (a.extract 0 (1 : Int).toNat).size + (⟨#[101]⟩ : ByteArray).size ≤ 9223372036854775807 then ((strconv_Itoa.f b).bind fun d => (if ((a.extract 0 (1 : Int).toNat) ++ (⟨#[101]⟩ : ByteArray)).size + d.size ≤ 9223372036854775807 then (some (.v (.string (((a.extract 0 (1 : Int).toNat) ++ (⟨#[101]⟩ : ByteArray)) ++ d)))) else (none))) else (none))) else (none)) else (none)) (by rw [gX.f] at h; exact Eq.trans (Eq.symm mt2) h)
 ·cases h
def dh.enc (r : ByteArray × Int) : AV := .tup [.v (.string r.1), .v (.int .i64 r.2)]
def dh.app (k : Nat) : List AV → (AV → Option AV) → Option AV := fun l K => match l with
 | [.v (.int .i64 a), .v (.int .u64 b)] => (dh.f k a b).bind fun r => K (dh.enc r)
 | _ => none
def dh.p0 (k : Nat) : Pt := ⟨[.c [1, 1, 1, 1, 1, 0, 1], .c [1, 1, 1, 1, 1, 1]], [(9, none, []), (10, none, []), (36, none, [])], [(7, [])], [], [], fun s => match s with
 | ⟨[(9, .v (.string a)), (10, .v (.int .i64 b)), (36, .v (.bool c)), (7, .ptr 7 0)], [(7, .cells [.v (.bool d), .v (.int .u64 e), .v (.int .i64 f), .v (.int .u64 g)])]⟩ => (dh.j0 k a b c d e f g).map dh.enc
 | _ => none⟩
def dh.E (k : Nat) : Env := ⟨49, tys, [(72, bW.app), (74, bD.app k), (75, gI.app), (76, dG.app), (77, iR.app), (78, gX.app)], [(100036, dh.p0 k)], [], false, [9, 24], false⟩
theorem dh.fok (k : Nat) : FO 20 f20 (dJ f20) (dh.E k) := fo fQ func20 ⟨bW.ok, ⟨bD.ok k, ⟨gI.ok, ⟨dG.ok, ⟨iR.ok, ⟨gX.ok, trivial⟩⟩⟩⟩⟩⟩
theorem dh.s0 : jJ f20 dh.E dh.p0 := fun k s r h => by
 dsimp only [dh.p0] at h
 split at h
 ·rename_i a b c d e f g
  rcases k with _ | k
  ·cases h
  exact ⟨k, rfl, via (if c = true then ((dG.f d e f g).bind fun i => ((iR.f a b).bind fun j => (if i.size + j.size ≤ 9223372036854775807 then (some (.tup [.v (.string (i ++ j)), .v (.int .i64 0)])) else (none)))) else ((dG.f d e f g).bind fun m => ((gX.f a b).bind fun n => (if m.size + n.size ≤ 9223372036854775807 then (some (.tup [.v (.string (m ++ n)), .v (.int .i64 0)])) else (none))))) (by rw [dh.j0] at h; exact Eq.trans (Eq.symm mt2) h)⟩
 ·cases h
theorem dh.pts : ∀ k, jE prog (dJ f20) (dh.E k) GOk (Fin prog f20) := iT stays mixed dh.fok [(100036, dh.p0)] ⟨dh.s0, trivial⟩
theorem dh.ok (k : Nat) : AO 20 (dh.app k) := fA stays mixed (dh.fok k) (dh.pts k) fun l K r h => by
 dsimp only [dh.app] at h
 split at h
 ·rename_i a b
  exact fin (enc := dh.enc) h rfl fun y h => by
   exact via ((bW.f a b).bind fun c => (if (c != 0) = true then (some (.tup [.v (.string (⟨#[]⟩ : ByteArray)), .v (.int .i64 c)])) else ((bD.f k a b).bind fun d => (if (d.2.2.2.2.toList != (⟨#[]⟩ : ByteArray).toList) = true then (some (.tup [.v (.string d.2.2.2.2), .v (.int .i64 0)])) else ((gI.f d.1 d.2.1 d.2.2.1 d.2.2.2.1).bind fun e => (if (decide (e.2 ≥ (-5))) = true then ((dh.j0 k e.1 e.2 (decide (e.2 ≤ 15)) d.1 d.2.1 d.2.2.1 d.2.2.2.1).map dh.enc) else ((dh.j0 k e.1 e.2 false d.1 d.2.1 d.2.2.1 d.2.2.2.1).map dh.enc))))))) (by rw [dh.f] at h; exact Eq.trans (Eq.symm mt2) h)
 ·cases h
def dM.enc (r : Bool) : AV := .v (.bool r)
def dM.app (k : Nat) : List AV → (AV → Option AV) → Option AV := fun l K => match l with
 | [] => (dM.f k).bind fun r => K (dM.enc r)
 | _ => none
def dM.E (k : Nat) : Env := ⟨33, tys, [(14, fO.app k), (20, dh.app k)], [], [], false, [4], false⟩
theorem dM.fok (k : Nat) : FO 16 f16 (dJ f16) (dM.E k) := fo fQ func16 ⟨fO.ok k, ⟨dh.ok k, trivial⟩⟩
theorem dM.ok (k : Nat) : AO 16 (dM.app k) := fA stays mixed (dM.fok k) (eG rfl) fun l K r h => by
 dsimp only [dM.app] at h
 split at h
 ·exact fin (enc := dM.enc) h rfl fun y h => by
   exact via ((fO.f k 3 0 (⟨#[48, 46, 49]⟩ : ByteArray)).bind fun a => ((dh.f k 0 13653).bind fun b => (if (a.1 == 4591870180066957722) = true then (if (a.2.1 == 16) = true then (if (a.2.2 == 0) = true then (if (b.1.toList == (⟨#[48, 46, 51, 51, 51, 51]⟩ : ByteArray).toList) = true then (some (.v (.bool (b.2 == 0)))) else (some (.v (.bool false)))) else (some (.v (.bool false)))) else (some (.v (.bool false)))) else (some (.v (.bool false)))))) (by rw [dM.f] at h; exact Eq.trans (Eq.symm mt2) h)
 ·cases h
def jH.enc (r : Bool) : AV := .v (.bool r)
def jH.app (k : Nat) : List AV → (AV → Option AV) → Option AV := fun l K => match l with
 | [.v (.int .i64 a), .v (.int .i64 b), .v (.string c)] => (jH.f k a b c).bind fun r => K (jH.enc r)
 | _ => none
def jH.E (k : Nat) : Env := ⟨45, tys, [(14, fO.app k), (15, fZ.app k), (16, dM.app k)], [], [], false, [4], false⟩
def eX.enc (r : ByteArray) : AV := .v (.string r)
def eX.app (k : Nat) : List AV → (AV → Option AV) → Option AV := fun l K => match l with
 | [.v (.int .u64 a)] => (eX.f k a).bind fun r => K (eX.enc r)
 | _ => none
def eX.p0 (k : Nat) : Pt := ⟨[.c [1, 1, 0, 0, 0, 0, 0], .c [1, 1, 0, 0, 0, 0, 1], .c [1, 1, 0, 0, 0, 1], .l [1, 1, 0, 0, 0], .b 0, .c [1, 1, 1]], [(0, none, []), (3, none, [])], [], [], [], fun s => match s with
 | ⟨[(0, .v (.int .u64 a)), (3, .v (.string b))], []⟩ => (eX.l0 k a b).map eX.enc
 | _ => none⟩
def eX.E (k : Nat) : Env := ⟨23, tys, [], [(2, eX.p0 k)], [], false, [9], false⟩
def gY.enc (r : ByteArray) : AV := .v (.string r)
def gY.app (k : Nat) : List AV → (AV → Option AV) → Option AV := fun l K => match l with
 | [.v (.int .i64 a)] => (gY.f k a).bind fun r => K (gY.enc r)
 | _ => none
def gY.E (k : Nat) : Env := ⟨13, tys, [(18, eX.app k)], [], [], false, [9], false⟩
def l9.enc (r : Int × Int) : AV := .tup [.v (.int .u64 r.1), .v (.int .i64 r.2)]
def l9.app : List AV → (AV → Option AV) → Option AV := fun l K => match l with
 | [.v (.int .i64 a), .v (.int .u64 b)] => (l9.f a b).bind fun r => K (l9.enc r)
 | _ => none
def l9.E : Env := ⟨17, tys, [(72, bW.app), (73, pY.app)], [], [], false, [22, 24], false⟩
def bI.enc (r : List Int × List Int) : AV := .tup [.ro true .u64 r.1, .ro true .u64 r.2]
def bI.app (k : Nat) : List AV → (AV → Option AV) → Option AV := fun l K => match l with
 | [.v (.int .u64 a), .v (.int .i64 b), .v (.int .i64 c)] => (bI.f k a b c).bind fun r => K (bI.enc r)
 | _ => none
def bI.p0 (k : Nat) : Pt := ⟨[.c [1, 1, 1, 0, 0], .c [1, 1, 1, 0, 1], .c [1, 1, 1, 1]], [(1, none, []), (6, some .u64, []), (7, some .u64, [])], [], [], [], fun s => match s with
 | ⟨[(1, .v (.int .i64 a)), (6, .ro true .u64 b), (7, .ro true .u64 c)], []⟩ => (bI.j0 k a b c).map bI.enc
 | _ => none⟩
def bI.E (k : Nat) : Env := ⟨40, tys, [(60, fC.app), (61, iF.app), (89, fV.app)], [(5, bI.p0 k)], [], false, [73, 73], false⟩
theorem bI.fok (k : Nat) : FO 100 f100 (dJ f100) (bI.E k) := fo fQ func100 ⟨fC.ok, ⟨iF.ok, ⟨fV.ok, trivial⟩⟩⟩
theorem bI.s0 : jJ f100 bI.E bI.p0 := fun k s r h => by
 dsimp only [bI.p0] at h
 split at h
 ·rename_i a b c
  rcases k with _ | k
  ·cases h
  exact ⟨k, rfl, via (if (decide (a ≥ 0)) = true then ((fV.f b a).bind fun d => (some (.tup [.ro true .u64 d.1, .ro true .u64 c]))) else ((fV.f c (wrap64 (-a))).bind fun e => (some (.tup [.ro true .u64 b, .ro true .u64 e.1])))) (by rw [bI.j0] at h; exact Eq.trans (Eq.symm mt2) h)⟩
 ·cases h
theorem bI.pts : ∀ k, jE prog (dJ f100) (bI.E k) GOk (Fin prog f100) := iT stays mixed bI.fok [(5, bI.p0)] ⟨bI.s0, trivial⟩
theorem bI.ok (k : Nat) : AO 100 (bI.app k) := fA stays mixed (bI.fok k) (bI.pts k) fun l K r h => by
 dsimp only [bI.app] at h
 split at h
 ·rename_i a b c
  exact fin (enc := bI.enc) h rfl fun y h => by
   exact via (if (decide (c ≥ 0)) = true then ((fC.f c).bind fun d => ((iF.f ([a] : List Int) d).bind fun e => ((bI.j0 k b e.1 ([1] : List Int)).map bI.enc))) else ((fC.f (wrap64 (-c))).bind fun f => ((bI.j0 k b ([a] : List Int) f).map bI.enc))) (by rw [bI.f] at h; exact Eq.trans (Eq.symm mt2) h)
 ·cases h
def kN.enc (r : Bool) : AV := .v (.bool r)
def kN.app : List AV → (AV → Option AV) → Option AV := fun l K => match l with
 | [.v (.int .i64 a), .v (.bool b), .v (.bool c), .v (.int .i64 d)] => (kN.f a b c d).bind fun r => K (kN.enc r)
 | _ => none
def kN.E : Env := ⟨36, tys, [], [], [], false, [4], false⟩
theorem kN.fok : FO 102 f102 (dJ f102) (kN.E) := fo fQ func102 trivial
theorem kN.ok : AO 102 (kN.app) := fA stays mixed (kN.fok) (eG rfl) fun l K r h => by
 dsimp only [kN.app] at h
 split at h
 ·rename_i a b c d
  exact fin (enc := kN.enc) h rfl fun y h => by
   exact via (if (a == 0) = true then (if (decide (d > 0)) = false then (if (d == 0) = true then (some (.v (.bool c))) else (some (.v (.bool false)))) else (some (.v (.bool true)))) else (if (a == 1) = true then (some (.v (.bool (decide (d ≥ 0))))) else (if (a == 3) = true then (some (.v (.bool (!b)))) else (if (a == 4) = true then (some (.v (.bool b))) else (if (a == 5) = true then (some (.v (.bool (!c)))) else (some (.v (.bool false)))))))) (by rw [kN.f] at h; exact Eq.trans (Eq.symm mt2) h)
 ·cases h
def aX.enc (r : ByteArray × Bool × Int) : AV := .tup [.v (.string r.1), .v (.bool r.2.1), .v (.int .i64 r.2.2)]
def aX.app (k : Nat) : List AV → (AV → Option AV) → Option AV := fun l K => match l with
 | [.v (.int .i64 a), .v (.int .i64 b), .v (.int .u64 c), .v (.int .i64 d)] => (aX.f k a b c d).bind fun r => K (aX.enc r)
 | _ => none
def aX.p0 (k : Nat) : Pt := ⟨[.c [1, 1, 1, 1, 1, 1, 1, 1, 1, 1, 1, 1, 1, 0], .c [1, 1, 1, 1, 1, 1, 1, 1, 1, 1, 1, 1, 1, 1]], [(3, none, []), (16, none, []), (19, some .u64, []), (22, none, [])], [(14, [])], [], [11], fun s => match s with
 | ⟨[(3, .v (.int .i64 a)), (16, .v (.int .i64 b)), (19, .ro true .u64 c), (22, .v (.bool d)), (14, .ptr 14 0), (11, .ptr 11 0)], [(14, .cells [.v (.bool e), .v (.int .u64 f), .v (.int .i64 g), .v (.int .u64 i)]), (11, .cells [.top, .top, .top, .top])]⟩ => (aX.j2 k a b c d e f g i).map aX.enc
 | _ => none⟩
def aX.p1 (k : Nat) : Pt := ⟨[.c [1, 1, 1, 1, 0, 1], .c [1, 1, 1, 1, 1]], [(0, none, []), (1, none, []), (2, none, []), (3, none, []), (49, none, [])], [], [], [11], fun s => match s with
 | ⟨[(0, .v (.int .i64 a)), (1, .v (.int .i64 b)), (2, .v (.int .u64 c)), (3, .v (.int .i64 d)), (49, .v (.bool e)), (11, .ptr 11 0)], [(11, .cells [.top, .top, .top, .top])]⟩ => (aX.j0 k a b c d e).map aX.enc
 | _ => none⟩
def aX.p2 (k : Nat) : Pt := ⟨[.c [1, 1, 1, 1, 1, 1, 1, 1, 1, 1, 1, 1, 0, 1], .c [1, 1, 1, 1, 1, 1, 1, 1, 1, 1, 1, 1, 1]], [(3, none, []), (16, none, []), (19, some .u64, []), (22, none, []), (115, none, [])], [(14, [])], [], [11], fun s => match s with
 | ⟨[(3, .v (.int .i64 a)), (16, .v (.int .i64 b)), (19, .ro true .u64 c), (22, .v (.bool d)), (115, .v (.bool e)), (14, .ptr 14 0), (11, .ptr 11 0)], [(14, .cells [.v (.bool f), .v (.int .u64 g), .v (.int .i64 i), .v (.int .u64 j)]), (11, .cells [.top, .top, .top, .top])]⟩ => (aX.j1 k a b c d e f g i j).map aX.enc
 | _ => none⟩
def aX.E (k : Nat) : Env := ⟨140, tys, [(52, bY.app), (53, fH.app), (72, bW.app), (90, dA.app), (76, dG.app), (78, gX.app), (74, bD.app k), (98, strings_HasSuffix.app), (92, strings_Repeat.app), (99, fB.app), (100, bI.app k), (101, gZ.app), (89, fV.app), (103, iD.app), (102, kN.app), (104, iV.app)], [(23, aX.p0 k), (100049, aX.p1 k), (100115, aX.p2 k)], [(13, [0, 1, 2, 3, 4, 5, 6, 7, 8, 9, 10, 11]), (21, [0, 1, 2, 3, 4, 5, 6, 7, 8, 9, 10, 11, 12, 13, 14])], false, [9, 4, 24], false⟩
theorem aX.fok (k : Nat) : FO 26 f26 (dJ f26) (aX.E k) := fo fQ func26 ⟨bY.ok, ⟨fH.ok, ⟨bW.ok, ⟨dA.ok, ⟨dG.ok, ⟨gX.ok, ⟨bD.ok k, ⟨strings_HasSuffix.ok, ⟨strings_Repeat.ok, ⟨fB.ok, ⟨bI.ok k, ⟨gZ.ok, ⟨fV.ok, ⟨iD.ok, ⟨kN.ok, ⟨iV.ok, trivial⟩⟩⟩⟩⟩⟩⟩⟩⟩⟩⟩⟩⟩⟩⟩⟩
set_option maxHeartbeats 2000000 in
theorem aX.s0 : jJ f26 aX.E aX.p0 := fun k s r h => by
 dsimp only [aX.p0] at h
 split at h
 ·rename_i a b c d e f g i
  rcases k with _ | k
  ·cases h
  exact ⟨k, rfl, via ((dA.f c).bind fun j => (if (decide ((j.1.size : Int) > a)) = true then (if (0 : Int) ≤ a then (if (a : Int) ≤ (j.1.size : Int) then ((dG.f e f g i).bind fun m => ((gX.f (j.1.extract 0 (a : Int).toNat) (wrap64 (b + 1))).bind fun n => (if m.size + n.size ≤ 9223372036854775807 then (some (.tup [.v (.string (m ++ n)), .v (.bool d), .v (.int .i64 0)])) else (none)))) else (none)) else (none)) else ((dG.f e f g i).bind fun o => ((gX.f j.1 b).bind fun p => (if o.size + p.size ≤ 9223372036854775807 then (some (.tup [.v (.string (o ++ p)), .v (.bool d), .v (.int .i64 0)])) else (none)))))) (by rw [aX.j2] at h; exact Eq.trans (Eq.symm mt2) h)⟩
 ·cases h
set_option maxHeartbeats 2000000 in
theorem aX.s1 : jJ f26 aX.E aX.p1 := fun k s r h => by
 dsimp only [aX.p1] at h
 split at h
 ·rename_i a b c d e
  rcases k with _ | k
  ·cases h
  exact ⟨k, rfl, via (if e = true then (some (.tup [.v (.string (⟨#[]⟩ : ByteArray)), .v (.bool false), .v (.int .i64 7)])) else ((bD.f k a c).bind fun f => ((strings_HasSuffix.f f.2.2.2.2 (⟨#[48]⟩ : ByteArray)).bind fun g => (if g = true then (if (0 : Int) ≤ wrap64 ((f.2.2.2.2.size : Int) - 1) then (if (wrap64 ((f.2.2.2.2.size : Int) - 1) : Int) ≤ (f.2.2.2.2.size : Int) then ((strings_Repeat.f (⟨#[48]⟩ : ByteArray) d).bind fun i => ((gX.f i 0).bind fun j => (if (f.2.2.2.2.extract 0 (wrap64 ((f.2.2.2.2.size : Int) - 1) : Int).toNat).size + j.size ≤ 9223372036854775807 then (some (.tup [.v (.string ((f.2.2.2.2.extract 0 (wrap64 ((f.2.2.2.2.size : Int) - 1) : Int).toNat) ++ j)), .v (.bool false), .v (.int .i64 0)])) else (none)))) else (none)) else (none)) else (if (f.2.2.2.2.toList != (⟨#[]⟩ : ByteArray).toList) = true then (some (.tup [.v (.string f.2.2.2.2), .v (.bool false), .v (.int .i64 0)])) else ((fB.f f.1 f.2.1 f.2.2.1 f.2.2.2.1).bind fun m => ((bI.f k f.2.1 f.2.2.1 (wrap64 ((wrap64 (d - 1)) - m))).bind fun n => ((gZ.f n.1 n.2).bind fun o => ((fV.f o.2.1 1).bind fun p => (if (decide ((o.2.1.length : Int) > 0)) = true then (if (0 : Int) ≤ 0 then (if (0 : Int) < (o.1.length : Int) then (if (2 : Int) = 0 then (none) else ((iD.f p.1 n.2).bind fun q => ((kN.f b f.1 ((Int.tmod (rd o.1 0) 2) == 1) q).bind fun t => ((aX.j1 k d m o.1 (decide ((o.2.1.length : Int) > 0)) t f.1 f.2.1 f.2.2.1 f.2.2.2.1).map aX.enc)))) else (none)) else (none)) else ((aX.j1 k d m o.1 (decide ((o.2.1.length : Int) > 0)) false f.1 f.2.1 f.2.2.1 f.2.2.2.1).map aX.enc))))))))))) (by rw [aX.j0] at h; exact Eq.trans (Eq.symm mt2) h)⟩
 ·cases h
set_option maxHeartbeats 2000000 in
theorem aX.s2 : jJ f26 aX.E aX.p2 := fun k s r h => by
 dsimp only [aX.p2] at h
 split at h
 ·rename_i a b c d e f g i j
  rcases k with _ | k
  ·cases h
  exact ⟨k, rfl, via (if e = true then ((iV.f c ([1] : List Int)).bind fun m => ((aX.j2 k a b m d f g i j).map aX.enc)) else ((aX.j2 k a b c d f g i j).map aX.enc)) (by rw [aX.j1] at h; exact Eq.trans (Eq.symm mt2) h)⟩
 ·cases h
theorem aX.pts : ∀ k, jE prog (dJ f26) (aX.E k) GOk (Fin prog f26) := iT stays mixed aX.fok [(23, aX.p0), (100049, aX.p1), (100115, aX.p2)] ⟨aX.s0, aX.s1, aX.s2, trivial⟩
set_option maxHeartbeats 2000000 in
theorem aX.ok (k : Nat) : AO 26 (aX.app k) := fA stays mixed (aX.fok k) (aX.pts k) fun l K r h => by
 dsimp only [aX.app] at h
 split at h
 ·rename_i a b c d
  exact fin (enc := aX.enc) h rfl fun y h => by
   exact via ((bY.f a).bind fun e => (if (e.2.2.2.2 != 0) = true then (some (.tup [.v (.string (⟨#[]⟩ : ByteArray)), .v (.bool false), .v (.int .i64 e.2.2.2.2)])) else ((fH.f b).bind fun f => (if (!f) = true then (some (.tup [.v (.string (⟨#[]⟩ : ByteArray)), .v (.bool false), .v (.int .i64 3)])) else ((bW.f a c).bind fun g => (if (g != 0) = true then (some (.tup [.v (.string (⟨#[]⟩ : ByteArray)), .v (.bool false), .v (.int .i64 g)])) else (if (decide (d < 1)) = false then ((aX.j0 k a b c d (decide (d > 1200))).map aX.enc) else ((aX.j0 k a b c d true).map aX.enc)))))))) (by rw [aX.f] at h; exact Eq.trans (Eq.symm mt2) h)
 ·cases h
def bU.enc (r : Int × Int × Int × Int) : AV := .tup [.v (.int .u64 r.1), .v (.int .u64 r.2.1), .v (.int .u64 r.2.2.1), .v (.int .u64 r.2.2.2)]
def bU.app : List AV → (AV → Option AV) → Option AV := fun l K => match l with
 | [.v (.int .i64 a), .v (.int .u64 b)] => (bU.f a b).bind fun r => K (bU.enc r)
 | _ => none
def bU.E : Env := ⟨42, tys, [(145, bT.app)], [], [(4, [0, 1, 2, 3, 4, 5, 6, 7, 8, 9, 10, 11, 12, 13, 14, 15, 16, 17, 18, 19, 20])], false, [22, 22, 22, 22], false⟩
theorem bU.fok : FO 186 f186 (dJ f186) (bU.E) := fo fQ func186 ⟨bT.ok, trivial⟩
theorem bU.ok : AO 186 (bU.app) := fA stays mixed (bU.fok) (eG rfl) fun l K r h => by
 dsimp only [bU.app] at h
 split at h
 ·rename_i a b
  exact fin (enc := bU.enc) h rfl fun y h => by
   exact via ((bT.f a).bind fun c => (if (0 : Int) ≤ IntKind.wrap .u64 (wrap64 (c.1 - 1)) then (if (0 : Int) ≤ IntKind.wrap .u64 (wrap64 (c.2.1 - 1)) then (if (0 : Int) ≤ IntKind.wrap .u64 (wrap64 (c.2.1 - 1)) then (if (shl .u64 1 (IntKind.wrap .u64 (wrap64 (c.2.1 - 1))) : Int) = 0 then (none) else (some (.tup [.v (.int .u64 (Go.bits .and .u64 (shr .u64 b (IntKind.wrap .u64 (wrap64 (c.1 - 1)))) 1)), .v (.int .u64 (Go.bits .and .u64 (shr .u64 b (IntKind.wrap .u64 (wrap64 (c.2.1 - 1)))) (IntKind.wrap .u64 (wrap64 ((wrap64 (2 * c.2.2.2.1)) + 1))))), .v (.int .u64 (Int.tmod b (shl .u64 1 (IntKind.wrap .u64 (wrap64 (c.2.1 - 1)))))), .v (.int .u64 (IntKind.wrap .u64 (wrap64 ((wrap64 (2 * c.2.2.2.1)) + 1))))]))) else (none)) else (none)) else (none))) (by rw [bU.f] at h; exact Eq.trans (Eq.symm mt2) h)
 ·cases h
def dN.enc (r : Bool) : AV := .v (.bool r)
def dN.app : List AV → (AV → Option AV) → Option AV := fun l K => match l with
 | [.v (.int .i64 a), .v (.int .u64 b)] => (dN.f a b).bind fun r => K (dN.enc r)
 | _ => none
def dN.E : Env := ⟨23, tys, [(186, bU.app)], [], [], false, [4], false⟩
theorem dN.fok : FO 105 f105 (dJ f105) (dN.E) := fo fQ func105 ⟨bU.ok, trivial⟩
theorem dN.ok : AO 105 (dN.app) := fA stays mixed (dN.fok) (eG rfl) fun l K r h => by
 dsimp only [dN.app] at h
 split at h
 ·rename_i a b
  exact fin (enc := dN.enc) h rfl fun y h => by
   exact via ((bU.f a b).bind fun c => (if (c.2.1 == 0) = true then (some (.v (.bool (c.2.2.1 == 0)))) else (some (.v (.bool false))))) (by rw [dN.f] at h; exact Eq.trans (Eq.symm mt2) h)
 ·cases h
def dD.enc (r : Int) : AV := .v (.int .u64 r)
def dD.app : List AV → (AV → Option AV) → Option AV := fun l K => match l with
 | [.v (.int .i64 a), .v (.int .u64 b)] => (dD.f a b).bind fun r => K (dD.enc r)
 | _ => none
def dD.E : Env := ⟨18, tys, [(186, bU.app)], [], [], false, [22], false⟩
theorem dD.fok : FO 108 f108 (dJ f108) (dD.E) := fo fQ func108 ⟨bU.ok, trivial⟩
theorem dD.ok : AO 108 (dD.app) := fA stays mixed (dD.fok) (eG rfl) fun l K r h => by
 dsimp only [dD.app] at h
 split at h
 ·rename_i a b
  exact fin (enc := dD.enc) h rfl fun y h => by
   exact via ((bU.f a b).bind fun c => (some (.v (.int .u64 c.1)))) (by rw [dD.f] at h; exact Eq.trans (Eq.symm mt2) h)
 ·cases h
def eP.enc (r : Bool) : AV := .v (.bool r)
def eP.app : List AV → (AV → Option AV) → Option AV := fun l K => match l with
 | [.v (.int .i64 a), .v (.int .u64 b)] => (eP.f a b).bind fun r => K (eP.enc r)
 | _ => none
def eP.E : Env := ⟨24, tys, [(186, bU.app)], [], [], false, [4], false⟩
theorem eP.fok : FO 163 f163 (dJ f163) (eP.E) := fo fQ func163 ⟨bU.ok, trivial⟩
theorem eP.ok : AO 163 (eP.app) := fA stays mixed (eP.fok) (eG rfl) fun l K r h => by
 dsimp only [eP.app] at h
 split at h
 ·rename_i a b
  exact fin (enc := eP.enc) h rfl fun y h => by
   exact via ((bU.f a b).bind fun c => (if (c.2.1 == c.2.2.2) = true then (some (.v (.bool (c.2.2.1 != 0)))) else (some (.v (.bool false))))) (by rw [eP.f] at h; exact Eq.trans (Eq.symm mt2) h)
 ·cases h
def eU.enc (r : Bool) : AV := .v (.bool r)
def eU.app : List AV → (AV → Option AV) → Option AV := fun l K => match l with
 | [.v (.int .i64 a), .v (.int .u64 b)] => (eU.f a b).bind fun r => K (eU.enc r)
 | _ => none
def eU.E : Env := ⟨24, tys, [(186, bU.app)], [], [], false, [4], false⟩
theorem eU.fok : FO 164 f164 (dJ f164) (eU.E) := fo fQ func164 ⟨bU.ok, trivial⟩
theorem eU.ok : AO 164 (eU.app) := fA stays mixed (eU.fok) (eG rfl) fun l K r h => by
 dsimp only [eU.app] at h
 split at h
 ·rename_i a b
  exact fin (enc := eU.enc) h rfl fun y h => by
   exact via ((bU.f a b).bind fun c => (if (c.2.1 == c.2.2.2) = true then (some (.v (.bool (c.2.2.1 == 0)))) else (some (.v (.bool false))))) (by rw [eU.f] at h; exact Eq.trans (Eq.symm mt2) h)
 ·cases h
def aK.enc (r : ByteArray) : AV := .v (.string r)
def aK.app (k : Nat) : List AV → (AV → Option AV) → Option AV := fun l K => match l with
 | [.v (.int .i64 a), .v (.int .u64 b)] => (aK.f k a b).bind fun r => K (aK.enc r)
 | _ => none
def aK.p0 (k : Nat) : Pt := ⟨[.c [1, 1, 1, 0, 0, 0], .c [1, 1, 1, 0, 0, 1], .b 0, .c [1, 1, 1, 1]], [(0, none, []), (1, none, []), (5, none, [])], [], [], [], fun s => match s with
 | ⟨[(0, .v (.int .i64 a)), (1, .v (.int .u64 b)), (5, .v (.string c))], []⟩ => (aK.j0 k a b c).map aK.enc
 | _ => none⟩
def aK.E (k : Nat) : Env := ⟨26, tys, [(108, dD.app), (163, eP.app), (164, eU.app), (105, dN.app)], [(4, aK.p0 k)], [], false, [9], false⟩
theorem aK.fok (k : Nat) : FO 80 f80 (dJ f80) (aK.E k) := fo fQ func80 ⟨dD.ok, ⟨eP.ok, ⟨eU.ok, ⟨dN.ok, trivial⟩⟩⟩⟩
theorem aK.s0 : jJ f80 aK.E aK.p0 := fun k s r h => by
 dsimp only [aK.p0] at h
 split at h
 ·rename_i a b c
  rcases k with _ | k
  ·cases h
  exact ⟨k, rfl, via ((eP.f a b).bind fun d => (if d = true then (some (.v (.string (⟨#[110, 97, 110]⟩ : ByteArray)))) else ((eU.f a b).bind fun e => (if e = true then (if c.size + (⟨#[105, 110, 102]⟩ : ByteArray).size ≤ 9223372036854775807 then (some (.v (.string (c ++ (⟨#[105, 110, 102]⟩ : ByteArray))))) else (none)) else ((dN.f a b).bind fun f => (if f = true then (if c.size + (⟨#[48]⟩ : ByteArray).size ≤ 9223372036854775807 then (some (.v (.string (c ++ (⟨#[48]⟩ : ByteArray))))) else (none)) else (some (.v (.string (⟨#[]⟩ : ByteArray)))))))))) (by rw [aK.j0] at h; exact Eq.trans (Eq.symm mt2) h)⟩
 ·cases h
theorem aK.pts : ∀ k, jE prog (dJ f80) (aK.E k) GOk (Fin prog f80) := iT stays mixed aK.fok [(4, aK.p0)] ⟨aK.s0, trivial⟩
theorem aK.ok (k : Nat) : AO 80 (aK.app k) := fA stays mixed (aK.fok k) (aK.pts k) fun l K r h => by
 dsimp only [aK.app] at h
 split at h
 ·rename_i a b
  exact fin (enc := aK.enc) h rfl fun y h => by
   exact via ((dD.f a b).bind fun c => (if (c == 1) = true then ((aK.j0 k a b (⟨#[45]⟩ : ByteArray)).map aK.enc) else ((aK.j0 k a b (⟨#[]⟩ : ByteArray)).map aK.enc))) (by rw [aK.f] at h; exact Eq.trans (Eq.symm mt2) h)
 ·cases h
def dZ.enc (r : Int × Int) : AV := .tup [.v (.int .u64 r.1), .v (.int .i64 r.2)]
def dZ.app : List AV → (AV → Option AV) → Option AV := fun l K => match l with
 | [.v (.int .i64 a), .v (.int .u64 b)] => (dZ.f a b).bind fun r => K (dZ.enc r)
 | _ => none
def dZ.E : Env := ⟨51, tys, [(145, bT.app), (186, bU.app)], [], [(4, [0, 1, 2, 3, 4, 5, 6, 7, 8]), (5, [0, 1, 2, 3, 4, 5, 6, 7, 8, 9, 10, 11, 12, 13, 14, 15, 16, 17, 18])], false, [22, 3], false⟩
theorem dZ.fok : FO 165 f165 (dJ f165) (dZ.E) := fo fQ func165 ⟨bT.ok, ⟨bU.ok, trivial⟩⟩
theorem dZ.ok : AO 165 (dZ.app) := fA stays mixed (dZ.fok) (eG rfl) fun l K r h => by
 dsimp only [dZ.app] at h
 split at h
 ·rename_i a b
  exact fin (enc := dZ.enc) h rfl fun y h => by
   exact via ((bT.f a).bind fun c => ((bU.f a b).bind fun d => (if (d.2.1 == 0) = true then (some (.tup [.v (.int .u64 d.2.2.1), .v (.int .i64 (wrap64 ((wrap64 (c.2.2.1 - c.2.1)) + 1)))])) else (if (0 : Int) ≤ IntKind.wrap .u64 (wrap64 (c.2.1 - 1)) then (some (.tup [.v (.int .u64 (IntKind.wrap .u64 ((shl .u64 1 (IntKind.wrap .u64 (wrap64 (c.2.1 - 1)))) + d.2.2.1))), .v (.int .i64 (wrap64 ((wrap64 ((wrap64 ((wrap64 ((wrap64 (d.2.1)) - 1)) + c.2.2.1)) - c.2.1)) + 1)))])) else (none))))) (by rw [dZ.f] at h; exact Eq.trans (Eq.symm mt2) h)
 ·cases h
def dB.enc (r : List Int × List Int) : AV := .tup [.ro true .u64 r.1, .ro true .u64 r.2]
def dB.app (k : Nat) : List AV → (AV → Option AV) → Option AV := fun l K => match l with
 | [.v (.int .i64 a), .v (.int .u64 b)] => (dB.f k a b).bind fun r => K (dB.enc r)
 | _ => none
def dB.E (k : Nat) : Env := ⟨28, tys, [(165, dZ.app), (166, dL.app k), (154, bK.app)], [], [], false, [73, 73], false⟩
theorem dB.fok (k : Nat) : FO 81 f81 (dJ f81) (dB.E k) := fo fQ func81 ⟨dZ.ok, ⟨dL.ok k, ⟨bK.ok, trivial⟩⟩⟩
theorem dB.ok (k : Nat) : AO 81 (dB.app k) := fA stays mixed (dB.fok k) (eG rfl) fun l K r h => by
 dsimp only [dB.app] at h
 split at h
 ·rename_i a b
  exact fin (enc := dB.enc) h rfl fun y h => by
   exact via ((dZ.f a b).bind fun c => (if (decide (c.2 ≥ 0)) = true then ((dL.f k ([c.1] : List Int) c.2).bind fun d => (some (.tup [.ro true .u64 d, .ro true .u64 ([1] : List Int)]))) else ((bK.f ([c.1] : List Int)).bind fun e => ((dL.f k ([1] : List Int) (wrap64 (-c.2))).bind fun f => (some (.tup [.ro true .u64 e, .ro true .u64 f])))))) (by rw [dB.f] at h; exact Eq.trans (Eq.symm mt2) h)
 ·cases h
def bM.enc (r : Int) : AV := .v (.int .i64 r)
def bM.app (k : Nat) : List AV → (AV → Option AV) → Option AV := fun l K => match l with
 | [.ro false .u64 a, .ro false .u64 b] => (bM.f k a b).bind fun r => K (bM.enc r)
 | _ => none
def bM.p0 (k : Nat) : Pt := ⟨[.c [1, 1, 1, 1, 0, 0, 0, 0, 0], .c [1, 1, 1, 1, 0, 0, 0, 0, 1], .c [1, 1, 1, 1, 0, 0, 0, 1], .l [1, 1, 1, 1, 0, 0, 0], .b 0, .c [1, 1, 1, 1, 1]], [(0, some .u64, [false]), (1, some .u64, [false]), (9, none, [])], [], [], [], fun s => match s with
 | ⟨[(0, .ro false .u64 a), (1, .ro false .u64 b), (9, .v (.int .i64 c))], []⟩ => (bM.l0 k a b c).map bM.enc
 | _ => none⟩
def bM.E (k : Nat) : Env := ⟨37, tys, [(167, dw.app k), (68, ah.app k), (168, aU.app k), (69, bZ.app k)], [(6, bM.p0 k)], [], false, [3], false⟩
theorem bM.fok (k : Nat) : FO 82 f82 (dJ f82) (bM.E k) := fo fQ func82 ⟨dw.ok k, ⟨ah.ok k, ⟨aU.ok k, ⟨bZ.ok k, trivial⟩⟩⟩⟩
theorem bM.s0 : jJ f82 bM.E bM.p0 := fun k s r h => by
 dsimp only [bM.p0] at h
 split at h
 ·rename_i a b c
  rcases k with _ | k
  ·cases h
  exact ⟨k, rfl, via ((aU.f k a b).bind fun d => (if (decide (d < 0)) = true then ((bZ.f k a ([10] : List Int)).bind fun e => ((bM.l0 k e b (wrap64 (c - 1))).map bM.enc)) else (some (.v (.int .i64 c))))) (by rw [bM.l0] at h; exact Eq.trans (Eq.symm mt2) h)⟩
 ·cases h
theorem bM.pts : ∀ k, jE prog (dJ f82) (bM.E k) GOk (Fin prog f82) := iT stays mixed bM.fok [(6, bM.p0)] ⟨bM.s0, trivial⟩
theorem bM.ok (k : Nat) : AO 82 (bM.app k) := fA stays mixed (bM.fok k) (bM.pts k) fun l K r h => by
 dsimp only [bM.app] at h
 split at h
 ·rename_i a b
  exact fin (enc := bM.enc) h rfl fun y h => by
   exact via ((dw.f k a b).bind fun c => (if (decide ((c.1.length : Int) > 0)) = true then ((ah.f k c.1).bind fun d => (some (.v (.int .i64 (wrap64 ((d.1.size : Int) - 1)))))) else ((bM.l0 k a b 0).map bM.enc))) (by rw [bM.f] at h; exact Eq.trans (Eq.symm mt2) h)
 ·cases h
def bg.enc (r : List Int × Int) : AV := .tup [.ro true .u64 r.1, .v (.int .i64 r.2)]
def bg.app (k : Nat) : List AV → (AV → Option AV) → Option AV := fun l K => match l with
 | [.ro false .u64 a, .ro false .u64 b, .v (.int .i64 c)] => (bg.f k a b c).bind fun r => K (bg.enc r)
 | _ => none
def bg.p0 (k : Nat) : Pt := ⟨[.c [1, 1, 0], .c [1, 1, 1]], [(0, some .u64, [false]), (1, some .u64, [false])], [], [], [], fun s => match s with
 | ⟨[(0, .ro false .u64 a), (1, .ro false .u64 b)], []⟩ => (bg.j0 k a b).map bg.enc
 | _ => none⟩
def bg.E (k : Nat) : Env := ⟨37, tys, [(70, dR.app k), (69, bZ.app k), (167, dw.app k), (166, dL.app k), (168, aU.app k)], [(4, bg.p0 k)], [], false, [73, 3], false⟩
theorem bg.fok (k : Nat) : FO 83 f83 (dJ f83) (bg.E k) := fo fQ func83 ⟨dR.ok k, ⟨bZ.ok k, ⟨dw.ok k, ⟨dL.ok k, ⟨aU.ok k, trivial⟩⟩⟩⟩⟩
theorem bg.s0 : jJ f83 bg.E bg.p0 := fun k s r h => by
 dsimp only [bg.p0] at h
 split at h
 ·rename_i a b
  rcases k with _ | k
  ·cases h
  exact ⟨k, rfl, via ((dw.f k a b).bind fun c => (if ((c.2.length : Int) == 0) = true then (some (.tup [.ro true .u64 c.1, .v (.int .i64 0)])) else ((dL.f k c.2 1).bind fun d => ((aU.f k d b).bind fun e => (some (.tup [.ro true .u64 c.1, .v (.int .i64 (wrap64 (2 + e)))])))))) (by rw [bg.j0] at h; exact Eq.trans (Eq.symm mt2) h)⟩
 ·cases h
theorem bg.pts : ∀ k, jE prog (dJ f83) (bg.E k) GOk (Fin prog f83) := iT stays mixed bg.fok [(4, bg.p0)] ⟨bg.s0, trivial⟩
theorem bg.ok (k : Nat) : AO 83 (bg.app k) := fA stays mixed (bg.fok k) (bg.pts k) fun l K r h => by
 dsimp only [bg.app] at h
 split at h
 ·rename_i a b c
  exact fin (enc := bg.enc) h rfl fun y h => by
   exact via (if (decide (c ≥ 0)) = true then ((dR.f k c).bind fun d => ((bZ.f k a d).bind fun e => ((bg.j0 k e b).map bg.enc))) else ((dR.f k (wrap64 (-c))).bind fun f => ((bZ.f k b f).bind fun g => ((bg.j0 k a g).map bg.enc)))) (by rw [bg.f] at h; exact Eq.trans (Eq.symm mt2) h)
 ·cases h
def b_.enc (r : ByteArray) : AV := .v (.string r)
def b_.app : List AV → (AV → Option AV) → Option AV := fun l K => match l with
 | [.v (.int .i64 a), .v (.int .u64 b)] => (b_.f a b).bind fun r => K (b_.enc r)
 | _ => none
def b_.E : Env := ⟨9, tys, [(108, dD.app)], [], [], false, [9], false⟩
theorem b_.fok : FO 86 f86 (dJ f86) (b_.E) := fo fQ func86 ⟨dD.ok, trivial⟩
theorem b_.ok : AO 86 (b_.app) := fA stays mixed (b_.fok) (eG rfl) fun l K r h => by
 dsimp only [b_.app] at h
 split at h
 ·rename_i a b
  exact fin (enc := b_.enc) h rfl fun y h => by
   exact via ((dD.f a b).bind fun c => (if (c == 1) = true then (some (.v (.string (⟨#[45]⟩ : ByteArray)))) else (some (.v (.string (⟨#[]⟩ : ByteArray)))))) (by rw [b_.f] at h; exact Eq.trans (Eq.symm mt2) h)
 ·cases h
def cO.enc (r : ByteArray) : AV := .v (.string r)
def cO.app (k : Nat) : List AV → (AV → Option AV) → Option AV := fun l K => match l with
 | [.v (.int .i64 a)] => (cO.f k a).bind fun r => K (cO.enc r)
 | _ => none
def cO.E (k : Nat) : Env := ⟨19, tys, [(170, cO.app k), (68, ah.app k)], [], [], false, [9], false⟩
theorem cO.fok (k : Nat) (ih : AO 170 (cO.app k)) : FO 170 f170 (dJ f170) (cO.E k) := fo fQ func170 ⟨ih, ⟨ah.ok k, trivial⟩⟩
theorem cO.ok : ∀ k, AO 170 (cO.app k)
 | 0 => ⟨⟨f170, func170, by kernel_rfl, by kernel_rfl⟩, fun l args w O K r hG hO hl h => by
  dsimp only [cO.app] at h
  split at h
  ·cases h
  ·cases h⟩
 | k + 1 => fA stays mixed (cO.fok k (cO.ok k)) (eG rfl) fun l K r h => by
  dsimp only [cO.app] at h
  split at h
  ·rename_i a
   exact fin (enc := cO.enc) h rfl fun y h => by
    exact via (if (decide (a < 0)) = true then ((cO.f k (wrap64 (-a))).bind fun b => (if (⟨#[45]⟩ : ByteArray).size + b.size ≤ 9223372036854775807 then (some (.v (.string ((⟨#[45]⟩ : ByteArray) ++ b)))) else (none))) else ((ah.f k ([IntKind.wrap .u64 (a)] : List Int)).bind fun c => (some (.v (.string c.1))))) (by rw [cO.f] at h; exact Eq.trans (Eq.symm mt2) h)
  ·cases h
def dn.enc (r : ByteArray) : AV := .v (.string r)
def dn.app (k : Nat) : List AV → (AV → Option AV) → Option AV := fun l K => match l with
 | [.v (.string a), .v (.int .i64 b)] => (dn.f k a b).bind fun r => K (dn.enc r)
 | _ => none
def dn.E (k : Nat) : Env := ⟨21, tys, [(170, cO.app k)], [], [], false, [9], false⟩
theorem dn.fok (k : Nat) : FO 87 f87 (dJ f87) (dn.E k) := fo fQ func87 ⟨cO.ok k, trivial⟩
theorem dn.ok (k : Nat) : AO 87 (dn.app k) := fA stays mixed (dn.fok k) (eG rfl) fun l K r h => by
 dsimp only [dn.app] at h
 split at h
 ·rename_i a b
  exact fin (enc := dn.enc) h rfl fun y h => by
   exact via (if (0 : Int) ≤ 1 then (if (1 : Int) ≤ (a.size : Int) then (if (decide ((a.size : Int) > 1)) = true then (if (0 : Int) ≤ 1 then (if (1 : Int) ≤ (a.size : Int) then (if (⟨#[46]⟩ : ByteArray).size + (a.extract (1 : Int).toNat ((a.size : Int) : Int).toNat).size ≤ 9223372036854775807 then (if (a.extract 0 (1 : Int).toNat).size + ((⟨#[46]⟩ : ByteArray) ++ (a.extract (1 : Int).toNat ((a.size : Int) : Int).toNat)).size ≤ 9223372036854775807 then (if ((a.extract 0 (1 : Int).toNat) ++ ((⟨#[46]⟩ : ByteArray) ++ (a.extract (1 : Int).toNat ((a.size : Int) : Int).toNat))).size + (⟨#[101]⟩ : ByteArray).size ≤ 9223372036854775807 then ((cO.f k b).bind fun c => (if (((a.extract 0 (1 : Int).toNat) ++ ((⟨#[46]⟩ : ByteArray) ++ (a.extract (1 : Int).toNat ((a.size : Int) : Int).toNat))) ++ (⟨#[101]⟩ : ByteArray)).size + c.size ≤ 9223372036854775807 then (some (.v (.string ((((a.extract 0 (1 : Int).toNat) ++ ((⟨#[46]⟩ : ByteArray) ++ (a.extract (1 : Int).toNat ((a.size : Int) : Int).toNat))) ++ (⟨#[101]⟩ : ByteArray)) ++ c)))) else (none))) else (none)) else (none)) else (none)) else (none)) else (none)) else (if (a.extract 0 (1 : Int).toNat).size + (⟨#[101]⟩ : ByteArray).size ≤ 9223372036854775807 then ((cO.f k b).bind fun d => (if ((a.extract 0 (1 : Int).toNat) ++ (⟨#[101]⟩ : ByteArray)).size + d.size ≤ 9223372036854775807 then (some (.v (.string (((a.extract 0 (1 : Int).toNat) ++ (⟨#[101]⟩ : ByteArray)) ++ d)))) else (none))) else (none))) else (none)) else (none)) (by rw [dn.f] at h; exact Eq.trans (Eq.symm mt2) h)
 ·cases h
def aV.enc (r : ByteArray) : AV := .v (.string r)
def aV.app (k : Nat) : List AV → (AV → Option AV) → Option AV := fun l K => match l with
 | [.v (.int .i64 a)] => (aV.f k a).bind fun r => K (aV.enc r)
 | _ => none
def aV.p0 (k : Nat) : Pt := ⟨[.c [1, 1, 0, 0, 0, 0, 0], .c [1, 1, 0, 0, 0, 0, 1], .c [1, 1, 0, 0, 0, 1], .l [1, 1, 0, 0, 0], .b 0, .c [1, 1, 1]], [(0, none, []), (3, none, [])], [], [], [], fun s => match s with
 | ⟨[(0, .v (.int .i64 a)), (3, .v (.string b))], []⟩ => (aV.l0 k a b).map aV.enc
 | _ => none⟩
def aV.E (k : Nat) : Env := ⟨11, tys, [], [(2, aV.p0 k)], [], false, [9], false⟩
theorem aV.fok (k : Nat) : FO 106 f106 (dJ f106) (aV.E k) := fo fQ func106 trivial
theorem aV.s0 : jJ f106 aV.E aV.p0 := fun k s r h => by
 dsimp only [aV.p0] at h
 split at h
 ·rename_i a b
  rcases k with _ | k
  ·cases h
  exact ⟨k, rfl, via (if (decide ((b.size : Int) < a)) = true then (if b.size + (⟨#[48]⟩ : ByteArray).size ≤ 9223372036854775807 then ((aV.l0 k a (b ++ (⟨#[48]⟩ : ByteArray))).map aV.enc) else (none)) else (some (.v (.string b)))) (by rw [aV.l0] at h; exact Eq.trans (Eq.symm mt2) h)⟩
 ·cases h
theorem aV.pts : ∀ k, jE prog (dJ f106) (aV.E k) GOk (Fin prog f106) := iT stays mixed aV.fok [(2, aV.p0)] ⟨aV.s0, trivial⟩
theorem aV.ok (k : Nat) : AO 106 (aV.app k) := fA stays mixed (aV.fok k) (aV.pts k) fun l K r h => by
 dsimp only [aV.app] at h
 split at h
 ·rename_i a
  exact fin (enc := aV.enc) h rfl fun y h => by
   exact via ((aV.l0 k a (⟨#[]⟩ : ByteArray)).map aV.enc) (by rw [aV.f] at h; exact Eq.trans (Eq.symm mt2) h)
 ·cases h
def bF.enc (r : List Int) : AV := .ro false .u64 r
def bF.app (k : Nat) : List AV → (AV → Option AV) → Option AV := fun l K => match l with
 | [.v (.int .i64 a), .v (.bool b), .ro false .u64 c, .v (.int .i64 d)] => (bF.f k a b c d).bind fun r => K (bF.enc r)
 | _ => none
def bF.p0 (k : Nat) : Pt := ⟨[.c [1, 1, 0], .c [1, 1, 1]], [(0, none, []), (1, none, []), (2, some .u64, [false]), (3, none, []), (9, none, [])], [], [], [], fun s => match s with
 | ⟨[(0, .v (.int .i64 a)), (1, .v (.bool b)), (2, .ro false .u64 c), (3, .v (.int .i64 d)), (9, .v (.bool e))], []⟩ => (bF.j0 k a b c d e).map bF.enc
 | _ => none⟩
def bF.E (k : Nat) : Env := ⟨57, tys, [(84, aj.app k)], [(2, bF.p0 k)], [], true, [73], false⟩
theorem bF.fok (k : Nat) : FO 107 f107 (dJ f107) (bF.E k) := fo fQ func107 ⟨aj.ok k, trivial⟩
theorem bF.s0 : jJ f107 bF.E bF.p0 := fun k s r h => by
 dsimp only [bF.p0] at h
 split at h
 ·rename_i a b c d e
  rcases k with _ | k
  ·cases h
  exact ⟨k, rfl, via (if (a == 0) = true then (if (d == 3) = false then (if (d == 2) = true then (if (decide (d > 0)) = true then (if e = true then ((aj.f k c ([1] : List Int)).bind fun f => (some (.ro false .u64 f))) else (some (.ro false .u64 c))) else (some (.ro false .u64 c))) else (if (decide (d > 0)) = true then (some (.ro false .u64 c)) else (some (.ro false .u64 c)))) else (if (decide (d > 0)) = true then ((aj.f k c ([1] : List Int)).bind fun g => (some (.ro false .u64 g))) else (some (.ro false .u64 c)))) else (if (a == 1) = true then (if (decide (d > 0)) = true then (if (decide (d ≥ 2)) = true then ((aj.f k c ([1] : List Int)).bind fun i => (some (.ro false .u64 i))) else (some (.ro false .u64 c))) else (some (.ro false .u64 c))) else (if (a == 3) = true then (if (decide (d > 0)) = true then (if (!b) = true then ((aj.f k c ([1] : List Int)).bind fun j => (some (.ro false .u64 j))) else (some (.ro false .u64 c))) else (some (.ro false .u64 c))) else (if (a == 4) = true then (if (decide (d > 0)) = true then (if b = true then ((aj.f k c ([1] : List Int)).bind fun m => (some (.ro false .u64 m))) else (some (.ro false .u64 c))) else (some (.ro false .u64 c))) else (if (a == 5) = true then (if (decide (d > 0)) = true then (if (!e) = true then ((aj.f k c ([1] : List Int)).bind fun n => (some (.ro false .u64 n))) else (some (.ro false .u64 c))) else (some (.ro false .u64 c))) else (if (decide (d > 0)) = true then (some (.ro false .u64 c)) else (some (.ro false .u64 c)))))))) (by rw [bF.j0] at h; exact Eq.trans (Eq.symm mt2) h)⟩
 ·cases h
theorem bF.pts : ∀ k, jE prog (dJ f107) (bF.E k) GOk (Fin prog f107) := iT stays mixed bF.fok [(2, bF.p0)] ⟨bF.s0, trivial⟩
theorem bF.ok (k : Nat) : AO 107 (bF.app k) := fA stays mixed (bF.fok k) (bF.pts k) fun l K r h => by
 dsimp only [bF.app] at h
 split at h
 ·rename_i a b c d
  exact fin (enc := bF.enc) h rfl fun y h => by
   exact via (if (decide ((c.length : Int) > 0)) = true then (if (0 : Int) ≤ 0 then (if (0 : Int) < (c.length : Int) then (if (2 : Int) = 0 then (none) else ((bF.j0 k a b c d ((Int.tmod (rd c 0) 2) == 1)).map bF.enc)) else (none)) else (none)) else ((bF.j0 k a b c d false).map bF.enc)) (by rw [bF.f] at h; exact Eq.trans (Eq.symm mt2) h)
 ·cases h
def aY.enc (r : ByteArray × Bool × Int) : AV := .tup [.v (.string r.1), .v (.bool r.2.1), .v (.int .i64 r.2.2)]
def aY.app (k : Nat) : List AV → (AV → Option AV) → Option AV := fun l K => match l with
 | [.v (.int .i64 a), .v (.int .i64 b), .v (.int .u64 c), .v (.int .i64 d)] => (aY.f k a b c d).bind fun r => K (aY.enc r)
 | _ => none
def aY.p0 (k : Nat) : Pt := ⟨[.c [1, 1, 1, 0, 1], .c [1, 1, 1, 1]], [(0, none, []), (1, none, []), (2, none, []), (3, none, []), (33, none, [])], [], [], [], fun s => match s with
 | ⟨[(0, .v (.int .i64 a)), (1, .v (.int .i64 b)), (2, .v (.int .u64 c)), (3, .v (.int .i64 d)), (33, .v (.bool e))], []⟩ => (aY.j0 k a b c d e).map aY.enc
 | _ => none⟩
def aY.E (k : Nat) : Env := ⟨99, tys, [(62, aI.app k), (105, dN.app), (86, b_.app), (106, aV.app k), (87, dn.app k), (80, aK.app k), (81, dB.app k), (82, bM.app k), (83, bg.app k), (108, dD.app), (107, bF.app k), (68, ah.app k)], [(100033, aY.p0 k)], [], false, [9, 4, 3], false⟩
theorem aY.fok (k : Nat) : FO 27 f27 (dJ f27) (aY.E k) := fo fQ func27 ⟨aI.ok k, ⟨dN.ok, ⟨b_.ok, ⟨aV.ok k, ⟨dn.ok k, ⟨aK.ok k, ⟨dB.ok k, ⟨bM.ok k, ⟨bg.ok k, ⟨dD.ok, ⟨bF.ok k, ⟨ah.ok k, trivial⟩⟩⟩⟩⟩⟩⟩⟩⟩⟩⟩⟩
set_option maxHeartbeats 2000000 in
theorem aY.s0 : jJ f27 aY.E aY.p0 := fun k s r h => by
 dsimp only [aY.p0] at h
 split at h
 ·rename_i a b c d e
  rcases k with _ | k
  ·cases h
  exact ⟨k, rfl, via (if e = true then (some (.tup [.v (.string (⟨#[]⟩ : ByteArray)), .v (.bool false), .v (.int .i64 7)])) else ((dN.f a c).bind fun f => (if f = true then ((b_.f a c).bind fun g => ((aV.f k d).bind fun i => ((dn.f k i 0).bind fun j => (if g.size + j.size ≤ 9223372036854775807 then (some (.tup [.v (.string (g ++ j)), .v (.bool false), .v (.int .i64 0)])) else (none))))) else ((aK.f k a c).bind fun m => (if (m.toList != (⟨#[]⟩ : ByteArray).toList) = true then (some (.tup [.v (.string m), .v (.bool false), .v (.int .i64 0)])) else ((dB.f k a c).bind fun n => ((bM.f k n.1 n.2).bind fun o => ((bg.f k n.1 n.2 (wrap64 ((wrap64 (d - 1)) - o))).bind fun p => ((dD.f a c).bind fun q => ((bF.f k b (q == 1) p.1 p.2).bind fun t => ((ah.f k t).bind fun u => (if (decide ((u.1.size : Int) > d)) = true then (if (0 : Int) ≤ d then (if (d : Int) ≤ (u.1.size : Int) then ((b_.f a c).bind fun v => ((dn.f k (u.1.extract 0 (d : Int).toNat) (wrap64 (o + 1))).bind fun w => (if v.size + w.size ≤ 9223372036854775807 then (some (.tup [.v (.string (v ++ w)), .v (.bool (decide (p.2 > 0))), .v (.int .i64 0)])) else (none)))) else (none)) else (none)) else ((b_.f a c).bind fun x => ((dn.f k u.1 o).bind fun y => (if x.size + y.size ≤ 9223372036854775807 then (some (.tup [.v (.string (x ++ y)), .v (.bool (decide (p.2 > 0))), .v (.int .i64 0)])) else (none)))))))))))))))) (by rw [aY.j0] at h; exact Eq.trans (Eq.symm mt2) h)⟩
 ·cases h
theorem aY.pts : ∀ k, jE prog (dJ f27) (aY.E k) GOk (Fin prog f27) := iT stays mixed aY.fok [(100033, aY.p0)] ⟨aY.s0, trivial⟩
set_option maxHeartbeats 2000000 in
theorem aY.ok (k : Nat) : AO 27 (aY.app k) := fA stays mixed (aY.fok k) (aY.pts k) fun l K r h => by
 dsimp only [aY.app] at h
 split at h
 ·rename_i a b c d
  exact fin (enc := aY.enc) h rfl fun y h => by
   exact via ((aI.f k a b ([c] : List Int)).bind fun e => (if (e != 0) = true then (some (.tup [.v (.string (⟨#[]⟩ : ByteArray)), .v (.bool false), .v (.int .i64 e)])) else (if (decide (d < 1)) = false then ((aY.j0 k a b c d (decide (d > 1200))).map aY.enc) else ((aY.j0 k a b c d true).map aY.enc)))) (by rw [aY.f] at h; exact Eq.trans (Eq.symm mt2) h)
 ·cases h
def dO.enc (r : Bool) : AV := .v (.bool r)
def dO.app (k : Nat) : List AV → (AV → Option AV) → Option AV := fun l K => match l with
 | [.agg [.v (.int .i64 a), .v (.int .i64 b), .v (.int .u64 c), .v (.int .i64 d)]] => (dO.f k a b c d).bind fun r => K (dO.enc r)
 | _ => none
def dO.E (k : Nat) : Env := ⟨51, tys, [(26, aX.app k), (27, aY.app k), (16, dM.app k)], [], [], false, [4], false⟩
theorem dO.fok (k : Nat) : FO 8 f8 (dJ f8) (dO.E k) := fo fQ func8 ⟨aX.ok k, ⟨aY.ok k, ⟨dM.ok k, trivial⟩⟩⟩
set_option maxHeartbeats 2000000 in
theorem dO.ok (k : Nat) : AO 8 (dO.app k) := fA stays mixed (dO.fok k) (eG rfl) fun l K r h => by
 dsimp only [dO.app] at h
 split at h
 ·rename_i a b c d
  exact fin (enc := dO.enc) h rfl fun y h => by
   exact via ((aX.f k a b c d).bind fun e => ((aY.f k a b c d).bind fun f => ((dM.f k).bind fun g => (if g = true then (if (e.1.toList == f.1.toList) = true then (if (e.2.1 == f.2.1) = true then (some (.v (.bool (e.2.2 == f.2.2)))) else (some (.v (.bool false)))) else (some (.v (.bool false)))) else (some (.v (.bool false))))))) (by rw [dO.f] at h; exact Eq.trans (Eq.symm mt2) h)
 ·cases h
def jw.enc (r : Bool) : AV := .v (.bool r)
def jw.app (k : Nat) : List AV → (AV → Option AV) → Option AV := fun l K => match l with
 | [.v (.int .i64 a), .v (.int .u64 b), .ro false .u64 c, .v (.int .i64 d)] => (jw.f k a b c d).bind fun r => K (jw.enc r)
 | _ => none
def jw.E (k : Nat) : Env := ⟨39, tys, [(108, dD.app), (70, dR.app k), (69, bZ.app k), (71, dK.app k)], [], [], false, [4], false⟩
def gG.enc (r : ByteArray) : AV := .v (.string r)
def gG.app (k : Nat) : List AV → (AV → Option AV) → Option AV := fun l K => match l with
 | [.v (.string a), .v (.int .i64 b)] => (gG.f k a b).bind fun r => K (gG.enc r)
 | _ => none
def gG.E (k : Nat) : Env := ⟨37, tys, [(106, aV.app k)], [], [(5, [0, 1, 2, 3, 4, 5, 6, 7, 8, 9, 10])], false, [9], false⟩
def jO.enc (r : ByteArray × Int) : AV := .tup [.v (.string r.1), .v (.int .i64 r.2)]
def jO.app (k : Nat) : List AV → (AV → Option AV) → Option AV := fun l K => match l with
 | [.v (.int .i64 a), .v (.int .u64 b)] => (jO.f k a b).bind fun r => K (jO.enc r)
 | _ => none
def jO.p0 (k : Nat) : Pt := ⟨[.c [1, 1, 1, 1, 1, 1, 1, 1, 1, 0], .c [1, 1, 1, 1, 1, 1, 1, 1, 1, 1]], [(17, none, [])], [(7, [])], [], [], fun s => match s with
 | ⟨[(17, .v (.string a)), (7, .ptr 7 0)], [(7, .cells [.v (.bool b), .v (.int .u64 c), .v (.int .i64 d), .v (.int .u64 e)])]⟩ => (jO.j0 k a b c d e).map jO.enc
 | _ => none⟩
def jO.E (k : Nat) : Env := ⟨114, tys, [(72, bW.app), (74, bD.app k), (89, fV.app), (90, dA.app), (76, dG.app), (91, gV.app), (61, iF.app), (92, strings_Repeat.app), (93, jq.app)], [(17, jO.p0 k)], [(18, [0, 1, 2, 3, 4, 5, 6, 7, 8])], false, [9, 24], false⟩
def f_.enc (r : ByteArray × Int) : AV := .tup [.v (.string r.1), .v (.int .i64 r.2)]
def f_.app (k : Nat) : List AV → (AV → Option AV) → Option AV := fun l K => match l with
 | [.v (.int .i64 a), .v (.int .u64 b)] => (f_.f k a b).bind fun r => K (f_.enc r)
 | _ => none
def f_.p0 (k : Nat) : Pt := ⟨[.c [1, 1, 1, 1, 1, 1, 1, 1, 0, 0, 0, 0, 0], .c [1, 1, 1, 1, 1, 1, 1, 1, 0, 0, 0, 0, 1], .c [1, 1, 1, 1, 1, 1, 1, 1, 0, 0, 0, 1], .l [1, 1, 1, 1, 1, 1, 1, 1, 0, 0, 0], .b 0, .c [1, 1, 1, 1, 1, 1, 1, 1, 1]], [(0, none, []), (1, none, []), (10, none, []), (13, none, [])], [], [], [], fun s => match s with
 | ⟨[(0, .v (.int .i64 a)), (1, .v (.int .u64 b)), (10, .v (.int .i64 c)), (13, .v (.string d))], []⟩ => (f_.l0 k a b c d).map f_.enc
 | _ => none⟩
def f_.E (k : Nat) : Env := ⟨81, tys, [(79, dU.app), (80, aK.app k), (81, dB.app k), (94, aW.app k), (95, au.app k), (69, bZ.app k), (68, ah.app k), (86, b_.app), (88, gG.app k)], [(11, f_.p0 k)], [], false, [9, 3], false⟩
def bC.enc (r : ByteArray × Int) : AV := .tup [.v (.string r.1), .v (.int .i64 r.2)]
def bC.app (k : Nat) : List AV → (AV → Option AV) → Option AV := fun l K => match l with
 | [.v (.int .i64 a), .v (.int .u64 b)] => (bC.f k a b).bind fun r => K (bC.enc r)
 | _ => none
def bC.p0 (k : Nat) : Pt := ⟨[.c [1, 1, 1, 1, 1, 1, 1, 0, 0, 0, 0, 0], .c [1, 1, 1, 1, 1, 1, 1, 0, 0, 0, 0, 1], .b 1, .c [1, 1, 1, 1, 1, 1, 1, 0, 0, 1], .l [1, 1, 1, 1, 1, 1, 1, 0, 0], .b 0], [(0, none, []), (1, none, []), (8, some .u64, []), (9, some .u64, []), (10, none, []), (11, none, [])], [], [], [], fun s => match s with
 | ⟨[(0, .v (.int .i64 a)), (1, .v (.int .u64 b)), (8, .ro true .u64 c), (9, .ro true .u64 d), (10, .v (.int .i64 e)), (11, .v (.int .i64 f))], []⟩ => (bC.l11 k a b c d e f).map bC.enc
 | _ => none⟩
def bC.p1 (k : Nat) : Pt := ⟨[.c [1, 1, 1, 1, 1, 1, 1, 0, 0, 0, 0, 1, 1, 1, 1, 0, 0], .c [1, 1, 1, 1, 1, 1, 1, 0, 0, 0, 0, 1, 1, 1, 1, 0, 1], .c [1, 1, 1, 1, 1, 1, 1, 0, 0, 0, 0, 1, 1, 1, 1, 1], .b 1, .c [1, 1, 1, 1, 1, 1, 1, 0, 0, 1], .l [1, 1, 1, 1, 1, 1, 1, 0, 0], .b 0], [(0, none, []), (1, none, []), (10, none, []), (11, none, []), (12, some .u64, []), (13, none, []), (14, some .u64, []), (15, none, []), (16, none, [])], [], [], [], fun s => match s with
 | ⟨[(0, .v (.int .i64 a)), (1, .v (.int .u64 b)), (10, .v (.int .i64 c)), (11, .v (.int .i64 d)), (12, .ro true .u64 e), (13, .v (.int .i64 f)), (14, .ro true .u64 g), (15, .v (.bool i)), (16, .v (.bool j))], []⟩ => (bC.j15 k a b c d e f g i j).map bC.enc
 | _ => none⟩
def bC.p2 (k : Nat) : Pt := ⟨[.c [1, 1, 1, 1, 1, 1, 1, 0, 0, 0, 0, 1, 1, 1, 1, 1, 0], .c [1, 1, 1, 1, 1, 1, 1, 0, 0, 0, 0, 1, 1, 1, 1, 1, 1], .b 1, .c [1, 1, 1, 1, 1, 1, 1, 0, 0, 1], .l [1, 1, 1, 1, 1, 1, 1, 0, 0], .b 0], [(0, none, []), (1, none, []), (10, none, []), (11, none, []), (12, some .u64, [])], [], [], [], fun s => match s with
 | ⟨[(0, .v (.int .i64 a)), (1, .v (.int .u64 b)), (10, .v (.int .i64 c)), (11, .v (.int .i64 d)), (12, .ro true .u64 e)], []⟩ => (bC.j17 k a b c d e).map bC.enc
 | _ => none⟩
def bC.p3 (k : Nat) : Pt := ⟨[.c [1, 1, 1, 1, 1, 1, 1, 0, 0, 0, 0, 1, 1, 1, 1, 1, 1, 1, 0, 0, 0, 0, 0], .c [1, 1, 1, 1, 1, 1, 1, 0, 0, 0, 0, 1, 1, 1, 1, 1, 1, 1, 0, 0, 0, 0, 1], .c [1, 1, 1, 1, 1, 1, 1, 0, 0, 0, 0, 1, 1, 1, 1, 1, 1, 1, 0, 0, 0, 1], .l [1, 1, 1, 1, 1, 1, 1, 0, 0, 0, 0, 1, 1, 1, 1, 1, 1, 1, 0, 0, 0], .b 2, .c [1, 1, 1, 1, 1, 1, 1, 0, 0, 0, 0, 1, 1, 1, 1, 1, 1, 1, 1], .b 1, .c [1, 1, 1, 1, 1, 1, 1, 0, 0, 1], .l [1, 1, 1, 1, 1, 1, 1, 0, 0], .b 0], [(0, none, []), (1, none, []), (17, none, []), (19, none, [])], [], [], [], fun s => match s with
 | ⟨[(0, .v (.int .i64 a)), (1, .v (.int .u64 b)), (17, .v (.string c)), (19, .v (.int .i64 d))], []⟩ => (bC.l19 k a b c d).map bC.enc
 | _ => none⟩
def bC.E (k : Nat) : Env := ⟨141, tys, [(79, dU.app), (80, aK.app k), (81, dB.app k), (82, bM.app k), (83, bg.app k), (84, aj.app k), (85, jw.app k), (68, ah.app k), (86, b_.app), (87, dn.app k), (88, gG.app k)], [(11, bC.p0 k), (15, bC.p1 k), (17, bC.p2 k), (19, bC.p3 k)], [], false, [9, 3], false⟩
def jD.enc (r : Bool) : AV := .v (.bool r)
def jD.app (k : Nat) : List AV → (AV → Option AV) → Option AV := fun l K => match l with
 | [.v (.int .i64 a), .v (.int .u64 b)] => (jD.f k a b).bind fun r => K (jD.enc r)
 | _ => none
def jD.E (k : Nat) : Env := ⟨53, tys, [(20, dh.app k), (21, bC.app k), (16, dM.app k), (22, jO.app k), (23, f_.app k)], [], [], false, [4], false⟩
end Go.Proofs.YtafikkmnkeddpaaGreatDoor.P
namespace Go.Proofs.YtafikkmnkeddpaaGreatDoor
open Go.Lib Go.ChangeShapes Go.WideShapes Go.ChangeAt Go.RowKit
theorem caseRanges_eq : Go.Pinned.caseRanges = Lib.caseData := by kernel_rfl
theorem utf8First_eq : Go.Pinned.utf8First = Lib.firstData := by kernel_rfl
theorem zH {w : World} (h : Lib.VarReads Tryz.prog w "vernier/format.rows" Rows.laid_vernier_format_rows) : jF w := by
 obtain ⟨g, t, cs, fuel, p, hg, hty, hvar, hd⟩ := h
 obtain rfl := Option.some.inj ((show Tryz.prog.globalNamed "vernier/format.rows" = some 2 by kernel_rfl).symm.trans hg)
 obtain rfl := Option.some.inj ((show (Tryz.prog.globals[2]?).map (·.type) = some 181 by kernel_rfl).symm.trans hty)
 have hc : Tryz.prog.cellsOf 88 = 4 := by kernel_rfl
 have c1 : Tryz.prog.cellsOf 3 = 1 := by kernel_rfl
 have row : ∀ i, i < 4 → ∀ j, j < 4 → w.cell? ⟨2, 4 * i + j, none⟩ = some (.int .i64 (tq.getD (4 * i + j) 0)) := fun i hi j hj => by
  obtain ⟨fuel', d, q, hdi, he⟩ := Lib.array_elem Tryz.underlying181 hd i hi
  rw [hc] at he
  have hdd : d = .agg (([tq.getD (4 * i) 0, tq.getD (4 * i + 1) 0, tq.getD (4 * i + 2) 0, tq.getD (4 * i + 3) 0] : List Int).map fun z => .lit (.int .i64 z)) := by
   rcases (show i = 0 ∨ i = 1 ∨ i = 2 ∨ i = 3 by omega) with rfl | rfl | rfl | rfl <;> exact (Option.some.inj hdi).symm
  rw [hdd] at he
  have hcs := Lib.ints_of_struct Tryz.underlying88 (k := .i64) (fun j f hj => by
   match j, hj with
   | 0, hj => simp at hj; subst hj; exact ⟨Tryz.underlying3, rfl, c1⟩
   | 1, hj => simp at hj; subst hj; exact ⟨Tryz.underlying3, rfl, c1⟩
   | 2, hj => simp at hj; subst hj; exact ⟨Tryz.underlying3, rfl, c1⟩
   | 3, hj => simp at hj; subst hj; exact ⟨Tryz.underlying3, rfl, c1⟩
   | j + 4, hj => simp at hj) (by rw [hc]; rfl) he
  have e := congrArg (·[j]?) hcs
  simp only [List.getElem?_take, List.getElem?_drop] at e
  rw [World.var?_cell hg hvar (4 * i + j), ← Array.getElem?_toList]
  rw [if_pos hj, Nat.mul_comm i 4] at e
  rw [e]
  rcases (show j = 0 ∨ j = 1 ∨ j = 2 ∨ j = 3 by omega) with rfl | rfl | rfl | rfl <;> rfl
 refine ⟨block_lt_of_cell (row 0 (by decide) 0 (by decide)), fun j hj => ?_⟩
 have := row (j / 4) (by omega) (j % 4) (by omega)
 rwa [show 4 * (j / 4) + j % 4 = j by omega] at this
set_option maxRecDepth 100000 in
theorem MC {W : World} (h : laidMetH Tryz.prog Rows.deciParsesRow.laid W) : Tabs W := by
 rw [MakeChecks.laidMetH_plain _ _ _ (by kernel_rfl)] at h
 have h1 := Go.laidMet.tail h
 have h2 := Go.laidMet.tail h1
 have t1 : Lib.TabIs Tryz.prog W "math/bits.deBruijn64tab" .u8 (Lib.deBruijn64tab.map fun (z : Nat) => (z : Int)) :=
  Lib.tabIs_of_head (g := 3) (t := 261) (e := 5) (n := 64) (by kernel_rfl) (by kernel_rfl) (by kernel_rfl) (by kernel_rfl) (by kernel_rfl) (by kernel_rfl) h1
 have t2 : Lib.TabIs Tryz.prog W "internal/strconv.uint64pow10" .u64 Lib.pow10Tab :=
  Lib.tabIs_of_head (g := 6) (t := 282) (e := 22) (n := 20) (by kernel_rfl) (by kernel_rfl) (by kernel_rfl) (by kernel_rfl) (by kernel_rfl) (by kernel_rfl) h2
 refine ⟨?_, ?_, ?_, ?_, t2⟩
 ·have hc : ∀ j, j < 64 → W.cell? ⟨3, j, none⟩ = some (.int .u8 ((Lib.deBruijn64tab.map fun (z : Nat) => (z : Int)).getD j 0)) := fun j hj => t1.cell (by kernel_rfl) j hj
  refine ⟨block_lt_of_cell (hc 0 (by decide)), fun j hj => ?_⟩
  rw [hc j hj]
  simp only [List.getD_eq_getElem?_getD, List.getElem?_map]
  cases Lib.deBruijn64tab[j]? <;> rfl
 ·exact zH (Lib.laidMet.reads h (by simp [Rows.deciParsesRow]))
 ·exact utf8Tabs_of_reads (ρ := Tryz.lays159_ren) { Tryz.lays159 with } ⟨by kernel_rfl, by kernel_rfl, by kernel_rfl, by kernel_rfl, by kernel_rfl, by kernel_rfl, by kernel_rfl⟩
   (Lib.laidMet.reads h (by rw [← utf8First_eq]; simp [Rows.deciParsesRow, Rows.laid_unicode_utf8_first])) (Lib.laidMet.reads h (by
    have e : Lib.acceptData = Rows.laid_unicode_utf8_acceptRanges := by kernel_rfl
    rw [e]
    simp [Rows.deciParsesRow]))
 ·exact caseVar_of_reads (ρ := Tryz.lays159_ren) { Tryz.lays159 with } Tryz.lays159.t206 ⟨by kernel_rfl, by kernel_rfl, by kernel_rfl, by kernel_rfl, by kernel_rfl, by kernel_rfl⟩
   (Lib.laidMet.reads h (by rw [← caseRanges_eq]; simp [Rows.deciParsesRow, Rows.laid_unicode_CaseRanges]))
theorem O1 {W : World} (h : laidMetH Tryz.prog Rows.deciParsesRow.laid W) : GOk W :=
 have t := MC h
 ⟨fun w' hb => ⟨t.tz.below hb, t.rows.below hb, Utf8Tabs_below t.u8 hb, CaseVar_below t.cs hb, Lib.tabBelow_of_tabIs t.p10 w' hb⟩⟩
end Go.Proofs.YtafikkmnkeddpaaGreatDoor
namespace Go.Proofs.YtafikkmnkeddpaaGreatDoor
open Go.ChangeMaps Go.ChangeShapes Go.WideShapes Go.ChangeAt Go.RowKit Go.Joins
theorem own : ownKnob Tryz.prog.godebug = none := by kernel_rfl
variable {H : Type} {enc : TypeId × Value → H}
theorem wf_u64 {a : Int} (h : (Lit.int .u64 a).wf = true) : 0 ≤ a ∧ a ≤ 18446744073709551615 := by
 simp only [Lit.wf, IntKind.min, IntKind.max, IntKind.signed, IntKind.bits, Bool.and_eq_true, decide_eq_true_eq] at h
 simp at h
 omega
theorem Sm {α : Type} {cs : Array α} (h : cs.size = 4) : ∃ c0 c1 c2 c3, cs = #[c0, c1, c2, c3] := by
 obtain ⟨l⟩ := cs
 match l, h with
 | [c0, c1, c2, c3], _ => exact ⟨c0, c1, c2, c3, rfl⟩
theorem Sr {α : Type} {l : List α} (h : l.length = 4) : ∃ c0 c1 c2 c3, l = [c0, c1, c2, c3] := by
 match l, h with
 | [c0, c1, c2, c3], _ => exact ⟨c0, c1, c2, c3, rfl⟩
set_option maxRecDepth 100000 in
theorem QE {w : World} {base : Nat} {spare : Nat → Bool} {held : Bool} {r : Reach} {b0 : Nat} {v : Value} {D : DataW H} {p : List MemPlace}
  (hv : Value.okWide Tryz.prog w r b0 53 v) (h : DataW.Trod enc Tryz.prog w base spare held 53 v D p) :
  ∃ a0 a1 a2 a3 : Int, v = .agg #[.int .i64 a0, .int .i64 a1, .int .u64 a2, .int .i64 a3] ∧ D = .agg [.lit (.int .i64 a0), .lit (.int .i64 a1), .lit (.int .u64 a2), .lit (.int .i64 a3)] ∧ p = [] ∧ (Lit.int .i64 a0).wf = true ∧ (Lit.int .i64 a1).wf = true ∧ (Lit.int .u64 a2).wf = true ∧ (Lit.int .i64 a3).wf = true := by
 obtain ⟨cs, rfl, hsz⟩ := okWide_struct Tryz.underlying53 hv
 obtain ⟨c0, c1, c2, c3, rfl⟩ := Sm (hsz.trans (show Tryz.prog.cellsOf 53 = 4 by kernel_rfl))
 obtain ⟨fuel, hf⟩ := h
 obtain ⟨xs, n, _, hx, _, hlen, hg⟩ := DataW.trod_struct Tryz.underlying53 hf
 obtain ⟨y0, y1, y2, y3, rfl⟩ := Sr (show xs.length = 4 from hlen)
 have s0 : Tryz.prog.cellsOf 3 = 1 := by kernel_rfl
 have s1 : Tryz.prog.cellsOf 22 = 1 := by kernel_rfl
 have g0 : DataW.trod enc Tryz.prog w base spare held n 3 [c0] = some y0 := by simpa [Value.cells, s0] using hg 0 _ rfl
 have g1 : DataW.trod enc Tryz.prog w base spare held n 3 [c1] = some y1 := by simpa [Value.cells, s0] using hg 1 _ rfl
 have g2 : DataW.trod enc Tryz.prog w base spare held n 22 [c2] = some y2 := by simpa [Value.cells, s1] using hg 2 _ rfl
 have g3 : DataW.trod enc Tryz.prog w base spare held n 3 [c3] = some y3 := by simpa [Value.cells, s0] using hg 3 _ rfl
 obtain ⟨a0, e0, z0, w0⟩ := DataW.trod_int Tryz.underlying3 g0
 obtain ⟨a1, e1, z1, w1⟩ := DataW.trod_int Tryz.underlying3 g1
 obtain ⟨a2, e2, z2, w2⟩ := DataW.trod_int Tryz.underlying22 g2
 obtain ⟨a3, e3, z3, w3⟩ := DataW.trod_int Tryz.underlying3 g3
 simp only [List.cons.injEq, and_true] at e0 e1 e2 e3
 subst e0 z0 e1 z1 e2 z2 e3 z3
 simp only [Prod.mk.injEq] at hx
 obtain ⟨rfl, rfl⟩ := hx
 exact ⟨a0, a1, a2, a3, rfl, rfl, rfl, w0, w1, w2, w3⟩
set_option maxRecDepth 100000 in
theorem shut0 {w : World} {base : Nat} {spare : Nat → Bool} {held : Bool} {a0 a1 a2 a3 : Int} (h0 : (Lit.int .i64 a0).wf = true) (h1 : (Lit.int .i64 a1).wf = true) (h2 : (Lit.int .u64 a2).wf = true) (h3 : (Lit.int .i64 a3).wf = true) :
  DataW.Trod enc Tryz.prog w base spare held 53 (.agg #[.int .i64 a0, .int .i64 a1, .int .u64 a2, .int .i64 a3]) (.agg [.lit (.int .i64 a0), .lit (.int .i64 a1), .lit (.int .u64 a2), .lit (.int .i64 a3)]) [] := by
 have s0 : Tryz.prog.cellsOf 3 = 1 := by kernel_rfl
 have s1 : Tryz.prog.cellsOf 22 = 1 := by kernel_rfl
 have t0 := trod_int_mk (enc := enc) (w := w) (base := base) (spare := spare) (held := held) 0 Tryz.underlying3 h0
 have t1 := trod_int_mk (enc := enc) (w := w) (base := base) (spare := spare) (held := held) 0 Tryz.underlying3 h1
 have t2 := trod_int_mk (enc := enc) (w := w) (base := base) (spare := spare) (held := held) 0 Tryz.underlying22 h2
 have t3 := trod_int_mk (enc := enc) (w := w) (base := base) (spare := spare) (held := held) 0 Tryz.underlying3 h3
 refine ⟨2, ?_⟩
 have := trod_struct_mk (enc := enc) (w := w) (base := base) (spare := spare) (held := held) (n := 1) (cs := [.int .i64 a0, .int .i64 a1, .int .u64 a2, .int .i64 a3])
  (xs := [(.lit (.int .i64 a0), []), (.lit (.int .i64 a1), []), (.lit (.int .u64 a2), []), (.lit (.int .i64 a3), [])])
  Tryz.underlying53 (by kernel_rfl) (by simp [s0, s1, t0, t1, t2, t3])
 simpa [Value.cells] using this
set_option maxRecDepth 100000 in
theorem lifted (os : Os) (started : os.Started) (H : Type) (enc : TypeId × Value → H) :
  ReturnsInHanded {} Tryz.checked os 8 .any (fun w args => (Rows.deciDigitsSpec.pre enc Tryz.prog Tryz.f8 [] false w args ∧ laidMetH Tryz.prog Rows.deciDigitsRow.laid w) ∧ sizedMet enc Tryz.prog Tryz.f8 (OpenSpec.ofChange Rows.deciDigitsSpec) false w args)
   (Rows.deciDigitsSpec.post enc Tryz.prog Tryz.f8 false true false false) := by
 refine returnsInHanded_of_change_and (C := Tryz.checked) (X := fun w _ => laidMetH Tryz.prog Rows.deciDigitsRow.laid w) (fun _ _ _ hh h => h.of_heap hh) own started (by kernel_rfl) Tryz.func8
  (ChangeSpec.witness_shaped (enc := enc) (C := Tryz.checked) (os := os) (X := fun w _ => laidMetH Tryz.prog Rows.deciDigitsRow.laid w) false (World.laidAll Tryz.prog os Rows.deciDigitsRow.laid) #[.agg #[.int .i64 0, .int .i64 0, .int .u64 0, .int .i64 0]] 8 (World.laidAll_os _ _ _)
   (World.shaped_of_ZipB (by kernel_rfl) (by kernel_rfl)) (by kernel_rfl) (by kernel_rfl) (by kernel_rfl)
   (by rw [MakeChecks.laidMetH_plain _ _ _ (by kernel_rfl)]; exact laidMet_laidAll _ (by kernel_rfl) (by kernel_rfl))) ?_
 intro W base args ds gs before hval0 hW _ _ hL _
 have hval : ∀ (j : Nat) t v, Tryz.f8.params[j]? = some t → args[j]? = some v → Value.okWide Tryz.prog W .any base t v := hval0
 have hW' := hW
 obtain ⟨p, q, hA0, hV, rfl, hfz, hnd⟩ := hW
 have hA : DataW.TrodAll enc Tryz.prog W 0 (fun _ => true) true Tryz.f8.params.toList args.toList ds p := hA0
 rw [Tryz.params8] at hA hval
 obtain ⟨v0, d0, rfl, rfl, h0⟩ := trodAll_one hA
 obtain ⟨rfl, rfl⟩ := trodVars_none hV
 obtain ⟨a0, a1, a2, a3, rfl, rfl, rfl, b0, b1, b2, b3⟩ := QE (hval 0 53 v0 rfl rfl) h0
 have hG := O1 hL
 clear hA0 hval0
 simp only [List.append_nil] at hW'
 obtain ⟨k, hk⟩ := P.wU a0 a1 a2 a3 (wf_u64 b2).1 (by have := (wf_u64 b2).2; omega)
 refine (E.QH (x := .bool true) (l := [.agg [.v (.int .i64 a0), .v (.int .i64 a1), .v (.int .u64 a2), .v (.int .i64 a3)]]) (P.dO.ok k) hG (.cons _ _ _ _ (.agg _ _ (.cons _ _ _ _ (.v _) (.cons _ _ _ _ (.v _) (.cons _ _ _ _ (.v _) (.cons _ _ _ _ (.v _) .nil))))) .nil) (by show (P.dO.f k a0 a1 a2 a3).bind _ = _; rw [hk]; rfl)).mono fun e W' ⟨he, hb⟩ => ?_
 subst he
 exact ⟨_, rfl, _, _, _, [], [], [], hW', trodAll_cons_mk (shut_bool Tryz.underlying4 _) trodAll_mk0, trodAll_cons_mk (shut0 b0 b1 b2 b3) trodAll_mk0, rfl, hb.frame _, fun h => by cases h⟩
theorem Bj {P : Program} {f : FuncId} {fn : Func} {s : ChangeSpec} {c : OpenClaim}
  (h1 : (c.wf (OpenSpec.ofChange s) && laidOutB P && mapsRowed P && fn.params.all (P.readableRec ·) && namedTie P c.named s.vars) = true)
  (h2 : ((c.stops == []) && (P.stops == []) && (c.knobs == []) && (P.stopKnobs == [])) = true)
  (h3 : (c.inPlace == P.inPlace f) = true) (h4 : (c.unfollowed == P.unfollowed f) = true) (h5 : (c.recurses == P.recurses f) = true) (h6 : (c.named == P.varsNamed f) = true)
  (h7 : ((c.maps == (fn.params.toList ++ s.plain.varTypes P).any (P.mapsRec ·)) && (c.ifaces == (fn.params.toList ++ s.plain.varTypes P).any (P.ifacesRec ·)) && (c.mapsOut == P.mapsAmong fn.resultTypes.toList) &&
   (c.loops == (fn.params.toList ++ s.plain.varTypes P).any (P.loopsFrom ·)) && (c.wideKeys == (fn.params.toList ++ s.plain.varTypes P ++ fn.resultTypes.toList).any (P.wideKeysFrom ·)) &&
   s.vars.all (P.varReadable ·) && fn.resultTypes.all (fun t => P.readableRec t && decide (t < P.types.size)) && (c.ifacesOut == fn.resultTypes.toList.any (P.ifacesRec ·)) && (c.loopsOut == fn.resultTypes.toList.any (P.loopsFrom ·)) && (c.plainKeys == P.plainKeys) && c.shortTexts.isNone) = true)
  (h8 : (P.stopsHeard && P.mayEnter) = true) (h9 : ((c.lifted == P.liftsFinal) && (P.make == some c.make)) = true)
  (h10 : ((c.kinds == (if c.domain.isEmpty then [] else fn.params.toList.map fun t => match P.underlying t with | some (.int k) => some k | _ => none)) && (c.pinned == c.pinnedBy)) = true)
  (h11 : ((c.veiled == (fn.params.toList ++ s.plain.varTypes P ++ fn.resultTypes.toList).any (P.veiledRec ·)) && c.veiledFits P fn.params.toList (fn.params.toList ++ s.plain.varTypes P ++ fn.resultTypes.toList)) = true) : joinedFacts P f fn s c = true := by
 simp only [joinedFacts, Bool.and_eq_true] at *
 obtain ⟨⟨⟨⟨a1, a2⟩, a3⟩, a4⟩, a5⟩ := h1
 obtain ⟨⟨⟨b1, b2⟩, b3⟩, b4⟩ := h2
 obtain ⟨⟨⟨⟨⟨⟨⟨⟨⟨⟨c1, c2⟩, c3⟩, c4⟩, c5⟩, c6⟩, c7⟩, c8⟩, c9⟩, c10⟩, c11⟩ := h7
 obtain ⟨d1, d2⟩ := h8
 obtain ⟨e1, e2⟩ := h9
 obtain ⟨f1, f2⟩ := h10
 obtain ⟨g1, g2⟩ := h11
 and_intros <;> assumption
noncomputable abbrev pg : Program := Tryz.pinned.checked.prog
noncomputable abbrev fn0 : Func := Tryz.f8
noncomputable abbrev cl : OpenClaim := Rows.deciDigitsRow
noncomputable abbrev sp : ChangeSpec := Rows.deciDigitsSpec
theorem jo1 : (cl.wf (OpenSpec.ofChange sp) && laidOutB pg && mapsRowed pg && fn0.params.all (pg.readableRec ·) && namedTie pg cl.named sp.vars) = true := by kernel_rfl
theorem jo3 : (cl.inPlace == pg.inPlace 8) = true := by kernel_rfl
theorem jo4 : (cl.unfollowed == pg.unfollowed 8) = true := by kernel_rfl
theorem jo5 : (cl.recurses == pg.recurses 8) = true := by kernel_rfl
theorem jo6 : (cl.named == pg.varsNamed 8) = true := by kernel_rfl
theorem jo8 : (pg.stopsHeard && pg.mayEnter) = true := by kernel_rfl
theorem jo9 : ((cl.lifted == pg.liftsFinal) && (pg.make == some cl.make)) = true := by kernel_rfl
theorem joined : joinedFacts pg 8 fn0 sp cl = true :=
 Bj jo1 (by kernel_rfl) jo3 jo4 jo5 jo6 (by kernel_rfl) jo8 jo9 (by kernel_rfl) (by kernel_rfl)
theorem holds : Rows.DeciDigitsSaid :=
 OpenClaim.holds_of_wide 8 Tryz.f8 rfl rfl rfl rfl rfl rfl rfl ⟨rfl, rfl, rfl, rfl, rfl⟩ rfl rfl rfl rfl rfl (by kernel_rfl) Tryz.func8 joined
  (of_decide_eq_true (by kernel_rfl)) (by unfold Func.isWrapper; first | (rw [if_pos (by decide +kernel)]; kernel_rfl) | (rw [if_neg (by decide +kernel)]; exact ⟨rfl, rfl⟩))
  (fun os started H enc _ => lifted os started H enc)
theorem mainIs : pg.mainIs = some (true, "a428c48d2c159c322eb171410f219799c82a6e30d22fa21a80504f9541438305".toList) := by kernel_rfl
theorem looks : pg.looks [] = false := by kernel_rfl
theorem goes : cl.goesBy pg = false := by kernel_rfl
theorem wft : cl.wfByText (OpenSpec.ofChange sp) = true := by kernel_rfl
theorem proved : Rows.DeciDigitsCardSaid :=
 Claim7.holds_tied_plain_at .later [] [.data, .data, .data, .data, .data, .pinned, .pinned] true (true, "a428c48d2c159c322eb171410f219799c82a6e30d22fa21a80504f9541438305") false
  holds (fun _ h => by cases h) wft (fun _ h => by cases h) deciDigits_row_tie rfl ⟨rfl, rfl⟩ mainIs rfl
  (fun f fn hf hfn => by
   obtain rfl : f = 8 := Option.some.inj ((show Tryz.prog.funcNamed "vernier/vernierlaw16.DeciDigits" = some 8 by kernel_rfl).symm.trans hf) |>.symm
   obtain rfl : fn = Tryz.f8 := (Option.some.inj (Tryz.func8.symm.trans hfn)).symm
   exact ⟨looks.symm, fun j t ht => by
    rw [Tryz.params8] at ht
    have hm : t ∈ [53] := by simpa using Array.mem_of_getElem? ht
    have hall : ([53].all fun u => !Tryz.prog.wantsStandIn u) = true := by kernel_rfl
    exact (show Tryz.prog.wantsStandIn t = false by simpa using List.all_eq_true.1 hall t hm)⟩)
  goes.symm
#print axioms proved
end Go.Proofs.YtafikkmnkeddpaaGreatDoor
